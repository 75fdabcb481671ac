import Derived.Test.YtmlkpadlafjfeaaPx0
import Derived.Test.YtmlkpadlafjfeaaPx90
namespace Go.Proofs.Ytmlkpadlafjfeaa.P
open Go.RowKit Go.Proofs.YtmlkpadlafjfeaaW.PrintWords Go.Proofs.YtmlkpadlafjfeaaW.PrintLast Go.Proofs.YtmlkpadlafjfeaaW.PrintMore
attribute [local go_sem] zU zW jf je zJ zK zS zV
set_option linter.unusedVariables false
set_option linter.unusedSimpArgs false
mutual
def qx.j0 : Nat → Int → Int → Int → List (S35) → Int → Int → Int → Int → Option ((List (S35)))
 | 0, _, _, _, _, _, _, _, _ => none
 | k + 1, x6, x325000, x325001, x326000, x326001, x326002, x331000, x331001 => qx.l0 k x6 1 x325000 x325001 x326000 x326001 x326002 x331000 x331001
def qx.j2 : Nat → Int → Int → Int → List (S35) → Int → Int → Int → Int → Option ((List (S35)))
 | 0, _, _, _, _, _, _, _, _ => none
 | k + 1, x7, x325000, x325001, x326000, x326001, x326002, x331000, x331001 => qx.l1 k x7 (([] : List (S35))) 1 x325000 x325001 x326000 x326001 x326002 x331000 x331001
def qx.l1 : Nat → Int → List (S35) → Int → Int → Int → List (S35) → Int → Int → Int → Int → Option ((List (S35)))
 | 0, _, _, _, _, _, _, _, _, _, _ => none
 | k + 1, x7, x8, x9, x325000, x325001, x326000, x326001, x326002, x331000, x331001 => if x9 ≤ x7 then (if (x326000.length : Int) = 1 then ((za.f k (wrap64 ((wrap64 ((wrap64 ((wrap64 (x325000 * (wrap64 (x7 - x9)))) * (wrap64 (x7 - x9)))) + (wrap64 ((wrap64 ((wrap64 (2 * x331000)) * x9)) * (wrap64 (x7 - x9)))))) + (wrap64 ((wrap64 (x326001 * x9)) * x9)))) (wrap64 (x7 * x7))).bind fun t339 => ((za.f k (wrap64 ((wrap64 ((wrap64 ((wrap64 (x325001 * (wrap64 (x7 - x9)))) * (wrap64 (x7 - x9)))) + (wrap64 ((wrap64 ((wrap64 (2 * x331001)) * x9)) * (wrap64 (x7 - x9)))))) + (wrap64 ((wrap64 (x326002 * x9)) * x9)))) (wrap64 (x7 * x7))).bind fun t340 => (if x8.length < 8796093022208 then (qx.l1 k x7 (x8 ++ [(⟨t339, t340⟩ : S35)]) (wrap64 (x9 + 1)) x325000 x325001 x326000 x326001 x326002 x331000 x331001) else (none)))) else (if 1 < (x326000.length : Int) then ((za.f k (wrap64 ((wrap64 ((wrap64 ((wrap64 ((wrap64 ((wrap64 (x325000 * (wrap64 (x7 - x9)))) * (wrap64 (x7 - x9)))) * (wrap64 (x7 - x9)))) + (wrap64 ((wrap64 ((wrap64 ((wrap64 (3 * x331000)) * x9)) * (wrap64 (x7 - x9)))) * (wrap64 (x7 - x9)))))) + (wrap64 ((wrap64 ((wrap64 ((wrap64 (3 * ((qG x326000 1).f0))) * x9)) * x9)) * (wrap64 (x7 - x9)))))) + (wrap64 ((wrap64 ((wrap64 (x326001 * x9)) * x9)) * x9)))) (wrap64 ((wrap64 (x7 * x7)) * x7))).bind fun t346 => ((za.f k (wrap64 ((wrap64 ((wrap64 ((wrap64 ((wrap64 ((wrap64 (x325001 * (wrap64 (x7 - x9)))) * (wrap64 (x7 - x9)))) * (wrap64 (x7 - x9)))) + (wrap64 ((wrap64 ((wrap64 ((wrap64 (3 * x331001)) * x9)) * (wrap64 (x7 - x9)))) * (wrap64 (x7 - x9)))))) + (wrap64 ((wrap64 ((wrap64 ((wrap64 (3 * ((qG x326000 1).f1))) * x9)) * x9)) * (wrap64 (x7 - x9)))))) + (wrap64 ((wrap64 ((wrap64 (x326002 * x9)) * x9)) * x9)))) (wrap64 ((wrap64 (x7 * x7)) * x7))).bind fun t347 => (if x8.length < 8796093022208 then (qx.l1 k x7 (x8 ++ [(⟨t346, t347⟩ : S35)]) (wrap64 (x9 + 1)) x325000 x325001 x326000 x326001 x326002 x331000 x331001) else (none)))) else (none))) else (some x8)
def qx.l0 : Nat → Int → Int → Int → Int → List (S35) → Int → Int → Int → Int → Option ((List (S35)))
 | 0, _, _, _, _, _, _, _, _, _ => none
 | k + 1, x6, x7, x325000, x325001, x326000, x326001, x326002, x331000, x331001 => if x7 < 16 then (if x6 > (wrap64 ((wrap64 (4 * x7)) * x7)) then (qx.l0 k x6 (wrap64 (x7 + x7)) x325000 x325001 x326000 x326001 x326002 x331000 x331001) else (qx.j2 k x7 x325000 x325001 x326000 x326001 x326002 x331000 x331001)) else (qx.j2 k x7 x325000 x325001 x326000 x326001 x326002 x331000 x331001)
end
def qx.f (k : Nat) (a0_0 : Int) (a0_1 : Int) (l1_0 : List (S35)) (a1_1 : Int) (a1_2 : Int) : Option ((List (S35))) := if (l1_0.length : Int) = 0 then (some (([(⟨a1_1, a1_2⟩ : S35)] : List (S35)))) else (if 0 < (l1_0.length : Int) then ((jd.f a0_0 a0_1 ((qG l1_0 0).f0) ((qG l1_0 0).f1) a1_1 a1_2).bind fun t331 => (if (l1_0.length : Int) = 2 then (if 1 < (l1_0.length : Int) then ((jd.f a0_0 a0_1 ((qG l1_0 0).f0) ((qG l1_0 0).f1) ((qG l1_0 1).f0) ((qG l1_0 1).f1)).bind fun t333 => ((jd.f ((qG l1_0 0).f0) ((qG l1_0 0).f1) ((qG l1_0 1).f0) ((qG l1_0 1).f1) a1_1 a1_2).bind fun t335 => (qx.j0 k (wrap64 (t333 + t335)) a0_0 a0_1 l1_0 a1_1 a1_2 ((qG l1_0 0).f0) ((qG l1_0 0).f1)))) else (none)) else (qx.j0 k t331 a0_0 a0_1 l1_0 a1_1 a1_2 ((qG l1_0 0).f0) ((qG l1_0 0).f1)))) else (none))
theorem qx.zT : ∀ k, (∀ y0 y1 y2 y3 y4 y5 y6 y7, LeO (qx.j0 k y0 y1 y2 y3 y4 y5 y6 y7) (qx.j0 (k + 1) y0 y1 y2 y3 y4 y5 y6 y7)) ∧ (∀ y0 y1 y2 y3 y4 y5 y6 y7, LeO (qx.j2 k y0 y1 y2 y3 y4 y5 y6 y7) (qx.j2 (k + 1) y0 y1 y2 y3 y4 y5 y6 y7)) ∧ (∀ y0 y1 y2 y3 y4 y5 y6 y7 y8 y9, LeO (qx.l1 k y0 y1 y2 y3 y4 y5 y6 y7 y8 y9) (qx.l1 (k + 1) y0 y1 y2 y3 y4 y5 y6 y7 y8 y9)) ∧ (∀ y0 y1 y2 y3 y4 y5 y6 y7 y8, LeO (qx.l0 k y0 y1 y2 y3 y4 y5 y6 y7 y8) (qx.l0 (k + 1) y0 y1 y2 y3 y4 y5 y6 y7 y8))
 | 0 => ⟨fun _ _ _ _ _ _ _ _ r h => by simp [qx.j0] at h, fun _ _ _ _ _ _ _ _ r h => by simp [qx.j2] at h, fun _ _ _ _ _ _ _ _ _ _ r h => by simp [qx.l1] at h, fun _ _ _ _ _ _ _ _ _ r h => by simp [qx.l0] at h⟩
 | k + 1 => by
  obtain ⟨ih0, ih1, ih2, ih3⟩ := qx.zT k
  refine ⟨?_, ?_, ?_, ?_⟩
  ·intro y0 y1 y2 y3 y4 y5 y6 y7
   unfold qx.j0
   repeat' first
   | (with_reducible exact ih0 _ _ _ _ _ _ _ _)
   | (with_reducible exact ih1 _ _ _ _ _ _ _ _)
   | (with_reducible exact ih2 _ _ _ _ _ _ _ _ _ _)
   | (with_reducible exact ih3 _ _ _ _ _ _ _ _ _)
   | (with_reducible exact za.mono _ _ _)
   | (with_reducible exact LeO.refl _)
   | (with_reducible exact LeO.none _)
   | (with_reducible refine LeO.ite ?_ ?_)
   | (with_reducible refine LeO.bind ?_ (fun _ => ?_))
   | exact ih0 _ _ _ _ _ _ _ _
   | exact ih1 _ _ _ _ _ _ _ _
   | exact ih2 _ _ _ _ _ _ _ _ _ _
   | exact ih3 _ _ _ _ _ _ _ _ _
   | exact za.mono _ _ _
   | exact LeO.none _
   | refine LeO.ite ?_ ?_
   | refine LeO.bind ?_ (fun _ => ?_)
  ·intro y0 y1 y2 y3 y4 y5 y6 y7
   unfold qx.j2
   repeat' first
   | (with_reducible exact ih0 _ _ _ _ _ _ _ _)
   | (with_reducible exact ih1 _ _ _ _ _ _ _ _)
   | (with_reducible exact ih2 _ _ _ _ _ _ _ _ _ _)
   | (with_reducible exact ih3 _ _ _ _ _ _ _ _ _)
   | (with_reducible exact za.mono _ _ _)
   | (with_reducible exact LeO.refl _)
   | (with_reducible exact LeO.none _)
   | (with_reducible refine LeO.ite ?_ ?_)
   | (with_reducible refine LeO.bind ?_ (fun _ => ?_))
   | exact ih0 _ _ _ _ _ _ _ _
   | exact ih1 _ _ _ _ _ _ _ _
   | exact ih2 _ _ _ _ _ _ _ _ _ _
   | exact ih3 _ _ _ _ _ _ _ _ _
   | exact za.mono _ _ _
   | exact LeO.none _
   | refine LeO.ite ?_ ?_
   | refine LeO.bind ?_ (fun _ => ?_)
  ·intro y0 y1 y2 y3 y4 y5 y6 y7 y8 y9
   unfold qx.l1
   repeat' first
   | (with_reducible exact ih0 _ _ _ _ _ _ _ _)
   | (with_reducible exact ih1 _ _ _ _ _ _ _ _)
   | (with_reducible exact ih2 _ _ _ _ _ _ _ _ _ _)
   | (with_reducible exact ih3 _ _ _ _ _ _ _ _ _)
   | (with_reducible exact za.mono _ _ _)
   | (with_reducible exact LeO.refl _)
   | (with_reducible exact LeO.none _)
   | (with_reducible refine LeO.ite ?_ ?_)
   | (with_reducible refine LeO.bind ?_ (fun _ => ?_))
   | exact ih0 _ _ _ _ _ _ _ _
   | exact ih1 _ _ _ _ _ _ _ _
   | exact ih2 _ _ _ _ _ _ _ _ _ _
   | exact ih3 _ _ _ _ _ _ _ _ _
   | exact za.mono _ _ _
   | exact LeO.none _
   | refine LeO.ite ?_ ?_
   | refine LeO.bind ?_ (fun _ => ?_)
  ·intro y0 y1 y2 y3 y4 y5 y6 y7 y8
   unfold qx.l0
   repeat' first
   | (with_reducible exact ih0 _ _ _ _ _ _ _ _)
   | (with_reducible exact ih1 _ _ _ _ _ _ _ _)
   | (with_reducible exact ih2 _ _ _ _ _ _ _ _ _ _)
   | (with_reducible exact ih3 _ _ _ _ _ _ _ _ _)
   | (with_reducible exact za.mono _ _ _)
   | (with_reducible exact LeO.refl _)
   | (with_reducible exact LeO.none _)
   | (with_reducible refine LeO.ite ?_ ?_)
   | (with_reducible refine LeO.bind ?_ (fun _ => ?_))
   | exact ih0 _ _ _ _ _ _ _ _
   | exact ih1 _ _ _ _ _ _ _ _
   | exact ih2 _ _ _ _ _ _ _ _ _ _
   | exact ih3 _ _ _ _ _ _ _ _ _
   | exact za.mono _ _ _
   | exact LeO.none _
   | refine LeO.ite ?_ ?_
   | refine LeO.bind ?_ (fun _ => ?_)
theorem qx.mono : ∀ a0 a1 a2 a3 a4 k, LeO (qx.f k a0 a1 a2 a3 a4) (qx.f (k + 1) a0 a1 a2 a3 a4) := by
 intro a0 a1 a2 a3 a4 k
 obtain ⟨ih0, ih1, ih2, ih3⟩ := qx.zT k
 unfold qx.f
 repeat' first
   | (with_reducible exact ih0 _ _ _ _ _ _ _ _)
   | (with_reducible exact ih1 _ _ _ _ _ _ _ _)
   | (with_reducible exact ih2 _ _ _ _ _ _ _ _ _ _)
   | (with_reducible exact ih3 _ _ _ _ _ _ _ _ _)
   | (with_reducible exact za.mono _ _ _)
   | (with_reducible exact LeO.refl _)
   | (with_reducible exact LeO.none _)
   | (with_reducible refine LeO.ite ?_ ?_)
   | (with_reducible refine LeO.bind ?_ (fun _ => ?_))
   | exact ih0 _ _ _ _ _ _ _ _
   | exact ih1 _ _ _ _ _ _ _ _
   | exact ih2 _ _ _ _ _ _ _ _ _ _
   | exact ih3 _ _ _ _ _ _ _ _ _
   | exact za.mono _ _ _
   | exact LeO.none _
   | refine LeO.ite ?_ ?_
   | refine LeO.bind ?_ (fun _ => ?_)
def qx.T6 : Bool × List (List Nat × List Nat) := (true, [([], []), ([], []), ([], []), ([2], [2]), ([3], [3]), ([4], [4]), ([0, 1, 5], [0, 1, 5]), ([], []), ([], []), ([8], [8]), ([9], [9]), ([10], [10]), ([], []), ([12], [12]), ([7, 11, 13, 6], [7, 11, 13]), ([6, 14], [6, 14]), ([15, 14, 0, 1, 2, 3, 4, 5, 6, 7, 8, 9, 10, 11, 12, 13, 14, 15], [15])])
def qx.B6 : List Nat := [0, 0, 0, 4, 12, 28, 63, 0, 0, 256, 768, 1792, 0, 4096, 16383, 32767, 65535]
theorem qx.tab6 : rtab .any (opsOf Try.f27 6) = qx.T6 := by kernel_rfl
theorem qx.bits6 : Qn qx.T6.2 qx.B6 = true := by kernel_rfl
set_option maxHeartbeats 8000000 in
set_option maxRecDepth 100000 in
theorem qx.calls (k : Nat) (a0_0 : Int) (a0_1 : Int) (A1_0 : Option Addr) (c1_0 : Nat) (l1_0 : List (S35)) (a1_1 : Int) (a1_2 : Int) (r : List (S35)) (w : World) (hr1_0 : Kd.C k35 w A1_0 l1_0.length l1_0) (hc1_0 : l1_0.length ≤ c1_0) (h : qx.f k a0_0 a0_1 l1_0 a1_1 a1_2 = some r) :
  Calls Try.prog 27 #[.agg #[.int .i64 a0_0, .int .i64 a0_1], .agg #[.slice A1_0 l1_0.length c1_0, .int .i64 a1_1, .int .i64 a1_2]] w fun e w' => ∃ v0_ : Value, e = .returned (v0_) ∧ Kd.R k35 35 w' w.heap.size (fun _ => True) v0_ r ∧ Below w.heap.size w w' := by
 have hu35 := Try.underlying35
 have hu64 := Try.underlying64
 have HR1_0 := qa.mk hr1_0
 have HC1_0 := qa.mk hc1_0
 clear hr1_0 hc1_0
 have HB := qa.mk (Below.refl w.heap.size w)
 have H : (if (l1_0.length : Int) = 0 then (some (([(⟨a1_1, a1_2⟩ : S35)] : List (S35)))) else (if 0 < (l1_0.length : Int) then ((jd.f a0_0 a0_1 ((qG l1_0 0).f0) ((qG l1_0 0).f1) a1_1 a1_2).bind fun t331 => (if (l1_0.length : Int) = 2 then (if 1 < (l1_0.length : Int) then ((jd.f a0_0 a0_1 ((qG l1_0 0).f0) ((qG l1_0 0).f1) ((qG l1_0 1).f0) ((qG l1_0 1).f1)).bind fun t333 => ((jd.f ((qG l1_0 0).f0) ((qG l1_0 0).f1) ((qG l1_0 1).f0) ((qG l1_0 1).f1) a1_1 a1_2).bind fun t335 => (qx.j0 k (wrap64 (t333 + t335)) a0_0 a0_1 l1_0 a1_1 a1_2 ((qG l1_0 0).f0) ((qG l1_0 0).f1)))) else (none)) else (qx.j0 k t331 a0_0 a0_1 l1_0 a1_1 a1_2 ((qG l1_0 0).f0) ((qG l1_0 0).f1)))) else (none))) = some r := h
 clear h
 by_cases c3 : (l1_0.length : Int) = 0
 ·rw [if_pos c3] at H
  have c3b0 : ((l1_0.length : Int) == 0) = true := beq_iff_eq.mpr c3
  have c3b1 : ((l1_0.length : Int) != 0) = false := bne_eq_false_iff_eq.mpr c3
  clear c3
  obtain ⟨y326, hy326⟩ : ∃ y_ : List (S35), y_ = (([(⟨a1_1, a1_2⟩ : S35)] : List (S35))) := ⟨_, rfl⟩
  replace H : (some y326) = some r := by first | (rw [hy326]; with_reducible exact H) | (have H2_ := (Option.bind_some _ _).symm.trans H; rw [hy326]; with_reducible exact H2_) | (have H2_ := (Option.bind_some _ _).symm.trans H; with_reducible exact H2_) | with_reducible exact H | (rw [hy326]; exact H) | exact H
  have Ny326 := qa.mk hy326
  clear hy326
  obtain rfl := Option.some.inj H
  go_enter Try.func27, Try.ntmps27
  go_wp2_with (first | ((with_reducible refine zf (N := 2) rfl ?_); refine zm ?hg (N := 2) ?hd (cs := #[.int .i64 a0_0, .int .i64 a0_1]) (t := 35) ?hr ?_; (case hd => rfl); (case hg => rfl); (case hr => first | (go_simp; done) | (go_simp; rfl)); intro gb324 hg w4 hbox hb; have n0_ := qa.mk (qE (bq HB) hb); have n1_ := qa.mk (hbox); have n2_ := qa.mk ((by rw [hg]; exact (qy (bq HB)) : w.heap.size ≤ gb324)); have n3_ := qa.mk ((by rw [hg]; exact (qy (bq HB)) : w.heap.size ≤ gb324)); clear HB; have HB := n0_; have BK324 := n1_; have GW324 := n2_; have GE324 := n3_; clear n0_ n1_ n2_ n3_; clear hb hbox hg) | ((with_reducible refine zf (N := 3) rfl ?_); refine zm ?hg (N := 3) ?hd (cs := #[.slice A1_0 l1_0.length c1_0, .int .i64 a1_1, .int .i64 a1_2]) (t := 64) ?hr ?_; (case hd => rfl); (case hg => rfl); (case hr => first | (go_simp; done) | (go_simp; rfl)); intro gb325 hg w5 hbox hb; have n0_ := qa.mk (qN (g := gb324) (o := .cells #[.int .i64 a0_0, .int .i64 a0_1] 35 (0, 0)) (kq BK324) hb); have n1_ := qa.mk (qE (bs HB GE324) hb); have n2_ := qa.mk (hbox); have n3_ := qa.mk ((by rw [hg]; exact (qy (bs HB GE324)) : w.heap.size ≤ gb325)); have n4_ := qa.mk ((by rw [hg]; exact (qy (bs HB GE324)) : w.heap.size ≤ gb325)); have n5_ := qa.mk ((by rw [hg]; exact Nat.ne_of_lt (qD (g := gb324) (o := .cells #[.int .i64 a0_0, .int .i64 a0_1] 35 (0, 0)) (kq BK324)) : gb324 ≠ gb325)); have n6_ := qa.mk ((by rw [hg]; exact Nat.ne_of_gt (qD (g := gb324) (o := .cells #[.int .i64 a0_0, .int .i64 a0_1] 35 (0, 0)) (kq BK324)) : gb325 ≠ gb324)); clear BK324; clear HB; have BK324 := n0_; have HB := n1_; have BK325 := n2_; have GW325 := n3_; have GE325 := n4_; have NB324_325 := n5_; have NB325_324 := n6_; clear n0_ n1_ n2_ n3_ n4_ n5_ n6_; clear hb hbox hg; have hnb6 := NB325_324.out; have hnc6 := NB324_325.out; have hcz7_0 : w5.cell? ⟨gb325, 0, none⟩ = some (.slice A1_0 l1_0.length c1_0) := (qf BK325.out 0).trans rfl; have hcz7_1 : w5.cell? ⟨gb325, 1, none⟩ = some (.int .i64 a1_1) := (qf BK325.out 1).trans rfl; have hcz7_2 : w5.cell? ⟨gb325, 2, none⟩ = some (.int .i64 a1_2) := (qf BK325.out 2).trans rfl; have hfz7_0 := qj BK325.out 0; have hfz7_1 := qj BK325.out 1; have hfz7_2 := qj BK325.out 2) | ((with_reducible refine zf (N := 22) rfl ?_); refine Kd.Zr k35 _ 35 ?hg (N := 22) ?hd (xs := ([(⟨a1_1, a1_2⟩ : S35)] : List (S35))) (inner := [.int .i64 a1_1, .int .i64 a1_2]) (ok := fun _ => True) (okp := fun _ => True) ?hr ?hp (fun _ hk => hk) trivial (Below.refl _ _) (Nat.le_refl _) (by simp) ?_; (case hd => rfl); (case hg => rfl); (case hr => first | (go_simp; done) | (go_simp; rfl)); (case hp => exact (zx.c2 (show Kd.M k35 _ _ _ (⟨a1_1, a1_2⟩ : S35) [.int .i64 a1_1, .int .i64 a1_2] from (QB _ _ _ (⟨a1_1, a1_2⟩ : S35) )) (zx.none _ _))); intro v327 w8 ho9 hb hg_ hnew_; clear hg_ hnew_; (first | rw [← Ny326.out] at ho9 | (simp only [Int.reduceToNat] at ho9; rw [← Ny326.out] at ho9)); have n0_ := qa.mk (Kd.jZ (Kd.ZM ho9 (g := gb324) (o := .cells #[.int .i64 a0_0, .int .i64 a0_1] 35 (0, 0)) (kq BK324)) (qy (by repeat (first | (with_reducible first | exact HB.out | apply qp | apply qo | apply qz | refine qg ?_ GE324.out | refine qg ?_ GE325.out) | exact HB.out)))); have n1_ := qa.mk (qN (g := gb324) (o := .cells #[.int .i64 a0_0, .int .i64 a0_1] 35 (0, 0)) (kq BK324) hb); have n2_ := qa.mk (qN (g := gb325) (o := .cells #[.slice A1_0 l1_0.length c1_0, .int .i64 a1_1, .int .i64 a1_2] 64 (0, 0)) (kq BK325) hb); have n3_ := qa.mk (qE (by repeat (first | (with_reducible first | exact HB.out | apply qp | apply qo | apply qz | refine qg ?_ GE324.out | refine qg ?_ GE325.out) | exact HB.out)) hb); clear BK324; clear BK325; clear HB; have HO328 := n0_; have BK324 := n1_; have BK325 := n2_; have HB := n3_; clear n0_ n1_ n2_ n3_; clear hb ho9))
  go_ret
  exact ⟨_, by first | rfl | (simp [qR, qU] <;> rfl) | (simp [*, qR, qU] <;> rfl), by (with_reducible repeat (first | apply Kd.zX | apply Kd.z8 | apply Kd.zR)); exact Kd.zq HO328.out (fun _ hk => trivial), by repeat (first | (with_reducible first | exact HB.out | apply qp | apply qo | apply qz | refine qg ?_ GE324.out | refine qg ?_ GE325.out) | exact HB.out)⟩
 rw [if_neg c3] at H
 have c3b0 : ((l1_0.length : Int) == 0) = false := beq_eq_false_iff_ne.mpr c3
 have c3b1 : ((l1_0.length : Int) != 0) = true := bne_iff_ne.mpr c3
 have c3b2 : ¬ (l1_0 = []) := fun h_ => c3 (by rw [h_]; rfl)
 by_cases c10 : 0 < (l1_0.length : Int)
 case neg =>
  rw [if_neg c10] at H
  exact absurd H (by simp)
 rw [if_pos c10] at H
 have c10b0 : decide (0 < (l1_0.length : Int)) = true := decide_eq_true c10
 have c10b1 : decide (0 < l1_0.length) = true := decide_eq_true (by omega)
 clear c10
 replace H := Option.bind_eq_some_iff.mp H
 obtain ⟨t331, A110, H⟩ := H
 replace H : (if (l1_0.length : Int) = 2 then (if 1 < (l1_0.length : Int) then ((jd.f a0_0 a0_1 ((qG l1_0 0).f0) ((qG l1_0 0).f1) ((qG l1_0 1).f0) ((qG l1_0 1).f1)).bind fun t333 => ((jd.f ((qG l1_0 0).f0) ((qG l1_0 0).f1) ((qG l1_0 1).f0) ((qG l1_0 1).f1) a1_1 a1_2).bind fun t335 => (qx.j0 k (wrap64 (t333 + t335)) a0_0 a0_1 l1_0 a1_1 a1_2 ((qG l1_0 0).f0) ((qG l1_0 0).f1)))) else (none)) else (qx.j0 k t331 a0_0 a0_1 l1_0 a1_1 a1_2 ((qG l1_0 0).f0) ((qG l1_0 0).f1))) = some r := H
 have A11 := qa.mk A110
 clear A110
 have HC12 := qa.mk H
 clear H
 go_enter Try.func27, Try.ntmps27
 go_upto_if 35 with (first | ((with_reducible refine zf (N := 2) rfl ?_); refine zm ?hg (N := 2) ?hd (cs := #[.int .i64 a0_0, .int .i64 a0_1]) (t := 35) ?hr ?_; (case hd => rfl); (case hg => rfl); (case hr => first | (go_simp; done) | (go_simp; rfl)); intro gb324 hg w13 hbox hb; have n0_ := qa.mk (qE (bq HB) hb); have n1_ := qa.mk (hbox); have n2_ := qa.mk ((by rw [hg]; exact (qy (bq HB)) : w.heap.size ≤ gb324)); have n3_ := qa.mk ((by rw [hg]; exact (qy (bq HB)) : w.heap.size ≤ gb324)); clear HB; have HB := n0_; have BK324 := n1_; have GW324 := n2_; have GE324 := n3_; clear n0_ n1_ n2_ n3_; clear hb hbox hg) | ((with_reducible refine zf (N := 3) rfl ?_); refine zm ?hg (N := 3) ?hd (cs := #[.slice A1_0 l1_0.length c1_0, .int .i64 a1_1, .int .i64 a1_2]) (t := 64) ?hr ?_; (case hd => rfl); (case hg => rfl); (case hr => first | (go_simp; done) | (go_simp; rfl)); intro gb325 hg w14 hbox hb; have n0_ := qa.mk (qN (g := gb324) (o := .cells #[.int .i64 a0_0, .int .i64 a0_1] 35 (0, 0)) (kq BK324) hb); have n1_ := qa.mk (qE (bs HB GE324) hb); have n2_ := qa.mk (hbox); have n3_ := qa.mk ((by rw [hg]; exact (qy (bs HB GE324)) : w.heap.size ≤ gb325)); have n4_ := qa.mk ((by rw [hg]; exact (qy (bs HB GE324)) : w.heap.size ≤ gb325)); have n5_ := qa.mk ((by rw [hg]; exact Nat.ne_of_lt (qD (g := gb324) (o := .cells #[.int .i64 a0_0, .int .i64 a0_1] 35 (0, 0)) (kq BK324)) : gb324 ≠ gb325)); have n6_ := qa.mk ((by rw [hg]; exact Nat.ne_of_gt (qD (g := gb324) (o := .cells #[.int .i64 a0_0, .int .i64 a0_1] 35 (0, 0)) (kq BK324)) : gb325 ≠ gb324)); clear BK324; clear HB; have BK324 := n0_; have HB := n1_; have BK325 := n2_; have GW325 := n3_; have GE325 := n4_; have NB324_325 := n5_; have NB325_324 := n6_; clear n0_ n1_ n2_ n3_ n4_ n5_ n6_; clear hb hbox hg; have hnb15 := NB325_324.out; have hnc15 := NB324_325.out; have hcz16_0 : w14.cell? ⟨gb325, 0, none⟩ = some (.slice A1_0 l1_0.length c1_0) := (qf BK325.out 0).trans rfl; have hcz16_1 : w14.cell? ⟨gb325, 1, none⟩ = some (.int .i64 a1_1) := (qf BK325.out 1).trans rfl; have hcz16_2 : w14.cell? ⟨gb325, 2, none⟩ = some (.int .i64 a1_2) := (qf BK325.out 2).trans rfl; have hfz16_0 := qj BK325.out 0; have hfz16_1 := qj BK325.out 1; have hfz16_2 := qj BK325.out 2; have p329 : 0 ≤ (0 : Int) := (by omega); have q329 : 0 < (l1_0.length : Int) := odt; obtain ⟨ad329, e329, hx329_0, hx329_1⟩ := Z8 HR1_0.out 0 p329 q329; cases e329; have qi329 : (0 < l1_0.length) = True := eq_true (by omega); (try rw [show ((0 : Int)).toNat = 0 from rfl] at hx329_0); (try rw [show 0 * 2 = 0 from rfl] at hx329_0); (try rw [Addr.add_zero'] at hx329_0); (try rw [show ((0 : Int)).toNat = 0 from rfl] at hx329_1); (try rw [show 0 * 2 = 0 from rfl] at hx329_1); (try rw [Addr.add_zero'] at hx329_1); replace hx329_0 := (HB.out.cell (World.block_lt_of_cell? w _ hx329_0)).trans hx329_0; replace hx329_1 := (HB.out.cell (World.block_lt_of_cell? w _ hx329_1)).trans hx329_1; replace p329 := eq_true p329; replace q329 := eq_true q329) | ((with_reducible refine zf (N := 5) rfl ?_); refine zm ?hg (N := 5) ?hd (cs := #[.int .i64 0, .int .i64 0]) (t := 35) ?hr ?_; (case hd => rfl); (case hg => rfl); (case hr => first | (go_simp; done) | (go_simp; rfl)); intro gb330 hg w17 hbox hb; have n0_ := qa.mk (qN (g := gb324) (o := .cells #[.int .i64 a0_0, .int .i64 a0_1] 35 (0, 0)) (kq BK324) hb); have n1_ := qa.mk (qN (g := gb325) (o := .cells #[.slice (some ad329) l1_0.length c1_0, .int .i64 a1_1, .int .i64 a1_2] 64 (0, 0)) (kq BK325) hb); have n2_ := qa.mk (qE (by repeat (first | (with_reducible first | exact HB.out | apply qp | apply qo | apply qz | refine qg ?_ GE324.out | refine qg ?_ GE325.out) | exact HB.out)) hb); have n3_ := qa.mk (hbox); have n4_ := qa.mk ((by rw [hg]; exact (qy (by repeat (first | (with_reducible first | exact HB.out | apply qp | apply qo | apply qz | refine qg ?_ GE324.out | refine qg ?_ GE325.out) | exact HB.out))) : w.heap.size ≤ gb330)); have n5_ := qa.mk ((by rw [hg]; exact (qy (by repeat (first | (with_reducible first | exact HB.out | apply qp | apply qo | apply qz | refine qg ?_ GE324.out | refine qg ?_ GE325.out) | exact HB.out))) : w.heap.size ≤ gb330)); have n6_ := qa.mk ((by rw [hg]; exact Nat.ne_of_lt (qD (g := gb324) (o := .cells #[.int .i64 a0_0, .int .i64 a0_1] 35 (0, 0)) (kq BK324)) : gb324 ≠ gb330)); have n7_ := qa.mk ((by rw [hg]; exact Nat.ne_of_gt (qD (g := gb324) (o := .cells #[.int .i64 a0_0, .int .i64 a0_1] 35 (0, 0)) (kq BK324)) : gb330 ≠ gb324)); have n8_ := qa.mk ((by rw [hg]; exact Nat.ne_of_lt (qD (g := gb325) (o := .cells #[.slice (some ad329) l1_0.length c1_0, .int .i64 a1_1, .int .i64 a1_2] 64 (0, 0)) (kq BK325)) : gb325 ≠ gb330)); have n9_ := qa.mk ((by rw [hg]; exact Nat.ne_of_gt (qD (g := gb325) (o := .cells #[.slice (some ad329) l1_0.length c1_0, .int .i64 a1_1, .int .i64 a1_2] 64 (0, 0)) (kq BK325)) : gb330 ≠ gb325)); clear BK324; clear BK325; clear HB; have BK324 := n0_; have BK325 := n1_; have HB := n2_; have BK330 := n3_; have GW330 := n4_; have GE330 := n5_; have NB324_330 := n6_; have NB330_324 := n7_; have NB325_330 := n8_; have NB330_325 := n9_; clear n0_ n1_ n2_ n3_ n4_ n5_ n6_ n7_ n8_ n9_; clear hb hbox hg; have hnb18 := NB330_324.out; have hnc18 := NB324_330.out; have hnb19 := NB330_325.out; have hnc19 := NB325_330.out; have hcz20_0 : w17.cell? ⟨gb330, 0, none⟩ = some (.int .i64 0) := (qf BK330.out 0).trans rfl; have hcz20_1 : w17.cell? ⟨gb330, 1, none⟩ = some (.int .i64 0) := (qf BK330.out 1).trans rfl; have hfz20_0 := qj BK330.out 0; have hfz20_1 := qj BK330.out 1; have hcz21_0 : w17.cell? ⟨gb324, 0, none⟩ = some (.int .i64 a0_0) := (qf BK324.out 0).trans rfl; have hcz21_1 : w17.cell? ⟨gb324, 1, none⟩ = some (.int .i64 a0_1) := (qf BK324.out 1).trans rfl; have hfz21_0 := qj BK324.out 0; have hfz21_1 := qj BK324.out 1; have hcz22_0 : w17.cell? ⟨gb325, 0, none⟩ = some (.slice (some ad329) l1_0.length c1_0) := (qf BK325.out 0).trans rfl; have hcz22_1 : w17.cell? ⟨gb325, 1, none⟩ = some (.int .i64 a1_1) := (qf BK325.out 1).trans rfl; have hcz22_2 : w17.cell? ⟨gb325, 2, none⟩ = some (.int .i64 a1_2) := (qf BK325.out 2).trans rfl; have hfz22_0 := qj BK325.out 0; have hfz22_1 := qj BK325.out 1; have hfz22_2 := qj BK325.out 2) | ((with_reducible refine zI (f := 43) rfl ?_); refine jM (some 31) rfl rfl Try.func43 (by kernel_rfl) rfl #[.agg #[.int .i64 a0_0, .int .i64 a0_1], .agg #[.int .i64 ((qG l1_0 0).f0), .int .i64 ((qG l1_0 0).f1)], .agg #[.int .i64 a1_1, .int .i64 a1_2]] rfl (by (try simp only [List.map_toArray, List.map_cons, List.map_nil]); first | done | rfl | (simp only [List.length_drop, List.length_take]; rfl)) ?_; (with_reducible refine (jd.calls a0_0 a0_1 ((qG l1_0 0).f0) ((qG l1_0 0).f1) a1_1 a1_2 t331 _ A11.out).mono ?_); rintro e w23 ⟨rfl, hb⟩; refine ⟨_, rfl, ?_⟩; have n0_ := qa.mk (qN (g := gb324) (o := .cells #[.int .i64 a0_0, .int .i64 a0_1] 35 (0, 0)) (by (with_reducible repeat (first | refine qh ?_ _ | refine qc ?_ | refine qd ?_ _)); refine qJ ?_ NB324_330.out _; refine qJ ?_ NB324_330.out _; exact kq BK324) hb); have n1_ := qa.mk (qN (g := gb325) (o := .cells #[.slice (some ad329) l1_0.length c1_0, .int .i64 a1_1, .int .i64 a1_2] 64 (0, 0)) (by (with_reducible repeat (first | refine qh ?_ _ | refine qc ?_ | refine qd ?_ _)); refine qJ ?_ NB325_330.out _; refine qJ ?_ NB325_330.out _; exact kq BK325) hb); have n2_ := qa.mk (qN (g := gb330) (o := .cells #[.int .i64 ((qG l1_0 0).f0), .int .i64 ((qG l1_0 0).f1)] 35 (0, 0)) (by (with_reducible repeat (first | refine qh ?_ _ | refine qc ?_ | refine qd ?_ _)); refine zb (cs := #[.int .i64 ((qG l1_0 0).f0), .int .i64 0]) ?_ 1 _ rfl; refine zb (cs := #[.int .i64 0, .int .i64 0]) ?_ 0 _ rfl; exact kq BK330) hb); have n3_ := qa.mk (qE (by repeat (first | (with_reducible first | exact HB.out | apply qp | apply qo | apply qz | refine qg ?_ GE324.out | refine qg ?_ GE325.out | refine qg ?_ GE330.out) | exact HB.out)) hb); clear BK324; clear BK325; clear BK330; clear HB; have BK324 := n0_; have BK325 := n1_; have BK330 := n2_; have HB := n3_; clear n0_ n1_ n2_ n3_; (try clear hb); (try clear hb2); (try clear hk); (try clear hi); have hcz24_0 : w23.cell? ⟨gb325, 0, none⟩ = some (.slice (some ad329) l1_0.length c1_0) := (qf BK325.out 0).trans rfl; have hcz24_1 : w23.cell? ⟨gb325, 1, none⟩ = some (.int .i64 a1_1) := (qf BK325.out 1).trans rfl; have hcz24_2 : w23.cell? ⟨gb325, 2, none⟩ = some (.int .i64 a1_2) := (qf BK325.out 2).trans rfl; have hfz24_0 := qj BK325.out 0; have hfz24_1 := qj BK325.out 1; have hfz24_2 := qj BK325.out 2))
 (try simp only [Act.put, List.setIfInBounds_toArray, List.set_cons_zero, List.set_cons_succ])
 go_cut [6] (fun v6 wc => ∃ (kq : Nat) (x6_11 : Int), v6 = .int .i64 x6_11 ∧ qa (qx.j0 kq x6_11 a0_0 a0_1 l1_0 a1_1 a1_2 ((qG l1_0 0).f0) ((qG l1_0 0).f1) = some r) ∧ qa (kq ≤ k) ∧ qa (wc.heap[gb324]? = some (.cells #[.int .i64 a0_0, .int .i64 a0_1] 35 (0, 0))) ∧ qa (wc.heap[gb325]? = some (.cells #[(.slice (some ad329) l1_0.length c1_0), .int .i64 a1_1, .int .i64 a1_2] 64 (0, 0))) ∧ qa (wc.heap[gb330]? = some (.cells #[.int .i64 ((qG l1_0 0).f0), .int .i64 ((qG l1_0 0).f1)] 35 (0, 0))) ∧ qa (Below w.heap.size w wc))
 case first =>
  have H := HC12.out
  clear HC12
  by_cases c25 : (l1_0.length : Int) = 2
  case neg =>
   rw [if_neg c25] at H
   have c25b0 : ((l1_0.length : Int) == 2) = false := beq_eq_false_iff_ne.mpr c25
   have c25b1 : ((l1_0.length : Int) != 2) = true := bne_iff_ne.mpr c25
   (first | rw [c25b0] | (simp only [qA, qB]; rw [c25b0]) | skip)
   have H' := qa.mk H
   clear H
   go_wp2
   go_meet
   case rel => exact ⟨_, (t331), (by first | rfl | (simp; done) | (simp [*]; done)), H', ⟨by first | omega | exact Nat.le_refl _⟩, ⟨kq BK324⟩, ⟨kq BK325⟩, ⟨kq BK330⟩, ⟨by repeat (first | (with_reducible first | exact HB.out | apply qp | apply qo | apply qz | refine qg ?_ GE324.out | refine qg ?_ GE325.out | refine qg ?_ GE330.out) | exact HB.out)⟩⟩
  rw [if_pos c25] at H
  have c25b0 : ((l1_0.length : Int) == 2) = true := beq_iff_eq.mpr c25
  have c25b1 : ((l1_0.length : Int) != 2) = false := bne_eq_false_iff_eq.mpr c25
  clear c25
  (first | rw [c25b0] | (simp only [qA, qB]; rw [c25b0]) | skip)
  by_cases c26 : 1 < (l1_0.length : Int)
  case neg =>
   rw [if_neg c26] at H
   exact absurd H (by simp)
  rw [if_pos c26] at H
  have c26b0 : decide (1 < (l1_0.length : Int)) = true := decide_eq_true c26
  have c26b1 : decide (1 < l1_0.length) = true := decide_eq_true (by omega)
  clear c26
  replace H := Option.bind_eq_some_iff.mp H
  obtain ⟨t333, A270, H⟩ := H
  replace H : ((jd.f ((qG l1_0 0).f0) ((qG l1_0 0).f1) ((qG l1_0 1).f0) ((qG l1_0 1).f1) a1_1 a1_2).bind fun t335 => (qx.j0 k (wrap64 (t333 + t335)) a0_0 a0_1 l1_0 a1_1 a1_2 ((qG l1_0 0).f0) ((qG l1_0 0).f1))) = some r := H
  have A27 := qa.mk A270
  clear A270
  replace H := Option.bind_eq_some_iff.mp H
  obtain ⟨t335, A280, H⟩ := H
  replace H : (qx.j0 k (wrap64 (t333 + t335)) a0_0 a0_1 l1_0 a1_1 a1_2 ((qG l1_0 0).f0) ((qG l1_0 0).f1)) = some r := H
  have A28 := qa.mk A280
  clear A280
  have H' := qa.mk H
  clear H
  try go_wp2
  have n0_ := qa.mk (qc BK324.out)
  have n1_ := qa.mk (qc BK325.out)
  have n2_ := qa.mk (qc BK330.out)
  have n3_ := qa.mk (qz HB.out)
  clear BK324
  clear BK325
  clear BK330
  clear HB
  have BK324 := n0_
  have BK325 := n1_
  have BK330 := n2_
  have HB := n3_
  clear n0_ n1_ n2_ n3_
  have p332 : 0 ≤ (1 : Int) := (by omega)
  have q332 : 1 < (l1_0.length : Int) := odt
  obtain ⟨ad332, e332, hx332_0, hx332_1⟩ := Z8 HR1_0.out 1 p332 q332
  have hw332_1 := hx332_1
  (try rw [show ((1 : Int)).toNat = 1 from rfl] at hw332_1)
  (try rw [show 1 * 2 = 2 from rfl] at hw332_1)
  (try simp only [Nat.reduceMul, Nat.reduceEqDiff, Go.Addr.add, ↓reduceIte] at hw332_1)
  have hw332_0 := hx332_0
  (try rw [show ((1 : Int)).toNat = 1 from rfl] at hw332_0)
  (try rw [show 1 * 2 = 2 from rfl] at hw332_0)
  (try simp only [Nat.reduceMul, Nat.reduceEqDiff, Go.Addr.add, ↓reduceIte] at hw332_0)
  obtain rfl : ad329 = ad332 := (by injection e332)
  (try simp only [show (1 : Int).toNat = 1 from rfl, Nat.reduceMul, Nat.reduceEqDiff, Go.Addr.add, ↓reduceIte] at hx332_0)
  (try simp only [show (1 : Int).toNat = 1 from rfl, Nat.reduceMul, Nat.reduceEqDiff, Go.Addr.add, ↓reduceIte] at hx332_1)
  have qi332 : (1 < l1_0.length) = True := eq_true (by omega)
  (try rw [show ((1 : Int)).toNat = 1 from rfl] at hx332_0)
  (try rw [show 1 * 2 = 2 from rfl] at hx332_0)
  (try rw [show ((1 : Int)).toNat = 1 from rfl] at hx332_1)
  (try rw [show 1 * 2 = 2 from rfl] at hx332_1)
  replace hx332_0 := (HB.out.cell (World.block_lt_of_cell? w _ hx332_0)).trans hx332_0
  replace hx332_1 := (HB.out.cell (World.block_lt_of_cell? w _ hx332_1)).trans hx332_1
  replace p332 := eq_true p332
  replace q332 := eq_true q332
  have p334 : 0 ≤ (1 : Int) := (by omega)
  have q334 : 1 < (l1_0.length : Int) := odt
  obtain ⟨ad334, e334, hx334_0, hx334_1⟩ := Z8 HR1_0.out 1 p334 q334
  have hw334_1 := hx334_1
  (try rw [show ((1 : Int)).toNat = 1 from rfl] at hw334_1)
  (try rw [show 1 * 2 = 2 from rfl] at hw334_1)
  (try simp only [Nat.reduceMul, Nat.reduceEqDiff, Go.Addr.add, ↓reduceIte] at hw334_1)
  have hw334_0 := hx334_0
  (try rw [show ((1 : Int)).toNat = 1 from rfl] at hw334_0)
  (try rw [show 1 * 2 = 2 from rfl] at hw334_0)
  (try simp only [Nat.reduceMul, Nat.reduceEqDiff, Go.Addr.add, ↓reduceIte] at hw334_0)
  obtain rfl : ad329 = ad334 := (by injection e334)
  (try simp only [show (1 : Int).toNat = 1 from rfl, Nat.reduceMul, Nat.reduceEqDiff, Go.Addr.add, ↓reduceIte] at hx334_0)
  (try simp only [show (1 : Int).toNat = 1 from rfl, Nat.reduceMul, Nat.reduceEqDiff, Go.Addr.add, ↓reduceIte] at hx334_1)
  have qi334 : (1 < l1_0.length) = True := eq_true (by omega)
  (try rw [show ((1 : Int)).toNat = 1 from rfl] at hx334_0)
  (try rw [show 1 * 2 = 2 from rfl] at hx334_0)
  (try rw [show ((1 : Int)).toNat = 1 from rfl] at hx334_1)
  (try rw [show 1 * 2 = 2 from rfl] at hx334_1)
  replace hx334_0 := (HB.out.cell (World.block_lt_of_cell? w _ hx334_0)).trans hx334_0
  replace hx334_1 := (HB.out.cell (World.block_lt_of_cell? w _ hx334_1)).trans hx334_1
  replace p334 := eq_true p334
  replace q334 := eq_true q334
  refine j6 (n := 17) (S := fun w' => w'.cell? ⟨gb324, 0, none⟩ = some (.int .i64 a0_0) ∧ w'.cell? ⟨gb324, 1, none⟩ = some (.int .i64 a0_1) ∧ w'.cell? ⟨gb330, 0, none⟩ = some (.int .i64 ((qG l1_0 0).f0)) ∧ w'.cell? ⟨gb330, 1, none⟩ = some (.int .i64 ((qG l1_0 0).f1)) ∧ w'.cell? ⟨gb325, 0, none⟩ = some (.slice (some ad329) l1_0.length c1_0) ∧ w'.cell? ⟨gb325, 1, none⟩ = some (.int .i64 a1_1) ∧ w'.cell? ⟨gb325, 2, none⟩ = some (.int .i64 a1_2) ∧ w'.cell? ⟨ad329.block, ad329.off + 2, none⟩ = some (.int .i64 ((qG l1_0 1).f0)) ∧ w'.cell? ⟨ad329.block, ad329.off + 2 + 1, none⟩ = some (.int .i64 ((qG l1_0 1).f1)) ∧ w'.cell? ⟨ad329.block, ad329.off + 2, none⟩ = some (.int .i64 ((qG l1_0 1).f0)) ∧ w'.cell? ⟨ad329.block, ad329.off + 2 + 1, none⟩ = some (.int .i64 ((qG l1_0 1).f1))) (ds := []) #[false, false, false, false, false, false, false, false, false, false, false, false, false, false, false, false, false] (by kernel_rfl) rfl rfl ⟨(qf BK324.out 0).trans rfl, (qf BK324.out 1).trans rfl, (qf BK330.out 0).trans rfl, (qf BK330.out 1).trans rfl, (qf BK325.out 0).trans rfl, (qf BK325.out 1).trans rfl, (qf BK325.out 2).trans rfl, ((HB.out.cell (World.block_lt_of_cell? w _ hw332_0)).trans hw332_0), ((HB.out.cell (World.block_lt_of_cell? w _ hw332_1)).trans hw332_1), ((HB.out.cell (World.block_lt_of_cell? w _ hw334_0)).trans hw334_0), ((HB.out.cell (World.block_lt_of_cell? w _ hw334_1)).trans hw334_1)⟩ (fun hHeld => ?_); refine Qv qx.tab6 qx.bits6 (fun HT_ HW_ => ?_)
  generalize w23.drew = w29 at BK324 BK325 BK330 HB hx332_0 hx332_1 hx334_0 hx334_1 hHeld ⊢
  refine qV (i := 2) (N := some 38) (v := ?_) (a' := ?_) #[false, false, true, false, false, false, false, false, false, false, false, false, false, false, false, false, false] rfl rfl (zh HT_.out (by kernel_rfl)) (fun _ _ _ h => h) (Or.inl ⟨by rfl, ?_⟩) ?_ ?_
  rotate_left
  ·intro w'
   go_simp
   with_reducible rfl
  rotate_left
  ·simp only [Act.put, List.setIfInBounds_toArray, List.set_cons_zero, List.set_cons_succ, qA, qB]
   rfl
  refine qV (i := 8) (N := some 44) (v := ?_) (a' := ?_) #[false, false, true, false, false, false, false, false, true, false, false, false, false, false, false, false, false] rfl rfl (zh HT_.out (by kernel_rfl)) (fun _ _ _ h => h) (Or.inl ⟨by rfl, ?_⟩) ?_ ?_
  rotate_left
  ·intro w'
   go_simp
   with_reducible rfl
  rotate_left
  ·simp only [Act.put, List.setIfInBounds_toArray, List.set_cons_zero, List.set_cons_succ, qA, qB]
   rfl
  refine qV (i := 12) (N := some 48) (v := ?_) (a' := ?_) #[false, false, true, false, false, false, false, false, true, false, false, false, true, false, false, false, false] rfl rfl (zh HT_.out (by kernel_rfl)) (fun _ _ _ h => h) (Or.inl ⟨by rfl, ?_⟩) ?_ ?_
  rotate_left
  ·intro w'
   go_simp
   with_reducible rfl
  rotate_left
  ·simp only [Act.put, List.setIfInBounds_toArray, List.set_cons_zero, List.set_cons_succ, qA, qB]
   rfl
  refine zB (i := 0) (N := some 36) (v := ?_) (a' := ?_) #[true, false, true, false, false, false, false, false, true, false, false, false, true, false, false, false, false] rfl rfl (zP HT_.out HW_.out (by kernel_rfl)) (fun _ _ _ h => h) (Or.inl ⟨by rfl, ?_⟩) hHeld ?_ ?_
  rotate_left
  ·rintro w' ⟨s0, s1, s2, s3, s4, s5, s6, s7, s8, s9, s10⟩
   go_simp
   with_reducible rfl
  rotate_left
  ·simp only [Act.put, List.setIfInBounds_toArray, List.set_cons_zero, List.set_cons_succ, qA, qB]
   rfl
  refine zB (i := 1) (N := some 37) (v := ?_) (a' := ?_) #[true, true, true, false, false, false, false, false, true, false, false, false, true, false, false, false, false] rfl rfl (zP HT_.out HW_.out (by kernel_rfl)) (fun _ _ _ h => h) (Or.inl ⟨by rfl, ?_⟩) hHeld ?_ ?_
  rotate_left
  ·rintro w' ⟨s0, s1, s2, s3, s4, s5, s6, s7, s8, s9, s10⟩
   go_simp
   with_reducible rfl
  rotate_left
  ·simp only [Act.put, List.setIfInBounds_toArray, List.set_cons_zero, List.set_cons_succ, qA, qB]
   rfl
  refine zB (i := 3) (N := some 39) (v := ?_) (a' := ?_) #[true, true, true, true, false, false, false, false, true, false, false, false, true, false, false, false, false] rfl rfl (zP HT_.out HW_.out (by kernel_rfl)) (fun _ _ _ h => h) (Or.inl ⟨by rfl, ?_⟩) hHeld ?_ ?_
  rotate_left
  ·rintro w' ⟨s0, s1, s2, s3, s4, s5, s6, s7, s8, s9, s10⟩
   go_simp
   with_reducible rfl
  rotate_left
  ·simp only [Act.put, List.setIfInBounds_toArray, List.set_cons_zero, List.set_cons_succ, qA, qB]
   rfl
  refine qV (i := 4) (N := some 40) (v := ?_) (a' := ?_) #[true, true, true, true, true, false, false, false, true, false, false, false, true, false, false, false, false] rfl rfl (zh HT_.out (by kernel_rfl)) (fun _ _ _ h => h) (Or.inl ⟨by rfl, ?_⟩) ?_ ?_
  rotate_left
  ·intro w'
   go_simp
   with_reducible rfl
  rotate_left
  ·simp only [Act.put, List.setIfInBounds_toArray, List.set_cons_zero, List.set_cons_succ, qA, qB]
   rfl
  refine zB (i := 5) (N := some 41) (v := ?_) (a' := ?_) #[true, true, true, true, true, true, false, false, true, false, false, false, true, false, false, false, false] rfl rfl (zP HT_.out HW_.out (by kernel_rfl)) (fun _ _ _ h => h) (Or.inl ⟨by rfl, ?_⟩) hHeld ?_ ?_
  rotate_left
  ·rintro w' ⟨s0, s1, s2, s3, s4, s5, s6, s7, s8, s9, s10⟩
   go_simp
   with_reducible rfl
  rotate_left
  ·simp only [Act.put, List.setIfInBounds_toArray, List.set_cons_zero, List.set_cons_succ, qA, qB]
   rfl
  refine zB (i := 7) (N := some 43) (v := ?_) (a' := ?_) #[true, true, true, true, true, true, false, true, true, false, false, false, true, false, false, false, false] rfl rfl (zP HT_.out HW_.out (by kernel_rfl)) (fun _ _ _ h => h) (Or.inl ⟨by rfl, ?_⟩) hHeld ?_ ?_
  rotate_left
  ·rintro w' ⟨s0, s1, s2, s3, s4, s5, s6, s7, s8, s9, s10⟩
   go_simp
   with_reducible rfl
  rotate_left
  ·simp only [Act.put, List.setIfInBounds_toArray, List.set_cons_zero, List.set_cons_succ, qA, qB]
   rfl
  refine zB (i := 9) (N := some 45) (v := ?_) (a' := ?_) #[true, true, true, true, true, true, false, true, true, true, false, false, true, false, false, false, false] rfl rfl (zP HT_.out HW_.out (by kernel_rfl)) (fun _ _ _ h => h) (Or.inl ⟨by rfl, ?_⟩) hHeld ?_ ?_
  rotate_left
  ·rintro w' ⟨s0, s1, s2, s3, s4, s5, s6, s7, s8, s9, s10⟩
   go_simp
   with_reducible rfl
  rotate_left
  ·simp only [Act.put, List.setIfInBounds_toArray, List.set_cons_zero, List.set_cons_succ, qA, qB]
   rfl
  refine qV (i := 10) (N := some 46) (v := ?_) (a' := ?_) #[true, true, true, true, true, true, false, true, true, true, true, false, true, false, false, false, false] rfl rfl (zh HT_.out (by kernel_rfl)) (fun _ _ _ h => h) (Or.inl ⟨by rfl, ?_⟩) ?_ ?_
  rotate_left
  ·intro w'
   go_simp
   with_reducible rfl
  rotate_left
  ·simp only [Act.put, List.setIfInBounds_toArray, List.set_cons_zero, List.set_cons_succ, qA, qB]
   rfl
  refine zB (i := 11) (N := some 47) (v := ?_) (a' := ?_) #[true, true, true, true, true, true, false, true, true, true, true, true, true, false, false, false, false] rfl rfl (zP HT_.out HW_.out (by kernel_rfl)) (fun _ _ _ h => h) (Or.inl ⟨by rfl, ?_⟩) hHeld ?_ ?_
  rotate_left
  ·rintro w' ⟨s0, s1, s2, s3, s4, s5, s6, s7, s8, s9, s10⟩
   go_simp
   with_reducible rfl
  rotate_left
  ·simp only [Act.put, List.setIfInBounds_toArray, List.set_cons_zero, List.set_cons_succ, qA, qB]
   rfl
  refine zB (i := 13) (N := some 49) (v := ?_) (a' := ?_) #[true, true, true, true, true, true, false, true, true, true, true, true, true, true, false, false, false] rfl rfl (zP HT_.out HW_.out (by kernel_rfl)) (fun _ _ _ h => h) (Or.inl ⟨by rfl, ?_⟩) hHeld ?_ ?_
  rotate_left
  ·rintro w' ⟨s0, s1, s2, s3, s4, s5, s6, s7, s8, s9, s10⟩
   go_simp
   with_reducible rfl
  rotate_left
  ·simp only [Act.put, List.setIfInBounds_toArray, List.set_cons_zero, List.set_cons_succ, qA, qB]
   rfl
  refine jE (i := 6) (N := some 42) #[true, true, true, true, true, true, true, true, true, true, true, true, true, true, false, false, false] rfl rfl (jT HT_.out (by kernel_rfl)) (by decide) (fun K hK => ?_)
  refine jG Try.func43 (by kernel_rfl) rfl #[.agg #[.int .i64 a0_0, .int .i64 a0_1], .agg #[.int .i64 ((qG l1_0 0).f0), .int .i64 ((qG l1_0 0).f1)], .agg #[.int .i64 ((qG l1_0 1).f0), .int .i64 ((qG l1_0 1).f1)]] (by rfl) rfl rfl (by (try simp only [List.map_toArray, List.map_cons, List.map_nil]); first | done | rfl | (simp only [List.length_drop, List.length_take]; rfl)) ?_
  with_reducible refine (jd.calls a0_0 a0_1 ((qG l1_0 0).f0) ((qG l1_0 0).f1) ((qG l1_0 1).f0) ((qG l1_0 1).f1) t333 _ A27.out).mono ?_
  rintro e w30 ⟨rfl, hb⟩
  refine ⟨_, rfl, ?_⟩
  have n0_ := qa.mk (qN (g := gb324) (o := .cells #[.int .i64 a0_0, .int .i64 a0_1] 35 (0, 0)) (kq BK324) hb)
  have n1_ := qa.mk (qN (g := gb325) (o := .cells #[.slice (some ad329) l1_0.length c1_0, .int .i64 a1_1, .int .i64 a1_2] 64 (0, 0)) (kq BK325) hb)
  have n2_ := qa.mk (qN (g := gb330) (o := .cells #[.int .i64 ((qG l1_0 0).f0), .int .i64 ((qG l1_0 0).f1)] 35 (0, 0)) (kq BK330) hb)
  have n3_ := qa.mk (qE (by repeat (first | (with_reducible first | exact HB.out | apply qp | apply qo | apply qz | refine qg ?_ GE324.out | refine qg ?_ GE325.out | refine qg ?_ GE330.out) | exact HB.out)) hb)
  clear BK324
  clear BK325
  clear BK330
  clear HB
  have BK324 := n0_
  have BK325 := n1_
  have BK330 := n2_
  have HB := n3_
  clear n0_ n1_ n2_ n3_
  (try clear hb)
  (try clear hb2)
  (try clear hk)
  (try clear hi)
  refine hK.out _ _ ⟨(qf BK324.out 0).trans rfl, (qf BK324.out 1).trans rfl, (qf BK330.out 0).trans rfl, (qf BK330.out 1).trans rfl, (qf BK325.out 0).trans rfl, (qf BK325.out 1).trans rfl, (qf BK325.out 2).trans rfl, ((HB.out.cell (World.block_lt_of_cell? w _ hw332_0)).trans hw332_0), ((HB.out.cell (World.block_lt_of_cell? w _ hw332_1)).trans hw332_1), ((HB.out.cell (World.block_lt_of_cell? w _ hw334_0)).trans hw334_0), ((HB.out.cell (World.block_lt_of_cell? w _ hw334_1)).trans hw334_1)⟩ (fun hHeld => ?_)
  clear hK K
  refine zY (a' := ?_) ?_ ?_
  rotate_left
  ·show Act.put _ (some 42) _ = _
   simp only [Act.put, List.setIfInBounds_toArray, List.set_cons_zero, List.set_cons_succ, qA, qB]
   rfl
  refine jE (i := 14) (N := some 50) #[true, true, true, true, true, true, true, true, true, true, true, true, true, true, true, false, false] rfl rfl (jT HT_.out (by kernel_rfl)) (by decide) (fun K hK => ?_)
  refine jG Try.func43 (by kernel_rfl) rfl #[.agg #[.int .i64 ((qG l1_0 0).f0), .int .i64 ((qG l1_0 0).f1)], .agg #[.int .i64 ((qG l1_0 1).f0), .int .i64 ((qG l1_0 1).f1)], .agg #[.int .i64 a1_1, .int .i64 a1_2]] (by rfl) rfl rfl (by (try simp only [List.map_toArray, List.map_cons, List.map_nil]); first | done | rfl | (simp only [List.length_drop, List.length_take]; rfl)) ?_
  with_reducible refine (jd.calls ((qG l1_0 0).f0) ((qG l1_0 0).f1) ((qG l1_0 1).f0) ((qG l1_0 1).f1) a1_1 a1_2 t335 _ A28.out).mono ?_
  rintro e w31 ⟨rfl, hb⟩
  refine ⟨_, rfl, ?_⟩
  have n0_ := qa.mk (qN (g := gb324) (o := .cells #[.int .i64 a0_0, .int .i64 a0_1] 35 (0, 0)) (kq BK324) hb)
  have n1_ := qa.mk (qN (g := gb325) (o := .cells #[.slice (some ad329) l1_0.length c1_0, .int .i64 a1_1, .int .i64 a1_2] 64 (0, 0)) (kq BK325) hb)
  have n2_ := qa.mk (qN (g := gb330) (o := .cells #[.int .i64 ((qG l1_0 0).f0), .int .i64 ((qG l1_0 0).f1)] 35 (0, 0)) (kq BK330) hb)
  have n3_ := qa.mk (qE (by repeat (first | (with_reducible first | exact HB.out | apply qp | apply qo | apply qz | refine qg ?_ GE324.out | refine qg ?_ GE325.out | refine qg ?_ GE330.out) | exact HB.out)) hb)
  clear BK324
  clear BK325
  clear BK330
  clear HB
  have BK324 := n0_
  have BK325 := n1_
  have BK330 := n2_
  have HB := n3_
  clear n0_ n1_ n2_ n3_
  (try clear hb)
  (try clear hb2)
  (try clear hk)
  (try clear hi)
  refine hK.out _ _ ⟨(qf BK324.out 0).trans rfl, (qf BK324.out 1).trans rfl, (qf BK330.out 0).trans rfl, (qf BK330.out 1).trans rfl, (qf BK325.out 0).trans rfl, (qf BK325.out 1).trans rfl, (qf BK325.out 2).trans rfl, ((HB.out.cell (World.block_lt_of_cell? w _ hw332_0)).trans hw332_0), ((HB.out.cell (World.block_lt_of_cell? w _ hw332_1)).trans hw332_1), ((HB.out.cell (World.block_lt_of_cell? w _ hw334_0)).trans hw334_0), ((HB.out.cell (World.block_lt_of_cell? w _ hw334_1)).trans hw334_1)⟩ (fun hHeld => ?_)
  clear hK K
  refine zY (a' := ?_) ?_ ?_
  rotate_left
  ·show Act.put _ (some 50) _ = _
   simp only [Act.put, List.setIfInBounds_toArray, List.set_cons_zero, List.set_cons_succ, qA, qB]
   rfl
  refine qV (i := 15) (N := some 51) (v := ?_) (a' := ?_) #[true, true, true, true, true, true, true, true, true, true, true, true, true, true, true, true, false] rfl rfl (zh HT_.out (by kernel_rfl)) (fun _ _ _ h => h) (Or.inl ⟨by rfl, ?_⟩) ?_ ?_
  rotate_left
  ·intro w'
   go_simp
   with_reducible rfl
  rotate_left
  ·simp only [Act.put, List.setIfInBounds_toArray, List.set_cons_zero, List.set_cons_succ, qA, qB]
   rfl
  refine qV (i := 16) (N := some 6) (v := ?_) (a' := ?_) #[true, true, true, true, true, true, true, true, true, true, true, true, true, true, true, true, true] rfl rfl (zh HT_.out (by kernel_rfl)) (fun _ _ _ h => h) (Or.inl ⟨by rfl, ?_⟩) ?_ ?_
  rotate_left
  ·intro w'
   go_simp
   with_reducible rfl
  rotate_left
  ·simp only [Act.put, List.setIfInBounds_toArray, List.set_cons_zero, List.set_cons_succ, qA, qB]
   rfl
  refine Qk (QV HT_.out (by kernel_rfl)) ?_
  try go_wp2
  go_meet
  case rel => exact ⟨_, (wrap64 (t333 + t335)), (by first | rfl | (simp; done) | (simp [*]; done)), H', ⟨by first | omega | exact Nat.le_refl _⟩, ⟨kq BK324⟩, ⟨kq BK325⟩, ⟨kq BK330⟩, ⟨by repeat (first | (with_reducible first | exact HB.out | apply qp | apply qo | apply qz | refine qg ?_ GE324.out | refine qg ?_ GE325.out | refine qg ?_ GE330.out) | exact HB.out)⟩⟩
 case rest =>
  clear HC12
  try clear c1
  try clear c2
  try clear p2
  try clear c3
  try clear c3b0
  try clear c3b1
  try clear c3b2
  try clear p3
  try clear q3
  try clear hx3
  try clear qi3
  try clear c4
  try clear c6
  try clear p6
  try clear c10
  try clear c10b0
  try clear c10b1
  try clear c15
  try clear c18
  try clear c19
  try clear c25
  try clear c25b0
  try clear c25b1
  try clear c26
  try clear c26b0
  try clear c26b1
  try clear c27
  try clear hcz16_0
  try clear hcz16_1
  try clear hcz16_2
  try clear hcz20_0
  try clear hcz20_1
  try clear hcz21_0
  try clear hcz21_1
  try clear hcz22_0
  try clear hcz22_1
  try clear hcz22_2
  try clear hcz24_0
  try clear hcz24_1
  try clear hcz24_2
  try clear hcz7_0
  try clear hcz7_1
  try clear hcz7_2
  try clear hfz16_0
  try clear hfz16_1
  try clear hfz16_2
  try clear hfz20_0
  try clear hfz20_1
  try clear hfz21_0
  try clear hfz21_1
  try clear hfz22_0
  try clear hfz22_1
  try clear hfz22_2
  try clear hfz24_0
  try clear hfz24_1
  try clear hfz24_2
  try clear hfz7_0
  try clear hfz7_1
  try clear hfz7_2
  try clear hx329_0
  try clear hx329_1
  try clear hx332_0
  try clear hx332_1
  try clear hx334_0
  try clear hx334_1
  try clear p329
  try clear p332
  try clear p334
  try clear q329
  try clear q332
  try clear q334
  obtain ⟨kq, x6_11, rfl, HA, HJ11, BK324, BK325, BK330, HB⟩ := hcut
  cases kq with
  | zero => exact absurd HA.out (by simp [qx.j0])
  | succ kj11 =>
   have H := HA.out
   clear HA
   simp only [qx.j0] at H
   have HC32 := qa.mk H
   clear H
   go_upto_block 0 with (fail)
   go_cut [7] (fun v7 wc => ∃ (kq : Nat) (x7_31 : Int), v7 = .int .i64 x7_31 ∧ qa (qx.j2 kq x7_31 a0_0 a0_1 l1_0 a1_1 a1_2 ((qG l1_0 0).f0) ((qG l1_0 0).f1) = some r) ∧ qa (kq ≤ kj11) ∧ qa (wc.heap[gb324]? = some (.cells #[.int .i64 a0_0, .int .i64 a0_1] 35 (0, 0))) ∧ qa (wc.heap[gb325]? = some (.cells #[(.slice (some ad329) l1_0.length c1_0), .int .i64 a1_1, .int .i64 a1_2] 64 (0, 0))) ∧ qa (wc.heap[gb330]? = some (.cells #[.int .i64 ((qG l1_0 0).f0), .int .i64 ((qG l1_0 0).f1)] 35 (0, 0))) ∧ qa (Below w.heap.size w wc))
   case first =>
    have H := HC32.out
    clear HC32
    have H' := qa.mk H
    clear H
    go_wp2
    go_loopg [7] kj11 (fun kq v7 w' => ∃ (x7_2 : Int), v7 = .int .i64 x7_2 ∧ qa (qx.l0 kq x6_11 x7_2 a0_0 a0_1 l1_0 a1_1 a1_2 ((qG l1_0 0).f0) ((qG l1_0 0).f1) = some r) ∧ qa (kq ≤ kj11) ∧ qa (w'.heap[gb324]? = some (.cells #[.int .i64 a0_0, .int .i64 a0_1] 35 (0, 0))) ∧ qa (w'.heap[gb325]? = some (.cells #[(.slice (some ad329) l1_0.length c1_0), .int .i64 a1_1, .int .i64 a1_2] 64 (0, 0))) ∧ qa (w'.heap[gb330]? = some (.cells #[.int .i64 ((qG l1_0 0).f0), .int .i64 ((qG l1_0 0).f1)] 35 (0, 0))) ∧ qa (Below w.heap.size w w'))
    case atStart => exact ⟨(1), (by first | rfl | (simp; done) | (simp [*]; done)), H', ⟨Nat.le_refl _⟩, ⟨kq BK324⟩, ⟨kq BK325⟩, ⟨kq BK330⟩, ⟨by repeat (first | (with_reducible first | exact HB.out | apply qp | apply qo | apply qz | refine qg ?_ GE324.out | refine qg ?_ GE325.out | refine qg ?_ GE330.out) | exact HB.out)⟩⟩
    case round =>
     clear H'
     try clear c1
     try clear c2
     try clear p2
     try clear c3
     try clear c3b0
     try clear c3b1
     try clear c3b2
     try clear p3
     try clear q3
     try clear hx3
     try clear qi3
     try clear c4
     try clear c6
     try clear p6
     try clear c10
     try clear c10b0
     try clear c10b1
     try clear c15
     try clear c18
     try clear c19
     try clear c25
     try clear c25b0
     try clear c25b1
     try clear c26
     try clear c26b0
     try clear c26b1
     try clear c27
     try clear p32
     try clear q32
     try clear hx32
     try clear qi32
     try clear hcz16_0
     try clear hcz16_1
     try clear hcz16_2
     try clear hcz20_0
     try clear hcz20_1
     try clear hcz21_0
     try clear hcz21_1
     try clear hcz22_0
     try clear hcz22_1
     try clear hcz22_2
     try clear hcz24_0
     try clear hcz24_1
     try clear hcz24_2
     try clear hcz7_0
     try clear hcz7_1
     try clear hcz7_2
     try clear hfz16_0
     try clear hfz16_1
     try clear hfz16_2
     try clear hfz20_0
     try clear hfz20_1
     try clear hfz21_0
     try clear hfz21_1
     try clear hfz22_0
     try clear hfz22_1
     try clear hfz22_2
     try clear hfz24_0
     try clear hfz24_1
     try clear hfz24_2
     try clear hfz7_0
     try clear hfz7_1
     try clear hfz7_2
     try clear hx329_0
     try clear hx329_1
     try clear hx332_0
     try clear hx332_1
     try clear hx334_0
     try clear hx334_1
     try clear p2
     try clear p3
     try clear p329
     try clear p332
     try clear p334
     try clear p6
     try clear q3
     try clear q329
     try clear q332
     try clear q334
     obtain ⟨x7_2, rfl, HA, HK2, BK324, BK325, BK330, HB⟩ := hrel
     cases gk with
     | zero => exact absurd HA.out (by simp [qx.l0])
     | succ k2 =>
      have H := HA.out
      clear HA
      simp only [qx.l0] at H
      by_cases c33 : x7_2 < 16
      case neg =>
       rw [if_neg c33] at H
       have c33b0 : decide (x7_2 < 16) = false := decide_eq_false c33
       clear c33
       (first | rw [c33b0] | (simp only [qA, qB]; rw [c33b0]) | skip)
       have H' := qa.mk H
       clear H
       go_wp2
       go_meet
       case rel => exact ⟨_, (x7_2), (by first | rfl | (simp; done) | (simp [*]; done)), H', ⟨by have := HJ11.out; have := HK2.out; first | omega | exact Nat.le_refl _⟩, ⟨kq BK324⟩, ⟨kq BK325⟩, ⟨kq BK330⟩, ⟨by repeat (first | (with_reducible first | exact HB.out | apply qp | apply qo | apply qz | refine qg ?_ GE324.out | refine qg ?_ GE325.out | refine qg ?_ GE330.out) | exact HB.out)⟩⟩
      rw [if_pos c33] at H
      have c33b0 : decide (x7_2 < 16) = true := decide_eq_true c33
      clear c33
      (first | rw [c33b0] | (simp only [qA, qB]; rw [c33b0]) | skip)
      by_cases c34 : x6_11 > (wrap64 ((wrap64 (4 * x7_2)) * x7_2))
      case neg =>
       rw [if_neg c34] at H
       have c34b0 : decide ((wrap64 ((wrap64 (4 * x7_2)) * x7_2)) < x6_11) = false := decide_eq_false c34
       clear c34
       have H' := qa.mk H
       clear H
       go_wp2
       go_meet
       case rel => exact ⟨_, (x7_2), (by first | rfl | (simp; done) | (simp [*]; done)), H', ⟨by have := HJ11.out; have := HK2.out; first | omega | exact Nat.le_refl _⟩, ⟨kq BK324⟩, ⟨kq BK325⟩, ⟨kq BK330⟩, ⟨by repeat (first | (with_reducible first | exact HB.out | apply qp | apply qo | apply qz | refine qg ?_ GE324.out | refine qg ?_ GE325.out | refine qg ?_ GE330.out) | exact HB.out)⟩⟩
      rw [if_pos c34] at H
      have c34b0 : decide ((wrap64 ((wrap64 (4 * x7_2)) * x7_2)) < x6_11) = true := decide_eq_true c34
      clear c34
      have H' := qa.mk H
      clear H
      go_wp2
      go_roundg k2
      case measure => have := HJ11.out; have := HK2.out; omega
      case rel => exact ⟨(wrap64 (x7_2 + x7_2)), (by first | rfl | (simp; done) | (simp [*]; done)), H', ⟨by have := HJ11.out; have := HK2.out; omega⟩, ⟨kq BK324⟩, ⟨kq BK325⟩, ⟨kq BK330⟩, ⟨by repeat (first | (with_reducible first | exact HB.out | apply qp | apply qo | apply qz | refine qg ?_ GE324.out | refine qg ?_ GE325.out | refine qg ?_ GE330.out) | exact HB.out)⟩⟩
   case rest =>
    clear HC32
    try clear c1
    try clear c2
    try clear p2
    try clear c3
    try clear c3b0
    try clear c3b1
    try clear c3b2
    try clear p3
    try clear q3
    try clear hx3
    try clear qi3
    try clear c4
    try clear c6
    try clear p6
    try clear c10
    try clear c10b0
    try clear c10b1
    try clear c15
    try clear c18
    try clear c19
    try clear c25
    try clear c25b0
    try clear c25b1
    try clear c26
    try clear c26b0
    try clear c26b1
    try clear c27
    try clear p32
    try clear q32
    try clear hx32
    try clear qi32
    try clear c33
    try clear c33b0
    try clear p33
    try clear q33
    try clear hx33
    try clear qi33
    try clear c34
    try clear c34b0
    try clear hcz16_0
    try clear hcz16_1
    try clear hcz16_2
    try clear hcz20_0
    try clear hcz20_1
    try clear hcz21_0
    try clear hcz21_1
    try clear hcz22_0
    try clear hcz22_1
    try clear hcz22_2
    try clear hcz24_0
    try clear hcz24_1
    try clear hcz24_2
    try clear hcz7_0
    try clear hcz7_1
    try clear hcz7_2
    try clear hfz16_0
    try clear hfz16_1
    try clear hfz16_2
    try clear hfz20_0
    try clear hfz20_1
    try clear hfz21_0
    try clear hfz21_1
    try clear hfz22_0
    try clear hfz22_1
    try clear hfz22_2
    try clear hfz24_0
    try clear hfz24_1
    try clear hfz24_2
    try clear hfz7_0
    try clear hfz7_1
    try clear hfz7_2
    try clear hx329_0
    try clear hx329_1
    try clear hx332_0
    try clear hx332_1
    try clear hx334_0
    try clear hx334_1
    try clear p2
    try clear p3
    try clear p32
    try clear p329
    try clear p332
    try clear p334
    try clear p6
    try clear q3
    try clear q32
    try clear q329
    try clear q332
    try clear q334
    obtain ⟨kq, x7_31, rfl, HA, HJ31, BK324, BK325, BK330, HB⟩ := hcut
    cases kq with
    | zero => exact absurd HA.out (by simp [qx.j2])
    | succ kj31 =>
     have H := HA.out
     clear HA
     simp only [qx.j2] at H
     obtain ⟨y336, hy336⟩ : ∃ y_ : List (S35), y_ = (([] : List (S35))) := ⟨_, rfl⟩
     replace H : (qx.l1 kj31 x7_31 y336 1 a0_0 a0_1 l1_0 a1_1 a1_2 ((qG l1_0 0).f0) ((qG l1_0 0).f1)) = some r := by first | (rw [hy336]; with_reducible exact H) | (have H2_ := (Option.bind_some _ _).symm.trans H; rw [hy336]; with_reducible exact H2_) | (have H2_ := (Option.bind_some _ _).symm.trans H; with_reducible exact H2_) | with_reducible exact H | (rw [hy336]; exact H) | exact H
     have Ny336 := qa.mk hy336
     clear hy336
     have H' := qa.mk H
     clear H
     go_wp2_with (first | ((with_reducible refine zf (N := 65) rfl ?_); refine Kd.Zr k35 _ 35 ?hg (N := 65) ?hd (xs := ([] : List (S35))) (inner := []) (ok := fun _ => True) (okp := fun _ => True) ?hr ?hp (fun _ hk => hk) trivial (Below.refl _ _) (Nat.le_refl _) (by simp) ?_; (case hd => rfl); (case hg => rfl); (case hr => first | (go_simp; done) | (go_simp; rfl)); (case hp => exact (zx.none _ _)); intro v337 w35 ho36 hb hg_ hnew_; clear hg_ hnew_; (first | rw [← Ny336.out] at ho36 | (simp only [Int.reduceToNat] at ho36; rw [← Ny336.out] at ho36)); have n0_ := qa.mk (Kd.jZ (Kd.ZM (Kd.ZM ho36 (g := gb324) (o := .cells #[.int .i64 a0_0, .int .i64 a0_1] 35 (0, 0)) (kq BK324)) (g := gb330) (o := .cells #[.int .i64 ((qG l1_0 0).f0), .int .i64 ((qG l1_0 0).f1)] 35 (0, 0)) (kq BK330)) (qy (by repeat (first | (with_reducible first | exact HB.out | apply qp | apply qo | apply qz | refine qg ?_ GE324.out | refine qg ?_ GE325.out | refine qg ?_ GE330.out) | exact HB.out)))); have n1_ := qa.mk (qN (g := gb324) (o := .cells #[.int .i64 a0_0, .int .i64 a0_1] 35 (0, 0)) (kq BK324) hb); have n2_ := qa.mk (qN (g := gb325) (o := .cells #[.slice (some ad329) l1_0.length c1_0, .int .i64 a1_1, .int .i64 a1_2] 64 (0, 0)) (kq BK325) hb); have n3_ := qa.mk (qN (g := gb330) (o := .cells #[.int .i64 ((qG l1_0 0).f0), .int .i64 ((qG l1_0 0).f1)] 35 (0, 0)) (kq BK330) hb); have n4_ := qa.mk (qE (by repeat (first | (with_reducible first | exact HB.out | apply qp | apply qo | apply qz | refine qg ?_ GE324.out | refine qg ?_ GE325.out | refine qg ?_ GE330.out) | exact HB.out)) hb); clear BK324; clear BK325; clear BK330; clear HB; have HO338 := n0_; have BK324 := n1_; have BK325 := n2_; have BK330 := n3_; have HB := n4_; clear n0_ n1_ n2_ n3_ n4_; clear hb ho36))
     go_loopg [8, 9] kj31 (fun kq v8 v9 w' => ∃ (x8_3 : List (S35)) (x9_3 : Int), v9 = .int .i64 x9_3 ∧ qa (qx.l1 kq x7_31 x8_3 x9_3 a0_0 a0_1 l1_0 a1_1 a1_2 ((qG l1_0 0).f0) ((qG l1_0 0).f1) = some r) ∧ qa (kq ≤ kj31) ∧ qa (Kd.R k35 35 w' w.heap.size (fun k_ => k_ ≠ gb324 ∧ k_ ≠ gb330) v8 x8_3) ∧ qa (w'.heap[gb324]? = some (.cells #[.int .i64 a0_0, .int .i64 a0_1] 35 (0, 0))) ∧ qa (w'.heap[gb325]? = some (.cells #[(.slice (some ad329) l1_0.length c1_0), .int .i64 a1_1, .int .i64 a1_2] 64 (0, 0))) ∧ qa (w'.heap[gb330]? = some (.cells #[.int .i64 ((qG l1_0 0).f0), .int .i64 ((qG l1_0 0).f1)] 35 (0, 0))) ∧ qa (Below w.heap.size w w'))
     case atStart => exact ⟨(y336), (1), (by first | rfl | (simp; done) | (simp [*]; done)), H', ⟨Nat.le_refl _⟩, ⟨by (with_reducible repeat (first | apply Kd.zX | apply Kd.z8 | apply Kd.zR)); exact Kd.zq HO338.out (fun _ hk => ⟨hk.1.2, hk.2⟩)⟩, ⟨kq BK324⟩, ⟨kq BK325⟩, ⟨kq BK330⟩, ⟨by repeat (first | (with_reducible first | exact HB.out | apply qp | apply qo | apply qz | refine qg ?_ GE324.out | refine qg ?_ GE325.out | refine qg ?_ GE330.out) | exact HB.out)⟩⟩
     case round =>
      clear H'
      try clear c1
      try clear c2
      try clear p2
      try clear c3
      try clear c3b0
      try clear c3b1
      try clear c3b2
      try clear p3
      try clear q3
      try clear hx3
      try clear qi3
      try clear c4
      try clear c6
      try clear p6
      try clear c10
      try clear c10b0
      try clear c10b1
      try clear c15
      try clear c18
      try clear c19
      try clear c25
      try clear c25b0
      try clear c25b1
      try clear c26
      try clear c26b0
      try clear c26b1
      try clear c27
      try clear p32
      try clear q32
      try clear hx32
      try clear qi32
      try clear c33
      try clear c33b0
      try clear p33
      try clear q33
      try clear hx33
      try clear qi33
      try clear c34
      try clear c34b0
      try clear hcz16_0
      try clear hcz16_1
      try clear hcz16_2
      try clear hcz20_0
      try clear hcz20_1
      try clear hcz21_0
      try clear hcz21_1
      try clear hcz22_0
      try clear hcz22_1
      try clear hcz22_2
      try clear hcz24_0
      try clear hcz24_1
      try clear hcz24_2
      try clear hcz7_0
      try clear hcz7_1
      try clear hcz7_2
      try clear hfz16_0
      try clear hfz16_1
      try clear hfz16_2
      try clear hfz20_0
      try clear hfz20_1
      try clear hfz21_0
      try clear hfz21_1
      try clear hfz22_0
      try clear hfz22_1
      try clear hfz22_2
      try clear hfz24_0
      try clear hfz24_1
      try clear hfz24_2
      try clear hfz7_0
      try clear hfz7_1
      try clear hfz7_2
      try clear hx329_0
      try clear hx329_1
      try clear hx332_0
      try clear hx332_1
      try clear hx334_0
      try clear hx334_1
      try clear p2
      try clear p3
      try clear p32
      try clear p329
      try clear p33
      try clear p332
      try clear p334
      try clear p6
      try clear q3
      try clear q32
      try clear q329
      try clear q33
      try clear q332
      try clear q334
      obtain ⟨x8_3, x9_3, rfl, HA, HK3, HO_8, BK324, BK325, BK330, HB⟩ := hrel
      cases gk with
      | zero => exact absurd HA.out (by simp [qx.l1])
      | succ k3 =>
       have H := HA.out
       clear HA
       simp only [qx.l1] at H
       by_cases c37 : x9_3 ≤ x7_31
       case neg =>
        rw [if_neg c37] at H
        have c37b0 : decide (x9_3 ≤ x7_31) = false := decide_eq_false c37
        clear c37
        obtain rfl := Option.some.inj H
        go_wp2
        go_ret
        exact ⟨_, by first | rfl | (simp [qR, qU] <;> rfl) | (simp [*, qR, qU] <;> rfl), by (with_reducible repeat (first | apply Kd.zX | apply Kd.z8 | apply Kd.zR)); exact Kd.zq HO_8.out (fun _ hk => trivial), by repeat (first | (with_reducible first | exact HB.out | apply qp | apply qo | apply qz | refine qg ?_ GE324.out | refine qg ?_ GE325.out | refine qg ?_ GE330.out) | exact HB.out)⟩
       rw [if_pos c37] at H
       have c37b0 : decide (x9_3 ≤ x7_31) = true := decide_eq_true c37
       clear c37
       by_cases c38 : (l1_0.length : Int) = 1
       ·rw [if_pos c38] at H
        have c38b0 : ((l1_0.length : Int) == 1) = true := beq_iff_eq.mpr c38
        have c38b1 : ((l1_0.length : Int) != 1) = false := bne_eq_false_iff_eq.mpr c38
        clear c38
        replace H := Option.bind_eq_some_iff.mp H
        obtain ⟨t339, A390, H⟩ := H
        replace H : ((za.f k3 (wrap64 ((wrap64 ((wrap64 ((wrap64 (a0_1 * (wrap64 (x7_31 - x9_3)))) * (wrap64 (x7_31 - x9_3)))) + (wrap64 ((wrap64 ((wrap64 (2 * ((qG l1_0 0).f1))) * x9_3)) * (wrap64 (x7_31 - x9_3)))))) + (wrap64 ((wrap64 (a1_2 * x9_3)) * x9_3)))) (wrap64 (x7_31 * x7_31))).bind fun t340 => (if x8_3.length < 8796093022208 then (qx.l1 k3 x7_31 (x8_3 ++ [(⟨t339, t340⟩ : S35)]) (wrap64 (x9_3 + 1)) a0_0 a0_1 l1_0 a1_1 a1_2 ((qG l1_0 0).f0) ((qG l1_0 0).f1)) else (none))) = some r := H
        have A39 := qa.mk A390
        clear A390
        replace H := Option.bind_eq_some_iff.mp H
        obtain ⟨t340, A400, H⟩ := H
        replace H : (if x8_3.length < 8796093022208 then (qx.l1 k3 x7_31 (x8_3 ++ [(⟨t339, t340⟩ : S35)]) (wrap64 (x9_3 + 1)) a0_0 a0_1 l1_0 a1_1 a1_2 ((qG l1_0 0).f0) ((qG l1_0 0).f1)) else (none)) = some r := H
        have A40 := qa.mk A400
        clear A400
        by_cases c41 : x8_3.length < 8796093022208
        case neg =>
         rw [if_neg c41] at H
         exact absurd H (by simp)
        rw [if_pos c41] at H
        have LMc41 := qa.mk c41
        clear c41
        obtain ⟨y341, hy341⟩ : ∃ y_ : List (S35), y_ = (x8_3 ++ [(⟨t339, t340⟩ : S35)]) := ⟨_, rfl⟩
        replace H : (qx.l1 k3 x7_31 y341 (wrap64 (x9_3 + 1)) a0_0 a0_1 l1_0 a1_1 a1_2 ((qG l1_0 0).f0) ((qG l1_0 0).f1)) = some r := by first | (rw [hy341]; with_reducible exact H) | (have H2_ := (Option.bind_some _ _).symm.trans H; rw [hy341]; with_reducible exact H2_) | (have H2_ := (Option.bind_some _ _).symm.trans H; with_reducible exact H2_) | with_reducible exact H | (rw [hy341]; exact H) | exact H
        have Ny341 := qa.mk hy341
        clear hy341
        have H' := qa.mk H
        clear H
        have hnb42 := NB325_324.out
        have hnc42 := NB324_325.out
        have hnb43 := NB325_330.out
        have hnc43 := NB330_325.out
        have hcz44_0 : wr.cell? ⟨gb325, 0, none⟩ = some (.slice (some ad329) l1_0.length c1_0) := (qf BK325.out 0).trans rfl
        have hcz44_1 : wr.cell? ⟨gb325, 1, none⟩ = some (.int .i64 a1_1) := (qf BK325.out 1).trans rfl
        have hcz44_2 : wr.cell? ⟨gb325, 2, none⟩ = some (.int .i64 a1_2) := (qf BK325.out 2).trans rfl
        have hfz44_0 := qj BK325.out 0
        have hfz44_1 := qj BK325.out 1
        have hfz44_2 := qj BK325.out 2
        have hnb45 := NB324_330.out
        have hnc45 := NB330_324.out
        have hcz46_0 : wr.cell? ⟨gb324, 0, none⟩ = some (.int .i64 a0_0) := (qf BK324.out 0).trans rfl
        have hcz46_1 : wr.cell? ⟨gb324, 1, none⟩ = some (.int .i64 a0_1) := (qf BK324.out 1).trans rfl
        have hfz46_0 := qj BK324.out 0
        have hfz46_1 := qj BK324.out 1
        have hcz47_0 : wr.cell? ⟨gb330, 0, none⟩ = some (.int .i64 ((qG l1_0 0).f0)) := (qf BK330.out 0).trans rfl
        have hcz47_1 : wr.cell? ⟨gb330, 1, none⟩ = some (.int .i64 ((qG l1_0 0).f1)) := (qf BK330.out 1).trans rfl
        have hfz47_0 := qj BK330.out 0
        have hfz47_1 := qj BK330.out 1
        go_wp2_with (first | ((with_reducible refine zI (f := 44) rfl ?_); refine jM (some 127) rfl rfl Try.func44 (by kernel_rfl) rfl #[.int .i64 (wrap64 ((wrap64 ((wrap64 ((wrap64 (a0_0 * (wrap64 (x7_31 - x9_3)))) * (wrap64 (x7_31 - x9_3)))) + (wrap64 ((wrap64 ((wrap64 (2 * ((qG l1_0 0).f0))) * x9_3)) * (wrap64 (x7_31 - x9_3)))))) + (wrap64 ((wrap64 (a1_1 * x9_3)) * x9_3)))), .int .i64 (wrap64 (x7_31 * x7_31))] rfl (by (try simp only [List.map_toArray, List.map_cons, List.map_nil]); first | done | rfl | (simp only [List.length_drop, List.length_take]; rfl)) ?_; (with_reducible refine (za.calls k3 (wrap64 ((wrap64 ((wrap64 ((wrap64 (a0_0 * (wrap64 (x7_31 - x9_3)))) * (wrap64 (x7_31 - x9_3)))) + (wrap64 ((wrap64 ((wrap64 (2 * ((qG l1_0 0).f0))) * x9_3)) * (wrap64 (x7_31 - x9_3)))))) + (wrap64 ((wrap64 (a1_1 * x9_3)) * x9_3)))) (wrap64 (x7_31 * x7_31)) t339 _ A39.out).mono ?_); rintro e w' ⟨rfl, ⟨nd, rfl⟩⟩; refine ⟨_, rfl, ?_⟩) | ((with_reducible refine zI (f := 44) rfl ?_); refine jM (some 132) rfl rfl Try.func44 (by kernel_rfl) rfl #[.int .i64 (wrap64 ((wrap64 ((wrap64 ((wrap64 (a0_1 * (wrap64 (x7_31 - x9_3)))) * (wrap64 (x7_31 - x9_3)))) + (wrap64 ((wrap64 ((wrap64 (2 * ((qG l1_0 0).f1))) * x9_3)) * (wrap64 (x7_31 - x9_3)))))) + (wrap64 ((wrap64 (a1_2 * x9_3)) * x9_3)))), .int .i64 (wrap64 (x7_31 * x7_31))] rfl (by (try simp only [List.map_toArray, List.map_cons, List.map_nil]); first | done | rfl | (simp only [List.length_drop, List.length_take]; rfl)) ?_; (with_reducible refine (za.calls k3 (wrap64 ((wrap64 ((wrap64 ((wrap64 (a0_1 * (wrap64 (x7_31 - x9_3)))) * (wrap64 (x7_31 - x9_3)))) + (wrap64 ((wrap64 ((wrap64 (2 * ((qG l1_0 0).f1))) * x9_3)) * (wrap64 (x7_31 - x9_3)))))) + (wrap64 ((wrap64 (a1_2 * x9_3)) * x9_3)))) (wrap64 (x7_31 * x7_31)) t340 _ A40.out).mono ?_); rintro e w' ⟨rfl, ⟨nd, rfl⟩⟩; refine ⟨_, rfl, ?_⟩) | ((with_reducible refine jw (b := .append) (xs := #[.tmp 122, .tmp 134]) rfl ?_); at_builtin; refine Kd.qad k35 (w0 := w) w.heap.size rfl (.tmp 122) (.tmp 134) 33 35 (.agg #[(.int .i64 0), (.int .i64 0)]) 16 rfl Try.underlying33 Jr rfl (by decide) (by omega) u8 x8_3 (⟨t339, t340⟩ : S35) [.int .i64 t339, .int .i64 t340] (fun k_ => k_ ≠ gb324 ∧ k_ ≠ gb330) (fun _ => False) rfl rfl ?aP (fun _ hk => hk.elim) ?aF ?aO ?aB ?aS ?aL ?_; (case aP => exact QB _ _ _ (⟨t339, t340⟩ : S35)); (case aB => exact (by repeat (first | (with_reducible first | exact HB.out | apply qp | apply qo | apply qz | refine qg ?_ GE324.out | refine qg ?_ GE325.out | refine qg ?_ GE330.out) | exact HB.out))); (case aF => exact (fun k_ hk => ⟨Kd.jL (g := gb324) (o := .cells #[.int .i64 a0_0, .int .i64 a0_1] 35 (0, 0)) (kq BK324) k_ hk, Kd.jL (g := gb330) (o := .cells #[.int .i64 ((qG l1_0 0).f0), .int .i64 ((qG l1_0 0).f1)] 35 (0, 0)) (kq BK330) k_ hk⟩)); (case aO => exact (rq HO_8)); (case aS => exact (qy (by repeat (first | (with_reducible first | exact HB.out | apply qp | apply qo | apply qz | refine qg ?_ GE324.out | refine qg ?_ GE325.out | refine qg ?_ GE330.out) | exact HB.out)))); (case aL => have := LMc41.out; omega); intro v342 w48 ho hb hg hat; rw [← Ny341.out] at ho; have n0_ := qa.mk (zy (g := gb324) (o := .cells #[.int .i64 a0_0, .int .i64 a0_1] 35 (0, 0)) (kq BK324) hg (Kd.Q0 HO_8.out (fun _ hk => hk.1))); have n1_ := qa.mk (zy (g := gb325) (o := .cells #[.slice (some ad329) l1_0.length c1_0, .int .i64 a1_1, .int .i64 a1_2] 64 (0, 0)) (kq BK325) hg (Kd.JI HO_8.out BK325.out (by decide))); have n2_ := qa.mk (zy (g := gb330) (o := .cells #[.int .i64 ((qG l1_0 0).f0), .int .i64 ((qG l1_0 0).f1)] 35 (0, 0)) (kq BK330) hg (Kd.Q0 HO_8.out (fun _ hk => hk.2))); have n3_ := qa.mk (hb); have n4_ := qa.mk (ho); clear BK324; clear BK325; clear BK330; clear HB; clear HO_8; have BK324 := n0_; have BK325 := n1_; have BK330 := n2_; have HB := n3_; have HO343 := n4_; clear n0_ n1_ n2_ n3_ n4_; clear ho hb hg hat))
        go_roundg k3
        case measure => have := HJ11.out; have := HJ31.out; have := HK3.out; omega
        case rel => exact ⟨(y341), (wrap64 (x9_3 + 1)), (by first | rfl | (simp; done) | (simp [*]; done)), H', ⟨by have := HJ11.out; have := HJ31.out; have := HK3.out; omega⟩, ⟨rq HO343⟩, ⟨kq BK324⟩, ⟨kq BK325⟩, ⟨kq BK330⟩, ⟨by repeat (first | (with_reducible first | exact HB.out | apply qp | apply qo | apply qz | refine qg ?_ GE324.out | refine qg ?_ GE325.out | refine qg ?_ GE330.out) | exact HB.out)⟩⟩
       rw [if_neg c38] at H
       have c38b0 : ((l1_0.length : Int) == 1) = false := beq_eq_false_iff_ne.mpr c38
       have c38b1 : ((l1_0.length : Int) != 1) = true := bne_iff_ne.mpr c38
       by_cases c49 : 1 < (l1_0.length : Int)
       case neg =>
        rw [if_neg c49] at H
        exact absurd H (by simp)
       rw [if_pos c49] at H
       have c49b0 : decide (1 < (l1_0.length : Int)) = true := decide_eq_true c49
       have c49b1 : decide (1 < l1_0.length) = true := decide_eq_true (by omega)
       clear c49
       replace H := Option.bind_eq_some_iff.mp H
       obtain ⟨t346, A500, H⟩ := H
       replace H : ((za.f k3 (wrap64 ((wrap64 ((wrap64 ((wrap64 ((wrap64 ((wrap64 (a0_1 * (wrap64 (x7_31 - x9_3)))) * (wrap64 (x7_31 - x9_3)))) * (wrap64 (x7_31 - x9_3)))) + (wrap64 ((wrap64 ((wrap64 ((wrap64 (3 * ((qG l1_0 0).f1))) * x9_3)) * (wrap64 (x7_31 - x9_3)))) * (wrap64 (x7_31 - x9_3)))))) + (wrap64 ((wrap64 ((wrap64 ((wrap64 (3 * ((qG l1_0 1).f1))) * x9_3)) * x9_3)) * (wrap64 (x7_31 - x9_3)))))) + (wrap64 ((wrap64 ((wrap64 (a1_2 * x9_3)) * x9_3)) * x9_3)))) (wrap64 ((wrap64 (x7_31 * x7_31)) * x7_31))).bind fun t347 => (if x8_3.length < 8796093022208 then (qx.l1 k3 x7_31 (x8_3 ++ [(⟨t346, t347⟩ : S35)]) (wrap64 (x9_3 + 1)) a0_0 a0_1 l1_0 a1_1 a1_2 ((qG l1_0 0).f0) ((qG l1_0 0).f1)) else (none))) = some r := H
       have A50 := qa.mk A500
       clear A500
       replace H := Option.bind_eq_some_iff.mp H
       obtain ⟨t347, A510, H⟩ := H
       replace H : (if x8_3.length < 8796093022208 then (qx.l1 k3 x7_31 (x8_3 ++ [(⟨t346, t347⟩ : S35)]) (wrap64 (x9_3 + 1)) a0_0 a0_1 l1_0 a1_1 a1_2 ((qG l1_0 0).f0) ((qG l1_0 0).f1)) else (none)) = some r := H
       have A51 := qa.mk A510
       clear A510
       by_cases c52 : x8_3.length < 8796093022208
       case neg =>
        rw [if_neg c52] at H
        exact absurd H (by simp)
       rw [if_pos c52] at H
       have LMc52 := qa.mk c52
       clear c52
       obtain ⟨y348, hy348⟩ : ∃ y_ : List (S35), y_ = (x8_3 ++ [(⟨t346, t347⟩ : S35)]) := ⟨_, rfl⟩
       replace H : (qx.l1 k3 x7_31 y348 (wrap64 (x9_3 + 1)) a0_0 a0_1 l1_0 a1_1 a1_2 ((qG l1_0 0).f0) ((qG l1_0 0).f1)) = some r := by first | (rw [hy348]; with_reducible exact H) | (have H2_ := (Option.bind_some _ _).symm.trans H; rw [hy348]; with_reducible exact H2_) | (have H2_ := (Option.bind_some _ _).symm.trans H; with_reducible exact H2_) | with_reducible exact H | (rw [hy348]; exact H) | exact H
       have Ny348 := qa.mk hy348
       clear hy348
       have H' := qa.mk H
       clear H
       have hnb53 := NB325_324.out
       have hnc53 := NB324_325.out
       have hnb54 := NB325_330.out
       have hnc54 := NB330_325.out
       have hcz55_0 : wr.cell? ⟨gb325, 0, none⟩ = some (.slice (some ad329) l1_0.length c1_0) := (qf BK325.out 0).trans rfl
       have hcz55_1 : wr.cell? ⟨gb325, 1, none⟩ = some (.int .i64 a1_1) := (qf BK325.out 1).trans rfl
       have hcz55_2 : wr.cell? ⟨gb325, 2, none⟩ = some (.int .i64 a1_2) := (qf BK325.out 2).trans rfl
       have hfz55_0 := qj BK325.out 0
       have hfz55_1 := qj BK325.out 1
       have hfz55_2 := qj BK325.out 2
       have p344 : 0 ≤ (1 : Int) := (by omega)
       have q344 : 1 < (l1_0.length : Int) := odt
       obtain ⟨ad344, e344, hx344_0, hx344_1⟩ := Z8 HR1_0.out 1 p344 q344
       obtain rfl : ad329 = ad344 := (by injection e344)
       (try simp only [show (1 : Int).toNat = 1 from rfl, Nat.reduceMul, Nat.reduceEqDiff, Go.Addr.add, ↓reduceIte] at hx344_0)
       (try simp only [show (1 : Int).toNat = 1 from rfl, Nat.reduceMul, Nat.reduceEqDiff, Go.Addr.add, ↓reduceIte] at hx344_1)
       have qi344 : (1 < l1_0.length) = True := eq_true (by omega)
       (try rw [show ((1 : Int)).toNat = 1 from rfl] at hx344_0)
       (try rw [show 1 * 2 = 2 from rfl] at hx344_0)
       (try rw [show ((1 : Int)).toNat = 1 from rfl] at hx344_1)
       (try rw [show 1 * 2 = 2 from rfl] at hx344_1)
       replace hx344_0 := (HB.out.cell (World.block_lt_of_cell? w _ hx344_0)).trans hx344_0
       replace hx344_1 := (HB.out.cell (World.block_lt_of_cell? w _ hx344_1)).trans hx344_1
       replace p344 := eq_true p344
       replace q344 := eq_true q344
       go_wp2_with (first | ((with_reducible refine zf (N := 13) rfl ?_); refine zm ?hg (N := 13) ?hd (cs := #[.int .i64 0, .int .i64 0]) (t := 35) ?hr ?_; (case hd => rfl); (case hg => rfl); (case hr => first | (go_simp; done) | (go_simp; rfl)); intro gb345 hg w56 hbox hb; have n0_ := qa.mk (Kd.QJ (Kd.R_elderB (rq HO_8) gb345 (Nat.le_of_eq hg.symm)) hb); have n1_ := qa.mk (qN (g := gb324) (o := .cells #[.int .i64 a0_0, .int .i64 a0_1] 35 (0, 0)) (kq BK324) hb); have n2_ := qa.mk (qN (g := gb325) (o := .cells #[.slice (some ad329) l1_0.length c1_0, .int .i64 a1_1, .int .i64 a1_2] 64 (0, 0)) (kq BK325) hb); have n3_ := qa.mk (qN (g := gb330) (o := .cells #[.int .i64 ((qG l1_0 0).f0), .int .i64 ((qG l1_0 0).f1)] 35 (0, 0)) (kq BK330) hb); have n4_ := qa.mk (qE (by repeat (first | (with_reducible first | exact HB.out | apply qp | apply qo | apply qz | refine qg ?_ GE324.out | refine qg ?_ GE325.out | refine qg ?_ GE330.out) | exact HB.out)) hb); have n5_ := qa.mk (hbox); have n6_ := qa.mk ((by rw [hg]; exact (qy (by repeat (first | (with_reducible first | exact HB.out | apply qp | apply qo | apply qz | refine qg ?_ GE324.out | refine qg ?_ GE325.out | refine qg ?_ GE330.out) | exact HB.out))) : w.heap.size ≤ gb345)); have n7_ := qa.mk ((by rw [hg]; exact (qy (by repeat (first | (with_reducible first | exact HB.out | apply qp | apply qo | apply qz | refine qg ?_ GE324.out | refine qg ?_ GE325.out | refine qg ?_ GE330.out) | exact HB.out))) : w.heap.size ≤ gb345)); have n8_ := qa.mk ((by rw [hg]; exact Nat.ne_of_lt (qD (g := gb324) (o := .cells #[.int .i64 a0_0, .int .i64 a0_1] 35 (0, 0)) (kq BK324)) : gb324 ≠ gb345)); have n9_ := qa.mk ((by rw [hg]; exact Nat.ne_of_gt (qD (g := gb324) (o := .cells #[.int .i64 a0_0, .int .i64 a0_1] 35 (0, 0)) (kq BK324)) : gb345 ≠ gb324)); have n10_ := qa.mk ((by rw [hg]; exact Nat.ne_of_lt (qD (g := gb325) (o := .cells #[.slice (some ad329) l1_0.length c1_0, .int .i64 a1_1, .int .i64 a1_2] 64 (0, 0)) (kq BK325)) : gb325 ≠ gb345)); have n11_ := qa.mk ((by rw [hg]; exact Nat.ne_of_gt (qD (g := gb325) (o := .cells #[.slice (some ad329) l1_0.length c1_0, .int .i64 a1_1, .int .i64 a1_2] 64 (0, 0)) (kq BK325)) : gb345 ≠ gb325)); have n12_ := qa.mk ((by rw [hg]; exact Nat.ne_of_lt (qD (g := gb330) (o := .cells #[.int .i64 ((qG l1_0 0).f0), .int .i64 ((qG l1_0 0).f1)] 35 (0, 0)) (kq BK330)) : gb330 ≠ gb345)); have n13_ := qa.mk ((by rw [hg]; exact Nat.ne_of_gt (qD (g := gb330) (o := .cells #[.int .i64 ((qG l1_0 0).f0), .int .i64 ((qG l1_0 0).f1)] 35 (0, 0)) (kq BK330)) : gb345 ≠ gb330)); clear HO_8; clear BK324; clear BK325; clear BK330; clear HB; have HO_8 := n0_; have BK324 := n1_; have BK325 := n2_; have BK330 := n3_; have HB := n4_; have BK345 := n5_; have GW345 := n6_; have GE345 := n7_; have NB324_345 := n8_; have NB345_324 := n9_; have NB325_345 := n10_; have NB345_325 := n11_; have NB330_345 := n12_; have NB345_330 := n13_; clear n0_ n1_ n2_ n3_ n4_ n5_ n6_ n7_ n8_ n9_ n10_ n11_ n12_ n13_; clear hb hbox hg; have hnb57 := NB345_324.out; have hnc57 := NB324_345.out; have hnb58 := NB345_325.out; have hnc58 := NB325_345.out; have hnb59 := NB345_330.out; have hnc59 := NB330_345.out; have hcz60_0 : w56.cell? ⟨gb345, 0, none⟩ = some (.int .i64 0) := (qf BK345.out 0).trans rfl; have hcz60_1 : w56.cell? ⟨gb345, 1, none⟩ = some (.int .i64 0) := (qf BK345.out 1).trans rfl; have hfz60_0 := qj BK345.out 0; have hfz60_1 := qj BK345.out 1; have hnb61 := NB324_330.out; have hnc61 := NB330_324.out; have hcz62_0 : w56.cell? ⟨gb324, 0, none⟩ = some (.int .i64 a0_0) := (qf BK324.out 0).trans rfl; have hcz62_1 : w56.cell? ⟨gb324, 1, none⟩ = some (.int .i64 a0_1) := (qf BK324.out 1).trans rfl; have hfz62_0 := qj BK324.out 0; have hfz62_1 := qj BK324.out 1; have hcz63_0 : w56.cell? ⟨gb330, 0, none⟩ = some (.int .i64 ((qG l1_0 0).f0)) := (qf BK330.out 0).trans rfl; have hcz63_1 : w56.cell? ⟨gb330, 1, none⟩ = some (.int .i64 ((qG l1_0 0).f1)) := (qf BK330.out 1).trans rfl; have hfz63_0 := qj BK330.out 0; have hfz63_1 := qj BK330.out 1; have hcz64_0 : w56.cell? ⟨gb325, 0, none⟩ = some (.slice (some ad329) l1_0.length c1_0) := (qf BK325.out 0).trans rfl; have hcz64_1 : w56.cell? ⟨gb325, 1, none⟩ = some (.int .i64 a1_1) := (qf BK325.out 1).trans rfl; have hcz64_2 : w56.cell? ⟨gb325, 2, none⟩ = some (.int .i64 a1_2) := (qf BK325.out 2).trans rfl; have hfz64_0 := qj BK325.out 0; have hfz64_1 := qj BK325.out 1; have hfz64_2 := qj BK325.out 2) | ((with_reducible refine zI (f := 44) rfl ?_); refine jM (some 223) rfl rfl Try.func44 (by kernel_rfl) rfl #[.int .i64 (wrap64 ((wrap64 ((wrap64 ((wrap64 ((wrap64 ((wrap64 (a0_0 * (wrap64 (x7_31 - x9_3)))) * (wrap64 (x7_31 - x9_3)))) * (wrap64 (x7_31 - x9_3)))) + (wrap64 ((wrap64 ((wrap64 ((wrap64 (3 * ((qG l1_0 0).f0))) * x9_3)) * (wrap64 (x7_31 - x9_3)))) * (wrap64 (x7_31 - x9_3)))))) + (wrap64 ((wrap64 ((wrap64 ((wrap64 (3 * ((qG l1_0 1).f0))) * x9_3)) * x9_3)) * (wrap64 (x7_31 - x9_3)))))) + (wrap64 ((wrap64 ((wrap64 (a1_1 * x9_3)) * x9_3)) * x9_3)))), .int .i64 (wrap64 ((wrap64 (x7_31 * x7_31)) * x7_31))] rfl (by (try simp only [List.map_toArray, List.map_cons, List.map_nil]); first | done | rfl | (simp only [List.length_drop, List.length_take]; rfl)) ?_; (with_reducible refine (za.calls k3 (wrap64 ((wrap64 ((wrap64 ((wrap64 ((wrap64 ((wrap64 (a0_0 * (wrap64 (x7_31 - x9_3)))) * (wrap64 (x7_31 - x9_3)))) * (wrap64 (x7_31 - x9_3)))) + (wrap64 ((wrap64 ((wrap64 ((wrap64 (3 * ((qG l1_0 0).f0))) * x9_3)) * (wrap64 (x7_31 - x9_3)))) * (wrap64 (x7_31 - x9_3)))))) + (wrap64 ((wrap64 ((wrap64 ((wrap64 (3 * ((qG l1_0 1).f0))) * x9_3)) * x9_3)) * (wrap64 (x7_31 - x9_3)))))) + (wrap64 ((wrap64 ((wrap64 (a1_1 * x9_3)) * x9_3)) * x9_3)))) (wrap64 ((wrap64 (x7_31 * x7_31)) * x7_31)) t346 _ A50.out).mono ?_); rintro e w' ⟨rfl, ⟨nd, rfl⟩⟩; refine ⟨_, rfl, ?_⟩) | ((with_reducible refine zI (f := 44) rfl ?_); refine jM (some 230) rfl rfl Try.func44 (by kernel_rfl) rfl #[.int .i64 (wrap64 ((wrap64 ((wrap64 ((wrap64 ((wrap64 ((wrap64 (a0_1 * (wrap64 (x7_31 - x9_3)))) * (wrap64 (x7_31 - x9_3)))) * (wrap64 (x7_31 - x9_3)))) + (wrap64 ((wrap64 ((wrap64 ((wrap64 (3 * ((qG l1_0 0).f1))) * x9_3)) * (wrap64 (x7_31 - x9_3)))) * (wrap64 (x7_31 - x9_3)))))) + (wrap64 ((wrap64 ((wrap64 ((wrap64 (3 * ((qG l1_0 1).f1))) * x9_3)) * x9_3)) * (wrap64 (x7_31 - x9_3)))))) + (wrap64 ((wrap64 ((wrap64 (a1_2 * x9_3)) * x9_3)) * x9_3)))), .int .i64 (wrap64 ((wrap64 (x7_31 * x7_31)) * x7_31))] rfl (by (try simp only [List.map_toArray, List.map_cons, List.map_nil]); first | done | rfl | (simp only [List.length_drop, List.length_take]; rfl)) ?_; (with_reducible refine (za.calls k3 (wrap64 ((wrap64 ((wrap64 ((wrap64 ((wrap64 ((wrap64 (a0_1 * (wrap64 (x7_31 - x9_3)))) * (wrap64 (x7_31 - x9_3)))) * (wrap64 (x7_31 - x9_3)))) + (wrap64 ((wrap64 ((wrap64 ((wrap64 (3 * ((qG l1_0 0).f1))) * x9_3)) * (wrap64 (x7_31 - x9_3)))) * (wrap64 (x7_31 - x9_3)))))) + (wrap64 ((wrap64 ((wrap64 ((wrap64 (3 * ((qG l1_0 1).f1))) * x9_3)) * x9_3)) * (wrap64 (x7_31 - x9_3)))))) + (wrap64 ((wrap64 ((wrap64 (a1_2 * x9_3)) * x9_3)) * x9_3)))) (wrap64 ((wrap64 (x7_31 * x7_31)) * x7_31)) t347 _ A51.out).mono ?_); rintro e w' ⟨rfl, ⟨nd, rfl⟩⟩; refine ⟨_, rfl, ?_⟩) | ((with_reducible refine jw (b := .append) (xs := #[.tmp 216, .tmp 232]) rfl ?_); at_builtin; refine Kd.qad k35 (w0 := w) w.heap.size rfl (.tmp 216) (.tmp 232) 33 35 (.agg #[(.int .i64 0), (.int .i64 0)]) 16 rfl Try.underlying33 Jr rfl (by decide) (by omega) u8 x8_3 (⟨t346, t347⟩ : S35) [.int .i64 t346, .int .i64 t347] (fun k_ => k_ ≠ gb324 ∧ k_ ≠ gb330 ∧ k_ ≠ gb345) (fun _ => False) rfl (by first | (go_simp; done) | (go_simp; rfl)) ?aP (fun _ hk => hk.elim) ?aF ?aO ?aB ?aS ?aL ?_; (case aP => exact QB _ _ _ (⟨t346, t347⟩ : S35)); (case aB => exact (by repeat (first | (with_reducible first | exact HB.out | apply qp | apply qo | apply qz | refine qg ?_ GE324.out | refine qg ?_ GE325.out | refine qg ?_ GE330.out | refine qg ?_ GE345.out) | exact HB.out))); (case aF => exact (fun k_ hk => ⟨Kd.jL (g := gb324) (o := .cells #[.int .i64 a0_0, .int .i64 a0_1] 35 (0, 0)) (by (with_reducible repeat (first | refine qh ?_ _ | refine qc ?_ | refine qd ?_ _)); refine qJ ?_ NB324_345.out _; refine qJ ?_ NB324_345.out _; exact kq BK324) k_ hk, Kd.jL (g := gb330) (o := .cells #[.int .i64 ((qG l1_0 0).f0), .int .i64 ((qG l1_0 0).f1)] 35 (0, 0)) (by (with_reducible repeat (first | refine qh ?_ _ | refine qc ?_ | refine qd ?_ _)); refine qJ ?_ NB330_345.out _; refine qJ ?_ NB330_345.out _; exact kq BK330) k_ hk, Kd.jL (g := gb345) (o := .cells #[.int .i64 ((qG l1_0 1).f0), .int .i64 ((qG l1_0 1).f1)] 35 (0, 0)) (by (with_reducible repeat (first | refine qh ?_ _ | refine qc ?_ | refine qd ?_ _)); refine zb (cs := #[.int .i64 ((qG l1_0 1).f0), .int .i64 0]) ?_ 1 _ rfl; refine zb (cs := #[.int .i64 0, .int .i64 0]) ?_ 0 _ rfl; exact kq BK345) k_ hk⟩)); (case aO => exact (by (with_reducible repeat (first | apply Kd.zX | apply Kd.z8 | apply Kd.zR)); exact Kd.zq (Kd.jh (p := ⟨gb345, 1, none⟩) (Kd.jh (p := ⟨gb345, 0, none⟩) (Kd.zq HO_8.out (fun k_ hk => (⟨hk, hk.2⟩ : _ ∧ k_ ≠ gb345))) (fun _ hk => hk.2) (.int .i64 ((qG l1_0 1).f0))) (fun _ hk => hk.2) (.int .i64 ((qG l1_0 1).f1))) (fun _ hk => ⟨hk.1.1.1, ⟨hk.1.1.2, hk.1.2⟩⟩))); (case aS => exact (qy (by repeat (first | (with_reducible first | exact HB.out | apply qp | apply qo | apply qz | refine qg ?_ GE324.out | refine qg ?_ GE325.out | refine qg ?_ GE330.out | refine qg ?_ GE345.out) | exact HB.out)))); (case aL => have := LMc52.out; omega); intro v349 w65 ho hb hg hat; rw [← Ny348.out] at ho; have n0_ := qa.mk (zy (g := gb324) (o := .cells #[.int .i64 a0_0, .int .i64 a0_1] 35 (0, 0)) (by (with_reducible repeat (first | refine qh ?_ _ | refine qc ?_ | refine qd ?_ _)); refine qJ ?_ NB324_345.out _; refine qJ ?_ NB324_345.out _; exact kq BK324) hg (Kd.Q0 HO_8.out (fun _ hk => hk.1.1))); have n1_ := qa.mk (zy (g := gb325) (o := .cells #[.slice (some ad329) l1_0.length c1_0, .int .i64 a1_1, .int .i64 a1_2] 64 (0, 0)) (by (with_reducible repeat (first | refine qh ?_ _ | refine qc ?_ | refine qd ?_ _)); refine qJ ?_ NB325_345.out _; refine qJ ?_ NB325_345.out _; exact kq BK325) hg (Kd.JI HO_8.out BK325.out (by decide))); have n2_ := qa.mk (zy (g := gb330) (o := .cells #[.int .i64 ((qG l1_0 0).f0), .int .i64 ((qG l1_0 0).f1)] 35 (0, 0)) (by (with_reducible repeat (first | refine qh ?_ _ | refine qc ?_ | refine qd ?_ _)); refine qJ ?_ NB330_345.out _; refine qJ ?_ NB330_345.out _; exact kq BK330) hg (Kd.Q0 HO_8.out (fun _ hk => hk.1.2))); have n3_ := qa.mk (zy (g := gb345) (o := .cells #[.int .i64 ((qG l1_0 1).f0), .int .i64 ((qG l1_0 1).f1)] 35 (0, 0)) (by (with_reducible repeat (first | refine qh ?_ _ | refine qc ?_ | refine qd ?_ _)); refine zb (cs := #[.int .i64 ((qG l1_0 1).f0), .int .i64 0]) ?_ 1 _ rfl; refine zb (cs := #[.int .i64 0, .int .i64 0]) ?_ 0 _ rfl; exact kq BK345) hg (Kd.Q0 HO_8.out (fun _ hk => hk.2))); have n4_ := qa.mk (hb); have n5_ := qa.mk (ho); clear BK324; clear BK325; clear BK330; clear BK345; clear HB; clear HO_8; have BK324 := n0_; have BK325 := n1_; have BK330 := n2_; have BK345 := n3_; have HB := n4_; have HO350 := n5_; clear n0_ n1_ n2_ n3_ n4_ n5_; clear ho hb hg hat))
       go_roundg k3
       case measure => have := HJ11.out; have := HJ31.out; have := HK3.out; omega
       case rel => exact ⟨(y348), (wrap64 (x9_3 + 1)), (by first | rfl | (simp; done) | (simp [*]; done)), H', ⟨by have := HJ11.out; have := HJ31.out; have := HK3.out; omega⟩, ⟨by (with_reducible repeat (first | apply Kd.zX | apply Kd.z8 | apply Kd.zR)); exact Kd.zq HO350.out (fun _ hk => ⟨hk.1, hk.2.1⟩)⟩, ⟨kq BK324⟩, ⟨kq BK325⟩, ⟨kq BK330⟩, ⟨by repeat (first | (with_reducible first | exact HB.out | apply qp | apply qo | apply qz | refine qg ?_ GE324.out | refine qg ?_ GE325.out | refine qg ?_ GE330.out | refine qg ?_ GE345.out) | exact HB.out)⟩⟩
end Go.Proofs.Ytmlkpadlafjfeaa.P
