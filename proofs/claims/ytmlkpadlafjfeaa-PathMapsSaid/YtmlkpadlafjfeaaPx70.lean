import Derived.Test.YtmlkpadlafjfeaaPx90
import Derived.Test.YtmlkpadlafjfeaaPx13
namespace Go.Proofs.Ytmlkpadlafjfeaa.P
open Go.RowKit Go.Proofs.YtmlkpadlafjfeaaW.PrintWords Go.Proofs.YtmlkpadlafjfeaaW.PrintLast Go.Proofs.YtmlkpadlafjfeaaW.PrintMore
attribute [local go_sem] zH zK zU zT zB zC zJ zI
set_option linter.unusedVariables false
set_option linter.unusedSimpArgs false
def jQ.f (k : Nat) (a0 : Int) (a1 : Int) (a2 : Int) (a3 : Int) : Option (Int × Int) := (zA.f k (([a0, a1, a2, a3] : List Int))).bind fun t726 => (if t726 = true then ((qI.f k (wrap64 ((wrap64 (a0 * a2)) + (wrap64 (a1 * a3)))) 1 16384).bind fun bt727 => (some (bt727.1, bt727.2))) else (some (0, 14)))
theorem jQ.mono : ∀ a0 a1 a2 a3 k, LeO (jQ.f k a0 a1 a2 a3) (jQ.f (k + 1) a0 a1 a2 a3) := by
 intro a0 a1 a2 a3 k
 unfold jQ.f
 repeat' first
   | (with_reducible exact qI.mono _ _ _ _)
   | (with_reducible exact zA.mono _ _)
   | (with_reducible exact LeO.refl _)
   | (with_reducible exact LeO.none _)
   | (with_reducible refine LeO.ite ?_ ?_)
   | (with_reducible refine LeO.bind ?_ (fun _ => ?_))
   | exact qI.mono _ _ _ _
   | exact zA.mono _ _
   | exact LeO.none _
   | refine LeO.ite ?_ ?_
   | refine LeO.bind ?_ (fun _ => ?_)
set_option maxHeartbeats 8000000 in
set_option maxRecDepth 100000 in
theorem jQ.calls (k : Nat) (a0 : Int) (a1 : Int) (a2 : Int) (a3 : Int) (r1 : Int) (r2 : Int) (w : World) (h : jQ.f k a0 a1 a2 a3 = some (r1, r2)) :
  Calls Try.prog 39 #[.int .i64 a0, .int .i64 a1, .int .i64 a2, .int .i64 a3] w fun e w' => e = .returned (.tuple #[.int .i64 r1, .int .i64 r2]) ∧ Below w.heap.size w w' := by
 have HB := qa.mk (Below.refl w.heap.size w)
 have H : ((zA.f k (([a0, a1, a2, a3] : List Int))).bind fun t726 => (if t726 = true then ((qI.f k (wrap64 ((wrap64 (a0 * a2)) + (wrap64 (a1 * a3)))) 1 16384).bind fun bt727 => (some (bt727.1, bt727.2))) else (some (0, 14)))) = some (r1, r2) := h
 clear h
 obtain ⟨y723, hy723⟩ : ∃ y_ : List Int, y_ = (([a0, a1, a2, a3] : List Int)) := ⟨_, rfl⟩
 replace H : ((zA.f k y723).bind fun t726 => (if t726 = true then ((qI.f k (wrap64 ((wrap64 (a0 * a2)) + (wrap64 (a1 * a3)))) 1 16384).bind fun bt727 => (some (bt727.1, bt727.2))) else (some (0, 14)))) = some (r1, r2) := by first | (rw [hy723]; with_reducible exact H) | (have H2_ := (Option.bind_some _ _).symm.trans H; rw [hy723]; with_reducible exact H2_) | (have H2_ := (Option.bind_some _ _).symm.trans H; with_reducible exact H2_) | with_reducible exact H | (rw [hy723]; exact H) | exact H
 have Ny723 := qa.mk hy723
 clear hy723
 replace H := Option.bind_eq_some_iff.mp H
 obtain ⟨t726, A50, H⟩ := H
 replace H : (if t726 = true then ((qI.f k (wrap64 ((wrap64 (a0 * a2)) + (wrap64 (a1 * a3)))) 1 16384).bind fun bt727 => (some (bt727.1, bt727.2))) else (some (0, 14))) = some (r1, r2) := H
 have A5 := qa.mk A50
 clear A50
 by_cases c6 : t726 = true
 case neg =>
  replace c6 := Bool.eq_false_iff.mpr c6
  subst c6
  have H1 : (some (0, 14)) = some (r1, r2) := by rw [if_neg (show ¬ (false = true) by decide)] at H; exact H
  clear H
  have H := H1
  clear H1
  simp only [Option.some.injEq, Prod.mk.injEq] at H
  obtain ⟨rfl, rfl⟩ := H
  go_enter Try.func39, Try.ntmps39
  go_wp2_with (first | ((with_reducible refine zl (N := 14) rfl ?_); refine Kd.Za (Kd.int .i64) _ 3 ?hg (N := 14) ?hd (xs := ([a0, a1, a2, a3] : List Int)) (inner := [.int .i64 a0, .int .i64 a1, .int .i64 a2, .int .i64 a3]) (ok := fun _ => True) (okp := fun _ => True) ?hr ?hp (fun _ hk => hk) trivial (Below.refl _ _) (Nat.le_refl _) (by simp) ?_; (case hd => rfl); (case hg => rfl); (case hr => first | (go_simp; done) | (go_simp; rfl)); (case hp => exact (zn.one (show Kd.M (Kd.int .i64) _ _ _ a0 [.int .i64 a0] from rfl) (zn.one (show Kd.M (Kd.int .i64) _ _ _ a1 [.int .i64 a1] from rfl) (zn.one (show Kd.M (Kd.int .i64) _ _ _ a2 [.int .i64 a2] from rfl) (zn.one (show Kd.M (Kd.int .i64) _ _ _ a3 [.int .i64 a3] from rfl) (zn.none _ _)))))); intro v724 w12 ho13 hb hg_ hnew_; clear hg_ hnew_; (first | rw [← Ny723.out] at ho13 | (simp only [Int.reduceToNat] at ho13; rw [← Ny723.out] at ho13)); have n0_ := qa.mk (Kd.jU ho13 (qx (bq HB))); have n1_ := qa.mk (qh (bq HB) hb); clear HB; have HO725 := n0_; have HB := n1_; clear n0_ n1_; clear hb ho13; obtain ⟨Ao14, co14, eo14⟩ := Kd.zX HO725.out; subst eo14) | ((with_reducible refine zf (f := 57) rfl ?_); refine zR (some 15) rfl rfl Try.func57 (by kernel_rfl) rfl #[.slice Ao14 y723.length co14] rfl (by (try simp only [List.map_toArray, List.map_cons, List.map_nil]); first | done | rfl | (simp only [List.length_drop, List.length_take]; rfl)) ?_; (with_reducible refine (zA.calls k _ _ y723 false _ ?side1 ?side2 A5.out).mono ?_); (case side1 => repeat (first | exact (Kd.jq HO725.out).2.2 | (with_reducible refine Kd.jY ?_ _) | (with_reducible refine Kd.j6 ?_ _) | (with_reducible refine Kd.Qt ?_))); (case side2 => exact (Kd.jq HO725.out).2.1); rintro e w' ⟨rfl, ⟨nd, rfl⟩⟩; refine ⟨_, rfl, ?_⟩))
  go_ret2
  exact ⟨by first | rfl | (simp [qR, qU] <;> rfl) | (simp [*, qR, qU] <;> rfl), bq HB⟩
 subst c6
 have H1 : ((qI.f k (wrap64 ((wrap64 (a0 * a2)) + (wrap64 (a1 * a3)))) 1 16384).bind fun bt727 => (some (bt727.1, bt727.2))) = some (r1, r2) := by rw [if_pos rfl] at H; exact H
 clear H
 have H := H1
 clear H1
 replace H := Option.bind_eq_some_iff.mp H
 obtain ⟨⟨t727, t728⟩, A70, H⟩ := H
 replace H : (some (t727, t728)) = some (r1, r2) := H
 have A7 := qa.mk A70
 clear A70
 simp only [Option.some.injEq, Prod.mk.injEq] at H
 obtain ⟨rfl, rfl⟩ := H
 go_enter Try.func39, Try.ntmps39
 go_wp2_with (first | ((with_reducible refine zl (N := 14) rfl ?_); refine Kd.Za (Kd.int .i64) _ 3 ?hg (N := 14) ?hd (xs := ([a0, a1, a2, a3] : List Int)) (inner := [.int .i64 a0, .int .i64 a1, .int .i64 a2, .int .i64 a3]) (ok := fun _ => True) (okp := fun _ => True) ?hr ?hp (fun _ hk => hk) trivial (Below.refl _ _) (Nat.le_refl _) (by simp) ?_; (case hd => rfl); (case hg => rfl); (case hr => first | (go_simp; done) | (go_simp; rfl)); (case hp => exact (zn.one (show Kd.M (Kd.int .i64) _ _ _ a0 [.int .i64 a0] from rfl) (zn.one (show Kd.M (Kd.int .i64) _ _ _ a1 [.int .i64 a1] from rfl) (zn.one (show Kd.M (Kd.int .i64) _ _ _ a2 [.int .i64 a2] from rfl) (zn.one (show Kd.M (Kd.int .i64) _ _ _ a3 [.int .i64 a3] from rfl) (zn.none _ _)))))); intro v724 w8 ho9 hb hg_ hnew_; clear hg_ hnew_; (first | rw [← Ny723.out] at ho9 | (simp only [Int.reduceToNat] at ho9; rw [← Ny723.out] at ho9)); have n0_ := qa.mk (Kd.jU ho9 (qx (bq HB))); have n1_ := qa.mk (qh (bq HB) hb); clear HB; have HO725 := n0_; have HB := n1_; clear n0_ n1_; clear hb ho9; obtain ⟨Ao10, co10, eo10⟩ := Kd.zX HO725.out; subst eo10) | ((with_reducible refine zf (f := 57) rfl ?_); refine zR (some 15) rfl rfl Try.func57 (by kernel_rfl) rfl #[.slice Ao10 y723.length co10] rfl (by (try simp only [List.map_toArray, List.map_cons, List.map_nil]); first | done | rfl | (simp only [List.length_drop, List.length_take]; rfl)) ?_; (with_reducible refine (zA.calls k _ _ y723 true _ ?side1 ?side2 A5.out).mono ?_); (case side1 => repeat (first | exact (Kd.jq HO725.out).2.2 | (with_reducible refine Kd.jY ?_ _) | (with_reducible refine Kd.j6 ?_ _) | (with_reducible refine Kd.Qt ?_))); (case side2 => exact (Kd.jq HO725.out).2.1); rintro e w' ⟨rfl, ⟨nd, rfl⟩⟩; refine ⟨_, rfl, ?_⟩) | ((with_reducible refine zf (f := 41) rfl ?_); refine zR (some 24) rfl rfl Try.func41 (by kernel_rfl) rfl #[.int .i64 (wrap64 ((wrap64 (a0 * a2)) + (wrap64 (a1 * a3)))), .int .i64 1, .int .i64 16384] rfl (by (try simp only [List.map_toArray, List.map_cons, List.map_nil]); first | done | rfl | (simp only [List.length_drop, List.length_take]; rfl)) ?_; (with_reducible refine (qI.calls k (wrap64 ((wrap64 (a0 * a2)) + (wrap64 (a1 * a3)))) 1 16384 t727 t728 _ A7.out).mono ?_); rintro e w11 ⟨rfl, hb⟩; refine ⟨_, rfl, ?_⟩; have n0_ := qa.mk (Kd.QC (rq HO725) hb); have n1_ := qa.mk (qh (bq HB) hb); clear HO725; clear HB; have HO725 := n0_; have HB := n1_; clear n0_ n1_; (try clear hb); (try clear hb2); (try clear hk); (try clear hi)))
 go_ret2
 exact ⟨by first | rfl | (simp [qR, qU] <;> rfl) | (simp [*, qR, qU] <;> rfl), bq HB⟩
end Go.Proofs.Ytmlkpadlafjfeaa.P
