-- written by a program of this session (wip/xprint.py) over the kit's print
import Derived.Test.YtmlkpadlafjfeaaPx0
import Derived.Test.YtmlkpadlafjfeaaPx90
import Derived.Test.YtmlkpadlafjfeaaPx24
import Derived.Test.YtmlkpadlafjfeaaPx26
import Derived.Test.YtmlkpadlafjfeaaPx30
import Derived.Test.YtmlkpadlafjfeaaPx44
import Derived.Test.YtmlkpadlafjfeaaPx45
import Derived.Test.YtmlkpadlafjfeaaPx48
import Derived.Test.YtmlkpadlafjfeaaPx50
namespace Go.Proofs.Ytmlkpadlafjfeaa.P
open Go.RowKit Go.Proofs.YtmlkpadlafjfeaaW.PrintWords Go.Proofs.YtmlkpadlafjfeaaW.PrintLast Go.Proofs.YtmlkpadlafjfeaaW.PrintMore
attribute [local go_sem] max2_int min2_int max_two min_two max_three min_three max_four min_four   -- for this text's walks alone
set_option linter.unusedVariables false
set_option linter.unusedSimpArgs false

attribute [local go_sem high] eqA45
/-! ### seriflaw06_PathHulls: function 8 -/
mutual
def seriflaw06_PathHulls.j0 : Nat → List (List (S40)) → Bool → Int → Int → Int → Int → Option (Bool)
 | 0, _, _, _, _, _, _ => none
 | k + 1, x0, x34, x508000, x508001, x508002, x508003 => if x34 = true then (none) else ((serifref06_Copy.f k x0).bind fun t508 => ((path_Flat.f k t508).bind fun bt511 => (if bt511.2 = 0 then (seriflaw06_PathHulls.l0 k bt511.1 (([] : List (S35))) bt511.1 (bt511.1.length : Int) 0 x508000 x508001 x508002 x508003) else (some ((bt511.1.length : Int) == 0)))))
def seriflaw06_PathHulls.l0 : Nat → List (List (S35)) → List (S35) → List (List (S35)) → Int → Int → Int → Int → Int → Int → Option (Bool)
 | 0, _, _, _, _, _, _, _, _, _ => none
 | k + 1, x7, x9, x47, x48, x49, x508000, x508001, x508002, x508003 => if x49 < x48 then (if 0 ≤ x49 then (if x49 < (x47.length : Int) then (if x9.length + (rd_L4 x47 x49).length < 8796093022208 then (seriflaw06_PathHulls.l0 k x7 (x9 ++ (rd_L4 x47 x49)) x47 x48 (wrap64 (x49 + 1)) x508000 x508001 x508002 x508003) else (none)) else (none)) else (none)) else ((serifref06_Hull.f k x9).bind fun bt522 => ((path_Bounds.f k x7).bind fun bt527 => (if (bt527.2.2.2.2 != bt522.2.2.2.2) = true then (none) else (if (!(bt527.1 == bt522.1) || (!(bt527.2.1 == bt522.2.1) || (!(bt527.2.2.1 == bt522.2.2.1) || (!(bt527.2.2.2.1 == bt522.2.2.2.1))))) = true then (none) else (if bt527.2.2.2.2 = true then (if bt527.1 ≥ x508000 then (if bt527.2.1 ≥ x508001 then (if bt527.2.2.1 ≤ x508002 then (some (decide (bt527.2.2.2.1 ≤ x508003))) else (none)) else (none)) else (none)) else (some true))))))
end
def seriflaw06_PathHulls.f (k : Nat) (l0 : List (List (S40))) : Option (Bool) := (seriflaw06_pathAlive.f k).bind fun t489 => (if t489 = true then ((serifref06_Spots.f k l0).bind fun t490 => ((serifref06_Hull.f k t490).bind fun bt493 => ((serifref06_Copy.f k l0).bind fun t499 => ((path_Hull.f k t499).bind fun bt502 => (if (bt502.2.2.2.2 != bt493.2.2.2.2) = true then (seriflaw06_PathHulls.j0 k l0 true bt502.1 bt502.2.1 bt502.2.2.1 bt502.2.2.2.1) else (seriflaw06_PathHulls.j0 k l0 (!(bt502.1 == bt493.1) || (!(bt502.2.1 == bt493.2.1) || (!(bt502.2.2.1 == bt493.2.2.1) || (!(bt502.2.2.2.1 == bt493.2.2.2.1))))) bt502.1 bt502.2.1 bt502.2.2.1 bt502.2.2.2.1)))))) else (none))
theorem seriflaw06_PathHulls.mono_l : ∀ k, (∀ y0 y1 y2 y3 y4 y5, LeO (seriflaw06_PathHulls.j0 k y0 y1 y2 y3 y4 y5) (seriflaw06_PathHulls.j0 (k + 1) y0 y1 y2 y3 y4 y5)) ∧ (∀ y0 y1 y2 y3 y4 y5 y6 y7 y8, LeO (seriflaw06_PathHulls.l0 k y0 y1 y2 y3 y4 y5 y6 y7 y8) (seriflaw06_PathHulls.l0 (k + 1) y0 y1 y2 y3 y4 y5 y6 y7 y8))
 | 0 => ⟨fun _ _ _ _ _ _ r h => by simp [seriflaw06_PathHulls.j0] at h, fun _ _ _ _ _ _ _ _ _ r h => by simp [seriflaw06_PathHulls.l0] at h⟩
 | k + 1 => by
  obtain ⟨ih0, ih1⟩ := seriflaw06_PathHulls.mono_l k
  refine ⟨?_, ?_⟩
  ·intro y0 y1 y2 y3 y4 y5
   unfold seriflaw06_PathHulls.j0
   repeat' first
   | (with_reducible exact ih0 _ _ _ _ _ _)
   | (with_reducible exact ih1 _ _ _ _ _ _ _ _ _)
   | (with_reducible exact path_Bounds.mono _ _)
   | (with_reducible exact path_Flat.mono _ _)
   | (with_reducible exact path_Hull.mono _ _)
   | (with_reducible exact seriflaw06_pathAlive.mono _)
   | (with_reducible exact serifref06_Copy.mono _ _)
   | (with_reducible exact serifref06_Hull.mono _ _)
   | (with_reducible exact serifref06_Spots.mono _ _)
   | (with_reducible exact LeO.refl _)
   | (with_reducible exact LeO.none _)
   | (with_reducible refine LeO.ite ?_ ?_)
   | (with_reducible refine LeO.bind ?_ (fun _ => ?_))
   | exact ih0 _ _ _ _ _ _
   | exact ih1 _ _ _ _ _ _ _ _ _
   | exact path_Bounds.mono _ _
   | exact path_Flat.mono _ _
   | exact path_Hull.mono _ _
   | exact seriflaw06_pathAlive.mono _
   | exact serifref06_Copy.mono _ _
   | exact serifref06_Hull.mono _ _
   | exact serifref06_Spots.mono _ _
   | exact LeO.none _
   | refine LeO.ite ?_ ?_
   | refine LeO.bind ?_ (fun _ => ?_)
  ·intro y0 y1 y2 y3 y4 y5 y6 y7 y8
   unfold seriflaw06_PathHulls.l0
   repeat' first
   | (with_reducible exact ih0 _ _ _ _ _ _)
   | (with_reducible exact ih1 _ _ _ _ _ _ _ _ _)
   | (with_reducible exact path_Bounds.mono _ _)
   | (with_reducible exact path_Flat.mono _ _)
   | (with_reducible exact path_Hull.mono _ _)
   | (with_reducible exact seriflaw06_pathAlive.mono _)
   | (with_reducible exact serifref06_Copy.mono _ _)
   | (with_reducible exact serifref06_Hull.mono _ _)
   | (with_reducible exact serifref06_Spots.mono _ _)
   | (with_reducible exact LeO.refl _)
   | (with_reducible exact LeO.none _)
   | (with_reducible refine LeO.ite ?_ ?_)
   | (with_reducible refine LeO.bind ?_ (fun _ => ?_))
   | exact ih0 _ _ _ _ _ _
   | exact ih1 _ _ _ _ _ _ _ _ _
   | exact path_Bounds.mono _ _
   | exact path_Flat.mono _ _
   | exact path_Hull.mono _ _
   | exact seriflaw06_pathAlive.mono _
   | exact serifref06_Copy.mono _ _
   | exact serifref06_Hull.mono _ _
   | exact serifref06_Spots.mono _ _
   | exact LeO.none _
   | refine LeO.ite ?_ ?_
   | refine LeO.bind ?_ (fun _ => ?_)
theorem seriflaw06_PathHulls.mono : ∀ a0 k, LeO (seriflaw06_PathHulls.f k a0) (seriflaw06_PathHulls.f (k + 1) a0) := by
 intro a0 k
 obtain ⟨ih0, ih1⟩ := seriflaw06_PathHulls.mono_l k
 unfold seriflaw06_PathHulls.f
 repeat' first
   | (with_reducible exact ih0 _ _ _ _ _ _)
   | (with_reducible exact ih1 _ _ _ _ _ _ _ _ _)
   | (with_reducible exact path_Bounds.mono _ _)
   | (with_reducible exact path_Flat.mono _ _)
   | (with_reducible exact path_Hull.mono _ _)
   | (with_reducible exact seriflaw06_pathAlive.mono _)
   | (with_reducible exact serifref06_Copy.mono _ _)
   | (with_reducible exact serifref06_Hull.mono _ _)
   | (with_reducible exact serifref06_Spots.mono _ _)
   | (with_reducible exact LeO.refl _)
   | (with_reducible exact LeO.none _)
   | (with_reducible refine LeO.ite ?_ ?_)
   | (with_reducible refine LeO.bind ?_ (fun _ => ?_))
   | exact ih0 _ _ _ _ _ _
   | exact ih1 _ _ _ _ _ _ _ _ _
   | exact path_Bounds.mono _ _
   | exact path_Flat.mono _ _
   | exact path_Hull.mono _ _
   | exact seriflaw06_pathAlive.mono _
   | exact serifref06_Copy.mono _ _
   | exact serifref06_Hull.mono _ _
   | exact serifref06_Spots.mono _ _
   | exact LeO.none _
   | refine LeO.ite ?_ ?_
   | refine LeO.bind ?_ (fun _ => ?_)
set_option maxHeartbeats 8000000 in
set_option maxRecDepth 100000 in
theorem seriflaw06_PathHulls.calls (k : Nat) (A0 : Option Addr) (c0 : Nat) (l0 : List (List (S40))) (r : Bool) (w : World) (hr0 : Kd.C (Kd.slice 40 k40) w A0 l0.length l0) (hc0 : l0.length ≤ c0) (h : seriflaw06_PathHulls.f k l0 = some r) :
  Calls Try.prog 8 #[.slice A0 l0.length c0] w fun e w' => e = .returned (.bool r) ∧ Below w.heap.size w w' := by
 have hu45 := Try.underlying45
 have HR0 := Aside0.mk hr0
 have HC0 := Aside0.mk hc0
 clear hr0 hc0
 have HB := Aside0.mk (Below.refl w.heap.size w)
 have H : ((seriflaw06_pathAlive.f k).bind fun t489 => (if t489 = true then ((serifref06_Spots.f k l0).bind fun t490 => ((serifref06_Hull.f k t490).bind fun bt493 => ((serifref06_Copy.f k l0).bind fun t499 => ((path_Hull.f k t499).bind fun bt502 => (if (bt502.2.2.2.2 != bt493.2.2.2.2) = true then (seriflaw06_PathHulls.j0 k l0 true bt502.1 bt502.2.1 bt502.2.2.1 bt502.2.2.2.1) else (seriflaw06_PathHulls.j0 k l0 (!(bt502.1 == bt493.1) || (!(bt502.2.1 == bt493.2.1) || (!(bt502.2.2.1 == bt493.2.2.1) || (!(bt502.2.2.2.1 == bt493.2.2.2.1))))) bt502.1 bt502.2.1 bt502.2.2.1 bt502.2.2.2.1)))))) else (none))) = some r := h
 clear h
 replace H := Option.bind_eq_some_iff.mp H
 obtain ⟨t489, A20, H⟩ := H
 replace H : (if t489 = true then ((serifref06_Spots.f k l0).bind fun t490 => ((serifref06_Hull.f k t490).bind fun bt493 => ((serifref06_Copy.f k l0).bind fun t499 => ((path_Hull.f k t499).bind fun bt502 => (if (bt502.2.2.2.2 != bt493.2.2.2.2) = true then (seriflaw06_PathHulls.j0 k l0 true bt502.1 bt502.2.1 bt502.2.2.1 bt502.2.2.2.1) else (seriflaw06_PathHulls.j0 k l0 (!(bt502.1 == bt493.1) || (!(bt502.2.1 == bt493.2.1) || (!(bt502.2.2.1 == bt493.2.2.1) || (!(bt502.2.2.2.1 == bt493.2.2.2.1))))) bt502.1 bt502.2.1 bt502.2.2.1 bt502.2.2.2.1)))))) else (none)) = some r := H
 have A2 := Aside0.mk A20
 clear A20
 by_cases c3 : t489 = true
 ·subst c3
  have H1 : ((serifref06_Spots.f k l0).bind fun t490 => ((serifref06_Hull.f k t490).bind fun bt493 => ((serifref06_Copy.f k l0).bind fun t499 => ((path_Hull.f k t499).bind fun bt502 => (if (bt502.2.2.2.2 != bt493.2.2.2.2) = true then (seriflaw06_PathHulls.j0 k l0 true bt502.1 bt502.2.1 bt502.2.2.1 bt502.2.2.2.1) else (seriflaw06_PathHulls.j0 k l0 (!(bt502.1 == bt493.1) || (!(bt502.2.1 == bt493.2.1) || (!(bt502.2.2.1 == bt493.2.2.1) || (!(bt502.2.2.2.1 == bt493.2.2.2.1))))) bt502.1 bt502.2.1 bt502.2.2.1 bt502.2.2.2.1)))))) = some r := by rw [if_pos rfl] at H; exact H
  clear H
  have H := H1
  clear H1
  replace H := Option.bind_eq_some_iff.mp H
  obtain ⟨t490, A40, H⟩ := H
  replace H : ((serifref06_Hull.f k t490).bind fun bt493 => ((serifref06_Copy.f k l0).bind fun t499 => ((path_Hull.f k t499).bind fun bt502 => (if (bt502.2.2.2.2 != bt493.2.2.2.2) = true then (seriflaw06_PathHulls.j0 k l0 true bt502.1 bt502.2.1 bt502.2.2.1 bt502.2.2.2.1) else (seriflaw06_PathHulls.j0 k l0 (!(bt502.1 == bt493.1) || (!(bt502.2.1 == bt493.2.1) || (!(bt502.2.2.1 == bt493.2.2.1) || (!(bt502.2.2.2.1 == bt493.2.2.2.1))))) bt502.1 bt502.2.1 bt502.2.2.1 bt502.2.2.2.1))))) = some r := H
  have A4 := Aside0.mk A40
  clear A40
  replace H := Option.bind_eq_some_iff.mp H
  obtain ⟨⟨t493, t494, t495, t496, t497⟩, A50, H⟩ := H
  replace H : ((serifref06_Copy.f k l0).bind fun t499 => ((path_Hull.f k t499).bind fun bt502 => (if (bt502.2.2.2.2 != t497) = true then (seriflaw06_PathHulls.j0 k l0 true bt502.1 bt502.2.1 bt502.2.2.1 bt502.2.2.2.1) else (seriflaw06_PathHulls.j0 k l0 (!(bt502.1 == t493) || (!(bt502.2.1 == t494) || (!(bt502.2.2.1 == t495) || (!(bt502.2.2.2.1 == t496))))) bt502.1 bt502.2.1 bt502.2.2.1 bt502.2.2.2.1)))) = some r := H
  have A5 := Aside0.mk A50
  clear A50
  replace H := Option.bind_eq_some_iff.mp H
  obtain ⟨t499, A60, H⟩ := H
  replace H : ((path_Hull.f k t499).bind fun bt502 => (if (bt502.2.2.2.2 != t497) = true then (seriflaw06_PathHulls.j0 k l0 true bt502.1 bt502.2.1 bt502.2.2.1 bt502.2.2.2.1) else (seriflaw06_PathHulls.j0 k l0 (!(bt502.1 == t493) || (!(bt502.2.1 == t494) || (!(bt502.2.2.1 == t495) || (!(bt502.2.2.2.1 == t496))))) bt502.1 bt502.2.1 bt502.2.2.1 bt502.2.2.2.1))) = some r := H
  have A6 := Aside0.mk A60
  clear A60
  replace H := Option.bind_eq_some_iff.mp H
  obtain ⟨⟨t502, t503, t504, t505, t506⟩, A70, H⟩ := H
  replace H : (if (t506 != t497) = true then (seriflaw06_PathHulls.j0 k l0 true t502 t503 t504 t505) else (seriflaw06_PathHulls.j0 k l0 (!(t502 == t493) || (!(t503 == t494) || (!(t504 == t495) || (!(t505 == t496))))) t502 t503 t504 t505)) = some r := H
  have A7 := Aside0.mk A70
  clear A70
  have HC8 := Aside0.mk H
  clear H
  go_enter Try.func8, Try.ntmps8
  go_upto_region 5 with (first | ((with_reducible refine gate_callee (f := 10) rfl ?_); refine goesL_ (some 13) rfl rfl Try.func10 (by kernel_rfl) rfl #[] rfl (by (try simp only [List.map_toArray, List.map_cons, List.map_nil]); first | done | rfl | (simp only [List.length_drop, List.length_take]; rfl)) ?_; (with_reducible refine (seriflaw06_pathAlive.calls k  true _ A2.out).mono ?_); rintro e w9 ⟨rfl, hb⟩; refine ⟨_, rfl, ?_⟩; have n0_ := Aside0.mk (below_step (bq HB) hb); clear HB; have HB := n0_; clear n0_; (try clear hb); (try clear hb2); (try clear hk); (try clear hi)) | ((with_reducible refine gate_callee (f := 19) rfl ?_); refine goesL_ (some 17) rfl rfl Try.func19 (by kernel_rfl) rfl #[.slice A0 l0.length c0] rfl (by (try simp only [List.map_toArray, List.map_cons, List.map_nil]); first | done | rfl | (simp only [List.length_drop, List.length_take]; rfl)) ?_; (with_reducible refine (serifref06_Spots.calls k _ _ l0 t490 _ ?side1 ?side2 A4.out).mono ?_); (case side1 => repeat (first | exact (Kd.C_below HR0.out HB.out) | (with_reducible refine Kd.C_alloc ?_ _) | (with_reducible refine Kd.C_drewN ?_ _) | (with_reducible refine Kd.C_drew ?_))); (case side2 => exact HC0.out); rintro e w10 ⟨v491, rfl, ho0, hb⟩; refine ⟨_, rfl, ?_⟩; have n0_ := Aside0.mk (Kd.R_lower ho0 (below_size (bq HB))); have n1_ := Aside0.mk (below_step (bq HB) hb); clear HB; have HO492 := n0_; have HB := n1_; clear n0_ n1_; (try clear hb); (try clear hb2); (try clear hk); (try clear hi); (try clear ho0); obtain ⟨Ao11, co11, eo11⟩ := Kd.R_slice HO492.out; subst eo11) | ((with_reducible refine gate_callee (f := 18) rfl ?_); refine goesL_ (some 18) rfl rfl Try.func18 (by kernel_rfl) rfl #[.slice Ao11 t490.length co11] rfl (by (try simp only [List.map_toArray, List.map_cons, List.map_nil]); first | done | rfl | (simp only [List.length_drop, List.length_take]; rfl)) ?_; (with_reducible refine (serifref06_Hull.calls k _ _ t490 t493 t494 t495 t496 t497 _ ?side1 ?side2 A5.out).mono ?_); (case side1 => repeat (first | exact (Kd.R_reads' HO492.out).2.2 | (with_reducible refine Kd.C_alloc ?_ _) | (with_reducible refine Kd.C_drewN ?_ _) | (with_reducible refine Kd.C_drew ?_))); (case side2 => exact (Kd.R_reads' HO492.out).2.1); rintro e w12 ⟨rfl, hb⟩; refine ⟨_, rfl, ?_⟩; have n0_ := Aside0.mk (Kd.R_below (by (with_reducible repeat (first | apply Kd.R_alloc | apply Kd.R_drewN | apply Kd.R_drew)); exact HO492.out) hb); have n1_ := Aside0.mk (below_step (bq HB) hb); clear HO492; clear HB; have HO492 := n0_; have HB := n1_; clear n0_ n1_; (try clear hb); (try clear hb2); (try clear hk); (try clear hi)) | ((with_reducible refine gate_dst (N := 3) rfl ?_); refine box_event ?hg (N := 3) ?hd (cs := #[.int .i64 0, .int .i64 0, .int .i64 0, .int .i64 0]) (t := 45) ?hr ?_; (case hd => rfl); (case hg => rfl); (case hr => first | (go_simp; done) | (go_simp; rfl)); intro gb498 hg w13 hbox hb; have n0_ := Aside0.mk (Kd.R_below (by (with_reducible repeat (first | apply Kd.R_alloc | apply Kd.R_drewN | apply Kd.R_drew)); exact HO492.out) hb); have n1_ := Aside0.mk (below_step (bq HB) hb); have n2_ := Aside0.mk (hbox); have n3_ := Aside0.mk ((by rw [hg]; exact (below_size (bq HB)) : w.heap.size ≤ gb498)); have n4_ := Aside0.mk ((by rw [hg]; exact (below_size (bq HB)) : w.heap.size ≤ gb498)); clear HO492; clear HB; have HO492 := n0_; have HB := n1_; have BK498 := n2_; have GW498 := n3_; have GE498 := n4_; clear n0_ n1_ n2_ n3_ n4_; clear hb hbox hg; have hcz14_0 : w13.cell? ⟨gb498, 0, none⟩ = some (.int .i64 0) := (blk_cell BK498.out 0).trans rfl; have hcz14_1 : w13.cell? ⟨gb498, 1, none⟩ = some (.int .i64 0) := (blk_cell BK498.out 1).trans rfl; have hcz14_2 : w13.cell? ⟨gb498, 2, none⟩ = some (.int .i64 0) := (blk_cell BK498.out 2).trans rfl; have hcz14_3 : w13.cell? ⟨gb498, 3, none⟩ = some (.int .i64 0) := (blk_cell BK498.out 3).trans rfl; have hfz14_0 := blk_frozen BK498.out 0; have hfz14_1 := blk_frozen BK498.out 1; have hfz14_2 := blk_frozen BK498.out 2; have hfz14_3 := blk_frozen BK498.out 3) | ((with_reducible refine gate_callee (f := 11) rfl ?_); refine goesL_ (some 23) rfl rfl Try.func11 (by kernel_rfl) rfl #[.slice A0 l0.length c0] rfl (by (try simp only [List.map_toArray, List.map_cons, List.map_nil]); first | done | rfl | (simp only [List.length_drop, List.length_take]; rfl)) ?_; (with_reducible refine (serifref06_Copy.calls k _ _ l0 t499 _ ?side1 ?side2 A6.out).mono ?_); (case side1 => exact Kd.C_below HR0.out (bs HB GE498)); (case side2 => exact HC0.out); rintro e w15 ⟨v500, rfl, ho0, hb⟩; refine ⟨_, rfl, ?_⟩; have n0_ := Aside0.mk (Kd.R_below (by (with_reducible repeat (first | apply Kd.R_alloc | apply Kd.R_drewN | apply Kd.R_drew)); exact (Kd.R_mono (Kd.R_far (p := ⟨gb498, 3, none⟩) (Kd.R_far (p := ⟨gb498, 2, none⟩) (Kd.R_far (p := ⟨gb498, 1, none⟩) (Kd.R_far (p := ⟨gb498, 0, none⟩) (Kd.R_types HO492.out BK498.out (by decide)) (fun _ hk => hk.2) (.int .i64 t493)) (fun _ hk => hk.2) (.int .i64 t494)) (fun _ hk => hk.2) (.int .i64 t495)) (fun _ hk => hk.2) (.int .i64 t496)) (fun _ h_ => h_.1))) hb); have n1_ := Aside0.mk (Kd.S_lower ho0 (below_size (bs HB GE498))); have n2_ := Aside0.mk (blk_below (g := gb498) (o := .cells #[.int .i64 t493, .int .i64 t494, .int .i64 t495, .int .i64 t496] 45 (0, 0)) (by (with_reducible repeat (first | refine blk_drewN ?_ _ | refine blk_drew ?_ | refine blk_alloc ?_ _)); refine blk_put (cs := #[.int .i64 t493, .int .i64 t494, .int .i64 t495, .int .i64 0]) ?_ 3 _ rfl; (with_reducible repeat (first | refine blk_drewN ?_ _ | refine blk_drew ?_ | refine blk_alloc ?_ _)); refine blk_put (cs := #[.int .i64 t493, .int .i64 t494, .int .i64 0, .int .i64 0]) ?_ 2 _ rfl; (with_reducible repeat (first | refine blk_drewN ?_ _ | refine blk_drew ?_ | refine blk_alloc ?_ _)); refine blk_put (cs := #[.int .i64 t493, .int .i64 0, .int .i64 0, .int .i64 0]) ?_ 1 _ rfl; (with_reducible repeat (first | refine blk_drewN ?_ _ | refine blk_drew ?_ | refine blk_alloc ?_ _)); refine blk_put (cs := #[.int .i64 0, .int .i64 0, .int .i64 0, .int .i64 0]) ?_ 0 _ rfl; (with_reducible repeat (first | refine blk_drewN ?_ _ | refine blk_drew ?_ | refine blk_alloc ?_ _)); exact BK498.out) hb); have n3_ := Aside0.mk (below_step (bs HB GE498) hb); clear HO492; clear BK498; clear HB; have HO492 := n0_; have HO501 := n1_; have BK498 := n2_; have HB := n3_; clear n0_ n1_ n2_ n3_; (try clear hb); (try clear hb2); (try clear hk); (try clear hi); (try clear ho0); obtain ⟨Ao16, co16, eo16⟩ := Kd.S_slice HO501.out; subst eo16) | ((with_reducible refine gate_callee (f := 20) rfl ?_); refine goesL_ (some 24) rfl rfl Try.func20 (by kernel_rfl) rfl #[.slice Ao16 t499.length co16] rfl (by (try simp only [List.map_toArray, List.map_cons, List.map_nil]); first | done | rfl | (simp only [List.length_drop, List.length_take]; rfl)) ?_; (with_reducible refine (path_Hull.calls k _ _ t499 t502 t503 t504 t505 t506 _ ?side1 ?side2 A7.out).mono ?_); (case side1 => repeat (first | exact (Kd.S_reads' HO501.out).2.2 | (with_reducible refine Kd.C_alloc ?_ _) | (with_reducible refine Kd.C_drewN ?_ _) | (with_reducible refine Kd.C_drew ?_))); (case side2 => exact (Kd.S_reads' HO501.out).2.1); rintro e w17 ⟨rfl, hb⟩; refine ⟨_, rfl, ?_⟩; have n0_ := Aside0.mk (Kd.R_below (by (with_reducible repeat (first | apply Kd.R_alloc | apply Kd.R_drewN | apply Kd.R_drew)); exact HO492.out) hb); have n1_ := Aside0.mk (Kd.S_below (by (with_reducible repeat (first | apply Kd.S_alloc | apply Kd.S_drewN | apply Kd.S_drew)); exact HO501.out) hb); have n2_ := Aside0.mk (blk_below (g := gb498) (o := .cells #[.int .i64 t493, .int .i64 t494, .int .i64 t495, .int .i64 t496] 45 (0, 0)) (kq BK498) hb); have n3_ := Aside0.mk (below_step (bs HB GE498) hb); clear HO492; clear HO501; clear BK498; clear HB; have HO492 := n0_; have HO501 := n1_; have BK498 := n2_; have HB := n3_; clear n0_ n1_ n2_ n3_; (try clear hb); (try clear hb2); (try clear hk); (try clear hi)) | ((with_reducible refine gate_dst (N := 5) rfl ?_); refine box_event ?hg (N := 5) ?hd (cs := #[.int .i64 0, .int .i64 0, .int .i64 0, .int .i64 0]) (t := 45) ?hr ?_; (case hd => rfl); (case hg => rfl); (case hr => first | (go_simp; done) | (go_simp; rfl)); intro gb507 hg w18 hbox hb; have n0_ := Aside0.mk (Kd.R_below (by (with_reducible repeat (first | apply Kd.R_alloc | apply Kd.R_drewN | apply Kd.R_drew)); exact HO492.out) hb); have n1_ := Aside0.mk (Kd.S_below (by (with_reducible repeat (first | apply Kd.S_alloc | apply Kd.S_drewN | apply Kd.S_drew)); exact HO501.out) hb); have n2_ := Aside0.mk (blk_below (g := gb498) (o := .cells #[.int .i64 t493, .int .i64 t494, .int .i64 t495, .int .i64 t496] 45 (0, 0)) (kq BK498) hb); have n3_ := Aside0.mk (below_step (bs HB GE498) hb); have n4_ := Aside0.mk (hbox); have n5_ := Aside0.mk ((by rw [hg]; exact (below_size (bs HB GE498)) : w.heap.size ≤ gb507)); have n6_ := Aside0.mk ((by rw [hg]; exact (below_size (bs HB GE498)) : w.heap.size ≤ gb507)); have n7_ := Aside0.mk ((by rw [hg]; exact Nat.ne_of_lt (blk_lt (g := gb498) (o := .cells #[.int .i64 t493, .int .i64 t494, .int .i64 t495, .int .i64 t496] 45 (0, 0)) (kq BK498)) : gb498 ≠ gb507)); have n8_ := Aside0.mk ((by rw [hg]; exact Nat.ne_of_gt (blk_lt (g := gb498) (o := .cells #[.int .i64 t493, .int .i64 t494, .int .i64 t495, .int .i64 t496] 45 (0, 0)) (kq BK498)) : gb507 ≠ gb498)); clear HO492; clear HO501; clear BK498; clear HB; have HO492 := n0_; have HO501 := n1_; have BK498 := n2_; have HB := n3_; have BK507 := n4_; have GW507 := n5_; have GE507 := n6_; have NB498_507 := n7_; have NB507_498 := n8_; clear n0_ n1_ n2_ n3_ n4_ n5_ n6_ n7_ n8_; clear hb hbox hg; have hnb19 := NB507_498.out; have hnc19 := NB498_507.out; have hcz20_0 : w18.cell? ⟨gb507, 0, none⟩ = some (.int .i64 0) := (blk_cell BK507.out 0).trans rfl; have hcz20_1 : w18.cell? ⟨gb507, 1, none⟩ = some (.int .i64 0) := (blk_cell BK507.out 1).trans rfl; have hcz20_2 : w18.cell? ⟨gb507, 2, none⟩ = some (.int .i64 0) := (blk_cell BK507.out 2).trans rfl; have hcz20_3 : w18.cell? ⟨gb507, 3, none⟩ = some (.int .i64 0) := (blk_cell BK507.out 3).trans rfl; have hfz20_0 := blk_frozen BK507.out 0; have hfz20_1 := blk_frozen BK507.out 1; have hfz20_2 := blk_frozen BK507.out 2; have hfz20_3 := blk_frozen BK507.out 3))
  (try simp only [Act.put, List.setIfInBounds_toArray, List.set_cons_zero, List.set_cons_succ])
  go_cut [34] (fun v34 wc => ∃ (kq : Nat) (x34_7 : Bool), v34 = .bool x34_7 ∧ Aside0 (seriflaw06_PathHulls.j0 kq l0 x34_7 t502 t503 t504 t505 = some r) ∧ Aside0 (kq ≤ k) ∧ Aside0 (wc.heap[gb498]? = some (.cells #[.int .i64 t493, .int .i64 t494, .int .i64 t495, .int .i64 t496] 45 (0, 0))) ∧ Aside0 (wc.heap[gb507]? = some (.cells #[.int .i64 t502, .int .i64 t503, .int .i64 t504, .int .i64 t505] 45 (0, 0))) ∧ Aside0 (Below w.heap.size w wc))
  case first =>
   have H := HC8.out
   clear HC8
   by_cases c21 : (t506 != t497) = true
   ·rw [if_pos c21] at H
    have c21b0 : (t506 != t497) = true := c21
    (try (have c21b1 : decide (t506 = t497) = false := by simpa using c21))
    (try (have c21b2 : (t506 == t497) = false := by simpa using c21))
    (try (have c21b3 : ¬ (t506 = t497) := by simpa using c21))
    clear c21
    (first | rw [c21b0] | (simp only [i64_w, i32_w]; rw [c21b0]) | skip)
    have H' := Aside0.mk H
    clear H
    go_wp2
    go_meet
    case rel => exact ⟨_, (true), (by first | rfl | (simp; done) | (simp [*]; done)), H', ⟨by first | omega | exact Nat.le_refl _⟩, ⟨by (with_reducible repeat (first | refine blk_drewN ?_ _ | refine blk_drew ?_ | refine blk_alloc ?_ _)); refine blk_far ?_ NB498_507.out _; (with_reducible repeat (first | refine blk_drewN ?_ _ | refine blk_drew ?_ | refine blk_alloc ?_ _)); refine blk_far ?_ NB498_507.out _; (with_reducible repeat (first | refine blk_drewN ?_ _ | refine blk_drew ?_ | refine blk_alloc ?_ _)); refine blk_far ?_ NB498_507.out _; (with_reducible repeat (first | refine blk_drewN ?_ _ | refine blk_drew ?_ | refine blk_alloc ?_ _)); refine blk_far ?_ NB498_507.out _; (with_reducible repeat (first | refine blk_drewN ?_ _ | refine blk_drew ?_ | refine blk_alloc ?_ _)); exact BK498.out⟩, ⟨by (with_reducible repeat (first | refine blk_drewN ?_ _ | refine blk_drew ?_ | refine blk_alloc ?_ _)); refine blk_put (cs := #[.int .i64 t502, .int .i64 t503, .int .i64 t504, .int .i64 0]) ?_ 3 _ rfl; (with_reducible repeat (first | refine blk_drewN ?_ _ | refine blk_drew ?_ | refine blk_alloc ?_ _)); refine blk_put (cs := #[.int .i64 t502, .int .i64 t503, .int .i64 0, .int .i64 0]) ?_ 2 _ rfl; (with_reducible repeat (first | refine blk_drewN ?_ _ | refine blk_drew ?_ | refine blk_alloc ?_ _)); refine blk_put (cs := #[.int .i64 t502, .int .i64 0, .int .i64 0, .int .i64 0]) ?_ 1 _ rfl; (with_reducible repeat (first | refine blk_drewN ?_ _ | refine blk_drew ?_ | refine blk_alloc ?_ _)); refine blk_put (cs := #[.int .i64 0, .int .i64 0, .int .i64 0, .int .i64 0]) ?_ 0 _ rfl; (with_reducible repeat (first | refine blk_drewN ?_ _ | refine blk_drew ?_ | refine blk_alloc ?_ _)); exact BK507.out⟩, ⟨by repeat (first | (with_reducible first | exact HB.out | apply below_alloc | apply pw_below_drewN | apply below_drew1 | refine below_set ?_ GE498.out | refine below_set ?_ GE507.out) | exact HB.out)⟩⟩
   ·rw [if_neg c21] at H
    have c21b0 : (t506 != t497) = false := by simpa using c21
    (try (have c21b1 : decide (t506 = t497) = true := by simpa using c21))
    (try (have c21b2 : (t506 == t497) = true := by simpa using c21))
    clear c21
    (first | rw [c21b0] | (simp only [i64_w, i32_w]; rw [c21b0]) | skip)
    have H' := Aside0.mk H
    clear H
    have hnb22 := NB507_498.out
    have hnc22 := NB498_507.out
    have hcz23_0 : w18.cell? ⟨gb507, 0, none⟩ = some (.int .i64 0) := (blk_cell BK507.out 0).trans rfl
    have hcz23_1 : w18.cell? ⟨gb507, 1, none⟩ = some (.int .i64 0) := (blk_cell BK507.out 1).trans rfl
    have hcz23_2 : w18.cell? ⟨gb507, 2, none⟩ = some (.int .i64 0) := (blk_cell BK507.out 2).trans rfl
    have hcz23_3 : w18.cell? ⟨gb507, 3, none⟩ = some (.int .i64 0) := (blk_cell BK507.out 3).trans rfl
    have hfz23_0 := blk_frozen BK507.out 0
    have hfz23_1 := blk_frozen BK507.out 1
    have hfz23_2 := blk_frozen BK507.out 2
    have hfz23_3 := blk_frozen BK507.out 3
    have hcz24_0 : w18.cell? ⟨gb498, 0, none⟩ = some (.int .i64 t493) := (blk_cell BK498.out 0).trans rfl
    have hcz24_1 : w18.cell? ⟨gb498, 1, none⟩ = some (.int .i64 t494) := (blk_cell BK498.out 1).trans rfl
    have hcz24_2 : w18.cell? ⟨gb498, 2, none⟩ = some (.int .i64 t495) := (blk_cell BK498.out 2).trans rfl
    have hcz24_3 : w18.cell? ⟨gb498, 3, none⟩ = some (.int .i64 t496) := (blk_cell BK498.out 3).trans rfl
    have hfz24_0 := blk_frozen BK498.out 0
    have hfz24_1 := blk_frozen BK498.out 1
    have hfz24_2 := blk_frozen BK498.out 2
    have hfz24_3 := blk_frozen BK498.out 3
    go_wp2
    go_meet
    case rel => exact ⟨_, ((!(t502 == t493) || (!(t503 == t494) || (!(t504 == t495) || (!(t505 == t496)))))), (by first | rfl | (simp; done) | (simp [*]; done)), H', ⟨by first | omega | exact Nat.le_refl _⟩, ⟨by (with_reducible repeat (first | refine blk_drewN ?_ _ | refine blk_drew ?_ | refine blk_alloc ?_ _)); refine blk_far ?_ NB498_507.out _; (with_reducible repeat (first | refine blk_drewN ?_ _ | refine blk_drew ?_ | refine blk_alloc ?_ _)); refine blk_far ?_ NB498_507.out _; (with_reducible repeat (first | refine blk_drewN ?_ _ | refine blk_drew ?_ | refine blk_alloc ?_ _)); refine blk_far ?_ NB498_507.out _; (with_reducible repeat (first | refine blk_drewN ?_ _ | refine blk_drew ?_ | refine blk_alloc ?_ _)); refine blk_far ?_ NB498_507.out _; (with_reducible repeat (first | refine blk_drewN ?_ _ | refine blk_drew ?_ | refine blk_alloc ?_ _)); exact BK498.out⟩, ⟨by (with_reducible repeat (first | refine blk_drewN ?_ _ | refine blk_drew ?_ | refine blk_alloc ?_ _)); refine blk_put (cs := #[.int .i64 t502, .int .i64 t503, .int .i64 t504, .int .i64 0]) ?_ 3 _ rfl; (with_reducible repeat (first | refine blk_drewN ?_ _ | refine blk_drew ?_ | refine blk_alloc ?_ _)); refine blk_put (cs := #[.int .i64 t502, .int .i64 t503, .int .i64 0, .int .i64 0]) ?_ 2 _ rfl; (with_reducible repeat (first | refine blk_drewN ?_ _ | refine blk_drew ?_ | refine blk_alloc ?_ _)); refine blk_put (cs := #[.int .i64 t502, .int .i64 0, .int .i64 0, .int .i64 0]) ?_ 1 _ rfl; (with_reducible repeat (first | refine blk_drewN ?_ _ | refine blk_drew ?_ | refine blk_alloc ?_ _)); refine blk_put (cs := #[.int .i64 0, .int .i64 0, .int .i64 0, .int .i64 0]) ?_ 0 _ rfl; (with_reducible repeat (first | refine blk_drewN ?_ _ | refine blk_drew ?_ | refine blk_alloc ?_ _)); exact BK507.out⟩, ⟨by repeat (first | (with_reducible first | exact HB.out | apply below_alloc | apply pw_below_drewN | apply below_drew1 | refine below_set ?_ GE498.out | refine below_set ?_ GE507.out) | exact HB.out)⟩⟩
  case rest =>
   clear HC8
   try clear c1
   try clear c2
   try clear p2
   try clear c3
   try clear c8
   try clear c10
   try clear c11
   try clear c18
   try clear c19
   try clear c20
   try clear c21
   try clear c21b0
   try clear c21b1
   try clear c21b2
   try clear c22
   try clear hcz14_0
   try clear hcz14_1
   try clear hcz14_2
   try clear hcz14_3
   try clear hcz20_0
   try clear hcz20_1
   try clear hcz20_2
   try clear hcz20_3
   try clear hcz23_0
   try clear hcz23_1
   try clear hcz23_2
   try clear hcz23_3
   try clear hcz24_0
   try clear hcz24_1
   try clear hcz24_2
   try clear hcz24_3
   try clear hfz14_0
   try clear hfz14_1
   try clear hfz14_2
   try clear hfz14_3
   try clear hfz20_0
   try clear hfz20_1
   try clear hfz20_2
   try clear hfz20_3
   try clear hfz23_0
   try clear hfz23_1
   try clear hfz23_2
   try clear hfz23_3
   try clear hfz24_0
   try clear hfz24_1
   try clear hfz24_2
   try clear hfz24_3
   obtain ⟨kq, x34_7, rfl, HA, HJ7, BK498, BK507, HB⟩ := hcut
   cases kq with
   | zero => exact absurd HA.out (by simp [seriflaw06_PathHulls.j0])
   | succ kj7 =>
    have H := HA.out
    clear HA
    simp only [seriflaw06_PathHulls.j0] at H
    by_cases c25 : x34_7 = true
    ·subst c25
     have H1 : (none) = some r := by rw [if_pos rfl] at H; exact H
     clear H
     have H := H1
     clear H1
     exact absurd H (by simp)
    ·replace c25 := Bool.eq_false_iff.mpr c25
     subst c25
     have H1 : ((serifref06_Copy.f kj7 l0).bind fun t508 => ((path_Flat.f kj7 t508).bind fun bt511 => (if bt511.2 = 0 then (seriflaw06_PathHulls.l0 kj7 bt511.1 (([] : List (S35))) bt511.1 (bt511.1.length : Int) 0 t502 t503 t504 t505) else (some ((bt511.1.length : Int) == 0))))) = some r := by rw [if_neg (show ¬ (false = true) by decide)] at H; exact H
     clear H
     have H := H1
     clear H1
     replace H := Option.bind_eq_some_iff.mp H
     obtain ⟨t508, A260, H⟩ := H
     replace H : ((path_Flat.f kj7 t508).bind fun bt511 => (if bt511.2 = 0 then (seriflaw06_PathHulls.l0 kj7 bt511.1 (([] : List (S35))) bt511.1 (bt511.1.length : Int) 0 t502 t503 t504 t505) else (some ((bt511.1.length : Int) == 0)))) = some r := H
     have A26 := Aside0.mk A260
     clear A260
     replace H := Option.bind_eq_some_iff.mp H
     obtain ⟨⟨t511, t512⟩, A270, H⟩ := H
     replace H : (if t512 = 0 then (seriflaw06_PathHulls.l0 kj7 t511 (([] : List (S35))) t511 (t511.length : Int) 0 t502 t503 t504 t505) else (some ((t511.length : Int) == 0))) = some r := H
     have A27 := Aside0.mk A270
     clear A270
     by_cases c28 : t512 = 0
     ·rw [if_pos c28] at H
      have c28b0 : (t512 == 0) = true := beq_iff_eq.mpr c28
      have c28b1 : (t512 != 0) = false := bne_eq_false_iff_eq.mpr c28
      clear c28
      obtain ⟨y515, hy515⟩ : ∃ y_ : List (S35), y_ = (([] : List (S35))) := ⟨_, rfl⟩
      replace H : (seriflaw06_PathHulls.l0 kj7 t511 y515 t511 (t511.length : Int) 0 t502 t503 t504 t505) = some r := by first | (rw [hy515]; with_reducible exact H) | (have H2_ := (Option.bind_some _ _).symm.trans H; rw [hy515]; with_reducible exact H2_) | (have H2_ := (Option.bind_some _ _).symm.trans H; with_reducible exact H2_) | with_reducible exact H | (rw [hy515]; exact H) | exact H
      have Ny515 := Aside0.mk hy515
      clear hy515
      have H' := Aside0.mk H
      clear H
      go_wp2_with (first | ((with_reducible refine gate_callee (f := 11) rfl ?_); refine goesL_ (some 37) rfl rfl Try.func11 (by kernel_rfl) rfl #[.slice A0 l0.length c0] rfl (by (try simp only [List.map_toArray, List.map_cons, List.map_nil]); first | done | rfl | (simp only [List.length_drop, List.length_take]; rfl)) ?_; (with_reducible refine (serifref06_Copy.calls kj7 _ _ l0 t508 _ ?side1 ?side2 A26.out).mono ?_); (case side1 => repeat (first | exact (Kd.C_below HR0.out HB.out) | (with_reducible refine Kd.C_alloc ?_ _) | (with_reducible refine Kd.C_drewN ?_ _) | (with_reducible refine Kd.C_drew ?_))); (case side2 => exact HC0.out); rintro e w29 ⟨v509, rfl, ho0, hb⟩; refine ⟨_, rfl, ?_⟩; have n0_ := Aside0.mk (Kd.S_lower ho0 (below_size (by repeat (first | (with_reducible first | exact HB.out | apply below_alloc | apply pw_below_drewN | apply below_drew1 | refine below_set ?_ GE498.out | refine below_set ?_ GE507.out) | exact HB.out)))); have n1_ := Aside0.mk (blk_below (g := gb498) (o := .cells #[.int .i64 t493, .int .i64 t494, .int .i64 t495, .int .i64 t496] 45 (0, 0)) (kq BK498) hb); have n2_ := Aside0.mk (blk_below (g := gb507) (o := .cells #[.int .i64 t502, .int .i64 t503, .int .i64 t504, .int .i64 t505] 45 (0, 0)) (kq BK507) hb); have n3_ := Aside0.mk (below_step (by repeat (first | (with_reducible first | exact HB.out | apply below_alloc | apply pw_below_drewN | apply below_drew1 | refine below_set ?_ GE498.out | refine below_set ?_ GE507.out) | exact HB.out)) hb); clear BK498; clear BK507; clear HB; have HO510 := n0_; have BK498 := n1_; have BK507 := n2_; have HB := n3_; clear n0_ n1_ n2_ n3_; (try clear hb); (try clear hb2); (try clear hk); (try clear hi); (try clear ho0); obtain ⟨Ao30, co30, eo30⟩ := Kd.S_slice HO510.out; subst eo30) | ((with_reducible refine gate_callee (f := 13) rfl ?_); refine goesL_ (some 38) rfl rfl Try.func13 (by kernel_rfl) rfl #[.slice Ao30 t508.length co30] rfl (by (try simp only [List.map_toArray, List.map_cons, List.map_nil]); first | done | rfl | (simp only [List.length_drop, List.length_take]; rfl)) ?_; (with_reducible refine (path_Flat.calls kj7 _ _ t508 t511 t512 _ ?side1 ?side2 A27.out).mono ?_); (case side1 => repeat (first | exact (Kd.S_reads' HO510.out).2.2 | (with_reducible refine Kd.C_alloc ?_ _) | (with_reducible refine Kd.C_drewN ?_ _) | (with_reducible refine Kd.C_drew ?_))); (case side2 => exact (Kd.S_reads' HO510.out).2.1); rintro e w31 ⟨v513, rfl, ho0, hb⟩; refine ⟨_, rfl, ?_⟩; have n0_ := Aside0.mk (Kd.S_below (by (with_reducible repeat (first | apply Kd.S_alloc | apply Kd.S_drewN | apply Kd.S_drew)); exact HO510.out) hb); have n1_ := Aside0.mk (Kd.S_lower ho0 (below_size (by repeat (first | (with_reducible first | exact HB.out | apply below_alloc | apply pw_below_drewN | apply below_drew1 | refine below_set ?_ GE498.out | refine below_set ?_ GE507.out) | exact HB.out)))); have n2_ := Aside0.mk (blk_below (g := gb498) (o := .cells #[.int .i64 t493, .int .i64 t494, .int .i64 t495, .int .i64 t496] 45 (0, 0)) (kq BK498) hb); have n3_ := Aside0.mk (blk_below (g := gb507) (o := .cells #[.int .i64 t502, .int .i64 t503, .int .i64 t504, .int .i64 t505] 45 (0, 0)) (kq BK507) hb); have n4_ := Aside0.mk (below_step (by repeat (first | (with_reducible first | exact HB.out | apply below_alloc | apply pw_below_drewN | apply below_drew1 | refine below_set ?_ GE498.out | refine below_set ?_ GE507.out) | exact HB.out)) hb); clear HO510; clear BK498; clear BK507; clear HB; have HO510 := n0_; have HO514 := n1_; have BK498 := n2_; have BK507 := n3_; have HB := n4_; clear n0_ n1_ n2_ n3_ n4_; (try clear hb); (try clear hb2); (try clear hk); (try clear hi); (try clear ho0)) | ((with_reducible refine gate_dst (N := 46) rfl ?_); refine Kd.R_lit k35 _ 35 ?hg (N := 46) ?hd (xs := ([] : List (S35))) (inner := []) (ok := fun _ => True) (okp := fun _ => True) ?hr ?hp (fun _ hk => hk) trivial (Below.refl _ _) (Nat.le_refl _) (by simp) ?_; (case hd => rfl); (case hg => rfl); (case hr => first | (go_simp; done) | (go_simp; rfl)); (case hp => exact (Reps.none _ _)); intro v516 w32 ho33 hb hg_ hnew_; clear hg_ hnew_; (first | rw [← Ny515.out] at ho33 | (simp only [Int.reduceToNat] at ho33; rw [← Ny515.out] at ho33)); have n0_ := Aside0.mk (Kd.S_below (by (with_reducible repeat (first | apply Kd.S_alloc | apply Kd.S_drewN | apply Kd.S_drew)); exact HO510.out) hb); have n1_ := Aside0.mk (Kd.S_elder' (by (with_reducible repeat (first | apply Kd.S_alloc | apply Kd.S_drewN | apply Kd.S_drew)); exact HO514.out) (Kd.R_base ho33) hb); have n2_ := Aside0.mk (Kd.R_lower ho33 (below_size (by repeat (first | (with_reducible first | exact HB.out | apply below_alloc | apply pw_below_drewN | apply below_drew1 | refine below_set ?_ GE498.out | refine below_set ?_ GE507.out) | exact HB.out)))); have n3_ := Aside0.mk (blk_below (g := gb498) (o := .cells #[.int .i64 t493, .int .i64 t494, .int .i64 t495, .int .i64 t496] 45 (0, 0)) (kq BK498) hb); have n4_ := Aside0.mk (blk_below (g := gb507) (o := .cells #[.int .i64 t502, .int .i64 t503, .int .i64 t504, .int .i64 t505] 45 (0, 0)) (kq BK507) hb); have n5_ := Aside0.mk (below_step (by repeat (first | (with_reducible first | exact HB.out | apply below_alloc | apply pw_below_drewN | apply below_drew1 | refine below_set ?_ GE498.out | refine below_set ?_ GE507.out) | exact HB.out)) hb); clear HO510; clear HO514; clear BK498; clear BK507; clear HB; have HO510 := n0_; have HO514 := n1_; have HO517 := n2_; have BK498 := n3_; have BK507 := n4_; have HB := n5_; clear n0_ n1_ n2_ n3_ n4_ n5_; clear hb ho33; obtain ⟨Ao34, co34, eo34⟩ := Kd.S_slice HO514.out; subst eo34))
      go_loopg [9, 49] kj7 (fun kq v9 v49 w' => ∃ (x9_2 : List (S35)) (x49_2 : Int), v49 = .int .i64 x49_2 ∧ Aside0 (seriflaw06_PathHulls.l0 kq t511 x9_2 t511 (t511.length : Int) x49_2 t502 t503 t504 t505 = some r) ∧ Aside0 (kq ≤ kj7) ∧ Aside0 (Kd.S (Kd.slice 35 k35) 33 w' w.heap.size (fun k_ => some k_ ≠ (v9 : Value).ownBlock) (.slice Ao34 t511.length co34) t511) ∧ Aside0 (Kd.R k35 35 w' w.heap.size (fun _ => True) v9 x9_2) ∧ Aside0 (Kd.S (Kd.slice 35 k35) 33 w' w.heap.size (fun k_ => some k_ ≠ (v9 : Value).ownBlock) (.slice Ao34 t511.length co34) t511) ∧ Aside0 (w'.heap[gb498]? = some (.cells #[.int .i64 t493, .int .i64 t494, .int .i64 t495, .int .i64 t496] 45 (0, 0))) ∧ Aside0 (w'.heap[gb507]? = some (.cells #[.int .i64 t502, .int .i64 t503, .int .i64 t504, .int .i64 t505] 45 (0, 0))) ∧ Aside0 (Below w.heap.size w w'))
      case atStart => exact ⟨(y515), (0), (by first | rfl | (simp; done) | (simp [*]; done)), H', ⟨Nat.le_refl _⟩, ⟨by (with_reducible repeat (first | apply Kd.S_alloc | apply Kd.S_drewN | apply Kd.S_drew)); exact Kd.S_mono HO514.out (fun _ hk => hk.2)⟩, ⟨by (with_reducible repeat (first | apply Kd.R_alloc | apply Kd.R_drewN | apply Kd.R_drew)); exact HO517.out⟩, ⟨by (with_reducible repeat (first | apply Kd.S_alloc | apply Kd.S_drewN | apply Kd.S_drew)); exact Kd.S_mono HO514.out (fun _ hk => hk.2)⟩, ⟨by (with_reducible repeat (first | refine blk_drewN ?_ _ | refine blk_drew ?_ | refine blk_alloc ?_ _)); exact BK498.out⟩, ⟨by (with_reducible repeat (first | refine blk_drewN ?_ _ | refine blk_drew ?_ | refine blk_alloc ?_ _)); exact BK507.out⟩, ⟨by repeat (first | (with_reducible first | exact HB.out | apply below_alloc | apply pw_below_drewN | apply below_drew1 | refine below_set ?_ GE498.out | refine below_set ?_ GE507.out) | exact HB.out)⟩⟩
      case round =>
       clear H'
       try clear c1
       try clear c2
       try clear p2
       try clear c3
       try clear c8
       try clear c10
       try clear c11
       try clear c13
       try clear c18
       try clear c19
       try clear c20
       try clear c21
       try clear c21b0
       try clear c21b1
       try clear c21b2
       try clear c22
       try clear c25
       try clear c28
       try clear c28b0
       try clear c28b1
       try clear hcz14_0
       try clear hcz14_1
       try clear hcz14_2
       try clear hcz14_3
       try clear hcz20_0
       try clear hcz20_1
       try clear hcz20_2
       try clear hcz20_3
       try clear hcz23_0
       try clear hcz23_1
       try clear hcz23_2
       try clear hcz23_3
       try clear hcz24_0
       try clear hcz24_1
       try clear hcz24_2
       try clear hcz24_3
       try clear hfz14_0
       try clear hfz14_1
       try clear hfz14_2
       try clear hfz14_3
       try clear hfz20_0
       try clear hfz20_1
       try clear hfz20_2
       try clear hfz20_3
       try clear hfz23_0
       try clear hfz23_1
       try clear hfz23_2
       try clear hfz23_3
       try clear hfz24_0
       try clear hfz24_1
       try clear hfz24_2
       try clear hfz24_3
       try clear p2
       obtain ⟨x9_2, x49_2, rfl, HA, HK2, HO_7, HO_9, HO_47, BK498, BK507, HB⟩ := hrel
       cases gk with
       | zero => exact absurd HA.out (by simp [seriflaw06_PathHulls.l0])
       | succ k2 =>
        have H := HA.out
        clear HA
        simp only [seriflaw06_PathHulls.l0] at H
        by_cases c35 : x49_2 < (t511.length : Int)
        ·rw [if_pos c35] at H
         have c35b0 : decide (x49_2 < (t511.length : Int)) = true := decide_eq_true c35
         clear c35
         by_cases c36 : 0 ≤ x49_2
         ·rw [if_pos c36] at H
          have c36b0 : decide (0 ≤ x49_2) = true := decide_eq_true c36
          clear c36
          by_cases c37 : x49_2 < (t511.length : Int)
          ·rw [if_pos c37] at H
           have c37b0 : decide (x49_2 < (t511.length : Int)) = true := decide_eq_true c37
           clear c37
           by_cases c38 : x9_2.length + (rd_L4 t511 x49_2).length < 8796093022208
           ·rw [if_pos c38] at H
            have LMc38 := Aside0.mk c38
            clear c38
            obtain ⟨y519, hy519⟩ : ∃ y_ : List (S35), y_ = (x9_2 ++ (rd_L4 t511 x49_2)) := ⟨_, rfl⟩
            replace H : (seriflaw06_PathHulls.l0 k2 t511 y519 t511 (t511.length : Int) (wrap64 (x49_2 + 1)) t502 t503 t504 t505) = some r := by first | (rw [hy519]; with_reducible exact H) | (have H2_ := (Option.bind_some _ _).symm.trans H; rw [hy519]; with_reducible exact H2_) | (have H2_ := (Option.bind_some _ _).symm.trans H; with_reducible exact H2_) | with_reducible exact H | (rw [hy519]; exact H) | exact H
            have Ny519 := Aside0.mk hy519
            clear hy519
            have H' := Aside0.mk H
            clear H
            have p518 : 0 ≤ (x49_2 : Int) := odt
            have q518 : x49_2 < (t511.length : Int) := odt
            obtain ⟨ad518, A518_0, c518_0, e518, hx518_0, hl518_0, hi518_0⟩ := at_L4 (Kd.S_reads' HO_47.out).2.2 x49_2 p518 q518
            cases e518
            obtain ⟨ce518, hce518, hMe518, hcc518⟩ := Kd.S_get HO_47.out [] x49_2 p518 (by first | exact q518 | exact odt | (have e_ := (Kd.S_reads' HO_47.out).1; omega))
            obtain ⟨ve518_0, rfl, ge518_0⟩ := hMe518
            have hv518_0 := hcc518 0 _ rfl
            rw [Nat.add_zero, show ((Kd.slice 35 k35)).sz = 1 from rfl, Nat.mul_one] at hv518_0
            replace hv518_0 := Option.some.inj (hv518_0.symm.trans hx518_0)
            rw [hv518_0] at ge518_0
            have HL518_0 := Aside0.mk (show Kd.R k35 35 _ _ _ _ (rd_L4 t511 x49_2) from ge518_0)
            clear hv518_0 ge518_0
            clear hcc518 hce518
            have HR518_0 := Aside0.mk hi518_0
            have HC518_0 := Aside0.mk hl518_0
            clear hi518_0 hl518_0
            replace p518 := eq_true p518
            replace q518 := eq_true q518
            go_wp2_with (first | ((with_reducible refine gate_builtin (b := .append) (xs := #[.tmp 53, .tmp 54]) rfl ?_); at_builtin; refine Kd.R_append_rows k35 (w0 := w) w.heap.size rfl (.tmp 53) (.tmp 54) 33 35 (.agg #[(.int .i64 0), (.int .i64 0)]) 16 rfl Try.underlying33 info35 rfl (by decide) (by omega) u9 x9_2 (rd_L4 t511 x49_2) _ _ _ (fun _ => True) (fun _ => False) rfl rfl ?aO ?aR (fun _ _ h => h) (fun _ h => h.elim) ?aF ?aB ?aS ?aL ?_; (case aR => repeat (first | exact (by repeat (first | (with_reducible exact HR518_0.out) | (with_reducible refine Kd.C_alloc ?_ _) | (with_reducible refine Kd.C_drewN ?_ _) | (with_reducible refine Kd.C_drew ?_) | exact HR518_0.out)) | (with_reducible refine Kd.C_alloc ?_ _) | (with_reducible refine Kd.C_drewN ?_ _) | (with_reducible refine Kd.C_drew ?_))); (case aB => exact (by repeat (first | (with_reducible first | exact HB.out | apply below_alloc | apply pw_below_drewN | apply below_drew1 | refine below_set ?_ GE498.out | refine below_set ?_ GE507.out) | exact HB.out))); (case aF => exact (fun _ _ => trivial)); (case aO => exact (rq HO_9)); (case aS => exact (below_size (by repeat (first | (with_reducible first | exact HB.out | apply below_alloc | apply pw_below_drewN | apply below_drew1 | refine below_set ?_ GE498.out | refine below_set ?_ GE507.out) | exact HB.out)))); (case aL => have := LMc38.out; omega); intro v520 w39 ho hb hg hat; rw [← Ny519.out] at ho; have n0_ := Aside0.mk (Kd.S_after (ok := (fun _ => True)) (by (with_reducible repeat (first | apply Kd.S_alloc | apply Kd.S_drewN | apply Kd.S_drew)); exact Kd.S_mono HO_7.out (fun _ hk => ⟨trivial, hk⟩)) hg hat); have n1_ := Aside0.mk (Kd.S_after (ok := (fun _ => True)) (by (with_reducible repeat (first | apply Kd.S_alloc | apply Kd.S_drewN | apply Kd.S_drew)); exact Kd.S_mono HO_47.out (fun _ hk => ⟨trivial, hk⟩)) hg hat); have n2_ := Aside0.mk (blk_grown (g := gb498) (o := .cells #[.int .i64 t493, .int .i64 t494, .int .i64 t495, .int .i64 t496] 45 (0, 0)) (kq BK498) hg (Kd.R_ne HO_9.out BK498.out (by decide))); have n3_ := Aside0.mk (blk_grown (g := gb507) (o := .cells #[.int .i64 t502, .int .i64 t503, .int .i64 t504, .int .i64 t505] 45 (0, 0)) (kq BK507) hg (Kd.R_ne HO_9.out BK507.out (by decide))); have n4_ := Aside0.mk (Kd.R_after (ok := (fun k_ => some k_ ≠ (.slice (some ad518) t511.length co34 : Value).ownBlock)) (by (with_reducible repeat (first | apply Kd.R_alloc | apply Kd.R_drewN | apply Kd.R_drew)); exact Kd.R_mono HL518_0.out (fun _ hk => ⟨hk.2, hk.1⟩)) hg hat); have n5_ := Aside0.mk (hb); have n6_ := Aside0.mk (ho); clear HO_7; clear HO_47; clear BK498; clear BK507; clear HL518_0; clear HB; clear HO_9; have HO_7 := n0_; have HO_47 := n1_; have BK498 := n2_; have BK507 := n3_; have HL518_0 := n4_; have HB := n5_; have HO521 := n6_; clear n0_ n1_ n2_ n3_ n4_ n5_ n6_; clear ho hb hg hat))
            go_roundg k2
            case measure => have := HJ7.out; have := HK2.out; omega
            case rel => exact ⟨(y519), (wrap64 (x49_2 + 1)), (by first | rfl | (simp; done) | (simp [*]; done)), H', ⟨by have := HJ7.out; have := HK2.out; omega⟩, ⟨by (with_reducible repeat (first | apply Kd.S_alloc | apply Kd.S_drewN | apply Kd.S_drew)); exact Kd.S_mono HO_7.out (fun _ hk => hk.2)⟩, ⟨by (with_reducible repeat (first | apply Kd.R_alloc | apply Kd.R_drewN | apply Kd.R_drew)); exact HO521.out⟩, ⟨by (with_reducible repeat (first | apply Kd.S_alloc | apply Kd.S_drewN | apply Kd.S_drew)); exact Kd.S_mono HO_47.out (fun _ hk => hk.2)⟩, ⟨by (with_reducible repeat (first | refine blk_drewN ?_ _ | refine blk_drew ?_ | refine blk_alloc ?_ _)); exact BK498.out⟩, ⟨by (with_reducible repeat (first | refine blk_drewN ?_ _ | refine blk_drew ?_ | refine blk_alloc ?_ _)); exact BK507.out⟩, ⟨by repeat (first | (with_reducible first | exact HB.out | apply below_alloc | apply pw_below_drewN | apply below_drew1 | refine below_set ?_ GE498.out | refine below_set ?_ GE507.out) | exact HB.out)⟩⟩
           ·rw [if_neg c38] at H
            exact absurd H (by simp)
          ·rw [if_neg c37] at H
           exact absurd H (by simp)
         ·rw [if_neg c36] at H
          exact absurd H (by simp)
        ·rw [if_neg c35] at H
         have c35b0 : decide (x49_2 < (t511.length : Int)) = false := decide_eq_false c35
         clear c35
         replace H := Option.bind_eq_some_iff.mp H
         obtain ⟨⟨t522, t523, t524, t525, t526⟩, A400, H⟩ := H
         replace H : ((path_Bounds.f k2 t511).bind fun bt527 => (if (bt527.2.2.2.2 != t526) = true then (none) else (if (!(bt527.1 == t522) || (!(bt527.2.1 == t523) || (!(bt527.2.2.1 == t524) || (!(bt527.2.2.2.1 == t525))))) = true then (none) else (if bt527.2.2.2.2 = true then (if bt527.1 ≥ t502 then (if bt527.2.1 ≥ t503 then (if bt527.2.2.1 ≤ t504 then (some (decide (bt527.2.2.2.1 ≤ t505))) else (none)) else (none)) else (none)) else (some true))))) = some r := H
         have A40 := Aside0.mk A400
         clear A400
         replace H := Option.bind_eq_some_iff.mp H
         obtain ⟨⟨t527, t528, t529, t530, t531⟩, A410, H⟩ := H
         replace H : (if (t531 != t526) = true then (none) else (if (!(t527 == t522) || (!(t528 == t523) || (!(t529 == t524) || (!(t530 == t525))))) = true then (none) else (if t531 = true then (if t527 ≥ t502 then (if t528 ≥ t503 then (if t529 ≤ t504 then (some (decide (t530 ≤ t505))) else (none)) else (none)) else (none)) else (some true)))) = some r := H
         have A41 := Aside0.mk A410
         clear A410
         by_cases c42 : (t531 != t526) = true
         ·rw [if_pos c42] at H
          exact absurd H (by simp)
         ·rw [if_neg c42] at H
          have c42b0 : (t531 != t526) = false := by simpa using c42
          (try (have c42b1 : decide (t531 = t526) = true := by simpa using c42))
          (try (have c42b2 : (t531 == t526) = true := by simpa using c42))
          clear c42
          by_cases c43 : (!(t527 == t522) || (!(t528 == t523) || (!(t529 == t524) || (!(t530 == t525))))) = true
          ·rw [if_pos c43] at H
           exact absurd H (by simp)
          ·rw [if_neg c43] at H
           have c43b0 : (!(t527 == t522) || (!(t528 == t523) || (!(t529 == t524) || (!(t530 == t525))))) = false := by simpa using c43
           clear c43
           by_cases c44 : t531 = true
           ·subst c44
            have H1 : (if t527 ≥ t502 then (if t528 ≥ t503 then (if t529 ≤ t504 then (some (decide (t530 ≤ t505))) else (none)) else (none)) else (none)) = some r := by rw [if_pos rfl] at H; exact H
            clear H
            have H := H1
            clear H1
            by_cases c45 : t527 ≥ t502
            ·rw [if_pos c45] at H
             have c45b0 : decide (t502 ≤ t527) = true := decide_eq_true c45
             clear c45
             by_cases c46 : t528 ≥ t503
             ·rw [if_pos c46] at H
              have c46b0 : decide (t503 ≤ t528) = true := decide_eq_true c46
              clear c46
              by_cases c47 : t529 ≤ t504
              ·rw [if_pos c47] at H
               have c47b0 : decide (t529 ≤ t504) = true := decide_eq_true c47
               clear c47
               obtain rfl := Option.some.inj H
               obtain ⟨Ao48, co48, eo48⟩ := Kd.R_slice HO_9.out
               subst eo48
               go_wp2_with (first | ((with_reducible refine gate_callee (f := 18) rfl ?_); refine goesL_ (some 59) rfl rfl Try.func18 (by kernel_rfl) rfl #[.slice Ao48 x9_2.length co48] rfl (by (try simp only [List.map_toArray, List.map_cons, List.map_nil]); first | done | rfl | (simp only [List.length_drop, List.length_take]; rfl)) ?_; (with_reducible refine (serifref06_Hull.calls k2 _ _ x9_2 t522 t523 t524 t525 t526 _ ?side1 ?side2 A40.out).mono ?_); (case side1 => repeat (first | exact (Kd.R_reads' HO_9.out).2.2 | (with_reducible refine Kd.C_alloc ?_ _) | (with_reducible refine Kd.C_drewN ?_ _) | (with_reducible refine Kd.C_drew ?_))); (case side2 => exact (Kd.R_reads' HO_9.out).2.1); rintro e w49 ⟨rfl, hb⟩; refine ⟨_, rfl, ?_⟩; have n0_ := Aside0.mk (Kd.S_below (by (with_reducible repeat (first | apply Kd.S_alloc | apply Kd.S_drewN | apply Kd.S_drew)); exact HO_7.out) hb); have n1_ := Aside0.mk (Kd.R_below (rq HO_9) hb); have n2_ := Aside0.mk (Kd.S_below (by (with_reducible repeat (first | apply Kd.S_alloc | apply Kd.S_drewN | apply Kd.S_drew)); exact HO_47.out) hb); have n3_ := Aside0.mk (blk_below (g := gb498) (o := .cells #[.int .i64 t493, .int .i64 t494, .int .i64 t495, .int .i64 t496] 45 (0, 0)) (kq BK498) hb); have n4_ := Aside0.mk (blk_below (g := gb507) (o := .cells #[.int .i64 t502, .int .i64 t503, .int .i64 t504, .int .i64 t505] 45 (0, 0)) (kq BK507) hb); have n5_ := Aside0.mk (below_step (by repeat (first | (with_reducible first | exact HB.out | apply below_alloc | apply pw_below_drewN | apply below_drew1 | refine below_set ?_ GE498.out | refine below_set ?_ GE507.out) | exact HB.out)) hb); clear HO_7; clear HO_9; clear HO_47; clear BK498; clear BK507; clear HB; have HO_7 := n0_; have HO_9 := n1_; have HO_47 := n2_; have BK498 := n3_; have BK507 := n4_; have HB := n5_; clear n0_ n1_ n2_ n3_ n4_ n5_; (try clear hb); (try clear hb2); (try clear hk); (try clear hi); have hnb50 := NB498_507.out; have hnc50 := NB507_498.out; have hcz51_0 : w49.cell? ⟨gb498, 0, none⟩ = some (.int .i64 t493) := (blk_cell BK498.out 0).trans rfl; have hcz51_1 : w49.cell? ⟨gb498, 1, none⟩ = some (.int .i64 t494) := (blk_cell BK498.out 1).trans rfl; have hcz51_2 : w49.cell? ⟨gb498, 2, none⟩ = some (.int .i64 t495) := (blk_cell BK498.out 2).trans rfl; have hcz51_3 : w49.cell? ⟨gb498, 3, none⟩ = some (.int .i64 t496) := (blk_cell BK498.out 3).trans rfl; have hfz51_0 := blk_frozen BK498.out 0; have hfz51_1 := blk_frozen BK498.out 1; have hfz51_2 := blk_frozen BK498.out 2; have hfz51_3 := blk_frozen BK498.out 3) | ((with_reducible refine gate_callee (f := 21) rfl ?_); refine goesL_ (some 64) rfl rfl Try.func21 (by kernel_rfl) rfl #[.slice Ao34 t511.length co34] rfl (by (try simp only [List.map_toArray, List.map_cons, List.map_nil]); first | done | rfl | (simp only [List.length_drop, List.length_take]; rfl)) ?_; (with_reducible refine (path_Bounds.calls k2 _ _ t511 t527 t528 t529 t530 true _ ?side1 ?side2 A41.out).mono ?_); (case side1 => refine (Kd.S_reads' (e := 33) (base := w.heap.size) (ok := fun k_ => some k_ ≠ (.slice Ao48 x9_2.length co48 : Value).ownBlock) (n := t511.length) (c := co34) ?_).2.2; exact (by (with_reducible repeat (first | apply Kd.S_alloc | apply Kd.S_drewN | apply Kd.S_drew)); exact (Kd.S_mono (Kd.S_far (p := ⟨gb498, 3, none⟩) (Kd.S_far (p := ⟨gb498, 2, none⟩) (Kd.S_far (p := ⟨gb498, 1, none⟩) (Kd.S_far (p := ⟨gb498, 0, none⟩) (Kd.S_types HO_7.out BK498.out (by decide)) (fun _ hk => hk.2) (.int .i64 t522)) (fun _ hk => hk.2) (.int .i64 t523)) (fun _ hk => hk.2) (.int .i64 t524)) (fun _ hk => hk.2) (.int .i64 t525)) (fun _ h_ => h_.1)))); (case side2 => exact (Kd.S_reads' HO_7.out).2.1); rintro e w52 ⟨rfl, hb⟩; refine ⟨_, rfl, ?_⟩; have n0_ := Aside0.mk (Kd.S_below (by (with_reducible repeat (first | apply Kd.S_alloc | apply Kd.S_drewN | apply Kd.S_drew)); exact (Kd.S_mono (Kd.S_far (p := ⟨gb498, 3, none⟩) (Kd.S_far (p := ⟨gb498, 2, none⟩) (Kd.S_far (p := ⟨gb498, 1, none⟩) (Kd.S_far (p := ⟨gb498, 0, none⟩) (Kd.S_types HO_7.out BK498.out (by decide)) (fun _ hk => hk.2) (.int .i64 t522)) (fun _ hk => hk.2) (.int .i64 t523)) (fun _ hk => hk.2) (.int .i64 t524)) (fun _ hk => hk.2) (.int .i64 t525)) (fun _ h_ => h_.1))) hb); have n1_ := Aside0.mk (Kd.R_below (by (with_reducible repeat (first | apply Kd.R_alloc | apply Kd.R_drewN | apply Kd.R_drew)); exact (Kd.R_mono (Kd.R_far (p := ⟨gb498, 3, none⟩) (Kd.R_far (p := ⟨gb498, 2, none⟩) (Kd.R_far (p := ⟨gb498, 1, none⟩) (Kd.R_far (p := ⟨gb498, 0, none⟩) (Kd.R_types HO_9.out BK498.out (by decide)) (fun _ hk => hk.2) (.int .i64 t522)) (fun _ hk => hk.2) (.int .i64 t523)) (fun _ hk => hk.2) (.int .i64 t524)) (fun _ hk => hk.2) (.int .i64 t525)) (fun _ h_ => h_.1))) hb); have n2_ := Aside0.mk (Kd.S_below (by (with_reducible repeat (first | apply Kd.S_alloc | apply Kd.S_drewN | apply Kd.S_drew)); exact (Kd.S_mono (Kd.S_far (p := ⟨gb498, 3, none⟩) (Kd.S_far (p := ⟨gb498, 2, none⟩) (Kd.S_far (p := ⟨gb498, 1, none⟩) (Kd.S_far (p := ⟨gb498, 0, none⟩) (Kd.S_types HO_47.out BK498.out (by decide)) (fun _ hk => hk.2) (.int .i64 t522)) (fun _ hk => hk.2) (.int .i64 t523)) (fun _ hk => hk.2) (.int .i64 t524)) (fun _ hk => hk.2) (.int .i64 t525)) (fun _ h_ => h_.1))) hb); have n3_ := Aside0.mk (blk_below (g := gb498) (o := .cells #[.int .i64 t522, .int .i64 t523, .int .i64 t524, .int .i64 t525] 45 (0, 0)) (by (with_reducible repeat (first | refine blk_drewN ?_ _ | refine blk_drew ?_ | refine blk_alloc ?_ _)); refine blk_put (cs := #[.int .i64 t522, .int .i64 t523, .int .i64 t524, .int .i64 t496]) ?_ 3 _ rfl; (with_reducible repeat (first | refine blk_drewN ?_ _ | refine blk_drew ?_ | refine blk_alloc ?_ _)); refine blk_put (cs := #[.int .i64 t522, .int .i64 t523, .int .i64 t495, .int .i64 t496]) ?_ 2 _ rfl; (with_reducible repeat (first | refine blk_drewN ?_ _ | refine blk_drew ?_ | refine blk_alloc ?_ _)); refine blk_put (cs := #[.int .i64 t522, .int .i64 t494, .int .i64 t495, .int .i64 t496]) ?_ 1 _ rfl; (with_reducible repeat (first | refine blk_drewN ?_ _ | refine blk_drew ?_ | refine blk_alloc ?_ _)); refine blk_put (cs := #[.int .i64 t493, .int .i64 t494, .int .i64 t495, .int .i64 t496]) ?_ 0 _ rfl; (with_reducible repeat (first | refine blk_drewN ?_ _ | refine blk_drew ?_ | refine blk_alloc ?_ _)); exact BK498.out) hb); have n4_ := Aside0.mk (blk_below (g := gb507) (o := .cells #[.int .i64 t502, .int .i64 t503, .int .i64 t504, .int .i64 t505] 45 (0, 0)) (by (with_reducible repeat (first | refine blk_drewN ?_ _ | refine blk_drew ?_ | refine blk_alloc ?_ _)); refine blk_far ?_ NB507_498.out _; (with_reducible repeat (first | refine blk_drewN ?_ _ | refine blk_drew ?_ | refine blk_alloc ?_ _)); refine blk_far ?_ NB507_498.out _; (with_reducible repeat (first | refine blk_drewN ?_ _ | refine blk_drew ?_ | refine blk_alloc ?_ _)); refine blk_far ?_ NB507_498.out _; (with_reducible repeat (first | refine blk_drewN ?_ _ | refine blk_drew ?_ | refine blk_alloc ?_ _)); refine blk_far ?_ NB507_498.out _; (with_reducible repeat (first | refine blk_drewN ?_ _ | refine blk_drew ?_ | refine blk_alloc ?_ _)); exact BK507.out) hb); have n5_ := Aside0.mk (below_step (by repeat (first | (with_reducible first | exact HB.out | apply below_alloc | apply pw_below_drewN | apply below_drew1 | refine below_set ?_ GE498.out | refine below_set ?_ GE507.out) | exact HB.out)) hb); clear HO_7; clear HO_9; clear HO_47; clear BK498; clear BK507; clear HB; have HO_7 := n0_; have HO_9 := n1_; have HO_47 := n2_; have BK498 := n3_; have BK507 := n4_; have HB := n5_; clear n0_ n1_ n2_ n3_ n4_ n5_; (try clear hb); (try clear hb2); (try clear hk); (try clear hi)) | ((with_reducible refine gate_dst (N := 12) rfl ?_); refine box_event ?hg (N := 12) ?hd (cs := #[.int .i64 0, .int .i64 0, .int .i64 0, .int .i64 0]) (t := 45) ?hr ?_; (case hd => rfl); (case hg => rfl); (case hr => first | (go_simp; done) | (go_simp; rfl)); intro gb532 hg w53 hbox hb; have n0_ := Aside0.mk (Kd.S_below (by (with_reducible repeat (first | apply Kd.S_alloc | apply Kd.S_drewN | apply Kd.S_drew)); exact HO_7.out) hb); have n1_ := Aside0.mk (Kd.R_below (rq HO_9) hb); have n2_ := Aside0.mk (Kd.S_below (by (with_reducible repeat (first | apply Kd.S_alloc | apply Kd.S_drewN | apply Kd.S_drew)); exact HO_47.out) hb); have n3_ := Aside0.mk (blk_below (g := gb498) (o := .cells #[.int .i64 t522, .int .i64 t523, .int .i64 t524, .int .i64 t525] 45 (0, 0)) (kq BK498) hb); have n4_ := Aside0.mk (blk_below (g := gb507) (o := .cells #[.int .i64 t502, .int .i64 t503, .int .i64 t504, .int .i64 t505] 45 (0, 0)) (kq BK507) hb); have n5_ := Aside0.mk (below_step (by repeat (first | (with_reducible first | exact HB.out | apply below_alloc | apply pw_below_drewN | apply below_drew1 | refine below_set ?_ GE498.out | refine below_set ?_ GE507.out) | exact HB.out)) hb); have n6_ := Aside0.mk (hbox); have n7_ := Aside0.mk ((by rw [hg]; exact (below_size (by repeat (first | (with_reducible first | exact HB.out | apply below_alloc | apply pw_below_drewN | apply below_drew1 | refine below_set ?_ GE498.out | refine below_set ?_ GE507.out) | exact HB.out))) : w.heap.size ≤ gb532)); have n8_ := Aside0.mk ((by rw [hg]; exact (below_size (by repeat (first | (with_reducible first | exact HB.out | apply below_alloc | apply pw_below_drewN | apply below_drew1 | refine below_set ?_ GE498.out | refine below_set ?_ GE507.out) | exact HB.out))) : w.heap.size ≤ gb532)); have n9_ := Aside0.mk ((by rw [hg]; exact Nat.ne_of_lt (blk_lt (g := gb498) (o := .cells #[.int .i64 t522, .int .i64 t523, .int .i64 t524, .int .i64 t525] 45 (0, 0)) (kq BK498)) : gb498 ≠ gb532)); have n10_ := Aside0.mk ((by rw [hg]; exact Nat.ne_of_gt (blk_lt (g := gb498) (o := .cells #[.int .i64 t522, .int .i64 t523, .int .i64 t524, .int .i64 t525] 45 (0, 0)) (kq BK498)) : gb532 ≠ gb498)); have n11_ := Aside0.mk ((by rw [hg]; exact Nat.ne_of_lt (blk_lt (g := gb507) (o := .cells #[.int .i64 t502, .int .i64 t503, .int .i64 t504, .int .i64 t505] 45 (0, 0)) (kq BK507)) : gb507 ≠ gb532)); have n12_ := Aside0.mk ((by rw [hg]; exact Nat.ne_of_gt (blk_lt (g := gb507) (o := .cells #[.int .i64 t502, .int .i64 t503, .int .i64 t504, .int .i64 t505] 45 (0, 0)) (kq BK507)) : gb532 ≠ gb507)); clear HO_7; clear HO_9; clear HO_47; clear BK498; clear BK507; clear HB; have HO_7 := n0_; have HO_9 := n1_; have HO_47 := n2_; have BK498 := n3_; have BK507 := n4_; have HB := n5_; have BK532 := n6_; have GW532 := n7_; have GE532 := n8_; have NB498_532 := n9_; have NB532_498 := n10_; have NB507_532 := n11_; have NB532_507 := n12_; clear n0_ n1_ n2_ n3_ n4_ n5_ n6_ n7_ n8_ n9_ n10_ n11_ n12_; clear hb hbox hg; have hnb54 := NB532_498.out; have hnc54 := NB498_532.out; have hnb55 := NB532_507.out; have hnc55 := NB507_532.out; have hcz56_0 : w53.cell? ⟨gb532, 0, none⟩ = some (.int .i64 0) := (blk_cell BK532.out 0).trans rfl; have hcz56_1 : w53.cell? ⟨gb532, 1, none⟩ = some (.int .i64 0) := (blk_cell BK532.out 1).trans rfl; have hcz56_2 : w53.cell? ⟨gb532, 2, none⟩ = some (.int .i64 0) := (blk_cell BK532.out 2).trans rfl; have hcz56_3 : w53.cell? ⟨gb532, 3, none⟩ = some (.int .i64 0) := (blk_cell BK532.out 3).trans rfl; have hfz56_0 := blk_frozen BK532.out 0; have hfz56_1 := blk_frozen BK532.out 1; have hfz56_2 := blk_frozen BK532.out 2; have hfz56_3 := blk_frozen BK532.out 3; have hcz57_0 : w53.cell? ⟨gb498, 0, none⟩ = some (.int .i64 t522) := (blk_cell BK498.out 0).trans rfl; have hcz57_1 : w53.cell? ⟨gb498, 1, none⟩ = some (.int .i64 t523) := (blk_cell BK498.out 1).trans rfl; have hcz57_2 : w53.cell? ⟨gb498, 2, none⟩ = some (.int .i64 t524) := (blk_cell BK498.out 2).trans rfl; have hcz57_3 : w53.cell? ⟨gb498, 3, none⟩ = some (.int .i64 t525) := (blk_cell BK498.out 3).trans rfl; have hfz57_0 := blk_frozen BK498.out 0; have hfz57_1 := blk_frozen BK498.out 1; have hfz57_2 := blk_frozen BK498.out 2; have hfz57_3 := blk_frozen BK498.out 3; have hcz58_0 : w53.cell? ⟨gb507, 0, none⟩ = some (.int .i64 t502) := (blk_cell BK507.out 0).trans rfl; have hcz58_1 : w53.cell? ⟨gb507, 1, none⟩ = some (.int .i64 t503) := (blk_cell BK507.out 1).trans rfl; have hcz58_2 : w53.cell? ⟨gb507, 2, none⟩ = some (.int .i64 t504) := (blk_cell BK507.out 2).trans rfl; have hcz58_3 : w53.cell? ⟨gb507, 3, none⟩ = some (.int .i64 t505) := (blk_cell BK507.out 3).trans rfl; have hfz58_0 := blk_frozen BK507.out 0; have hfz58_1 := blk_frozen BK507.out 1; have hfz58_2 := blk_frozen BK507.out 2; have hfz58_3 := blk_frozen BK507.out 3))
               go_ret
               exact ⟨by first | rfl | (simp [errW_none, errW_some] <;> rfl) | (simp [*, errW_none, errW_some] <;> rfl), by repeat (first | (with_reducible first | exact HB.out | apply below_alloc | apply pw_below_drewN | apply below_drew1 | refine below_set ?_ GE498.out | refine below_set ?_ GE507.out | refine below_set ?_ GE532.out) | exact HB.out)⟩
              ·rw [if_neg c47] at H
               exact absurd H (by simp)
             ·rw [if_neg c46] at H
              exact absurd H (by simp)
            ·rw [if_neg c45] at H
             exact absurd H (by simp)
           ·replace c44 := Bool.eq_false_iff.mpr c44
            subst c44
            have H1 : (some true) = some r := by rw [if_neg (show ¬ (false = true) by decide)] at H; exact H
            clear H
            have H := H1
            clear H1
            obtain rfl := Option.some.inj H
            obtain ⟨Ao59, co59, eo59⟩ := Kd.R_slice HO_9.out
            subst eo59
            go_wp2_with (first | ((with_reducible refine gate_callee (f := 18) rfl ?_); refine goesL_ (some 59) rfl rfl Try.func18 (by kernel_rfl) rfl #[.slice Ao59 x9_2.length co59] rfl (by (try simp only [List.map_toArray, List.map_cons, List.map_nil]); first | done | rfl | (simp only [List.length_drop, List.length_take]; rfl)) ?_; (with_reducible refine (serifref06_Hull.calls k2 _ _ x9_2 t522 t523 t524 t525 t526 _ ?side1 ?side2 A40.out).mono ?_); (case side1 => repeat (first | exact (Kd.R_reads' HO_9.out).2.2 | (with_reducible refine Kd.C_alloc ?_ _) | (with_reducible refine Kd.C_drewN ?_ _) | (with_reducible refine Kd.C_drew ?_))); (case side2 => exact (Kd.R_reads' HO_9.out).2.1); rintro e w60 ⟨rfl, hb⟩; refine ⟨_, rfl, ?_⟩; have n0_ := Aside0.mk (Kd.S_below (by (with_reducible repeat (first | apply Kd.S_alloc | apply Kd.S_drewN | apply Kd.S_drew)); exact HO_7.out) hb); have n1_ := Aside0.mk (Kd.R_below (rq HO_9) hb); have n2_ := Aside0.mk (Kd.S_below (by (with_reducible repeat (first | apply Kd.S_alloc | apply Kd.S_drewN | apply Kd.S_drew)); exact HO_47.out) hb); have n3_ := Aside0.mk (blk_below (g := gb498) (o := .cells #[.int .i64 t493, .int .i64 t494, .int .i64 t495, .int .i64 t496] 45 (0, 0)) (kq BK498) hb); have n4_ := Aside0.mk (blk_below (g := gb507) (o := .cells #[.int .i64 t502, .int .i64 t503, .int .i64 t504, .int .i64 t505] 45 (0, 0)) (kq BK507) hb); have n5_ := Aside0.mk (below_step (by repeat (first | (with_reducible first | exact HB.out | apply below_alloc | apply pw_below_drewN | apply below_drew1 | refine below_set ?_ GE498.out | refine below_set ?_ GE507.out) | exact HB.out)) hb); clear HO_7; clear HO_9; clear HO_47; clear BK498; clear BK507; clear HB; have HO_7 := n0_; have HO_9 := n1_; have HO_47 := n2_; have BK498 := n3_; have BK507 := n4_; have HB := n5_; clear n0_ n1_ n2_ n3_ n4_ n5_; (try clear hb); (try clear hb2); (try clear hk); (try clear hi); have hnb61 := NB498_507.out; have hnc61 := NB507_498.out; have hcz62_0 : w60.cell? ⟨gb498, 0, none⟩ = some (.int .i64 t493) := (blk_cell BK498.out 0).trans rfl; have hcz62_1 : w60.cell? ⟨gb498, 1, none⟩ = some (.int .i64 t494) := (blk_cell BK498.out 1).trans rfl; have hcz62_2 : w60.cell? ⟨gb498, 2, none⟩ = some (.int .i64 t495) := (blk_cell BK498.out 2).trans rfl; have hcz62_3 : w60.cell? ⟨gb498, 3, none⟩ = some (.int .i64 t496) := (blk_cell BK498.out 3).trans rfl; have hfz62_0 := blk_frozen BK498.out 0; have hfz62_1 := blk_frozen BK498.out 1; have hfz62_2 := blk_frozen BK498.out 2; have hfz62_3 := blk_frozen BK498.out 3) | ((with_reducible refine gate_callee (f := 21) rfl ?_); refine goesL_ (some 64) rfl rfl Try.func21 (by kernel_rfl) rfl #[.slice Ao34 t511.length co34] rfl (by (try simp only [List.map_toArray, List.map_cons, List.map_nil]); first | done | rfl | (simp only [List.length_drop, List.length_take]; rfl)) ?_; (with_reducible refine (path_Bounds.calls k2 _ _ t511 t527 t528 t529 t530 false _ ?side1 ?side2 A41.out).mono ?_); (case side1 => refine (Kd.S_reads' (e := 33) (base := w.heap.size) (ok := fun k_ => some k_ ≠ (.slice Ao59 x9_2.length co59 : Value).ownBlock) (n := t511.length) (c := co34) ?_).2.2; exact (by (with_reducible repeat (first | apply Kd.S_alloc | apply Kd.S_drewN | apply Kd.S_drew)); exact (Kd.S_mono (Kd.S_far (p := ⟨gb498, 3, none⟩) (Kd.S_far (p := ⟨gb498, 2, none⟩) (Kd.S_far (p := ⟨gb498, 1, none⟩) (Kd.S_far (p := ⟨gb498, 0, none⟩) (Kd.S_types HO_7.out BK498.out (by decide)) (fun _ hk => hk.2) (.int .i64 t522)) (fun _ hk => hk.2) (.int .i64 t523)) (fun _ hk => hk.2) (.int .i64 t524)) (fun _ hk => hk.2) (.int .i64 t525)) (fun _ h_ => h_.1)))); (case side2 => exact (Kd.S_reads' HO_7.out).2.1); rintro e w63 ⟨rfl, hb⟩; refine ⟨_, rfl, ?_⟩; have n0_ := Aside0.mk (Kd.S_below (by (with_reducible repeat (first | apply Kd.S_alloc | apply Kd.S_drewN | apply Kd.S_drew)); exact (Kd.S_mono (Kd.S_far (p := ⟨gb498, 3, none⟩) (Kd.S_far (p := ⟨gb498, 2, none⟩) (Kd.S_far (p := ⟨gb498, 1, none⟩) (Kd.S_far (p := ⟨gb498, 0, none⟩) (Kd.S_types HO_7.out BK498.out (by decide)) (fun _ hk => hk.2) (.int .i64 t522)) (fun _ hk => hk.2) (.int .i64 t523)) (fun _ hk => hk.2) (.int .i64 t524)) (fun _ hk => hk.2) (.int .i64 t525)) (fun _ h_ => h_.1))) hb); have n1_ := Aside0.mk (Kd.R_below (by (with_reducible repeat (first | apply Kd.R_alloc | apply Kd.R_drewN | apply Kd.R_drew)); exact (Kd.R_mono (Kd.R_far (p := ⟨gb498, 3, none⟩) (Kd.R_far (p := ⟨gb498, 2, none⟩) (Kd.R_far (p := ⟨gb498, 1, none⟩) (Kd.R_far (p := ⟨gb498, 0, none⟩) (Kd.R_types HO_9.out BK498.out (by decide)) (fun _ hk => hk.2) (.int .i64 t522)) (fun _ hk => hk.2) (.int .i64 t523)) (fun _ hk => hk.2) (.int .i64 t524)) (fun _ hk => hk.2) (.int .i64 t525)) (fun _ h_ => h_.1))) hb); have n2_ := Aside0.mk (Kd.S_below (by (with_reducible repeat (first | apply Kd.S_alloc | apply Kd.S_drewN | apply Kd.S_drew)); exact (Kd.S_mono (Kd.S_far (p := ⟨gb498, 3, none⟩) (Kd.S_far (p := ⟨gb498, 2, none⟩) (Kd.S_far (p := ⟨gb498, 1, none⟩) (Kd.S_far (p := ⟨gb498, 0, none⟩) (Kd.S_types HO_47.out BK498.out (by decide)) (fun _ hk => hk.2) (.int .i64 t522)) (fun _ hk => hk.2) (.int .i64 t523)) (fun _ hk => hk.2) (.int .i64 t524)) (fun _ hk => hk.2) (.int .i64 t525)) (fun _ h_ => h_.1))) hb); have n3_ := Aside0.mk (blk_below (g := gb498) (o := .cells #[.int .i64 t522, .int .i64 t523, .int .i64 t524, .int .i64 t525] 45 (0, 0)) (by (with_reducible repeat (first | refine blk_drewN ?_ _ | refine blk_drew ?_ | refine blk_alloc ?_ _)); refine blk_put (cs := #[.int .i64 t522, .int .i64 t523, .int .i64 t524, .int .i64 t496]) ?_ 3 _ rfl; (with_reducible repeat (first | refine blk_drewN ?_ _ | refine blk_drew ?_ | refine blk_alloc ?_ _)); refine blk_put (cs := #[.int .i64 t522, .int .i64 t523, .int .i64 t495, .int .i64 t496]) ?_ 2 _ rfl; (with_reducible repeat (first | refine blk_drewN ?_ _ | refine blk_drew ?_ | refine blk_alloc ?_ _)); refine blk_put (cs := #[.int .i64 t522, .int .i64 t494, .int .i64 t495, .int .i64 t496]) ?_ 1 _ rfl; (with_reducible repeat (first | refine blk_drewN ?_ _ | refine blk_drew ?_ | refine blk_alloc ?_ _)); refine blk_put (cs := #[.int .i64 t493, .int .i64 t494, .int .i64 t495, .int .i64 t496]) ?_ 0 _ rfl; (with_reducible repeat (first | refine blk_drewN ?_ _ | refine blk_drew ?_ | refine blk_alloc ?_ _)); exact BK498.out) hb); have n4_ := Aside0.mk (blk_below (g := gb507) (o := .cells #[.int .i64 t502, .int .i64 t503, .int .i64 t504, .int .i64 t505] 45 (0, 0)) (by (with_reducible repeat (first | refine blk_drewN ?_ _ | refine blk_drew ?_ | refine blk_alloc ?_ _)); refine blk_far ?_ NB507_498.out _; (with_reducible repeat (first | refine blk_drewN ?_ _ | refine blk_drew ?_ | refine blk_alloc ?_ _)); refine blk_far ?_ NB507_498.out _; (with_reducible repeat (first | refine blk_drewN ?_ _ | refine blk_drew ?_ | refine blk_alloc ?_ _)); refine blk_far ?_ NB507_498.out _; (with_reducible repeat (first | refine blk_drewN ?_ _ | refine blk_drew ?_ | refine blk_alloc ?_ _)); refine blk_far ?_ NB507_498.out _; (with_reducible repeat (first | refine blk_drewN ?_ _ | refine blk_drew ?_ | refine blk_alloc ?_ _)); exact BK507.out) hb); have n5_ := Aside0.mk (below_step (by repeat (first | (with_reducible first | exact HB.out | apply below_alloc | apply pw_below_drewN | apply below_drew1 | refine below_set ?_ GE498.out | refine below_set ?_ GE507.out) | exact HB.out)) hb); clear HO_7; clear HO_9; clear HO_47; clear BK498; clear BK507; clear HB; have HO_7 := n0_; have HO_9 := n1_; have HO_47 := n2_; have BK498 := n3_; have BK507 := n4_; have HB := n5_; clear n0_ n1_ n2_ n3_ n4_ n5_; (try clear hb); (try clear hb2); (try clear hk); (try clear hi)) | ((with_reducible refine gate_dst (N := 12) rfl ?_); refine box_event ?hg (N := 12) ?hd (cs := #[.int .i64 0, .int .i64 0, .int .i64 0, .int .i64 0]) (t := 45) ?hr ?_; (case hd => rfl); (case hg => rfl); (case hr => first | (go_simp; done) | (go_simp; rfl)); intro gb532 hg w64 hbox hb; have n0_ := Aside0.mk (Kd.S_below (by (with_reducible repeat (first | apply Kd.S_alloc | apply Kd.S_drewN | apply Kd.S_drew)); exact HO_7.out) hb); have n1_ := Aside0.mk (Kd.R_below (rq HO_9) hb); have n2_ := Aside0.mk (Kd.S_below (by (with_reducible repeat (first | apply Kd.S_alloc | apply Kd.S_drewN | apply Kd.S_drew)); exact HO_47.out) hb); have n3_ := Aside0.mk (blk_below (g := gb498) (o := .cells #[.int .i64 t522, .int .i64 t523, .int .i64 t524, .int .i64 t525] 45 (0, 0)) (kq BK498) hb); have n4_ := Aside0.mk (blk_below (g := gb507) (o := .cells #[.int .i64 t502, .int .i64 t503, .int .i64 t504, .int .i64 t505] 45 (0, 0)) (kq BK507) hb); have n5_ := Aside0.mk (below_step (by repeat (first | (with_reducible first | exact HB.out | apply below_alloc | apply pw_below_drewN | apply below_drew1 | refine below_set ?_ GE498.out | refine below_set ?_ GE507.out) | exact HB.out)) hb); have n6_ := Aside0.mk (hbox); have n7_ := Aside0.mk ((by rw [hg]; exact (below_size (by repeat (first | (with_reducible first | exact HB.out | apply below_alloc | apply pw_below_drewN | apply below_drew1 | refine below_set ?_ GE498.out | refine below_set ?_ GE507.out) | exact HB.out))) : w.heap.size ≤ gb532)); have n8_ := Aside0.mk ((by rw [hg]; exact (below_size (by repeat (first | (with_reducible first | exact HB.out | apply below_alloc | apply pw_below_drewN | apply below_drew1 | refine below_set ?_ GE498.out | refine below_set ?_ GE507.out) | exact HB.out))) : w.heap.size ≤ gb532)); have n9_ := Aside0.mk ((by rw [hg]; exact Nat.ne_of_lt (blk_lt (g := gb498) (o := .cells #[.int .i64 t522, .int .i64 t523, .int .i64 t524, .int .i64 t525] 45 (0, 0)) (kq BK498)) : gb498 ≠ gb532)); have n10_ := Aside0.mk ((by rw [hg]; exact Nat.ne_of_gt (blk_lt (g := gb498) (o := .cells #[.int .i64 t522, .int .i64 t523, .int .i64 t524, .int .i64 t525] 45 (0, 0)) (kq BK498)) : gb532 ≠ gb498)); have n11_ := Aside0.mk ((by rw [hg]; exact Nat.ne_of_lt (blk_lt (g := gb507) (o := .cells #[.int .i64 t502, .int .i64 t503, .int .i64 t504, .int .i64 t505] 45 (0, 0)) (kq BK507)) : gb507 ≠ gb532)); have n12_ := Aside0.mk ((by rw [hg]; exact Nat.ne_of_gt (blk_lt (g := gb507) (o := .cells #[.int .i64 t502, .int .i64 t503, .int .i64 t504, .int .i64 t505] 45 (0, 0)) (kq BK507)) : gb532 ≠ gb507)); clear HO_7; clear HO_9; clear HO_47; clear BK498; clear BK507; clear HB; have HO_7 := n0_; have HO_9 := n1_; have HO_47 := n2_; have BK498 := n3_; have BK507 := n4_; have HB := n5_; have BK532 := n6_; have GW532 := n7_; have GE532 := n8_; have NB498_532 := n9_; have NB532_498 := n10_; have NB507_532 := n11_; have NB532_507 := n12_; clear n0_ n1_ n2_ n3_ n4_ n5_ n6_ n7_ n8_ n9_ n10_ n11_ n12_; clear hb hbox hg; have hnb65 := NB532_498.out; have hnc65 := NB498_532.out; have hnb66 := NB532_507.out; have hnc66 := NB507_532.out; have hcz67_0 : w64.cell? ⟨gb532, 0, none⟩ = some (.int .i64 0) := (blk_cell BK532.out 0).trans rfl; have hcz67_1 : w64.cell? ⟨gb532, 1, none⟩ = some (.int .i64 0) := (blk_cell BK532.out 1).trans rfl; have hcz67_2 : w64.cell? ⟨gb532, 2, none⟩ = some (.int .i64 0) := (blk_cell BK532.out 2).trans rfl; have hcz67_3 : w64.cell? ⟨gb532, 3, none⟩ = some (.int .i64 0) := (blk_cell BK532.out 3).trans rfl; have hfz67_0 := blk_frozen BK532.out 0; have hfz67_1 := blk_frozen BK532.out 1; have hfz67_2 := blk_frozen BK532.out 2; have hfz67_3 := blk_frozen BK532.out 3; have hcz68_0 : w64.cell? ⟨gb498, 0, none⟩ = some (.int .i64 t522) := (blk_cell BK498.out 0).trans rfl; have hcz68_1 : w64.cell? ⟨gb498, 1, none⟩ = some (.int .i64 t523) := (blk_cell BK498.out 1).trans rfl; have hcz68_2 : w64.cell? ⟨gb498, 2, none⟩ = some (.int .i64 t524) := (blk_cell BK498.out 2).trans rfl; have hcz68_3 : w64.cell? ⟨gb498, 3, none⟩ = some (.int .i64 t525) := (blk_cell BK498.out 3).trans rfl; have hfz68_0 := blk_frozen BK498.out 0; have hfz68_1 := blk_frozen BK498.out 1; have hfz68_2 := blk_frozen BK498.out 2; have hfz68_3 := blk_frozen BK498.out 3))
            go_ret
            exact ⟨by first | rfl | (simp [errW_none, errW_some] <;> rfl) | (simp [*, errW_none, errW_some] <;> rfl), by repeat (first | (with_reducible first | exact HB.out | apply below_alloc | apply pw_below_drewN | apply below_drew1 | refine below_set ?_ GE498.out | refine below_set ?_ GE507.out | refine below_set ?_ GE532.out) | exact HB.out)⟩
     ·rw [if_neg c28] at H
      have c28b0 : (t512 == 0) = false := beq_eq_false_iff_ne.mpr c28
      have c28b1 : (t512 != 0) = true := bne_iff_ne.mpr c28
      obtain rfl := Option.some.inj H
      go_wp2_with (first | ((with_reducible refine gate_callee (f := 11) rfl ?_); refine goesL_ (some 37) rfl rfl Try.func11 (by kernel_rfl) rfl #[.slice A0 l0.length c0] rfl (by (try simp only [List.map_toArray, List.map_cons, List.map_nil]); first | done | rfl | (simp only [List.length_drop, List.length_take]; rfl)) ?_; (with_reducible refine (serifref06_Copy.calls kj7 _ _ l0 t508 _ ?side1 ?side2 A26.out).mono ?_); (case side1 => repeat (first | exact (Kd.C_below HR0.out HB.out) | (with_reducible refine Kd.C_alloc ?_ _) | (with_reducible refine Kd.C_drewN ?_ _) | (with_reducible refine Kd.C_drew ?_))); (case side2 => exact HC0.out); rintro e w69 ⟨v509, rfl, ho0, hb⟩; refine ⟨_, rfl, ?_⟩; have n0_ := Aside0.mk (Kd.S_lower ho0 (below_size (by repeat (first | (with_reducible first | exact HB.out | apply below_alloc | apply pw_below_drewN | apply below_drew1 | refine below_set ?_ GE498.out | refine below_set ?_ GE507.out) | exact HB.out)))); have n1_ := Aside0.mk (blk_below (g := gb498) (o := .cells #[.int .i64 t493, .int .i64 t494, .int .i64 t495, .int .i64 t496] 45 (0, 0)) (kq BK498) hb); have n2_ := Aside0.mk (blk_below (g := gb507) (o := .cells #[.int .i64 t502, .int .i64 t503, .int .i64 t504, .int .i64 t505] 45 (0, 0)) (kq BK507) hb); have n3_ := Aside0.mk (below_step (by repeat (first | (with_reducible first | exact HB.out | apply below_alloc | apply pw_below_drewN | apply below_drew1 | refine below_set ?_ GE498.out | refine below_set ?_ GE507.out) | exact HB.out)) hb); clear BK498; clear BK507; clear HB; have HO510 := n0_; have BK498 := n1_; have BK507 := n2_; have HB := n3_; clear n0_ n1_ n2_ n3_; (try clear hb); (try clear hb2); (try clear hk); (try clear hi); (try clear ho0); obtain ⟨Ao70, co70, eo70⟩ := Kd.S_slice HO510.out; subst eo70) | ((with_reducible refine gate_callee (f := 13) rfl ?_); refine goesL_ (some 38) rfl rfl Try.func13 (by kernel_rfl) rfl #[.slice Ao70 t508.length co70] rfl (by (try simp only [List.map_toArray, List.map_cons, List.map_nil]); first | done | rfl | (simp only [List.length_drop, List.length_take]; rfl)) ?_; (with_reducible refine (path_Flat.calls kj7 _ _ t508 t511 t512 _ ?side1 ?side2 A27.out).mono ?_); (case side1 => repeat (first | exact (Kd.S_reads' HO510.out).2.2 | (with_reducible refine Kd.C_alloc ?_ _) | (with_reducible refine Kd.C_drewN ?_ _) | (with_reducible refine Kd.C_drew ?_))); (case side2 => exact (Kd.S_reads' HO510.out).2.1); rintro e w71 ⟨v513, rfl, ho0, hb⟩; refine ⟨_, rfl, ?_⟩; have n0_ := Aside0.mk (Kd.S_below (by (with_reducible repeat (first | apply Kd.S_alloc | apply Kd.S_drewN | apply Kd.S_drew)); exact HO510.out) hb); have n1_ := Aside0.mk (Kd.S_lower ho0 (below_size (by repeat (first | (with_reducible first | exact HB.out | apply below_alloc | apply pw_below_drewN | apply below_drew1 | refine below_set ?_ GE498.out | refine below_set ?_ GE507.out) | exact HB.out)))); have n2_ := Aside0.mk (blk_below (g := gb498) (o := .cells #[.int .i64 t493, .int .i64 t494, .int .i64 t495, .int .i64 t496] 45 (0, 0)) (kq BK498) hb); have n3_ := Aside0.mk (blk_below (g := gb507) (o := .cells #[.int .i64 t502, .int .i64 t503, .int .i64 t504, .int .i64 t505] 45 (0, 0)) (kq BK507) hb); have n4_ := Aside0.mk (below_step (by repeat (first | (with_reducible first | exact HB.out | apply below_alloc | apply pw_below_drewN | apply below_drew1 | refine below_set ?_ GE498.out | refine below_set ?_ GE507.out) | exact HB.out)) hb); clear HO510; clear BK498; clear BK507; clear HB; have HO510 := n0_; have HO514 := n1_; have BK498 := n2_; have BK507 := n3_; have HB := n4_; clear n0_ n1_ n2_ n3_ n4_; (try clear hb); (try clear hb2); (try clear hk); (try clear hi); (try clear ho0); obtain ⟨Ao72, co72, eo72⟩ := Kd.S_slice HO514.out; subst eo72))
      go_ret
      exact ⟨by first | rfl | (simp [errW_none, errW_some] <;> rfl) | (simp [*, errW_none, errW_some] <;> rfl), by repeat (first | (with_reducible first | exact HB.out | apply below_alloc | apply pw_below_drewN | apply below_drew1 | refine below_set ?_ GE498.out | refine below_set ?_ GE507.out) | exact HB.out)⟩
 ·replace c3 := Bool.eq_false_iff.mpr c3
  subst c3
  have H1 : (none) = some r := by rw [if_neg (show ¬ (false = true) by decide)] at H; exact H
  clear H
  have H := H1
  clear H1
  exact absurd H (by simp)

/-- THE ONE PURE STATEMENT of seriflaw06_PathHulls: yours. -/
def okS40 (x : S40) : Prop := (Lit.int .i64 x.f0).wf = true ∧ (Lit.int .i64 x.f1).wf = true ∧ (Lit.int .i64 x.f2).wf = true
def seriflaw06_PathHulls.Pure : Prop := ∀ (l0 : List (List (S40))), (l0.length ≤ 9223372036854775807 ∧ l0.length * 24 ≤ 140737488351232 ∧ ∀ y2_ ∈ l0, y2_.length ≤ 9223372036854775807 ∧ y2_.length * 24 ≤ 140737488351232 ∧ ∀ y1_ ∈ y2_, okS40 y1_) → ∃ k, seriflaw06_PathHulls.f k l0 = some true

end Go.Proofs.Ytmlkpadlafjfeaa.P
