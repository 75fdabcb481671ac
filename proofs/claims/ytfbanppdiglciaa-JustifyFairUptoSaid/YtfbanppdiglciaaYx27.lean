-- written by a program of this session (wip/xprint.py) over the kit's print
import Derived.Test.YtfbanppdiglciaaYx0
import Derived.Test.YtfbanppdiglciaaYx12
import Derived.Test.YtfbanppdiglciaaYx13
namespace Go.Proofs.Ytfbanppdiglciaa.Y
open Go.RowKit Go.Proofs.YtfbanppdiglciaaW.PrintWords Go.Proofs.YtfbanppdiglciaaW.PrintLast Go.Proofs.YtfbanppdiglciaaW.PrintMore
attribute [local go_sem] max2_int min2_int max_two min_two max_three min_three max_four min_four   -- for this text's walks alone
set_option linter.unusedVariables false
set_option linter.unusedSimpArgs false

/-! ### seriflaw20_JustifyFair: function 8 -/
mutual
def seriflaw20_JustifyFair.l0 : Nat → Int → List (S31) → List Int → Int → Int → Int → Int → Int → Int → Int → Bool → Option (Bool)
 | 0, _, _, _, _, _, _, _, _, _, _, _ => none
 | k + 1, x2, x7, x20, x21, x22, x324000, x324001, x324002, x324003, x324004, x324005 => if x22 < x21 then (if 0 ≤ x22 then (if x22 < (x20.length : Int) then (if x22 > 0 then (if x7.length < 2932031007402 then ((some (x7 ++ [(⟨x324000, x324001, x324002, x324003, x324004, x324005⟩ : S31)] : List (S31))).bind fun y329 => (if y329.length < 2932031007402 then (seriflaw20_JustifyFair.l0 k x2 (y329 ++ [(⟨1, rd x20 x22, 0, 0, 0, false⟩ : S31)]) x20 x21 (wrap64 (x22 + 1)) x324000 x324001 x324002 x324003 x324004 x324005) else (none))) else (none)) else (if x7.length < 2932031007402 then (seriflaw20_JustifyFair.l0 k x2 (x7 ++ [(⟨1, rd x20 x22, 0, 0, 0, false⟩ : S31)]) x20 x21 (wrap64 (x22 + 1)) x324000 x324001 x324002 x324003 x324004 x324005) else (none))) else (none)) else (none)) else ((justify_Set.f k x7 (-1) (x7.length : Int) x2).bind fun bt338 => (if bt338.2.2 = 0 then (seriflaw20_JustifyFair.j1 k bt338.1 (!bt338.2.1)) else (seriflaw20_JustifyFair.j1 k bt338.1 true)))
def seriflaw20_JustifyFair.j1 : Nat → List Int → Bool → Option (Bool)
 | 0, _, _ => none
 | k + 1, x10, x53 => if x53 = true then (some true) else (seriflaw20_JustifyFair.l1 k x10 0 0 (x10.length : Int) 0)
def seriflaw20_JustifyFair.l1 : Nat → List Int → Int → Int → Int → Int → Option (Bool)
 | 0, _, _, _, _, _ => none
 | k + 1, x10, x13, x14, x55, x56 => if x56 < x55 then (if (Int.tmod x56 2) = 1 then (if x56 = 1 then (seriflaw20_JustifyFair.j3 k x10 x13 x14 x56 x55 x56 true) else (if 0 ≤ x56 then (if x56 < (x10.length : Int) then (seriflaw20_JustifyFair.j3 k x10 x13 x14 x56 x55 x56 (decide ((rd x10 x56) < x13))) else (none)) else (none))) else (seriflaw20_JustifyFair.j3 k x10 x13 x14 x56 x55 x56 false)) else (some (decide ((wrap64 (x14 - x13)) ≤ 1)))
def seriflaw20_JustifyFair.j3 : Nat → List Int → Int → Int → Int → Int → Int → Bool → Option (Bool)
 | 0, _, _, _, _, _, _, _ => none
 | k + 1, x10, x13, x14, x15, x55, x56, x73 => if x73 = true then (if 0 ≤ x15 then (if x15 < (x10.length : Int) then (if (Int.tmod x15 2) = 1 then (if x15 = 1 then (seriflaw20_JustifyFair.l1 k x10 (rd x10 x15) (rd x10 x15) x55 (wrap64 (x56 + 1))) else (if (rd x10 x15) > x14 then (seriflaw20_JustifyFair.l1 k x10 (rd x10 x15) (rd x10 x15) x55 (wrap64 (x56 + 1))) else (seriflaw20_JustifyFair.l1 k x10 (rd x10 x15) x14 x55 (wrap64 (x56 + 1))))) else (seriflaw20_JustifyFair.l1 k x10 (rd x10 x15) x14 x55 (wrap64 (x56 + 1)))) else (none)) else (none)) else (if (Int.tmod x15 2) = 1 then (if x15 = 1 then (if 0 ≤ x15 then (if x15 < (x10.length : Int) then (seriflaw20_JustifyFair.l1 k x10 x13 (rd x10 x15) x55 (wrap64 (x56 + 1))) else (none)) else (none)) else (if 0 ≤ x15 then (if x15 < (x10.length : Int) then (if (rd x10 x15) > x14 then (seriflaw20_JustifyFair.l1 k x10 x13 (rd x10 x15) x55 (wrap64 (x56 + 1))) else (seriflaw20_JustifyFair.l1 k x10 x13 x14 x55 (wrap64 (x56 + 1)))) else (none)) else (none))) else (seriflaw20_JustifyFair.l1 k x10 x13 x14 x55 (wrap64 (x56 + 1))))
end
def seriflaw20_JustifyFair.f (k : Nat) (l0 : List Int) (a1_0 : Int) (a1_1 : Int) (a1_2 : Int) (a1_3 : Int) (a1_4 : Int) (a1_5 : Bool) (a2 : Int) : Option (Bool) := (seriflaw20_justifyAlive.f k).bind fun t324 => (if t324 = true then (seriflaw20_JustifyFair.l0 k a2 (([] : List (S31))) l0 (l0.length : Int) 0 2 a1_1 a1_2 a1_3 a1_4 a1_5) else (none))
theorem seriflaw20_JustifyFair.mono_l : ∀ k, (∀ y0 y1 y2 y3 y4 y5 y6 y7 y8 y9 y10, LeO (seriflaw20_JustifyFair.l0 k y0 y1 y2 y3 y4 y5 y6 y7 y8 y9 y10) (seriflaw20_JustifyFair.l0 (k + 1) y0 y1 y2 y3 y4 y5 y6 y7 y8 y9 y10)) ∧ (∀ y0 y1, LeO (seriflaw20_JustifyFair.j1 k y0 y1) (seriflaw20_JustifyFair.j1 (k + 1) y0 y1)) ∧ (∀ y0 y1 y2 y3 y4, LeO (seriflaw20_JustifyFair.l1 k y0 y1 y2 y3 y4) (seriflaw20_JustifyFair.l1 (k + 1) y0 y1 y2 y3 y4)) ∧ (∀ y0 y1 y2 y3 y4 y5 y6, LeO (seriflaw20_JustifyFair.j3 k y0 y1 y2 y3 y4 y5 y6) (seriflaw20_JustifyFair.j3 (k + 1) y0 y1 y2 y3 y4 y5 y6))
 | 0 => ⟨fun _ _ _ _ _ _ _ _ _ _ _ r h => by simp [seriflaw20_JustifyFair.l0] at h, fun _ _ r h => by simp [seriflaw20_JustifyFair.j1] at h, fun _ _ _ _ _ r h => by simp [seriflaw20_JustifyFair.l1] at h, fun _ _ _ _ _ _ _ r h => by simp [seriflaw20_JustifyFair.j3] at h⟩
 | k + 1 => by
  obtain ⟨ih0, ih1, ih2, ih3⟩ := seriflaw20_JustifyFair.mono_l k
  refine ⟨?_, ?_, ?_, ?_⟩
  ·intro y0 y1 y2 y3 y4 y5 y6 y7 y8 y9 y10
   unfold seriflaw20_JustifyFair.l0
   repeat' first
   | (with_reducible exact ih0 _ _ _ _ _ _ _ _ _ _ _)
   | (with_reducible exact ih1 _ _)
   | (with_reducible exact ih2 _ _ _ _ _)
   | (with_reducible exact ih3 _ _ _ _ _ _ _)
   | (with_reducible exact justify_Set.mono _ _ _ _ _)
   | (with_reducible exact seriflaw20_justifyAlive.mono _)
   | (with_reducible exact LeO.refl _)
   | (with_reducible exact LeO.none _)
   | (with_reducible refine LeO.ite ?_ ?_)
   | (with_reducible refine LeO.bind ?_ (fun _ => ?_))
   | exact ih0 _ _ _ _ _ _ _ _ _ _ _
   | exact ih1 _ _
   | exact ih2 _ _ _ _ _
   | exact ih3 _ _ _ _ _ _ _
   | exact justify_Set.mono _ _ _ _ _
   | exact seriflaw20_justifyAlive.mono _
   | exact LeO.none _
   | refine LeO.ite ?_ ?_
   | refine LeO.bind ?_ (fun _ => ?_)
  ·intro y0 y1
   unfold seriflaw20_JustifyFair.j1
   repeat' first
   | (with_reducible exact ih0 _ _ _ _ _ _ _ _ _ _ _)
   | (with_reducible exact ih1 _ _)
   | (with_reducible exact ih2 _ _ _ _ _)
   | (with_reducible exact ih3 _ _ _ _ _ _ _)
   | (with_reducible exact justify_Set.mono _ _ _ _ _)
   | (with_reducible exact seriflaw20_justifyAlive.mono _)
   | (with_reducible exact LeO.refl _)
   | (with_reducible exact LeO.none _)
   | (with_reducible refine LeO.ite ?_ ?_)
   | (with_reducible refine LeO.bind ?_ (fun _ => ?_))
   | exact ih0 _ _ _ _ _ _ _ _ _ _ _
   | exact ih1 _ _
   | exact ih2 _ _ _ _ _
   | exact ih3 _ _ _ _ _ _ _
   | exact justify_Set.mono _ _ _ _ _
   | exact seriflaw20_justifyAlive.mono _
   | exact LeO.none _
   | refine LeO.ite ?_ ?_
   | refine LeO.bind ?_ (fun _ => ?_)
  ·intro y0 y1 y2 y3 y4
   unfold seriflaw20_JustifyFair.l1
   repeat' first
   | (with_reducible exact ih0 _ _ _ _ _ _ _ _ _ _ _)
   | (with_reducible exact ih1 _ _)
   | (with_reducible exact ih2 _ _ _ _ _)
   | (with_reducible exact ih3 _ _ _ _ _ _ _)
   | (with_reducible exact justify_Set.mono _ _ _ _ _)
   | (with_reducible exact seriflaw20_justifyAlive.mono _)
   | (with_reducible exact LeO.refl _)
   | (with_reducible exact LeO.none _)
   | (with_reducible refine LeO.ite ?_ ?_)
   | (with_reducible refine LeO.bind ?_ (fun _ => ?_))
   | exact ih0 _ _ _ _ _ _ _ _ _ _ _
   | exact ih1 _ _
   | exact ih2 _ _ _ _ _
   | exact ih3 _ _ _ _ _ _ _
   | exact justify_Set.mono _ _ _ _ _
   | exact seriflaw20_justifyAlive.mono _
   | exact LeO.none _
   | refine LeO.ite ?_ ?_
   | refine LeO.bind ?_ (fun _ => ?_)
  ·intro y0 y1 y2 y3 y4 y5 y6
   unfold seriflaw20_JustifyFair.j3
   repeat' first
   | (with_reducible exact ih0 _ _ _ _ _ _ _ _ _ _ _)
   | (with_reducible exact ih1 _ _)
   | (with_reducible exact ih2 _ _ _ _ _)
   | (with_reducible exact ih3 _ _ _ _ _ _ _)
   | (with_reducible exact justify_Set.mono _ _ _ _ _)
   | (with_reducible exact seriflaw20_justifyAlive.mono _)
   | (with_reducible exact LeO.refl _)
   | (with_reducible exact LeO.none _)
   | (with_reducible refine LeO.ite ?_ ?_)
   | (with_reducible refine LeO.bind ?_ (fun _ => ?_))
   | exact ih0 _ _ _ _ _ _ _ _ _ _ _
   | exact ih1 _ _
   | exact ih2 _ _ _ _ _
   | exact ih3 _ _ _ _ _ _ _
   | exact justify_Set.mono _ _ _ _ _
   | exact seriflaw20_justifyAlive.mono _
   | exact LeO.none _
   | refine LeO.ite ?_ ?_
   | refine LeO.bind ?_ (fun _ => ?_)
theorem seriflaw20_JustifyFair.mono : ∀ a0 a1 a2 a3 a4 a5 a6 a7 k, LeO (seriflaw20_JustifyFair.f k a0 a1 a2 a3 a4 a5 a6 a7) (seriflaw20_JustifyFair.f (k + 1) a0 a1 a2 a3 a4 a5 a6 a7) := by
 intro a0 a1 a2 a3 a4 a5 a6 a7 k
 obtain ⟨ih0, ih1, ih2, ih3⟩ := seriflaw20_JustifyFair.mono_l k
 unfold seriflaw20_JustifyFair.f
 repeat' first
   | (with_reducible exact ih0 _ _ _ _ _ _ _ _ _ _ _)
   | (with_reducible exact ih1 _ _)
   | (with_reducible exact ih2 _ _ _ _ _)
   | (with_reducible exact ih3 _ _ _ _ _ _ _)
   | (with_reducible exact justify_Set.mono _ _ _ _ _)
   | (with_reducible exact seriflaw20_justifyAlive.mono _)
   | (with_reducible exact LeO.refl _)
   | (with_reducible exact LeO.none _)
   | (with_reducible refine LeO.ite ?_ ?_)
   | (with_reducible refine LeO.bind ?_ (fun _ => ?_))
   | exact ih0 _ _ _ _ _ _ _ _ _ _ _
   | exact ih1 _ _
   | exact ih2 _ _ _ _ _
   | exact ih3 _ _ _ _ _ _ _
   | exact justify_Set.mono _ _ _ _ _
   | exact seriflaw20_justifyAlive.mono _
   | exact LeO.none _
   | refine LeO.ite ?_ ?_
   | refine LeO.bind ?_ (fun _ => ?_)
set_option maxHeartbeats 8000000 in
set_option maxRecDepth 100000 in
theorem seriflaw20_JustifyFair.calls (k : Nat) (A0 : Option Addr) (c0 : Nat) (l0 : List Int) (a1_0 : Int) (a1_1 : Int) (a1_2 : Int) (a1_3 : Int) (a1_4 : Int) (a1_5 : Bool) (a2 : Int) (r : Bool) (w : World) (hr0 : Kd.C (Kd.int .i64) w A0 l0.length l0) (hc0 : l0.length ≤ c0) (h : seriflaw20_JustifyFair.f k l0 a1_0 a1_1 a1_2 a1_3 a1_4 a1_5 a2 = some r) :
  Calls Try.prog 8 #[.slice A0 l0.length c0, .agg #[.int .i64 a1_0, .int .i64 a1_1, .int .i64 a1_2, .int .i64 a1_3, .int .i64 a1_4, .bool a1_5], .int .i64 a2] w fun e w' => e = .returned (.bool r) ∧ Below w.heap.size w w' := by
 have hu31 := Try.underlying31
 have HR0 := Aside0.mk hr0
 have HC0 := Aside0.mk hc0
 clear hr0 hc0
 have HB := Aside0.mk (Below.refl w.heap.size w)
 have H : ((seriflaw20_justifyAlive.f k).bind fun t324 => (if t324 = true then (seriflaw20_JustifyFair.l0 k a2 (([] : List (S31))) l0 (l0.length : Int) 0 2 a1_1 a1_2 a1_3 a1_4 a1_5) else (none))) = some r := h
 clear h
 replace H := Option.bind_eq_some_iff.mp H
 obtain ⟨t324, A40, H⟩ := H
 replace H : (if t324 = true then (seriflaw20_JustifyFair.l0 k a2 (([] : List (S31))) l0 (l0.length : Int) 0 2 a1_1 a1_2 a1_3 a1_4 a1_5) else (none)) = some r := H
 have A4 := Aside0.mk A40
 clear A40
 by_cases c5 : t324 = true
 ·subst c5
  have H1 : (seriflaw20_JustifyFair.l0 k a2 (([] : List (S31))) l0 (l0.length : Int) 0 2 a1_1 a1_2 a1_3 a1_4 a1_5) = some r := by rw [if_pos rfl] at H; exact H
  clear H
  have H := H1
  clear H1
  obtain ⟨y325, hy325⟩ : ∃ y_ : List (S31), y_ = (([] : List (S31))) := ⟨_, rfl⟩
  replace H : (seriflaw20_JustifyFair.l0 k a2 y325 l0 (l0.length : Int) 0 2 a1_1 a1_2 a1_3 a1_4 a1_5) = some r := by first | (rw [hy325]; with_reducible exact H) | (have H2_ := (Option.bind_some _ _).symm.trans H; rw [hy325]; with_reducible exact H2_) | (have H2_ := (Option.bind_some _ _).symm.trans H; with_reducible exact H2_) | with_reducible exact H | (rw [hy325]; exact H) | exact H
  have Ny325 := Aside0.mk hy325
  clear hy325
  have H' := Aside0.mk H
  clear H
  go_enter Try.func8, Try.ntmps8
  go_wp2_with (first | ((with_reducible refine gate_dst (N := 4) rfl ?_); refine box_event ?hg (N := 4) ?hd (cs := #[.int .i64 a1_0, .int .i64 a1_1, .int .i64 a1_2, .int .i64 a1_3, .int .i64 a1_4, .bool a1_5]) (t := 31) ?hr ?_; (case hd => rfl); (case hg => rfl); (case hr => first | (go_simp; done) | (go_simp; rfl)); intro gb323 hg w6 hbox hb; have n0_ := Aside0.mk (below_step (bq HB) hb); have n1_ := Aside0.mk (hbox); have n2_ := Aside0.mk ((by rw [hg]; exact (below_size (bq HB)) : w.heap.size ≤ gb323)); have n3_ := Aside0.mk ((by rw [hg]; exact (below_size (bq HB)) : w.heap.size ≤ gb323)); clear HB; have HB := n0_; have BK323 := n1_; have GW323 := n2_; have GE323 := n3_; clear n0_ n1_ n2_ n3_; clear hb hbox hg) | ((with_reducible refine gate_callee (f := 21) rfl ?_); refine goesL_ (some 16) rfl rfl Try.func21 (by kernel_rfl) rfl #[] rfl (by (try simp only [List.map_toArray, List.map_cons, List.map_nil]); first | done | rfl | (simp only [List.length_drop, List.length_take]; rfl)) ?_; (with_reducible refine (seriflaw20_justifyAlive.calls k  true _ A4.out).mono ?_); rintro e w7 ⟨rfl, hb⟩; refine ⟨_, rfl, ?_⟩; have n0_ := Aside0.mk (blk_below (g := gb323) (o := .cells #[.int .i64 a1_0, .int .i64 a1_1, .int .i64 a1_2, .int .i64 a1_3, .int .i64 a1_4, .bool a1_5] 31 (0, 0)) (kq BK323) hb); have n1_ := Aside0.mk (below_step (bs HB GE323) hb); clear BK323; clear HB; have BK323 := n0_; have HB := n1_; clear n0_ n1_; (try clear hb); (try clear hb2); (try clear hk); (try clear hi)) | ((with_reducible refine gate_dst (N := 18) rfl ?_); refine Kd.R_lit k31 _ 31 ?hg (N := 18) ?hd (xs := ([] : List (S31))) (inner := []) (ok := fun _ => True) (okp := fun _ => True) ?hr ?hp (fun _ hk => hk) trivial (Below.refl _ _) (Nat.le_refl _) (by simp) ?_; (case hd => rfl); (case hg => rfl); (case hr => first | (go_simp; done) | (go_simp; rfl)); (case hp => exact (Reps.none _ _)); intro v326 w8 ho9 hb hg_ hnew_; clear hg_ hnew_; (first | rw [← Ny325.out] at ho9 | (simp only [Int.reduceToNat] at ho9; rw [← Ny325.out] at ho9)); have n0_ := Aside0.mk (Kd.R_lower (Kd.R_newB ho9 (g := gb323) (o := .cells #[.int .i64 a1_0, .int .i64 a1_1, .int .i64 a1_2, .int .i64 a1_3, .int .i64 a1_4, .bool a1_5] 31 (0, 0)) (kq BK323)) (below_size (bs HB GE323))); have n1_ := Aside0.mk (blk_below (g := gb323) (o := .cells #[.int .i64 a1_0, .int .i64 a1_1, .int .i64 a1_2, .int .i64 a1_3, .int .i64 a1_4, .bool a1_5] 31 (0, 0)) (kq BK323) hb); have n2_ := Aside0.mk (below_step (bs HB GE323) hb); clear BK323; clear HB; have HO327 := n0_; have BK323 := n1_; have HB := n2_; clear n0_ n1_ n2_; clear hb ho9; have hcz10_0 : w8.cell? ⟨gb323, 0, none⟩ = some (.int .i64 a1_0) := (blk_cell BK323.out 0).trans rfl; have hcz10_1 : w8.cell? ⟨gb323, 1, none⟩ = some (.int .i64 a1_1) := (blk_cell BK323.out 1).trans rfl; have hcz10_2 : w8.cell? ⟨gb323, 2, none⟩ = some (.int .i64 a1_2) := (blk_cell BK323.out 2).trans rfl; have hcz10_3 : w8.cell? ⟨gb323, 3, none⟩ = some (.int .i64 a1_3) := (blk_cell BK323.out 3).trans rfl; have hcz10_4 : w8.cell? ⟨gb323, 4, none⟩ = some (.int .i64 a1_4) := (blk_cell BK323.out 4).trans rfl; have hcz10_5 : w8.cell? ⟨gb323, 5, none⟩ = some (.bool a1_5) := (blk_cell BK323.out 5).trans rfl; have hfz10_0 := blk_frozen BK323.out 0; have hfz10_1 := blk_frozen BK323.out 1; have hfz10_2 := blk_frozen BK323.out 2; have hfz10_3 := blk_frozen BK323.out 3; have hfz10_4 := blk_frozen BK323.out 4; have hfz10_5 := blk_frozen BK323.out 5))
  go_loopg [7, 22] k (fun kq v7 v22 w' => ∃ (x7_1 : List (S31)) (x22_1 : Int), v22 = .int .i64 x22_1 ∧ Aside0 (seriflaw20_JustifyFair.l0 kq a2 x7_1 l0 (l0.length : Int) x22_1 2 a1_1 a1_2 a1_3 a1_4 a1_5 = some r) ∧ Aside0 (kq ≤ k) ∧ Aside0 (Kd.R k31 31 w' w.heap.size (fun k_ => k_ ≠ gb323) v7 x7_1) ∧ Aside0 (w'.heap[gb323]? = some (.cells #[.int .i64 2, .int .i64 a1_1, .int .i64 a1_2, .int .i64 a1_3, .int .i64 a1_4, .bool a1_5] 31 (0, 0))) ∧ Aside0 (Below w.heap.size w w'))
  case atStart => exact ⟨(y325), (0), (by first | rfl | (simp; done) | (simp [*]; done)), H', ⟨Nat.le_refl _⟩, ⟨by (with_reducible repeat (first | apply Kd.R_alloc | apply Kd.R_drewN | apply Kd.R_drew)); exact Kd.R_mono (Kd.R_far (p := ⟨gb323, 0, none⟩) (Kd.R_mono HO327.out (fun k_ hk => (⟨hk, hk.2⟩ : _ ∧ k_ ≠ gb323))) (fun _ hk => hk.2) (.int .i64 2)) (fun _ hk => hk.1.2)⟩, ⟨by (with_reducible repeat (first | refine blk_drewN ?_ _ | refine blk_drew ?_ | refine blk_alloc ?_ _)); refine blk_put (cs := #[.int .i64 a1_0, .int .i64 a1_1, .int .i64 a1_2, .int .i64 a1_3, .int .i64 a1_4, .bool a1_5]) ?_ 0 _ rfl; (with_reducible repeat (first | refine blk_drewN ?_ _ | refine blk_drew ?_ | refine blk_alloc ?_ _)); exact BK323.out⟩, ⟨bs HB GE323⟩⟩
  case round =>
   clear H'
   try clear c2
   try clear p2
   try clear c5
   try clear c8
   try clear hcz10_0
   try clear hcz10_1
   try clear hcz10_2
   try clear hcz10_3
   try clear hcz10_4
   try clear hcz10_5
   try clear hfz10_0
   try clear hfz10_1
   try clear hfz10_2
   try clear hfz10_3
   try clear hfz10_4
   try clear hfz10_5
   obtain ⟨x7_1, x22_1, rfl, HA, HK1, HO_7, BK323, HB⟩ := hrel
   cases gk with
   | zero => exact absurd HA.out (by simp [seriflaw20_JustifyFair.l0])
   | succ k1 =>
    have H := HA.out
    clear HA
    simp only [seriflaw20_JustifyFair.l0] at H
    by_cases c11 : x22_1 < (l0.length : Int)
    ·rw [if_pos c11] at H
     have c11b0 : decide (x22_1 < (l0.length : Int)) = true := decide_eq_true c11
     clear c11
     by_cases c12 : 0 ≤ x22_1
     ·rw [if_pos c12] at H
      have c12b0 : decide (0 ≤ x22_1) = true := decide_eq_true c12
      clear c12
      by_cases c13 : x22_1 < (l0.length : Int)
      ·rw [if_pos c13] at H
       have c13b0 : decide (x22_1 < (l0.length : Int)) = true := decide_eq_true c13
       clear c13
       by_cases c14 : x22_1 > 0
       ·rw [if_pos c14] at H
        have c14b0 : decide (0 < x22_1) = true := decide_eq_true c14
        clear c14
        by_cases c15 : x7_1.length < 2932031007402
        ·rw [if_pos c15] at H
         have LMc15 := Aside0.mk c15
         clear c15
         obtain ⟨y329, hy329⟩ : ∃ y_ : List (S31), y_ = (x7_1 ++ [(⟨2, a1_1, a1_2, a1_3, a1_4, a1_5⟩ : S31)]) := ⟨_, rfl⟩
         replace H : (if y329.length < 2932031007402 then (seriflaw20_JustifyFair.l0 k1 a2 (y329 ++ [(⟨1, rd l0 x22_1, 0, 0, 0, false⟩ : S31)]) l0 (l0.length : Int) (wrap64 (x22_1 + 1)) 2 a1_1 a1_2 a1_3 a1_4 a1_5) else (none)) = some r := by first | (rw [hy329]; with_reducible exact H) | (have H2_ := (Option.bind_some _ _).symm.trans H; rw [hy329]; with_reducible exact H2_) | (have H2_ := (Option.bind_some _ _).symm.trans H; with_reducible exact H2_) | with_reducible exact H | (rw [hy329]; exact H) | exact H
         have Ny329 := Aside0.mk hy329
         clear hy329
         by_cases c16 : y329.length < 2932031007402
         ·rw [if_pos c16] at H
          have LMc16 := Aside0.mk c16
          clear c16
          obtain ⟨y332, hy332⟩ : ∃ y_ : List (S31), y_ = (y329 ++ [(⟨1, rd l0 x22_1, 0, 0, 0, false⟩ : S31)]) := ⟨_, rfl⟩
          replace H : (seriflaw20_JustifyFair.l0 k1 a2 y332 l0 (l0.length : Int) (wrap64 (x22_1 + 1)) 2 a1_1 a1_2 a1_3 a1_4 a1_5) = some r := by first | (rw [hy332]; with_reducible exact H) | (have H2_ := (Option.bind_some _ _).symm.trans H; rw [hy332]; with_reducible exact H2_) | (have H2_ := (Option.bind_some _ _).symm.trans H; with_reducible exact H2_) | with_reducible exact H | (rw [hy332]; exact H) | exact H
          have Ny332 := Aside0.mk hy332
          clear hy332
          have H' := Aside0.mk H
          clear H
          have p328 : 0 ≤ (x22_1 : Int) := odt
          have q328 : x22_1 < (l0.length : Int) := odt
          obtain ⟨ad328, e328, hx328_0⟩ := Kd.at_int HR0.out x22_1 p328 q328
          cases e328
          replace hx328_0 := (HB.out.cell (World.block_lt_of_cell? w _ hx328_0)).trans hx328_0
          replace p328 := eq_true p328
          replace q328 := eq_true q328
          have hcz17_0 : wr.cell? ⟨gb323, 0, none⟩ = some (.int .i64 2) := (blk_cell BK323.out 0).trans rfl
          have hcz17_1 : wr.cell? ⟨gb323, 1, none⟩ = some (.int .i64 a1_1) := (blk_cell BK323.out 1).trans rfl
          have hcz17_2 : wr.cell? ⟨gb323, 2, none⟩ = some (.int .i64 a1_2) := (blk_cell BK323.out 2).trans rfl
          have hcz17_3 : wr.cell? ⟨gb323, 3, none⟩ = some (.int .i64 a1_3) := (blk_cell BK323.out 3).trans rfl
          have hcz17_4 : wr.cell? ⟨gb323, 4, none⟩ = some (.int .i64 a1_4) := (blk_cell BK323.out 4).trans rfl
          have hcz17_5 : wr.cell? ⟨gb323, 5, none⟩ = some (.bool a1_5) := (blk_cell BK323.out 5).trans rfl
          have hfz17_0 := blk_frozen BK323.out 0
          have hfz17_1 := blk_frozen BK323.out 1
          have hfz17_2 := blk_frozen BK323.out 2
          have hfz17_3 := blk_frozen BK323.out 3
          have hfz17_4 := blk_frozen BK323.out 4
          have hfz17_5 := blk_frozen BK323.out 5
          go_wp2_with (first | ((with_reducible refine gate_builtin (b := .append) (xs := #[.tmp 29, .tmp 31]) rfl ?_); at_builtin; refine Kd.R_append k31 (w0 := w) w.heap.size rfl (.tmp 29) (.tmp 31) 23 31 (.agg #[(.int .i64 0), (.int .i64 0), (.int .i64 0), (.int .i64 0), (.int .i64 0), (.bool false)]) 48 rfl Try.underlying23 info31 rfl (by decide) (by omega) u7 x7_1 (⟨2, a1_1, a1_2, a1_3, a1_4, a1_5⟩ : S31) [.int .i64 2, .int .i64 a1_1, .int .i64 a1_2, .int .i64 a1_3, .int .i64 a1_4, .bool a1_5] (fun k_ => k_ ≠ gb323) (fun _ => False) rfl rfl ?aP (fun _ hk => hk.elim) ?aF ?aO ?aB ?aS ?aL ?_; (case aP => exact k31_mkM _ _ _ (⟨2, a1_1, a1_2, a1_3, a1_4, a1_5⟩ : S31)); (case aB => exact (bs HB GE323)); (case aF => exact (fun k_ hk => Kd.freshB (g := gb323) (o := .cells #[.int .i64 2, .int .i64 a1_1, .int .i64 a1_2, .int .i64 a1_3, .int .i64 a1_4, .bool a1_5] 31 (0, 0)) (kq BK323) k_ hk)); (case aO => exact (rq HO_7)); (case aS => exact (below_size (bs HB GE323))); (case aL => have := LMc15.out; omega); intro v330 w18 ho hb hg hat; rw [← Ny329.out] at ho; have n0_ := Aside0.mk (blk_grown (g := gb323) (o := .cells #[.int .i64 2, .int .i64 a1_1, .int .i64 a1_2, .int .i64 a1_3, .int .i64 a1_4, .bool a1_5] 31 (0, 0)) (kq BK323) hg (Kd.R_away HO_7.out (fun _ hk => hk))); have n1_ := Aside0.mk (hb); have n2_ := Aside0.mk (ho); clear BK323; clear HB; clear HO_7; have BK323 := n0_; have HB := n1_; have HO331 := n2_; clear n0_ n1_ n2_; clear ho hb hg hat) | ((with_reducible refine gate_builtin (b := .append) (xs := #[.tmp 33, .tmp 36]) rfl ?_); at_builtin; refine Kd.R_append k31 (w0 := w) w.heap.size rfl (.tmp 33) (.tmp 36) 23 31 (.agg #[(.int .i64 0), (.int .i64 0), (.int .i64 0), (.int .i64 0), (.int .i64 0), (.bool false)]) 48 rfl Try.underlying23 info31 rfl (by decide) (by omega) v330 y329 (⟨1, rd l0 x22_1, 0, 0, 0, false⟩ : S31) [.int .i64 1, .int .i64 (rd l0 x22_1), .int .i64 0, .int .i64 0, .int .i64 0, .bool false] (fun k_ => k_ ≠ gb323) (fun _ => False) rfl rfl ?aP (fun _ hk => hk.elim) ?aF ?aO ?aB ?aS ?aL ?_; (case aP => exact k31_mkM _ _ _ (⟨1, rd l0 x22_1, 0, 0, 0, false⟩ : S31)); (case aB => exact (bs HB GE323)); (case aF => exact (fun k_ hk => Kd.freshB (g := gb323) (o := .cells #[.int .i64 2, .int .i64 a1_1, .int .i64 a1_2, .int .i64 a1_3, .int .i64 a1_4, .bool a1_5] 31 (0, 0)) (kq BK323) k_ hk)); (case aO => exact (by (with_reducible repeat (first | apply Kd.R_alloc | apply Kd.R_drewN | apply Kd.R_drew)); exact HO331.out)); (case aS => exact (below_size (bs HB GE323))); (case aL => have := LMc16.out; omega); intro v333 w19 ho hb hg hat; rw [← Ny332.out] at ho; have n0_ := Aside0.mk (blk_grown (g := gb323) (o := .cells #[.int .i64 2, .int .i64 a1_1, .int .i64 a1_2, .int .i64 a1_3, .int .i64 a1_4, .bool a1_5] 31 (0, 0)) (kq BK323) hg (Kd.R_away HO331.out (fun _ hk => hk))); have n1_ := Aside0.mk (hb); have n2_ := Aside0.mk (ho); clear BK323; clear HB; clear HO331; have BK323 := n0_; have HB := n1_; have HO334 := n2_; clear n0_ n1_ n2_; clear ho hb hg hat))
          go_roundg k1
          case measure => have := HK1.out; omega
          case rel => exact ⟨(y332), (wrap64 (x22_1 + 1)), (by first | rfl | (simp; done) | (simp [*]; done)), H', ⟨by have := HK1.out; omega⟩, ⟨by (with_reducible repeat (first | apply Kd.R_alloc | apply Kd.R_drewN | apply Kd.R_drew)); exact HO334.out⟩, ⟨by (with_reducible repeat (first | refine blk_drewN ?_ _ | refine blk_drew ?_ | refine blk_alloc ?_ _)); exact BK323.out⟩, ⟨bs HB GE323⟩⟩
         ·rw [if_neg c16] at H
          exact absurd H (by simp)
        ·rw [if_neg c15] at H
         exact absurd H (by simp)
       ·rw [if_neg c14] at H
        have c14b0 : decide (0 < x22_1) = false := decide_eq_false c14
        clear c14
        by_cases c20 : x7_1.length < 2932031007402
        ·rw [if_pos c20] at H
         have LMc20 := Aside0.mk c20
         clear c20
         obtain ⟨y335, hy335⟩ : ∃ y_ : List (S31), y_ = (x7_1 ++ [(⟨1, rd l0 x22_1, 0, 0, 0, false⟩ : S31)]) := ⟨_, rfl⟩
         replace H : (seriflaw20_JustifyFair.l0 k1 a2 y335 l0 (l0.length : Int) (wrap64 (x22_1 + 1)) 2 a1_1 a1_2 a1_3 a1_4 a1_5) = some r := by first | (rw [hy335]; with_reducible exact H) | (have H2_ := (Option.bind_some _ _).symm.trans H; rw [hy335]; with_reducible exact H2_) | (have H2_ := (Option.bind_some _ _).symm.trans H; with_reducible exact H2_) | with_reducible exact H | (rw [hy335]; exact H) | exact H
         have Ny335 := Aside0.mk hy335
         clear hy335
         have H' := Aside0.mk H
         clear H
         have p328 : 0 ≤ (x22_1 : Int) := odt
         have q328 : x22_1 < (l0.length : Int) := odt
         obtain ⟨ad328, e328, hx328_0⟩ := Kd.at_int HR0.out x22_1 p328 q328
         cases e328
         replace hx328_0 := (HB.out.cell (World.block_lt_of_cell? w _ hx328_0)).trans hx328_0
         replace p328 := eq_true p328
         replace q328 := eq_true q328
         go_wp2_with (first | ((with_reducible refine gate_builtin (b := .append) (xs := #[.tmp 33, .tmp 36]) rfl ?_); at_builtin; refine Kd.R_append k31 (w0 := w) w.heap.size rfl (.tmp 33) (.tmp 36) 23 31 (.agg #[(.int .i64 0), (.int .i64 0), (.int .i64 0), (.int .i64 0), (.int .i64 0), (.bool false)]) 48 rfl Try.underlying23 info31 rfl (by decide) (by omega) u7 x7_1 (⟨1, rd l0 x22_1, 0, 0, 0, false⟩ : S31) [.int .i64 1, .int .i64 (rd l0 x22_1), .int .i64 0, .int .i64 0, .int .i64 0, .bool false] (fun k_ => k_ ≠ gb323) (fun _ => False) rfl rfl ?aP (fun _ hk => hk.elim) ?aF ?aO ?aB ?aS ?aL ?_; (case aP => exact k31_mkM _ _ _ (⟨1, rd l0 x22_1, 0, 0, 0, false⟩ : S31)); (case aB => exact (bs HB GE323)); (case aF => exact (fun k_ hk => Kd.freshB (g := gb323) (o := .cells #[.int .i64 2, .int .i64 a1_1, .int .i64 a1_2, .int .i64 a1_3, .int .i64 a1_4, .bool a1_5] 31 (0, 0)) (kq BK323) k_ hk)); (case aO => exact (rq HO_7)); (case aS => exact (below_size (bs HB GE323))); (case aL => have := LMc20.out; omega); intro v336 w21 ho hb hg hat; rw [← Ny335.out] at ho; have n0_ := Aside0.mk (blk_grown (g := gb323) (o := .cells #[.int .i64 2, .int .i64 a1_1, .int .i64 a1_2, .int .i64 a1_3, .int .i64 a1_4, .bool a1_5] 31 (0, 0)) (kq BK323) hg (Kd.R_away HO_7.out (fun _ hk => hk))); have n1_ := Aside0.mk (hb); have n2_ := Aside0.mk (ho); clear BK323; clear HB; clear HO_7; have BK323 := n0_; have HB := n1_; have HO337 := n2_; clear n0_ n1_ n2_; clear ho hb hg hat))
         go_roundg k1
         case measure => have := HK1.out; omega
         case rel => exact ⟨(y335), (wrap64 (x22_1 + 1)), (by first | rfl | (simp; done) | (simp [*]; done)), H', ⟨by have := HK1.out; omega⟩, ⟨by (with_reducible repeat (first | apply Kd.R_alloc | apply Kd.R_drewN | apply Kd.R_drew)); exact HO337.out⟩, ⟨by (with_reducible repeat (first | refine blk_drewN ?_ _ | refine blk_drew ?_ | refine blk_alloc ?_ _)); exact BK323.out⟩, ⟨bs HB GE323⟩⟩
        ·rw [if_neg c20] at H
         exact absurd H (by simp)
      ·rw [if_neg c13] at H
       exact absurd H (by simp)
     ·rw [if_neg c12] at H
      exact absurd H (by simp)
    ·rw [if_neg c11] at H
     have c11b0 : decide (x22_1 < (l0.length : Int)) = false := decide_eq_false c11
     clear c11
     replace H := Option.bind_eq_some_iff.mp H
     obtain ⟨⟨t338, t339, t340⟩, A220, H⟩ := H
     replace H : (if t340 = 0 then (seriflaw20_JustifyFair.j1 k1 t338 (!t339)) else (seriflaw20_JustifyFair.j1 k1 t338 true)) = some r := H
     have A22 := Aside0.mk A220
     clear A220
     have HC23 := Aside0.mk H
     clear H
     obtain ⟨Ao24, co24, eo24⟩ := Kd.R_slice HO_7.out
     subst eo24
     go_upto_region 13 with (first | ((with_reducible refine gate_callee (f := 23) rfl ?_); refine goesL_ (some 44) rfl rfl Try.func23 (by kernel_rfl) rfl #[.slice Ao24 x7_1.length co24, .int .i64 (-1), .int .i64 (x7_1.length : Int), .int .i64 a2] rfl (by (try simp only [List.map_toArray, List.map_cons, List.map_nil]); first | done | rfl | (simp only [List.length_drop, List.length_take]; rfl)) ?_; (with_reducible refine (justify_Set.calls k1 _ _ x7_1 (-1) (x7_1.length : Int) a2 t338 t339 t340 _ ?side1 ?side2 A22.out).mono ?_); (case side1 => repeat (first | exact (Kd.R_reads' HO_7.out).2.2 | (with_reducible refine Kd.C_alloc ?_ _) | (with_reducible refine Kd.C_drewN ?_ _) | (with_reducible refine Kd.C_drew ?_))); (case side2 => exact (Kd.R_reads' HO_7.out).2.1); rintro e w25 ⟨v341, rfl, ho0, hb⟩; refine ⟨_, rfl, ?_⟩; have n0_ := Aside0.mk (Kd.R_below (rq HO_7) hb); have n1_ := Aside0.mk (Kd.R_lower ho0 (below_size (bs HB GE323))); have n2_ := Aside0.mk (blk_below (g := gb323) (o := .cells #[.int .i64 2, .int .i64 a1_1, .int .i64 a1_2, .int .i64 a1_3, .int .i64 a1_4, .bool a1_5] 31 (0, 0)) (kq BK323) hb); have n3_ := Aside0.mk (below_step (bs HB GE323) hb); clear HO_7; clear BK323; clear HB; have HO_7 := n0_; have HO342 := n1_; have BK323 := n2_; have HB := n3_; clear n0_ n1_ n2_ n3_; (try clear hb); (try clear hb2); (try clear hk); (try clear hi); (try clear ho0)))
     (try simp only [Act.put, List.setIfInBounds_toArray, List.set_cons_zero, List.set_cons_succ])
     go_cut [53] (fun v53 wc => ∃ (kq : Nat) (x53_22 : Bool), v53 = .bool x53_22 ∧ Aside0 (seriflaw20_JustifyFair.j1 kq t338 x53_22 = some r) ∧ Aside0 (kq ≤ k1) ∧ Aside0 (Kd.R (Kd.int .i64) 3 wc w.heap.size (fun _ => True) v341 t338) ∧ Aside0 (wc.heap[gb323]? = some (.cells #[.int .i64 2, .int .i64 a1_1, .int .i64 a1_2, .int .i64 a1_3, .int .i64 a1_4, .bool a1_5] 31 (0, 0))) ∧ Aside0 (Below w.heap.size w wc))
     case first =>
      have H := HC23.out
      clear HC23
      by_cases c26 : t340 = 0
      ·rw [if_pos c26] at H
       have c26b0 : (t340 == 0) = true := beq_iff_eq.mpr c26
       have c26b1 : (t340 != 0) = false := bne_eq_false_iff_eq.mpr c26
       clear c26
       (first | rw [c26b0] | (simp only [i64_w, i32_w]; rw [c26b0]) | skip)
       have H' := Aside0.mk H
       clear H
       go_wp2
       go_meet
       case rel => exact ⟨_, (!t339), (by first | rfl | (simp; done) | (simp [*]; done)), H', ⟨by have := HK1.out; first | omega | exact Nat.le_refl _⟩, ⟨by (with_reducible repeat (first | apply Kd.R_alloc | apply Kd.R_drewN | apply Kd.R_drew)); exact HO342.out⟩, ⟨by (with_reducible repeat (first | refine blk_drewN ?_ _ | refine blk_drew ?_ | refine blk_alloc ?_ _)); exact BK323.out⟩, ⟨bs HB GE323⟩⟩
      ·rw [if_neg c26] at H
       have c26b0 : (t340 == 0) = false := beq_eq_false_iff_ne.mpr c26
       have c26b1 : (t340 != 0) = true := bne_iff_ne.mpr c26
       (first | rw [c26b0] | (simp only [i64_w, i32_w]; rw [c26b0]) | skip)
       have H' := Aside0.mk H
       clear H
       go_wp2
       go_meet
       case rel => exact ⟨_, (true), (by first | rfl | (simp; done) | (simp [*]; done)), H', ⟨by have := HK1.out; first | omega | exact Nat.le_refl _⟩, ⟨by (with_reducible repeat (first | apply Kd.R_alloc | apply Kd.R_drewN | apply Kd.R_drew)); exact HO342.out⟩, ⟨by (with_reducible repeat (first | refine blk_drewN ?_ _ | refine blk_drew ?_ | refine blk_alloc ?_ _)); exact BK323.out⟩, ⟨bs HB GE323⟩⟩
     case rest =>
      clear HC23
      try clear c1
      try clear c2
      try clear p2
      try clear p3
      try clear q3
      try clear hx3
      try clear c5
      try clear p6
      try clear c8
      try clear c11
      try clear c11b0
      try clear c12
      try clear c12b0
      try clear c13
      try clear c13b0
      try clear c14
      try clear c14b0
      try clear c15
      try clear c16
      try clear c20
      try clear c21
      try clear c23
      try clear c26
      try clear c26b0
      try clear c26b1
      try clear hcz10_0
      try clear hcz10_1
      try clear hcz10_2
      try clear hcz10_3
      try clear hcz10_4
      try clear hcz10_5
      try clear hcz17_0
      try clear hcz17_1
      try clear hcz17_2
      try clear hcz17_3
      try clear hcz17_4
      try clear hcz17_5
      try clear hfz10_0
      try clear hfz10_1
      try clear hfz10_2
      try clear hfz10_3
      try clear hfz10_4
      try clear hfz10_5
      try clear hfz17_0
      try clear hfz17_1
      try clear hfz17_2
      try clear hfz17_3
      try clear hfz17_4
      try clear hfz17_5
      try clear hx328_0
      try clear p2
      try clear p328
      try clear q328
      obtain ⟨kq, x53_22, rfl, HA, HJ22, HO_10, BK323, HB⟩ := hcut
      cases kq with
      | zero => exact absurd HA.out (by simp [seriflaw20_JustifyFair.j1])
      | succ kj22 =>
       have H := HA.out
       clear HA
       simp only [seriflaw20_JustifyFair.j1] at H
       by_cases c27 : x53_22 = true
       ·subst c27
        have H1 : (some true) = some r := by rw [if_pos rfl] at H; exact H
        clear H
        have H := H1
        clear H1
        obtain rfl := Option.some.inj H
        go_wp2
        go_ret
        exact ⟨by first | rfl | (simp [errW_none, errW_some] <;> rfl) | (simp [*, errW_none, errW_some] <;> rfl), bs HB GE323⟩
       ·replace c27 := Bool.eq_false_iff.mpr c27
        subst c27
        have H1 : (seriflaw20_JustifyFair.l1 kj22 t338 0 0 (t338.length : Int) 0) = some r := by rw [if_neg (show ¬ (false = true) by decide)] at H; exact H
        clear H
        have H := H1
        clear H1
        have H' := Aside0.mk H
        clear H
        obtain ⟨Ao28, co28, eo28⟩ := Kd.R_slice HO_10.out
        subst eo28
        go_wp2
        go_loopg [13, 14, 56] kj22 (fun kq v13 v14 v56 w' => ∃ (x13_3 : Int) (x14_3 : Int) (x56_3 : Int), v13 = .int .i64 x13_3 ∧ v14 = .int .i64 x14_3 ∧ v56 = .int .i64 x56_3 ∧ Aside0 (seriflaw20_JustifyFair.l1 kq t338 x13_3 x14_3 (t338.length : Int) x56_3 = some r) ∧ Aside0 (kq ≤ kj22) ∧ Aside0 (Kd.R (Kd.int .i64) 3 w' w.heap.size (fun _ => True) (.slice Ao28 t338.length co28) t338) ∧ Aside0 (w'.heap[gb323]? = some (.cells #[.int .i64 2, .int .i64 a1_1, .int .i64 a1_2, .int .i64 a1_3, .int .i64 a1_4, .bool a1_5] 31 (0, 0))) ∧ Aside0 (Below w.heap.size w w'))
        case atStart => exact ⟨(0), (0), (0), (by first | rfl | (simp; done) | (simp [*]; done)), (by first | rfl | (simp; done) | (simp [*]; done)), (by first | rfl | (simp; done) | (simp [*]; done)), H', ⟨Nat.le_refl _⟩, ⟨by (with_reducible repeat (first | apply Kd.R_alloc | apply Kd.R_drewN | apply Kd.R_drew)); exact HO_10.out⟩, ⟨by (with_reducible repeat (first | refine blk_drewN ?_ _ | refine blk_drew ?_ | refine blk_alloc ?_ _)); exact BK323.out⟩, ⟨bs HB GE323⟩⟩
        case round =>
         clear H'
         try clear c1
         try clear c2
         try clear p2
         try clear p3
         try clear q3
         try clear hx3
         try clear c5
         try clear p6
         try clear c8
         try clear c11
         try clear c11b0
         try clear c12
         try clear c12b0
         try clear c13
         try clear c13b0
         try clear c14
         try clear c14b0
         try clear c15
         try clear c16
         try clear c20
         try clear c21
         try clear c23
         try clear c26
         try clear c26b0
         try clear c26b1
         try clear c27
         try clear hcz10_0
         try clear hcz10_1
         try clear hcz10_2
         try clear hcz10_3
         try clear hcz10_4
         try clear hcz10_5
         try clear hcz17_0
         try clear hcz17_1
         try clear hcz17_2
         try clear hcz17_3
         try clear hcz17_4
         try clear hcz17_5
         try clear hfz10_0
         try clear hfz10_1
         try clear hfz10_2
         try clear hfz10_3
         try clear hfz10_4
         try clear hfz10_5
         try clear hfz17_0
         try clear hfz17_1
         try clear hfz17_2
         try clear hfz17_3
         try clear hfz17_4
         try clear hfz17_5
         try clear hx328_0
         try clear p2
         try clear p3
         try clear p328
         try clear p6
         try clear q3
         try clear q328
         obtain ⟨x13_3, x14_3, x56_3, rfl, rfl, rfl, HA, HK3, HO_10, BK323, HB⟩ := hrel
         cases gk with
         | zero => exact absurd HA.out (by simp [seriflaw20_JustifyFair.l1])
         | succ k3 =>
          have H := HA.out
          clear HA
          simp only [seriflaw20_JustifyFair.l1] at H
          by_cases c29 : x56_3 < (t338.length : Int)
          ·rw [if_pos c29] at H
           have c29b0 : decide (x56_3 < (t338.length : Int)) = true := decide_eq_true c29
           clear c29
           have HC30 := Aside0.mk H
           clear H
           go_upto_region 19 with (fail)
           go_cut [73] (fun v73 wc => ∃ (kq : Nat) (x73_29 : Bool), v73 = .bool x73_29 ∧ Aside0 (seriflaw20_JustifyFair.j3 kq t338 x13_3 x14_3 x56_3 (t338.length : Int) x56_3 x73_29 = some r) ∧ Aside0 (kq ≤ k3) ∧ Aside0 (Kd.R (Kd.int .i64) 3 wc w.heap.size (fun _ => True) (.slice Ao28 t338.length co28) t338) ∧ Aside0 (wc.heap[gb323]? = some (.cells #[.int .i64 2, .int .i64 a1_1, .int .i64 a1_2, .int .i64 a1_3, .int .i64 a1_4, .bool a1_5] 31 (0, 0))) ∧ Aside0 (Below w.heap.size w wc))
           case first =>
            have H := HC30.out
            clear HC30
            by_cases c31 : (Int.tmod x56_3 2) = 1
            ·rw [if_pos c31] at H
             have c31b0 : ((Int.tmod x56_3 2) == 1) = true := beq_iff_eq.mpr c31
             have c31b1 : ((Int.tmod x56_3 2) != 1) = false := bne_eq_false_iff_eq.mpr c31
             clear c31
             (first | rw [c31b0] | (simp only [i64_w, i32_w]; rw [c31b0]) | skip)
             by_cases c32 : x56_3 = 1
             ·rw [if_pos c32] at H
              have c32b0 : (x56_3 == 1) = true := beq_iff_eq.mpr c32
              have c32b1 : (x56_3 != 1) = false := bne_eq_false_iff_eq.mpr c32
              clear c32
              have H' := Aside0.mk H
              clear H
              go_wp2
              go_meet
              case rel => exact ⟨_, (true), (by first | rfl | (simp; done) | (simp [*]; done)), H', ⟨by have := HK1.out; have := HJ22.out; have := HK3.out; first | omega | exact Nat.le_refl _⟩, ⟨by (with_reducible repeat (first | apply Kd.R_alloc | apply Kd.R_drewN | apply Kd.R_drew)); exact HO_10.out⟩, ⟨by (with_reducible repeat (first | refine blk_drewN ?_ _ | refine blk_drew ?_ | refine blk_alloc ?_ _)); exact BK323.out⟩, ⟨bs HB GE323⟩⟩
             ·rw [if_neg c32] at H
              have c32b0 : (x56_3 == 1) = false := beq_eq_false_iff_ne.mpr c32
              have c32b1 : (x56_3 != 1) = true := bne_iff_ne.mpr c32
              by_cases c33 : 0 ≤ x56_3
              ·rw [if_pos c33] at H
               have c33b0 : decide (0 ≤ x56_3) = true := decide_eq_true c33
               clear c33
               by_cases c34 : x56_3 < (t338.length : Int)
               ·rw [if_pos c34] at H
                have c34b0 : decide (x56_3 < (t338.length : Int)) = true := decide_eq_true c34
                clear c34
                have H' := Aside0.mk H
                clear H
                have p343 : 0 ≤ (x56_3 : Int) := odt
                have q343 : x56_3 < (t338.length : Int) := odt
                obtain ⟨ad343, e343, hx343_0⟩ := Kd.at_int (Kd.R_reads' HO_10.out).2.2 x56_3 p343 q343
                cases e343
                replace p343 := eq_true p343
                replace q343 := eq_true q343
                go_wp2
                go_meet
                case rel => exact ⟨_, (decide ((rd t338 x56_3) < x13_3)), (by first | rfl | (simp; done) | (simp [*]; done)), H', ⟨by have := HK1.out; have := HJ22.out; have := HK3.out; first | omega | exact Nat.le_refl _⟩, ⟨by (with_reducible repeat (first | apply Kd.R_alloc | apply Kd.R_drewN | apply Kd.R_drew)); exact HO_10.out⟩, ⟨by (with_reducible repeat (first | refine blk_drewN ?_ _ | refine blk_drew ?_ | refine blk_alloc ?_ _)); exact BK323.out⟩, ⟨bs HB GE323⟩⟩
               ·rw [if_neg c34] at H
                exact absurd H (by simp)
              ·rw [if_neg c33] at H
               exact absurd H (by simp)
            ·rw [if_neg c31] at H
             have c31b0 : ((Int.tmod x56_3 2) == 1) = false := beq_eq_false_iff_ne.mpr c31
             have c31b1 : ((Int.tmod x56_3 2) != 1) = true := bne_iff_ne.mpr c31
             (first | rw [c31b0] | (simp only [i64_w, i32_w]; rw [c31b0]) | skip)
             have H' := Aside0.mk H
             clear H
             go_wp2
             go_meet
             case rel => exact ⟨_, (false), (by first | rfl | (simp; done) | (simp [*]; done)), H', ⟨by have := HK1.out; have := HJ22.out; have := HK3.out; first | omega | exact Nat.le_refl _⟩, ⟨by (with_reducible repeat (first | apply Kd.R_alloc | apply Kd.R_drewN | apply Kd.R_drew)); exact HO_10.out⟩, ⟨by (with_reducible repeat (first | refine blk_drewN ?_ _ | refine blk_drew ?_ | refine blk_alloc ?_ _)); exact BK323.out⟩, ⟨bs HB GE323⟩⟩
           case rest =>
            clear HC30
            try clear c1
            try clear c2
            try clear p2
            try clear c3
            try clear p3
            try clear q3
            try clear hx3
            try clear c5
            try clear p6
            try clear c8
            try clear c11
            try clear c11b0
            try clear c12
            try clear c12b0
            try clear c13
            try clear c13b0
            try clear c14
            try clear c14b0
            try clear c15
            try clear c16
            try clear c20
            try clear c21
            try clear c23
            try clear c26
            try clear c26b0
            try clear c26b1
            try clear c27
            try clear c29
            try clear c29b0
            try clear c31
            try clear c31b0
            try clear c31b1
            try clear c32
            try clear c32b0
            try clear c32b1
            try clear p32
            try clear q32
            try clear hx32
            try clear c33
            try clear c33b0
            try clear c34
            try clear c34b0
            try clear p34
            try clear q34
            try clear hx34
            try clear hcz10_0
            try clear hcz10_1
            try clear hcz10_2
            try clear hcz10_3
            try clear hcz10_4
            try clear hcz10_5
            try clear hcz17_0
            try clear hcz17_1
            try clear hcz17_2
            try clear hcz17_3
            try clear hcz17_4
            try clear hcz17_5
            try clear hfz10_0
            try clear hfz10_1
            try clear hfz10_2
            try clear hfz10_3
            try clear hfz10_4
            try clear hfz10_5
            try clear hfz17_0
            try clear hfz17_1
            try clear hfz17_2
            try clear hfz17_3
            try clear hfz17_4
            try clear hfz17_5
            try clear hx328_0
            try clear hx343_0
            try clear p2
            try clear p3
            try clear p328
            try clear p343
            try clear p6
            try clear q3
            try clear q328
            try clear q343
            obtain ⟨kq, x73_29, rfl, HA, HJ29, HO_10, BK323, HB⟩ := hcut
            cases kq with
            | zero => exact absurd HA.out (by simp [seriflaw20_JustifyFair.j3])
            | succ kj29 =>
             have H := HA.out
             clear HA
             simp only [seriflaw20_JustifyFair.j3] at H
             by_cases c35 : x73_29 = true
             ·subst c35
              have H1 : (if 0 ≤ x56_3 then (if x56_3 < (t338.length : Int) then (if (Int.tmod x56_3 2) = 1 then (if x56_3 = 1 then (seriflaw20_JustifyFair.l1 kj29 t338 (rd t338 x56_3) (rd t338 x56_3) (t338.length : Int) (wrap64 (x56_3 + 1))) else (if (rd t338 x56_3) > x14_3 then (seriflaw20_JustifyFair.l1 kj29 t338 (rd t338 x56_3) (rd t338 x56_3) (t338.length : Int) (wrap64 (x56_3 + 1))) else (seriflaw20_JustifyFair.l1 kj29 t338 (rd t338 x56_3) x14_3 (t338.length : Int) (wrap64 (x56_3 + 1))))) else (seriflaw20_JustifyFair.l1 kj29 t338 (rd t338 x56_3) x14_3 (t338.length : Int) (wrap64 (x56_3 + 1)))) else (none)) else (none)) = some r := by rw [if_pos rfl] at H; exact H
              clear H
              have H := H1
              clear H1
              by_cases c36 : 0 ≤ x56_3
              ·rw [if_pos c36] at H
               have c36b0 : decide (0 ≤ x56_3) = true := decide_eq_true c36
               clear c36
               by_cases c37 : x56_3 < (t338.length : Int)
               ·rw [if_pos c37] at H
                have c37b0 : decide (x56_3 < (t338.length : Int)) = true := decide_eq_true c37
                clear c37
                by_cases c38 : (Int.tmod x56_3 2) = 1
                ·rw [if_pos c38] at H
                 have c38b0 : ((Int.tmod x56_3 2) == 1) = true := beq_iff_eq.mpr c38
                 have c38b1 : ((Int.tmod x56_3 2) != 1) = false := bne_eq_false_iff_eq.mpr c38
                 clear c38
                 by_cases c39 : x56_3 = 1
                 ·rw [if_pos c39] at H
                  have c39b0 : (x56_3 == 1) = true := beq_iff_eq.mpr c39
                  have c39b1 : (x56_3 != 1) = false := bne_eq_false_iff_eq.mpr c39
                  clear c39
                  have H' := Aside0.mk H
                  clear H
                  have p344 : 0 ≤ (x56_3 : Int) := odt
                  have q344 : x56_3 < (t338.length : Int) := odt
                  obtain ⟨ad344, e344, hx344_0⟩ := Kd.at_int (Kd.R_reads' HO_10.out).2.2 x56_3 p344 q344
                  cases e344
                  replace p344 := eq_true p344
                  replace q344 := eq_true q344
                  have p345 : 0 ≤ (x56_3 : Int) := odt
                  have q345 : x56_3 < (t338.length : Int) := odt
                  obtain ⟨ad345, e345, hx345_0⟩ := Kd.at_int (Kd.R_reads' HO_10.out).2.2 x56_3 p345 q345
                  obtain rfl : ad344 = ad345 := (by injection e345)
                  replace p345 := eq_true p345
                  replace q345 := eq_true q345
                  go_wp2
                  go_roundg kj29
                  case measure => have := HK1.out; have := HJ22.out; have := HK3.out; have := HJ29.out; omega
                  case rel => exact ⟨(rd t338 x56_3), (rd t338 x56_3), (wrap64 (x56_3 + 1)), (by first | rfl | (simp; done) | (simp [*]; done)), (by first | rfl | (simp; done) | (simp [*]; done)), (by first | rfl | (simp; done) | (simp [*]; done)), H', ⟨by have := HK1.out; have := HJ22.out; have := HK3.out; have := HJ29.out; omega⟩, ⟨by (with_reducible repeat (first | apply Kd.R_alloc | apply Kd.R_drewN | apply Kd.R_drew)); exact HO_10.out⟩, ⟨by (with_reducible repeat (first | refine blk_drewN ?_ _ | refine blk_drew ?_ | refine blk_alloc ?_ _)); exact BK323.out⟩, ⟨bs HB GE323⟩⟩
                 ·rw [if_neg c39] at H
                  have c39b0 : (x56_3 == 1) = false := beq_eq_false_iff_ne.mpr c39
                  have c39b1 : (x56_3 != 1) = true := bne_iff_ne.mpr c39
                  by_cases c40 : (rd t338 x56_3) > x14_3
                  ·rw [if_pos c40] at H
                   have c40b0 : decide (x14_3 < (rd t338 x56_3)) = true := decide_eq_true c40
                   clear c40
                   have H' := Aside0.mk H
                   clear H
                   have p344 : 0 ≤ (x56_3 : Int) := odt
                   have q344 : x56_3 < (t338.length : Int) := odt
                   obtain ⟨ad344, e344, hx344_0⟩ := Kd.at_int (Kd.R_reads' HO_10.out).2.2 x56_3 p344 q344
                   cases e344
                   replace p344 := eq_true p344
                   replace q344 := eq_true q344
                   have p346 : 0 ≤ (x56_3 : Int) := odt
                   have q346 : x56_3 < (t338.length : Int) := odt
                   obtain ⟨ad346, e346, hx346_0⟩ := Kd.at_int (Kd.R_reads' HO_10.out).2.2 x56_3 p346 q346
                   obtain rfl : ad344 = ad346 := (by injection e346)
                   replace p346 := eq_true p346
                   replace q346 := eq_true q346
                   have p347 : 0 ≤ (x56_3 : Int) := odt
                   have q347 : x56_3 < (t338.length : Int) := odt
                   obtain ⟨ad347, e347, hx347_0⟩ := Kd.at_int (Kd.R_reads' HO_10.out).2.2 x56_3 p347 q347
                   obtain rfl : ad344 = ad347 := (by injection e347)
                   replace p347 := eq_true p347
                   replace q347 := eq_true q347
                   go_wp2
                   go_roundg kj29
                   case measure => have := HK1.out; have := HJ22.out; have := HK3.out; have := HJ29.out; omega
                   case rel => exact ⟨(rd t338 x56_3), (rd t338 x56_3), (wrap64 (x56_3 + 1)), (by first | rfl | (simp; done) | (simp [*]; done)), (by first | rfl | (simp; done) | (simp [*]; done)), (by first | rfl | (simp; done) | (simp [*]; done)), H', ⟨by have := HK1.out; have := HJ22.out; have := HK3.out; have := HJ29.out; omega⟩, ⟨by (with_reducible repeat (first | apply Kd.R_alloc | apply Kd.R_drewN | apply Kd.R_drew)); exact HO_10.out⟩, ⟨by (with_reducible repeat (first | refine blk_drewN ?_ _ | refine blk_drew ?_ | refine blk_alloc ?_ _)); exact BK323.out⟩, ⟨bs HB GE323⟩⟩
                  ·rw [if_neg c40] at H
                   have c40b0 : decide (x14_3 < (rd t338 x56_3)) = false := decide_eq_false c40
                   clear c40
                   have H' := Aside0.mk H
                   clear H
                   have p344 : 0 ≤ (x56_3 : Int) := odt
                   have q344 : x56_3 < (t338.length : Int) := odt
                   obtain ⟨ad344, e344, hx344_0⟩ := Kd.at_int (Kd.R_reads' HO_10.out).2.2 x56_3 p344 q344
                   cases e344
                   replace p344 := eq_true p344
                   replace q344 := eq_true q344
                   have p346 : 0 ≤ (x56_3 : Int) := odt
                   have q346 : x56_3 < (t338.length : Int) := odt
                   obtain ⟨ad346, e346, hx346_0⟩ := Kd.at_int (Kd.R_reads' HO_10.out).2.2 x56_3 p346 q346
                   obtain rfl : ad344 = ad346 := (by injection e346)
                   replace p346 := eq_true p346
                   replace q346 := eq_true q346
                   go_wp2
                   go_roundg kj29
                   case measure => have := HK1.out; have := HJ22.out; have := HK3.out; have := HJ29.out; omega
                   case rel => exact ⟨(rd t338 x56_3), (x14_3), (wrap64 (x56_3 + 1)), (by first | rfl | (simp; done) | (simp [*]; done)), (by first | rfl | (simp; done) | (simp [*]; done)), (by first | rfl | (simp; done) | (simp [*]; done)), H', ⟨by have := HK1.out; have := HJ22.out; have := HK3.out; have := HJ29.out; omega⟩, ⟨by (with_reducible repeat (first | apply Kd.R_alloc | apply Kd.R_drewN | apply Kd.R_drew)); exact HO_10.out⟩, ⟨by (with_reducible repeat (first | refine blk_drewN ?_ _ | refine blk_drew ?_ | refine blk_alloc ?_ _)); exact BK323.out⟩, ⟨bs HB GE323⟩⟩
                ·rw [if_neg c38] at H
                 have c38b0 : ((Int.tmod x56_3 2) == 1) = false := beq_eq_false_iff_ne.mpr c38
                 have c38b1 : ((Int.tmod x56_3 2) != 1) = true := bne_iff_ne.mpr c38
                 have H' := Aside0.mk H
                 clear H
                 have p344 : 0 ≤ (x56_3 : Int) := odt
                 have q344 : x56_3 < (t338.length : Int) := odt
                 obtain ⟨ad344, e344, hx344_0⟩ := Kd.at_int (Kd.R_reads' HO_10.out).2.2 x56_3 p344 q344
                 cases e344
                 replace p344 := eq_true p344
                 replace q344 := eq_true q344
                 go_wp2
                 go_roundg kj29
                 case measure => have := HK1.out; have := HJ22.out; have := HK3.out; have := HJ29.out; omega
                 case rel => exact ⟨(rd t338 x56_3), (x14_3), (wrap64 (x56_3 + 1)), (by first | rfl | (simp; done) | (simp [*]; done)), (by first | rfl | (simp; done) | (simp [*]; done)), (by first | rfl | (simp; done) | (simp [*]; done)), H', ⟨by have := HK1.out; have := HJ22.out; have := HK3.out; have := HJ29.out; omega⟩, ⟨by (with_reducible repeat (first | apply Kd.R_alloc | apply Kd.R_drewN | apply Kd.R_drew)); exact HO_10.out⟩, ⟨by (with_reducible repeat (first | refine blk_drewN ?_ _ | refine blk_drew ?_ | refine blk_alloc ?_ _)); exact BK323.out⟩, ⟨bs HB GE323⟩⟩
               ·rw [if_neg c37] at H
                exact absurd H (by simp)
              ·rw [if_neg c36] at H
               exact absurd H (by simp)
             ·replace c35 := Bool.eq_false_iff.mpr c35
              subst c35
              have H1 : (if (Int.tmod x56_3 2) = 1 then (if x56_3 = 1 then (if 0 ≤ x56_3 then (if x56_3 < (t338.length : Int) then (seriflaw20_JustifyFair.l1 kj29 t338 x13_3 (rd t338 x56_3) (t338.length : Int) (wrap64 (x56_3 + 1))) else (none)) else (none)) else (if 0 ≤ x56_3 then (if x56_3 < (t338.length : Int) then (if (rd t338 x56_3) > x14_3 then (seriflaw20_JustifyFair.l1 kj29 t338 x13_3 (rd t338 x56_3) (t338.length : Int) (wrap64 (x56_3 + 1))) else (seriflaw20_JustifyFair.l1 kj29 t338 x13_3 x14_3 (t338.length : Int) (wrap64 (x56_3 + 1)))) else (none)) else (none))) else (seriflaw20_JustifyFair.l1 kj29 t338 x13_3 x14_3 (t338.length : Int) (wrap64 (x56_3 + 1)))) = some r := by rw [if_neg (show ¬ (false = true) by decide)] at H; exact H
              clear H
              have H := H1
              clear H1
              by_cases c41 : (Int.tmod x56_3 2) = 1
              ·rw [if_pos c41] at H
               have c41b0 : ((Int.tmod x56_3 2) == 1) = true := beq_iff_eq.mpr c41
               have c41b1 : ((Int.tmod x56_3 2) != 1) = false := bne_eq_false_iff_eq.mpr c41
               clear c41
               by_cases c42 : x56_3 = 1
               ·rw [if_pos c42] at H
                have c42b0 : (x56_3 == 1) = true := beq_iff_eq.mpr c42
                have c42b1 : (x56_3 != 1) = false := bne_eq_false_iff_eq.mpr c42
                clear c42
                by_cases c43 : 0 ≤ x56_3
                ·rw [if_pos c43] at H
                 have c43b0 : decide (0 ≤ x56_3) = true := decide_eq_true c43
                 clear c43
                 by_cases c44 : x56_3 < (t338.length : Int)
                 ·rw [if_pos c44] at H
                  have c44b0 : decide (x56_3 < (t338.length : Int)) = true := decide_eq_true c44
                  clear c44
                  have H' := Aside0.mk H
                  clear H
                  have p348 : 0 ≤ (x56_3 : Int) := odt
                  have q348 : x56_3 < (t338.length : Int) := odt
                  obtain ⟨ad348, e348, hx348_0⟩ := Kd.at_int (Kd.R_reads' HO_10.out).2.2 x56_3 p348 q348
                  cases e348
                  replace p348 := eq_true p348
                  replace q348 := eq_true q348
                  go_wp2
                  go_roundg kj29
                  case measure => have := HK1.out; have := HJ22.out; have := HK3.out; have := HJ29.out; omega
                  case rel => exact ⟨(x13_3), (rd t338 x56_3), (wrap64 (x56_3 + 1)), (by first | rfl | (simp; done) | (simp [*]; done)), (by first | rfl | (simp; done) | (simp [*]; done)), (by first | rfl | (simp; done) | (simp [*]; done)), H', ⟨by have := HK1.out; have := HJ22.out; have := HK3.out; have := HJ29.out; omega⟩, ⟨by (with_reducible repeat (first | apply Kd.R_alloc | apply Kd.R_drewN | apply Kd.R_drew)); exact HO_10.out⟩, ⟨by (with_reducible repeat (first | refine blk_drewN ?_ _ | refine blk_drew ?_ | refine blk_alloc ?_ _)); exact BK323.out⟩, ⟨bs HB GE323⟩⟩
                 ·rw [if_neg c44] at H
                  exact absurd H (by simp)
                ·rw [if_neg c43] at H
                 exact absurd H (by simp)
               ·rw [if_neg c42] at H
                have c42b0 : (x56_3 == 1) = false := beq_eq_false_iff_ne.mpr c42
                have c42b1 : (x56_3 != 1) = true := bne_iff_ne.mpr c42
                by_cases c45 : 0 ≤ x56_3
                ·rw [if_pos c45] at H
                 have c45b0 : decide (0 ≤ x56_3) = true := decide_eq_true c45
                 clear c45
                 by_cases c46 : x56_3 < (t338.length : Int)
                 ·rw [if_pos c46] at H
                  have c46b0 : decide (x56_3 < (t338.length : Int)) = true := decide_eq_true c46
                  clear c46
                  by_cases c47 : (rd t338 x56_3) > x14_3
                  ·rw [if_pos c47] at H
                   have c47b0 : decide (x14_3 < (rd t338 x56_3)) = true := decide_eq_true c47
                   clear c47
                   have H' := Aside0.mk H
                   clear H
                   have p349 : 0 ≤ (x56_3 : Int) := odt
                   have q349 : x56_3 < (t338.length : Int) := odt
                   obtain ⟨ad349, e349, hx349_0⟩ := Kd.at_int (Kd.R_reads' HO_10.out).2.2 x56_3 p349 q349
                   cases e349
                   replace p349 := eq_true p349
                   replace q349 := eq_true q349
                   have p350 : 0 ≤ (x56_3 : Int) := odt
                   have q350 : x56_3 < (t338.length : Int) := odt
                   obtain ⟨ad350, e350, hx350_0⟩ := Kd.at_int (Kd.R_reads' HO_10.out).2.2 x56_3 p350 q350
                   obtain rfl : ad349 = ad350 := (by injection e350)
                   replace p350 := eq_true p350
                   replace q350 := eq_true q350
                   go_wp2
                   go_roundg kj29
                   case measure => have := HK1.out; have := HJ22.out; have := HK3.out; have := HJ29.out; omega
                   case rel => exact ⟨(x13_3), (rd t338 x56_3), (wrap64 (x56_3 + 1)), (by first | rfl | (simp; done) | (simp [*]; done)), (by first | rfl | (simp; done) | (simp [*]; done)), (by first | rfl | (simp; done) | (simp [*]; done)), H', ⟨by have := HK1.out; have := HJ22.out; have := HK3.out; have := HJ29.out; omega⟩, ⟨by (with_reducible repeat (first | apply Kd.R_alloc | apply Kd.R_drewN | apply Kd.R_drew)); exact HO_10.out⟩, ⟨by (with_reducible repeat (first | refine blk_drewN ?_ _ | refine blk_drew ?_ | refine blk_alloc ?_ _)); exact BK323.out⟩, ⟨bs HB GE323⟩⟩
                  ·rw [if_neg c47] at H
                   have c47b0 : decide (x14_3 < (rd t338 x56_3)) = false := decide_eq_false c47
                   clear c47
                   have H' := Aside0.mk H
                   clear H
                   have p349 : 0 ≤ (x56_3 : Int) := odt
                   have q349 : x56_3 < (t338.length : Int) := odt
                   obtain ⟨ad349, e349, hx349_0⟩ := Kd.at_int (Kd.R_reads' HO_10.out).2.2 x56_3 p349 q349
                   cases e349
                   replace p349 := eq_true p349
                   replace q349 := eq_true q349
                   go_wp2
                   go_roundg kj29
                   case measure => have := HK1.out; have := HJ22.out; have := HK3.out; have := HJ29.out; omega
                   case rel => exact ⟨(x13_3), (x14_3), (wrap64 (x56_3 + 1)), (by first | rfl | (simp; done) | (simp [*]; done)), (by first | rfl | (simp; done) | (simp [*]; done)), (by first | rfl | (simp; done) | (simp [*]; done)), H', ⟨by have := HK1.out; have := HJ22.out; have := HK3.out; have := HJ29.out; omega⟩, ⟨by (with_reducible repeat (first | apply Kd.R_alloc | apply Kd.R_drewN | apply Kd.R_drew)); exact HO_10.out⟩, ⟨by (with_reducible repeat (first | refine blk_drewN ?_ _ | refine blk_drew ?_ | refine blk_alloc ?_ _)); exact BK323.out⟩, ⟨bs HB GE323⟩⟩
                 ·rw [if_neg c46] at H
                  exact absurd H (by simp)
                ·rw [if_neg c45] at H
                 exact absurd H (by simp)
              ·rw [if_neg c41] at H
               have c41b0 : ((Int.tmod x56_3 2) == 1) = false := beq_eq_false_iff_ne.mpr c41
               have c41b1 : ((Int.tmod x56_3 2) != 1) = true := bne_iff_ne.mpr c41
               have H' := Aside0.mk H
               clear H
               go_wp2
               go_roundg kj29
               case measure => have := HK1.out; have := HJ22.out; have := HK3.out; have := HJ29.out; omega
               case rel => exact ⟨(x13_3), (x14_3), (wrap64 (x56_3 + 1)), (by first | rfl | (simp; done) | (simp [*]; done)), (by first | rfl | (simp; done) | (simp [*]; done)), (by first | rfl | (simp; done) | (simp [*]; done)), H', ⟨by have := HK1.out; have := HJ22.out; have := HK3.out; have := HJ29.out; omega⟩, ⟨by (with_reducible repeat (first | apply Kd.R_alloc | apply Kd.R_drewN | apply Kd.R_drew)); exact HO_10.out⟩, ⟨by (with_reducible repeat (first | refine blk_drewN ?_ _ | refine blk_drew ?_ | refine blk_alloc ?_ _)); exact BK323.out⟩, ⟨bs HB GE323⟩⟩
          ·rw [if_neg c29] at H
           have c29b0 : decide (x56_3 < (t338.length : Int)) = false := decide_eq_false c29
           clear c29
           obtain rfl := Option.some.inj H
           go_wp2
           go_ret
           exact ⟨by first | rfl | (simp [errW_none, errW_some] <;> rfl) | (simp [*, errW_none, errW_some] <;> rfl), bs HB GE323⟩
 ·replace c5 := Bool.eq_false_iff.mpr c5
  subst c5
  have H1 : (none) = some r := by rw [if_neg (show ¬ (false = true) by decide)] at H; exact H
  clear H
  have H := H1
  clear H1
  exact absurd H (by simp)

/-- THE ONE PURE STATEMENT of seriflaw20_JustifyFair: yours. -/
def seriflaw20_JustifyFair.Pure : Prop := ∀ (l0 : List Int) (x1 : S31) (a2 : Int), (l0.length ≤ 9223372036854775807 ∧ l0.length * 8 ≤ 140737488351232 ∧ ∀ y1_ ∈ l0, (Lit.int .i64 y1_).wf = true) → (okS31 x1) → ((Lit.int .i64 a2).wf = true) → ∃ k, seriflaw20_JustifyFair.f k l0 x1.f0 x1.f1 x1.f2 x1.f3 x1.f4 x1.f5 a2 = some true

end Go.Proofs.Ytfbanppdiglciaa.Y
