-- written by a program of this session (wip/xprint.py) over the kit's print
import Derived.Test.YtfbanppdiglciaaYx0
import Derived.Test.YtfbanppdiglciaaYx1
import Derived.Test.YtfbanppdiglciaaYx3
import Derived.Test.YtfbanppdiglciaaYx12
import Derived.Test.YtfbanppdiglciaaYx13
import Derived.Test.YtfbanppdiglciaaYx25
namespace Go.Proofs.Ytfbanppdiglciaa.Y
open Go.RowKit Go.Proofs.YtfbanppdiglciaaW.PrintWords Go.Proofs.YtfbanppdiglciaaW.PrintLast Go.Proofs.YtfbanppdiglciaaW.PrintMore
attribute [local go_sem] max2_int min2_int max_two min_two max_three min_three max_four min_four   -- for this text's walks alone
set_option linter.unusedVariables false
set_option linter.unusedSimpArgs false

attribute [local go_sem high] eqA31
/-! ### seriflaw20_JustifySets: function 7 -/
def seriflaw20_JustifySets.l0 : Nat → List (S31) → List (S31) → List Int → Bool → Int → List Int → Bool → Int → Int → Int → Option (Bool)
 | 0, _, _, _, _, _, _, _, _, _, _ => none
 | k + 1, x0, x7, x8, x9, x10, x11, x12, x13, x43, x44 => if x44 < x43 then (if 0 ≤ x44 then (if x44 < (x7.length : Int) then (if x44 < (x0.length : Int) then (if (!(((rd_T31 x7 x44).f0) == ((rd_T31 x0 x44).f0)) || (!(((rd_T31 x7 x44).f1) == ((rd_T31 x0 x44).f1)) || (!(((rd_T31 x7 x44).f2) == ((rd_T31 x0 x44).f2)) || (!(((rd_T31 x7 x44).f3) == ((rd_T31 x0 x44).f3)) || (!(((rd_T31 x7 x44).f4) == ((rd_T31 x0 x44).f4)) || (!(((rd_T31 x7 x44).f5) == ((rd_T31 x0 x44).f5)))))))) = true then (none) else (seriflaw20_JustifySets.l0 k x0 x7 x8 x9 x10 x11 x12 x13 x43 (wrap64 (x44 + 1)))) else (none)) else (none)) else (none)) else (if x13 = x10 then (if (x12 == x9) = true then ((serifref02_SameInts.f k x11 x8).bind fun t322 => (some t322)) else (none)) else (none))
def seriflaw20_JustifySets.f (k : Nat) (l0 : List (S31)) (a1_0 : Int) (a1_1 : Int) (a2 : Int) : Option (Bool) := (seriflaw20_justifyAlive.f k).bind fun t303 => (if t303 = true then ((some (([] : List (S31)) : List (S31))).bind fun y304 => (if y304.length + l0.length < 2932031007402 then ((some (y304 ++ l0 : List (S31))).bind fun y307 => ((serifref20_Set.f k l0 a1_0 a1_1 a2).bind fun bt310 => ((justify_Set.f k y307 a1_0 a1_1 a2).bind fun bt315 => (seriflaw20_JustifySets.l0 k l0 y307 bt310.1 bt310.2.1 bt310.2.2 bt315.1 bt315.2.1 bt315.2.2 (l0.length : Int) 0)))) else (none))) else (none))
theorem seriflaw20_JustifySets.mono_l : ∀ k, (∀ y0 y1 y2 y3 y4 y5 y6 y7 y8 y9, LeO (seriflaw20_JustifySets.l0 k y0 y1 y2 y3 y4 y5 y6 y7 y8 y9) (seriflaw20_JustifySets.l0 (k + 1) y0 y1 y2 y3 y4 y5 y6 y7 y8 y9))
 | 0 => fun _ _ _ _ _ _ _ _ _ _ r h => by simp [seriflaw20_JustifySets.l0] at h
 | k + 1 => by
  have ih0 := seriflaw20_JustifySets.mono_l k
  ·intro y0 y1 y2 y3 y4 y5 y6 y7 y8 y9
   unfold seriflaw20_JustifySets.l0
   repeat' first
   | (with_reducible exact ih0 _ _ _ _ _ _ _ _ _ _)
   | (with_reducible exact justify_Set.mono _ _ _ _ _)
   | (with_reducible exact seriflaw20_justifyAlive.mono _)
   | (with_reducible exact serifref02_SameInts.mono _ _ _)
   | (with_reducible exact serifref20_Set.mono _ _ _ _ _)
   | (with_reducible exact LeO.refl _)
   | (with_reducible exact LeO.none _)
   | (with_reducible refine LeO.ite ?_ ?_)
   | (with_reducible refine LeO.bind ?_ (fun _ => ?_))
   | exact ih0 _ _ _ _ _ _ _ _ _ _
   | exact justify_Set.mono _ _ _ _ _
   | exact seriflaw20_justifyAlive.mono _
   | exact serifref02_SameInts.mono _ _ _
   | exact serifref20_Set.mono _ _ _ _ _
   | exact LeO.none _
   | refine LeO.ite ?_ ?_
   | refine LeO.bind ?_ (fun _ => ?_)
theorem seriflaw20_JustifySets.mono : ∀ a0 a1 a2 a3 k, LeO (seriflaw20_JustifySets.f k a0 a1 a2 a3) (seriflaw20_JustifySets.f (k + 1) a0 a1 a2 a3) := by
 intro a0 a1 a2 a3 k
 have ih0 := seriflaw20_JustifySets.mono_l k
 unfold seriflaw20_JustifySets.f
 repeat' first
   | (with_reducible exact ih0 _ _ _ _ _ _ _ _ _ _)
   | (with_reducible exact justify_Set.mono _ _ _ _ _)
   | (with_reducible exact seriflaw20_justifyAlive.mono _)
   | (with_reducible exact serifref02_SameInts.mono _ _ _)
   | (with_reducible exact serifref20_Set.mono _ _ _ _ _)
   | (with_reducible exact LeO.refl _)
   | (with_reducible exact LeO.none _)
   | (with_reducible refine LeO.ite ?_ ?_)
   | (with_reducible refine LeO.bind ?_ (fun _ => ?_))
   | exact ih0 _ _ _ _ _ _ _ _ _ _
   | exact justify_Set.mono _ _ _ _ _
   | exact seriflaw20_justifyAlive.mono _
   | exact serifref02_SameInts.mono _ _ _
   | exact serifref20_Set.mono _ _ _ _ _
   | exact LeO.none _
   | refine LeO.ite ?_ ?_
   | refine LeO.bind ?_ (fun _ => ?_)
set_option maxHeartbeats 8000000 in
set_option maxRecDepth 100000 in
theorem seriflaw20_JustifySets.calls (k : Nat) (A0 : Option Addr) (c0 : Nat) (l0 : List (S31)) (a1_0 : Int) (a1_1 : Int) (a2 : Int) (r : Bool) (w : World) (hr0 : Kd.C k31 w A0 l0.length l0) (hc0 : l0.length ≤ c0) (h : seriflaw20_JustifySets.f k l0 a1_0 a1_1 a2 = some r) :
  Calls Try.prog 7 #[.slice A0 l0.length c0, .agg #[.int .i64 a1_0, .int .i64 a1_1], .int .i64 a2] w fun e w' => e = .returned (.bool r) ∧ Below w.heap.size w w' := by
 have hu37 := Try.underlying37
 have hu31 := Try.underlying31
 have HR0 := Aside0.mk hr0
 have HC0 := Aside0.mk hc0
 clear hr0 hc0
 have HB := Aside0.mk (Below.refl w.heap.size w)
 have H : ((seriflaw20_justifyAlive.f k).bind fun t303 => (if t303 = true then ((some (([] : List (S31)) : List (S31))).bind fun y304 => (if y304.length + l0.length < 2932031007402 then ((some (y304 ++ l0 : List (S31))).bind fun y307 => ((serifref20_Set.f k l0 a1_0 a1_1 a2).bind fun bt310 => ((justify_Set.f k y307 a1_0 a1_1 a2).bind fun bt315 => (seriflaw20_JustifySets.l0 k l0 y307 bt310.1 bt310.2.1 bt310.2.2 bt315.1 bt315.2.1 bt315.2.2 (l0.length : Int) 0)))) else (none))) else (none))) = some r := h
 clear h
 replace H := Option.bind_eq_some_iff.mp H
 obtain ⟨t303, A40, H⟩ := H
 replace H : (if t303 = true then ((some (([] : List (S31)) : List (S31))).bind fun y304 => (if y304.length + l0.length < 2932031007402 then ((some (y304 ++ l0 : List (S31))).bind fun y307 => ((serifref20_Set.f k l0 a1_0 a1_1 a2).bind fun bt310 => ((justify_Set.f k y307 a1_0 a1_1 a2).bind fun bt315 => (seriflaw20_JustifySets.l0 k l0 y307 bt310.1 bt310.2.1 bt310.2.2 bt315.1 bt315.2.1 bt315.2.2 (l0.length : Int) 0)))) else (none))) else (none)) = some r := H
 have A4 := Aside0.mk A40
 clear A40
 by_cases c5 : t303 = true
 ·subst c5
  have H1 : ((some (([] : List (S31)) : List (S31))).bind fun y304 => (if y304.length + l0.length < 2932031007402 then ((some (y304 ++ l0 : List (S31))).bind fun y307 => ((serifref20_Set.f k l0 a1_0 a1_1 a2).bind fun bt310 => ((justify_Set.f k y307 a1_0 a1_1 a2).bind fun bt315 => (seriflaw20_JustifySets.l0 k l0 y307 bt310.1 bt310.2.1 bt310.2.2 bt315.1 bt315.2.1 bt315.2.2 (l0.length : Int) 0)))) else (none))) = some r := by rw [if_pos rfl] at H; exact H
  clear H
  have H := H1
  clear H1
  obtain ⟨y304, hy304⟩ : ∃ y_ : List (S31), y_ = (([] : List (S31))) := ⟨_, rfl⟩
  replace H : (if y304.length + l0.length < 2932031007402 then ((some (y304 ++ l0 : List (S31))).bind fun y307 => ((serifref20_Set.f k l0 a1_0 a1_1 a2).bind fun bt310 => ((justify_Set.f k y307 a1_0 a1_1 a2).bind fun bt315 => (seriflaw20_JustifySets.l0 k l0 y307 bt310.1 bt310.2.1 bt310.2.2 bt315.1 bt315.2.1 bt315.2.2 (l0.length : Int) 0)))) else (none)) = some r := by first | (rw [hy304]; with_reducible exact H) | (have H2_ := (Option.bind_some _ _).symm.trans H; rw [hy304]; with_reducible exact H2_) | (have H2_ := (Option.bind_some _ _).symm.trans H; with_reducible exact H2_) | with_reducible exact H | (rw [hy304]; exact H) | exact H
  have Ny304 := Aside0.mk hy304
  clear hy304
  by_cases c6 : y304.length + l0.length < 2932031007402
  ·rw [if_pos c6] at H
   have LMc6 := Aside0.mk c6
   clear c6
   obtain ⟨y307, hy307⟩ : ∃ y_ : List (S31), y_ = (y304 ++ l0) := ⟨_, rfl⟩
   replace H : ((serifref20_Set.f k l0 a1_0 a1_1 a2).bind fun bt310 => ((justify_Set.f k y307 a1_0 a1_1 a2).bind fun bt315 => (seriflaw20_JustifySets.l0 k l0 y307 bt310.1 bt310.2.1 bt310.2.2 bt315.1 bt315.2.1 bt315.2.2 (l0.length : Int) 0))) = some r := by first | (rw [hy307]; with_reducible exact H) | (have H2_ := (Option.bind_some _ _).symm.trans H; rw [hy307]; with_reducible exact H2_) | (have H2_ := (Option.bind_some _ _).symm.trans H; with_reducible exact H2_) | with_reducible exact H | (rw [hy307]; exact H) | exact H
   have Ny307 := Aside0.mk hy307
   clear hy307
   replace H := Option.bind_eq_some_iff.mp H
   obtain ⟨⟨t310, t311, t312⟩, A70, H⟩ := H
   replace H : ((justify_Set.f k y307 a1_0 a1_1 a2).bind fun bt315 => (seriflaw20_JustifySets.l0 k l0 y307 t310 t311 t312 bt315.1 bt315.2.1 bt315.2.2 (l0.length : Int) 0)) = some r := H
   have A7 := Aside0.mk A70
   clear A70
   replace H := Option.bind_eq_some_iff.mp H
   obtain ⟨⟨t315, t316, t317⟩, A80, H⟩ := H
   replace H : (seriflaw20_JustifySets.l0 k l0 y307 t310 t311 t312 t315 t316 t317 (l0.length : Int) 0) = some r := H
   have A8 := Aside0.mk A80
   clear A80
   have H' := Aside0.mk H
   clear H
   go_enter Try.func7, Try.ntmps7
   go_wp2_with (first | ((with_reducible refine gate_dst (N := 4) rfl ?_); refine box_event ?hg (N := 4) ?hd (cs := #[.int .i64 a1_0, .int .i64 a1_1]) (t := 37) ?hr ?_; (case hd => rfl); (case hg => rfl); (case hr => first | (go_simp; done) | (go_simp; rfl)); intro gb302 hg w9 hbox hb; have n0_ := Aside0.mk (below_step (bq HB) hb); have n1_ := Aside0.mk (hbox); have n2_ := Aside0.mk ((by rw [hg]; exact (below_size (bq HB)) : w.heap.size ≤ gb302)); have n3_ := Aside0.mk ((by rw [hg]; exact (below_size (bq HB)) : w.heap.size ≤ gb302)); clear HB; have HB := n0_; have BK302 := n1_; have GW302 := n2_; have GE302 := n3_; clear n0_ n1_ n2_ n3_; clear hb hbox hg) | (go_at_call 21; (with_reducible refine (seriflaw20_justifyAlive.calls k  true _ A4.out).mono ?_); rintro e w10 ⟨rfl, hb⟩; have n0_ := Aside0.mk (blk_below (g := gb302) (o := .cells #[.int .i64 a1_0, .int .i64 a1_1] 37 (0, 0)) (kq BK302) hb); have n1_ := Aside0.mk (below_step (bs HB GE302) hb); clear BK302; clear HB; have BK302 := n0_; have HB := n1_; clear n0_ n1_; (try clear hb); (try clear hb2); (try clear hk); (try clear hi)) | ((with_reducible refine gate_dst (N := 17) rfl ?_); refine Kd.R_lit k31 _ 31 ?hg (N := 17) ?hd (xs := ([] : List (S31))) (inner := []) (ok := fun _ => True) (okp := fun _ => True) ?hr ?hp (fun _ hk => hk) trivial (Below.refl _ _) (Nat.le_refl _) (by simp) ?_; (case hd => rfl); (case hg => rfl); (case hr => first | (go_simp; done) | (go_simp; rfl)); (case hp => exact (Reps.none _ _)); intro v305 w11 ho12 hb hg_ hnew_; clear hg_ hnew_; (first | rw [← Ny304.out] at ho12 | (simp only [Int.reduceToNat] at ho12; rw [← Ny304.out] at ho12)); have n0_ := Aside0.mk (Kd.R_lower ho12 (below_size (bs HB GE302))); have n1_ := Aside0.mk (blk_below (g := gb302) (o := .cells #[.int .i64 a1_0, .int .i64 a1_1] 37 (0, 0)) (kq BK302) hb); have n2_ := Aside0.mk (below_step (bs HB GE302) hb); clear BK302; clear HB; have HO306 := n0_; have BK302 := n1_; have HB := n2_; clear n0_ n1_ n2_; clear hb ho12) | ((with_reducible refine gate_builtin (b := .append) (xs := #[.tmp 17, .tmp 18]) rfl ?_); at_builtin; refine Kd.R_append_rows k31 (w0 := w) w.heap.size rfl (.tmp 17) (.tmp 18) 23 31 (.agg #[(.int .i64 0), (.int .i64 0), (.int .i64 0), (.int .i64 0), (.int .i64 0), (.bool false)]) 48 rfl Try.underlying23 info31 rfl (by decide) (by omega) v305 y304 l0 _ _ _ (fun _ => True) (fun _ => False) rfl rfl ?aO ?aR (fun _ _ h => h) (fun _ h => h.elim) ?aF ?aB ?aS ?aL ?_; (case aR => repeat (first | exact (Kd.C_below HR0.out HB.out) | (with_reducible refine Kd.C_alloc ?_ _) | (with_reducible refine Kd.C_drewN ?_ _) | (with_reducible refine Kd.C_drew ?_))); (case aB => exact (bs HB GE302)); (case aF => exact (fun _ _ => trivial)); (case aO => exact (by (with_reducible repeat (first | apply Kd.R_alloc | apply Kd.R_drewN | apply Kd.R_drew)); exact HO306.out)); (case aS => exact (below_size (bs HB GE302))); (case aL => have := LMc6.out; omega); intro v308 w13 ho hb hg hat; rw [← Ny307.out] at ho; have n0_ := Aside0.mk (blk_grown (g := gb302) (o := .cells #[.int .i64 a1_0, .int .i64 a1_1] 37 (0, 0)) (kq BK302) hg (Kd.R_ne HO306.out BK302.out (by decide))); have n1_ := Aside0.mk (hb); have n2_ := Aside0.mk (ho); clear BK302; clear HB; clear HO306; have BK302 := n0_; have HB := n1_; have HO309 := n2_; clear n0_ n1_ n2_; clear ho hb hg hat; have hcz14_0 : w13.cell? ⟨gb302, 0, none⟩ = some (.int .i64 a1_0) := (blk_cell BK302.out 0).trans rfl; have hcz14_1 : w13.cell? ⟨gb302, 1, none⟩ = some (.int .i64 a1_1) := (blk_cell BK302.out 1).trans rfl; have hfz14_0 := blk_frozen BK302.out 0; have hfz14_1 := blk_frozen BK302.out 1) | (go_at_call 22; (with_reducible refine (serifref20_Set.calls k _ _ l0 a1_0 a1_1 a2 t310 t311 t312 _ ?side1 ?side2 A7.out).mono ?_); (case side1 => repeat (first | exact (Kd.C_below HR0.out HB.out) | (with_reducible refine Kd.C_alloc ?_ _) | (with_reducible refine Kd.C_drewN ?_ _) | (with_reducible refine Kd.C_drew ?_))); (case side2 => exact HC0.out); rintro e w15 ⟨v313, rfl, ho0, hb⟩; have n0_ := Aside0.mk (Kd.R_below (by (with_reducible repeat (first | apply Kd.R_alloc | apply Kd.R_drewN | apply Kd.R_drew)); exact HO309.out) hb); have n1_ := Aside0.mk (Kd.R_lower ho0 (below_size (bs HB GE302))); have n2_ := Aside0.mk (blk_below (g := gb302) (o := .cells #[.int .i64 a1_0, .int .i64 a1_1] 37 (0, 0)) (kq BK302) hb); have n3_ := Aside0.mk (below_step (bs HB GE302) hb); clear HO309; clear BK302; clear HB; have HO309 := n0_; have HO314 := n1_; have BK302 := n2_; have HB := n3_; clear n0_ n1_ n2_ n3_; (try clear hb); (try clear hb2); (try clear hk); (try clear hi); (try clear ho0); have hcz16_0 : w15.cell? ⟨gb302, 0, none⟩ = some (.int .i64 a1_0) := (blk_cell BK302.out 0).trans rfl; have hcz16_1 : w15.cell? ⟨gb302, 1, none⟩ = some (.int .i64 a1_1) := (blk_cell BK302.out 1).trans rfl; have hfz16_0 := blk_frozen BK302.out 0; have hfz16_1 := blk_frozen BK302.out 1; obtain ⟨Ao17, co17, eo17⟩ := Kd.R_slice HO309.out; subst eo17) | (go_at_call 23; (with_reducible refine (justify_Set.calls k _ _ y307 a1_0 a1_1 a2 t315 t316 t317 _ ?side1 ?side2 A8.out).mono ?_); (case side1 => repeat (first | exact (Kd.R_reads' HO309.out).2.2 | (with_reducible refine Kd.C_alloc ?_ _) | (with_reducible refine Kd.C_drewN ?_ _) | (with_reducible refine Kd.C_drew ?_))); (case side2 => exact (Kd.R_reads' HO309.out).2.1); rintro e w18 ⟨v318, rfl, ho0, hb⟩; have n0_ := Aside0.mk (Kd.R_below (by (with_reducible repeat (first | apply Kd.R_alloc | apply Kd.R_drewN | apply Kd.R_drew)); exact HO309.out) hb); have n1_ := Aside0.mk (Kd.R_elder' (by (with_reducible repeat (first | apply Kd.R_alloc | apply Kd.R_drewN | apply Kd.R_drew)); exact HO314.out) (Kd.R_base ho0) hb); have n2_ := Aside0.mk (Kd.R_lower (Kd.R_new' ho0 (Kd.R_lt (by (with_reducible repeat (first | apply Kd.R_alloc | apply Kd.R_drewN | apply Kd.R_drew)); exact HO314.out))) (below_size (bs HB GE302))); have n3_ := Aside0.mk (blk_below (g := gb302) (o := .cells #[.int .i64 a1_0, .int .i64 a1_1] 37 (0, 0)) (kq BK302) hb); have n4_ := Aside0.mk (below_step (bs HB GE302) hb); clear HO309; clear HO314; clear BK302; clear HB; have HO309 := n0_; have HO314 := n1_; have HO319 := n2_; have BK302 := n3_; have HB := n4_; clear n0_ n1_ n2_ n3_ n4_; (try clear hb); (try clear hb2); (try clear hk); (try clear hi); (try clear ho0)))
   repeat (go_quiet (first | ((with_reducible refine gate_dst (N := 4) rfl ?_); refine box_event ?hg (N := 4) ?hd (cs := #[.int .i64 a1_0, .int .i64 a1_1]) (t := 37) ?hr ?_; (case hd => rfl); (case hg => rfl); (case hr => first | (go_simp; done) | (go_simp; rfl)); intro gb302 hg w9 hbox hb; have n0_ := Aside0.mk (below_step (bq HB) hb); have n1_ := Aside0.mk (hbox); have n2_ := Aside0.mk ((by rw [hg]; exact (below_size (bq HB)) : w.heap.size ≤ gb302)); have n3_ := Aside0.mk ((by rw [hg]; exact (below_size (bq HB)) : w.heap.size ≤ gb302)); clear HB; have HB := n0_; have BK302 := n1_; have GW302 := n2_; have GE302 := n3_; clear n0_ n1_ n2_ n3_; clear hb hbox hg) | (go_at_call 21; (with_reducible refine (seriflaw20_justifyAlive.calls k  true _ A4.out).mono ?_); rintro e w10 ⟨rfl, hb⟩; have n0_ := Aside0.mk (blk_below (g := gb302) (o := .cells #[.int .i64 a1_0, .int .i64 a1_1] 37 (0, 0)) (kq BK302) hb); have n1_ := Aside0.mk (below_step (bs HB GE302) hb); clear BK302; clear HB; have BK302 := n0_; have HB := n1_; clear n0_ n1_; (try clear hb); (try clear hb2); (try clear hk); (try clear hi)) | ((with_reducible refine gate_dst (N := 17) rfl ?_); refine Kd.R_lit k31 _ 31 ?hg (N := 17) ?hd (xs := ([] : List (S31))) (inner := []) (ok := fun _ => True) (okp := fun _ => True) ?hr ?hp (fun _ hk => hk) trivial (Below.refl _ _) (Nat.le_refl _) (by simp) ?_; (case hd => rfl); (case hg => rfl); (case hr => first | (go_simp; done) | (go_simp; rfl)); (case hp => exact (Reps.none _ _)); intro v305 w11 ho12 hb hg_ hnew_; clear hg_ hnew_; (first | rw [← Ny304.out] at ho12 | (simp only [Int.reduceToNat] at ho12; rw [← Ny304.out] at ho12)); have n0_ := Aside0.mk (Kd.R_lower ho12 (below_size (bs HB GE302))); have n1_ := Aside0.mk (blk_below (g := gb302) (o := .cells #[.int .i64 a1_0, .int .i64 a1_1] 37 (0, 0)) (kq BK302) hb); have n2_ := Aside0.mk (below_step (bs HB GE302) hb); clear BK302; clear HB; have HO306 := n0_; have BK302 := n1_; have HB := n2_; clear n0_ n1_ n2_; clear hb ho12) | ((with_reducible refine gate_builtin (b := .append) (xs := #[.tmp 17, .tmp 18]) rfl ?_); at_builtin; refine Kd.R_append_rows k31 (w0 := w) w.heap.size rfl (.tmp 17) (.tmp 18) 23 31 (.agg #[(.int .i64 0), (.int .i64 0), (.int .i64 0), (.int .i64 0), (.int .i64 0), (.bool false)]) 48 rfl Try.underlying23 info31 rfl (by decide) (by omega) v305 y304 l0 _ _ _ (fun _ => True) (fun _ => False) rfl rfl ?aO ?aR (fun _ _ h => h) (fun _ h => h.elim) ?aF ?aB ?aS ?aL ?_; (case aR => repeat (first | exact (Kd.C_below HR0.out HB.out) | (with_reducible refine Kd.C_alloc ?_ _) | (with_reducible refine Kd.C_drewN ?_ _) | (with_reducible refine Kd.C_drew ?_))); (case aB => exact (bs HB GE302)); (case aF => exact (fun _ _ => trivial)); (case aO => exact (by (with_reducible repeat (first | apply Kd.R_alloc | apply Kd.R_drewN | apply Kd.R_drew)); exact HO306.out)); (case aS => exact (below_size (bs HB GE302))); (case aL => have := LMc6.out; omega); intro v308 w13 ho hb hg hat; rw [← Ny307.out] at ho; have n0_ := Aside0.mk (blk_grown (g := gb302) (o := .cells #[.int .i64 a1_0, .int .i64 a1_1] 37 (0, 0)) (kq BK302) hg (Kd.R_ne HO306.out BK302.out (by decide))); have n1_ := Aside0.mk (hb); have n2_ := Aside0.mk (ho); clear BK302; clear HB; clear HO306; have BK302 := n0_; have HB := n1_; have HO309 := n2_; clear n0_ n1_ n2_; clear ho hb hg hat; have hcz14_0 : w13.cell? ⟨gb302, 0, none⟩ = some (.int .i64 a1_0) := (blk_cell BK302.out 0).trans rfl; have hcz14_1 : w13.cell? ⟨gb302, 1, none⟩ = some (.int .i64 a1_1) := (blk_cell BK302.out 1).trans rfl; have hfz14_0 := blk_frozen BK302.out 0; have hfz14_1 := blk_frozen BK302.out 1) | (go_at_call 22; (with_reducible refine (serifref20_Set.calls k _ _ l0 a1_0 a1_1 a2 t310 t311 t312 _ ?side1 ?side2 A7.out).mono ?_); (case side1 => repeat (first | exact (Kd.C_below HR0.out HB.out) | (with_reducible refine Kd.C_alloc ?_ _) | (with_reducible refine Kd.C_drewN ?_ _) | (with_reducible refine Kd.C_drew ?_))); (case side2 => exact HC0.out); rintro e w15 ⟨v313, rfl, ho0, hb⟩; have n0_ := Aside0.mk (Kd.R_below (by (with_reducible repeat (first | apply Kd.R_alloc | apply Kd.R_drewN | apply Kd.R_drew)); exact HO309.out) hb); have n1_ := Aside0.mk (Kd.R_lower ho0 (below_size (bs HB GE302))); have n2_ := Aside0.mk (blk_below (g := gb302) (o := .cells #[.int .i64 a1_0, .int .i64 a1_1] 37 (0, 0)) (kq BK302) hb); have n3_ := Aside0.mk (below_step (bs HB GE302) hb); clear HO309; clear BK302; clear HB; have HO309 := n0_; have HO314 := n1_; have BK302 := n2_; have HB := n3_; clear n0_ n1_ n2_ n3_; (try clear hb); (try clear hb2); (try clear hk); (try clear hi); (try clear ho0); have hcz16_0 : w15.cell? ⟨gb302, 0, none⟩ = some (.int .i64 a1_0) := (blk_cell BK302.out 0).trans rfl; have hcz16_1 : w15.cell? ⟨gb302, 1, none⟩ = some (.int .i64 a1_1) := (blk_cell BK302.out 1).trans rfl; have hfz16_0 := blk_frozen BK302.out 0; have hfz16_1 := blk_frozen BK302.out 1; obtain ⟨Ao17, co17, eo17⟩ := Kd.R_slice HO309.out; subst eo17) | (go_at_call 23; (with_reducible refine (justify_Set.calls k _ _ y307 a1_0 a1_1 a2 t315 t316 t317 _ ?side1 ?side2 A8.out).mono ?_); (case side1 => repeat (first | exact (Kd.R_reads' HO309.out).2.2 | (with_reducible refine Kd.C_alloc ?_ _) | (with_reducible refine Kd.C_drewN ?_ _) | (with_reducible refine Kd.C_drew ?_))); (case side2 => exact (Kd.R_reads' HO309.out).2.1); rintro e w18 ⟨v318, rfl, ho0, hb⟩; have n0_ := Aside0.mk (Kd.R_below (by (with_reducible repeat (first | apply Kd.R_alloc | apply Kd.R_drewN | apply Kd.R_drew)); exact HO309.out) hb); have n1_ := Aside0.mk (Kd.R_elder' (by (with_reducible repeat (first | apply Kd.R_alloc | apply Kd.R_drewN | apply Kd.R_drew)); exact HO314.out) (Kd.R_base ho0) hb); have n2_ := Aside0.mk (Kd.R_lower (Kd.R_new' ho0 (Kd.R_lt (by (with_reducible repeat (first | apply Kd.R_alloc | apply Kd.R_drewN | apply Kd.R_drew)); exact HO314.out))) (below_size (bs HB GE302))); have n3_ := Aside0.mk (blk_below (g := gb302) (o := .cells #[.int .i64 a1_0, .int .i64 a1_1] 37 (0, 0)) (kq BK302) hb); have n4_ := Aside0.mk (below_step (bs HB GE302) hb); clear HO309; clear HO314; clear BK302; clear HB; have HO309 := n0_; have HO314 := n1_; have HO319 := n2_; have BK302 := n3_; have HB := n4_; clear n0_ n1_ n2_ n3_ n4_; (try clear hb); (try clear hb2); (try clear hk); (try clear hi); (try clear ho0))); try go_wp2_with (first | ((with_reducible refine gate_dst (N := 4) rfl ?_); refine box_event ?hg (N := 4) ?hd (cs := #[.int .i64 a1_0, .int .i64 a1_1]) (t := 37) ?hr ?_; (case hd => rfl); (case hg => rfl); (case hr => first | (go_simp; done) | (go_simp; rfl)); intro gb302 hg w9 hbox hb; have n0_ := Aside0.mk (below_step (bq HB) hb); have n1_ := Aside0.mk (hbox); have n2_ := Aside0.mk ((by rw [hg]; exact (below_size (bq HB)) : w.heap.size ≤ gb302)); have n3_ := Aside0.mk ((by rw [hg]; exact (below_size (bq HB)) : w.heap.size ≤ gb302)); clear HB; have HB := n0_; have BK302 := n1_; have GW302 := n2_; have GE302 := n3_; clear n0_ n1_ n2_ n3_; clear hb hbox hg) | (go_at_call 21; (with_reducible refine (seriflaw20_justifyAlive.calls k  true _ A4.out).mono ?_); rintro e w10 ⟨rfl, hb⟩; have n0_ := Aside0.mk (blk_below (g := gb302) (o := .cells #[.int .i64 a1_0, .int .i64 a1_1] 37 (0, 0)) (kq BK302) hb); have n1_ := Aside0.mk (below_step (bs HB GE302) hb); clear BK302; clear HB; have BK302 := n0_; have HB := n1_; clear n0_ n1_; (try clear hb); (try clear hb2); (try clear hk); (try clear hi)) | ((with_reducible refine gate_dst (N := 17) rfl ?_); refine Kd.R_lit k31 _ 31 ?hg (N := 17) ?hd (xs := ([] : List (S31))) (inner := []) (ok := fun _ => True) (okp := fun _ => True) ?hr ?hp (fun _ hk => hk) trivial (Below.refl _ _) (Nat.le_refl _) (by simp) ?_; (case hd => rfl); (case hg => rfl); (case hr => first | (go_simp; done) | (go_simp; rfl)); (case hp => exact (Reps.none _ _)); intro v305 w11 ho12 hb hg_ hnew_; clear hg_ hnew_; (first | rw [← Ny304.out] at ho12 | (simp only [Int.reduceToNat] at ho12; rw [← Ny304.out] at ho12)); have n0_ := Aside0.mk (Kd.R_lower ho12 (below_size (bs HB GE302))); have n1_ := Aside0.mk (blk_below (g := gb302) (o := .cells #[.int .i64 a1_0, .int .i64 a1_1] 37 (0, 0)) (kq BK302) hb); have n2_ := Aside0.mk (below_step (bs HB GE302) hb); clear BK302; clear HB; have HO306 := n0_; have BK302 := n1_; have HB := n2_; clear n0_ n1_ n2_; clear hb ho12) | ((with_reducible refine gate_builtin (b := .append) (xs := #[.tmp 17, .tmp 18]) rfl ?_); at_builtin; refine Kd.R_append_rows k31 (w0 := w) w.heap.size rfl (.tmp 17) (.tmp 18) 23 31 (.agg #[(.int .i64 0), (.int .i64 0), (.int .i64 0), (.int .i64 0), (.int .i64 0), (.bool false)]) 48 rfl Try.underlying23 info31 rfl (by decide) (by omega) v305 y304 l0 _ _ _ (fun _ => True) (fun _ => False) rfl rfl ?aO ?aR (fun _ _ h => h) (fun _ h => h.elim) ?aF ?aB ?aS ?aL ?_; (case aR => repeat (first | exact (Kd.C_below HR0.out HB.out) | (with_reducible refine Kd.C_alloc ?_ _) | (with_reducible refine Kd.C_drewN ?_ _) | (with_reducible refine Kd.C_drew ?_))); (case aB => exact (bs HB GE302)); (case aF => exact (fun _ _ => trivial)); (case aO => exact (by (with_reducible repeat (first | apply Kd.R_alloc | apply Kd.R_drewN | apply Kd.R_drew)); exact HO306.out)); (case aS => exact (below_size (bs HB GE302))); (case aL => have := LMc6.out; omega); intro v308 w13 ho hb hg hat; rw [← Ny307.out] at ho; have n0_ := Aside0.mk (blk_grown (g := gb302) (o := .cells #[.int .i64 a1_0, .int .i64 a1_1] 37 (0, 0)) (kq BK302) hg (Kd.R_ne HO306.out BK302.out (by decide))); have n1_ := Aside0.mk (hb); have n2_ := Aside0.mk (ho); clear BK302; clear HB; clear HO306; have BK302 := n0_; have HB := n1_; have HO309 := n2_; clear n0_ n1_ n2_; clear ho hb hg hat; have hcz14_0 : w13.cell? ⟨gb302, 0, none⟩ = some (.int .i64 a1_0) := (blk_cell BK302.out 0).trans rfl; have hcz14_1 : w13.cell? ⟨gb302, 1, none⟩ = some (.int .i64 a1_1) := (blk_cell BK302.out 1).trans rfl; have hfz14_0 := blk_frozen BK302.out 0; have hfz14_1 := blk_frozen BK302.out 1) | (go_at_call 22; (with_reducible refine (serifref20_Set.calls k _ _ l0 a1_0 a1_1 a2 t310 t311 t312 _ ?side1 ?side2 A7.out).mono ?_); (case side1 => repeat (first | exact (Kd.C_below HR0.out HB.out) | (with_reducible refine Kd.C_alloc ?_ _) | (with_reducible refine Kd.C_drewN ?_ _) | (with_reducible refine Kd.C_drew ?_))); (case side2 => exact HC0.out); rintro e w15 ⟨v313, rfl, ho0, hb⟩; have n0_ := Aside0.mk (Kd.R_below (by (with_reducible repeat (first | apply Kd.R_alloc | apply Kd.R_drewN | apply Kd.R_drew)); exact HO309.out) hb); have n1_ := Aside0.mk (Kd.R_lower ho0 (below_size (bs HB GE302))); have n2_ := Aside0.mk (blk_below (g := gb302) (o := .cells #[.int .i64 a1_0, .int .i64 a1_1] 37 (0, 0)) (kq BK302) hb); have n3_ := Aside0.mk (below_step (bs HB GE302) hb); clear HO309; clear BK302; clear HB; have HO309 := n0_; have HO314 := n1_; have BK302 := n2_; have HB := n3_; clear n0_ n1_ n2_ n3_; (try clear hb); (try clear hb2); (try clear hk); (try clear hi); (try clear ho0); have hcz16_0 : w15.cell? ⟨gb302, 0, none⟩ = some (.int .i64 a1_0) := (blk_cell BK302.out 0).trans rfl; have hcz16_1 : w15.cell? ⟨gb302, 1, none⟩ = some (.int .i64 a1_1) := (blk_cell BK302.out 1).trans rfl; have hfz16_0 := blk_frozen BK302.out 0; have hfz16_1 := blk_frozen BK302.out 1; obtain ⟨Ao17, co17, eo17⟩ := Kd.R_slice HO309.out; subst eo17) | (go_at_call 23; (with_reducible refine (justify_Set.calls k _ _ y307 a1_0 a1_1 a2 t315 t316 t317 _ ?side1 ?side2 A8.out).mono ?_); (case side1 => repeat (first | exact (Kd.R_reads' HO309.out).2.2 | (with_reducible refine Kd.C_alloc ?_ _) | (with_reducible refine Kd.C_drewN ?_ _) | (with_reducible refine Kd.C_drew ?_))); (case side2 => exact (Kd.R_reads' HO309.out).2.1); rintro e w18 ⟨v318, rfl, ho0, hb⟩; have n0_ := Aside0.mk (Kd.R_below (by (with_reducible repeat (first | apply Kd.R_alloc | apply Kd.R_drewN | apply Kd.R_drew)); exact HO309.out) hb); have n1_ := Aside0.mk (Kd.R_elder' (by (with_reducible repeat (first | apply Kd.R_alloc | apply Kd.R_drewN | apply Kd.R_drew)); exact HO314.out) (Kd.R_base ho0) hb); have n2_ := Aside0.mk (Kd.R_lower (Kd.R_new' ho0 (Kd.R_lt (by (with_reducible repeat (first | apply Kd.R_alloc | apply Kd.R_drewN | apply Kd.R_drew)); exact HO314.out))) (below_size (bs HB GE302))); have n3_ := Aside0.mk (blk_below (g := gb302) (o := .cells #[.int .i64 a1_0, .int .i64 a1_1] 37 (0, 0)) (kq BK302) hb); have n4_ := Aside0.mk (below_step (bs HB GE302) hb); clear HO309; clear HO314; clear BK302; clear HB; have HO309 := n0_; have HO314 := n1_; have HO319 := n2_; have BK302 := n3_; have HB := n4_; clear n0_ n1_ n2_ n3_ n4_; (try clear hb); (try clear hb2); (try clear hk); (try clear hi); (try clear ho0))))
   go_loopg [44] k (fun kq v44 w' => ∃ (x44_1 : Int), v44 = .int .i64 x44_1 ∧ Aside0 (seriflaw20_JustifySets.l0 kq l0 y307 t310 t311 t312 t315 t316 t317 (l0.length : Int) x44_1 = some r) ∧ Aside0 (kq ≤ k) ∧ Aside0 (Kd.R k31 31 w' w.heap.size (fun _ => True) (.slice Ao17 y307.length co17) y307) ∧ Aside0 (Kd.R (Kd.int .i64) 3 w' w.heap.size (fun k_ => some k_ ≠ (v318 : Value).ownBlock) v313 t310) ∧ Aside0 (Kd.R (Kd.int .i64) 3 w' w.heap.size (fun k_ => some k_ ≠ (v313 : Value).ownBlock) v318 t315) ∧ Aside0 (w'.heap[gb302]? = some (.cells #[.int .i64 a1_0, .int .i64 a1_1] 37 (0, 0))) ∧ Aside0 (Below w.heap.size w w'))
   case atStart => exact ⟨(0), (by first | rfl | (simp; done) | (simp [*]; done)), H', ⟨Nat.le_refl _⟩, ⟨by (with_reducible repeat (first | apply Kd.R_alloc | apply Kd.R_drewN | apply Kd.R_drew)); exact HO309.out⟩, ⟨by (with_reducible repeat (first | apply Kd.R_alloc | apply Kd.R_drewN | apply Kd.R_drew)); exact Kd.R_mono HO314.out (fun _ hk => hk.2)⟩, ⟨by (with_reducible repeat (first | apply Kd.R_alloc | apply Kd.R_drewN | apply Kd.R_drew)); exact Kd.R_mono HO319.out (fun _ hk => hk.2)⟩, ⟨by (with_reducible repeat (first | refine blk_drewN ?_ _ | refine blk_drew ?_ | refine blk_alloc ?_ _)); exact BK302.out⟩, ⟨bs HB GE302⟩⟩
   case round =>
    clear H'
    try clear p2
    try clear c5
    try clear c6
    try clear c7
    try clear hcz14_0
    try clear hcz14_1
    try clear hcz16_0
    try clear hcz16_1
    try clear hfz14_0
    try clear hfz14_1
    try clear hfz16_0
    try clear hfz16_1
    obtain ⟨x44_1, rfl, HA, HK1, HO_7, HO_8, HO_11, BK302, HB⟩ := hrel
    cases gk with
    | zero => exact absurd HA.out (by simp [seriflaw20_JustifySets.l0])
    | succ k1 =>
     have H := HA.out
     clear HA
     simp only [seriflaw20_JustifySets.l0] at H
     by_cases c19 : x44_1 < (l0.length : Int)
     ·rw [if_pos c19] at H
      have c19b0 : decide (x44_1 < (l0.length : Int)) = true := decide_eq_true c19
      clear c19
      by_cases c20 : 0 ≤ x44_1
      ·rw [if_pos c20] at H
       have c20b0 : decide (0 ≤ x44_1) = true := decide_eq_true c20
       clear c20
       by_cases c21 : x44_1 < (y307.length : Int)
       ·rw [if_pos c21] at H
        have c21b0 : decide (x44_1 < (y307.length : Int)) = true := decide_eq_true c21
        clear c21
        by_cases c22 : x44_1 < (l0.length : Int)
        ·rw [if_pos c22] at H
         have c22b0 : decide (x44_1 < (l0.length : Int)) = true := decide_eq_true c22
         clear c22
         by_cases c23 : (!(((rd_T31 y307 x44_1).f0) == ((rd_T31 l0 x44_1).f0)) || (!(((rd_T31 y307 x44_1).f1) == ((rd_T31 l0 x44_1).f1)) || (!(((rd_T31 y307 x44_1).f2) == ((rd_T31 l0 x44_1).f2)) || (!(((rd_T31 y307 x44_1).f3) == ((rd_T31 l0 x44_1).f3)) || (!(((rd_T31 y307 x44_1).f4) == ((rd_T31 l0 x44_1).f4)) || (!(((rd_T31 y307 x44_1).f5) == ((rd_T31 l0 x44_1).f5)))))))) = true
         ·rw [if_pos c23] at H
          exact absurd H (by simp)
         ·rw [if_neg c23] at H
          have c23b0 : (!(((rd_T31 y307 x44_1).f0) == ((rd_T31 l0 x44_1).f0)) || (!(((rd_T31 y307 x44_1).f1) == ((rd_T31 l0 x44_1).f1)) || (!(((rd_T31 y307 x44_1).f2) == ((rd_T31 l0 x44_1).f2)) || (!(((rd_T31 y307 x44_1).f3) == ((rd_T31 l0 x44_1).f3)) || (!(((rd_T31 y307 x44_1).f4) == ((rd_T31 l0 x44_1).f4)) || (!(((rd_T31 y307 x44_1).f5) == ((rd_T31 l0 x44_1).f5)))))))) = false := by simpa using c23
          clear c23
          have H' := Aside0.mk H
          clear H
          have p320 : 0 ≤ (x44_1 : Int) := odt
          have q320 : x44_1 < (y307.length : Int) := odt
          obtain ⟨ad320, e320, hx320_0, hx320_1, hx320_2, hx320_3, hx320_4, hx320_5⟩ := at_T31 (Kd.R_reads' HO_7.out).2.2 x44_1 p320 q320
          cases e320
          replace p320 := eq_true p320
          replace q320 := eq_true q320
          have p321 : 0 ≤ (x44_1 : Int) := odt
          have q321 : x44_1 < (l0.length : Int) := odt
          obtain ⟨ad321, e321, hx321_0, hx321_1, hx321_2, hx321_3, hx321_4, hx321_5⟩ := at_T31 HR0.out x44_1 p321 q321
          cases e321
          replace hx321_0 := (HB.out.cell (World.block_lt_of_cell? w _ hx321_0)).trans hx321_0
          replace hx321_1 := (HB.out.cell (World.block_lt_of_cell? w _ hx321_1)).trans hx321_1
          replace hx321_2 := (HB.out.cell (World.block_lt_of_cell? w _ hx321_2)).trans hx321_2
          replace hx321_3 := (HB.out.cell (World.block_lt_of_cell? w _ hx321_3)).trans hx321_3
          replace hx321_4 := (HB.out.cell (World.block_lt_of_cell? w _ hx321_4)).trans hx321_4
          replace hx321_5 := (HB.out.cell (World.block_lt_of_cell? w _ hx321_5)).trans hx321_5
          replace p321 := eq_true p321
          replace q321 := eq_true q321
          go_wp2
          repeat (go_quiet (fail); try go_wp2)
          go_roundg k1
          case measure => have := HK1.out; omega
          case rel => exact ⟨(wrap64 (x44_1 + 1)), (by first | rfl | (simp; done) | (simp [*]; done)), H', ⟨by have := HK1.out; omega⟩, ⟨by (with_reducible repeat (first | apply Kd.R_alloc | apply Kd.R_drewN | apply Kd.R_drew)); exact HO_7.out⟩, ⟨by (with_reducible repeat (first | apply Kd.R_alloc | apply Kd.R_drewN | apply Kd.R_drew)); exact HO_8.out⟩, ⟨by (with_reducible repeat (first | apply Kd.R_alloc | apply Kd.R_drewN | apply Kd.R_drew)); exact HO_11.out⟩, ⟨by (with_reducible repeat (first | refine blk_drewN ?_ _ | refine blk_drew ?_ | refine blk_alloc ?_ _)); exact BK302.out⟩, ⟨bs HB GE302⟩⟩
        ·rw [if_neg c22] at H
         exact absurd H (by simp)
       ·rw [if_neg c21] at H
        exact absurd H (by simp)
      ·rw [if_neg c20] at H
       exact absurd H (by simp)
     ·rw [if_neg c19] at H
      have c19b0 : decide (x44_1 < (l0.length : Int)) = false := decide_eq_false c19
      clear c19
      by_cases c24 : t317 = t312
      ·rw [if_pos c24] at H
       have c24b0 : (t317 == t312) = true := beq_iff_eq.mpr c24
       have c24b1 : (t317 != t312) = false := bne_eq_false_iff_eq.mpr c24
       clear c24
       by_cases c25 : (t316 == t311) = true
       ·rw [if_pos c25] at H
        have c25b0 : (t316 == t311) = true := c25
        (try (have c25b1 : decide (t316 = t311) = true := by simpa using c25))
        (try (have c25b2 : (t316 == t311) = true := by simpa using c25))
        clear c25
        replace H := Option.bind_eq_some_iff.mp H
        obtain ⟨t322, A260, H⟩ := H
        replace H : (some t322) = some r := H
        have A26 := Aside0.mk A260
        clear A260
        obtain rfl := Option.some.inj H
        obtain ⟨Ao27, co27, eo27⟩ := Kd.R_slice HO_11.out
        subst eo27
        obtain ⟨Ao28, co28, eo28⟩ := Kd.R_slice HO_8.out
        subst eo28
        go_wp2_with (first | (go_at_call 16; (with_reducible refine (serifref02_SameInts.calls k1 _ _ t315 _ _ t310 t322 _ ?side1 ?side2 ?side3 ?side4 A26.out).mono ?_); (case side1 => repeat (first | exact (Kd.R_reads' HO_11.out).2.2 | (with_reducible refine Kd.C_alloc ?_ _) | (with_reducible refine Kd.C_drewN ?_ _) | (with_reducible refine Kd.C_drew ?_))); (case side2 => exact (Kd.R_reads' HO_11.out).2.1); (case side3 => repeat (first | exact (Kd.R_reads' HO_8.out).2.2 | (with_reducible refine Kd.C_alloc ?_ _) | (with_reducible refine Kd.C_drewN ?_ _) | (with_reducible refine Kd.C_drew ?_))); (case side4 => exact (Kd.R_reads' HO_8.out).2.1); rintro e w' ⟨rfl, ⟨nd, rfl⟩⟩; (try first | exact ⟨rfl, _, World.drewN_drewN _ _ _⟩ | exact ⟨rfl, _, Eq.trans (World.drewN_drewN _ _ _) (congrArg (World.drewN _) (Nat.add_assoc _ _ _))⟩)))
        repeat (go_quiet (first | (go_at_call 16; (with_reducible refine (serifref02_SameInts.calls k1 _ _ t315 _ _ t310 t322 _ ?side1 ?side2 ?side3 ?side4 A26.out).mono ?_); (case side1 => repeat (first | exact (Kd.R_reads' HO_11.out).2.2 | (with_reducible refine Kd.C_alloc ?_ _) | (with_reducible refine Kd.C_drewN ?_ _) | (with_reducible refine Kd.C_drew ?_))); (case side2 => exact (Kd.R_reads' HO_11.out).2.1); (case side3 => repeat (first | exact (Kd.R_reads' HO_8.out).2.2 | (with_reducible refine Kd.C_alloc ?_ _) | (with_reducible refine Kd.C_drewN ?_ _) | (with_reducible refine Kd.C_drew ?_))); (case side4 => exact (Kd.R_reads' HO_8.out).2.1); rintro e w' ⟨rfl, ⟨nd, rfl⟩⟩; (try first | exact ⟨rfl, _, World.drewN_drewN _ _ _⟩ | exact ⟨rfl, _, Eq.trans (World.drewN_drewN _ _ _) (congrArg (World.drewN _) (Nat.add_assoc _ _ _))⟩))); try go_wp2_with (first | (go_at_call 16; (with_reducible refine (serifref02_SameInts.calls k1 _ _ t315 _ _ t310 t322 _ ?side1 ?side2 ?side3 ?side4 A26.out).mono ?_); (case side1 => repeat (first | exact (Kd.R_reads' HO_11.out).2.2 | (with_reducible refine Kd.C_alloc ?_ _) | (with_reducible refine Kd.C_drewN ?_ _) | (with_reducible refine Kd.C_drew ?_))); (case side2 => exact (Kd.R_reads' HO_11.out).2.1); (case side3 => repeat (first | exact (Kd.R_reads' HO_8.out).2.2 | (with_reducible refine Kd.C_alloc ?_ _) | (with_reducible refine Kd.C_drewN ?_ _) | (with_reducible refine Kd.C_drew ?_))); (case side4 => exact (Kd.R_reads' HO_8.out).2.1); rintro e w' ⟨rfl, ⟨nd, rfl⟩⟩; (try first | exact ⟨rfl, _, World.drewN_drewN _ _ _⟩ | exact ⟨rfl, _, Eq.trans (World.drewN_drewN _ _ _) (congrArg (World.drewN _) (Nat.add_assoc _ _ _))⟩))))
        go_ret
        exact ⟨by first | rfl | (simp [errW_none, errW_some] <;> rfl) | (simp [*, errW_none, errW_some] <;> rfl), bs HB GE302⟩
       ·rw [if_neg c25] at H
        exact absurd H (by simp)
      ·rw [if_neg c24] at H
       exact absurd H (by simp)
  ·rw [if_neg c6] at H
   exact absurd H (by simp)
 ·replace c5 := Bool.eq_false_iff.mpr c5
  subst c5
  have H1 : (none) = some r := by rw [if_neg (show ¬ (false = true) by decide)] at H; exact H
  clear H
  have H := H1
  clear H1
  exact absurd H (by simp)

/-- THE ONE PURE STATEMENT of seriflaw20_JustifySets: yours. -/
def seriflaw20_JustifySets.Pure : Prop := ∀ (l0 : List (S31)) (x1 : S37) (a2 : Int), (l0.length ≤ 9223372036854775807 ∧ l0.length * 48 ≤ 140737488351232 ∧ ∀ y1_ ∈ l0, okS31 y1_) → (okS37 x1) → ((Lit.int .i64 a2).wf = true) → ∃ k, seriflaw20_JustifySets.f k l0 x1.f0 x1.f1 a2 = some true

end Go.Proofs.Ytfbanppdiglciaa.Y
