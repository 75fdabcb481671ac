-- written by a program of this session (wip/xprint.py) over the kit's print
import Derived.Test.YtfbanppdiglciaaYx0
import Derived.Test.YtfbanppdiglciaaYx12
import Derived.Test.YtfbanppdiglciaaYx13
import Derived.Test.YtfbanppdiglciaaYx19
import Derived.Test.YtfbanppdiglciaaYx41
namespace Go.Proofs.Ytfbanppdiglciaa.Y
open Go.RowKit Go.Proofs.YtfbanppdiglciaaW.PrintWords Go.Proofs.YtfbanppdiglciaaW.PrintLast Go.Proofs.YtfbanppdiglciaaW.PrintMore
attribute [local go_sem] max2_int min2_int max_two min_two max_three min_three max_four min_four   -- for this text's walks alone
set_option linter.unusedVariables false
set_option linter.unusedSimpArgs false

/-! ### seriflaw20_JustifyParagraphs: function 11 -/
mutual
def seriflaw20_JustifyParagraphs.j0 : Nat → List (S31) → Int → Int → Int → Bool → List Int → Int → Bool → Option (Bool)
 | 0, _, _, _, _, _, _, _, _ => none
 | k + 1, x0, x1, x2, x8, x39, x518000, x518001, x518002 => if x39 = true then ((serifref19_Check.f k x0 x1 x2).bind fun t518 => (some (t518 == x8))) else (seriflaw20_JustifyParagraphs.l0 k x0 x1 (-1) x518000 (x518000.length : Int) 0)
def seriflaw20_JustifyParagraphs.l0 : Nat → List (S31) → Int → Int → List Int → Int → Int → Option (Bool)
 | 0, _, _, _, _, _, _ => none
 | k + 1, x0, x1, x9, x47, x48, x49 => if x49 < x48 then (if 0 ≤ x49 then (if x49 < (x47.length : Int) then ((some (([] : List (S31)) : List (S31))).bind fun y520 => (if y520.length + x0.length < 2932031007402 then ((justify_Set.f k (y520 ++ x0) x9 (rd x47 x49) x1).bind fun bt526 => (seriflaw20_JustifyParagraphs.l1 k x0 x1 (rd x47 x49) bt526.2.1 bt526.2.2 0 x47 x48 x49 bt526.1 (bt526.1.length : Int) 0)) else (none))) else (none)) else (none)) else (some (x9 == (x0.length : Int)))
def seriflaw20_JustifyParagraphs.l1 : Nat → List (S31) → Int → Int → Bool → Int → Int → List Int → Int → Int → List Int → Int → Int → Option (Bool)
 | 0, _, _, _, _, _, _, _, _, _, _, _, _ => none
 | k + 1, x0, x1, x11, x13, x14, x15, x47, x48, x49, x64, x65, x66 => if x66 < x65 then (if 0 ≤ x66 then (if x66 < (x64.length : Int) then (seriflaw20_JustifyParagraphs.l1 k x0 x1 x11 x13 x14 (wrap64 (x15 + (rd x64 x66))) x47 x48 x49 x64 x65 (wrap64 (x66 + 1))) else (none)) else (none)) else (if x14 = 0 then (if x13 = true then (if x15 = x1 then (seriflaw20_JustifyParagraphs.l0 k x0 x1 x11 x47 x48 (wrap64 (x49 + 1))) else (none)) else (none)) else (none))
end
def seriflaw20_JustifyParagraphs.f (k : Nat) (l0 : List (S31)) (a1 : Int) (a2 : Int) : Option (Bool) := (seriflaw20_justifyAlive.f k).bind fun t504 => (if t504 = true then ((some (([] : List (S31)) : List (S31))).bind fun y505 => (if y505.length + l0.length < 2932031007402 then ((optimal_Best.f k (y505 ++ l0) a1 a2).bind fun bt511 => (if bt511.2.2.2 = 0 then (if bt511.2.2.1 = true then (seriflaw20_JustifyParagraphs.j0 k l0 a1 a2 bt511.2.2.2 true bt511.1 bt511.2.1 bt511.2.2.1) else (seriflaw20_JustifyParagraphs.j0 k l0 a1 a2 bt511.2.2.2 (decide ((l0.length : Int) > 300)) bt511.1 bt511.2.1 bt511.2.2.1)) else (seriflaw20_JustifyParagraphs.j0 k l0 a1 a2 bt511.2.2.2 true bt511.1 bt511.2.1 bt511.2.2.1))) else (none))) else (none))
theorem seriflaw20_JustifyParagraphs.mono_l : ∀ k, (∀ y0 y1 y2 y3 y4 y5 y6 y7, LeO (seriflaw20_JustifyParagraphs.j0 k y0 y1 y2 y3 y4 y5 y6 y7) (seriflaw20_JustifyParagraphs.j0 (k + 1) y0 y1 y2 y3 y4 y5 y6 y7)) ∧ (∀ y0 y1 y2 y3 y4 y5, LeO (seriflaw20_JustifyParagraphs.l0 k y0 y1 y2 y3 y4 y5) (seriflaw20_JustifyParagraphs.l0 (k + 1) y0 y1 y2 y3 y4 y5)) ∧ (∀ y0 y1 y2 y3 y4 y5 y6 y7 y8 y9 y10 y11, LeO (seriflaw20_JustifyParagraphs.l1 k y0 y1 y2 y3 y4 y5 y6 y7 y8 y9 y10 y11) (seriflaw20_JustifyParagraphs.l1 (k + 1) y0 y1 y2 y3 y4 y5 y6 y7 y8 y9 y10 y11))
 | 0 => ⟨fun _ _ _ _ _ _ _ _ r h => by simp [seriflaw20_JustifyParagraphs.j0] at h, fun _ _ _ _ _ _ r h => by simp [seriflaw20_JustifyParagraphs.l0] at h, fun _ _ _ _ _ _ _ _ _ _ _ _ r h => by simp [seriflaw20_JustifyParagraphs.l1] at h⟩
 | k + 1 => by
  obtain ⟨ih0, ih1, ih2⟩ := seriflaw20_JustifyParagraphs.mono_l k
  refine ⟨?_, ?_, ?_⟩
  ·intro y0 y1 y2 y3 y4 y5 y6 y7
   unfold seriflaw20_JustifyParagraphs.j0
   repeat' first
   | (with_reducible exact ih0 _ _ _ _ _ _ _ _)
   | (with_reducible exact ih1 _ _ _ _ _ _)
   | (with_reducible exact ih2 _ _ _ _ _ _ _ _ _ _ _ _)
   | (with_reducible exact justify_Set.mono _ _ _ _ _)
   | (with_reducible exact optimal_Best.mono _ _ _ _)
   | (with_reducible exact seriflaw20_justifyAlive.mono _)
   | (with_reducible exact serifref19_Check.mono _ _ _ _)
   | (with_reducible exact LeO.refl _)
   | (with_reducible exact LeO.none _)
   | (with_reducible refine LeO.ite ?_ ?_)
   | (with_reducible refine LeO.bind ?_ (fun _ => ?_))
   | exact ih0 _ _ _ _ _ _ _ _
   | exact ih1 _ _ _ _ _ _
   | exact ih2 _ _ _ _ _ _ _ _ _ _ _ _
   | exact justify_Set.mono _ _ _ _ _
   | exact optimal_Best.mono _ _ _ _
   | exact seriflaw20_justifyAlive.mono _
   | exact serifref19_Check.mono _ _ _ _
   | exact LeO.none _
   | refine LeO.ite ?_ ?_
   | refine LeO.bind ?_ (fun _ => ?_)
  ·intro y0 y1 y2 y3 y4 y5
   unfold seriflaw20_JustifyParagraphs.l0
   repeat' first
   | (with_reducible exact ih0 _ _ _ _ _ _ _ _)
   | (with_reducible exact ih1 _ _ _ _ _ _)
   | (with_reducible exact ih2 _ _ _ _ _ _ _ _ _ _ _ _)
   | (with_reducible exact justify_Set.mono _ _ _ _ _)
   | (with_reducible exact optimal_Best.mono _ _ _ _)
   | (with_reducible exact seriflaw20_justifyAlive.mono _)
   | (with_reducible exact serifref19_Check.mono _ _ _ _)
   | (with_reducible exact LeO.refl _)
   | (with_reducible exact LeO.none _)
   | (with_reducible refine LeO.ite ?_ ?_)
   | (with_reducible refine LeO.bind ?_ (fun _ => ?_))
   | exact ih0 _ _ _ _ _ _ _ _
   | exact ih1 _ _ _ _ _ _
   | exact ih2 _ _ _ _ _ _ _ _ _ _ _ _
   | exact justify_Set.mono _ _ _ _ _
   | exact optimal_Best.mono _ _ _ _
   | exact seriflaw20_justifyAlive.mono _
   | exact serifref19_Check.mono _ _ _ _
   | exact LeO.none _
   | refine LeO.ite ?_ ?_
   | refine LeO.bind ?_ (fun _ => ?_)
  ·intro y0 y1 y2 y3 y4 y5 y6 y7 y8 y9 y10 y11
   unfold seriflaw20_JustifyParagraphs.l1
   repeat' first
   | (with_reducible exact ih0 _ _ _ _ _ _ _ _)
   | (with_reducible exact ih1 _ _ _ _ _ _)
   | (with_reducible exact ih2 _ _ _ _ _ _ _ _ _ _ _ _)
   | (with_reducible exact justify_Set.mono _ _ _ _ _)
   | (with_reducible exact optimal_Best.mono _ _ _ _)
   | (with_reducible exact seriflaw20_justifyAlive.mono _)
   | (with_reducible exact serifref19_Check.mono _ _ _ _)
   | (with_reducible exact LeO.refl _)
   | (with_reducible exact LeO.none _)
   | (with_reducible refine LeO.ite ?_ ?_)
   | (with_reducible refine LeO.bind ?_ (fun _ => ?_))
   | exact ih0 _ _ _ _ _ _ _ _
   | exact ih1 _ _ _ _ _ _
   | exact ih2 _ _ _ _ _ _ _ _ _ _ _ _
   | exact justify_Set.mono _ _ _ _ _
   | exact optimal_Best.mono _ _ _ _
   | exact seriflaw20_justifyAlive.mono _
   | exact serifref19_Check.mono _ _ _ _
   | exact LeO.none _
   | refine LeO.ite ?_ ?_
   | refine LeO.bind ?_ (fun _ => ?_)
theorem seriflaw20_JustifyParagraphs.mono : ∀ a0 a1 a2 k, LeO (seriflaw20_JustifyParagraphs.f k a0 a1 a2) (seriflaw20_JustifyParagraphs.f (k + 1) a0 a1 a2) := by
 intro a0 a1 a2 k
 obtain ⟨ih0, ih1, ih2⟩ := seriflaw20_JustifyParagraphs.mono_l k
 unfold seriflaw20_JustifyParagraphs.f
 repeat' first
   | (with_reducible exact ih0 _ _ _ _ _ _ _ _)
   | (with_reducible exact ih1 _ _ _ _ _ _)
   | (with_reducible exact ih2 _ _ _ _ _ _ _ _ _ _ _ _)
   | (with_reducible exact justify_Set.mono _ _ _ _ _)
   | (with_reducible exact optimal_Best.mono _ _ _ _)
   | (with_reducible exact seriflaw20_justifyAlive.mono _)
   | (with_reducible exact serifref19_Check.mono _ _ _ _)
   | (with_reducible exact LeO.refl _)
   | (with_reducible exact LeO.none _)
   | (with_reducible refine LeO.ite ?_ ?_)
   | (with_reducible refine LeO.bind ?_ (fun _ => ?_))
   | exact ih0 _ _ _ _ _ _ _ _
   | exact ih1 _ _ _ _ _ _
   | exact ih2 _ _ _ _ _ _ _ _ _ _ _ _
   | exact justify_Set.mono _ _ _ _ _
   | exact optimal_Best.mono _ _ _ _
   | exact seriflaw20_justifyAlive.mono _
   | exact serifref19_Check.mono _ _ _ _
   | exact LeO.none _
   | refine LeO.ite ?_ ?_
   | refine LeO.bind ?_ (fun _ => ?_)
set_option maxHeartbeats 8000000 in
set_option maxRecDepth 100000 in
theorem seriflaw20_JustifyParagraphs.calls (k : Nat) (A0 : Option Addr) (c0 : Nat) (l0 : List (S31)) (a1 : Int) (a2 : Int) (r : Bool) (w : World) (hr0 : Kd.C k31 w A0 l0.length l0) (hc0 : l0.length ≤ c0) (h : seriflaw20_JustifyParagraphs.f k l0 a1 a2 = some r) :
  Calls Try.prog 11 #[.slice A0 l0.length c0, .int .i64 a1, .int .i64 a2] w fun e w' => e = .returned (.bool r) ∧ Below w.heap.size w w' := by
 have hu26 := Try.underlying26
 have HR0 := Aside0.mk hr0
 have HC0 := Aside0.mk hc0
 clear hr0 hc0
 have HB := Aside0.mk (Below.refl w.heap.size w)
 have H : ((seriflaw20_justifyAlive.f k).bind fun t504 => (if t504 = true then ((some (([] : List (S31)) : List (S31))).bind fun y505 => (if y505.length + l0.length < 2932031007402 then ((optimal_Best.f k (y505 ++ l0) a1 a2).bind fun bt511 => (if bt511.2.2.2 = 0 then (if bt511.2.2.1 = true then (seriflaw20_JustifyParagraphs.j0 k l0 a1 a2 bt511.2.2.2 true bt511.1 bt511.2.1 bt511.2.2.1) else (seriflaw20_JustifyParagraphs.j0 k l0 a1 a2 bt511.2.2.2 (decide ((l0.length : Int) > 300)) bt511.1 bt511.2.1 bt511.2.2.1)) else (seriflaw20_JustifyParagraphs.j0 k l0 a1 a2 bt511.2.2.2 true bt511.1 bt511.2.1 bt511.2.2.1))) else (none))) else (none))) = some r := h
 clear h
 replace H := Option.bind_eq_some_iff.mp H
 obtain ⟨t504, A40, H⟩ := H
 replace H : (if t504 = true then ((some (([] : List (S31)) : List (S31))).bind fun y505 => (if y505.length + l0.length < 2932031007402 then ((optimal_Best.f k (y505 ++ l0) a1 a2).bind fun bt511 => (if bt511.2.2.2 = 0 then (if bt511.2.2.1 = true then (seriflaw20_JustifyParagraphs.j0 k l0 a1 a2 bt511.2.2.2 true bt511.1 bt511.2.1 bt511.2.2.1) else (seriflaw20_JustifyParagraphs.j0 k l0 a1 a2 bt511.2.2.2 (decide ((l0.length : Int) > 300)) bt511.1 bt511.2.1 bt511.2.2.1)) else (seriflaw20_JustifyParagraphs.j0 k l0 a1 a2 bt511.2.2.2 true bt511.1 bt511.2.1 bt511.2.2.1))) else (none))) else (none)) = some r := H
 have A4 := Aside0.mk A40
 clear A40
 by_cases c5 : t504 = true
 ·subst c5
  have H1 : ((some (([] : List (S31)) : List (S31))).bind fun y505 => (if y505.length + l0.length < 2932031007402 then ((optimal_Best.f k (y505 ++ l0) a1 a2).bind fun bt511 => (if bt511.2.2.2 = 0 then (if bt511.2.2.1 = true then (seriflaw20_JustifyParagraphs.j0 k l0 a1 a2 bt511.2.2.2 true bt511.1 bt511.2.1 bt511.2.2.1) else (seriflaw20_JustifyParagraphs.j0 k l0 a1 a2 bt511.2.2.2 (decide ((l0.length : Int) > 300)) bt511.1 bt511.2.1 bt511.2.2.1)) else (seriflaw20_JustifyParagraphs.j0 k l0 a1 a2 bt511.2.2.2 true bt511.1 bt511.2.1 bt511.2.2.1))) else (none))) = some r := by rw [if_pos rfl] at H; exact H
  clear H
  have H := H1
  clear H1
  obtain ⟨y505, hy505⟩ : ∃ y_ : List (S31), y_ = (([] : List (S31))) := ⟨_, rfl⟩
  replace H : (if y505.length + l0.length < 2932031007402 then ((optimal_Best.f k (y505 ++ l0) a1 a2).bind fun bt511 => (if bt511.2.2.2 = 0 then (if bt511.2.2.1 = true then (seriflaw20_JustifyParagraphs.j0 k l0 a1 a2 bt511.2.2.2 true bt511.1 bt511.2.1 bt511.2.2.1) else (seriflaw20_JustifyParagraphs.j0 k l0 a1 a2 bt511.2.2.2 (decide ((l0.length : Int) > 300)) bt511.1 bt511.2.1 bt511.2.2.1)) else (seriflaw20_JustifyParagraphs.j0 k l0 a1 a2 bt511.2.2.2 true bt511.1 bt511.2.1 bt511.2.2.1))) else (none)) = some r := by first | (rw [hy505]; with_reducible exact H) | (have H2_ := (Option.bind_some _ _).symm.trans H; rw [hy505]; with_reducible exact H2_) | (have H2_ := (Option.bind_some _ _).symm.trans H; with_reducible exact H2_) | with_reducible exact H | (rw [hy505]; exact H) | exact H
  have Ny505 := Aside0.mk hy505
  clear hy505
  by_cases c6 : y505.length + l0.length < 2932031007402
  ·rw [if_pos c6] at H
   have LMc6 := Aside0.mk c6
   clear c6
   obtain ⟨y508, hy508⟩ : ∃ y_ : List (S31), y_ = (y505 ++ l0) := ⟨_, rfl⟩
   replace H : ((optimal_Best.f k y508 a1 a2).bind fun bt511 => (if bt511.2.2.2 = 0 then (if bt511.2.2.1 = true then (seriflaw20_JustifyParagraphs.j0 k l0 a1 a2 bt511.2.2.2 true bt511.1 bt511.2.1 bt511.2.2.1) else (seriflaw20_JustifyParagraphs.j0 k l0 a1 a2 bt511.2.2.2 (decide ((l0.length : Int) > 300)) bt511.1 bt511.2.1 bt511.2.2.1)) else (seriflaw20_JustifyParagraphs.j0 k l0 a1 a2 bt511.2.2.2 true bt511.1 bt511.2.1 bt511.2.2.1))) = some r := by first | (rw [hy508]; with_reducible exact H) | (have H2_ := (Option.bind_some _ _).symm.trans H; rw [hy508]; with_reducible exact H2_) | (have H2_ := (Option.bind_some _ _).symm.trans H; with_reducible exact H2_) | with_reducible exact H | (rw [hy508]; exact H) | exact H
   have Ny508 := Aside0.mk hy508
   clear hy508
   replace H := Option.bind_eq_some_iff.mp H
   obtain ⟨⟨t511, t514, t515, t516⟩, A70, H⟩ := H
   replace H : (if t516 = 0 then (if t515 = true then (seriflaw20_JustifyParagraphs.j0 k l0 a1 a2 t516 true t511 t514 t515) else (seriflaw20_JustifyParagraphs.j0 k l0 a1 a2 t516 (decide ((l0.length : Int) > 300)) t511 t514 t515)) else (seriflaw20_JustifyParagraphs.j0 k l0 a1 a2 t516 true t511 t514 t515)) = some r := H
   have A7 := Aside0.mk A70
   clear A70
   have HC8 := Aside0.mk H
   clear H
   go_enter Try.func11, Try.ntmps11
   go_upto_region 4 with (first | ((with_reducible refine gate_callee (f := 21) rfl ?_); refine goesL_ (some 18) rfl rfl Try.func21 (by kernel_rfl) rfl #[] rfl (by (try simp only [List.map_toArray, List.map_cons, List.map_nil]); first | done | rfl | (simp only [List.length_drop, List.length_take]; rfl)) ?_; (with_reducible refine (seriflaw20_justifyAlive.calls k  true _ A4.out).mono ?_); rintro e w9 ⟨rfl, hb⟩; refine ⟨_, rfl, ?_⟩; have n0_ := Aside0.mk (below_step (bq HB) hb); clear HB; have HB := n0_; clear n0_; (try clear hb); (try clear hb2); (try clear hk); (try clear hi)) | ((with_reducible refine gate_dst (N := 21) rfl ?_); (try (refine gate_guard (by rfl) ?_; dsimp only)); refine Kd.R_lit k31 _ 31 ?hg (N := 21) ?hd (xs := ([] : List (S31))) (inner := []) (ok := fun _ => True) (okp := fun _ => True) ?hr ?hp (fun _ hk => hk) trivial (Below.refl _ _) (Nat.le_refl _) (by simp) ?_; (case hd => rfl); (case hg => rfl); (case hr => first | (go_simp; done) | (go_simp; rfl)); (case hp => exact (Reps.none _ _)); intro v506 w10 ho11 hb hg_ hnew_; clear hg_ hnew_; (first | rw [← Ny505.out] at ho11 | (simp only [Int.reduceToNat] at ho11; rw [← Ny505.out] at ho11)); have n0_ := Aside0.mk (Kd.R_lower ho11 (below_size (bq HB))); have n1_ := Aside0.mk (below_step (bq HB) hb); clear HB; have HO507 := n0_; have HB := n1_; clear n0_ n1_; clear hb ho11) | ((with_reducible refine gate_builtin (b := .append) (xs := #[.tmp 21, .tmp 22]) rfl ?_); (try (refine gate_guard (by rfl) ?_; dsimp only)); at_builtin; refine Kd.R_append_rows k31 (w0 := w) w.heap.size rfl (.tmp 21) (.tmp 22) 23 31 (.agg #[(.int .i64 0), (.int .i64 0), (.int .i64 0), (.int .i64 0), (.int .i64 0), (.bool false)]) 48 rfl Try.underlying23 info31 rfl (by decide) (by omega) v506 y505 l0 _ _ _ (fun _ => True) (fun _ => False) rfl rfl ?aO ?aR (fun _ _ h => h) (fun _ h => h.elim) ?aF ?aB ?aS ?aL ?_; (case aR => repeat (first | exact (Kd.C_below HR0.out HB.out) | (with_reducible refine Kd.C_alloc ?_ _) | (with_reducible refine Kd.C_drewN ?_ _) | (with_reducible refine Kd.C_drew ?_))); (case aB => exact (bq HB)); (case aF => exact (fun _ _ => trivial)); (case aO => exact (by (with_reducible repeat (first | apply Kd.R_alloc | apply Kd.R_drewN | apply Kd.R_drew)); exact HO507.out)); (case aS => exact (below_size (bq HB))); (case aL => have := LMc6.out; omega); intro v509 w12 ho hb hg hat; rw [← Ny508.out] at ho; have n0_ := Aside0.mk (hb); have n1_ := Aside0.mk (ho); clear HB; clear HO507; have HB := n0_; have HO510 := n1_; clear n0_ n1_; clear ho hb hg hat; obtain ⟨Ao13, co13, eo13⟩ := Kd.R_slice HO510.out; subst eo13) | ((with_reducible refine gate_callee (f := 13) rfl ?_); refine goesL_ (some 26) rfl rfl Try.func13 (by kernel_rfl) rfl #[.slice Ao13 y508.length co13, .int .i64 a1, .int .i64 a2] rfl (by (try simp only [List.map_toArray, List.map_cons, List.map_nil]); first | done | rfl | (simp only [List.length_drop, List.length_take]; rfl)) ?_; (with_reducible refine (optimal_Best.calls k _ _ y508 a1 a2 t511 t514 t515 t516 _ ?side1 ?side2 A7.out).mono ?_); (case side1 => repeat (first | exact (Kd.R_reads' HO510.out).2.2 | (with_reducible refine Kd.C_alloc ?_ _) | (with_reducible refine Kd.C_drewN ?_ _) | (with_reducible refine Kd.C_drew ?_))); (case side2 => exact (Kd.R_reads' HO510.out).2.1); rintro e w14 ⟨v512, rfl, ho0, hb⟩; refine ⟨_, rfl, ?_⟩; have n0_ := Aside0.mk (Kd.R_below (by (with_reducible repeat (first | apply Kd.R_alloc | apply Kd.R_drewN | apply Kd.R_drew)); exact HO510.out) hb); have n1_ := Aside0.mk (Kd.R_lower ho0 (below_size (bq HB))); have n2_ := Aside0.mk (below_step (bq HB) hb); clear HO510; clear HB; have HO510 := n0_; have HO513 := n1_; have HB := n2_; clear n0_ n1_ n2_; (try clear hb); (try clear hb2); (try clear hk); (try clear hi); (try clear ho0)) | ((with_reducible refine gate_dst (N := 7) rfl ?_); (try (refine gate_guard (by rfl) ?_; dsimp only)); refine box_event ?hg (N := 7) ?hd (cs := #[.slice none 0 0, .int .i64 0, .bool false]) (t := 26) ?hr ?_; (case hd => rfl); (case hg => rfl); (case hr => first | (go_simp; done) | (go_simp; rfl)); intro gb517 hg w15 hbox hb; have n0_ := Aside0.mk (Kd.R_below (by (with_reducible repeat (first | apply Kd.R_alloc | apply Kd.R_drewN | apply Kd.R_drew)); exact HO510.out) hb); have n1_ := Aside0.mk (Kd.R_below (by (with_reducible repeat (first | apply Kd.R_alloc | apply Kd.R_drewN | apply Kd.R_drew)); exact HO513.out) hb); have n2_ := Aside0.mk (below_step (bq HB) hb); have n3_ := Aside0.mk (hbox); have n4_ := Aside0.mk ((by rw [hg]; exact (below_size (bq HB)) : w.heap.size ≤ gb517)); have n5_ := Aside0.mk ((by rw [hg]; exact (below_size (bq HB)) : w.heap.size ≤ gb517)); clear HO510; clear HO513; clear HB; have HO510 := n0_; have HO513 := n1_; have HB := n2_; have BK517 := n3_; have GW517 := n4_; have GE517 := n5_; clear n0_ n1_ n2_ n3_ n4_ n5_; clear hb hbox hg; obtain ⟨Ao16, co16, eo16⟩ := Kd.R_slice HO513.out; subst eo16; have hcz17_0 : w15.cell? ⟨gb517, 0, none⟩ = some (.slice none 0 0) := (blk_cell BK517.out 0).trans rfl; have hcz17_1 : w15.cell? ⟨gb517, 1, none⟩ = some (.int .i64 0) := (blk_cell BK517.out 1).trans rfl; have hcz17_2 : w15.cell? ⟨gb517, 2, none⟩ = some (.bool false) := (blk_cell BK517.out 2).trans rfl; have hfz17_0 := blk_frozen BK517.out 0; have hfz17_1 := blk_frozen BK517.out 1; have hfz17_2 := blk_frozen BK517.out 2))
   (try simp only [Act.put, List.setIfInBounds_toArray, List.set_cons_zero, List.set_cons_succ])
   go_cut [39] (fun v39 wc => ∃ (kq : Nat) (x39_7 : Bool), v39 = .bool x39_7 ∧ Aside0 (seriflaw20_JustifyParagraphs.j0 kq l0 a1 a2 t516 x39_7 t511 t514 t515 = some r) ∧ Aside0 (kq ≤ k) ∧ Aside0 (Kd.R (Kd.int .i64) 3 wc w.heap.size (fun _ => True) (.slice Ao16 t511.length co16) t511) ∧ Aside0 (wc.heap[gb517]? = some (.cells #[(.slice Ao16 t511.length co16), .int .i64 t514, .bool t515] 26 (0, 0))) ∧ Aside0 (Below w.heap.size w wc))
   case first =>
    have H := HC8.out
    clear HC8
    by_cases c18 : t516 = 0
    ·rw [if_pos c18] at H
     have c18b0 : (t516 == 0) = true := beq_iff_eq.mpr c18
     have c18b1 : (t516 != 0) = false := bne_eq_false_iff_eq.mpr c18
     clear c18
     (first | rw [c18b0] | (simp only [i64_w, i32_w]; rw [c18b0]) | skip)
     by_cases c19 : t515 = true
     ·subst c19
      have H1 : (seriflaw20_JustifyParagraphs.j0 k l0 a1 a2 t516 true t511 t514 true) = some r := by rw [if_pos rfl] at H; exact H
      clear H
      have H := H1
      clear H1
      have H' := Aside0.mk H
      clear H
      have hcz20_0 : w15.cell? ⟨gb517, 0, none⟩ = some (.slice none 0 0) := (blk_cell BK517.out 0).trans rfl
      have hcz20_1 : w15.cell? ⟨gb517, 1, none⟩ = some (.int .i64 0) := (blk_cell BK517.out 1).trans rfl
      have hcz20_2 : w15.cell? ⟨gb517, 2, none⟩ = some (.bool false) := (blk_cell BK517.out 2).trans rfl
      have hfz20_0 := blk_frozen BK517.out 0
      have hfz20_1 := blk_frozen BK517.out 1
      have hfz20_2 := blk_frozen BK517.out 2
      go_wp2
      go_meet
      case rel => exact ⟨_, (true), (by first | rfl | (simp; done) | (simp [*]; done)), H', ⟨by first | omega | exact Nat.le_refl _⟩, ⟨by (with_reducible repeat (first | apply Kd.R_alloc | apply Kd.R_drewN | apply Kd.R_drew)); exact Kd.R_mono (Kd.R_far (p := ⟨gb517, 2, none⟩) (Kd.R_far (p := ⟨gb517, 1, none⟩) (Kd.R_far (p := ⟨gb517, 0, none⟩) (Kd.R_types HO513.out BK517.out (by decide)) (fun _ hk => hk.2) (.slice Ao16 t511.length co16)) (fun _ hk => hk.2) (.int .i64 t514)) (fun _ hk => hk.2) (.bool true)) (fun _ hk => trivial)⟩, ⟨by (with_reducible repeat (first | refine blk_drewN ?_ _ | refine blk_drew ?_ | refine blk_alloc ?_ _)); refine blk_put (cs := #[.slice Ao16 t511.length co16, .int .i64 t514, .bool false]) ?_ 2 _ rfl; (with_reducible repeat (first | refine blk_drewN ?_ _ | refine blk_drew ?_ | refine blk_alloc ?_ _)); refine blk_put (cs := #[.slice Ao16 t511.length co16, .int .i64 0, .bool false]) ?_ 1 _ rfl; (with_reducible repeat (first | refine blk_drewN ?_ _ | refine blk_drew ?_ | refine blk_alloc ?_ _)); refine blk_put (cs := #[.slice none 0 0, .int .i64 0, .bool false]) ?_ 0 _ rfl; (with_reducible repeat (first | refine blk_drewN ?_ _ | refine blk_drew ?_ | refine blk_alloc ?_ _)); exact BK517.out⟩, ⟨bs HB GE517⟩⟩
     ·replace c19 := Bool.eq_false_iff.mpr c19
      subst c19
      have H1 : (seriflaw20_JustifyParagraphs.j0 k l0 a1 a2 t516 (decide ((l0.length : Int) > 300)) t511 t514 false) = some r := by rw [if_neg (show ¬ (false = true) by decide)] at H; exact H
      clear H
      have H := H1
      clear H1
      have H' := Aside0.mk H
      clear H
      have hcz21_0 : w15.cell? ⟨gb517, 0, none⟩ = some (.slice none 0 0) := (blk_cell BK517.out 0).trans rfl
      have hcz21_1 : w15.cell? ⟨gb517, 1, none⟩ = some (.int .i64 0) := (blk_cell BK517.out 1).trans rfl
      have hcz21_2 : w15.cell? ⟨gb517, 2, none⟩ = some (.bool false) := (blk_cell BK517.out 2).trans rfl
      have hfz21_0 := blk_frozen BK517.out 0
      have hfz21_1 := blk_frozen BK517.out 1
      have hfz21_2 := blk_frozen BK517.out 2
      go_wp2
      go_meet
      case rel => exact ⟨_, (decide ((l0.length : Int) > 300)), (by first | rfl | (simp; done) | (simp [*]; done)), H', ⟨by first | omega | exact Nat.le_refl _⟩, ⟨by (with_reducible repeat (first | apply Kd.R_alloc | apply Kd.R_drewN | apply Kd.R_drew)); exact Kd.R_mono (Kd.R_far (p := ⟨gb517, 2, none⟩) (Kd.R_far (p := ⟨gb517, 1, none⟩) (Kd.R_far (p := ⟨gb517, 0, none⟩) (Kd.R_types HO513.out BK517.out (by decide)) (fun _ hk => hk.2) (.slice Ao16 t511.length co16)) (fun _ hk => hk.2) (.int .i64 t514)) (fun _ hk => hk.2) (.bool false)) (fun _ hk => trivial)⟩, ⟨by (with_reducible repeat (first | refine blk_drewN ?_ _ | refine blk_drew ?_ | refine blk_alloc ?_ _)); refine blk_put (cs := #[.slice Ao16 t511.length co16, .int .i64 t514, .bool false]) ?_ 2 _ rfl; (with_reducible repeat (first | refine blk_drewN ?_ _ | refine blk_drew ?_ | refine blk_alloc ?_ _)); refine blk_put (cs := #[.slice Ao16 t511.length co16, .int .i64 0, .bool false]) ?_ 1 _ rfl; (with_reducible repeat (first | refine blk_drewN ?_ _ | refine blk_drew ?_ | refine blk_alloc ?_ _)); refine blk_put (cs := #[.slice none 0 0, .int .i64 0, .bool false]) ?_ 0 _ rfl; (with_reducible repeat (first | refine blk_drewN ?_ _ | refine blk_drew ?_ | refine blk_alloc ?_ _)); exact BK517.out⟩, ⟨bs HB GE517⟩⟩
    ·rw [if_neg c18] at H
     have c18b0 : (t516 == 0) = false := beq_eq_false_iff_ne.mpr c18
     have c18b1 : (t516 != 0) = true := bne_iff_ne.mpr c18
     (first | rw [c18b0] | (simp only [i64_w, i32_w]; rw [c18b0]) | skip)
     have H' := Aside0.mk H
     clear H
     go_wp2
     go_meet
     case rel => exact ⟨_, (true), (by first | rfl | (simp; done) | (simp [*]; done)), H', ⟨by first | omega | exact Nat.le_refl _⟩, ⟨by (with_reducible repeat (first | apply Kd.R_alloc | apply Kd.R_drewN | apply Kd.R_drew)); exact Kd.R_mono (Kd.R_far (p := ⟨gb517, 2, none⟩) (Kd.R_far (p := ⟨gb517, 1, none⟩) (Kd.R_far (p := ⟨gb517, 0, none⟩) (Kd.R_types HO513.out BK517.out (by decide)) (fun _ hk => hk.2) (.slice Ao16 t511.length co16)) (fun _ hk => hk.2) (.int .i64 t514)) (fun _ hk => hk.2) (.bool t515)) (fun _ hk => trivial)⟩, ⟨by (with_reducible repeat (first | refine blk_drewN ?_ _ | refine blk_drew ?_ | refine blk_alloc ?_ _)); refine blk_put (cs := #[.slice Ao16 t511.length co16, .int .i64 t514, .bool false]) ?_ 2 _ rfl; (with_reducible repeat (first | refine blk_drewN ?_ _ | refine blk_drew ?_ | refine blk_alloc ?_ _)); refine blk_put (cs := #[.slice Ao16 t511.length co16, .int .i64 0, .bool false]) ?_ 1 _ rfl; (with_reducible repeat (first | refine blk_drewN ?_ _ | refine blk_drew ?_ | refine blk_alloc ?_ _)); refine blk_put (cs := #[.slice none 0 0, .int .i64 0, .bool false]) ?_ 0 _ rfl; (with_reducible repeat (first | refine blk_drewN ?_ _ | refine blk_drew ?_ | refine blk_alloc ?_ _)); exact BK517.out⟩, ⟨bs HB GE517⟩⟩
   case rest =>
    clear HC8
    try clear c1
    try clear c2
    try clear p2
    try clear c5
    try clear c6
    try clear c11
    try clear c13
    try clear c18
    try clear c18b0
    try clear c18b1
    try clear c19
    try clear c21
    try clear hcz17_0
    try clear hcz17_1
    try clear hcz17_2
    try clear hcz20_0
    try clear hcz20_1
    try clear hcz20_2
    try clear hcz21_0
    try clear hcz21_1
    try clear hcz21_2
    try clear hfz17_0
    try clear hfz17_1
    try clear hfz17_2
    try clear hfz20_0
    try clear hfz20_1
    try clear hfz20_2
    try clear hfz21_0
    try clear hfz21_1
    try clear hfz21_2
    obtain ⟨kq, x39_7, rfl, HA, HJ7, HO_518000, BK517, HB⟩ := hcut
    cases kq with
    | zero => exact absurd HA.out (by simp [seriflaw20_JustifyParagraphs.j0])
    | succ kj7 =>
     have H := HA.out
     clear HA
     simp only [seriflaw20_JustifyParagraphs.j0] at H
     by_cases c22 : x39_7 = true
     ·subst c22
      have H1 : ((serifref19_Check.f kj7 l0 a1 a2).bind fun t518 => (some (t518 == t516))) = some r := by rw [if_pos rfl] at H; exact H
      clear H
      have H := H1
      clear H1
      replace H := Option.bind_eq_some_iff.mp H
      obtain ⟨t518, A230, H⟩ := H
      replace H : (some (t518 == t516)) = some r := H
      have A23 := Aside0.mk A230
      clear A230
      obtain rfl := Option.some.inj H
      go_wp2_with (first | ((with_reducible refine gate_callee (f := 14) rfl ?_); refine goesL_ (some 43) rfl rfl Try.func14 (by kernel_rfl) rfl #[.slice A0 l0.length c0, .int .i64 a1, .int .i64 a2] rfl (by (try simp only [List.map_toArray, List.map_cons, List.map_nil]); first | done | rfl | (simp only [List.length_drop, List.length_take]; rfl)) ?_; (with_reducible refine (serifref19_Check.calls kj7 _ _ l0 a1 a2 t518 _ ?side1 ?side2 A23.out).mono ?_); (case side1 => repeat (first | exact (Kd.C_below HR0.out HB.out) | (with_reducible refine Kd.C_alloc ?_ _) | (with_reducible refine Kd.C_drewN ?_ _) | (with_reducible refine Kd.C_drew ?_))); (case side2 => exact HC0.out); rintro e w24 ⟨rfl, hb⟩; refine ⟨_, rfl, ?_⟩; have n0_ := Aside0.mk (Kd.R_below (rq HO_518000) hb); have n1_ := Aside0.mk (blk_below (g := gb517) (o := .cells #[.slice Ao16 t511.length co16, .int .i64 t514, .bool t515] 26 (0, 0)) (kq BK517) hb); have n2_ := Aside0.mk (below_step (bs HB GE517) hb); clear HO_518000; clear BK517; clear HB; have HO_518000 := n0_; have BK517 := n1_; have HB := n2_; clear n0_ n1_ n2_; (try clear hb); (try clear hb2); (try clear hk); (try clear hi)))
      go_ret
      exact ⟨by first | rfl | (simp [errW_none, errW_some] <;> rfl) | (simp [*, errW_none, errW_some] <;> rfl), bs HB GE517⟩
     ·replace c22 := Bool.eq_false_iff.mpr c22
      subst c22
      have H1 : (seriflaw20_JustifyParagraphs.l0 kj7 l0 a1 (-1) t511 (t511.length : Int) 0) = some r := by rw [if_neg (show ¬ (false = true) by decide)] at H; exact H
      clear H
      have H := H1
      clear H1
      have H' := Aside0.mk H
      clear H
      have hcz25_0 : wc.cell? ⟨gb517, 0, none⟩ = some (.slice Ao16 t511.length co16) := (blk_cell BK517.out 0).trans rfl
      have hcz25_1 : wc.cell? ⟨gb517, 1, none⟩ = some (.int .i64 t514) := (blk_cell BK517.out 1).trans rfl
      have hcz25_2 : wc.cell? ⟨gb517, 2, none⟩ = some (.bool t515) := (blk_cell BK517.out 2).trans rfl
      have hfz25_0 := blk_frozen BK517.out 0
      have hfz25_1 := blk_frozen BK517.out 1
      have hfz25_2 := blk_frozen BK517.out 2
      go_wp2
      go_loopg [9, 49] kj7 (fun kq v9 v49 w' => ∃ (x9_2 : Int) (x49_2 : Int), v9 = .int .i64 x9_2 ∧ v49 = .int .i64 x49_2 ∧ Aside0 (seriflaw20_JustifyParagraphs.l0 kq l0 a1 x9_2 t511 (t511.length : Int) x49_2 = some r) ∧ Aside0 (kq ≤ kj7) ∧ Aside0 (Kd.R (Kd.int .i64) 3 w' w.heap.size (fun _ => True) (.slice Ao16 t511.length co16) t511) ∧ Aside0 (Kd.R (Kd.int .i64) 3 w' w.heap.size (fun _ => True) (.slice Ao16 t511.length co16) t511) ∧ Aside0 (w'.heap[gb517]? = some (.cells #[(.slice Ao16 t511.length co16), .int .i64 t514, .bool t515] 26 (0, 0))) ∧ Aside0 (Below w.heap.size w w'))
      case atStart => exact ⟨((-1)), (0), (by first | rfl | (simp; done) | (simp [*]; done)), (by first | rfl | (simp; done) | (simp [*]; done)), H', ⟨Nat.le_refl _⟩, ⟨by (with_reducible repeat (first | apply Kd.R_alloc | apply Kd.R_drewN | apply Kd.R_drew)); exact HO_518000.out⟩, ⟨by (with_reducible repeat (first | apply Kd.R_alloc | apply Kd.R_drewN | apply Kd.R_drew)); exact HO_518000.out⟩, ⟨by (with_reducible repeat (first | refine blk_drewN ?_ _ | refine blk_drew ?_ | refine blk_alloc ?_ _)); exact BK517.out⟩, ⟨bs HB GE517⟩⟩
      case round =>
       clear H'
       try clear c1
       try clear c2
       try clear p2
       try clear c5
       try clear c6
       try clear c11
       try clear c13
       try clear c14
       try clear c18
       try clear c18b0
       try clear c18b1
       try clear c19
       try clear c21
       try clear c22
       try clear hcz17_0
       try clear hcz17_1
       try clear hcz17_2
       try clear hcz20_0
       try clear hcz20_1
       try clear hcz20_2
       try clear hcz21_0
       try clear hcz21_1
       try clear hcz21_2
       try clear hcz25_0
       try clear hcz25_1
       try clear hcz25_2
       try clear hfz17_0
       try clear hfz17_1
       try clear hfz17_2
       try clear hfz20_0
       try clear hfz20_1
       try clear hfz20_2
       try clear hfz21_0
       try clear hfz21_1
       try clear hfz21_2
       try clear hfz25_0
       try clear hfz25_1
       try clear hfz25_2
       try clear p2
       obtain ⟨x9_2, x49_2, rfl, rfl, HA, HK2, HO_47, HO_518000, BK517, HB⟩ := hrel
       cases gk with
       | zero => exact absurd HA.out (by simp [seriflaw20_JustifyParagraphs.l0])
       | succ k2 =>
        have H := HA.out
        clear HA
        simp only [seriflaw20_JustifyParagraphs.l0] at H
        by_cases c26 : x49_2 < (t511.length : Int)
        ·rw [if_pos c26] at H
         have c26b0 : decide (x49_2 < (t511.length : Int)) = true := decide_eq_true c26
         clear c26
         by_cases c27 : 0 ≤ x49_2
         ·rw [if_pos c27] at H
          have c27b0 : decide (0 ≤ x49_2) = true := decide_eq_true c27
          clear c27
          by_cases c28 : x49_2 < (t511.length : Int)
          ·rw [if_pos c28] at H
           have c28b0 : decide (x49_2 < (t511.length : Int)) = true := decide_eq_true c28
           clear c28
           obtain ⟨y520, hy520⟩ : ∃ y_ : List (S31), y_ = (([] : List (S31))) := ⟨_, rfl⟩
           replace H : (if y520.length + l0.length < 2932031007402 then ((justify_Set.f k2 (y520 ++ l0) x9_2 (rd t511 x49_2) a1).bind fun bt526 => (seriflaw20_JustifyParagraphs.l1 k2 l0 a1 (rd t511 x49_2) bt526.2.1 bt526.2.2 0 t511 (t511.length : Int) x49_2 bt526.1 (bt526.1.length : Int) 0)) else (none)) = some r := by first | (rw [hy520]; with_reducible exact H) | (have H2_ := (Option.bind_some _ _).symm.trans H; rw [hy520]; with_reducible exact H2_) | (have H2_ := (Option.bind_some _ _).symm.trans H; with_reducible exact H2_) | with_reducible exact H | (rw [hy520]; exact H) | exact H
           have Ny520 := Aside0.mk hy520
           clear hy520
           by_cases c29 : y520.length + l0.length < 2932031007402
           ·rw [if_pos c29] at H
            have LMc29 := Aside0.mk c29
            clear c29
            obtain ⟨y523, hy523⟩ : ∃ y_ : List (S31), y_ = (y520 ++ l0) := ⟨_, rfl⟩
            replace H : ((justify_Set.f k2 y523 x9_2 (rd t511 x49_2) a1).bind fun bt526 => (seriflaw20_JustifyParagraphs.l1 k2 l0 a1 (rd t511 x49_2) bt526.2.1 bt526.2.2 0 t511 (t511.length : Int) x49_2 bt526.1 (bt526.1.length : Int) 0)) = some r := by first | (rw [hy523]; with_reducible exact H) | (have H2_ := (Option.bind_some _ _).symm.trans H; rw [hy523]; with_reducible exact H2_) | (have H2_ := (Option.bind_some _ _).symm.trans H; with_reducible exact H2_) | with_reducible exact H | (rw [hy523]; exact H) | exact H
            have Ny523 := Aside0.mk hy523
            clear hy523
            replace H := Option.bind_eq_some_iff.mp H
            obtain ⟨⟨t526, t527, t528⟩, A300, H⟩ := H
            replace H : (seriflaw20_JustifyParagraphs.l1 k2 l0 a1 (rd t511 x49_2) t527 t528 0 t511 (t511.length : Int) x49_2 t526 (t526.length : Int) 0) = some r := H
            have A30 := Aside0.mk A300
            clear A300
            have H' := Aside0.mk H
            clear H
            have p519 : 0 ≤ (x49_2 : Int) := odt
            have q519 : x49_2 < (t511.length : Int) := odt
            obtain ⟨ad519, e519, hx519_0⟩ := Kd.at_int (Kd.R_reads' HO_47.out).2.2 x49_2 p519 q519
            cases e519
            replace p519 := eq_true p519
            replace q519 := eq_true q519
            go_wp2_with (first | ((with_reducible refine gate_dst (N := 54) rfl ?_); (try (refine gate_guard (by rfl) ?_; dsimp only)); refine Kd.R_lit k31 _ 31 ?hg (N := 54) ?hd (xs := ([] : List (S31))) (inner := []) (ok := fun _ => True) (okp := fun _ => True) ?hr ?hp (fun _ hk => hk) trivial (Below.refl _ _) (Nat.le_refl _) (by simp) ?_; (case hd => rfl); (case hg => rfl); (case hr => first | (go_simp; done) | (go_simp; rfl)); (case hp => exact (Reps.none _ _)); intro v521 w31 ho32 hb hg_ hnew_; clear hg_ hnew_; (first | rw [← Ny520.out] at ho32 | (simp only [Int.reduceToNat] at ho32; rw [← Ny520.out] at ho32)); have n0_ := Aside0.mk (Kd.R_below (rq HO_47) hb); have n1_ := Aside0.mk (Kd.R_below (rq HO_518000) hb); have n2_ := Aside0.mk (Kd.R_lower ho32 (below_size (bs HB GE517))); have n3_ := Aside0.mk (blk_below (g := gb517) (o := .cells #[.slice (some ad519) t511.length co16, .int .i64 t514, .bool t515] 26 (0, 0)) (kq BK517) hb); have n4_ := Aside0.mk (below_step (bs HB GE517) hb); clear HO_47; clear HO_518000; clear BK517; clear HB; have HO_47 := n0_; have HO_518000 := n1_; have HO522 := n2_; have BK517 := n3_; have HB := n4_; clear n0_ n1_ n2_ n3_ n4_; clear hb ho32) | ((with_reducible refine gate_builtin (b := .append) (xs := #[.tmp 54, .tmp 55]) rfl ?_); (try (refine gate_guard (by rfl) ?_; dsimp only)); at_builtin; refine Kd.R_append_rows k31 (w0 := w) w.heap.size rfl (.tmp 54) (.tmp 55) 23 31 (.agg #[(.int .i64 0), (.int .i64 0), (.int .i64 0), (.int .i64 0), (.int .i64 0), (.bool false)]) 48 rfl Try.underlying23 info31 rfl (by decide) (by omega) v521 y520 l0 _ _ _ (fun _ => True) (fun _ => False) rfl rfl ?aO ?aR (fun _ _ h => h) (fun _ h => h.elim) ?aF ?aB ?aS ?aL ?_; (case aR => repeat (first | exact (Kd.C_below HR0.out HB.out) | (with_reducible refine Kd.C_alloc ?_ _) | (with_reducible refine Kd.C_drewN ?_ _) | (with_reducible refine Kd.C_drew ?_))); (case aB => exact (bs HB GE517)); (case aF => exact (fun _ _ => trivial)); (case aO => exact (by (with_reducible repeat (first | apply Kd.R_alloc | apply Kd.R_drewN | apply Kd.R_drew)); exact HO522.out)); (case aS => exact (below_size (bs HB GE517))); (case aL => have := LMc29.out; omega); intro v524 w33 ho hb hg hat; rw [← Ny523.out] at ho; have n0_ := Aside0.mk (Kd.R_over' (rq HO_47) (Kd.R_typed (by (with_reducible repeat (first | apply Kd.R_alloc | apply Kd.R_drewN | apply Kd.R_drew)); exact HO522.out)) (by decide) hg); have n1_ := Aside0.mk (Kd.R_over' (rq HO_518000) (Kd.R_typed (by (with_reducible repeat (first | apply Kd.R_alloc | apply Kd.R_drewN | apply Kd.R_drew)); exact HO522.out)) (by decide) hg); have n2_ := Aside0.mk (blk_grown (g := gb517) (o := .cells #[.slice (some ad519) t511.length co16, .int .i64 t514, .bool t515] 26 (0, 0)) (kq BK517) hg (Kd.R_ne HO522.out BK517.out (by decide))); have n3_ := Aside0.mk (hb); have n4_ := Aside0.mk (ho); clear HO_47; clear HO_518000; clear BK517; clear HB; clear HO522; have HO_47 := n0_; have HO_518000 := n1_; have BK517 := n2_; have HB := n3_; have HO525 := n4_; clear n0_ n1_ n2_ n3_ n4_; clear ho hb hg hat; obtain ⟨Ao34, co34, eo34⟩ := Kd.R_slice HO525.out; subst eo34) | ((with_reducible refine gate_callee (f := 23) rfl ?_); refine goesL_ (some 60) rfl rfl Try.func23 (by kernel_rfl) rfl #[.slice Ao34 y523.length co34, .int .i64 x9_2, .int .i64 (rd t511 x49_2), .int .i64 a1] rfl (by (try simp only [List.map_toArray, List.map_cons, List.map_nil]); first | done | rfl | (simp only [List.length_drop, List.length_take]; rfl)) ?_; (with_reducible refine (justify_Set.calls k2 _ _ y523 x9_2 (rd t511 x49_2) a1 t526 t527 t528 _ ?side1 ?side2 A30.out).mono ?_); (case side1 => repeat (first | exact (Kd.R_reads' HO525.out).2.2 | (with_reducible refine Kd.C_alloc ?_ _) | (with_reducible refine Kd.C_drewN ?_ _) | (with_reducible refine Kd.C_drew ?_))); (case side2 => exact (Kd.R_reads' HO525.out).2.1); rintro e w35 ⟨v529, rfl, ho0, hb⟩; refine ⟨_, rfl, ?_⟩; have n0_ := Aside0.mk (Kd.R_elder' (rq HO_47) (Kd.R_base ho0) hb); have n1_ := Aside0.mk (Kd.R_elder' (rq HO_518000) (Kd.R_base ho0) hb); have n2_ := Aside0.mk (Kd.R_below (by (with_reducible repeat (first | apply Kd.R_alloc | apply Kd.R_drewN | apply Kd.R_drew)); exact HO525.out) hb); have n3_ := Aside0.mk (Kd.R_lower (Kd.R_new' (Kd.R_new' ho0 (Kd.R_lt (rq HO_47))) (Kd.R_lt (rq HO_518000))) (below_size (bs HB GE517))); have n4_ := Aside0.mk (blk_below (g := gb517) (o := .cells #[.slice (some ad519) t511.length co16, .int .i64 t514, .bool t515] 26 (0, 0)) (kq BK517) hb); have n5_ := Aside0.mk (below_step (bs HB GE517) hb); clear HO_47; clear HO_518000; clear HO525; clear BK517; clear HB; have HO_47 := n0_; have HO_518000 := n1_; have HO525 := n2_; have HO530 := n3_; have BK517 := n4_; have HB := n5_; clear n0_ n1_ n2_ n3_ n4_ n5_; (try clear hb); (try clear hb2); (try clear hk); (try clear hi); (try clear ho0); obtain ⟨Ao36, co36, eo36⟩ := Kd.R_slice HO530.out; subst eo36))
            go_loopg [15, 66] k2 (fun kq v15 v66 w' => ∃ (x15_3 : Int) (x66_3 : Int), v15 = .int .i64 x15_3 ∧ v66 = .int .i64 x66_3 ∧ Aside0 (seriflaw20_JustifyParagraphs.l1 kq l0 a1 (rd t511 x49_2) t527 t528 x15_3 t511 (t511.length : Int) x49_2 t526 (t526.length : Int) x66_3 = some r) ∧ Aside0 (kq ≤ k2) ∧ Aside0 (Kd.R (Kd.int .i64) 3 w' w.heap.size (fun k_ => some k_ ≠ ((.slice Ao36 t526.length co36) : Value).ownBlock) (.slice (some ad519) t511.length co16) t511) ∧ Aside0 (Kd.R (Kd.int .i64) 3 w' w.heap.size (fun k_ => some k_ ≠ ((.slice (some ad519) t511.length co16) : Value).ownBlock ∧ some k_ ≠ ((.slice (some ad519) t511.length co16) : Value).ownBlock) (.slice Ao36 t526.length co36) t526) ∧ Aside0 (Kd.R (Kd.int .i64) 3 w' w.heap.size (fun k_ => some k_ ≠ ((.slice Ao36 t526.length co36) : Value).ownBlock) (.slice (some ad519) t511.length co16) t511) ∧ Aside0 (w'.heap[gb517]? = some (.cells #[(.slice (some ad519) t511.length co16), .int .i64 t514, .bool t515] 26 (0, 0))) ∧ Aside0 (Below w.heap.size w w'))
            case atStart => exact ⟨(0), (0), (by first | rfl | (simp; done) | (simp [*]; done)), (by first | rfl | (simp; done) | (simp [*]; done)), H', ⟨Nat.le_refl _⟩, ⟨by (with_reducible repeat (first | apply Kd.R_alloc | apply Kd.R_drewN | apply Kd.R_drew)); exact Kd.R_mono HO_47.out (fun _ hk => hk.2)⟩, ⟨by (with_reducible repeat (first | apply Kd.R_alloc | apply Kd.R_drewN | apply Kd.R_drew)); exact Kd.R_mono HO530.out (fun _ hk => ⟨hk.1.2, hk.2⟩)⟩, ⟨by (with_reducible repeat (first | apply Kd.R_alloc | apply Kd.R_drewN | apply Kd.R_drew)); exact Kd.R_mono HO_518000.out (fun _ hk => hk.2)⟩, ⟨by (with_reducible repeat (first | refine blk_drewN ?_ _ | refine blk_drew ?_ | refine blk_alloc ?_ _)); exact BK517.out⟩, ⟨bs HB GE517⟩⟩
            case round =>
             clear H'
             try clear c1
             try clear c2
             try clear p2
             try clear c5
             try clear p5
             try clear q5
             try clear hx5
             try clear c6
             try clear c11
             try clear c13
             try clear c14
             try clear c18
             try clear c18b0
             try clear c18b1
             try clear c19
             try clear c21
             try clear c22
             try clear c23
             try clear c26
             try clear c26b0
             try clear c27
             try clear c27b0
             try clear c28
             try clear c28b0
             try clear c29
             try clear hcz17_0
             try clear hcz17_1
             try clear hcz17_2
             try clear hcz20_0
             try clear hcz20_1
             try clear hcz20_2
             try clear hcz21_0
             try clear hcz21_1
             try clear hcz21_2
             try clear hcz25_0
             try clear hcz25_1
             try clear hcz25_2
             try clear hfz17_0
             try clear hfz17_1
             try clear hfz17_2
             try clear hfz20_0
             try clear hfz20_1
             try clear hfz20_2
             try clear hfz21_0
             try clear hfz21_1
             try clear hfz21_2
             try clear hfz25_0
             try clear hfz25_1
             try clear hfz25_2
             try clear hx519_0
             try clear p2
             try clear p519
             try clear q519
             obtain ⟨x15_3, x66_3, rfl, rfl, HA, HK3, HO_47, HO_64, HO_518000, BK517, HB⟩ := hrel
             cases gk with
             | zero => exact absurd HA.out (by simp [seriflaw20_JustifyParagraphs.l1])
             | succ k3 =>
              have H := HA.out
              clear HA
              simp only [seriflaw20_JustifyParagraphs.l1] at H
              by_cases c37 : x66_3 < (t526.length : Int)
              ·rw [if_pos c37] at H
               have c37b0 : decide (x66_3 < (t526.length : Int)) = true := decide_eq_true c37
               clear c37
               by_cases c38 : 0 ≤ x66_3
               ·rw [if_pos c38] at H
                have c38b0 : decide (0 ≤ x66_3) = true := decide_eq_true c38
                clear c38
                by_cases c39 : x66_3 < (t526.length : Int)
                ·rw [if_pos c39] at H
                 have c39b0 : decide (x66_3 < (t526.length : Int)) = true := decide_eq_true c39
                 clear c39
                 have H' := Aside0.mk H
                 clear H
                 have p531 : 0 ≤ (x66_3 : Int) := odt
                 have q531 : x66_3 < (t526.length : Int) := odt
                 obtain ⟨ad531, e531, hx531_0⟩ := Kd.at_int (Kd.R_reads' HO_64.out).2.2 x66_3 p531 q531
                 cases e531
                 replace p531 := eq_true p531
                 replace q531 := eq_true q531
                 go_wp2
                 go_roundg k3
                 case measure => have := HJ7.out; have := HK2.out; have := HK3.out; omega
                 case rel => exact ⟨(wrap64 (x15_3 + (rd t526 x66_3))), (wrap64 (x66_3 + 1)), (by first | rfl | (simp; done) | (simp [*]; done)), (by first | rfl | (simp; done) | (simp [*]; done)), H', ⟨by have := HJ7.out; have := HK2.out; have := HK3.out; omega⟩, ⟨by (with_reducible repeat (first | apply Kd.R_alloc | apply Kd.R_drewN | apply Kd.R_drew)); exact HO_47.out⟩, ⟨by (with_reducible repeat (first | apply Kd.R_alloc | apply Kd.R_drewN | apply Kd.R_drew)); exact HO_64.out⟩, ⟨by (with_reducible repeat (first | apply Kd.R_alloc | apply Kd.R_drewN | apply Kd.R_drew)); exact HO_518000.out⟩, ⟨by (with_reducible repeat (first | refine blk_drewN ?_ _ | refine blk_drew ?_ | refine blk_alloc ?_ _)); exact BK517.out⟩, ⟨bs HB GE517⟩⟩
                ·rw [if_neg c39] at H
                 exact absurd H (by simp)
               ·rw [if_neg c38] at H
                exact absurd H (by simp)
              ·rw [if_neg c37] at H
               have c37b0 : decide (x66_3 < (t526.length : Int)) = false := decide_eq_false c37
               clear c37
               by_cases c40 : t528 = 0
               ·rw [if_pos c40] at H
                have c40b0 : (t528 == 0) = true := beq_iff_eq.mpr c40
                have c40b1 : (t528 != 0) = false := bne_eq_false_iff_eq.mpr c40
                clear c40
                by_cases c41 : t527 = true
                ·subst c41
                 have H1 : (if x15_3 = a1 then (seriflaw20_JustifyParagraphs.l0 k3 l0 a1 (rd t511 x49_2) t511 (t511.length : Int) (wrap64 (x49_2 + 1))) else (none)) = some r := by rw [if_pos rfl] at H; exact H
                 clear H
                 have H := H1
                 clear H1
                 by_cases c42 : x15_3 = a1
                 ·rw [if_pos c42] at H
                  have c42b0 : (x15_3 == a1) = true := beq_iff_eq.mpr c42
                  have c42b1 : (x15_3 != a1) = false := bne_eq_false_iff_eq.mpr c42
                  clear c42
                  have H' := Aside0.mk H
                  clear H
                  go_wp2
                  go_roundg k3
                  case measure => have := HJ7.out; have := HK2.out; have := HK3.out; omega
                  case rel => exact ⟨((rd t511 x49_2)), (wrap64 (x49_2 + 1)), (by first | rfl | (simp; done) | (simp [*]; done)), (by first | rfl | (simp; done) | (simp [*]; done)), H', ⟨by have := HJ7.out; have := HK2.out; have := HK3.out; omega⟩, ⟨by (with_reducible repeat (first | apply Kd.R_alloc | apply Kd.R_drewN | apply Kd.R_drew)); exact Kd.R_mono HO_47.out (fun _ hk => trivial)⟩, ⟨by (with_reducible repeat (first | apply Kd.R_alloc | apply Kd.R_drewN | apply Kd.R_drew)); exact Kd.R_mono HO_518000.out (fun _ hk => trivial)⟩, ⟨by (with_reducible repeat (first | refine blk_drewN ?_ _ | refine blk_drew ?_ | refine blk_alloc ?_ _)); exact BK517.out⟩, ⟨bs HB GE517⟩⟩
                 ·rw [if_neg c42] at H
                  exact absurd H (by simp)
                ·replace c41 := Bool.eq_false_iff.mpr c41
                 subst c41
                 have H1 : (none) = some r := by rw [if_neg (show ¬ (false = true) by decide)] at H; exact H
                 clear H
                 have H := H1
                 clear H1
                 exact absurd H (by simp)
               ·rw [if_neg c40] at H
                exact absurd H (by simp)
           ·rw [if_neg c29] at H
            exact absurd H (by simp)
          ·rw [if_neg c28] at H
           exact absurd H (by simp)
         ·rw [if_neg c27] at H
          exact absurd H (by simp)
        ·rw [if_neg c26] at H
         have c26b0 : decide (x49_2 < (t511.length : Int)) = false := decide_eq_false c26
         clear c26
         obtain rfl := Option.some.inj H
         go_wp2
         go_ret
         exact ⟨by first | rfl | (simp [errW_none, errW_some] <;> rfl) | (simp [*, errW_none, errW_some] <;> rfl), bs HB GE517⟩
  ·rw [if_neg c6] at H
   exact absurd H (by simp)
 ·replace c5 := Bool.eq_false_iff.mpr c5
  subst c5
  have H1 : (none) = some r := by rw [if_neg (show ¬ (false = true) by decide)] at H; exact H
  clear H
  have H := H1
  clear H1
  exact absurd H (by simp)

/-- THE ONE PURE STATEMENT of seriflaw20_JustifyParagraphs: yours. -/
def seriflaw20_JustifyParagraphs.Pure : Prop := ∀ (l0 : List (S31)) (a1 : Int) (a2 : Int), (l0.length ≤ 9223372036854775807 ∧ l0.length * 48 ≤ 140737488351232 ∧ ∀ y1_ ∈ l0, okS31 y1_) → ((Lit.int .i64 a1).wf = true) → ((Lit.int .i64 a2).wf = true) → ∃ k, seriflaw20_JustifyParagraphs.f k l0 a1 a2 = some true

end Go.Proofs.Ytfbanppdiglciaa.Y
