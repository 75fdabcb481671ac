-- written by a program of this session (wip/xprint.py) over the kit's print
import Derived.Test.YtfbanppdiglciaaYx0
import Derived.Test.YtfbanppdiglciaaYx5
import Derived.Test.YtfbanppdiglciaaYx33
import Derived.Test.YtfbanppdiglciaaYx37
import Derived.Test.YtfbanppdiglciaaYx38
import Derived.Test.YtfbanppdiglciaaYx39
namespace Go.Proofs.Ytfbanppdiglciaa.Y
open Go.RowKit Go.Proofs.YtfbanppdiglciaaW.PrintWords Go.Proofs.YtfbanppdiglciaaW.PrintLast Go.Proofs.YtfbanppdiglciaaW.PrintMore
attribute [local go_sem] max2_int min2_int max_two min_two max_three min_three max_four min_four   -- for this text's walks alone
set_option linter.unusedVariables false
set_option linter.unusedSimpArgs false

theorem optimal_paragraph_best.callsT (k : Nat) (g : Nat) (s0_0 : List (S31)) (s0_1 : List (S81)) (s0_2 : List Int) (s0_3 : Int) (A1 : Option Addr) (c1 : Nat) (l1 : List Int) (a2 : Int) (r1 : List (S59)) (r2 : Int) (w0 w : World) (hI : IsT79 w0 w g s0_0 s0_1 s0_2 s0_3) (hB : Below w0.heap.size w0 w) (hr1 : Kd.C (Kd.int .i64) w A1 l1.length l1) (hc1 : l1.length ≤ c1) (hf1 : ∀ ad, A1 = some ad → 0 < l1.length → ad.block ≠ g) (h : optimal_paragraph_best.f k s0_0 s0_1 s0_2 s0_3 l1 a2 = some (r1, r2)) :
    Calls Try.prog 30 #[.pointer (some ⟨g, 0, none⟩), .slice A1 l1.length c1, .int .i64 a2] w fun e w' => ∃ v0_ : Value, e = .returned (v0_) ∧ Kd.R k59 59 w' w.heap.size (fun _ => True) v0_ r1 ∧ IsT79 w0 w' g s0_0 s0_1 s0_2 r2 ∧ Below w0.heap.size w0 w' ∧ KeepBut w w' g none := by
  obtain ⟨x, h1, h2, h3⟩ := hI
  refine (optimal_paragraph_best.calls k g _ _ _ _ A1 c1 l1 a2 r1 r2 x w h3 h2 hr1 hc1 hf1 h).mono ?_
  rintro e w' ⟨v, he, hv, hi, hb, hk⟩
  exact ⟨v, he, hv, ⟨x, h1, hb, hi⟩, below_step h1 hb, hk⟩
theorem optimal_paragraph_emergency.callsT (k : Nat) (g : Nat) (s0_0 : List (S31)) (s0_1 : List (S81)) (s0_2 : List Int) (s0_3 : Int) (A1 : Option Addr) (c1 : Nat) (l1 : List Int) (r1 : List Int) (r2 : Int) (w0 w : World) (hI : IsT79 w0 w g s0_0 s0_1 s0_2 s0_3) (hB : Below w0.heap.size w0 w) (hr1 : Kd.C (Kd.int .i64) w A1 l1.length l1) (hc1 : l1.length ≤ c1) (hf1 : ∀ ad, A1 = some ad → 0 < l1.length → ad.block ≠ g) (h : optimal_paragraph_emergency.f k s0_0 s0_1 s0_2 s0_3 l1 = some (r1, r2)) :
    Calls Try.prog 31 #[.pointer (some ⟨g, 0, none⟩), .slice A1 l1.length c1] w fun e w' => ∃ v0_ : Value, e = .returned (v0_) ∧ Kd.R (Kd.int .i64) 3 w' w.heap.size (fun _ => True) v0_ r1 ∧ IsT79 w0 w' g s0_0 s0_1 s0_2 r2 ∧ Below w0.heap.size w0 w' ∧ KeepBut w w' g none := by
  obtain ⟨x, h1, h2, h3⟩ := hI
  refine (optimal_paragraph_emergency.calls k g _ _ _ _ A1 c1 l1 r1 r2 x w h3 h2 hr1 hc1 hf1 h).mono ?_
  rintro e w' ⟨v, he, hv, hi, hb, hk⟩
  exact ⟨v, he, hv, ⟨x, h1, hb, hi⟩, below_step h1 hb, hk⟩
/-! ### optimal_Best: function 13 -/
def optimal_Best.l0 : Nat → List Int → List (S59) → Int → List Int → Int → Bool → Option (List Int × Int × Bool × Int)
  | 0, _, _, _, _, _, _ => none
  | k + 1, x10, x11, x13, x498000, x498001, x498002 => if x13 < (x10.length : Int) then (if 0 ≤ x13 then (if x13 < (x11.length : Int) then (if 0 ≤ ((rd_T59 x11 x13).f0) then (if ((rd_T59 x11 x13).f0) < (x10.length : Int) then (if x498000.length < 17592186044416 then (optimal_Best.l0 k x10 x11 (wrap64 (((rd_T59 x11 x13).f0) + 1)) (x498000 ++ [rd x10 ((rd_T59 x11 x13).f0)]) x498001 x498002) else (none)) else (none)) else (none)) else (none)) else (none)) else (some (x498000, x498001, x498002, 0))
def optimal_Best.f (k : Nat) (l0 : List (S31)) (a1 : Int) (a2 : Int) : Option (List Int × Int × Bool × Int) := (optimal_Check.f k l0 a1 a2).bind fun t478 => (if t478 = 0 then ((optimal_reckoned.f l0 a1).bind fun bt479 => ((optimal_Places.f k l0).bind fun t484 => ((optimal_paragraph_best.f k bt479.1 bt479.2.1 bt479.2.2.1 bt479.2.2.2 t484 a2).bind fun bt487 => (if 0 < (bt487.1.length : Int) then (if ((rd_T59 bt487.1 0).f2 = true) then (optimal_Best.l0 k t484 bt487.1 0 ([] : List Int) ((rd_T59 bt487.1 0).f1) false) else ((optimal_paragraph_emergency.f k bt479.1 bt479.2.1 bt479.2.2.1 bt487.2 t484).bind fun bt492 => (some (bt492.1, 0, true, 0)))) else (none))))) else (some (([] : List Int), 0, false, t478)))
theorem optimal_Best.mono_l : ∀ k, (∀ y0 y1 y2 y3 y4 y5, LeO (optimal_Best.l0 k y0 y1 y2 y3 y4 y5) (optimal_Best.l0 (k + 1) y0 y1 y2 y3 y4 y5))
  | 0 => fun _ _ _ _ _ _ r h => by simp [optimal_Best.l0] at h
  | k + 1 => by
    have ih0 := optimal_Best.mono_l k
    · intro y0 y1 y2 y3 y4 y5
      unfold optimal_Best.l0
      repeat' first
      | (with_reducible exact ih0 _ _ _ _ _ _)
      | (with_reducible exact optimal_Check.mono _ _ _ _)
      | (with_reducible exact optimal_Places.mono _ _)
      | (with_reducible exact optimal_paragraph_best.mono _ _ _ _ _ _ _)
      | (with_reducible exact optimal_paragraph_emergency.mono _ _ _ _ _ _)
      | (with_reducible exact LeO.refl _)
      | (with_reducible exact LeO.none _)
      | (with_reducible refine LeO.ite ?_ ?_)
      | (with_reducible refine LeO.bind ?_ (fun _ => ?_))
      | exact ih0 _ _ _ _ _ _
      | exact optimal_Check.mono _ _ _ _
      | exact optimal_Places.mono _ _
      | exact optimal_paragraph_best.mono _ _ _ _ _ _ _
      | exact optimal_paragraph_emergency.mono _ _ _ _ _ _
      | exact LeO.none _
      | refine LeO.ite ?_ ?_
      | refine LeO.bind ?_ (fun _ => ?_)
theorem optimal_Best.mono : ∀ a0 a1 a2 k, LeO (optimal_Best.f k a0 a1 a2) (optimal_Best.f (k + 1) a0 a1 a2) := by
  intro a0 a1 a2 k
  have ih0 := optimal_Best.mono_l k
  unfold optimal_Best.f
  repeat' first
      | (with_reducible exact ih0 _ _ _ _ _ _)
      | (with_reducible exact optimal_Check.mono _ _ _ _)
      | (with_reducible exact optimal_Places.mono _ _)
      | (with_reducible exact optimal_paragraph_best.mono _ _ _ _ _ _ _)
      | (with_reducible exact optimal_paragraph_emergency.mono _ _ _ _ _ _)
      | (with_reducible exact LeO.refl _)
      | (with_reducible exact LeO.none _)
      | (with_reducible refine LeO.ite ?_ ?_)
      | (with_reducible refine LeO.bind ?_ (fun _ => ?_))
      | exact ih0 _ _ _ _ _ _
      | exact optimal_Check.mono _ _ _ _
      | exact optimal_Places.mono _ _
      | exact optimal_paragraph_best.mono _ _ _ _ _ _ _
      | exact optimal_paragraph_emergency.mono _ _ _ _ _ _
      | exact LeO.none _
      | refine LeO.ite ?_ ?_
      | refine LeO.bind ?_ (fun _ => ?_)
def optimal_Best.T13 : Bool × List (List Nat × List Nat) := (true, [([], []), ([0], [0]), ([], []), ([], []), ([], []), ([3, 4], [3, 4]), ([5], [5]), ([6], [6]), ([2, 7], [2, 7]), ([8], [8]), ([9], [9]), ([1, 10], [1, 10]), ([0, 1, 2, 3, 4, 5, 6, 7, 8, 9, 10, 11], []), ([12, 11, 11, 0, 1, 2, 3, 4, 5, 6, 7, 8, 9, 10, 11], [11, 12])])
def optimal_Best.B13 : List Nat := [0, 1, 0, 0, 0, 24, 56, 120, 252, 508, 1020, 2047, 4095, 8191]
theorem optimal_Best.tab13 : rtab .any (opsOf Try.f13 13) = optimal_Best.T13 := by kernel_rfl
theorem optimal_Best.bits13 : waitsOk optimal_Best.T13.2 optimal_Best.B13 = true := by kernel_rfl
set_option maxHeartbeats 8000000 in
set_option maxRecDepth 100000 in
theorem optimal_Best.calls (k : Nat) (A0 : Option Addr) (c0 : Nat) (l0 : List (S31)) (a1 : Int) (a2 : Int) (r1 : List Int) (r2 : Int) (r3 : Bool) (r4 : Int) (w : World) (hr0 : Kd.C k31 w A0 l0.length l0) (hc0 : l0.length ≤ c0) (h : optimal_Best.f k l0 a1 a2 = some (r1, r2, r3, r4)) :
    Calls Try.prog 13 #[.slice A0 l0.length c0, .int .i64 a1, .int .i64 a2] w fun e w' => ∃ v0_ : Value, e = .returned (.tuple #[.agg #[v0_, .int .i64 r2, .bool r3], .int .i64 r4]) ∧ Kd.R (Kd.int .i64) 3 w' w.heap.size (fun _ => True) v0_ r1 ∧ Below w.heap.size w w' := by
  have hu26 := Try.underlying26
  have HR0 := Aside0.mk hr0
  have HC0 := Aside0.mk hc0
  clear hr0 hc0
  have HB := Aside0.mk (Below.refl w.heap.size w)
  have H : ((optimal_Check.f k l0 a1 a2).bind fun t478 => (if t478 = 0 then ((optimal_reckoned.f l0 a1).bind fun bt479 => ((optimal_Places.f k l0).bind fun t484 => ((optimal_paragraph_best.f k bt479.1 bt479.2.1 bt479.2.2.1 bt479.2.2.2 t484 a2).bind fun bt487 => (if 0 < (bt487.1.length : Int) then (if ((rd_T59 bt487.1 0).f2 = true) then (optimal_Best.l0 k t484 bt487.1 0 ([] : List Int) ((rd_T59 bt487.1 0).f1) false) else ((optimal_paragraph_emergency.f k bt479.1 bt479.2.1 bt479.2.2.1 bt487.2 t484).bind fun bt492 => (some (bt492.1, 0, true, 0)))) else (none))))) else (some (([] : List Int), 0, false, t478)))) = some (r1, r2, r3, r4) := h
  clear h
  replace H := Option.bind_eq_some_iff.mp H
  obtain ⟨t478, A40, H⟩ := H
  replace H : (if t478 = 0 then ((optimal_reckoned.f l0 a1).bind fun bt479 => ((optimal_Places.f k l0).bind fun t484 => ((optimal_paragraph_best.f k bt479.1 bt479.2.1 bt479.2.2.1 bt479.2.2.2 t484 a2).bind fun bt487 => (if 0 < (bt487.1.length : Int) then (if ((rd_T59 bt487.1 0).f2 = true) then (optimal_Best.l0 k t484 bt487.1 0 ([] : List Int) ((rd_T59 bt487.1 0).f1) false) else ((optimal_paragraph_emergency.f k bt479.1 bt479.2.1 bt479.2.2.1 bt487.2 t484).bind fun bt492 => (some (bt492.1, 0, true, 0)))) else (none))))) else (some (([] : List Int), 0, false, t478))) = some (r1, r2, r3, r4) := H
  have A4 := Aside0.mk A40
  clear A40
  by_cases c5 : t478 = 0
  · rw [if_pos c5] at H
    have c5b0 : (t478 == 0) = true := beq_iff_eq.mpr c5
    have c5b1 : (t478 != 0) = false := bne_eq_false_iff_eq.mpr c5
    clear c5
    replace H := Option.bind_eq_some_iff.mp H
    obtain ⟨⟨t479, t480, t481, t482⟩, A60, H⟩ := H
    replace H : ((optimal_Places.f k l0).bind fun t484 => ((optimal_paragraph_best.f k t479 t480 t481 t482 t484 a2).bind fun bt487 => (if 0 < (bt487.1.length : Int) then (if ((rd_T59 bt487.1 0).f2 = true) then (optimal_Best.l0 k t484 bt487.1 0 ([] : List Int) ((rd_T59 bt487.1 0).f1) false) else ((optimal_paragraph_emergency.f k t479 t480 t481 bt487.2 t484).bind fun bt492 => (some (bt492.1, 0, true, 0)))) else (none)))) = some (r1, r2, r3, r4) := H
    have A6 := Aside0.mk A60
    clear A60
    replace H := Option.bind_eq_some_iff.mp H
    obtain ⟨t484, A70, H⟩ := H
    replace H : ((optimal_paragraph_best.f k t479 t480 t481 t482 t484 a2).bind fun bt487 => (if 0 < (bt487.1.length : Int) then (if ((rd_T59 bt487.1 0).f2 = true) then (optimal_Best.l0 k t484 bt487.1 0 ([] : List Int) ((rd_T59 bt487.1 0).f1) false) else ((optimal_paragraph_emergency.f k t479 t480 t481 bt487.2 t484).bind fun bt492 => (some (bt492.1, 0, true, 0)))) else (none))) = some (r1, r2, r3, r4) := H
    have A7 := Aside0.mk A70
    clear A70
    replace H := Option.bind_eq_some_iff.mp H
    obtain ⟨⟨t487, t490⟩, A80, H⟩ := H
    replace H : (if 0 < (t487.length : Int) then (if ((rd_T59 t487 0).f2 = true) then (optimal_Best.l0 k t484 t487 0 ([] : List Int) ((rd_T59 t487 0).f1) false) else ((optimal_paragraph_emergency.f k t479 t480 t481 t490 t484).bind fun bt492 => (some (bt492.1, 0, true, 0)))) else (none)) = some (r1, r2, r3, r4) := H
    have A8 := Aside0.mk A80
    clear A80
    by_cases c9 : 0 < (t487.length : Int)
    · rw [if_pos c9] at H
      have c9b0 : decide (0 < (t487.length : Int)) = true := decide_eq_true c9
      have c9b1 : decide (0 < t487.length) = true := decide_eq_true (by omega)
      clear c9
      obtain ⟨bq10, hbq10⟩ : ∃ b_ : Bool, b_ = ((rd_T59 t487 0).f2) := ⟨_, rfl⟩
      replace H : (if (bq10 = true) then (optimal_Best.l0 k t484 t487 0 ([] : List Int) ((rd_T59 t487 0).f1) false) else ((optimal_paragraph_emergency.f k t479 t480 t481 t490 t484).bind fun bt492 => (some (bt492.1, 0, true, 0)))) = some (r1, r2, r3, r4) := by rw [← hbq10] at H; exact H
      have Nbq10 := Aside0.mk hbq10
      clear hbq10
      by_cases c11 : (bq10 = true)
      · subst c11
        have H1 : (optimal_Best.l0 k t484 t487 0 ([] : List Int) ((rd_T59 t487 0).f1) false) = some (r1, r2, r3, r4) := by rw [if_pos rfl] at H; exact H
        clear H
        have H := H1
        clear H1
        have H' := Aside0.mk H
        clear H
        go_enter Try.func13, Try.ntmps13
        go_wp2_with (first | ((with_reducible refine gate_dst (N := 6) rfl ?_); refine box_event ?hg (N := 6) ?hd (cs := #[.slice none 0 0, .int .i64 0, .bool false]) (t := 26) ?hr ?_; (case hd => rfl); (case hg => rfl); (case hr => first | (go_simp; done) | (go_simp; rfl)); intro gb477 hg w12 hbox hb; have n0_ := Aside0.mk (below_step (bq HB) hb); have n1_ := Aside0.mk (hbox); have n2_ := Aside0.mk ((by rw [hg]; exact (below_size (bq HB)) : w.heap.size ≤ gb477)); have n3_ := Aside0.mk ((by rw [hg]; exact (below_size (bq HB)) : w.heap.size ≤ gb477)); clear HB; have HB := n0_; have BK477 := n1_; have GW477 := n2_; have GE477 := n3_; clear n0_ n1_ n2_ n3_; clear hb hbox hg) | ((with_reducible refine gate_callee (f := 27) rfl ?_); refine goesL_ (some 17) rfl rfl Try.func27 (by kernel_rfl) rfl #[.slice A0 l0.length c0, .int .i64 a1, .int .i64 a2] rfl (by (try simp only [List.map_toArray, List.map_cons, List.map_nil]); first | done | rfl | (simp only [List.length_drop, List.length_take]; rfl)) ?_; (with_reducible refine (optimal_Check.calls k _ _ l0 a1 a2 t478 _ ?side1 ?side2 A4.out).mono ?_); (case side1 => repeat (first | exact (Kd.C_below HR0.out HB.out) | (with_reducible refine Kd.C_alloc ?_ _) | (with_reducible refine Kd.C_drewN ?_ _) | (with_reducible refine Kd.C_drew ?_))); (case side2 => exact HC0.out); rintro e w13 ⟨rfl, hb⟩; refine ⟨_, rfl, ?_⟩; have n0_ := Aside0.mk (blk_below (g := gb477) (o := .cells #[.slice none 0 0, .int .i64 0, .bool false] 26 (0, 0)) (kq BK477) hb); have n1_ := Aside0.mk (below_step (bs HB GE477) hb); clear BK477; clear HB; have BK477 := n0_; have HB := n1_; clear n0_ n1_; (try clear hb); (try clear hb2); (try clear hk); (try clear hi)) | ((with_reducible refine gate_callee (f := 28) rfl ?_); refine goesL_ (some 24) rfl rfl Try.func28 (by kernel_rfl) rfl #[.slice A0 l0.length c0, .int .i64 a1] rfl (by (try simp only [List.map_toArray, List.map_cons, List.map_nil]); first | done | rfl | (simp only [List.length_drop, List.length_take]; rfl)) ?_; (with_reducible refine (optimal_reckoned.calls _ _ l0 a1 t479 t480 t481 t482 w _ ?side1 ?side2 ?side3 A6.out).mono ?_); (case side1 => repeat (first | (with_reducible first | exact HB.out | apply below_alloc | apply pw_below_drewN | apply below_drew1 | refine below_set ?_ GE477.out) | exact HB.out)); (case side2 => exact HR0.out); (case side3 => exact HC0.out); rintro e w14 ⟨g483, rfl, hi, hb, hb2⟩; refine ⟨_, rfl, ?_⟩; have n0_ := Aside0.mk (blk_below (g := gb477) (o := .cells #[.slice none 0 0, .int .i64 0, .bool false] 26 (0, 0)) (kq BK477) hb2); have n1_ := Aside0.mk (hb); have n2_ := Aside0.mk (hi); have n3_ := Aside0.mk (IsT79.ne_blk hi (blk_below (g := gb477) (o := .cells #[.slice none 0 0, .int .i64 0, .bool false] 26 (0, 0)) (kq BK477) hb2) (by decide)); have n4_ := Aside0.mk (Ne.symm (IsT79.ne_blk hi (blk_below (g := gb477) (o := .cells #[.slice none 0 0, .int .i64 0, .bool false] 26 (0, 0)) (kq BK477) hb2) (by decide))); clear BK477; clear HB; have BK477 := n0_; have HB := n1_; have HI483 := n2_; have NB483_477 := n3_; have NB477_483 := n4_; clear n0_ n1_ n2_ n3_ n4_; (try clear hb); (try clear hb2); (try clear hk); (try clear hi)) | ((with_reducible refine gate_callee (f := 29) rfl ?_); refine goesL_ (some 26) rfl rfl Try.func29 (by kernel_rfl) rfl #[.slice A0 l0.length c0] rfl (by (try simp only [List.map_toArray, List.map_cons, List.map_nil]); first | done | rfl | (simp only [List.length_drop, List.length_take]; rfl)) ?_; (with_reducible refine (optimal_Places.calls k _ _ l0 t484 _ ?side1 ?side2 A7.out).mono ?_); (case side1 => repeat (first | exact (Kd.C_below HR0.out HB.out) | (with_reducible refine Kd.C_alloc ?_ _) | (with_reducible refine Kd.C_drewN ?_ _) | (with_reducible refine Kd.C_drew ?_))); (case side2 => exact HC0.out); rintro e w15 ⟨v485, rfl, ho0, hb⟩; refine ⟨_, rfl, ?_⟩; have n0_ := Aside0.mk (Kd.R_lower ho0 (below_size (by repeat (first | (with_reducible first | exact HB.out | apply below_alloc | apply pw_below_drewN | apply below_drew1 | refine below_set ?_ (IsT79.ge HI483.out) | refine below_set ?_ GE477.out) | exact HB.out)))); have n1_ := Aside0.mk (blk_below (g := gb477) (o := .cells #[.slice none 0 0, .int .i64 0, .bool false] 26 (0, 0)) (kq BK477) hb); have n2_ := Aside0.mk (IsT79.below (by repeat (first | (with_reducible first | exact HI483.out | apply IsT79.alloc | apply IsT79.drewN | apply IsT79.drew | apply IsT79.set_3) | exact HI483.out)) hb); have n3_ := Aside0.mk (below_step (by repeat (first | (with_reducible first | exact HB.out | apply below_alloc | apply pw_below_drewN | apply below_drew1 | refine below_set ?_ (IsT79.ge HI483.out) | refine below_set ?_ GE477.out) | exact HB.out)) hb); clear BK477; clear HI483; clear HB; have HO486 := n0_; have BK477 := n1_; have HI483 := n2_; have HB := n3_; clear n0_ n1_ n2_ n3_; (try clear hb); (try clear hb2); (try clear hk); (try clear hi); (try clear ho0); obtain ⟨Ao16, co16, eo16⟩ := Kd.R_slice HO486.out; subst eo16) | ((with_reducible refine gate_callee (f := 30) rfl ?_); refine goesL_ (some 30) rfl rfl Try.func30 (by kernel_rfl) rfl #[.pointer (some ⟨g483, 0, none⟩), .slice Ao16 t484.length co16, .int .i64 a2] rfl (by (try simp only [List.map_toArray, List.map_cons, List.map_nil]); first | done | rfl | (simp only [List.length_drop, List.length_take]; rfl)) ?_; (with_reducible refine (optimal_paragraph_best.callsT k g483 t479 t480 t481 t482 _ _ t484 a2 t487 t490 w _ ?side1 ?side2 ?side3 ?side4 ?side5 A8.out).mono ?_); (case side1 => repeat (first | (with_reducible first | exact HI483.out | apply IsT79.alloc | apply IsT79.drewN | apply IsT79.drew | apply IsT79.set_3) | exact HI483.out)); (case side2 => repeat (first | (with_reducible first | exact HB.out | apply below_alloc | apply pw_below_drewN | apply below_drew1 | refine below_set ?_ (IsT79.ge HI483.out) | refine below_set ?_ GE477.out) | exact HB.out)); (case side3 => repeat (first | exact (Kd.R_reads' HO486.out).2.2 | (with_reducible refine Kd.C_alloc ?_ _) | (with_reducible refine Kd.C_drewN ?_ _) | (with_reducible refine Kd.C_drew ?_))); (case side4 => exact (Kd.R_reads' HO486.out).2.1); (case side5 => exact far_slice (IsT79.own_ne HI483.out HO486.out (by decide))); rintro e w17 ⟨v488, rfl, ho0, hi, hb, hk⟩; refine ⟨_, rfl, ?_⟩; have n0_ := Aside0.mk (KeepBut.blk hk (g' := gb477) (o := .cells #[.slice none 0 0, .int .i64 0, .bool false] 26 (0, 0)) (kq BK477) NB477_483.out (by simp)); have n1_ := Aside0.mk (Kd.R_mono (Kd.R_keep (IsT79.apart (show IsT79 w _ g483 t479 t480 t481 t482 from by repeat (first | (with_reducible first | exact HI483.out | apply IsT79.alloc | apply IsT79.drewN | apply IsT79.drew | apply IsT79.set_3) | exact HI483.out)) (by (with_reducible repeat (first | apply Kd.R_alloc | apply Kd.R_drewN | apply Kd.R_drew)); exact HO486.out) (by decide)) hk (fun _ h => h.2)) (fun _ h => h.1)); have n2_ := Aside0.mk (Kd.R_lower ho0 (below_size (by repeat (first | (with_reducible first | exact HB.out | apply below_alloc | apply pw_below_drewN | apply below_drew1 | refine below_set ?_ (IsT79.ge HI483.out) | refine below_set ?_ GE477.out) | exact HB.out)))); have n3_ := Aside0.mk (hb); have n4_ := Aside0.mk (hi); clear BK477; clear HO486; clear HB; clear HI483; have BK477 := n0_; have HO486 := n1_; have HO489 := n2_; have HB := n3_; have HI483 := n4_; clear n0_ n1_ n2_ n3_ n4_; (try clear hb); (try clear hb2); (try clear hk); (try clear hi); (try clear ho0); obtain ⟨Ao18, co18, eo18⟩ := Kd.R_slice HO489.out; subst eo18; have p491 : 0 ≤ (0 : Int) := (by omega); have q491 : 0 < (t487.length : Int) := odt; obtain ⟨ad491, e491, hx491_0, hx491_1, hx491_2⟩ := at_T59 (Kd.R_reads' HO489.out).2.2 0 p491 q491; (try rw [← Nbq10.out] at hx491_2); cases e491; have qi491 : (0 < t487.length) = True := eq_true (by omega); (try rw [show ((0 : Int)).toNat = 0 from rfl] at hx491_0); (try rw [show 0 * 3 = 0 from rfl] at hx491_0); (try rw [Addr.add_zero'] at hx491_0); (try rw [show ((0 : Int)).toNat = 0 from rfl] at hx491_1); (try rw [show 0 * 3 = 0 from rfl] at hx491_1); (try rw [Addr.add_zero'] at hx491_1); (try rw [show ((0 : Int)).toNat = 0 from rfl] at hx491_2); (try rw [show 0 * 3 = 0 from rfl] at hx491_2); (try rw [Addr.add_zero'] at hx491_2); replace p491 := eq_true p491; replace q491 := eq_true q491; have p496 : 0 ≤ (0 : Int) := (by omega); have q496 : 0 < (t487.length : Int) := odt; obtain ⟨ad496, e496, hx496_0, hx496_1, hx496_2⟩ := at_T59 (Kd.R_reads' HO489.out).2.2 0 p496 q496; (try rw [← Nbq10.out] at hx496_2); obtain rfl : ad491 = ad496 := (by injection e496); have qi496 : (0 < t487.length) = True := eq_true (by omega); (try rw [show ((0 : Int)).toNat = 0 from rfl] at hx496_0); (try rw [show 0 * 3 = 0 from rfl] at hx496_0); (try rw [Addr.add_zero'] at hx496_0); (try rw [show ((0 : Int)).toNat = 0 from rfl] at hx496_1); (try rw [show 0 * 3 = 0 from rfl] at hx496_1); (try rw [Addr.add_zero'] at hx496_1); (try rw [show ((0 : Int)).toNat = 0 from rfl] at hx496_2); (try rw [show 0 * 3 = 0 from rfl] at hx496_2); (try rw [Addr.add_zero'] at hx496_2); replace p496 := eq_true p496; replace q496 := eq_true q496) | ((with_reducible refine gate_dst (N := 12) rfl ?_); refine box_event ?hg (N := 12) ?hd (cs := #[.slice none 0 0, .int .i64 0, .bool false]) (t := 26) ?hr ?_; (case hd => rfl); (case hg => rfl); (case hr => first | (go_simp; done) | (go_simp; rfl)); intro gb497 hg w19 hbox hb; have n0_ := Aside0.mk (Kd.R_below (by (with_reducible repeat (first | apply Kd.R_alloc | apply Kd.R_drewN | apply Kd.R_drew)); exact HO486.out) hb); have n1_ := Aside0.mk (Kd.R_below (by (with_reducible repeat (first | apply Kd.R_alloc | apply Kd.R_drewN | apply Kd.R_drew)); exact HO489.out) hb); have n2_ := Aside0.mk (blk_below (g := gb477) (o := .cells #[.slice none 0 0, .int .i64 0, .bool false] 26 (0, 0)) (kq BK477) hb); have n3_ := Aside0.mk (IsT79.below (by repeat (first | (with_reducible first | exact HI483.out | apply IsT79.alloc | apply IsT79.drewN | apply IsT79.drew | apply IsT79.set_3) | exact HI483.out)) hb); have n4_ := Aside0.mk (below_step (by repeat (first | (with_reducible first | exact HB.out | apply below_alloc | apply pw_below_drewN | apply below_drew1 | refine below_set ?_ (IsT79.ge HI483.out) | refine below_set ?_ GE477.out) | exact HB.out)) hb); have n5_ := Aside0.mk (hbox); have n6_ := Aside0.mk ((by rw [hg]; exact (below_size (by repeat (first | (with_reducible first | exact HB.out | apply below_alloc | apply pw_below_drewN | apply below_drew1 | refine below_set ?_ (IsT79.ge HI483.out) | refine below_set ?_ GE477.out) | exact HB.out))) : w.heap.size ≤ gb497)); have n7_ := Aside0.mk ((by rw [hg]; exact (below_size (by repeat (first | (with_reducible first | exact HB.out | apply below_alloc | apply pw_below_drewN | apply below_drew1 | refine below_set ?_ (IsT79.ge HI483.out) | refine below_set ?_ GE477.out) | exact HB.out))) : w.heap.size ≤ gb497)); have n8_ := Aside0.mk ((by rw [hg]; exact Nat.ne_of_lt (blk_lt (g := gb477) (o := .cells #[.slice none 0 0, .int .i64 0, .bool false] 26 (0, 0)) (kq BK477)) : gb477 ≠ gb497)); have n9_ := Aside0.mk ((by rw [hg]; exact Nat.ne_of_gt (blk_lt (g := gb477) (o := .cells #[.slice none 0 0, .int .i64 0, .bool false] 26 (0, 0)) (kq BK477)) : gb497 ≠ gb477)); have n10_ := Aside0.mk ((by rw [hg]; exact Nat.ne_of_lt (IsT79.lt (show IsT79 w _ g483 t479 t480 t481 t490 from by repeat (first | (with_reducible first | exact HI483.out | apply IsT79.alloc | apply IsT79.drewN | apply IsT79.drew | apply IsT79.set_3) | exact HI483.out))) : g483 ≠ gb497)); have n11_ := Aside0.mk ((by rw [hg]; exact Nat.ne_of_gt (IsT79.lt (show IsT79 w _ g483 t479 t480 t481 t490 from by repeat (first | (with_reducible first | exact HI483.out | apply IsT79.alloc | apply IsT79.drewN | apply IsT79.drew | apply IsT79.set_3) | exact HI483.out))) : gb497 ≠ g483)); clear HO486; clear HO489; clear BK477; clear HI483; clear HB; have HO486 := n0_; have HO489 := n1_; have BK477 := n2_; have HI483 := n3_; have HB := n4_; have BK497 := n5_; have GW497 := n6_; have GE497 := n7_; have NB477_497 := n8_; have NB497_477 := n9_; have NB483_497 := n10_; have NB497_483 := n11_; clear n0_ n1_ n2_ n3_ n4_ n5_ n6_ n7_ n8_ n9_ n10_ n11_; clear hb hbox hg; have hnb20 := NB497_477.out; have hnc20 := NB477_497.out; have hnb21 := NB497_483.out; have hnc21 := NB483_497.out; have hcz22_0 : w19.cell? ⟨gb497, 0, none⟩ = some (.slice none 0 0) := (blk_cell BK497.out 0).trans rfl; have hcz22_1 : w19.cell? ⟨gb497, 1, none⟩ = some (.int .i64 0) := (blk_cell BK497.out 1).trans rfl; have hcz22_2 : w19.cell? ⟨gb497, 2, none⟩ = some (.bool false) := (blk_cell BK497.out 2).trans rfl; have hfz22_0 := blk_frozen BK497.out 0; have hfz22_1 := blk_frozen BK497.out 1; have hfz22_2 := blk_frozen BK497.out 2))
        go_loopg [13] k (fun kq v13 w' => ∃ (x13_1 : Int) (x498000_1 : List Int) (u498000 : Value), v13 = .int .i64 x13_1 ∧ Aside0 (optimal_Best.l0 kq t484 t487 x13_1 x498000_1 ((rd_T59 t487 0).f1) false = some (r1, r2, r3, r4)) ∧ Aside0 (kq ≤ k) ∧ Aside0 (Kd.R (Kd.int .i64) 3 w' w.heap.size (fun k_ => some k_ ≠ (u498000 : Value).ownBlock) (.slice Ao16 t484.length co16) t484) ∧ Aside0 (Kd.R k59 59 w' w.heap.size (fun _ => True) (.slice (some ad491) t487.length co18) t487) ∧ Aside0 (Kd.R (Kd.int .i64) 3 w' w.heap.size (fun k_ => some k_ ≠ ((.slice Ao16 t484.length co16) : Value).ownBlock) u498000 x498000_1) ∧ Aside0 (w'.heap[gb477]? = some (.cells #[(.slice none 0 0), .int .i64 0, .bool false] 26 (0, 0))) ∧ Aside0 (w'.heap[gb497]? = some (.cells #[u498000, .int .i64 ((rd_T59 t487 0).f1), .bool false] 26 (0, 0))) ∧ Aside0 (Below w.heap.size w w'))
        case atStart => exact ⟨(0), (([] : List Int)), (.slice none 0 0), (by first | rfl | (simp; done) | (simp [*]; done)), H', ⟨Nat.le_refl _⟩, ⟨by (with_reducible repeat (first | apply Kd.R_alloc | apply Kd.R_drewN | apply Kd.R_drew)); exact Kd.R_mono (Kd.R_far (p := ⟨gb497, 2, none⟩) (Kd.R_far (p := ⟨gb497, 1, none⟩) (Kd.R_far (p := ⟨gb497, 0, none⟩) (Kd.R_types HO486.out BK497.out (by decide)) (fun _ hk => hk.2) (.slice none 0 0)) (fun _ hk => hk.2) (.int .i64 ((rd_T59 t487 0).f1))) (fun _ hk => hk.2) (.bool false)) (fun _ hk => (by simp [Value.ownBlock]))⟩, ⟨by (with_reducible repeat (first | apply Kd.R_alloc | apply Kd.R_drewN | apply Kd.R_drew)); exact Kd.R_mono (Kd.R_far (p := ⟨gb497, 2, none⟩) (Kd.R_far (p := ⟨gb497, 1, none⟩) (Kd.R_far (p := ⟨gb497, 0, none⟩) (Kd.R_types HO489.out BK497.out (by decide)) (fun _ hk => hk.2) (.slice none 0 0)) (fun _ hk => hk.2) (.int .i64 ((rd_T59 t487 0).f1))) (fun _ hk => hk.2) (.bool false)) (fun _ hk => trivial)⟩, ⟨by first | exact Kd.R_nil _ _ _ _ _ | exact Kd.N_nil _ _ _ _ _ | exact Kd.V_nil _ _ _ _ _ | exact Kd.Q_nil _ _ _ _ _ | exact Kd.S_nil _ _ _ _ _⟩, ⟨by (with_reducible repeat (first | refine blk_drewN ?_ _ | refine blk_drew ?_ | refine blk_alloc ?_ _)); refine blk_far ?_ NB477_497.out _; (with_reducible repeat (first | refine blk_drewN ?_ _ | refine blk_drew ?_ | refine blk_alloc ?_ _)); refine blk_far ?_ NB477_497.out _; (with_reducible repeat (first | refine blk_drewN ?_ _ | refine blk_drew ?_ | refine blk_alloc ?_ _)); refine blk_far ?_ NB477_497.out _; (with_reducible repeat (first | refine blk_drewN ?_ _ | refine blk_drew ?_ | refine blk_alloc ?_ _)); exact BK477.out⟩, ⟨by (with_reducible repeat (first | refine blk_drewN ?_ _ | refine blk_drew ?_ | refine blk_alloc ?_ _)); refine blk_put (cs := #[.slice none 0 0, .int .i64 ((rd_T59 t487 0).f1), .bool false]) ?_ 2 _ rfl; (with_reducible repeat (first | refine blk_drewN ?_ _ | refine blk_drew ?_ | refine blk_alloc ?_ _)); refine blk_put (cs := #[.slice none 0 0, .int .i64 0, .bool false]) ?_ 1 _ rfl; (with_reducible repeat (first | refine blk_drewN ?_ _ | refine blk_drew ?_ | refine blk_alloc ?_ _)); refine blk_put (cs := #[.slice none 0 0, .int .i64 0, .bool false]) ?_ 0 _ rfl; (with_reducible repeat (first | refine blk_drewN ?_ _ | refine blk_drew ?_ | refine blk_alloc ?_ _)); exact BK497.out⟩, ⟨by repeat (first | (with_reducible first | exact HB.out | apply below_alloc | apply pw_below_drewN | apply below_drew1 | refine below_set ?_ (IsT79.ge HI483.out) | refine below_set ?_ GE477.out | refine below_set ?_ GE497.out) | exact HB.out)⟩⟩
        case round =>
          clear H'
          try clear c1
          try clear q1
          try clear c2
          try clear p2
          try clear c3
          try clear p4
          try clear q4
          try clear hx4
          try clear qi4
          try clear c5
          try clear c5b0
          try clear c5b1
          try clear c9
          try clear c9b0
          try clear c9b1
          try clear q10
          try clear c11
          try clear c13
          try clear c20
          try clear c21
          try clear hcz22_0
          try clear hcz22_1
          try clear hcz22_2
          try clear hfz22_0
          try clear hfz22_1
          try clear hfz22_2
          try clear hx491_0
          try clear hx491_1
          try clear hx491_2
          try clear hx496_0
          try clear hx496_1
          try clear hx496_2
          try clear p491
          try clear p496
          try clear q491
          try clear q496
          obtain ⟨x13_1, x498000_1, u498000, rfl, HA, HK1, HO_10, HO_11, HO_498000, BK477, BK497, HB⟩ := hrel
          cases gk with
          | zero => exact absurd HA.out (by simp [optimal_Best.l0])
          | succ k1 =>
            have H := HA.out
            clear HA
            simp only [optimal_Best.l0] at H
            by_cases c23 : x13_1 < (t484.length : Int)
            · rw [if_pos c23] at H
              have c23b0 : decide (x13_1 < (t484.length : Int)) = true := decide_eq_true c23
              clear c23
              by_cases c24 : 0 ≤ x13_1
              · rw [if_pos c24] at H
                have c24b0 : decide (0 ≤ x13_1) = true := decide_eq_true c24
                clear c24
                by_cases c25 : x13_1 < (t487.length : Int)
                · rw [if_pos c25] at H
                  have c25b0 : decide (x13_1 < (t487.length : Int)) = true := decide_eq_true c25
                  clear c25
                  by_cases c26 : 0 ≤ ((rd_T59 t487 x13_1).f0)
                  · rw [if_pos c26] at H
                    have c26b0 : decide (0 ≤ ((rd_T59 t487 x13_1).f0)) = true := decide_eq_true c26
                    clear c26
                    by_cases c27 : ((rd_T59 t487 x13_1).f0) < (t484.length : Int)
                    · rw [if_pos c27] at H
                      have c27b0 : decide (((rd_T59 t487 x13_1).f0) < (t484.length : Int)) = true := decide_eq_true c27
                      clear c27
                      by_cases c28 : x498000_1.length < 17592186044416
                      · rw [if_pos c28] at H
                        have LMc28 := Aside0.mk c28
                        clear c28
                        obtain ⟨y500, hy500⟩ : ∃ y_ : List Int, y_ = (x498000_1 ++ [rd t484 ((rd_T59 t487 x13_1).f0)]) := ⟨_, rfl⟩
                        replace H : (optimal_Best.l0 k1 t484 t487 (wrap64 (((rd_T59 t487 x13_1).f0) + 1)) y500 ((rd_T59 t487 0).f1) false) = some (r1, r2, r3, r4) := by first | (rw [hy500]; with_reducible exact H) | (have H2_ := (Option.bind_some _ _).symm.trans H; rw [hy500]; with_reducible exact H2_) | (have H2_ := (Option.bind_some _ _).symm.trans H; with_reducible exact H2_) | with_reducible exact H | (rw [hy500]; exact H) | exact H
                        have Ny500 := Aside0.mk hy500
                        clear hy500
                        have H' := Aside0.mk H
                        clear H
                        try go_wp2
                        have n0_ := Aside0.mk (Kd.R_drew HO_10.out)
                        have n1_ := Aside0.mk (Kd.R_drew HO_11.out)
                        have n2_ := Aside0.mk (Kd.R_drew HO_498000.out)
                        have n3_ := Aside0.mk (blk_drew BK477.out)
                        have n4_ := Aside0.mk (blk_drew BK497.out)
                        have n5_ := Aside0.mk (below_drew1 HB.out)
                        clear HO_10
                        clear HO_11
                        clear HO_498000
                        clear BK477
                        clear BK497
                        clear HB
                        have HO_10 := n0_
                        have HO_11 := n1_
                        have HO_498000 := n2_
                        have BK477 := n3_
                        have BK497 := n4_
                        have HB := n5_
                        clear n0_ n1_ n2_ n3_ n4_ n5_
                        have p498 : 0 ≤ (x13_1 : Int) := odt
                        have q498 : x13_1 < (t487.length : Int) := odt
                        obtain ⟨ad498, e498, hx498_0, hx498_1, hx498_2⟩ := at_T59 (Kd.R_reads' HO_11.out).2.2 x13_1 p498 q498
                        (try rw [← Nbq10.out] at hx498_2)
                        obtain rfl : ad491 = ad498 := (by injection e498)
                        replace p498 := eq_true p498
                        replace q498 := eq_true q498
                        have p499 : 0 ≤ (((rd_T59 t487 x13_1).f0) : Int) := odt
                        have q499 : ((rd_T59 t487 x13_1).f0) < (t484.length : Int) := odt
                        obtain ⟨ad499, e499, hx499_0⟩ := Kd.at_int (Kd.R_reads' HO_10.out).2.2 ((rd_T59 t487 x13_1).f0) p499 q499
                        cases e499
                        replace p499 := eq_true p499
                        replace q499 := eq_true q499
                        refine start_ (n := 14) (S := fun w' => w'.cell? ⟨gb497, 0, none⟩ = some (u498000) ∧ w'.cell? ⟨gb497, 1, none⟩ = some (.int .i64 ((rd_T59 t487 0).f1)) ∧ w'.cell? ⟨gb497, 2, none⟩ = some (.bool false) ∧ w'.cell? (ad491.add ((x13_1).toNat * 3)) = some (.int .i64 ((rd_T59 t487 x13_1).f0)) ∧ w'.cell? ⟨(ad491.add ((x13_1).toNat * 3)).block, (ad491.add ((x13_1).toNat * 3)).off + 1, none⟩ = some (.int .i64 ((rd_T59 t487 x13_1).f1)) ∧ w'.cell? ⟨(ad491.add ((x13_1).toNat * 3)).block, (ad491.add ((x13_1).toNat * 3)).off + 2, none⟩ = some (.bool ((rd_T59 t487 x13_1).f2)) ∧ w'.cell? (ad499.add (((rd_T59 t487 x13_1).f0)).toNat) = some (.int .i64 (rd t484 ((rd_T59 t487 x13_1).f0)))) (ds := [11, 13]) #[false, false, false, false, false, false, false, false, false, false, false, false, false, false] (by kernel_rfl) rfl rfl ⟨(blk_cell BK497.out 0).trans rfl, (blk_cell BK497.out 1).trans rfl, (blk_cell BK497.out 2).trans rfl, hx498_0, hx498_1, hx498_2, hx499_0⟩ (fun hHeld => ?_); refine with_tabW optimal_Best.tab13 optimal_Best.bits13 (fun HT_ HW_ => ?_)
                        generalize wr.drew = w29 at HO_10 HO_11 HO_498000 BK477 BK497 HB hx498_0 hx498_1 hx498_2 hx499_0 hHeld ⊢
                        refine pure_ (i := 0) (N := some 55) (v := ?_) (a' := ?_) #[true, false, false, false, false, false, false, false, false, false, false, false, false, false] rfl rfl (any_of HT_.out (by kernel_rfl)) (fun _ _ _ h => h) (Or.inl ⟨by rfl, ?_⟩) ?_ ?_
                        rotate_left
                        · intro w'
                          go_simp
                          with_reducible rfl
                        rotate_left
                        · simp only [Act.put, List.setIfInBounds_toArray, List.set_cons_zero, List.set_cons_succ, i64_w, i32_w]
                          rfl
                        refine pure_ (i := 2) (N := some 57) (v := ?_) (a' := ?_) #[true, false, true, false, false, false, false, false, false, false, false, false, false, false] rfl rfl (any_of HT_.out (by kernel_rfl)) (fun _ _ _ h => h) (Or.inl ⟨by rfl, ?_⟩) ?_ ?_
                        rotate_left
                        · intro w'
                          go_simp
                          with_reducible rfl
                        rotate_left
                        · simp only [Act.put, List.setIfInBounds_toArray, List.set_cons_zero, List.set_cons_succ, i64_w, i32_w]
                          rfl
                        refine pure_ (i := 3) (N := some 58) (v := ?_) (a' := ?_) #[true, false, true, true, false, false, false, false, false, false, false, false, false, false] rfl rfl (any_of HT_.out (by kernel_rfl)) (fun _ _ _ h => h) (Or.inl ⟨by rfl, ?_⟩) ?_ ?_
                        rotate_left
                        · intro w'
                          go_simp
                          with_reducible rfl
                        rotate_left
                        · simp only [Act.put, List.setIfInBounds_toArray, List.set_cons_zero, List.set_cons_succ, i64_w, i32_w]
                          rfl
                        refine pure_ (i := 4) (N := some 59) (v := ?_) (a' := ?_) #[true, false, true, true, true, false, false, false, false, false, false, false, false, false] rfl rfl (any_of HT_.out (by kernel_rfl)) (fun _ _ _ h => h) (Or.inl ⟨by rfl, ?_⟩) ?_ ?_
                        rotate_left
                        · intro w'
                          go_simp
                          with_reducible rfl
                        rotate_left
                        · simp only [Act.put, List.setIfInBounds_toArray, List.set_cons_zero, List.set_cons_succ, i64_w, i32_w]
                          rfl
                        refine pure_ (i := 5) (N := some 60) (v := ?_) (a' := ?_) #[true, false, true, true, true, true, false, false, false, false, false, false, false, false] rfl rfl (any_of HT_.out (by kernel_rfl)) (fun _ _ _ h => h) (Or.inl ⟨by rfl, ?_⟩) ?_ ?_
                        rotate_left
                        · intro w'
                          go_simp
                          with_reducible rfl
                        rotate_left
                        · simp only [Act.put, List.setIfInBounds_toArray, List.set_cons_zero, List.set_cons_succ, i64_w, i32_w]
                          rfl
                        refine pure_ (i := 6) (N := some 61) (v := ?_) (a' := ?_) #[true, false, true, true, true, true, true, false, false, false, false, false, false, false] rfl rfl (any_of HT_.out (by kernel_rfl)) (fun _ _ _ h => h) (Or.inl ⟨by rfl, ?_⟩) ?_ ?_
                        rotate_left
                        · intro w'
                          go_simp
                          with_reducible rfl
                        rotate_left
                        · simp only [Act.put, List.setIfInBounds_toArray, List.set_cons_zero, List.set_cons_succ, i64_w, i32_w]
                          rfl
                        refine take_ (i := 1) (N := some 56) (v := ?_) (a' := ?_) #[true, true, true, true, true, true, true, false, false, false, false, false, false, false] rfl rfl (take_ofW HT_.out HW_.out (by kernel_rfl)) (fun _ _ _ h => h) (Or.inl ⟨by rfl, ?_⟩) hHeld ?_ ?_
                        rotate_left
                        · rintro w' ⟨s0, s1, s2, s3, s4, s5, s6⟩
                          go_simp
                          with_reducible rfl
                        rotate_left
                        · simp only [Act.put, List.setIfInBounds_toArray, List.set_cons_zero, List.set_cons_succ, i64_w, i32_w]
                          rfl
                        refine take_ (i := 7) (N := some 62) (v := ?_) (a' := ?_) #[true, true, true, true, true, true, true, true, false, false, false, false, false, false] rfl rfl (take_ofW HT_.out HW_.out (by kernel_rfl)) (fun _ _ _ h => h) (Or.inl ⟨by rfl, ?_⟩) hHeld ?_ ?_
                        rotate_left
                        · rintro w' ⟨s0, s1, s2, s3, s4, s5, s6⟩
                          go_simp
                          with_reducible rfl
                        rotate_left
                        · simp only [Act.put, List.setIfInBounds_toArray, List.set_cons_zero, List.set_cons_succ, i64_w, i32_w]
                          rfl
                        refine pure_ (i := 8) (N := some 63) (v := ?_) (a' := ?_) #[true, true, true, true, true, true, true, true, true, false, false, false, false, false] rfl rfl (any_of HT_.out (by kernel_rfl)) (fun _ _ _ h => h) (Or.inl ⟨by rfl, ?_⟩) ?_ ?_
                        rotate_left
                        · intro w'
                          go_simp
                          with_reducible rfl
                        rotate_left
                        · simp only [Act.put, List.setIfInBounds_toArray, List.set_cons_zero, List.set_cons_succ, i64_w, i32_w]
                          rfl
                        refine take_ (i := 9) (N := some 64) (v := ?_) (a' := ?_) #[true, true, true, true, true, true, true, true, true, true, false, false, false, false] rfl rfl (take_ofW HT_.out HW_.out (by kernel_rfl)) (fun _ _ _ h => h) (Or.inl ⟨by rfl, ?_⟩) hHeld ?_ ?_
                        rotate_left
                        · rintro w' ⟨s0, s1, s2, s3, s4, s5, s6⟩
                          go_simp
                          with_reducible rfl
                        rotate_left
                        · simp only [Act.put, List.setIfInBounds_toArray, List.set_cons_zero, List.set_cons_succ, i64_w, i32_w]
                          rfl
                        refine one_ (i := 10) (N := some 65) #[true, true, true, true, true, true, true, true, true, true, true, false, false, false] rfl rfl (one_of HT_.out (by kernel_rfl)) (by decide) (fun K hK => ?_)
                        refine value_ (w1 := ?_) (v := ?_) (by rfl) rfl ?_ ?_
                        rotate_left 2
                        · go_simp
                          constructor
                          · rfl
                          · rfl
                        refine hK.out _ _ ⟨(blk_cell (blk_alloc BK497.out _) 0).trans rfl, (blk_cell (blk_alloc BK497.out _) 1).trans rfl, (blk_cell (blk_alloc BK497.out _) 2).trans rfl, (World.cell?_alloc_lt _ _ _ (World.block_lt_of_cell? _ _ (hHeld.2.2.2.1))).trans (hHeld.2.2.2.1), (World.cell?_alloc_lt _ _ _ (World.block_lt_of_cell? _ _ (hHeld.2.2.2.2.1))).trans (hHeld.2.2.2.2.1), (World.cell?_alloc_lt _ _ _ (World.block_lt_of_cell? _ _ (hHeld.2.2.2.2.2.1))).trans (hHeld.2.2.2.2.2.1), (World.cell?_alloc_lt _ _ _ (World.block_lt_of_cell? _ _ (hHeld.2.2.2.2.2.2))).trans (hHeld.2.2.2.2.2.2)⟩ (fun hHeld => ?_)
                        clear hK K
                        refine norm_ (a' := ?_) ?_ ?_
                        rotate_left
                        · show Act.put _ (some 65) _ = _
                          simp only [Act.put, List.setIfInBounds_toArray, List.set_cons_zero, List.set_cons_succ, i64_w, i32_w]
                          rfl
                        refine last_ (i := 11) (N := some 66) #[true, true, true, true, true, true, true, true, true, true, true, true, false, false] rfl rfl (one_of HT_.out (by kernel_rfl)) (by decide) (fun K hK => ?_)
                        refine Kd.R_append_step (Kd.int .i64) (w0 := w) w.heap.size (by rfl) (.tmp 56) (.tmp 65) 24 3 (.int .i64 0) 8 rfl Try.underlying24 info3 rfl (by decide) (by omega) u498000 x498000_1 (rd t484 ((rd_T59 t487 x13_1).f0)) [.int .i64 (rd t484 ((rd_T59 t487 x13_1).f0))] (fun k_ => some k_ ≠ (.slice (some ad499) t484.length co16 : Value).ownBlock) (fun _ => False) rfl rfl ?aP (fun _ hk => hk.elim) ?aF ?aO ?aB ?aS ?aL ?_
                        (case aP => exact rfl)
                        (case aB => exact (by repeat (first | (with_reducible first | exact HB.out | apply below_alloc | apply pw_below_drewN | apply below_drew1 | refine below_set ?_ GE477.out | refine below_set ?_ GE497.out) | exact HB.out)))
                        (case aF => exact (fun k_ hk => Kd.fresh' (Kd.R_lt (rq HO_10)) k_ hk))
                        (case aO => exact (rq HO_498000))
                        (case aS => exact (below_size (by repeat (first | (with_reducible first | exact HB.out | apply below_alloc | apply pw_below_drewN | apply below_drew1 | refine below_set ?_ GE477.out | refine below_set ?_ GE497.out) | exact HB.out))))
                        (case aL => have := LMc28.out; omega)
                        intro v501 w30 ho hb hg hat
                        rw [← Ny500.out] at ho
                        have n0_ := Aside0.mk (Kd.R_after (ok := (fun _ => True)) (by (with_reducible repeat (first | apply Kd.R_alloc | apply Kd.R_drewN | apply Kd.R_drew)); exact Kd.R_mono HO_10.out (fun _ hk => ⟨trivial, hk⟩)) hg hat)
                        have n1_ := Aside0.mk (Kd.R_over' (rq HO_11) (Kd.R_typed (rq HO_498000)) (by decide) hg)
                        have n2_ := Aside0.mk (blk_grown (g := gb477) (o := .cells #[.slice none 0 0, .int .i64 0, .bool false] 26 (0, 0)) (kq BK477) hg (Kd.R_ne HO_498000.out BK477.out (by decide)))
                        have n3_ := Aside0.mk (blk_grown (g := gb497) (o := .cells #[u498000, .int .i64 ((rd_T59 t487 0).f1), .bool false] 26 (0, 0)) (kq BK497) hg (Kd.R_ne HO_498000.out BK497.out (by decide)))
                        have n4_ := Aside0.mk (hb)
                        have n5_ := Aside0.mk (ho)
                        clear HO_10
                        clear HO_11
                        clear BK477
                        clear BK497
                        clear HB
                        clear HO_498000
                        have HO_10 := n0_
                        have HO_11 := n1_
                        have BK477 := n2_
                        have BK497 := n3_
                        have HB := n4_
                        have HO502 := n5_
                        clear n0_ n1_ n2_ n3_ n4_ n5_
                        clear ho hb hg hat
                        obtain ⟨Ao31, co31, eo31⟩ := Kd.R_slice HO502.out
                        (first | subst eo31 | (injection eo31 with f1_ f2_ f3_; have f4_ := f1_.symm; have f5_ := f3_.symm; clear f1_ f2_ f3_; subst f4_; subst f5_))
                        refine hK.out _ _ ?_
                        clear hK K
                        refine norm_ (a' := ?_) ?_ ?_
                        rotate_left
                        · show Act.put _ (some 66) _ = _
                          simp only [Act.put, List.setIfInBounds_toArray, List.set_cons_zero, List.set_cons_succ, i64_w, i32_w]
                          rfl
                        refine pure_ (i := 12) (N := some 67) (v := ?_) (a' := ?_) #[true, true, true, true, true, true, true, true, true, true, true, true, true, false] rfl rfl (any_of HT_.out (by kernel_rfl)) (fun _ _ _ h => h) (Or.inl ⟨by rfl, ?_⟩) ?_ ?_
                        rotate_left
                        · intro w'
                          go_simp
                          with_reducible rfl
                        rotate_left
                        · simp only [Act.put, List.setIfInBounds_toArray, List.set_cons_zero, List.set_cons_succ, i64_w, i32_w]
                          rfl
                        refine last_ (i := 13) (N := none) #[true, true, true, true, true, true, true, true, true, true, true, true, true, true] rfl rfl (one_of HT_.out (by kernel_rfl)) (by decide) (fun K hK => ?_)
                        have hs32 : w30.cell? ⟨gb497, 0, none⟩ = some (u498000) := (blk_cell BK497.out 0).trans rfl
                        have hfs32 := blk_frozen BK497.out 0
                        have hns32_0 := NB477_497.out
                        have hms32_0 := NB497_477.out
                        refine skip_ (w1 := ?_) (by rfl) rfl ?_ ?_
                        rotate_left
                        · go_simp
                          rfl
                        refine hK.out _ _ ?_
                        clear hK K
                        refine done_ (done_of HT_.out (by kernel_rfl)) ?_
                        have p503 : 0 ≤ (x13_1 : Int) := odt
                        have q503 : x13_1 < (t487.length : Int) := odt
                        obtain ⟨ad503, e503, hx503_0, hx503_1, hx503_2⟩ := at_T59 (Kd.R_reads' HO_11.out).2.2 x13_1 p503 q503
                        (try rw [← Nbq10.out] at hx503_2)
                        obtain rfl : ad491 = ad503 := (by injection e503)
                        have hn503_0 : ad491.block ≠ gb497 := Kd.own_blk (Kd.R_ne HO_11.out BK497.out (by decide))
                        replace hx503_0 := (cell_far (p := ⟨gb497, 0, none⟩) (by first | (rw [add_block]; exact hn503_0) | (show (Addr.add _ _).block ≠ _; rw [add_block]; exact hn503_0) | exact hn503_0) (.slice Ao31 y500.length co31)).trans hx503_0
                        replace hx503_1 := (cell_far (p := ⟨gb497, 0, none⟩) (by first | (rw [add_block]; exact hn503_0) | (show (Addr.add _ _).block ≠ _; rw [add_block]; exact hn503_0) | exact hn503_0) (.slice Ao31 y500.length co31)).trans hx503_1
                        replace hx503_2 := (cell_far (p := ⟨gb497, 0, none⟩) (by first | (rw [add_block]; exact hn503_0) | (show (Addr.add _ _).block ≠ _; rw [add_block]; exact hn503_0) | exact hn503_0) (.slice Ao31 y500.length co31)).trans hx503_2
                        clear hn503_0
                        replace p503 := eq_true p503
                        replace q503 := eq_true q503
                        try go_wp2
                        go_roundg k1
                        case measure => have := HK1.out; omega
                        case rel => exact ⟨(wrap64 (((rd_T59 t487 x13_1).f0) + 1)), (y500), (.slice Ao31 y500.length co31), (by first | rfl | (simp; done) | (simp [*]; done)), H', ⟨by have := HK1.out; omega⟩, ⟨by (with_reducible repeat (first | apply Kd.R_alloc | apply Kd.R_drewN | apply Kd.R_drew)); exact Kd.R_mono (Kd.R_far (p := ⟨gb497, 0, none⟩) (Kd.R_types HO_10.out BK497.out (by decide)) (fun _ hk => hk.2) (.slice Ao31 y500.length co31)) (fun _ hk => hk.1.2)⟩, ⟨by (with_reducible repeat (first | apply Kd.R_alloc | apply Kd.R_drewN | apply Kd.R_drew)); exact Kd.R_mono (Kd.R_far (p := ⟨gb497, 0, none⟩) (Kd.R_types HO_11.out BK497.out (by decide)) (fun _ hk => hk.2) (.slice Ao31 y500.length co31)) (fun _ hk => trivial)⟩, ⟨by (with_reducible repeat (first | apply Kd.R_alloc | apply Kd.R_drewN | apply Kd.R_drew)); exact Kd.R_mono (Kd.R_far (p := ⟨gb497, 0, none⟩) (Kd.R_types HO502.out BK497.out (by decide)) (fun _ hk => hk.2) (.slice Ao31 y500.length co31)) (fun _ hk => hk.1)⟩, ⟨by (with_reducible repeat (first | refine blk_drewN ?_ _ | refine blk_drew ?_ | refine blk_alloc ?_ _)); refine blk_far ?_ NB477_497.out _; (with_reducible repeat (first | refine blk_drewN ?_ _ | refine blk_drew ?_ | refine blk_alloc ?_ _)); exact BK477.out⟩, ⟨by (with_reducible repeat (first | refine blk_drewN ?_ _ | refine blk_drew ?_ | refine blk_alloc ?_ _)); refine blk_put (cs := #[u498000, .int .i64 ((rd_T59 t487 0).f1), .bool false]) ?_ 0 _ rfl; (with_reducible repeat (first | refine blk_drewN ?_ _ | refine blk_drew ?_ | refine blk_alloc ?_ _)); exact BK497.out⟩, ⟨by repeat (first | (with_reducible first | exact HB.out | apply below_alloc | apply pw_below_drewN | apply below_drew1 | refine below_set ?_ GE477.out | refine below_set ?_ GE497.out) | exact HB.out)⟩⟩
                      · rw [if_neg c28] at H
                        exact absurd H (by simp)
                    · rw [if_neg c27] at H
                      exact absurd H (by simp)
                  · rw [if_neg c26] at H
                    exact absurd H (by simp)
                · rw [if_neg c25] at H
                  exact absurd H (by simp)
              · rw [if_neg c24] at H
                exact absurd H (by simp)
            · rw [if_neg c23] at H
              have c23b0 : decide (x13_1 < (t484.length : Int)) = false := decide_eq_false c23
              clear c23
              simp only [Option.some.injEq, Prod.mk.injEq] at H
              obtain ⟨rfl, rfl, rfl, rfl⟩ := H
              have hnb33 := NB497_477.out
              have hnc33 := NB477_497.out
              have hcz34_0 : wr.cell? ⟨gb497, 0, none⟩ = some (u498000) := (blk_cell BK497.out 0).trans rfl
              have hcz34_1 : wr.cell? ⟨gb497, 1, none⟩ = some (.int .i64 ((rd_T59 t487 0).f1)) := (blk_cell BK497.out 1).trans rfl
              have hcz34_2 : wr.cell? ⟨gb497, 2, none⟩ = some (.bool false) := (blk_cell BK497.out 2).trans rfl
              have hfz34_0 := blk_frozen BK497.out 0
              have hfz34_1 := blk_frozen BK497.out 1
              have hfz34_2 := blk_frozen BK497.out 2
              obtain ⟨Ao35, co35, eo35⟩ := Kd.R_slice HO_498000.out
              subst eo35
              have hcz36_0 : wr.cell? ⟨gb477, 0, none⟩ = some (.slice none 0 0) := (blk_cell BK477.out 0).trans rfl
              have hcz36_1 : wr.cell? ⟨gb477, 1, none⟩ = some (.int .i64 0) := (blk_cell BK477.out 1).trans rfl
              have hcz36_2 : wr.cell? ⟨gb477, 2, none⟩ = some (.bool false) := (blk_cell BK477.out 2).trans rfl
              have hfz36_0 := blk_frozen BK477.out 0
              have hfz36_1 := blk_frozen BK477.out 1
              have hfz36_2 := blk_frozen BK477.out 2
              go_wp2
              refine bodyPost_ret (results_ct rfl _ _ gb477 26 #[.slice Ao35 x498000_1.length co35, .int .i64 ((rd_T59 t487 0).f1), .bool false] (0, 0) _ rfl (by (with_reducible repeat (first | refine blk_drewN ?_ _ | refine blk_drew ?_ | refine blk_alloc ?_ _)); refine blk_put (cs := #[.slice Ao35 x498000_1.length co35, .int .i64 ((rd_T59 t487 0).f1), .bool false]) ?_ 2 _ rfl; (with_reducible repeat (first | refine blk_drewN ?_ _ | refine blk_drew ?_ | refine blk_alloc ?_ _)); refine blk_put (cs := #[.slice Ao35 x498000_1.length co35, .int .i64 0, .bool false]) ?_ 1 _ rfl; (with_reducible repeat (first | refine blk_drewN ?_ _ | refine blk_drew ?_ | refine blk_alloc ?_ _)); refine blk_put (cs := #[.slice none 0 0, .int .i64 0, .bool false]) ?_ 0 _ rfl; (with_reducible repeat (first | refine blk_drewN ?_ _ | refine blk_drew ?_ | refine blk_alloc ?_ _)); exact BK477.out) Try.underlying26 rfl (by kernel_rfl)) rfl ?_
              exact ⟨_, by first | rfl | (simp [errW_none, errW_some] <;> rfl) | (simp [*, errW_none, errW_some] <;> rfl), by (with_reducible repeat (first | apply Kd.R_alloc | apply Kd.R_drewN | apply Kd.R_drew)); exact Kd.R_mono (Kd.R_far (p := ⟨gb477, 2, none⟩) (Kd.R_far (p := ⟨gb477, 1, none⟩) (Kd.R_far (p := ⟨gb477, 0, none⟩) (Kd.R_types HO_498000.out BK477.out (by decide)) (fun _ hk => hk.2) (.slice Ao35 x498000_1.length co35)) (fun _ hk => hk.2) (.int .i64 ((rd_T59 t487 0).f1))) (fun _ hk => hk.2) (.bool false)) (fun _ hk => trivial), by repeat (first | (with_reducible first | exact HB.out | apply below_alloc | apply pw_below_drewN | apply below_drew1 | refine below_set ?_ GE477.out | refine below_set ?_ GE497.out) | exact HB.out)⟩
      · replace c11 := Bool.eq_false_iff.mpr c11
        subst c11
        have H1 : ((optimal_paragraph_emergency.f k t479 t480 t481 t490 t484).bind fun bt492 => (some (bt492.1, 0, true, 0))) = some (r1, r2, r3, r4) := by rw [if_neg (show ¬ (false = true) by decide)] at H; exact H
        clear H
        have H := H1
        clear H1
        replace H := Option.bind_eq_some_iff.mp H
        obtain ⟨⟨t492, t495⟩, A370, H⟩ := H
        replace H : (some (t492, 0, true, 0)) = some (r1, r2, r3, r4) := H
        have A37 := Aside0.mk A370
        clear A370
        simp only [Option.some.injEq, Prod.mk.injEq] at H
        obtain ⟨rfl, rfl, rfl, rfl⟩ := H
        go_enter Try.func13, Try.ntmps13
        go_wp2_with (first | ((with_reducible refine gate_dst (N := 6) rfl ?_); refine box_event ?hg (N := 6) ?hd (cs := #[.slice none 0 0, .int .i64 0, .bool false]) (t := 26) ?hr ?_; (case hd => rfl); (case hg => rfl); (case hr => first | (go_simp; done) | (go_simp; rfl)); intro gb477 hg w38 hbox hb; have n0_ := Aside0.mk (below_step (bq HB) hb); have n1_ := Aside0.mk (hbox); have n2_ := Aside0.mk ((by rw [hg]; exact (below_size (bq HB)) : w.heap.size ≤ gb477)); have n3_ := Aside0.mk ((by rw [hg]; exact (below_size (bq HB)) : w.heap.size ≤ gb477)); clear HB; have HB := n0_; have BK477 := n1_; have GW477 := n2_; have GE477 := n3_; clear n0_ n1_ n2_ n3_; clear hb hbox hg) | ((with_reducible refine gate_callee (f := 27) rfl ?_); refine goesL_ (some 17) rfl rfl Try.func27 (by kernel_rfl) rfl #[.slice A0 l0.length c0, .int .i64 a1, .int .i64 a2] rfl (by (try simp only [List.map_toArray, List.map_cons, List.map_nil]); first | done | rfl | (simp only [List.length_drop, List.length_take]; rfl)) ?_; (with_reducible refine (optimal_Check.calls k _ _ l0 a1 a2 t478 _ ?side1 ?side2 A4.out).mono ?_); (case side1 => repeat (first | exact (Kd.C_below HR0.out HB.out) | (with_reducible refine Kd.C_alloc ?_ _) | (with_reducible refine Kd.C_drewN ?_ _) | (with_reducible refine Kd.C_drew ?_))); (case side2 => exact HC0.out); rintro e w39 ⟨rfl, hb⟩; refine ⟨_, rfl, ?_⟩; have n0_ := Aside0.mk (blk_below (g := gb477) (o := .cells #[.slice none 0 0, .int .i64 0, .bool false] 26 (0, 0)) (kq BK477) hb); have n1_ := Aside0.mk (below_step (bs HB GE477) hb); clear BK477; clear HB; have BK477 := n0_; have HB := n1_; clear n0_ n1_; (try clear hb); (try clear hb2); (try clear hk); (try clear hi)) | ((with_reducible refine gate_callee (f := 28) rfl ?_); refine goesL_ (some 24) rfl rfl Try.func28 (by kernel_rfl) rfl #[.slice A0 l0.length c0, .int .i64 a1] rfl (by (try simp only [List.map_toArray, List.map_cons, List.map_nil]); first | done | rfl | (simp only [List.length_drop, List.length_take]; rfl)) ?_; (with_reducible refine (optimal_reckoned.calls _ _ l0 a1 t479 t480 t481 t482 w _ ?side1 ?side2 ?side3 A6.out).mono ?_); (case side1 => repeat (first | (with_reducible first | exact HB.out | apply below_alloc | apply pw_below_drewN | apply below_drew1 | refine below_set ?_ GE477.out) | exact HB.out)); (case side2 => exact HR0.out); (case side3 => exact HC0.out); rintro e w40 ⟨g483, rfl, hi, hb, hb2⟩; refine ⟨_, rfl, ?_⟩; have n0_ := Aside0.mk (blk_below (g := gb477) (o := .cells #[.slice none 0 0, .int .i64 0, .bool false] 26 (0, 0)) (kq BK477) hb2); have n1_ := Aside0.mk (hb); have n2_ := Aside0.mk (hi); have n3_ := Aside0.mk (IsT79.ne_blk hi (blk_below (g := gb477) (o := .cells #[.slice none 0 0, .int .i64 0, .bool false] 26 (0, 0)) (kq BK477) hb2) (by decide)); have n4_ := Aside0.mk (Ne.symm (IsT79.ne_blk hi (blk_below (g := gb477) (o := .cells #[.slice none 0 0, .int .i64 0, .bool false] 26 (0, 0)) (kq BK477) hb2) (by decide))); clear BK477; clear HB; have BK477 := n0_; have HB := n1_; have HI483 := n2_; have NB483_477 := n3_; have NB477_483 := n4_; clear n0_ n1_ n2_ n3_ n4_; (try clear hb); (try clear hb2); (try clear hk); (try clear hi)) | ((with_reducible refine gate_callee (f := 29) rfl ?_); refine goesL_ (some 26) rfl rfl Try.func29 (by kernel_rfl) rfl #[.slice A0 l0.length c0] rfl (by (try simp only [List.map_toArray, List.map_cons, List.map_nil]); first | done | rfl | (simp only [List.length_drop, List.length_take]; rfl)) ?_; (with_reducible refine (optimal_Places.calls k _ _ l0 t484 _ ?side1 ?side2 A7.out).mono ?_); (case side1 => repeat (first | exact (Kd.C_below HR0.out HB.out) | (with_reducible refine Kd.C_alloc ?_ _) | (with_reducible refine Kd.C_drewN ?_ _) | (with_reducible refine Kd.C_drew ?_))); (case side2 => exact HC0.out); rintro e w41 ⟨v485, rfl, ho0, hb⟩; refine ⟨_, rfl, ?_⟩; have n0_ := Aside0.mk (Kd.R_lower ho0 (below_size (by repeat (first | (with_reducible first | exact HB.out | apply below_alloc | apply pw_below_drewN | apply below_drew1 | refine below_set ?_ (IsT79.ge HI483.out) | refine below_set ?_ GE477.out) | exact HB.out)))); have n1_ := Aside0.mk (blk_below (g := gb477) (o := .cells #[.slice none 0 0, .int .i64 0, .bool false] 26 (0, 0)) (kq BK477) hb); have n2_ := Aside0.mk (IsT79.below (by repeat (first | (with_reducible first | exact HI483.out | apply IsT79.alloc | apply IsT79.drewN | apply IsT79.drew | apply IsT79.set_3) | exact HI483.out)) hb); have n3_ := Aside0.mk (below_step (by repeat (first | (with_reducible first | exact HB.out | apply below_alloc | apply pw_below_drewN | apply below_drew1 | refine below_set ?_ (IsT79.ge HI483.out) | refine below_set ?_ GE477.out) | exact HB.out)) hb); clear BK477; clear HI483; clear HB; have HO486 := n0_; have BK477 := n1_; have HI483 := n2_; have HB := n3_; clear n0_ n1_ n2_ n3_; (try clear hb); (try clear hb2); (try clear hk); (try clear hi); (try clear ho0); obtain ⟨Ao42, co42, eo42⟩ := Kd.R_slice HO486.out; subst eo42) | ((with_reducible refine gate_callee (f := 30) rfl ?_); refine goesL_ (some 30) rfl rfl Try.func30 (by kernel_rfl) rfl #[.pointer (some ⟨g483, 0, none⟩), .slice Ao42 t484.length co42, .int .i64 a2] rfl (by (try simp only [List.map_toArray, List.map_cons, List.map_nil]); first | done | rfl | (simp only [List.length_drop, List.length_take]; rfl)) ?_; (with_reducible refine (optimal_paragraph_best.callsT k g483 t479 t480 t481 t482 _ _ t484 a2 t487 t490 w _ ?side1 ?side2 ?side3 ?side4 ?side5 A8.out).mono ?_); (case side1 => repeat (first | (with_reducible first | exact HI483.out | apply IsT79.alloc | apply IsT79.drewN | apply IsT79.drew | apply IsT79.set_3) | exact HI483.out)); (case side2 => repeat (first | (with_reducible first | exact HB.out | apply below_alloc | apply pw_below_drewN | apply below_drew1 | refine below_set ?_ (IsT79.ge HI483.out) | refine below_set ?_ GE477.out) | exact HB.out)); (case side3 => repeat (first | exact (Kd.R_reads' HO486.out).2.2 | (with_reducible refine Kd.C_alloc ?_ _) | (with_reducible refine Kd.C_drewN ?_ _) | (with_reducible refine Kd.C_drew ?_))); (case side4 => exact (Kd.R_reads' HO486.out).2.1); (case side5 => exact far_slice (IsT79.own_ne HI483.out HO486.out (by decide))); rintro e w43 ⟨v488, rfl, ho0, hi, hb, hk⟩; refine ⟨_, rfl, ?_⟩; have n0_ := Aside0.mk (KeepBut.blk hk (g' := gb477) (o := .cells #[.slice none 0 0, .int .i64 0, .bool false] 26 (0, 0)) (kq BK477) NB477_483.out (by simp)); have n1_ := Aside0.mk (Kd.R_mono (Kd.R_keep (IsT79.apart (show IsT79 w _ g483 t479 t480 t481 t482 from by repeat (first | (with_reducible first | exact HI483.out | apply IsT79.alloc | apply IsT79.drewN | apply IsT79.drew | apply IsT79.set_3) | exact HI483.out)) (by (with_reducible repeat (first | apply Kd.R_alloc | apply Kd.R_drewN | apply Kd.R_drew)); exact HO486.out) (by decide)) hk (fun _ h => h.2)) (fun _ h => h.1)); have n2_ := Aside0.mk (Kd.R_lower ho0 (below_size (by repeat (first | (with_reducible first | exact HB.out | apply below_alloc | apply pw_below_drewN | apply below_drew1 | refine below_set ?_ (IsT79.ge HI483.out) | refine below_set ?_ GE477.out) | exact HB.out)))); have n3_ := Aside0.mk (hb); have n4_ := Aside0.mk (hi); clear BK477; clear HO486; clear HB; clear HI483; have BK477 := n0_; have HO486 := n1_; have HO489 := n2_; have HB := n3_; have HI483 := n4_; clear n0_ n1_ n2_ n3_ n4_; (try clear hb); (try clear hb2); (try clear hk); (try clear hi); (try clear ho0); obtain ⟨Ao44, co44, eo44⟩ := Kd.R_slice HO489.out; subst eo44; have p491 : 0 ≤ (0 : Int) := (by omega); have q491 : 0 < (t487.length : Int) := odt; obtain ⟨ad491, e491, hx491_0, hx491_1, hx491_2⟩ := at_T59 (Kd.R_reads' HO489.out).2.2 0 p491 q491; (try rw [← Nbq10.out] at hx491_2); cases e491; have qi491 : (0 < t487.length) = True := eq_true (by omega); (try rw [show ((0 : Int)).toNat = 0 from rfl] at hx491_0); (try rw [show 0 * 3 = 0 from rfl] at hx491_0); (try rw [Addr.add_zero'] at hx491_0); (try rw [show ((0 : Int)).toNat = 0 from rfl] at hx491_1); (try rw [show 0 * 3 = 0 from rfl] at hx491_1); (try rw [Addr.add_zero'] at hx491_1); (try rw [show ((0 : Int)).toNat = 0 from rfl] at hx491_2); (try rw [show 0 * 3 = 0 from rfl] at hx491_2); (try rw [Addr.add_zero'] at hx491_2); replace p491 := eq_true p491; replace q491 := eq_true q491) | ((with_reducible refine gate_callee (f := 31) rfl ?_); refine goesL_ (some 38) rfl rfl Try.func31 (by kernel_rfl) rfl #[.pointer (some ⟨g483, 0, none⟩), .slice Ao42 t484.length co42] rfl (by (try simp only [List.map_toArray, List.map_cons, List.map_nil]); first | done | rfl | (simp only [List.length_drop, List.length_take]; rfl)) ?_; (with_reducible refine (optimal_paragraph_emergency.callsT k g483 t479 t480 t481 t490 _ _ t484 t492 t495 w _ ?side1 ?side2 ?side3 ?side4 ?side5 A37.out).mono ?_); (case side1 => repeat (first | (with_reducible first | exact HI483.out | apply IsT79.alloc | apply IsT79.drewN | apply IsT79.drew | apply IsT79.set_3) | exact HI483.out)); (case side2 => repeat (first | (with_reducible first | exact HB.out | apply below_alloc | apply pw_below_drewN | apply below_drew1 | refine below_set ?_ (IsT79.ge HI483.out) | refine below_set ?_ GE477.out) | exact HB.out)); (case side3 => repeat (first | exact (Kd.R_reads' HO486.out).2.2 | (with_reducible refine Kd.C_alloc ?_ _) | (with_reducible refine Kd.C_drewN ?_ _) | (with_reducible refine Kd.C_drew ?_))); (case side4 => exact (Kd.R_reads' HO486.out).2.1); (case side5 => exact far_slice (IsT79.own_ne HI483.out HO486.out (by decide))); rintro e w45 ⟨v493, rfl, ho0, hi, hb, hk⟩; refine ⟨_, rfl, ?_⟩; have n0_ := Aside0.mk (KeepBut.blk hk (g' := gb477) (o := .cells #[.slice none 0 0, .int .i64 0, .bool false] 26 (0, 0)) (kq BK477) NB477_483.out (by simp)); have n1_ := Aside0.mk (Kd.R_mono (Kd.R_told (Kd.R_oldK (IsT79.apart (show IsT79 w _ g483 t479 t480 t481 t490 from by repeat (first | (with_reducible first | exact HI483.out | apply IsT79.alloc | apply IsT79.drewN | apply IsT79.drew | apply IsT79.set_3) | exact HI483.out)) (by (with_reducible repeat (first | apply Kd.R_alloc | apply Kd.R_drewN | apply Kd.R_drew)); exact HO486.out) (by decide)) hk) (Kd.R_base ho0)) (fun _ h_ => h_.1)); have n2_ := Aside0.mk (Kd.R_mono (Kd.R_keep (IsT79.apart (show IsT79 w _ g483 t479 t480 t481 t490 from by repeat (first | (with_reducible first | exact HI483.out | apply IsT79.alloc | apply IsT79.drewN | apply IsT79.drew | apply IsT79.set_3) | exact HI483.out)) (by (with_reducible repeat (first | apply Kd.R_alloc | apply Kd.R_drewN | apply Kd.R_drew)); exact HO489.out) (by decide)) hk (fun _ h => h.2)) (fun _ h => h.1)); have n3_ := Aside0.mk (Kd.R_lower (Kd.R_new' ho0 (Kd.R_lt (by (with_reducible repeat (first | apply Kd.R_alloc | apply Kd.R_drewN | apply Kd.R_drew)); exact HO486.out))) (below_size (by repeat (first | (with_reducible first | exact HB.out | apply below_alloc | apply pw_below_drewN | apply below_drew1 | refine below_set ?_ (IsT79.ge HI483.out) | refine below_set ?_ GE477.out) | exact HB.out)))); have n4_ := Aside0.mk (hb); have n5_ := Aside0.mk (hi); clear BK477; clear HO486; clear HO489; clear HB; clear HI483; have BK477 := n0_; have HO486 := n1_; have HO489 := n2_; have HO494 := n3_; have HB := n4_; have HI483 := n5_; clear n0_ n1_ n2_ n3_ n4_ n5_; (try clear hb); (try clear hb2); (try clear hk); (try clear hi); (try clear ho0); obtain ⟨Ao46, co46, eo46⟩ := Kd.R_slice HO494.out; subst eo46; have hnb47 := NB477_483.out; have hnc47 := NB483_477.out; have hcz48_0 : w45.cell? ⟨gb477, 0, none⟩ = some (.slice none 0 0) := (blk_cell BK477.out 0).trans rfl; have hcz48_1 : w45.cell? ⟨gb477, 1, none⟩ = some (.int .i64 0) := (blk_cell BK477.out 1).trans rfl; have hcz48_2 : w45.cell? ⟨gb477, 2, none⟩ = some (.bool false) := (blk_cell BK477.out 2).trans rfl; have hfz48_0 := blk_frozen BK477.out 0; have hfz48_1 := blk_frozen BK477.out 1; have hfz48_2 := blk_frozen BK477.out 2))
        refine bodyPost_ret (results_ct rfl _ _ gb477 26 #[.slice Ao46 t492.length co46, .int .i64 0, .bool true] (0, 0) _ rfl (by (with_reducible repeat (first | refine blk_drewN ?_ _ | refine blk_drew ?_ | refine blk_alloc ?_ _)); refine blk_put (cs := #[.slice Ao46 t492.length co46, .int .i64 0, .bool false]) ?_ 2 _ rfl; (with_reducible repeat (first | refine blk_drewN ?_ _ | refine blk_drew ?_ | refine blk_alloc ?_ _)); refine blk_put (cs := #[.slice Ao46 t492.length co46, .int .i64 0, .bool false]) ?_ 1 _ rfl; (with_reducible repeat (first | refine blk_drewN ?_ _ | refine blk_drew ?_ | refine blk_alloc ?_ _)); refine blk_put (cs := #[.slice none 0 0, .int .i64 0, .bool false]) ?_ 0 _ rfl; (with_reducible repeat (first | refine blk_drewN ?_ _ | refine blk_drew ?_ | refine blk_alloc ?_ _)); exact BK477.out) Try.underlying26 rfl (by kernel_rfl)) rfl ?_
        exact ⟨_, by first | rfl | (simp [errW_none, errW_some] <;> rfl) | (simp [*, errW_none, errW_some] <;> rfl), by (with_reducible repeat (first | apply Kd.R_alloc | apply Kd.R_drewN | apply Kd.R_drew)); exact Kd.R_mono (Kd.R_far (p := ⟨gb477, 2, none⟩) (Kd.R_far (p := ⟨gb477, 1, none⟩) (Kd.R_far (p := ⟨gb477, 0, none⟩) (Kd.R_types HO494.out BK477.out (by decide)) (fun _ hk => hk.2) (.slice Ao46 t492.length co46)) (fun _ hk => hk.2) (.int .i64 0)) (fun _ hk => hk.2) (.bool true)) (fun _ hk => trivial), by repeat (first | (with_reducible first | exact HB.out | apply below_alloc | apply pw_below_drewN | apply below_drew1 | refine below_set ?_ (IsT79.ge HI483.out) | refine below_set ?_ GE477.out) | exact HB.out)⟩
    · rw [if_neg c9] at H
      exact absurd H (by simp)
  · rw [if_neg c5] at H
    have c5b0 : (t478 == 0) = false := beq_eq_false_iff_ne.mpr c5
    have c5b1 : (t478 != 0) = true := bne_iff_ne.mpr c5
    simp only [Option.some.injEq, Prod.mk.injEq] at H
    obtain ⟨rfl, rfl, rfl, rfl⟩ := H
    go_enter Try.func13, Try.ntmps13
    go_wp2_with (first | ((with_reducible refine gate_dst (N := 6) rfl ?_); refine box_event ?hg (N := 6) ?hd (cs := #[.slice none 0 0, .int .i64 0, .bool false]) (t := 26) ?hr ?_; (case hd => rfl); (case hg => rfl); (case hr => first | (go_simp; done) | (go_simp; rfl)); intro gb477 hg w49 hbox hb; have n0_ := Aside0.mk (below_step (bq HB) hb); have n1_ := Aside0.mk (hbox); have n2_ := Aside0.mk ((by rw [hg]; exact (below_size (bq HB)) : w.heap.size ≤ gb477)); have n3_ := Aside0.mk ((by rw [hg]; exact (below_size (bq HB)) : w.heap.size ≤ gb477)); clear HB; have HB := n0_; have BK477 := n1_; have GW477 := n2_; have GE477 := n3_; clear n0_ n1_ n2_ n3_; clear hb hbox hg) | ((with_reducible refine gate_callee (f := 27) rfl ?_); refine goesL_ (some 17) rfl rfl Try.func27 (by kernel_rfl) rfl #[.slice A0 l0.length c0, .int .i64 a1, .int .i64 a2] rfl (by (try simp only [List.map_toArray, List.map_cons, List.map_nil]); first | done | rfl | (simp only [List.length_drop, List.length_take]; rfl)) ?_; (with_reducible refine (optimal_Check.calls k _ _ l0 a1 a2 t478 _ ?side1 ?side2 A4.out).mono ?_); (case side1 => repeat (first | exact (Kd.C_below HR0.out HB.out) | (with_reducible refine Kd.C_alloc ?_ _) | (with_reducible refine Kd.C_drewN ?_ _) | (with_reducible refine Kd.C_drew ?_))); (case side2 => exact HC0.out); rintro e w50 ⟨rfl, hb⟩; refine ⟨_, rfl, ?_⟩; have n0_ := Aside0.mk (blk_below (g := gb477) (o := .cells #[.slice none 0 0, .int .i64 0, .bool false] 26 (0, 0)) (kq BK477) hb); have n1_ := Aside0.mk (below_step (bs HB GE477) hb); clear BK477; clear HB; have BK477 := n0_; have HB := n1_; clear n0_ n1_; (try clear hb); (try clear hb2); (try clear hk); (try clear hi); have hcz51_0 : w50.cell? ⟨gb477, 0, none⟩ = some (.slice none 0 0) := (blk_cell BK477.out 0).trans rfl; have hcz51_1 : w50.cell? ⟨gb477, 1, none⟩ = some (.int .i64 0) := (blk_cell BK477.out 1).trans rfl; have hcz51_2 : w50.cell? ⟨gb477, 2, none⟩ = some (.bool false) := (blk_cell BK477.out 2).trans rfl; have hfz51_0 := blk_frozen BK477.out 0; have hfz51_1 := blk_frozen BK477.out 1; have hfz51_2 := blk_frozen BK477.out 2))
    refine bodyPost_ret (results_ct rfl _ _ gb477 26 #[.slice none 0 0, .int .i64 0, .bool false] (0, 0) _ rfl (by (with_reducible repeat (first | refine blk_drewN ?_ _ | refine blk_drew ?_ | refine blk_alloc ?_ _)); refine blk_put (cs := #[.slice none 0 0, .int .i64 0, .bool false]) ?_ 2 _ rfl; (with_reducible repeat (first | refine blk_drewN ?_ _ | refine blk_drew ?_ | refine blk_alloc ?_ _)); refine blk_put (cs := #[.slice none 0 0, .int .i64 0, .bool false]) ?_ 1 _ rfl; (with_reducible repeat (first | refine blk_drewN ?_ _ | refine blk_drew ?_ | refine blk_alloc ?_ _)); refine blk_put (cs := #[.slice none 0 0, .int .i64 0, .bool false]) ?_ 0 _ rfl; (with_reducible repeat (first | refine blk_drewN ?_ _ | refine blk_drew ?_ | refine blk_alloc ?_ _)); exact BK477.out) Try.underlying26 rfl (by kernel_rfl)) rfl ?_
    exact ⟨_, by first | rfl | (simp [errW_none, errW_some] <;> rfl) | (simp [*, errW_none, errW_some] <;> rfl), by first | exact Kd.R_nil _ _ _ _ _ | exact Kd.N_nil _ _ _ _ _ | exact Kd.V_nil _ _ _ _ _ | exact Kd.Q_nil _ _ _ _ _ | exact Kd.S_nil _ _ _ _ _, bs HB GE477⟩

end Go.Proofs.Ytfbanppdiglciaa.Y
