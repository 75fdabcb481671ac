-- written by a program of this session (wip/xprint.py) over the kit's print
import Derived.Test.YtmlkpadlafjfeaaPx0
namespace Go.Proofs.Ytmlkpadlafjfeaa.P
open Go.RowKit Go.Proofs.YtmlkpadlafjfeaaW.PrintWords Go.Proofs.YtmlkpadlafjfeaaW.PrintLast Go.Proofs.YtmlkpadlafjfeaaW.PrintMore
attribute [local go_sem] max2_int min2_int max_two min_two max_three min_three max_four min_four   -- for this text's walks alone
set_option linter.unusedVariables false
set_option linter.unusedSimpArgs false

/-! ### serifref06_Spots: function 19 -/
mutual
def serifref06_Spots.l0 : Nat → List (S35) → List (List (S40)) → Int → Int → Option ((List (S35)))
 | 0, _, _, _, _ => none
 | k + 1, x3, x9, x10, x11 => if x11 < x10 then (if 0 ≤ x11 then (if x11 < (x9.length : Int) then (serifref06_Spots.l1 k x3 x9 x10 x11 (rd_L2 x9 x11) ((rd_L2 x9 x11).length : Int) 0) else (none)) else (none)) else (some x3)
def serifref06_Spots.l1 : Nat → List (S35) → List (List (S40)) → Int → Int → List (S40) → Int → Int → Option ((List (S35)))
 | 0, _, _, _, _, _, _, _ => none
 | k + 1, x3, x9, x10, x11, x15, x16, x17 => if x17 < x16 then (if 0 ≤ x17 then (if x17 < (x15.length : Int) then (if x3.length < 8796093022208 then (serifref06_Spots.l1 k (x3 ++ [(⟨(rd_T40 x15 x17).f0, (rd_T40 x15 x17).f1⟩ : S35)]) x9 x10 x11 x15 x16 (wrap64 (x17 + 1))) else (none)) else (none)) else (none)) else (serifref06_Spots.l0 k x3 x9 x10 (wrap64 (x11 + 1)))
end
def serifref06_Spots.f (k : Nat) (l0 : List (List (S40))) : Option ((List (S35))) := serifref06_Spots.l0 k (([] : List (S35))) l0 (l0.length : Int) 0
theorem serifref06_Spots.mono_l : ∀ k, (∀ y0 y1 y2 y3, LeO (serifref06_Spots.l0 k y0 y1 y2 y3) (serifref06_Spots.l0 (k + 1) y0 y1 y2 y3)) ∧ (∀ y0 y1 y2 y3 y4 y5 y6, LeO (serifref06_Spots.l1 k y0 y1 y2 y3 y4 y5 y6) (serifref06_Spots.l1 (k + 1) y0 y1 y2 y3 y4 y5 y6))
 | 0 => ⟨fun _ _ _ _ r h => by simp [serifref06_Spots.l0] at h, fun _ _ _ _ _ _ _ r h => by simp [serifref06_Spots.l1] at h⟩
 | k + 1 => by
  obtain ⟨ih0, ih1⟩ := serifref06_Spots.mono_l k
  refine ⟨?_, ?_⟩
  ·intro y0 y1 y2 y3
   unfold serifref06_Spots.l0
   repeat' first
   | (with_reducible exact ih0 _ _ _ _)
   | (with_reducible exact ih1 _ _ _ _ _ _ _)
   | (with_reducible exact LeO.refl _)
   | (with_reducible exact LeO.none _)
   | (with_reducible refine LeO.ite ?_ ?_)
   | (with_reducible refine LeO.bind ?_ (fun _ => ?_))
   | exact ih0 _ _ _ _
   | exact ih1 _ _ _ _ _ _ _
   | exact LeO.none _
   | refine LeO.ite ?_ ?_
   | refine LeO.bind ?_ (fun _ => ?_)
  ·intro y0 y1 y2 y3 y4 y5 y6
   unfold serifref06_Spots.l1
   repeat' first
   | (with_reducible exact ih0 _ _ _ _)
   | (with_reducible exact ih1 _ _ _ _ _ _ _)
   | (with_reducible exact LeO.refl _)
   | (with_reducible exact LeO.none _)
   | (with_reducible refine LeO.ite ?_ ?_)
   | (with_reducible refine LeO.bind ?_ (fun _ => ?_))
   | exact ih0 _ _ _ _
   | exact ih1 _ _ _ _ _ _ _
   | exact LeO.none _
   | refine LeO.ite ?_ ?_
   | refine LeO.bind ?_ (fun _ => ?_)
theorem serifref06_Spots.mono : ∀ a0 k, LeO (serifref06_Spots.f k a0) (serifref06_Spots.f (k + 1) a0) := by
 intro a0 k
 obtain ⟨ih0, ih1⟩ := serifref06_Spots.mono_l k
 unfold serifref06_Spots.f
 repeat' first
   | (with_reducible exact ih0 _ _ _ _)
   | (with_reducible exact ih1 _ _ _ _ _ _ _)
   | (with_reducible exact LeO.refl _)
   | (with_reducible exact LeO.none _)
   | (with_reducible refine LeO.ite ?_ ?_)
   | (with_reducible refine LeO.bind ?_ (fun _ => ?_))
   | exact ih0 _ _ _ _
   | exact ih1 _ _ _ _ _ _ _
   | exact LeO.none _
   | refine LeO.ite ?_ ?_
   | refine LeO.bind ?_ (fun _ => ?_)
set_option maxHeartbeats 8000000 in
set_option maxRecDepth 100000 in
theorem serifref06_Spots.calls (k : Nat) (A0 : Option Addr) (c0 : Nat) (l0 : List (List (S40))) (r : List (S35)) (w : World) (hr0 : Kd.C (Kd.slice 40 k40) w A0 l0.length l0) (hc0 : l0.length ≤ c0) (h : serifref06_Spots.f k l0 = some r) :
  Calls Try.prog 19 #[.slice A0 l0.length c0] w fun e w' => ∃ v0_ : Value, e = .returned (v0_) ∧ Kd.R k35 35 w' w.heap.size (fun _ => True) v0_ r ∧ Below w.heap.size w w' := by
 have hu40 := Try.underlying40
 have hu35 := Try.underlying35
 have HR0 := Aside0.mk hr0
 have HC0 := Aside0.mk hc0
 clear hr0 hc0
 have HB := Aside0.mk (Below.refl w.heap.size w)
 have H : (serifref06_Spots.l0 k (([] : List (S35))) l0 (l0.length : Int) 0) = some r := h
 clear h
 obtain ⟨y480, hy480⟩ : ∃ y_ : List (S35), y_ = (([] : List (S35))) := ⟨_, rfl⟩
 replace H : (serifref06_Spots.l0 k y480 l0 (l0.length : Int) 0) = some r := by first | (rw [hy480]; with_reducible exact H) | (have H2_ := (Option.bind_some _ _).symm.trans H; rw [hy480]; with_reducible exact H2_) | (have H2_ := (Option.bind_some _ _).symm.trans H; with_reducible exact H2_) | with_reducible exact H | (rw [hy480]; exact H) | exact H
 have Ny480 := Aside0.mk hy480
 clear hy480
 have H' := Aside0.mk H
 clear H
 go_enter Try.func19, Try.ntmps19
 go_wp2_with (first | ((with_reducible refine gate_dst (N := 8) rfl ?_); refine Kd.R_lit k35 _ 35 ?hg (N := 8) ?hd (xs := ([] : List (S35))) (inner := []) (ok := fun _ => True) (okp := fun _ => True) ?hr ?hp (fun _ hk => hk) trivial (Below.refl _ _) (Nat.le_refl _) (by simp) ?_; (case hd => rfl); (case hg => rfl); (case hr => first | (go_simp; done) | (go_simp; rfl)); (case hp => exact (Reps.none _ _)); intro v481 w2 ho3 hb hg_ hnew_; clear hg_ hnew_; (first | rw [← Ny480.out] at ho3 | (simp only [Int.reduceToNat] at ho3; rw [← Ny480.out] at ho3)); have n0_ := Aside0.mk (Kd.R_lower ho3 (below_size (bq HB))); have n1_ := Aside0.mk (below_step (bq HB) hb); clear HB; have HO482 := n0_; have HB := n1_; clear n0_ n1_; clear hb ho3))
 go_loopg [3, 11] k (fun kq v3 v11 w' => ∃ (x3_1 : List (S35)) (x11_1 : Int), v11 = .int .i64 x11_1 ∧ Aside0 (serifref06_Spots.l0 kq x3_1 l0 (l0.length : Int) x11_1 = some r) ∧ Aside0 (kq ≤ k) ∧ Aside0 (Kd.R k35 35 w' w.heap.size (fun _ => True) v3 x3_1) ∧ Aside0 (Below w.heap.size w w'))
 case atStart => exact ⟨(y480), (0), (by first | rfl | (simp; done) | (simp [*]; done)), H', ⟨Nat.le_refl _⟩, ⟨by (with_reducible repeat (first | apply Kd.R_alloc | apply Kd.R_drewN | apply Kd.R_drew)); exact HO482.out⟩, ⟨bq HB⟩⟩
 case round =>
  clear H'
  try clear c1
  try clear p2
  obtain ⟨x3_1, x11_1, rfl, HA, HK1, HO_3, HB⟩ := hrel
  cases gk with
  | zero => exact absurd HA.out (by simp [serifref06_Spots.l0])
  | succ k1 =>
   have H := HA.out
   clear HA
   simp only [serifref06_Spots.l0] at H
   by_cases c4 : x11_1 < (l0.length : Int)
   ·rw [if_pos c4] at H
    have c4b0 : decide (x11_1 < (l0.length : Int)) = true := decide_eq_true c4
    clear c4
    by_cases c5 : 0 ≤ x11_1
    ·rw [if_pos c5] at H
     have c5b0 : decide (0 ≤ x11_1) = true := decide_eq_true c5
     clear c5
     by_cases c6 : x11_1 < (l0.length : Int)
     ·rw [if_pos c6] at H
      have c6b0 : decide (x11_1 < (l0.length : Int)) = true := decide_eq_true c6
      clear c6
      have H' := Aside0.mk H
      clear H
      have p483 : 0 ≤ (x11_1 : Int) := odt
      have q483 : x11_1 < (l0.length : Int) := odt
      obtain ⟨ad483, A483_0, c483_0, e483, hx483_0, hl483_0, hi483_0⟩ := at_L2 HR0.out x11_1 p483 q483
      cases e483
      replace hx483_0 := (HB.out.cell (World.block_lt_of_cell? w _ hx483_0)).trans hx483_0
      have HR483_0 := Aside0.mk hi483_0
      have HC483_0 := Aside0.mk hl483_0
      clear hi483_0 hl483_0
      replace p483 := eq_true p483
      replace q483 := eq_true q483
      go_wp2
      go_loopg [3, 17] k1 (fun kq v3 v17 w' => ∃ (x3_2 : List (S35)) (x17_2 : Int), v17 = .int .i64 x17_2 ∧ Aside0 (serifref06_Spots.l1 kq x3_2 l0 (l0.length : Int) x11_1 (rd_L2 l0 x11_1) ((rd_L2 l0 x11_1).length : Int) x17_2 = some r) ∧ Aside0 (kq ≤ k1) ∧ Aside0 (Kd.R k35 35 w' w.heap.size (fun _ => True) v3 x3_2) ∧ Aside0 (Below w.heap.size w w'))
      case atStart => exact ⟨(x3_1), (0), (by first | rfl | (simp; done) | (simp [*]; done)), H', ⟨Nat.le_refl _⟩, ⟨by (with_reducible repeat (first | apply Kd.R_alloc | apply Kd.R_drewN | apply Kd.R_drew)); exact HO_3.out⟩, ⟨bq HB⟩⟩
      case round =>
       clear H'
       try clear c1
       try clear p2
       try clear c4
       try clear c4b0
       try clear p4
       try clear q4
       try clear hx4
       try clear c5
       try clear c5b0
       try clear c6
       try clear c6b0
       try clear hx483_0
       try clear p2
       try clear p483
       try clear q483
       obtain ⟨x3_2, x17_2, rfl, HA, HK2, HO_3, HB⟩ := hrel
       cases gk with
       | zero => exact absurd HA.out (by simp [serifref06_Spots.l1])
       | succ k2 =>
        have H := HA.out
        clear HA
        simp only [serifref06_Spots.l1] at H
        by_cases c7 : x17_2 < ((rd_L2 l0 x11_1).length : Int)
        ·rw [if_pos c7] at H
         have c7b0 : decide (x17_2 < ((rd_L2 l0 x11_1).length : Int)) = true := decide_eq_true c7
         clear c7
         by_cases c8 : 0 ≤ x17_2
         ·rw [if_pos c8] at H
          have c8b0 : decide (0 ≤ x17_2) = true := decide_eq_true c8
          clear c8
          by_cases c9 : x17_2 < ((rd_L2 l0 x11_1).length : Int)
          ·rw [if_pos c9] at H
           have c9b0 : decide (x17_2 < ((rd_L2 l0 x11_1).length : Int)) = true := decide_eq_true c9
           clear c9
           by_cases c10 : x3_2.length < 8796093022208
           ·rw [if_pos c10] at H
            have LMc10 := Aside0.mk c10
            clear c10
            obtain ⟨y486, hy486⟩ : ∃ y_ : List (S35), y_ = (x3_2 ++ [(⟨(rd_T40 (rd_L2 l0 x11_1) x17_2).f0, (rd_T40 (rd_L2 l0 x11_1) x17_2).f1⟩ : S35)]) := ⟨_, rfl⟩
            replace H : (serifref06_Spots.l1 k2 y486 l0 (l0.length : Int) x11_1 (rd_L2 l0 x11_1) ((rd_L2 l0 x11_1).length : Int) (wrap64 (x17_2 + 1))) = some r := by first | (rw [hy486]; with_reducible exact H) | (have H2_ := (Option.bind_some _ _).symm.trans H; rw [hy486]; with_reducible exact H2_) | (have H2_ := (Option.bind_some _ _).symm.trans H; with_reducible exact H2_) | with_reducible exact H | (rw [hy486]; exact H) | exact H
            have Ny486 := Aside0.mk hy486
            clear hy486
            have H' := Aside0.mk H
            clear H
            have p484 : 0 ≤ (x17_2 : Int) := odt
            have q484 : x17_2 < ((rd_L2 l0 x11_1).length : Int) := odt
            obtain ⟨ad484, e484, hx484_0, hx484_1, hx484_2⟩ := at_T40 HR483_0.out x17_2 p484 q484
            cases e484
            replace hx484_0 := (HB.out.cell (World.block_lt_of_cell? w _ hx484_0)).trans hx484_0
            replace hx484_1 := (HB.out.cell (World.block_lt_of_cell? w _ hx484_1)).trans hx484_1
            replace hx484_2 := (HB.out.cell (World.block_lt_of_cell? w _ hx484_2)).trans hx484_2
            replace p484 := eq_true p484
            replace q484 := eq_true q484
            go_wp2_with (first | ((with_reducible refine gate_dst (N := 7) rfl ?_); refine box_event ?hg (N := 7) ?hd (cs := #[.int .i64 0, .int .i64 0, .int .i64 0]) (t := 40) ?hr ?_; (case hd => rfl); (case hg => rfl); (case hr => first | (go_simp; done) | (go_simp; rfl)); intro gb485 hg w11 hbox hb; have n0_ := Aside0.mk (Kd.R_below (rq HO_3) hb); have n1_ := Aside0.mk (below_step (bq HB) hb); have n2_ := Aside0.mk (hbox); have n3_ := Aside0.mk ((by rw [hg]; exact (below_size (bq HB)) : w.heap.size ≤ gb485)); have n4_ := Aside0.mk ((by rw [hg]; exact (below_size (bq HB)) : w.heap.size ≤ gb485)); clear HO_3; clear HB; have HO_3 := n0_; have HB := n1_; have BK485 := n2_; have GW485 := n3_; have GE485 := n4_; clear n0_ n1_ n2_ n3_ n4_; clear hb hbox hg; have hcz12_0 : w11.cell? ⟨gb485, 0, none⟩ = some (.int .i64 0) := (blk_cell BK485.out 0).trans rfl; have hcz12_1 : w11.cell? ⟨gb485, 1, none⟩ = some (.int .i64 0) := (blk_cell BK485.out 1).trans rfl; have hcz12_2 : w11.cell? ⟨gb485, 2, none⟩ = some (.int .i64 0) := (blk_cell BK485.out 2).trans rfl; have hfz12_0 := blk_frozen BK485.out 0; have hfz12_1 := blk_frozen BK485.out 1; have hfz12_2 := blk_frozen BK485.out 2) | ((with_reducible refine gate_builtin (b := .append) (xs := #[.tmp 21, .tmp 27]) rfl ?_); at_builtin; refine Kd.R_append k35 (w0 := w) w.heap.size rfl (.tmp 21) (.tmp 27) 33 35 (.agg #[(.int .i64 0), (.int .i64 0)]) 16 rfl Try.underlying33 info35 rfl (by decide) (by omega) u3 x3_2 (⟨(rd_T40 (rd_L2 l0 x11_1) x17_2).f0, (rd_T40 (rd_L2 l0 x11_1) x17_2).f1⟩ : S35) [.int .i64 ((rd_T40 (rd_L2 l0 x11_1) x17_2).f0), .int .i64 ((rd_T40 (rd_L2 l0 x11_1) x17_2).f1)] (fun _ => True) (fun _ => False) rfl (by first | (go_simp; done) | (go_simp; rfl)) ?aP (fun _ hk => hk.elim) ?aF ?aO ?aB ?aS ?aL ?_; (case aP => exact k35_mkM _ _ _ (⟨(rd_T40 (rd_L2 l0 x11_1) x17_2).f0, (rd_T40 (rd_L2 l0 x11_1) x17_2).f1⟩ : S35)); (case aB => exact (bs HB GE485)); (case aF => exact (fun _ _ => trivial)); (case aO => exact (by (with_reducible repeat (first | apply Kd.R_alloc | apply Kd.R_drewN | apply Kd.R_drew)); exact Kd.R_mono (Kd.R_far (p := ⟨gb485, 2, none⟩) (Kd.R_far (p := ⟨gb485, 1, none⟩) (Kd.R_far (p := ⟨gb485, 0, none⟩) (Kd.R_types HO_3.out BK485.out (by decide)) (fun _ hk => hk.2) (.int .i64 ((rd_T40 (rd_L2 l0 x11_1) x17_2).f0))) (fun _ hk => hk.2) (.int .i64 ((rd_T40 (rd_L2 l0 x11_1) x17_2).f1))) (fun _ hk => hk.2) (.int .i64 ((rd_T40 (rd_L2 l0 x11_1) x17_2).f2))) (fun _ hk => trivial))); (case aS => exact (below_size (bs HB GE485))); (case aL => have := LMc10.out; omega); intro v487 w13 ho hb hg hat; rw [← Ny486.out] at ho; have n0_ := Aside0.mk (blk_grown (g := gb485) (o := .cells #[.int .i64 ((rd_T40 (rd_L2 l0 x11_1) x17_2).f0), .int .i64 ((rd_T40 (rd_L2 l0 x11_1) x17_2).f1), .int .i64 ((rd_T40 (rd_L2 l0 x11_1) x17_2).f2)] 40 (0, 0)) (by (with_reducible repeat (first | refine blk_drewN ?_ _ | refine blk_drew ?_ | refine blk_alloc ?_ _)); refine blk_put (cs := #[.int .i64 ((rd_T40 (rd_L2 l0 x11_1) x17_2).f0), .int .i64 ((rd_T40 (rd_L2 l0 x11_1) x17_2).f1), .int .i64 0]) ?_ 2 _ rfl; (with_reducible repeat (first | refine blk_drewN ?_ _ | refine blk_drew ?_ | refine blk_alloc ?_ _)); refine blk_put (cs := #[.int .i64 ((rd_T40 (rd_L2 l0 x11_1) x17_2).f0), .int .i64 0, .int .i64 0]) ?_ 1 _ rfl; (with_reducible repeat (first | refine blk_drewN ?_ _ | refine blk_drew ?_ | refine blk_alloc ?_ _)); refine blk_put (cs := #[.int .i64 0, .int .i64 0, .int .i64 0]) ?_ 0 _ rfl; (with_reducible repeat (first | refine blk_drewN ?_ _ | refine blk_drew ?_ | refine blk_alloc ?_ _)); exact BK485.out) hg (Kd.R_ne HO_3.out BK485.out (by decide))); have n1_ := Aside0.mk (hb); have n2_ := Aside0.mk (ho); clear BK485; clear HB; clear HO_3; have BK485 := n0_; have HB := n1_; have HO488 := n2_; clear n0_ n1_ n2_; clear ho hb hg hat))
            go_roundg k2
            case measure => have := HK1.out; have := HK2.out; omega
            case rel => exact ⟨(y486), (wrap64 (x17_2 + 1)), (by first | rfl | (simp; done) | (simp [*]; done)), H', ⟨by have := HK1.out; have := HK2.out; omega⟩, ⟨by (with_reducible repeat (first | apply Kd.R_alloc | apply Kd.R_drewN | apply Kd.R_drew)); exact HO488.out⟩, ⟨bs HB GE485⟩⟩
           ·rw [if_neg c10] at H
            exact absurd H (by simp)
          ·rw [if_neg c9] at H
           exact absurd H (by simp)
         ·rw [if_neg c8] at H
          exact absurd H (by simp)
        ·rw [if_neg c7] at H
         have c7b0 : decide (x17_2 < ((rd_L2 l0 x11_1).length : Int)) = false := decide_eq_false c7
         clear c7
         have H' := Aside0.mk H
         clear H
         go_wp2
         go_roundg k2
         case measure => have := HK1.out; have := HK2.out; omega
         case rel => exact ⟨(x3_2), (wrap64 (x11_1 + 1)), (by first | rfl | (simp; done) | (simp [*]; done)), H', ⟨by have := HK1.out; have := HK2.out; omega⟩, ⟨by (with_reducible repeat (first | apply Kd.R_alloc | apply Kd.R_drewN | apply Kd.R_drew)); exact HO_3.out⟩, ⟨bq HB⟩⟩
     ·rw [if_neg c6] at H
      exact absurd H (by simp)
    ·rw [if_neg c5] at H
     exact absurd H (by simp)
   ·rw [if_neg c4] at H
    have c4b0 : decide (x11_1 < (l0.length : Int)) = false := decide_eq_false c4
    clear c4
    obtain rfl := Option.some.inj H
    go_wp2
    go_ret
    exact ⟨_, by first | rfl | (simp [errW_none, errW_some] <;> rfl) | (simp [*, errW_none, errW_some] <;> rfl), by (with_reducible repeat (first | apply Kd.R_alloc | apply Kd.R_drewN | apply Kd.R_drew)); exact HO_3.out, bq HB⟩

end Go.Proofs.Ytmlkpadlafjfeaa.P
