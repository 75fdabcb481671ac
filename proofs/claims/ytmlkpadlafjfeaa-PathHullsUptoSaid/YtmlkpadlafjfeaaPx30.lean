-- written by a program of this session (wip/xprint.py) over the kit's print
import Derived.Test.YtmlkpadlafjfeaaPx0
namespace Go.Proofs.Ytmlkpadlafjfeaa.P
open Go.RowKit Go.Proofs.YtmlkpadlafjfeaaW.PrintWords Go.Proofs.YtmlkpadlafjfeaaW.PrintLast Go.Proofs.YtmlkpadlafjfeaaW.PrintMore
attribute [local go_sem] max2_int min2_int max_two min_two max_three min_three max_four min_four   -- for this text's walks alone
set_option linter.unusedVariables false
set_option linter.unusedSimpArgs false

/-! ### serifref06_Copy: function 11 -/
def serifref06_Copy.l0 : Nat → List (List (S40)) → List (List (S40)) → Int → Int → Option ((List (List (S40))))
 | 0, _, _, _, _ => none
 | k + 1, x3, x8, x9, x10 => if x10 < x9 then (if 0 ≤ x10 then (if x10 < (x8.length : Int) then ((some (([] : List (S40)) : List (S40))).bind fun y230 => (if y230.length + (rd_L2 x8 x10).length < 5864062014805 then (if x3.length < 5864062014805 then (serifref06_Copy.l0 k (x3 ++ [(y230 ++ (rd_L2 x8 x10))]) x8 x9 (wrap64 (x10 + 1))) else (none)) else (none))) else (none)) else (none)) else (some x3)
def serifref06_Copy.f (k : Nat) (l0 : List (List (S40))) : Option ((List (List (S40)))) := serifref06_Copy.l0 k (([] : List (List (S40)))) l0 (l0.length : Int) 0
theorem serifref06_Copy.mono_l : ∀ k, (∀ y0 y1 y2 y3, LeO (serifref06_Copy.l0 k y0 y1 y2 y3) (serifref06_Copy.l0 (k + 1) y0 y1 y2 y3))
 | 0 => fun _ _ _ _ r h => by simp [serifref06_Copy.l0] at h
 | k + 1 => by
  have ih0 := serifref06_Copy.mono_l k
  ·intro y0 y1 y2 y3
   unfold serifref06_Copy.l0
   repeat' first
   | (with_reducible exact ih0 _ _ _ _)
   | (with_reducible exact LeO.refl _)
   | (with_reducible exact LeO.none _)
   | (with_reducible refine LeO.ite ?_ ?_)
   | (with_reducible refine LeO.bind ?_ (fun _ => ?_))
   | exact ih0 _ _ _ _
   | exact LeO.none _
   | refine LeO.ite ?_ ?_
   | refine LeO.bind ?_ (fun _ => ?_)
theorem serifref06_Copy.mono : ∀ a0 k, LeO (serifref06_Copy.f k a0) (serifref06_Copy.f (k + 1) a0) := by
 intro a0 k
 have ih0 := serifref06_Copy.mono_l k
 unfold serifref06_Copy.f
 repeat' first
   | (with_reducible exact ih0 _ _ _ _)
   | (with_reducible exact LeO.refl _)
   | (with_reducible exact LeO.none _)
   | (with_reducible refine LeO.ite ?_ ?_)
   | (with_reducible refine LeO.bind ?_ (fun _ => ?_))
   | exact ih0 _ _ _ _
   | exact LeO.none _
   | refine LeO.ite ?_ ?_
   | refine LeO.bind ?_ (fun _ => ?_)
set_option maxHeartbeats 8000000 in
set_option maxRecDepth 100000 in
theorem serifref06_Copy.calls (k : Nat) (A0 : Option Addr) (c0 : Nat) (l0 : List (List (S40))) (r : List (List (S40))) (w : World) (hr0 : Kd.C (Kd.slice 40 k40) w A0 l0.length l0) (hc0 : l0.length ≤ c0) (h : serifref06_Copy.f k l0 = some r) :
  Calls Try.prog 11 #[.slice A0 l0.length c0] w fun e w' => ∃ v0_ : Value, e = .returned (v0_) ∧ Kd.S (Kd.slice 40 k40) 37 w' w.heap.size (fun _ => True) v0_ r ∧ Below w.heap.size w w' := by
 have HR0 := Aside0.mk hr0
 have HC0 := Aside0.mk hc0
 clear hr0 hc0
 have HB := Aside0.mk (Below.refl w.heap.size w)
 have H : (serifref06_Copy.l0 k (([] : List (List (S40)))) l0 (l0.length : Int) 0) = some r := h
 clear h
 obtain ⟨y226, hy226⟩ : ∃ y_ : List (List (S40)), y_ = (([] : List (List (S40)))) := ⟨_, rfl⟩
 replace H : (serifref06_Copy.l0 k y226 l0 (l0.length : Int) 0) = some r := by first | (rw [hy226]; with_reducible exact H) | (have H2_ := (Option.bind_some _ _).symm.trans H; rw [hy226]; with_reducible exact H2_) | (have H2_ := (Option.bind_some _ _).symm.trans H; with_reducible exact H2_) | with_reducible exact H | (rw [hy226]; exact H) | exact H
 have Ny226 := Aside0.mk hy226
 clear hy226
 have H' := Aside0.mk H
 clear H
 go_enter Try.func11, Try.ntmps11
 go_wp2_with (first | ((with_reducible refine gate_dst (N := 7) rfl ?_); refine Kd.S_lit (Kd.slice 40 k40) _ 37 ?hg (N := 7) ?hd (xs := ([] : List (List (S40)))) (inner := []) (ok := fun _ => True) (okp := fun _ => True) ?hr ?hp (fun _ hk => hk) trivial (Below.refl _ _) (Nat.le_refl _) (by simp) ?_; (case hd => rfl); (case hg => rfl); (case hr => first | (go_simp; done) | (go_simp; rfl)); (case hp => exact (Reps.none _ _)); intro v227 w2 ho3 hb hg_ hnew_; clear hg_ hnew_; (first | rw [← Ny226.out] at ho3 | (simp only [Int.reduceToNat] at ho3; rw [← Ny226.out] at ho3)); have n0_ := Aside0.mk (Kd.S_lower ho3 (below_size (bq HB))); have n1_ := Aside0.mk (below_step (bq HB) hb); clear HB; have HO228 := n0_; have HB := n1_; clear n0_ n1_; clear hb ho3))
 go_loopg [3, 10] k (fun kq v3 v10 w' => ∃ (x3_1 : List (List (S40))) (x10_1 : Int), v10 = .int .i64 x10_1 ∧ Aside0 (serifref06_Copy.l0 kq x3_1 l0 (l0.length : Int) x10_1 = some r) ∧ Aside0 (kq ≤ k) ∧ Aside0 (Kd.S (Kd.slice 40 k40) 37 w' w.heap.size (fun _ => True) v3 x3_1) ∧ Aside0 (Below w.heap.size w w'))
 case atStart => exact ⟨(y226), (0), (by first | rfl | (simp; done) | (simp [*]; done)), H', ⟨Nat.le_refl _⟩, ⟨by (with_reducible repeat (first | apply Kd.S_alloc | apply Kd.S_drewN | apply Kd.S_drew)); exact HO228.out⟩, ⟨bq HB⟩⟩
 case round =>
  clear H'
  try clear c1
  try clear p2
  obtain ⟨x3_1, x10_1, rfl, HA, HK1, HO_3, HB⟩ := hrel
  cases gk with
  | zero => exact absurd HA.out (by simp [serifref06_Copy.l0])
  | succ k1 =>
   have H := HA.out
   clear HA
   simp only [serifref06_Copy.l0] at H
   by_cases c4 : x10_1 < (l0.length : Int)
   ·rw [if_pos c4] at H
    have c4b0 : decide (x10_1 < (l0.length : Int)) = true := decide_eq_true c4
    clear c4
    by_cases c5 : 0 ≤ x10_1
    ·rw [if_pos c5] at H
     have c5b0 : decide (0 ≤ x10_1) = true := decide_eq_true c5
     clear c5
     by_cases c6 : x10_1 < (l0.length : Int)
     ·rw [if_pos c6] at H
      have c6b0 : decide (x10_1 < (l0.length : Int)) = true := decide_eq_true c6
      clear c6
      obtain ⟨y230, hy230⟩ : ∃ y_ : List (S40), y_ = (([] : List (S40))) := ⟨_, rfl⟩
      replace H : (if y230.length + (rd_L2 l0 x10_1).length < 5864062014805 then (if x3_1.length < 5864062014805 then (serifref06_Copy.l0 k1 (x3_1 ++ [(y230 ++ (rd_L2 l0 x10_1))]) l0 (l0.length : Int) (wrap64 (x10_1 + 1))) else (none)) else (none)) = some r := by first | (rw [hy230]; with_reducible exact H) | (have H2_ := (Option.bind_some _ _).symm.trans H; rw [hy230]; with_reducible exact H2_) | (have H2_ := (Option.bind_some _ _).symm.trans H; with_reducible exact H2_) | with_reducible exact H | (rw [hy230]; exact H) | exact H
      have Ny230 := Aside0.mk hy230
      clear hy230
      by_cases c7 : y230.length + (rd_L2 l0 x10_1).length < 5864062014805
      ·rw [if_pos c7] at H
       have LMc7 := Aside0.mk c7
       clear c7
       obtain ⟨y233, hy233⟩ : ∃ y_ : List (S40), y_ = (y230 ++ (rd_L2 l0 x10_1)) := ⟨_, rfl⟩
       replace H : (if x3_1.length < 5864062014805 then (serifref06_Copy.l0 k1 (x3_1 ++ [y233]) l0 (l0.length : Int) (wrap64 (x10_1 + 1))) else (none)) = some r := by first | (rw [hy233]; with_reducible exact H) | (have H2_ := (Option.bind_some _ _).symm.trans H; rw [hy233]; with_reducible exact H2_) | (have H2_ := (Option.bind_some _ _).symm.trans H; with_reducible exact H2_) | with_reducible exact H | (rw [hy233]; exact H) | exact H
       have Ny233 := Aside0.mk hy233
       clear hy233
       by_cases c8 : x3_1.length < 5864062014805
       ·rw [if_pos c8] at H
        have LMc8 := Aside0.mk c8
        clear c8
        obtain ⟨y236, hy236⟩ : ∃ y_ : List (List (S40)), y_ = (x3_1 ++ [y233]) := ⟨_, rfl⟩
        replace H : (serifref06_Copy.l0 k1 y236 l0 (l0.length : Int) (wrap64 (x10_1 + 1))) = some r := by first | (rw [hy236]; with_reducible exact H) | (have H2_ := (Option.bind_some _ _).symm.trans H; rw [hy236]; with_reducible exact H2_) | (have H2_ := (Option.bind_some _ _).symm.trans H; with_reducible exact H2_) | with_reducible exact H | (rw [hy236]; exact H) | exact H
        have Ny236 := Aside0.mk hy236
        clear hy236
        have H' := Aside0.mk H
        clear H
        have p229 : 0 ≤ (x10_1 : Int) := odt
        have q229 : x10_1 < (l0.length : Int) := odt
        obtain ⟨ad229, A229_0, c229_0, e229, hx229_0, hl229_0, hi229_0⟩ := at_L2 HR0.out x10_1 p229 q229
        cases e229
        replace hx229_0 := (HB.out.cell (World.block_lt_of_cell? w _ hx229_0)).trans hx229_0
        have HR229_0 := Aside0.mk hi229_0
        have HC229_0 := Aside0.mk hl229_0
        clear hi229_0 hl229_0
        replace p229 := eq_true p229
        replace q229 := eq_true q229
        go_wp2_with (first | ((with_reducible refine gate_dst (N := 14) rfl ?_); refine Kd.R_lit k40 _ 40 ?hg (N := 14) ?hd (xs := ([] : List (S40))) (inner := []) (ok := fun _ => True) (okp := fun _ => True) ?hr ?hp (fun _ hk => hk) trivial (Below.refl _ _) (Nat.le_refl _) (by simp) ?_; (case hd => rfl); (case hg => rfl); (case hr => first | (go_simp; done) | (go_simp; rfl)); (case hp => exact (Reps.none _ _)); intro v231 w9 ho10 hb hg_ hnew_; clear hg_ hnew_; (first | rw [← Ny230.out] at ho10 | (simp only [Int.reduceToNat] at ho10; rw [← Ny230.out] at ho10)); have n0_ := Aside0.mk (Kd.S_elder' (by (with_reducible repeat (first | apply Kd.S_alloc | apply Kd.S_drewN | apply Kd.S_drew)); exact HO_3.out) (Kd.R_base ho10) hb); have n1_ := Aside0.mk (Kd.R_lower ho10 (below_size (bq HB))); have n2_ := Aside0.mk (below_step (bq HB) hb); clear HO_3; clear HB; have HO_3 := n0_; have HO232 := n1_; have HB := n2_; clear n0_ n1_ n2_; clear hb ho10) | ((with_reducible refine gate_builtin (b := .append) (xs := #[.tmp 16, .tmp 17]) rfl ?_); at_builtin; refine Kd.R_append_rows k40 (w0 := w) w.heap.size rfl (.tmp 16) (.tmp 17) 37 40 (.agg #[(.int .i64 0), (.int .i64 0), (.int .i64 0)]) 24 rfl Try.underlying37 info40 rfl (by decide) (by omega) v231 y230 (rd_L2 l0 x10_1) _ _ _ (fun _ => True) (fun _ => False) rfl rfl ?aO ?aR (fun _ _ h => h) (fun _ h => h.elim) ?aF ?aB ?aS ?aL ?_; (case aR => repeat (first | exact (Kd.C_below HR229_0.out HB.out) | (with_reducible refine Kd.C_alloc ?_ _) | (with_reducible refine Kd.C_drewN ?_ _) | (with_reducible refine Kd.C_drew ?_))); (case aB => exact (bq HB)); (case aF => exact (fun _ _ => trivial)); (case aO => exact (by (with_reducible repeat (first | apply Kd.R_alloc | apply Kd.R_drewN | apply Kd.R_drew)); exact HO232.out)); (case aS => exact (below_size (bq HB))); (case aL => have := LMc7.out; omega); intro v234 w11 ho hb hg hat; rw [← Ny233.out] at ho; have n0_ := Aside0.mk (Kd.S_after (ok := (fun _ => True)) (by (with_reducible repeat (first | apply Kd.S_alloc | apply Kd.S_drewN | apply Kd.S_drew)); exact HO_3.out) hg hat); have n1_ := Aside0.mk (hb); have n2_ := Aside0.mk (ho); clear HO_3; clear HB; clear HO232; have HO_3 := n0_; have HB := n1_; have HO235 := n2_; clear n0_ n1_ n2_; clear ho hb hg hat; obtain ⟨Ao13, co13, eo13⟩ := Kd.R_slice HO235.out; subst eo13) | ((with_reducible refine gate_builtin (b := .append) (xs := #[.tmp 15, .tmp 19]) rfl ?_); at_builtin; refine Kd.S_append (Kd.slice 40 k40) (w0 := w) w.heap.size rfl (.tmp 15) (.tmp 19) 23 37 (.slice none 0 0) 24 rfl Try.underlying23 info37 rfl (by decide) (by omega) u3 x3_1 y233 [.slice Ao13 y233.length co13] (fun _ => True) (fun k_ => some k_ = (.slice Ao13 y233.length co13 : Value).ownBlock) rfl rfl ?aP (fun k_ hk_ => ((Kd.R_mono (ok' := fun k_ => ((fun _ => True)) k_ ∧ some k_ ≠ (u3 : Value).ownBlock) (Kd.R_apart' (HO235.out) (Kd.S_typed HO_3.out) (by decide)) (fun k_ hk => ⟨trivial, hk.2⟩))).1 k_ hk_.symm) ?aF ?aO ?aB ?aS ?aL ?_; (case aP => exact Kd.M_row (Kd.R_mono (Kd.R_tight rfl (Kd.R_mono (ok' := fun k_ => ((fun _ => True)) k_ ∧ some k_ ≠ (u3 : Value).ownBlock) (Kd.R_apart' (HO235.out) (Kd.S_typed HO_3.out) (by decide)) (fun k_ hk => ⟨trivial, hk.2⟩))) (fun _ h_ => h_))); (case aB => exact (bq HB)); (case aF => exact (fun _ _ => trivial)); (case aO => exact (by (with_reducible repeat (first | apply Kd.S_alloc | apply Kd.S_drewN | apply Kd.S_drew)); exact Kd.S_mono HO_3.out (fun k_ hk => ⟨trivial, fun e_ => hk.2 e_⟩))); (case aS => exact (below_size (bq HB))); (case aL => have := LMc8.out; omega); intro v237 w12 ho hb hg hat; rw [← Ny236.out] at ho; have n0_ := Aside0.mk (hb); have n1_ := Aside0.mk (ho); clear HB; clear HO_3; clear HO235; have HB := n0_; have HO238 := n1_; clear n0_ n1_; clear ho hb hg hat))
        go_roundg k1
        case measure => have := HK1.out; omega
        case rel => exact ⟨(y236), (wrap64 (x10_1 + 1)), (by first | rfl | (simp; done) | (simp [*]; done)), H', ⟨by have := HK1.out; omega⟩, ⟨by (with_reducible repeat (first | apply Kd.S_alloc | apply Kd.S_drewN | apply Kd.S_drew)); exact HO238.out⟩, ⟨bq HB⟩⟩
       ·rw [if_neg c8] at H
        exact absurd H (by simp)
      ·rw [if_neg c7] at H
       exact absurd H (by simp)
     ·rw [if_neg c6] at H
      exact absurd H (by simp)
    ·rw [if_neg c5] at H
     exact absurd H (by simp)
   ·rw [if_neg c4] at H
    have c4b0 : decide (x10_1 < (l0.length : Int)) = false := decide_eq_false c4
    clear c4
    obtain rfl := Option.some.inj H
    go_wp2
    go_ret
    exact ⟨_, by first | rfl | (simp [errW_none, errW_some] <;> rfl) | (simp [*, errW_none, errW_some] <;> rfl), by (with_reducible repeat (first | apply Kd.S_alloc | apply Kd.S_drewN | apply Kd.S_drew)); exact HO_3.out, bq HB⟩

end Go.Proofs.Ytmlkpadlafjfeaa.P
