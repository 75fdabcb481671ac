import Derived.Test.YtmlkpadlafjfeaaPx90
import Derived.Test.YtmlkpadlafjfeaaPx31
import Derived.Test.YtmlkpadlafjfeaaPx60
namespace Go.Proofs.Ytmlkpadlafjfeaa.P
open Go.RowKit Go.Proofs.YtmlkpadlafjfeaaW.PrintWords Go.Proofs.YtmlkpadlafjfeaaW.PrintLast Go.Proofs.YtmlkpadlafjfeaaW.PrintMore
attribute [local go_sem] zH zK zU zT zB zC zJ zI
set_option linter.unusedVariables false
set_option linter.unusedSimpArgs false
mutual
def qQ.l0 : Nat → List (List (S40)) → List (List (S40)) → Int → Int → Int → Int → Int → Int → Int → Option ((List (List (S40))) × Int)
 | 0, _, _, _, _, _, _, _, _, _ => none
 | k + 1, x7, x21, x22, x23, x683000, x683001, x683002, x683003, x683004 => if x23 < x22 then (if 0 ≤ x23 then (if x23 < (x21.length : Int) then (qQ.l1 k x7 (([] : List (S40))) x21 x22 x23 (qp x21 x23) ((qp x21 x23).length : Int) 0 x683000 x683001 x683002 x683003 x683004) else (none)) else (none)) else (some (x7, 0))
def qQ.l1 : Nat → List (List (S40)) → List (S40) → List (List (S40)) → Int → Int → List (S40) → Int → Int → Int → Int → Int → Int → Int → Option ((List (List (S40))) × Int)
 | 0, _, _, _, _, _, _, _, _, _, _, _, _, _ => none
 | k + 1, x7, x10, x21, x22, x23, x28, x29, x30, x683000, x683001, x683002, x683003, x683004 => if x30 < x29 then (if 0 ≤ x30 then (if x30 < (x28.length : Int) then ((zz.f k ((ql x28 x30).f0) ((ql x28 x30).f1) ((ql x28 x30).f2) x683000 x683001 x683002 x683003 x683004).bind fun bt693 => (if bt693.2.2.2 = true then (if x10.length < 5864062014805 then (qQ.l1 k x7 (x10 ++ [(⟨bt693.1, bt693.2.1, bt693.2.2.1⟩ : S40)]) x21 x22 x23 x28 x29 (wrap64 (x30 + 1)) x683000 x683001 x683002 x683003 x683004) else (none)) else (some (([] : List (List (S40))), 64)))) else (none)) else (none)) else (if x7.length < 5864062014805 then (qQ.l0 k (x7 ++ [x10]) x21 x22 (wrap64 (x23 + 1)) x683000 x683001 x683002 x683003 x683004) else (none))
end
def qQ.f (k : Nat) (l0 : List (List (S40))) (a1_0 : Int) (a1_1 : Int) (a1_2 : Int) (a1_3 : Int) (a1_4 : Int) : Option ((List (List (S40))) × Int) := (qi.f k l0).bind fun t683 => (if t683 = 0 then (qQ.l0 k (([] : List (List (S40)))) l0 (l0.length : Int) 0 a1_0 a1_1 a1_2 a1_3 a1_4) else (some (([] : List (List (S40))), t683)))
theorem qQ.zW : ∀ k, (∀ y0 y1 y2 y3 y4 y5 y6 y7 y8, LeO (qQ.l0 k y0 y1 y2 y3 y4 y5 y6 y7 y8) (qQ.l0 (k + 1) y0 y1 y2 y3 y4 y5 y6 y7 y8)) ∧ (∀ y0 y1 y2 y3 y4 y5 y6 y7 y8 y9 y10 y11 y12, LeO (qQ.l1 k y0 y1 y2 y3 y4 y5 y6 y7 y8 y9 y10 y11 y12) (qQ.l1 (k + 1) y0 y1 y2 y3 y4 y5 y6 y7 y8 y9 y10 y11 y12))
 | 0 => ⟨fun _ _ _ _ _ _ _ _ _ r h => by simp [qQ.l0] at h, fun _ _ _ _ _ _ _ _ _ _ _ _ _ r h => by simp [qQ.l1] at h⟩
 | k + 1 => by
  obtain ⟨ih0, ih1⟩ := qQ.zW k
  refine ⟨?_, ?_⟩
  ·intro y0 y1 y2 y3 y4 y5 y6 y7 y8
   unfold qQ.l0
   repeat' first
   | (with_reducible exact ih0 _ _ _ _ _ _ _ _ _)
   | (with_reducible exact ih1 _ _ _ _ _ _ _ _ _ _ _ _ _)
   | (with_reducible exact qi.mono _ _)
   | (with_reducible exact zz.mono _ _ _ _ _ _ _ _ _)
   | (with_reducible exact LeO.refl _)
   | (with_reducible exact LeO.none _)
   | (with_reducible refine LeO.ite ?_ ?_)
   | (with_reducible refine LeO.bind ?_ (fun _ => ?_))
   | exact ih0 _ _ _ _ _ _ _ _ _
   | exact ih1 _ _ _ _ _ _ _ _ _ _ _ _ _
   | exact qi.mono _ _
   | exact zz.mono _ _ _ _ _ _ _ _ _
   | exact LeO.none _
   | refine LeO.ite ?_ ?_
   | refine LeO.bind ?_ (fun _ => ?_)
  ·intro y0 y1 y2 y3 y4 y5 y6 y7 y8 y9 y10 y11 y12
   unfold qQ.l1
   repeat' first
   | (with_reducible exact ih0 _ _ _ _ _ _ _ _ _)
   | (with_reducible exact ih1 _ _ _ _ _ _ _ _ _ _ _ _ _)
   | (with_reducible exact qi.mono _ _)
   | (with_reducible exact zz.mono _ _ _ _ _ _ _ _ _)
   | (with_reducible exact LeO.refl _)
   | (with_reducible exact LeO.none _)
   | (with_reducible refine LeO.ite ?_ ?_)
   | (with_reducible refine LeO.bind ?_ (fun _ => ?_))
   | exact ih0 _ _ _ _ _ _ _ _ _
   | exact ih1 _ _ _ _ _ _ _ _ _ _ _ _ _
   | exact qi.mono _ _
   | exact zz.mono _ _ _ _ _ _ _ _ _
   | exact LeO.none _
   | refine LeO.ite ?_ ?_
   | refine LeO.bind ?_ (fun _ => ?_)
theorem qQ.mono : ∀ a0 a1 a2 a3 a4 a5 k, LeO (qQ.f k a0 a1 a2 a3 a4 a5) (qQ.f (k + 1) a0 a1 a2 a3 a4 a5) := by
 intro a0 a1 a2 a3 a4 a5 k
 obtain ⟨ih0, ih1⟩ := qQ.zW k
 unfold qQ.f
 repeat' first
   | (with_reducible exact ih0 _ _ _ _ _ _ _ _ _)
   | (with_reducible exact ih1 _ _ _ _ _ _ _ _ _ _ _ _ _)
   | (with_reducible exact qi.mono _ _)
   | (with_reducible exact zz.mono _ _ _ _ _ _ _ _ _)
   | (with_reducible exact LeO.refl _)
   | (with_reducible exact LeO.none _)
   | (with_reducible refine LeO.ite ?_ ?_)
   | (with_reducible refine LeO.bind ?_ (fun _ => ?_))
   | exact ih0 _ _ _ _ _ _ _ _ _
   | exact ih1 _ _ _ _ _ _ _ _ _ _ _ _ _
   | exact qi.mono _ _
   | exact zz.mono _ _ _ _ _ _ _ _ _
   | exact LeO.none _
   | refine LeO.ite ?_ ?_
   | refine LeO.bind ?_ (fun _ => ?_)
set_option maxHeartbeats 8000000 in
set_option maxRecDepth 100000 in
theorem qQ.calls (k : Nat) (A0 : Option Addr) (c0 : Nat) (l0 : List (List (S40))) (a1_0 : Int) (a1_1 : Int) (a1_2 : Int) (a1_3 : Int) (a1_4 : Int) (r1 : List (List (S40))) (r2 : Int) (w : World) (hr0 : Kd.C (Kd.slice 40 k40) w A0 l0.length l0) (hc0 : l0.length ≤ c0) (h : qQ.f k l0 a1_0 a1_1 a1_2 a1_3 a1_4 = some (r1, r2)) :
  Calls Try.prog 22 #[.slice A0 l0.length c0, .agg #[.int .i64 a1_0, .int .i64 a1_1, .int .i64 a1_2, .int .i64 a1_3, .int .i64 a1_4]] w fun e w' => ∃ v0_ : Value, e = .returned (.tuple #[v0_, .int .i64 r2]) ∧ Kd.S (Kd.slice 40 k40) 37 w' w.heap.size (fun _ => True) v0_ r1 ∧ Below w.heap.size w w' := by
 have hu55 := Try.underlying55
 have hu40 := Try.underlying40
 have HR0 := qa.mk hr0
 have HC0 := qa.mk hc0
 clear hr0 hc0
 have HB := qa.mk (Below.refl w.heap.size w)
 have H : ((qi.f k l0).bind fun t683 => (if t683 = 0 then (qQ.l0 k (([] : List (List (S40)))) l0 (l0.length : Int) 0 a1_0 a1_1 a1_2 a1_3 a1_4) else (some (([] : List (List (S40))), t683)))) = some (r1, r2) := h
 clear h
 replace H := Option.bind_eq_some_iff.mp H
 obtain ⟨t683, A30, H⟩ := H
 replace H : (if t683 = 0 then (qQ.l0 k (([] : List (List (S40)))) l0 (l0.length : Int) 0 a1_0 a1_1 a1_2 a1_3 a1_4) else (some (([] : List (List (S40))), t683))) = some (r1, r2) := H
 have A3 := qa.mk A30
 clear A30
 by_cases c4 : t683 = 0
 case neg =>
  rw [if_neg c4] at H
  have c4b0 : (t683 == 0) = false := beq_eq_false_iff_ne.mpr c4
  have c4b1 : (t683 != 0) = true := bne_iff_ne.mpr c4
  simp only [Option.some.injEq, Prod.mk.injEq] at H
  obtain ⟨rfl, rfl⟩ := H
  go_enter Try.func22, Try.ntmps22
  go_wp2_with (first | ((with_reducible refine zl (N := 3) rfl ?_); refine zF ?hg (N := 3) ?hd (cs := #[.int .i64 a1_0, .int .i64 a1_1, .int .i64 a1_2, .int .i64 a1_3, .int .i64 a1_4]) (t := 55) ?hr ?_; (case hd => rfl); (case hg => rfl); (case hr => first | (go_simp; done) | (go_simp; rfl)); intro gb682 hg w42 hbox hb; have n0_ := qa.mk (qh (bq HB) hb); have n1_ := qa.mk (hbox); have n2_ := qa.mk ((by rw [hg]; exact (qx (bq HB)) : w.heap.size ≤ gb682)); have n3_ := qa.mk ((by rw [hg]; exact (qx (bq HB)) : w.heap.size ≤ gb682)); clear HB; have HB := n0_; have BK682 := n1_; have GW682 := n2_; have GE682 := n3_; clear n0_ n1_ n2_ n3_; clear hb hbox hg) | ((with_reducible refine zf (f := 17) rfl ?_); refine zR (some 16) rfl rfl Try.func17 (by kernel_rfl) rfl #[.slice A0 l0.length c0] rfl (by (try simp only [List.map_toArray, List.map_cons, List.map_nil]); first | done | rfl | (simp only [List.length_drop, List.length_take]; rfl)) ?_; (with_reducible refine (qi.calls k _ _ l0 t683 _ ?side1 ?side2 A3.out).mono ?_); (case side1 => repeat (first | exact (Kd.jb HR0.out HB.out) | (with_reducible refine Kd.jY ?_ _) | (with_reducible refine Kd.j6 ?_ _) | (with_reducible refine Kd.Qt ?_))); (case side2 => exact HC0.out); rintro e w43 ⟨rfl, hb⟩; refine ⟨_, rfl, ?_⟩; have n0_ := qa.mk (qF (g := gb682) (o := .cells #[.int .i64 a1_0, .int .i64 a1_1, .int .i64 a1_2, .int .i64 a1_3, .int .i64 a1_4] 55 (0, 0)) (kq BK682) hb); have n1_ := qa.mk (qh (bs HB GE682) hb); clear BK682; clear HB; have BK682 := n0_; have HB := n1_; clear n0_ n1_; (try clear hb); (try clear hb2); (try clear hk); (try clear hi)))
  go_ret2
  exact ⟨_, by first | rfl | (simp [qR, qU] <;> rfl) | (simp [*, qR, qU] <;> rfl), by first | exact Kd.Zl _ _ _ _ _ | exact Kd.N_nil _ _ _ _ _ | exact Kd.V_nil _ _ _ _ _ | exact Kd.Q_nil _ _ _ _ _ | exact Kd.QF _ _ _ _ _, bs HB GE682⟩
 rw [if_pos c4] at H
 have c4b0 : (t683 == 0) = true := beq_iff_eq.mpr c4
 have c4b1 : (t683 != 0) = false := bne_eq_false_iff_eq.mpr c4
 clear c4
 obtain ⟨y684, hy684⟩ : ∃ y_ : List (List (S40)), y_ = (([] : List (List (S40)))) := ⟨_, rfl⟩
 replace H : (qQ.l0 k y684 l0 (l0.length : Int) 0 a1_0 a1_1 a1_2 a1_3 a1_4) = some (r1, r2) := by first | (rw [hy684]; with_reducible exact H) | (have H2_ := (Option.bind_some _ _).symm.trans H; rw [hy684]; with_reducible exact H2_) | (have H2_ := (Option.bind_some _ _).symm.trans H; with_reducible exact H2_) | with_reducible exact H | (rw [hy684]; exact H) | exact H
 have Ny684 := qa.mk hy684
 clear hy684
 have H' := qa.mk H
 clear H
 go_enter Try.func22, Try.ntmps22
 go_wp2_with (first | ((with_reducible refine zl (N := 3) rfl ?_); refine zF ?hg (N := 3) ?hd (cs := #[.int .i64 a1_0, .int .i64 a1_1, .int .i64 a1_2, .int .i64 a1_3, .int .i64 a1_4]) (t := 55) ?hr ?_; (case hd => rfl); (case hg => rfl); (case hr => first | (go_simp; done) | (go_simp; rfl)); intro gb682 hg w5 hbox hb; have n0_ := qa.mk (qh (bq HB) hb); have n1_ := qa.mk (hbox); have n2_ := qa.mk ((by rw [hg]; exact (qx (bq HB)) : w.heap.size ≤ gb682)); have n3_ := qa.mk ((by rw [hg]; exact (qx (bq HB)) : w.heap.size ≤ gb682)); clear HB; have HB := n0_; have BK682 := n1_; have GW682 := n2_; have GE682 := n3_; clear n0_ n1_ n2_ n3_; clear hb hbox hg) | ((with_reducible refine zf (f := 17) rfl ?_); refine zR (some 16) rfl rfl Try.func17 (by kernel_rfl) rfl #[.slice A0 l0.length c0] rfl (by (try simp only [List.map_toArray, List.map_cons, List.map_nil]); first | done | rfl | (simp only [List.length_drop, List.length_take]; rfl)) ?_; (with_reducible refine (qi.calls k _ _ l0 t683 _ ?side1 ?side2 A3.out).mono ?_); (case side1 => repeat (first | exact (Kd.jb HR0.out HB.out) | (with_reducible refine Kd.jY ?_ _) | (with_reducible refine Kd.j6 ?_ _) | (with_reducible refine Kd.Qt ?_))); (case side2 => exact HC0.out); rintro e w6 ⟨rfl, hb⟩; refine ⟨_, rfl, ?_⟩; have n0_ := qa.mk (qF (g := gb682) (o := .cells #[.int .i64 a1_0, .int .i64 a1_1, .int .i64 a1_2, .int .i64 a1_3, .int .i64 a1_4] 55 (0, 0)) (kq BK682) hb); have n1_ := qa.mk (qh (bs HB GE682) hb); clear BK682; clear HB; have BK682 := n0_; have HB := n1_; clear n0_ n1_; (try clear hb); (try clear hb2); (try clear hk); (try clear hi)) | ((with_reducible refine zl (N := 20) rfl ?_); refine Kd.S_lit (Kd.slice 40 k40) _ 37 ?hg (N := 20) ?hd (xs := ([] : List (List (S40)))) (inner := []) (ok := fun _ => True) (okp := fun _ => True) ?hr ?hp (fun _ hk => hk) trivial (Below.refl _ _) (Nat.le_refl _) (by simp) ?_; (case hd => rfl); (case hg => rfl); (case hr => first | (go_simp; done) | (go_simp; rfl)); (case hp => exact (zn.none _ _)); intro v685 w7 ho8 hb hg_ hnew_; clear hg_ hnew_; (first | rw [← Ny684.out] at ho8 | (simp only [Int.reduceToNat] at ho8; rw [← Ny684.out] at ho8)); have n0_ := qa.mk (Kd.Zm ho8 (qx (bs HB GE682))); have n1_ := qa.mk (qF (g := gb682) (o := .cells #[.int .i64 a1_0, .int .i64 a1_1, .int .i64 a1_2, .int .i64 a1_3, .int .i64 a1_4] 55 (0, 0)) (kq BK682) hb); have n2_ := qa.mk (qh (bs HB GE682) hb); clear BK682; clear HB; have HO686 := n0_; have BK682 := n1_; have HB := n2_; clear n0_ n1_ n2_; clear hb ho8))
 go_loopg [7, 23] k (fun kq v7 v23 w' => ∃ (x7_1 : List (List (S40))) (x23_1 : Int), v23 = .int .i64 x23_1 ∧ qa (qQ.l0 kq x7_1 l0 (l0.length : Int) x23_1 a1_0 a1_1 a1_2 a1_3 a1_4 = some (r1, r2)) ∧ qa (kq ≤ k) ∧ qa (Kd.S (Kd.slice 40 k40) 37 w' w.heap.size (fun _ => True) v7 x7_1) ∧ qa (w'.heap[gb682]? = some (.cells #[.int .i64 a1_0, .int .i64 a1_1, .int .i64 a1_2, .int .i64 a1_3, .int .i64 a1_4] 55 (0, 0))) ∧ qa (Below w.heap.size w w'))
 case atStart => exact ⟨(y684), (0), (by first | rfl | (simp; done) | (simp [*]; done)), H', ⟨Nat.le_refl _⟩, ⟨by (with_reducible repeat (first | apply Kd.jw | apply Kd.jv | apply Kd.jM)); exact HO686.out⟩, ⟨kq BK682⟩, ⟨bs HB GE682⟩⟩
 case round =>
  clear H'
  try clear c1
  try clear c2
  try clear p2
  try clear c4
  try clear c4b0
  try clear c4b1
  obtain ⟨x7_1, x23_1, rfl, HA, HK1, HO_7, BK682, HB⟩ := hrel
  cases gk with
  | zero => exact absurd HA.out (by simp [qQ.l0])
  | succ k1 =>
   have H := HA.out
   clear HA
   simp only [qQ.l0] at H
   by_cases c9 : x23_1 < (l0.length : Int)
   case neg =>
    rw [if_neg c9] at H
    have c9b0 : decide (x23_1 < (l0.length : Int)) = false := decide_eq_false c9
    clear c9
    simp only [Option.some.injEq, Prod.mk.injEq] at H
    obtain ⟨rfl, rfl⟩ := H
    go_wp2
    go_ret2
    exact ⟨_, by first | rfl | (simp [qR, qU] <;> rfl) | (simp [*, qR, qU] <;> rfl), by (with_reducible repeat (first | apply Kd.jw | apply Kd.jv | apply Kd.jM)); exact HO_7.out, bs HB GE682⟩
   rw [if_pos c9] at H
   have c9b0 : decide (x23_1 < (l0.length : Int)) = true := decide_eq_true c9
   clear c9
   by_cases c10 : 0 ≤ x23_1
   case neg =>
    rw [if_neg c10] at H
    exact absurd H (by simp)
   rw [if_pos c10] at H
   have c10b0 : decide (0 ≤ x23_1) = true := decide_eq_true c10
   clear c10
   by_cases c11 : x23_1 < (l0.length : Int)
   case neg =>
    rw [if_neg c11] at H
    exact absurd H (by simp)
   rw [if_pos c11] at H
   have c11b0 : decide (x23_1 < (l0.length : Int)) = true := decide_eq_true c11
   clear c11
   obtain ⟨y688, hy688⟩ : ∃ y_ : List (S40), y_ = (([] : List (S40))) := ⟨_, rfl⟩
   replace H : (qQ.l1 k1 x7_1 y688 l0 (l0.length : Int) x23_1 (qp l0 x23_1) ((qp l0 x23_1).length : Int) 0 a1_0 a1_1 a1_2 a1_3 a1_4) = some (r1, r2) := by first | (rw [hy688]; with_reducible exact H) | (have H2_ := (Option.bind_some _ _).symm.trans H; rw [hy688]; with_reducible exact H2_) | (have H2_ := (Option.bind_some _ _).symm.trans H; with_reducible exact H2_) | with_reducible exact H | (rw [hy688]; exact H) | exact H
   have Ny688 := qa.mk hy688
   clear hy688
   have H' := qa.mk H
   clear H
   have p687 : 0 ≤ (x23_1 : Int) := odt
   have q687 : x23_1 < (l0.length : Int) := odt
   obtain ⟨ad687, A687_0, c687_0, e687, hx687_0, hl687_0, hi687_0⟩ := Qm HR0.out x23_1 p687 q687
   cases e687
   replace hx687_0 := (HB.out.cell (World.block_lt_of_cell? w _ hx687_0)).trans hx687_0
   have HR687_0 := qa.mk hi687_0
   have HC687_0 := qa.mk hl687_0
   clear hi687_0 hl687_0
   replace p687 := eq_true p687
   replace q687 := eq_true q687
   go_wp2_with (first | ((with_reducible refine zl (N := 27) rfl ?_); refine Kd.Za k40 _ 40 ?hg (N := 27) ?hd (xs := ([] : List (S40))) (inner := []) (ok := fun _ => True) (okp := fun _ => True) ?hr ?hp (fun _ hk => hk) trivial (Below.refl _ _) (Nat.le_refl _) (by simp) ?_; (case hd => rfl); (case hg => rfl); (case hr => first | (go_simp; done) | (go_simp; rfl)); (case hp => exact (zn.none _ _)); intro v689 w12 ho13 hb hg_ hnew_; clear hg_ hnew_; (first | rw [← Ny688.out] at ho13 | (simp only [Int.reduceToNat] at ho13; rw [← Ny688.out] at ho13)); have n0_ := qa.mk (Kd.J7 (by (with_reducible repeat (first | apply Kd.jw | apply Kd.jv | apply Kd.jM)); exact HO_7.out) (Kd.Zt ho13) hb); have n1_ := qa.mk (Kd.jU ho13 (qx (bs HB GE682))); have n2_ := qa.mk (qF (g := gb682) (o := .cells #[.int .i64 a1_0, .int .i64 a1_1, .int .i64 a1_2, .int .i64 a1_3, .int .i64 a1_4] 55 (0, 0)) (kq BK682) hb); have n3_ := qa.mk (qh (bs HB GE682) hb); clear HO_7; clear BK682; clear HB; have HO_7 := n0_; have HO690 := n1_; have BK682 := n2_; have HB := n3_; clear n0_ n1_ n2_ n3_; clear hb ho13))
   go_loopg [10, 30] k1 (fun kq v10 v30 w' => ∃ (x10_2 : List (S40)) (x30_2 : Int), v30 = .int .i64 x30_2 ∧ qa (qQ.l1 kq x7_1 x10_2 l0 (l0.length : Int) x23_1 (qp l0 x23_1) ((qp l0 x23_1).length : Int) x30_2 a1_0 a1_1 a1_2 a1_3 a1_4 = some (r1, r2)) ∧ qa (kq ≤ k1) ∧ qa (Kd.S (Kd.slice 40 k40) 37 w' w.heap.size (fun k_ => some k_ ≠ (v10 : Value).ownBlock) u7 x7_1) ∧ qa (Kd.R k40 40 w' w.heap.size (fun _ => True) v10 x10_2) ∧ qa (w'.heap[gb682]? = some (.cells #[.int .i64 a1_0, .int .i64 a1_1, .int .i64 a1_2, .int .i64 a1_3, .int .i64 a1_4] 55 (0, 0))) ∧ qa (Below w.heap.size w w'))
   case atStart => exact ⟨(y688), (0), (by first | rfl | (simp; done) | (simp [*]; done)), H', ⟨Nat.le_refl _⟩, ⟨by (with_reducible repeat (first | apply Kd.jw | apply Kd.jv | apply Kd.jM)); exact Kd.jr HO_7.out (fun _ hk => hk.2)⟩, ⟨rq HO690⟩, ⟨kq BK682⟩, ⟨bs HB GE682⟩⟩
   case round =>
    clear H'
    try clear c1
    try clear c2
    try clear p2
    try clear c4
    try clear c4b0
    try clear c4b1
    try clear c6
    try clear p6
    try clear q6
    try clear hx6
    try clear c9
    try clear c9b0
    try clear c10
    try clear c10b0
    try clear c11
    try clear c11b0
    try clear hx687_0
    try clear p2
    try clear p687
    try clear q687
    obtain ⟨x10_2, x30_2, rfl, HA, HK2, HO_7, HO_10, BK682, HB⟩ := hrel
    cases gk with
    | zero => exact absurd HA.out (by simp [qQ.l1])
    | succ k2 =>
     have H := HA.out
     clear HA
     simp only [qQ.l1] at H
     by_cases c14 : x30_2 < ((qp l0 x23_1).length : Int)
     case neg =>
      rw [if_neg c14] at H
      have c14b0 : decide (x30_2 < ((qp l0 x23_1).length : Int)) = false := decide_eq_false c14
      clear c14
      by_cases c39 : x7_1.length < 5864062014805
      case neg =>
       rw [if_neg c39] at H
       exact absurd H (by simp)
      rw [if_pos c39] at H
      have LMc39 := qa.mk c39
      clear c39
      obtain ⟨y701, hy701⟩ : ∃ y_ : List (List (S40)), y_ = (x7_1 ++ [x10_2]) := ⟨_, rfl⟩
      replace H : (qQ.l0 k2 y701 l0 (l0.length : Int) (wrap64 (x23_1 + 1)) a1_0 a1_1 a1_2 a1_3 a1_4) = some (r1, r2) := by first | (rw [hy701]; with_reducible exact H) | (have H2_ := (Option.bind_some _ _).symm.trans H; rw [hy701]; with_reducible exact H2_) | (have H2_ := (Option.bind_some _ _).symm.trans H; with_reducible exact H2_) | with_reducible exact H | (rw [hy701]; exact H) | exact H
      have Ny701 := qa.mk hy701
      clear hy701
      have H' := qa.mk H
      clear H
      obtain ⟨Ao41, co41, eo41⟩ := Kd.zX HO_10.out
      subst eo41
      go_wp2_with (first | ((with_reducible refine Qq (b := .append) (xs := #[.tmp 47, .tmp 49]) rfl ?_); at_builtin; refine Kd.S_append (Kd.slice 40 k40) (w0 := w) w.heap.size rfl (.tmp 47) (.tmp 49) 23 37 (.slice none 0 0) 24 rfl Try.underlying23 info37 rfl (by decide) (by omega) u7 x7_1 x10_2 [.slice Ao41 x10_2.length co41] (fun _ => True) (fun k_ => some k_ = (.slice Ao41 x10_2.length co41 : Value).ownBlock) rfl rfl ?aP (fun k_ hk_ => ((Kd.zV (ok' := fun k_ => ((fun _ => True)) k_ ∧ some k_ ≠ (u7 : Value).ownBlock) (Kd.QL (HO_10.out) (Kd.ZO HO_7.out) (by decide)) (fun k_ hk => ⟨trivial, hk.2⟩))).1 k_ hk_.symm) ?aF ?aO ?aB ?aS ?aL ?_; (case aP => exact Kd.M_row (Kd.zV (Kd.R_tight rfl (Kd.zV (ok' := fun k_ => ((fun _ => True)) k_ ∧ some k_ ≠ (u7 : Value).ownBlock) (Kd.QL (HO_10.out) (Kd.ZO HO_7.out) (by decide)) (fun k_ hk => ⟨trivial, hk.2⟩))) (fun _ h_ => h_))); (case aB => exact (bs HB GE682)); (case aF => exact (fun _ _ => trivial)); (case aO => exact (by (with_reducible repeat (first | apply Kd.jw | apply Kd.jv | apply Kd.jM)); exact Kd.jr HO_7.out (fun k_ hk => ⟨trivial, fun e_ => hk e_⟩))); (case aS => exact (qx (bs HB GE682))); (case aL => have := LMc39.out; omega); intro v702 w40 ho hb hg hat; rw [← Ny701.out] at ho; have n0_ := qa.mk (Qy (g := gb682) (o := .cells #[.int .i64 a1_0, .int .i64 a1_1, .int .i64 a1_2, .int .i64 a1_3, .int .i64 a1_4] 55 (0, 0)) (kq BK682) hg (Kd.S_ne HO_7.out BK682.out (by decide))); have n1_ := qa.mk (hb); have n2_ := qa.mk (ho); clear BK682; clear HB; clear HO_7; clear HO_10; have BK682 := n0_; have HB := n1_; have HO703 := n2_; clear n0_ n1_ n2_; clear ho hb hg hat))
      go_roundg k2
      case measure => have := HK1.out; have := HK2.out; omega
      case rel => exact ⟨(y701), (wrap64 (x23_1 + 1)), (by first | rfl | (simp; done) | (simp [*]; done)), H', ⟨by have := HK1.out; have := HK2.out; omega⟩, ⟨by (with_reducible repeat (first | apply Kd.jw | apply Kd.jv | apply Kd.jM)); exact HO703.out⟩, ⟨kq BK682⟩, ⟨bs HB GE682⟩⟩
     rw [if_pos c14] at H
     have c14b0 : decide (x30_2 < ((qp l0 x23_1).length : Int)) = true := decide_eq_true c14
     clear c14
     by_cases c15 : 0 ≤ x30_2
     case neg =>
      rw [if_neg c15] at H
      exact absurd H (by simp)
     rw [if_pos c15] at H
     have c15b0 : decide (0 ≤ x30_2) = true := decide_eq_true c15
     clear c15
     by_cases c16 : x30_2 < ((qp l0 x23_1).length : Int)
     case neg =>
      rw [if_neg c16] at H
      exact absurd H (by simp)
     rw [if_pos c16] at H
     have c16b0 : decide (x30_2 < ((qp l0 x23_1).length : Int)) = true := decide_eq_true c16
     clear c16
     replace H := Option.bind_eq_some_iff.mp H
     obtain ⟨⟨t693, t694, t695, t696⟩, A170, H⟩ := H
     replace H : (if t696 = true then (if x10_2.length < 5864062014805 then (qQ.l1 k2 x7_1 (x10_2 ++ [(⟨t693, t694, t695⟩ : S40)]) l0 (l0.length : Int) x23_1 (qp l0 x23_1) ((qp l0 x23_1).length : Int) (wrap64 (x30_2 + 1)) a1_0 a1_1 a1_2 a1_3 a1_4) else (none)) else (some (([] : List (List (S40))), 64))) = some (r1, r2) := H
     have A17 := qa.mk A170
     clear A170
     by_cases c18 : t696 = true
     case neg =>
      replace c18 := Bool.eq_false_iff.mpr c18
      subst c18
      have H1 : (some (([] : List (List (S40))), 64)) = some (r1, r2) := by rw [if_neg (show ¬ (false = true) by decide)] at H; exact H
      clear H
      have H := H1
      clear H1
      simp only [Option.some.injEq, Prod.mk.injEq] at H
      obtain ⟨rfl, rfl⟩ := H
      have p691 : 0 ≤ (x30_2 : Int) := odt
      have q691 : x30_2 < ((qp l0 x23_1).length : Int) := odt
      obtain ⟨ad691, e691, hx691_0, hx691_1, hx691_2⟩ := jh HR687_0.out x30_2 p691 q691
      cases e691
      replace hx691_0 := (HB.out.cell (World.block_lt_of_cell? w _ hx691_0)).trans hx691_0
      replace hx691_1 := (HB.out.cell (World.block_lt_of_cell? w _ hx691_1)).trans hx691_1
      replace hx691_2 := (HB.out.cell (World.block_lt_of_cell? w _ hx691_2)).trans hx691_2
      replace p691 := eq_true p691
      replace q691 := eq_true q691
      go_wp2_with (first | ((with_reducible refine zl (N := 12) rfl ?_); refine zF ?hg (N := 12) ?hd (cs := #[.int .i64 0, .int .i64 0, .int .i64 0]) (t := 40) ?hr ?_; (case hd => rfl); (case hg => rfl); (case hr => first | (go_simp; done) | (go_simp; rfl)); intro gb692 hg w30 hbox hb; have n0_ := qa.mk (Kd.jg (Kd.qaa (by (with_reducible repeat (first | apply Kd.jw | apply Kd.jv | apply Kd.jM)); exact HO_7.out) gb692 (Nat.le_of_eq hg.symm)) hb); have n1_ := qa.mk (Kd.QC (Kd.JX (rq HO_10) gb692 (Nat.le_of_eq hg.symm)) hb); have n2_ := qa.mk (qF (g := gb682) (o := .cells #[.int .i64 a1_0, .int .i64 a1_1, .int .i64 a1_2, .int .i64 a1_3, .int .i64 a1_4] 55 (0, 0)) (kq BK682) hb); have n3_ := qa.mk (qh (bs HB GE682) hb); have n4_ := qa.mk (hbox); have n5_ := qa.mk ((by rw [hg]; exact (qx (bs HB GE682)) : w.heap.size ≤ gb692)); have n6_ := qa.mk ((by rw [hg]; exact (qx (bs HB GE682)) : w.heap.size ≤ gb692)); have n7_ := qa.mk ((by rw [hg]; exact Nat.ne_of_lt (qy (g := gb682) (o := .cells #[.int .i64 a1_0, .int .i64 a1_1, .int .i64 a1_2, .int .i64 a1_3, .int .i64 a1_4] 55 (0, 0)) (kq BK682)) : gb682 ≠ gb692)); have n8_ := qa.mk ((by rw [hg]; exact Nat.ne_of_gt (qy (g := gb682) (o := .cells #[.int .i64 a1_0, .int .i64 a1_1, .int .i64 a1_2, .int .i64 a1_3, .int .i64 a1_4] 55 (0, 0)) (kq BK682)) : gb692 ≠ gb682)); clear HO_7; clear HO_10; clear BK682; clear HB; have HO_7 := n0_; have HO_10 := n1_; have BK682 := n2_; have HB := n3_; have BK692 := n4_; have GW692 := n5_; have GE692 := n6_; have NB682_692 := n7_; have NB692_682 := n8_; clear n0_ n1_ n2_ n3_ n4_ n5_ n6_ n7_ n8_; clear hb hbox hg; have hnb31 := NB692_682.out; have hnc31 := NB682_692.out; have hcz32_0 : w30.cell? ⟨gb692, 0, none⟩ = some (.int .i64 0) := (qb BK692.out 0).trans rfl; have hcz32_1 : w30.cell? ⟨gb692, 1, none⟩ = some (.int .i64 0) := (qb BK692.out 1).trans rfl; have hcz32_2 : w30.cell? ⟨gb692, 2, none⟩ = some (.int .i64 0) := (qb BK692.out 2).trans rfl; have hfz32_0 := qo BK692.out 0; have hfz32_1 := qo BK692.out 1; have hfz32_2 := qo BK692.out 2; have hcz33_0 : w30.cell? ⟨gb682, 0, none⟩ = some (.int .i64 a1_0) := (qb BK682.out 0).trans rfl; have hcz33_1 : w30.cell? ⟨gb682, 1, none⟩ = some (.int .i64 a1_1) := (qb BK682.out 1).trans rfl; have hcz33_2 : w30.cell? ⟨gb682, 2, none⟩ = some (.int .i64 a1_2) := (qb BK682.out 2).trans rfl; have hcz33_3 : w30.cell? ⟨gb682, 3, none⟩ = some (.int .i64 a1_3) := (qb BK682.out 3).trans rfl; have hcz33_4 : w30.cell? ⟨gb682, 4, none⟩ = some (.int .i64 a1_4) := (qb BK682.out 4).trans rfl; have hfz33_0 := qo BK682.out 0; have hfz33_1 := qo BK682.out 1; have hfz33_2 := qo BK682.out 2; have hfz33_3 := qo BK682.out 3; have hfz33_4 := qo BK682.out 4) | ((with_reducible refine zf (f := 34) rfl ?_); refine zR (some 37) rfl rfl Try.func34 (by kernel_rfl) rfl #[.agg #[.int .i64 ((ql (qp l0 x23_1) x30_2).f0), .int .i64 ((ql (qp l0 x23_1) x30_2).f1), .int .i64 ((ql (qp l0 x23_1) x30_2).f2)], .agg #[.int .i64 a1_0, .int .i64 a1_1, .int .i64 a1_2, .int .i64 a1_3, .int .i64 a1_4]] rfl (by (try simp only [List.map_toArray, List.map_cons, List.map_nil]); first | done | rfl | (simp only [List.length_drop, List.length_take]; rfl)) ?_; (with_reducible refine (zz.calls k2 ((ql (qp l0 x23_1) x30_2).f0) ((ql (qp l0 x23_1) x30_2).f1) ((ql (qp l0 x23_1) x30_2).f2) a1_0 a1_1 a1_2 a1_3 a1_4 t693 t694 t695 false _ A17.out).mono ?_); rintro e w34 ⟨rfl, hb⟩; refine ⟨_, rfl, ?_⟩; have n0_ := qa.mk (Kd.jg (by (with_reducible repeat (first | apply Kd.jw | apply Kd.jv | apply Kd.jM)); exact (Kd.jr (Kd.Jc (p := ⟨gb692, 2, none⟩) (Kd.Jc (p := ⟨gb692, 1, none⟩) (Kd.Jc (p := ⟨gb692, 0, none⟩) (Kd.jr HO_7.out (fun k_ hk => (⟨hk, hk.2⟩ : _ ∧ k_ ≠ gb692))) (fun _ hk => hk.2) (.int .i64 ((ql (qp l0 x23_1) x30_2).f0))) (fun _ hk => hk.2) (.int .i64 ((ql (qp l0 x23_1) x30_2).f1))) (fun _ hk => hk.2) (.int .i64 ((ql (qp l0 x23_1) x30_2).f2))) (fun _ h_ => h_.1))) hb); have n1_ := qa.mk (Kd.QC (by (with_reducible repeat (first | apply Kd.Qe | apply Kd.Qv | apply Kd.Qu)); exact (Kd.zV (Kd.QO (p := ⟨gb692, 2, none⟩) (Kd.QO (p := ⟨gb692, 1, none⟩) (Kd.QO (p := ⟨gb692, 0, none⟩) (Kd.zV HO_10.out (fun k_ hk => (⟨hk, hk.2⟩ : _ ∧ k_ ≠ gb692))) (fun _ hk => hk.2) (.int .i64 ((ql (qp l0 x23_1) x30_2).f0))) (fun _ hk => hk.2) (.int .i64 ((ql (qp l0 x23_1) x30_2).f1))) (fun _ hk => hk.2) (.int .i64 ((ql (qp l0 x23_1) x30_2).f2))) (fun _ h_ => h_.1))) hb); have n2_ := qa.mk (qF (g := gb682) (o := .cells #[.int .i64 a1_0, .int .i64 a1_1, .int .i64 a1_2, .int .i64 a1_3, .int .i64 a1_4] 55 (0, 0)) (by (with_reducible repeat (first | refine qj ?_ _ | refine qd ?_ | refine qg ?_ _)); refine zk ?_ NB682_692.out _; refine zk ?_ NB682_692.out _; refine zk ?_ NB682_692.out _; exact kq BK682) hb); have n3_ := qa.mk (qF (g := gb692) (o := .cells #[.int .i64 ((ql (qp l0 x23_1) x30_2).f0), .int .i64 ((ql (qp l0 x23_1) x30_2).f1), .int .i64 ((ql (qp l0 x23_1) x30_2).f2)] 40 (0, 0)) (by (with_reducible repeat (first | refine qj ?_ _ | refine qd ?_ | refine qg ?_ _)); refine zb (cs := #[.int .i64 ((ql (qp l0 x23_1) x30_2).f0), .int .i64 ((ql (qp l0 x23_1) x30_2).f1), .int .i64 0]) ?_ 2 _ rfl; refine zb (cs := #[.int .i64 ((ql (qp l0 x23_1) x30_2).f0), .int .i64 0, .int .i64 0]) ?_ 1 _ rfl; refine zb (cs := #[.int .i64 0, .int .i64 0, .int .i64 0]) ?_ 0 _ rfl; exact kq BK692) hb); have n4_ := qa.mk (qh (by repeat (first | (with_reducible first | exact HB.out | apply qw | apply qC | apply qJ | refine qf ?_ GE682.out | refine qf ?_ GE692.out) | exact HB.out)) hb); clear HO_7; clear HO_10; clear BK682; clear BK692; clear HB; have HO_7 := n0_; have HO_10 := n1_; have BK682 := n2_; have BK692 := n3_; have HB := n4_; clear n0_ n1_ n2_ n3_ n4_; (try clear hb); (try clear hb2); (try clear hk); (try clear hi)) | ((with_reducible refine zl (N := 13) rfl ?_); refine zF ?hg (N := 13) ?hd (cs := #[.int .i64 0, .int .i64 0, .int .i64 0]) (t := 40) ?hr ?_; (case hd => rfl); (case hg => rfl); (case hr => first | (go_simp; done) | (go_simp; rfl)); intro gb697 hg w35 hbox hb; have n0_ := qa.mk (Kd.jg (Kd.qaa (by (with_reducible repeat (first | apply Kd.jw | apply Kd.jv | apply Kd.jM)); exact HO_7.out) gb697 (Nat.le_of_eq hg.symm)) hb); have n1_ := qa.mk (Kd.QC (Kd.JX (rq HO_10) gb697 (Nat.le_of_eq hg.symm)) hb); have n2_ := qa.mk (qF (g := gb682) (o := .cells #[.int .i64 a1_0, .int .i64 a1_1, .int .i64 a1_2, .int .i64 a1_3, .int .i64 a1_4] 55 (0, 0)) (kq BK682) hb); have n3_ := qa.mk (qF (g := gb692) (o := .cells #[.int .i64 ((ql (qp l0 x23_1) x30_2).f0), .int .i64 ((ql (qp l0 x23_1) x30_2).f1), .int .i64 ((ql (qp l0 x23_1) x30_2).f2)] 40 (0, 0)) (kq BK692) hb); have n4_ := qa.mk (qh (by repeat (first | (with_reducible first | exact HB.out | apply qw | apply qC | apply qJ | refine qf ?_ GE682.out | refine qf ?_ GE692.out) | exact HB.out)) hb); have n5_ := qa.mk (hbox); have n6_ := qa.mk ((by rw [hg]; exact (qx (by repeat (first | (with_reducible first | exact HB.out | apply qw | apply qC | apply qJ | refine qf ?_ GE682.out | refine qf ?_ GE692.out) | exact HB.out))) : w.heap.size ≤ gb697)); have n7_ := qa.mk ((by rw [hg]; exact (qx (by repeat (first | (with_reducible first | exact HB.out | apply qw | apply qC | apply qJ | refine qf ?_ GE682.out | refine qf ?_ GE692.out) | exact HB.out))) : w.heap.size ≤ gb697)); have n8_ := qa.mk ((by rw [hg]; exact Nat.ne_of_lt (qy (g := gb682) (o := .cells #[.int .i64 a1_0, .int .i64 a1_1, .int .i64 a1_2, .int .i64 a1_3, .int .i64 a1_4] 55 (0, 0)) (kq BK682)) : gb682 ≠ gb697)); have n9_ := qa.mk ((by rw [hg]; exact Nat.ne_of_gt (qy (g := gb682) (o := .cells #[.int .i64 a1_0, .int .i64 a1_1, .int .i64 a1_2, .int .i64 a1_3, .int .i64 a1_4] 55 (0, 0)) (kq BK682)) : gb697 ≠ gb682)); have n10_ := qa.mk ((by rw [hg]; exact Nat.ne_of_lt (qy (g := gb692) (o := .cells #[.int .i64 ((ql (qp l0 x23_1) x30_2).f0), .int .i64 ((ql (qp l0 x23_1) x30_2).f1), .int .i64 ((ql (qp l0 x23_1) x30_2).f2)] 40 (0, 0)) (kq BK692)) : gb692 ≠ gb697)); have n11_ := qa.mk ((by rw [hg]; exact Nat.ne_of_gt (qy (g := gb692) (o := .cells #[.int .i64 ((ql (qp l0 x23_1) x30_2).f0), .int .i64 ((ql (qp l0 x23_1) x30_2).f1), .int .i64 ((ql (qp l0 x23_1) x30_2).f2)] 40 (0, 0)) (kq BK692)) : gb697 ≠ gb692)); clear HO_7; clear HO_10; clear BK682; clear BK692; clear HB; have HO_7 := n0_; have HO_10 := n1_; have BK682 := n2_; have BK692 := n3_; have HB := n4_; have BK697 := n5_; have GW697 := n6_; have GE697 := n7_; have NB682_697 := n8_; have NB697_682 := n9_; have NB692_697 := n10_; have NB697_692 := n11_; clear n0_ n1_ n2_ n3_ n4_ n5_ n6_ n7_ n8_ n9_ n10_ n11_; clear hb hbox hg; have hnb36 := NB697_682.out; have hnc36 := NB682_697.out; have hnb37 := NB697_692.out; have hnc37 := NB692_697.out; have hcz38_0 : w35.cell? ⟨gb697, 0, none⟩ = some (.int .i64 0) := (qb BK697.out 0).trans rfl; have hcz38_1 : w35.cell? ⟨gb697, 1, none⟩ = some (.int .i64 0) := (qb BK697.out 1).trans rfl; have hcz38_2 : w35.cell? ⟨gb697, 2, none⟩ = some (.int .i64 0) := (qb BK697.out 2).trans rfl; have hfz38_0 := qo BK697.out 0; have hfz38_1 := qo BK697.out 1; have hfz38_2 := qo BK697.out 2))
      go_ret2
      exact ⟨_, by first | rfl | (simp [qR, qU] <;> rfl) | (simp [*, qR, qU] <;> rfl), by first | exact Kd.Zl _ _ _ _ _ | exact Kd.N_nil _ _ _ _ _ | exact Kd.V_nil _ _ _ _ _ | exact Kd.Q_nil _ _ _ _ _ | exact Kd.QF _ _ _ _ _, by repeat (first | (with_reducible first | exact HB.out | apply qw | apply qC | apply qJ | refine qf ?_ GE682.out | refine qf ?_ GE692.out | refine qf ?_ GE697.out) | exact HB.out)⟩
     subst c18
     have H1 : (if x10_2.length < 5864062014805 then (qQ.l1 k2 x7_1 (x10_2 ++ [(⟨t693, t694, t695⟩ : S40)]) l0 (l0.length : Int) x23_1 (qp l0 x23_1) ((qp l0 x23_1).length : Int) (wrap64 (x30_2 + 1)) a1_0 a1_1 a1_2 a1_3 a1_4) else (none)) = some (r1, r2) := by rw [if_pos rfl] at H; exact H
     clear H
     have H := H1
     clear H1
     by_cases c19 : x10_2.length < 5864062014805
     case neg =>
      rw [if_neg c19] at H
      exact absurd H (by simp)
     rw [if_pos c19] at H
     have LMc19 := qa.mk c19
     clear c19
     obtain ⟨y698, hy698⟩ : ∃ y_ : List (S40), y_ = (x10_2 ++ [(⟨t693, t694, t695⟩ : S40)]) := ⟨_, rfl⟩
     replace H : (qQ.l1 k2 x7_1 y698 l0 (l0.length : Int) x23_1 (qp l0 x23_1) ((qp l0 x23_1).length : Int) (wrap64 (x30_2 + 1)) a1_0 a1_1 a1_2 a1_3 a1_4) = some (r1, r2) := by first | (rw [hy698]; with_reducible exact H) | (have H2_ := (Option.bind_some _ _).symm.trans H; rw [hy698]; with_reducible exact H2_) | (have H2_ := (Option.bind_some _ _).symm.trans H; with_reducible exact H2_) | with_reducible exact H | (rw [hy698]; exact H) | exact H
     have Ny698 := qa.mk hy698
     clear hy698
     have H' := qa.mk H
     clear H
     have p691 : 0 ≤ (x30_2 : Int) := odt
     have q691 : x30_2 < ((qp l0 x23_1).length : Int) := odt
     obtain ⟨ad691, e691, hx691_0, hx691_1, hx691_2⟩ := jh HR687_0.out x30_2 p691 q691
     cases e691
     replace hx691_0 := (HB.out.cell (World.block_lt_of_cell? w _ hx691_0)).trans hx691_0
     replace hx691_1 := (HB.out.cell (World.block_lt_of_cell? w _ hx691_1)).trans hx691_1
     replace hx691_2 := (HB.out.cell (World.block_lt_of_cell? w _ hx691_2)).trans hx691_2
     replace p691 := eq_true p691
     replace q691 := eq_true q691
     go_wp2_with (first | ((with_reducible refine zl (N := 12) rfl ?_); refine zF ?hg (N := 12) ?hd (cs := #[.int .i64 0, .int .i64 0, .int .i64 0]) (t := 40) ?hr ?_; (case hd => rfl); (case hg => rfl); (case hr => first | (go_simp; done) | (go_simp; rfl)); intro gb692 hg w20 hbox hb; have n0_ := qa.mk (Kd.jg (Kd.qaa (by (with_reducible repeat (first | apply Kd.jw | apply Kd.jv | apply Kd.jM)); exact HO_7.out) gb692 (Nat.le_of_eq hg.symm)) hb); have n1_ := qa.mk (Kd.QC (Kd.JX (rq HO_10) gb692 (Nat.le_of_eq hg.symm)) hb); have n2_ := qa.mk (qF (g := gb682) (o := .cells #[.int .i64 a1_0, .int .i64 a1_1, .int .i64 a1_2, .int .i64 a1_3, .int .i64 a1_4] 55 (0, 0)) (kq BK682) hb); have n3_ := qa.mk (qh (bs HB GE682) hb); have n4_ := qa.mk (hbox); have n5_ := qa.mk ((by rw [hg]; exact (qx (bs HB GE682)) : w.heap.size ≤ gb692)); have n6_ := qa.mk ((by rw [hg]; exact (qx (bs HB GE682)) : w.heap.size ≤ gb692)); have n7_ := qa.mk ((by rw [hg]; exact Nat.ne_of_lt (qy (g := gb682) (o := .cells #[.int .i64 a1_0, .int .i64 a1_1, .int .i64 a1_2, .int .i64 a1_3, .int .i64 a1_4] 55 (0, 0)) (kq BK682)) : gb682 ≠ gb692)); have n8_ := qa.mk ((by rw [hg]; exact Nat.ne_of_gt (qy (g := gb682) (o := .cells #[.int .i64 a1_0, .int .i64 a1_1, .int .i64 a1_2, .int .i64 a1_3, .int .i64 a1_4] 55 (0, 0)) (kq BK682)) : gb692 ≠ gb682)); clear HO_7; clear HO_10; clear BK682; clear HB; have HO_7 := n0_; have HO_10 := n1_; have BK682 := n2_; have HB := n3_; have BK692 := n4_; have GW692 := n5_; have GE692 := n6_; have NB682_692 := n7_; have NB692_682 := n8_; clear n0_ n1_ n2_ n3_ n4_ n5_ n6_ n7_ n8_; clear hb hbox hg; have hnb21 := NB692_682.out; have hnc21 := NB682_692.out; have hcz22_0 : w20.cell? ⟨gb692, 0, none⟩ = some (.int .i64 0) := (qb BK692.out 0).trans rfl; have hcz22_1 : w20.cell? ⟨gb692, 1, none⟩ = some (.int .i64 0) := (qb BK692.out 1).trans rfl; have hcz22_2 : w20.cell? ⟨gb692, 2, none⟩ = some (.int .i64 0) := (qb BK692.out 2).trans rfl; have hfz22_0 := qo BK692.out 0; have hfz22_1 := qo BK692.out 1; have hfz22_2 := qo BK692.out 2; have hcz23_0 : w20.cell? ⟨gb682, 0, none⟩ = some (.int .i64 a1_0) := (qb BK682.out 0).trans rfl; have hcz23_1 : w20.cell? ⟨gb682, 1, none⟩ = some (.int .i64 a1_1) := (qb BK682.out 1).trans rfl; have hcz23_2 : w20.cell? ⟨gb682, 2, none⟩ = some (.int .i64 a1_2) := (qb BK682.out 2).trans rfl; have hcz23_3 : w20.cell? ⟨gb682, 3, none⟩ = some (.int .i64 a1_3) := (qb BK682.out 3).trans rfl; have hcz23_4 : w20.cell? ⟨gb682, 4, none⟩ = some (.int .i64 a1_4) := (qb BK682.out 4).trans rfl; have hfz23_0 := qo BK682.out 0; have hfz23_1 := qo BK682.out 1; have hfz23_2 := qo BK682.out 2; have hfz23_3 := qo BK682.out 3; have hfz23_4 := qo BK682.out 4) | ((with_reducible refine zf (f := 34) rfl ?_); refine zR (some 37) rfl rfl Try.func34 (by kernel_rfl) rfl #[.agg #[.int .i64 ((ql (qp l0 x23_1) x30_2).f0), .int .i64 ((ql (qp l0 x23_1) x30_2).f1), .int .i64 ((ql (qp l0 x23_1) x30_2).f2)], .agg #[.int .i64 a1_0, .int .i64 a1_1, .int .i64 a1_2, .int .i64 a1_3, .int .i64 a1_4]] rfl (by (try simp only [List.map_toArray, List.map_cons, List.map_nil]); first | done | rfl | (simp only [List.length_drop, List.length_take]; rfl)) ?_; (with_reducible refine (zz.calls k2 ((ql (qp l0 x23_1) x30_2).f0) ((ql (qp l0 x23_1) x30_2).f1) ((ql (qp l0 x23_1) x30_2).f2) a1_0 a1_1 a1_2 a1_3 a1_4 t693 t694 t695 true _ A17.out).mono ?_); rintro e w24 ⟨rfl, hb⟩; refine ⟨_, rfl, ?_⟩; have n0_ := qa.mk (Kd.jg (by (with_reducible repeat (first | apply Kd.jw | apply Kd.jv | apply Kd.jM)); exact (Kd.jr (Kd.Jc (p := ⟨gb692, 2, none⟩) (Kd.Jc (p := ⟨gb692, 1, none⟩) (Kd.Jc (p := ⟨gb692, 0, none⟩) (Kd.jr HO_7.out (fun k_ hk => (⟨hk, hk.2⟩ : _ ∧ k_ ≠ gb692))) (fun _ hk => hk.2) (.int .i64 ((ql (qp l0 x23_1) x30_2).f0))) (fun _ hk => hk.2) (.int .i64 ((ql (qp l0 x23_1) x30_2).f1))) (fun _ hk => hk.2) (.int .i64 ((ql (qp l0 x23_1) x30_2).f2))) (fun _ h_ => h_.1))) hb); have n1_ := qa.mk (Kd.QC (by (with_reducible repeat (first | apply Kd.Qe | apply Kd.Qv | apply Kd.Qu)); exact (Kd.zV (Kd.QO (p := ⟨gb692, 2, none⟩) (Kd.QO (p := ⟨gb692, 1, none⟩) (Kd.QO (p := ⟨gb692, 0, none⟩) (Kd.zV HO_10.out (fun k_ hk => (⟨hk, hk.2⟩ : _ ∧ k_ ≠ gb692))) (fun _ hk => hk.2) (.int .i64 ((ql (qp l0 x23_1) x30_2).f0))) (fun _ hk => hk.2) (.int .i64 ((ql (qp l0 x23_1) x30_2).f1))) (fun _ hk => hk.2) (.int .i64 ((ql (qp l0 x23_1) x30_2).f2))) (fun _ h_ => h_.1))) hb); have n2_ := qa.mk (qF (g := gb682) (o := .cells #[.int .i64 a1_0, .int .i64 a1_1, .int .i64 a1_2, .int .i64 a1_3, .int .i64 a1_4] 55 (0, 0)) (by (with_reducible repeat (first | refine qj ?_ _ | refine qd ?_ | refine qg ?_ _)); refine zk ?_ NB682_692.out _; refine zk ?_ NB682_692.out _; refine zk ?_ NB682_692.out _; exact kq BK682) hb); have n3_ := qa.mk (qF (g := gb692) (o := .cells #[.int .i64 ((ql (qp l0 x23_1) x30_2).f0), .int .i64 ((ql (qp l0 x23_1) x30_2).f1), .int .i64 ((ql (qp l0 x23_1) x30_2).f2)] 40 (0, 0)) (by (with_reducible repeat (first | refine qj ?_ _ | refine qd ?_ | refine qg ?_ _)); refine zb (cs := #[.int .i64 ((ql (qp l0 x23_1) x30_2).f0), .int .i64 ((ql (qp l0 x23_1) x30_2).f1), .int .i64 0]) ?_ 2 _ rfl; refine zb (cs := #[.int .i64 ((ql (qp l0 x23_1) x30_2).f0), .int .i64 0, .int .i64 0]) ?_ 1 _ rfl; refine zb (cs := #[.int .i64 0, .int .i64 0, .int .i64 0]) ?_ 0 _ rfl; exact kq BK692) hb); have n4_ := qa.mk (qh (by repeat (first | (with_reducible first | exact HB.out | apply qw | apply qC | apply qJ | refine qf ?_ GE682.out | refine qf ?_ GE692.out) | exact HB.out)) hb); clear HO_7; clear HO_10; clear BK682; clear BK692; clear HB; have HO_7 := n0_; have HO_10 := n1_; have BK682 := n2_; have BK692 := n3_; have HB := n4_; clear n0_ n1_ n2_ n3_ n4_; (try clear hb); (try clear hb2); (try clear hk); (try clear hi)) | ((with_reducible refine zl (N := 13) rfl ?_); refine zF ?hg (N := 13) ?hd (cs := #[.int .i64 0, .int .i64 0, .int .i64 0]) (t := 40) ?hr ?_; (case hd => rfl); (case hg => rfl); (case hr => first | (go_simp; done) | (go_simp; rfl)); intro gb697 hg w25 hbox hb; have n0_ := qa.mk (Kd.jg (Kd.qaa (by (with_reducible repeat (first | apply Kd.jw | apply Kd.jv | apply Kd.jM)); exact HO_7.out) gb697 (Nat.le_of_eq hg.symm)) hb); have n1_ := qa.mk (Kd.QC (Kd.JX (rq HO_10) gb697 (Nat.le_of_eq hg.symm)) hb); have n2_ := qa.mk (qF (g := gb682) (o := .cells #[.int .i64 a1_0, .int .i64 a1_1, .int .i64 a1_2, .int .i64 a1_3, .int .i64 a1_4] 55 (0, 0)) (kq BK682) hb); have n3_ := qa.mk (qF (g := gb692) (o := .cells #[.int .i64 ((ql (qp l0 x23_1) x30_2).f0), .int .i64 ((ql (qp l0 x23_1) x30_2).f1), .int .i64 ((ql (qp l0 x23_1) x30_2).f2)] 40 (0, 0)) (kq BK692) hb); have n4_ := qa.mk (qh (by repeat (first | (with_reducible first | exact HB.out | apply qw | apply qC | apply qJ | refine qf ?_ GE682.out | refine qf ?_ GE692.out) | exact HB.out)) hb); have n5_ := qa.mk (hbox); have n6_ := qa.mk ((by rw [hg]; exact (qx (by repeat (first | (with_reducible first | exact HB.out | apply qw | apply qC | apply qJ | refine qf ?_ GE682.out | refine qf ?_ GE692.out) | exact HB.out))) : w.heap.size ≤ gb697)); have n7_ := qa.mk ((by rw [hg]; exact (qx (by repeat (first | (with_reducible first | exact HB.out | apply qw | apply qC | apply qJ | refine qf ?_ GE682.out | refine qf ?_ GE692.out) | exact HB.out))) : w.heap.size ≤ gb697)); have n8_ := qa.mk ((by rw [hg]; exact Nat.ne_of_lt (qy (g := gb682) (o := .cells #[.int .i64 a1_0, .int .i64 a1_1, .int .i64 a1_2, .int .i64 a1_3, .int .i64 a1_4] 55 (0, 0)) (kq BK682)) : gb682 ≠ gb697)); have n9_ := qa.mk ((by rw [hg]; exact Nat.ne_of_gt (qy (g := gb682) (o := .cells #[.int .i64 a1_0, .int .i64 a1_1, .int .i64 a1_2, .int .i64 a1_3, .int .i64 a1_4] 55 (0, 0)) (kq BK682)) : gb697 ≠ gb682)); have n10_ := qa.mk ((by rw [hg]; exact Nat.ne_of_lt (qy (g := gb692) (o := .cells #[.int .i64 ((ql (qp l0 x23_1) x30_2).f0), .int .i64 ((ql (qp l0 x23_1) x30_2).f1), .int .i64 ((ql (qp l0 x23_1) x30_2).f2)] 40 (0, 0)) (kq BK692)) : gb692 ≠ gb697)); have n11_ := qa.mk ((by rw [hg]; exact Nat.ne_of_gt (qy (g := gb692) (o := .cells #[.int .i64 ((ql (qp l0 x23_1) x30_2).f0), .int .i64 ((ql (qp l0 x23_1) x30_2).f1), .int .i64 ((ql (qp l0 x23_1) x30_2).f2)] 40 (0, 0)) (kq BK692)) : gb697 ≠ gb692)); clear HO_7; clear HO_10; clear BK682; clear BK692; clear HB; have HO_7 := n0_; have HO_10 := n1_; have BK682 := n2_; have BK692 := n3_; have HB := n4_; have BK697 := n5_; have GW697 := n6_; have GE697 := n7_; have NB682_697 := n8_; have NB697_682 := n9_; have NB692_697 := n10_; have NB697_692 := n11_; clear n0_ n1_ n2_ n3_ n4_ n5_ n6_ n7_ n8_ n9_ n10_ n11_; clear hb hbox hg; have hnb26 := NB697_682.out; have hnc26 := NB682_697.out; have hnb27 := NB697_692.out; have hnc27 := NB692_697.out; have hcz28_0 : w25.cell? ⟨gb697, 0, none⟩ = some (.int .i64 0) := (qb BK697.out 0).trans rfl; have hcz28_1 : w25.cell? ⟨gb697, 1, none⟩ = some (.int .i64 0) := (qb BK697.out 1).trans rfl; have hcz28_2 : w25.cell? ⟨gb697, 2, none⟩ = some (.int .i64 0) := (qb BK697.out 2).trans rfl; have hfz28_0 := qo BK697.out 0; have hfz28_1 := qo BK697.out 1; have hfz28_2 := qo BK697.out 2) | ((with_reducible refine Qq (b := .append) (xs := #[.tmp 42, .tmp 44]) rfl ?_); at_builtin; refine Kd.Jl k40 (w0 := w) w.heap.size rfl (.tmp 42) (.tmp 44) 37 40 (.agg #[(.int .i64 0), (.int .i64 0), (.int .i64 0)]) 24 rfl Try.underlying37 QW rfl (by decide) (by omega) u10 x10_2 (⟨t693, t694, t695⟩ : S40) [.int .i64 t693, .int .i64 t694, .int .i64 t695] (fun k_ => k_ ≠ gb692 ∧ k_ ≠ gb697) (fun _ => False) rfl (by first | (go_simp; done) | (go_simp; rfl)) ?aP (fun _ hk => hk.elim) ?aF ?aO ?aB ?aS ?aL ?_; (case aP => exact Qf _ _ _ (⟨t693, t694, t695⟩ : S40)); (case aB => exact (by repeat (first | (with_reducible first | exact HB.out | apply qw | apply qC | apply qJ | refine qf ?_ GE682.out | refine qf ?_ GE692.out | refine qf ?_ GE697.out) | exact HB.out))); (case aF => exact (fun k_ hk => ⟨Kd.freshB (g := gb692) (o := .cells #[.int .i64 ((ql (qp l0 x23_1) x30_2).f0), .int .i64 ((ql (qp l0 x23_1) x30_2).f1), .int .i64 ((ql (qp l0 x23_1) x30_2).f2)] 40 (0, 0)) (by (with_reducible repeat (first | refine qj ?_ _ | refine qd ?_ | refine qg ?_ _)); refine zk ?_ NB692_697.out _; refine zk ?_ NB692_697.out _; refine zk ?_ NB692_697.out _; exact kq BK692) k_ hk, Kd.freshB (g := gb697) (o := .cells #[.int .i64 t693, .int .i64 t694, .int .i64 t695] 40 (0, 0)) (by (with_reducible repeat (first | refine qj ?_ _ | refine qd ?_ | refine qg ?_ _)); refine zb (cs := #[.int .i64 t693, .int .i64 t694, .int .i64 0]) ?_ 2 _ rfl; refine zb (cs := #[.int .i64 t693, .int .i64 0, .int .i64 0]) ?_ 1 _ rfl; refine zb (cs := #[.int .i64 0, .int .i64 0, .int .i64 0]) ?_ 0 _ rfl; exact kq BK697) k_ hk⟩)); (case aO => exact (by (with_reducible repeat (first | apply Kd.Qe | apply Kd.Qv | apply Kd.Qu)); exact Kd.zV (Kd.QO (p := ⟨gb697, 2, none⟩) (Kd.QO (p := ⟨gb697, 1, none⟩) (Kd.QO (p := ⟨gb697, 0, none⟩) (Kd.zV HO_10.out (fun k_ hk => (⟨hk, hk.2⟩ : _ ∧ k_ ≠ gb697))) (fun _ hk => hk.2) (.int .i64 t693)) (fun _ hk => hk.2) (.int .i64 t694)) (fun _ hk => hk.2) (.int .i64 t695)) (fun _ hk => ⟨hk.1.1.2, hk.1.2⟩))); (case aS => exact (qx (by repeat (first | (with_reducible first | exact HB.out | apply qw | apply qC | apply qJ | refine qf ?_ GE682.out | refine qf ?_ GE692.out | refine qf ?_ GE697.out) | exact HB.out)))); (case aL => have := LMc19.out; omega); intro v699 w29 ho hb hg hat; rw [← Ny698.out] at ho; have n0_ := qa.mk (Kd.S_after (ok := (fun k_ => k_ ≠ gb692 ∧ k_ ≠ gb697)) (by (with_reducible repeat (first | apply Kd.jw | apply Kd.jv | apply Kd.jM)); exact Kd.jr (Kd.Jc (p := ⟨gb697, 2, none⟩) (Kd.Jc (p := ⟨gb697, 1, none⟩) (Kd.Jc (p := ⟨gb697, 0, none⟩) (Kd.jr HO_7.out (fun k_ hk => (⟨hk, hk.2⟩ : _ ∧ k_ ≠ gb697))) (fun _ hk => hk.2) (.int .i64 t693)) (fun _ hk => hk.2) (.int .i64 t694)) (fun _ hk => hk.2) (.int .i64 t695)) (fun _ hk => ⟨⟨hk.1.1.2, hk.1.2⟩, hk.1.1.1⟩)) hg hat); have n1_ := qa.mk (Qy (g := gb682) (o := .cells #[.int .i64 a1_0, .int .i64 a1_1, .int .i64 a1_2, .int .i64 a1_3, .int .i64 a1_4] 55 (0, 0)) (by (with_reducible repeat (first | refine qj ?_ _ | refine qd ?_ | refine qg ?_ _)); refine zk ?_ NB682_697.out _; refine zk ?_ NB682_697.out _; refine zk ?_ NB682_697.out _; exact kq BK682) hg (Kd.R_ne HO_10.out BK682.out (by decide))); have n2_ := qa.mk (Qy (g := gb692) (o := .cells #[.int .i64 ((ql (qp l0 x23_1) x30_2).f0), .int .i64 ((ql (qp l0 x23_1) x30_2).f1), .int .i64 ((ql (qp l0 x23_1) x30_2).f2)] 40 (0, 0)) (by (with_reducible repeat (first | refine qj ?_ _ | refine qd ?_ | refine qg ?_ _)); refine zk ?_ NB692_697.out _; refine zk ?_ NB692_697.out _; refine zk ?_ NB692_697.out _; exact kq BK692) hg (Kd.R_away HO_10.out (fun _ hk => hk.1.2))); have n3_ := qa.mk (Qy (g := gb697) (o := .cells #[.int .i64 t693, .int .i64 t694, .int .i64 t695] 40 (0, 0)) (by (with_reducible repeat (first | refine qj ?_ _ | refine qd ?_ | refine qg ?_ _)); refine zb (cs := #[.int .i64 t693, .int .i64 t694, .int .i64 0]) ?_ 2 _ rfl; refine zb (cs := #[.int .i64 t693, .int .i64 0, .int .i64 0]) ?_ 1 _ rfl; refine zb (cs := #[.int .i64 0, .int .i64 0, .int .i64 0]) ?_ 0 _ rfl; exact kq BK697) hg (Kd.R_away HO_10.out (fun _ hk => hk.2))); have n4_ := qa.mk (hb); have n5_ := qa.mk (ho); clear HO_7; clear BK682; clear BK692; clear BK697; clear HB; clear HO_10; have HO_7 := n0_; have BK682 := n1_; have BK692 := n2_; have BK697 := n3_; have HB := n4_; have HO700 := n5_; clear n0_ n1_ n2_ n3_ n4_ n5_; clear ho hb hg hat))
     go_roundg k2
     case measure => have := HK1.out; have := HK2.out; omega
     case rel => exact ⟨(y698), (wrap64 (x30_2 + 1)), (by first | rfl | (simp; done) | (simp [*]; done)), H', ⟨by have := HK1.out; have := HK2.out; omega⟩, ⟨by (with_reducible repeat (first | apply Kd.jw | apply Kd.jv | apply Kd.jM)); exact Kd.jr HO_7.out (fun _ hk => hk.2)⟩, ⟨by (with_reducible repeat (first | apply Kd.Qe | apply Kd.Qv | apply Kd.Qu)); exact Kd.zV HO700.out (fun _ hk => trivial)⟩, ⟨kq BK682⟩, ⟨by repeat (first | (with_reducible first | exact HB.out | apply qw | apply qC | apply qJ | refine qf ?_ GE682.out | refine qf ?_ GE692.out | refine qf ?_ GE697.out) | exact HB.out)⟩⟩
end Go.Proofs.Ytmlkpadlafjfeaa.P
