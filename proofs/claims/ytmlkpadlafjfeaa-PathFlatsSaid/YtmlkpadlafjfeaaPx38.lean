import Derived.Test.YtmlkpadlafjfeaaPx0
import Derived.Test.YtmlkpadlafjfeaaPx30
import Derived.Test.YtmlkpadlafjfeaaPx33
import Derived.Test.YtmlkpadlafjfeaaPx37
namespace Go.Proofs.Ytmlkpadlafjfeaa.P
open Go.RowKit Go.Proofs.YtmlkpadlafjfeaaW.PrintWords Go.Proofs.YtmlkpadlafjfeaaW.PrintLast Go.Proofs.YtmlkpadlafjfeaaW.PrintMore
attribute [local go_sem] zU zW jf je zJ zK zS zV
set_option linter.unusedVariables false
set_option linter.unusedSimpArgs false
mutual
def qI.l0 : Nat → List (List (S35)) → List (List (S40)) → Int → Int → Option ((List (List (S35))) × Int)
 | 0, _, _, _, _ => none
 | k + 1, x5, x21, x22, x23 => if x23 < x22 then (if 0 ≤ x23 then (if x23 < (x21.length : Int) then (if ((qC x21 x23).length : Int) = 0 then (if x5.length < 5864062014805 then (qI.l0 k (x5 ++ [[]]) x21 x22 (wrap64 (x23 + 1))) else (none)) else ((qi.f k (qC x21 x23)).bind fun bt359 => (if bt359.2.2.2.2 = true then (qI.l1 k x5 bt359.2.2.2.1 (([(⟨bt359.1, bt359.2.1⟩ : S35)] : List (S35))) x21 x22 x23 bt359.2.2.1 (bt359.2.2.1.length : Int) 0 bt359.1 bt359.2.1) else (some (([] : List (List (S35))), 61))))) else (none)) else (none)) else (some (x5, 0))
def qI.l1 : Nat → List (List (S35)) → Bool → List (S35) → List (List (S40)) → Int → Int → List (S64) → Int → Int → Int → Int → Option ((List (List (S35))) × Int)
 | 0, _, _, _, _, _, _, _, _, _, _, _ => none
 | k + 1, x5, x10, x12, x21, x22, x23, x44, x45, x46, x367000, x367001 => if x46 < x45 then (if 0 ≤ x46 then (if x46 < (x44.length : Int) then ((qx.f k x367000 x367001 ((zw x44 x46).f0) ((zw x44 x46).f1.f0) ((zw x44 x46).f1.f1)).bind fun t372 => (if x12.length + t372.length < 8796093022208 then (qI.l1 k x5 x10 (x12 ++ t372) x21 x22 x23 x44 x45 (wrap64 (x46 + 1)) ((zw x44 x46).f1.f0) ((zw x44 x46).f1.f1)) else (none))) else (none)) else (none)) else (if x10 = true then (if (x12.length : Int) > 1 then (if 0 ≤ (wrap64 ((x12.length : Int) - 1)) then (if (wrap64 ((x12.length : Int) - 1)) ≤ (x12.length : Int) then (if x5.length < 5864062014805 then (qI.l0 k (x5 ++ [(x12.take ((wrap64 ((x12.length : Int) - 1)) : Int).toNat)]) x21 x22 (wrap64 (x23 + 1))) else (none)) else (none)) else (none)) else (if x5.length < 5864062014805 then (qI.l0 k (x5 ++ [x12]) x21 x22 (wrap64 (x23 + 1))) else (none))) else (if x5.length < 5864062014805 then (qI.l0 k (x5 ++ [x12]) x21 x22 (wrap64 (x23 + 1))) else (none)))
end
def qI.f (k : Nat) (l0 : List (List (S40))) : Option ((List (List (S35))) × Int) := (qw.f k l0).bind fun t351 => (if t351 = 0 then (qI.l0 k (([] : List (List (S35)))) l0 (l0.length : Int) 0) else (some (([] : List (List (S35))), t351)))
theorem qI.zT : ∀ k, (∀ y0 y1 y2 y3, LeO (qI.l0 k y0 y1 y2 y3) (qI.l0 (k + 1) y0 y1 y2 y3)) ∧ (∀ y0 y1 y2 y3 y4 y5 y6 y7 y8 y9 y10, LeO (qI.l1 k y0 y1 y2 y3 y4 y5 y6 y7 y8 y9 y10) (qI.l1 (k + 1) y0 y1 y2 y3 y4 y5 y6 y7 y8 y9 y10))
 | 0 => ⟨fun _ _ _ _ r h => by simp [qI.l0] at h, fun _ _ _ _ _ _ _ _ _ _ _ r h => by simp [qI.l1] at h⟩
 | k + 1 => by
  obtain ⟨ih0, ih1⟩ := qI.zT k
  refine ⟨?_, ?_⟩
  ·intro y0 y1 y2 y3
   unfold qI.l0
   repeat' first
   | (with_reducible exact ih0 _ _ _ _)
   | (with_reducible exact ih1 _ _ _ _ _ _ _ _ _ _ _)
   | (with_reducible exact qi.mono _ _)
   | (with_reducible exact qw.mono _ _)
   | (with_reducible exact qx.mono _ _ _ _ _ _)
   | (with_reducible exact LeO.refl _)
   | (with_reducible exact LeO.none _)
   | (with_reducible refine LeO.ite ?_ ?_)
   | (with_reducible refine LeO.bind ?_ (fun _ => ?_))
   | exact ih0 _ _ _ _
   | exact ih1 _ _ _ _ _ _ _ _ _ _ _
   | exact qi.mono _ _
   | exact qw.mono _ _
   | exact qx.mono _ _ _ _ _ _
   | exact LeO.none _
   | refine LeO.ite ?_ ?_
   | refine LeO.bind ?_ (fun _ => ?_)
  ·intro y0 y1 y2 y3 y4 y5 y6 y7 y8 y9 y10
   unfold qI.l1
   repeat' first
   | (with_reducible exact ih0 _ _ _ _)
   | (with_reducible exact ih1 _ _ _ _ _ _ _ _ _ _ _)
   | (with_reducible exact qi.mono _ _)
   | (with_reducible exact qw.mono _ _)
   | (with_reducible exact qx.mono _ _ _ _ _ _)
   | (with_reducible exact LeO.refl _)
   | (with_reducible exact LeO.none _)
   | (with_reducible refine LeO.ite ?_ ?_)
   | (with_reducible refine LeO.bind ?_ (fun _ => ?_))
   | exact ih0 _ _ _ _
   | exact ih1 _ _ _ _ _ _ _ _ _ _ _
   | exact qi.mono _ _
   | exact qw.mono _ _
   | exact qx.mono _ _ _ _ _ _
   | exact LeO.none _
   | refine LeO.ite ?_ ?_
   | refine LeO.bind ?_ (fun _ => ?_)
theorem qI.mono : ∀ a0 k, LeO (qI.f k a0) (qI.f (k + 1) a0) := by
 intro a0 k
 obtain ⟨ih0, ih1⟩ := qI.zT k
 unfold qI.f
 repeat' first
   | (with_reducible exact ih0 _ _ _ _)
   | (with_reducible exact ih1 _ _ _ _ _ _ _ _ _ _ _)
   | (with_reducible exact qi.mono _ _)
   | (with_reducible exact qw.mono _ _)
   | (with_reducible exact qx.mono _ _ _ _ _ _)
   | (with_reducible exact LeO.refl _)
   | (with_reducible exact LeO.none _)
   | (with_reducible refine LeO.ite ?_ ?_)
   | (with_reducible refine LeO.bind ?_ (fun _ => ?_))
   | exact ih0 _ _ _ _
   | exact ih1 _ _ _ _ _ _ _ _ _ _ _
   | exact qi.mono _ _
   | exact qw.mono _ _
   | exact qx.mono _ _ _ _ _ _
   | exact LeO.none _
   | refine LeO.ite ?_ ?_
   | refine LeO.bind ?_ (fun _ => ?_)
set_option maxHeartbeats 8000000 in
set_option maxRecDepth 100000 in
theorem qI.calls (k : Nat) (A0 : Option Addr) (c0 : Nat) (l0 : List (List (S40))) (r1 : List (List (S35))) (r2 : Int) (w : World) (hr0 : Kd.C (Kd.slice 40 k40) w A0 l0.length l0) (hc0 : l0.length ≤ c0) (h : qI.f k l0 = some (r1, r2)) :
  Calls Try.prog 12 #[.slice A0 l0.length c0] w fun e w' => ∃ v0_ : Value, e = .returned (.tuple #[v0_, .int .i64 r2]) ∧ Kd.S (Kd.slice 35 k35) 33 w' w.heap.size (fun _ => True) v0_ r1 ∧ Below w.heap.size w w' := by
 have hu35 := Try.underlying35
 have hu64 := Try.underlying64
 have HR0 := qa.mk hr0
 have HC0 := qa.mk hc0
 clear hr0 hc0
 have HB := qa.mk (Below.refl w.heap.size w)
 have H : ((qw.f k l0).bind fun t351 => (if t351 = 0 then (qI.l0 k (([] : List (List (S35)))) l0 (l0.length : Int) 0) else (some (([] : List (List (S35))), t351)))) = some (r1, r2) := h
 clear h
 replace H := Option.bind_eq_some_iff.mp H
 obtain ⟨t351, A20, H⟩ := H
 replace H : (if t351 = 0 then (qI.l0 k (([] : List (List (S35)))) l0 (l0.length : Int) 0) else (some (([] : List (List (S35))), t351))) = some (r1, r2) := H
 have A2 := qa.mk A20
 clear A20
 by_cases c3 : t351 = 0
 case neg =>
  rw [if_neg c3] at H
  have c3b0 : (t351 == 0) = false := beq_eq_false_iff_ne.mpr c3
  have c3b1 : (t351 != 0) = true := bne_iff_ne.mpr c3
  simp only [Option.some.injEq, Prod.mk.injEq] at H
  obtain ⟨rfl, rfl⟩ := H
  go_enter Try.func12, Try.ntmps12
  go_wp2_with (first | ((with_reducible refine zI (f := 17) rfl ?_); refine jM (some 16) rfl rfl Try.func17 (by kernel_rfl) rfl #[.slice A0 l0.length c0] rfl (by (try simp only [List.map_toArray, List.map_cons, List.map_nil]); first | done | rfl | (simp only [List.length_drop, List.length_take]; rfl)) ?_; (with_reducible refine (qw.calls k _ _ l0 t351 _ ?side1 ?side2 A2.out).mono ?_); (case side1 => repeat (first | exact HR0.out | (with_reducible refine Kd.Qd ?_ _) | (with_reducible refine Kd.Qe ?_ _) | (with_reducible refine Kd.Qm ?_))); (case side2 => exact HC0.out); rintro e w53 ⟨rfl, hb⟩; refine ⟨_, rfl, ?_⟩; have n0_ := qa.mk (qE (bq HB) hb); clear HB; have HB := n0_; clear n0_; (try clear hb); (try clear hb2); (try clear hk); (try clear hi)))
  go_ret2
  exact ⟨_, by first | rfl | (simp [qR, qU] <;> rfl) | (simp [*, qR, qU] <;> rfl), by first | exact Kd.Jf _ _ _ _ _ | exact Kd.Jj _ _ _ _ _ | exact Kd.Jh _ _ _ _ _ | exact Kd.Jk _ _ _ _ _ | exact Kd.Ql _ _ _ _ _, bq HB⟩
 rw [if_pos c3] at H
 have c3b0 : (t351 == 0) = true := beq_iff_eq.mpr c3
 have c3b1 : (t351 != 0) = false := bne_eq_false_iff_eq.mpr c3
 clear c3
 obtain ⟨y352, hy352⟩ : ∃ y_ : List (List (S35)), y_ = (([] : List (List (S35)))) := ⟨_, rfl⟩
 replace H : (qI.l0 k y352 l0 (l0.length : Int) 0) = some (r1, r2) := by first | (rw [hy352]; with_reducible exact H) | (have H2_ := (Option.bind_some _ _).symm.trans H; rw [hy352]; with_reducible exact H2_) | (have H2_ := (Option.bind_some _ _).symm.trans H; with_reducible exact H2_) | with_reducible exact H | (rw [hy352]; exact H) | exact H
 have Ny352 := qa.mk hy352
 clear hy352
 have H' := qa.mk H
 clear H
 go_enter Try.func12, Try.ntmps12
 go_wp2_with (first | ((with_reducible refine zI (f := 17) rfl ?_); refine jM (some 16) rfl rfl Try.func17 (by kernel_rfl) rfl #[.slice A0 l0.length c0] rfl (by (try simp only [List.map_toArray, List.map_cons, List.map_nil]); first | done | rfl | (simp only [List.length_drop, List.length_take]; rfl)) ?_; (with_reducible refine (qw.calls k _ _ l0 t351 _ ?side1 ?side2 A2.out).mono ?_); (case side1 => repeat (first | exact HR0.out | (with_reducible refine Kd.Qd ?_ _) | (with_reducible refine Kd.Qe ?_ _) | (with_reducible refine Kd.Qm ?_))); (case side2 => exact HC0.out); rintro e w4 ⟨rfl, hb⟩; refine ⟨_, rfl, ?_⟩; have n0_ := qa.mk (qE (bq HB) hb); clear HB; have HB := n0_; clear n0_; (try clear hb); (try clear hb2); (try clear hk); (try clear hi)) | ((with_reducible refine zf (N := 20) rfl ?_); (try (refine jO (by rfl) ?_; dsimp only)); refine Kd.S_lit (Kd.slice 35 k35) _ 33 ?hg (N := 20) ?hd (xs := ([] : List (List (S35)))) (inner := []) (ok := fun _ => True) (okp := fun _ => True) ?hr ?hp (fun _ hk => hk) trivial (Below.refl _ _) (Nat.le_refl _) (by simp) ?_; (case hd => rfl); (case hg => rfl); (case hr => first | (go_simp; done) | (go_simp; rfl)); (case hp => exact (zx.none _ _)); intro v353 w5 ho6 hb hg_ hnew_; clear hg_ hnew_; (first | rw [← Ny352.out] at ho6 | (simp only [Int.reduceToNat] at ho6; rw [← Ny352.out] at ho6)); have n0_ := qa.mk (Kd.Jo ho6 (qy (bq HB))); have n1_ := qa.mk (qE (bq HB) hb); clear HB; have HO354 := n0_; have HB := n1_; clear n0_ n1_; clear hb ho6))
 go_loopg [5, 23] k (fun kq v5 v23 w' => ∃ (x5_1 : List (List (S35))) (x23_1 : Int), v23 = .int .i64 x23_1 ∧ qa (qI.l0 kq x5_1 l0 (l0.length : Int) x23_1 = some (r1, r2)) ∧ qa (kq ≤ k) ∧ qa (Kd.S (Kd.slice 35 k35) 33 w' w.heap.size (fun _ => True) v5 x5_1) ∧ qa (Below w.heap.size w w'))
 case atStart => exact ⟨(y352), (0), (by first | rfl | (simp; done) | (simp [*]; done)), H', ⟨Nat.le_refl _⟩, ⟨by (with_reducible repeat (first | apply Kd.zi | apply Kd.zk | apply Kd.zn)); exact HO354.out⟩, ⟨bq HB⟩⟩
 case round =>
  clear H'
  try clear c1
  try clear p2
  try clear c3
  try clear c3b0
  try clear c3b1
  obtain ⟨x5_1, x23_1, rfl, HA, HK1, HO_5, HB⟩ := hrel
  cases gk with
  | zero => exact absurd HA.out (by simp [qI.l0])
  | succ k1 =>
   have H := HA.out
   clear HA
   simp only [qI.l0] at H
   by_cases c7 : x23_1 < (l0.length : Int)
   case neg =>
    rw [if_neg c7] at H
    have c7b0 : decide (x23_1 < (l0.length : Int)) = false := decide_eq_false c7
    clear c7
    simp only [Option.some.injEq, Prod.mk.injEq] at H
    obtain ⟨rfl, rfl⟩ := H
    go_wp2
    go_ret2
    exact ⟨_, by first | rfl | (simp [qR, qU] <;> rfl) | (simp [*, qR, qU] <;> rfl), by (with_reducible repeat (first | apply Kd.zi | apply Kd.zk | apply Kd.zn)); exact HO_5.out, bq HB⟩
   rw [if_pos c7] at H
   have c7b0 : decide (x23_1 < (l0.length : Int)) = true := decide_eq_true c7
   clear c7
   by_cases c8 : 0 ≤ x23_1
   case neg =>
    rw [if_neg c8] at H
    exact absurd H (by simp)
   rw [if_pos c8] at H
   have c8b0 : decide (0 ≤ x23_1) = true := decide_eq_true c8
   clear c8
   by_cases c9 : x23_1 < (l0.length : Int)
   case neg =>
    rw [if_neg c9] at H
    exact absurd H (by simp)
   rw [if_pos c9] at H
   have c9b0 : decide (x23_1 < (l0.length : Int)) = true := decide_eq_true c9
   clear c9
   by_cases c10 : ((qC l0 x23_1).length : Int) = 0
   ·rw [if_pos c10] at H
    have c10b0 : (((qC l0 x23_1).length : Int) == 0) = true := beq_iff_eq.mpr c10
    have c10b1 : (((qC l0 x23_1).length : Int) != 0) = false := bne_eq_false_iff_eq.mpr c10
    clear c10
    by_cases c11 : x5_1.length < 5864062014805
    case neg =>
     rw [if_neg c11] at H
     exact absurd H (by simp)
    rw [if_pos c11] at H
    have LMc11 := qa.mk c11
    clear c11
    obtain ⟨y356, hy356⟩ : ∃ y_ : List (List (S35)), y_ = (x5_1 ++ [[]]) := ⟨_, rfl⟩
    replace H : (qI.l0 k1 y356 l0 (l0.length : Int) (wrap64 (x23_1 + 1))) = some (r1, r2) := by first | (rw [hy356]; with_reducible exact H) | (have H2_ := (Option.bind_some _ _).symm.trans H; rw [hy356]; with_reducible exact H2_) | (have H2_ := (Option.bind_some _ _).symm.trans H; with_reducible exact H2_) | with_reducible exact H | (rw [hy356]; exact H) | exact H
    have Ny356 := qa.mk hy356
    clear hy356
    have H' := qa.mk H
    clear H
    have p355 : 0 ≤ (x23_1 : Int) := odt
    have q355 : x23_1 < (l0.length : Int) := odt
    obtain ⟨ad355, A355_0, c355_0, e355, hx355_0, hl355_0, hi355_0⟩ := Qy HR0.out x23_1 p355 q355
    cases e355
    replace hx355_0 := (HB.out.cell (World.block_lt_of_cell? w _ hx355_0)).trans hx355_0
    have HR355_0 := qa.mk hi355_0
    have HC355_0 := qa.mk hl355_0
    clear hi355_0 hl355_0
    replace p355 := eq_true p355
    replace q355 := eq_true q355
    go_wp2_with (first | ((with_reducible refine jw (b := .append) (xs := #[.tmp 30, .tmp 31]) rfl ?_); (try (refine jO (by rfl) ?_; dsimp only)); at_builtin; refine Kd.Zo (Kd.slice 35 k35) (w0 := w) w.heap.size rfl (.tmp 30) (.tmp 31) 25 33 (.slice none 0 0) 24 rfl Try.underlying25 info33 rfl (by decide) (by omega) u5 x5_1 [] [.slice none 0 0] (fun _ => True) (fun _ => False) rfl rfl ?aP (fun _ hk => hk.elim) ?aF ?aO ?aB ?aS ?aL ?_; (case aP => exact Kd.JE (Kd.Ql _ _ _ _ _)); (case aB => exact (bq HB)); (case aF => exact (fun _ _ => trivial)); (case aO => exact (by (with_reducible repeat (first | apply Kd.zi | apply Kd.zk | apply Kd.zn)); exact Kd.zC HO_5.out (fun k_ hk => ⟨trivial, fun e_ => e_⟩))); (case aS => exact (qy (bq HB))); (case aL => have := LMc11.out; omega); intro v357 w12 ho hb hg hat; rw [← Ny356.out] at ho; have n0_ := qa.mk (hb); have n1_ := qa.mk (ho); clear HB; clear HO_5; have HB := n0_; have HO358 := n1_; clear n0_ n1_; clear ho hb hg hat))
    go_roundg k1
    case measure => have := HK1.out; omega
    case rel => exact ⟨(y356), (wrap64 (x23_1 + 1)), (by first | rfl | (simp; done) | (simp [*]; done)), H', ⟨by have := HK1.out; omega⟩, ⟨by (with_reducible repeat (first | apply Kd.zi | apply Kd.zk | apply Kd.zn)); exact HO358.out⟩, ⟨bq HB⟩⟩
   rw [if_neg c10] at H
   have c10b0 : (((qC l0 x23_1).length : Int) == 0) = false := beq_eq_false_iff_ne.mpr c10
   have c10b1 : (((qC l0 x23_1).length : Int) != 0) = true := bne_iff_ne.mpr c10
   have c10b2 : ¬ ((qC l0 x23_1) = []) := fun h_ => c10 (by rw [h_]; rfl)
   replace H := Option.bind_eq_some_iff.mp H
   obtain ⟨⟨t359, t360, t361, t364, t365⟩, A130, H⟩ := H
   replace H : (if t365 = true then (qI.l1 k1 x5_1 t364 (([(⟨t359, t360⟩ : S35)] : List (S35))) l0 (l0.length : Int) x23_1 t361 (t361.length : Int) 0 t359 t360) else (some (([] : List (List (S35))), 61))) = some (r1, r2) := H
   have A13 := qa.mk A130
   clear A130
   by_cases c14 : t365 = true
   case neg =>
    replace c14 := Bool.eq_false_iff.mpr c14
    subst c14
    have H1 : (some (([] : List (List (S35))), 61)) = some (r1, r2) := by rw [if_neg (show ¬ (false = true) by decide)] at H; exact H
    clear H
    have H := H1
    clear H1
    simp only [Option.some.injEq, Prod.mk.injEq] at H
    obtain ⟨rfl, rfl⟩ := H
    have p355 : 0 ≤ (x23_1 : Int) := odt
    have q355 : x23_1 < (l0.length : Int) := odt
    obtain ⟨ad355, A355_0, c355_0, e355, hx355_0, hl355_0, hi355_0⟩ := Qy HR0.out x23_1 p355 q355
    cases e355
    replace hx355_0 := (HB.out.cell (World.block_lt_of_cell? w _ hx355_0)).trans hx355_0
    have HR355_0 := qa.mk hi355_0
    have HC355_0 := qa.mk hl355_0
    clear hi355_0 hl355_0
    replace p355 := eq_true p355
    replace q355 := eq_true q355
    go_wp2_with (first | ((with_reducible refine zI (f := 26) rfl ?_); refine jM (some 35) rfl rfl Try.func26 (by kernel_rfl) rfl #[.slice A355_0 (qC l0 x23_1).length c355_0] rfl (by (try simp only [List.map_toArray, List.map_cons, List.map_nil]); first | done | rfl | (simp only [List.length_drop, List.length_take]; rfl)) ?_; (with_reducible refine (qi.calls k1 _ _ (qC l0 x23_1) t359 t360 t361 t364 false _ ?side1 ?side2 A13.out).mono ?_); (case side1 => repeat (first | exact (Kd.zZ HR355_0.out HB.out) | (with_reducible refine Kd.Qd ?_ _) | (with_reducible refine Kd.Qe ?_ _) | (with_reducible refine Kd.Qm ?_))); (case side2 => exact HC355_0.out); rintro e w50 ⟨v362, rfl, ho0, hb⟩; refine ⟨_, rfl, ?_⟩; have n0_ := qa.mk (Kd.jA (by (with_reducible repeat (first | apply Kd.zi | apply Kd.zk | apply Kd.zn)); exact HO_5.out) hb); have n1_ := qa.mk (Kd.Jo ho0 (qy (bq HB))); have n2_ := qa.mk (qE (bq HB) hb); clear HO_5; clear HB; have HO_5 := n0_; have HO363 := n1_; have HB := n2_; clear n0_ n1_ n2_; (try clear hb); (try clear hb2); (try clear hk); (try clear hi); (try clear ho0)) | ((with_reducible refine zf (N := 8) rfl ?_); (try (refine jO (by rfl) ?_; dsimp only)); refine zm ?hg (N := 8) ?hd (cs := #[.int .i64 0, .int .i64 0]) (t := 35) ?hr ?_; (case hd => rfl); (case hg => rfl); (case hr => first | (go_simp; done) | (go_simp; rfl)); intro gb366 hg w51 hbox hb; have n0_ := qa.mk (Kd.jA (Kd.Zf (by (with_reducible repeat (first | apply Kd.zi | apply Kd.zk | apply Kd.zn)); exact HO_5.out) gb366 (Nat.le_of_eq hg.symm)) hb); have n1_ := qa.mk (Kd.jA (Kd.Zf (by (with_reducible repeat (first | apply Kd.zi | apply Kd.zk | apply Kd.zn)); exact HO363.out) gb366 (Nat.le_of_eq hg.symm)) hb); have n2_ := qa.mk (qE (bq HB) hb); have n3_ := qa.mk (hbox); have n4_ := qa.mk ((by rw [hg]; exact (qy (bq HB)) : w.heap.size ≤ gb366)); have n5_ := qa.mk ((by rw [hg]; exact (qy (bq HB)) : w.heap.size ≤ gb366)); clear HO_5; clear HO363; clear HB; have HO_5 := n0_; have HO363 := n1_; have HB := n2_; have BK366 := n3_; have GW366 := n4_; have GE366 := n5_; clear n0_ n1_ n2_ n3_ n4_ n5_; clear hb hbox hg; have hcz52_0 : w51.cell? ⟨gb366, 0, none⟩ = some (.int .i64 0) := (qf BK366.out 0).trans rfl; have hcz52_1 : w51.cell? ⟨gb366, 1, none⟩ = some (.int .i64 0) := (qf BK366.out 1).trans rfl; have hfz52_0 := qj BK366.out 0; have hfz52_1 := qj BK366.out 1))
    go_ret2
    exact ⟨_, by first | rfl | (simp [qR, qU] <;> rfl) | (simp [*, qR, qU] <;> rfl), by first | exact Kd.Jf _ _ _ _ _ | exact Kd.Jj _ _ _ _ _ | exact Kd.Jh _ _ _ _ _ | exact Kd.Jk _ _ _ _ _ | exact Kd.Ql _ _ _ _ _, bs HB GE366⟩
   subst c14
   have H1 : (qI.l1 k1 x5_1 t364 (([(⟨t359, t360⟩ : S35)] : List (S35))) l0 (l0.length : Int) x23_1 t361 (t361.length : Int) 0 t359 t360) = some (r1, r2) := by rw [if_pos rfl] at H; exact H
   clear H
   have H := H1
   clear H1
   obtain ⟨y367, hy367⟩ : ∃ y_ : List (S35), y_ = (([(⟨t359, t360⟩ : S35)] : List (S35))) := ⟨_, rfl⟩
   replace H : (qI.l1 k1 x5_1 t364 y367 l0 (l0.length : Int) x23_1 t361 (t361.length : Int) 0 t359 t360) = some (r1, r2) := by first | (rw [hy367]; with_reducible exact H) | (have H2_ := (Option.bind_some _ _).symm.trans H; rw [hy367]; with_reducible exact H2_) | (have H2_ := (Option.bind_some _ _).symm.trans H; with_reducible exact H2_) | with_reducible exact H | (rw [hy367]; exact H) | exact H
   have Ny367 := qa.mk hy367
   clear hy367
   have H' := qa.mk H
   clear H
   have p355 : 0 ≤ (x23_1 : Int) := odt
   have q355 : x23_1 < (l0.length : Int) := odt
   obtain ⟨ad355, A355_0, c355_0, e355, hx355_0, hl355_0, hi355_0⟩ := Qy HR0.out x23_1 p355 q355
   cases e355
   replace hx355_0 := (HB.out.cell (World.block_lt_of_cell? w _ hx355_0)).trans hx355_0
   have HR355_0 := qa.mk hi355_0
   have HC355_0 := qa.mk hl355_0
   clear hi355_0 hl355_0
   replace p355 := eq_true p355
   replace q355 := eq_true q355
   go_wp2_with (first | ((with_reducible refine zI (f := 26) rfl ?_); refine jM (some 35) rfl rfl Try.func26 (by kernel_rfl) rfl #[.slice A355_0 (qC l0 x23_1).length c355_0] rfl (by (try simp only [List.map_toArray, List.map_cons, List.map_nil]); first | done | rfl | (simp only [List.length_drop, List.length_take]; rfl)) ?_; (with_reducible refine (qi.calls k1 _ _ (qC l0 x23_1) t359 t360 t361 t364 true _ ?side1 ?side2 A13.out).mono ?_); (case side1 => repeat (first | exact (Kd.zZ HR355_0.out HB.out) | (with_reducible refine Kd.Qd ?_ _) | (with_reducible refine Kd.Qe ?_ _) | (with_reducible refine Kd.Qm ?_))); (case side2 => exact HC355_0.out); rintro e w15 ⟨v362, rfl, ho0, hb⟩; refine ⟨_, rfl, ?_⟩; have n0_ := qa.mk (Kd.jA (by (with_reducible repeat (first | apply Kd.zi | apply Kd.zk | apply Kd.zn)); exact HO_5.out) hb); have n1_ := qa.mk (Kd.Jo ho0 (qy (bq HB))); have n2_ := qa.mk (qE (bq HB) hb); clear HO_5; clear HB; have HO_5 := n0_; have HO363 := n1_; have HB := n2_; clear n0_ n1_ n2_; (try clear hb); (try clear hb2); (try clear hk); (try clear hi); (try clear ho0)) | ((with_reducible refine zf (N := 8) rfl ?_); (try (refine jO (by rfl) ?_; dsimp only)); refine zm ?hg (N := 8) ?hd (cs := #[.int .i64 0, .int .i64 0]) (t := 35) ?hr ?_; (case hd => rfl); (case hg => rfl); (case hr => first | (go_simp; done) | (go_simp; rfl)); intro gb366 hg w16 hbox hb; have n0_ := qa.mk (Kd.jA (Kd.Zf (by (with_reducible repeat (first | apply Kd.zi | apply Kd.zk | apply Kd.zn)); exact HO_5.out) gb366 (Nat.le_of_eq hg.symm)) hb); have n1_ := qa.mk (Kd.jA (Kd.Zf (by (with_reducible repeat (first | apply Kd.zi | apply Kd.zk | apply Kd.zn)); exact HO363.out) gb366 (Nat.le_of_eq hg.symm)) hb); have n2_ := qa.mk (qE (bq HB) hb); have n3_ := qa.mk (hbox); have n4_ := qa.mk ((by rw [hg]; exact (qy (bq HB)) : w.heap.size ≤ gb366)); have n5_ := qa.mk ((by rw [hg]; exact (qy (bq HB)) : w.heap.size ≤ gb366)); clear HO_5; clear HO363; clear HB; have HO_5 := n0_; have HO363 := n1_; have HB := n2_; have BK366 := n3_; have GW366 := n4_; have GE366 := n5_; clear n0_ n1_ n2_ n3_ n4_ n5_; clear hb hbox hg; have hcz17_0 : w16.cell? ⟨gb366, 0, none⟩ = some (.int .i64 0) := (qf BK366.out 0).trans rfl; have hcz17_1 : w16.cell? ⟨gb366, 1, none⟩ = some (.int .i64 0) := (qf BK366.out 1).trans rfl; have hfz17_0 := qj BK366.out 0; have hfz17_1 := qj BK366.out 1) | ((with_reducible refine zf (N := 43) rfl ?_); (try (refine jO (by rfl) ?_; dsimp only)); refine Kd.Zr k35 _ 35 ?hg (N := 43) ?hd (xs := ([(⟨t359, t360⟩ : S35)] : List (S35))) (inner := [.int .i64 t359, .int .i64 t360]) (ok := fun _ => True) (okp := fun _ => True) ?hr ?hp (fun _ hk => hk) trivial (Below.refl _ _) (Nat.le_refl _) (by simp) ?_; (case hd => rfl); (case hg => rfl); (case hr => first | (go_simp; done) | (go_simp; rfl)); (case hp => exact (zx.c2 (show Kd.M k35 _ _ _ (⟨t359, t360⟩ : S35) [.int .i64 t359, .int .i64 t360] from (QB _ _ _ (⟨t359, t360⟩ : S35) )) (zx.none _ _))); intro v368 w18 ho19 hb hg_ hnew_; clear hg_ hnew_; (first | rw [← Ny367.out] at ho19 | (simp only [Int.reduceToNat] at ho19; rw [← Ny367.out] at ho19)); have n0_ := qa.mk (Kd.Zn (by (with_reducible repeat (first | apply Kd.zi | apply Kd.zk | apply Kd.zn)); exact (Kd.zC (Kd.jo (p := ⟨gb366, 1, none⟩) (Kd.jo (p := ⟨gb366, 0, none⟩) (Kd.zC HO_5.out (fun k_ hk => (⟨hk, hk.2⟩ : _ ∧ k_ ≠ gb366))) (fun _ hk => hk.2) (.int .i64 t359)) (fun _ hk => hk.2) (.int .i64 t360)) (fun _ h_ => h_.1))) (Kd.QA ho19) hb); have n1_ := qa.mk (Kd.Zn (by (with_reducible repeat (first | apply Kd.zi | apply Kd.zk | apply Kd.zn)); exact (Kd.zC (Kd.jo (p := ⟨gb366, 1, none⟩) (Kd.jo (p := ⟨gb366, 0, none⟩) (Kd.zC HO363.out (fun k_ hk => (⟨hk, hk.2⟩ : _ ∧ k_ ≠ gb366))) (fun _ hk => hk.2) (.int .i64 t359)) (fun _ hk => hk.2) (.int .i64 t360)) (fun _ h_ => h_.1))) (Kd.QA ho19) hb); have n2_ := qa.mk (Kd.jZ (Kd.ZM ho19 (g := gb366) (o := .cells #[.int .i64 t359, .int .i64 t360] 35 (0, 0)) (by (with_reducible repeat (first | refine qh ?_ _ | refine qc ?_ | refine qd ?_ _)); refine zb (cs := #[.int .i64 t359, .int .i64 0]) ?_ 1 _ rfl; refine zb (cs := #[.int .i64 0, .int .i64 0]) ?_ 0 _ rfl; exact kq BK366)) (qy (bs HB GE366))); have n3_ := qa.mk (qN (g := gb366) (o := .cells #[.int .i64 t359, .int .i64 t360] 35 (0, 0)) (by (with_reducible repeat (first | refine qh ?_ _ | refine qc ?_ | refine qd ?_ _)); refine zb (cs := #[.int .i64 t359, .int .i64 0]) ?_ 1 _ rfl; refine zb (cs := #[.int .i64 0, .int .i64 0]) ?_ 0 _ rfl; exact kq BK366) hb); have n4_ := qa.mk (qE (bs HB GE366) hb); clear HO_5; clear HO363; clear BK366; clear HB; have HO_5 := n0_; have HO363 := n1_; have HO369 := n2_; have BK366 := n3_; have HB := n4_; clear n0_ n1_ n2_ n3_ n4_; clear hb ho19; obtain ⟨Ao20, co20, eo20⟩ := Kd.S_slice HO363.out; subst eo20))
   go_loopg [12, 46] k1 (fun kq v12 v46 w' => ∃ (x12_2 : List (S35)) (x46_2 : Int) (x367000_2 : Int) (x367001_2 : Int), v46 = .int .i64 x46_2 ∧ qa (qI.l1 kq x5_1 t364 x12_2 l0 (l0.length : Int) x23_1 t361 (t361.length : Int) x46_2 x367000_2 x367001_2 = some (r1, r2)) ∧ qa (kq ≤ k1) ∧ qa (Kd.S (Kd.slice 35 k35) 33 w' w.heap.size (fun k_ => some k_ ≠ (v12 : Value).ownBlock ∧ k_ ≠ gb366) u5 x5_1) ∧ qa (Kd.R k35 35 w' w.heap.size (fun k_ => k_ ≠ gb366) v12 x12_2) ∧ qa (Kd.S k64 64 w' w.heap.size (fun k_ => some k_ ≠ (v12 : Value).ownBlock ∧ k_ ≠ gb366) (.slice Ao20 t361.length co20) t361) ∧ qa (w'.heap[gb366]? = some (.cells #[.int .i64 x367000_2, .int .i64 x367001_2] 35 (0, 0))) ∧ qa (Below w.heap.size w w'))
   case atStart => exact ⟨(y367), (0), (t359), (t360), (by first | rfl | (simp; done) | (simp [*]; done)), H', ⟨Nat.le_refl _⟩, ⟨by (with_reducible repeat (first | apply Kd.zi | apply Kd.zk | apply Kd.zn)); exact Kd.zC HO_5.out (fun _ hk => ⟨hk.2, hk.1.2⟩)⟩, ⟨by (with_reducible repeat (first | apply Kd.zX | apply Kd.z8 | apply Kd.zR)); exact Kd.zq HO369.out (fun _ hk => hk.2)⟩, ⟨by (with_reducible repeat (first | apply Kd.zi | apply Kd.zk | apply Kd.zn)); exact Kd.zC HO363.out (fun _ hk => ⟨hk.2, hk.1.2⟩)⟩, ⟨kq BK366⟩, ⟨bs HB GE366⟩⟩
   case round =>
    clear H'
    try clear c1
    try clear c2
    try clear p2
    try clear c3
    try clear c3b0
    try clear c3b1
    try clear p3
    try clear q3
    try clear hx3
    try clear p6
    try clear c7
    try clear c7b0
    try clear c8
    try clear c8b0
    try clear c9
    try clear c9b0
    try clear c10
    try clear c10b0
    try clear c10b1
    try clear c10b2
    try clear c11
    try clear c12
    try clear c14
    try clear c17
    try clear hcz17_0
    try clear hcz17_1
    try clear hfz17_0
    try clear hfz17_1
    try clear hx355_0
    try clear p2
    try clear p355
    try clear q355
    obtain ⟨x12_2, x46_2, x367000_2, x367001_2, rfl, HA, HK2, HO_5, HO_12, HO_44, BK366, HB⟩ := hrel
    cases gk with
    | zero => exact absurd HA.out (by simp [qI.l1])
    | succ k2 =>
     have H := HA.out
     clear HA
     simp only [qI.l1] at H
     by_cases c21 : x46_2 < (t361.length : Int)
     case neg =>
      rw [if_neg c21] at H
      have c21b0 : decide (x46_2 < (t361.length : Int)) = false := decide_eq_false c21
      clear c21
      by_cases c35 : t364 = true
      case neg =>
       replace c35 := Bool.eq_false_iff.mpr c35
       subst c35
       have H1 : (if x5_1.length < 5864062014805 then (qI.l0 k2 (x5_1 ++ [x12_2]) l0 (l0.length : Int) (wrap64 (x23_1 + 1))) else (none)) = some (r1, r2) := by rw [if_neg (show ¬ (false = true) by decide)] at H; exact H
       clear H
       have H := H1
       clear H1
       by_cases c47 : x5_1.length < 5864062014805
       case neg =>
        rw [if_neg c47] at H
        exact absurd H (by simp)
       rw [if_pos c47] at H
       have LMc47 := qa.mk c47
       clear c47
       obtain ⟨y387, hy387⟩ : ∃ y_ : List (List (S35)), y_ = (x5_1 ++ [x12_2]) := ⟨_, rfl⟩
       replace H : (qI.l0 k2 y387 l0 (l0.length : Int) (wrap64 (x23_1 + 1))) = some (r1, r2) := by first | (rw [hy387]; with_reducible exact H) | (have H2_ := (Option.bind_some _ _).symm.trans H; rw [hy387]; with_reducible exact H2_) | (have H2_ := (Option.bind_some _ _).symm.trans H; with_reducible exact H2_) | with_reducible exact H | (rw [hy387]; exact H) | exact H
       have Ny387 := qa.mk hy387
       clear hy387
       have H' := qa.mk H
       clear H
       obtain ⟨Ao49, co49, eo49⟩ := Kd.jJ HO_12.out
       subst eo49
       go_wp2_with (first | ((with_reducible refine jw (b := .append) (xs := #[.tmp 69, .tmp 71]) rfl ?_); (try (refine jO (by rfl) ?_; dsimp only)); at_builtin; refine Kd.Zo (Kd.slice 35 k35) (w0 := w) w.heap.size rfl (.tmp 69) (.tmp 71) 25 33 (.slice none 0 0) 24 rfl Try.underlying25 info33 rfl (by decide) (by omega) u5 x5_1 x12_2 [.slice Ao49 x12_2.length co49] (fun k_ => k_ ≠ gb366) (fun k_ => some k_ = (.slice Ao49 x12_2.length co49 : Value).ownBlock) rfl rfl ?aP (fun k_ hk_ => ((Kd.zq (ok' := fun k_ => ((fun k_ => k_ ≠ gb366)) k_ ∧ some k_ ≠ (u5 : Value).ownBlock) (Kd.jP (HO_12.out) (Kd.jN HO_5.out) (by decide)) (fun k_ hk => ⟨hk.1, hk.2⟩))).1 k_ hk_.symm) ?aF ?aO ?aB ?aS ?aL ?_; (case aP => exact Kd.JE (Kd.zq (Kd.Zq rfl (Kd.zq (ok' := fun k_ => ((fun k_ => k_ ≠ gb366)) k_ ∧ some k_ ≠ (u5 : Value).ownBlock) (Kd.jP (HO_12.out) (Kd.jN HO_5.out) (by decide)) (fun k_ hk => ⟨hk.1, hk.2⟩))) (fun _ h_ => h_))); (case aB => exact (bs HB GE366)); (case aF => exact (fun k_ hk => Kd.jL (g := gb366) (o := .cells #[.int .i64 x367000_2, .int .i64 x367001_2] 35 (0, 0)) (kq BK366) k_ hk)); (case aO => exact (by (with_reducible repeat (first | apply Kd.zi | apply Kd.zk | apply Kd.zn)); exact Kd.zC HO_5.out (fun k_ hk => ⟨hk.2, fun e_ => hk.1 e_⟩))); (case aS => exact (qy (bs HB GE366))); (case aL => have := LMc47.out; omega); intro v388 w48 ho hb hg hat; rw [← Ny387.out] at ho; have n0_ := qa.mk (Kd.S_over' (by (with_reducible repeat (first | apply Kd.zi | apply Kd.zk | apply Kd.zn)); exact HO_44.out) (Kd.jN (by (with_reducible repeat (first | apply Kd.zi | apply Kd.zk | apply Kd.zn)); exact HO_5.out)) (by decide) hg); have n1_ := qa.mk (zy (g := gb366) (o := .cells #[.int .i64 x367000_2, .int .i64 x367001_2] 35 (0, 0)) (kq BK366) hg (Kd.QX HO_5.out BK366.out (by decide))); have n2_ := qa.mk (hb); have n3_ := qa.mk (ho); clear HO_44; clear BK366; clear HB; clear HO_5; clear HO_12; have HO_44 := n0_; have BK366 := n1_; have HB := n2_; have HO389 := n3_; clear n0_ n1_ n2_ n3_; clear ho hb hg hat))
       go_roundg k2
       case measure => have := HK1.out; have := HK2.out; omega
       case rel => exact ⟨(y387), (wrap64 (x23_1 + 1)), (by first | rfl | (simp; done) | (simp [*]; done)), H', ⟨by have := HK1.out; have := HK2.out; omega⟩, ⟨by (with_reducible repeat (first | apply Kd.zi | apply Kd.zk | apply Kd.zn)); exact Kd.zC HO389.out (fun _ hk => trivial)⟩, ⟨bs HB GE366⟩⟩
      subst c35
      have H1 : (if (x12_2.length : Int) > 1 then (if 0 ≤ (wrap64 ((x12_2.length : Int) - 1)) then (if (wrap64 ((x12_2.length : Int) - 1)) ≤ (x12_2.length : Int) then (if x5_1.length < 5864062014805 then (qI.l0 k2 (x5_1 ++ [(x12_2.take ((wrap64 ((x12_2.length : Int) - 1)) : Int).toNat)]) l0 (l0.length : Int) (wrap64 (x23_1 + 1))) else (none)) else (none)) else (none)) else (if x5_1.length < 5864062014805 then (qI.l0 k2 (x5_1 ++ [x12_2]) l0 (l0.length : Int) (wrap64 (x23_1 + 1))) else (none))) = some (r1, r2) := by rw [if_pos rfl] at H; exact H
      clear H
      have H := H1
      clear H1
      by_cases c36 : (x12_2.length : Int) > 1
      case neg =>
       rw [if_neg c36] at H
       have c36b0 : decide (1 < (x12_2.length : Int)) = false := decide_eq_false c36
       have c36b1 : decide (1 < x12_2.length) = false := decide_eq_false (by omega)
       clear c36
       by_cases c44 : x5_1.length < 5864062014805
       case neg =>
        rw [if_neg c44] at H
        exact absurd H (by simp)
       rw [if_pos c44] at H
       have LMc44 := qa.mk c44
       clear c44
       obtain ⟨y384, hy384⟩ : ∃ y_ : List (List (S35)), y_ = (x5_1 ++ [x12_2]) := ⟨_, rfl⟩
       replace H : (qI.l0 k2 y384 l0 (l0.length : Int) (wrap64 (x23_1 + 1))) = some (r1, r2) := by first | (rw [hy384]; with_reducible exact H) | (have H2_ := (Option.bind_some _ _).symm.trans H; rw [hy384]; with_reducible exact H2_) | (have H2_ := (Option.bind_some _ _).symm.trans H; with_reducible exact H2_) | with_reducible exact H | (rw [hy384]; exact H) | exact H
       have Ny384 := qa.mk hy384
       clear hy384
       have H' := qa.mk H
       clear H
       obtain ⟨Ao45, co45, eo45⟩ := Kd.jJ HO_12.out
       subst eo45
       go_wp2_with (first | ((with_reducible refine jw (b := .append) (xs := #[.tmp 69, .tmp 71]) rfl ?_); (try (refine jO (by rfl) ?_; dsimp only)); at_builtin; refine Kd.Zo (Kd.slice 35 k35) (w0 := w) w.heap.size rfl (.tmp 69) (.tmp 71) 25 33 (.slice none 0 0) 24 rfl Try.underlying25 info33 rfl (by decide) (by omega) u5 x5_1 x12_2 [.slice Ao45 x12_2.length co45] (fun k_ => k_ ≠ gb366) (fun k_ => some k_ = (.slice Ao45 x12_2.length co45 : Value).ownBlock) rfl rfl ?aP (fun k_ hk_ => ((Kd.zq (ok' := fun k_ => ((fun k_ => k_ ≠ gb366)) k_ ∧ some k_ ≠ (u5 : Value).ownBlock) (Kd.jP (HO_12.out) (Kd.jN HO_5.out) (by decide)) (fun k_ hk => ⟨hk.1, hk.2⟩))).1 k_ hk_.symm) ?aF ?aO ?aB ?aS ?aL ?_; (case aP => exact Kd.JE (Kd.zq (Kd.Zq rfl (Kd.zq (ok' := fun k_ => ((fun k_ => k_ ≠ gb366)) k_ ∧ some k_ ≠ (u5 : Value).ownBlock) (Kd.jP (HO_12.out) (Kd.jN HO_5.out) (by decide)) (fun k_ hk => ⟨hk.1, hk.2⟩))) (fun _ h_ => h_))); (case aB => exact (bs HB GE366)); (case aF => exact (fun k_ hk => Kd.jL (g := gb366) (o := .cells #[.int .i64 x367000_2, .int .i64 x367001_2] 35 (0, 0)) (kq BK366) k_ hk)); (case aO => exact (by (with_reducible repeat (first | apply Kd.zi | apply Kd.zk | apply Kd.zn)); exact Kd.zC HO_5.out (fun k_ hk => ⟨hk.2, fun e_ => hk.1 e_⟩))); (case aS => exact (qy (bs HB GE366))); (case aL => have := LMc44.out; omega); intro v385 w46 ho hb hg hat; rw [← Ny384.out] at ho; have n0_ := qa.mk (Kd.S_over' (by (with_reducible repeat (first | apply Kd.zi | apply Kd.zk | apply Kd.zn)); exact HO_44.out) (Kd.jN (by (with_reducible repeat (first | apply Kd.zi | apply Kd.zk | apply Kd.zn)); exact HO_5.out)) (by decide) hg); have n1_ := qa.mk (zy (g := gb366) (o := .cells #[.int .i64 x367000_2, .int .i64 x367001_2] 35 (0, 0)) (kq BK366) hg (Kd.QX HO_5.out BK366.out (by decide))); have n2_ := qa.mk (hb); have n3_ := qa.mk (ho); clear HO_44; clear BK366; clear HB; clear HO_5; clear HO_12; have HO_44 := n0_; have BK366 := n1_; have HB := n2_; have HO386 := n3_; clear n0_ n1_ n2_ n3_; clear ho hb hg hat))
       go_roundg k2
       case measure => have := HK1.out; have := HK2.out; omega
       case rel => exact ⟨(y384), (wrap64 (x23_1 + 1)), (by first | rfl | (simp; done) | (simp [*]; done)), H', ⟨by have := HK1.out; have := HK2.out; omega⟩, ⟨by (with_reducible repeat (first | apply Kd.zi | apply Kd.zk | apply Kd.zn)); exact Kd.zC HO386.out (fun _ hk => trivial)⟩, ⟨bs HB GE366⟩⟩
      rw [if_pos c36] at H
      have c36b0 : decide (1 < (x12_2.length : Int)) = true := decide_eq_true c36
      have c36b1 : decide (1 < x12_2.length) = true := decide_eq_true (by omega)
      clear c36
      obtain ⟨ji37, hji37⟩ : ∃ j_ : Int, (wrap64 ((x12_2.length : Int) - 1)) = j_ := ⟨_, rfl⟩
      replace H : (if 0 ≤ (ji37) then (if (ji37) ≤ (x12_2.length : Int) then (if x5_1.length < 5864062014805 then (qI.l0 k2 (x5_1 ++ [(x12_2.take ((ji37) : Int).toNat)]) l0 (l0.length : Int) (wrap64 (x23_1 + 1))) else (none)) else (none)) else (none)) = some (r1, r2) := by first | (rw [hji37] at H; exact H) | (simp only [hji37] at H ⊢; exact H)
      have hji37w : (IntKind.i64.wrap ((x12_2.length : Int) - 1)) = ji37 := (qA _).trans hji37
      by_cases c38 : 0 ≤ (ji37)
      case neg =>
       rw [if_neg c38] at H
       exact absurd H (by simp)
      rw [if_pos c38] at H
      have c38b0 := eq_true c38
      have c38b1 : decide (0 ≤ (ji37)) = true := decide_eq_true c38
      clear c38
      by_cases c39 : (ji37) ≤ (x12_2.length : Int)
      case neg =>
       rw [if_neg c39] at H
       exact absurd H (by simp)
      rw [if_pos c39] at H
      have c39b0 := eq_true c39
      have c39b1 : decide ((ji37) ≤ (x12_2.length : Int)) = true := decide_eq_true c39
      clear c39
      obtain ⟨y378, hy378⟩ : ∃ y_ : List (S35), y_ = (x12_2.take ((ji37) : Int).toNat) := ⟨_, rfl⟩
      replace H : (if x5_1.length < 5864062014805 then (qI.l0 k2 (x5_1 ++ [y378]) l0 (l0.length : Int) (wrap64 (x23_1 + 1))) else (none)) = some (r1, r2) := by first | (rw [hy378]; with_reducible exact H) | (have H2_ := (Option.bind_some _ _).symm.trans H; rw [hy378]; with_reducible exact H2_) | (have H2_ := (Option.bind_some _ _).symm.trans H; with_reducible exact H2_) | with_reducible exact H | (rw [hy378]; exact H) | exact H
      have Ny378 := qa.mk hy378
      clear hy378
      by_cases c40 : x5_1.length < 5864062014805
      case neg =>
       rw [if_neg c40] at H
       exact absurd H (by simp)
      rw [if_pos c40] at H
      have LMc40 := qa.mk c40
      clear c40
      obtain ⟨y381, hy381⟩ : ∃ y_ : List (List (S35)), y_ = (x5_1 ++ [y378]) := ⟨_, rfl⟩
      replace H : (qI.l0 k2 y381 l0 (l0.length : Int) (wrap64 (x23_1 + 1))) = some (r1, r2) := by first | (rw [hy381]; with_reducible exact H) | (have H2_ := (Option.bind_some _ _).symm.trans H; rw [hy381]; with_reducible exact H2_) | (have H2_ := (Option.bind_some _ _).symm.trans H; with_reducible exact H2_) | with_reducible exact H | (rw [hy381]; exact H) | exact H
      have Ny381 := qa.mk hy381
      clear hy381
      have H' := qa.mk H
      clear H
      obtain ⟨Ao41, co41, eo41⟩ := Kd.jJ HO_12.out
      subst eo41
      have q42 : ((ji37) : Int) ≤ ((x12_2.length : Int) : Int) := odt
      obtain ⟨i042, hi042, _, hsz42, _⟩ := info_parts Jr
      have hcut42 := cut_to (P := Try.prog) 33 35 .i64 Try.underlying33 hi042 Ao41 x12_2.length co41 (ji37) (odt) q42 (Kd.jY HO_12.out).2.1
      have hr42 := Kd.R_take (m := ((ji37) : Int).toNat) HO_12.out (by omega)
      have hy42 : y378.length = ((ji37) : Int).toNat := (by rw [Ny378.out, List.length_take]; omega)
      rw [← Ny378.out] at hr42
      rw [← hy42] at hr42 hcut42
      clear hy42 hi042 hsz42 HO_12
      have HO380 := qa.mk hr42
      clear hr42
      replace q42 := eq_true q42
      go_wp2_with (first | ((with_reducible refine jw (b := .append) (xs := #[.tmp 69, .tmp 71]) rfl ?_); (try (refine jO (by rfl) ?_; dsimp only)); at_builtin; refine Kd.Zo (Kd.slice 35 k35) (w0 := w) w.heap.size rfl (.tmp 69) (.tmp 71) 25 33 (.slice none 0 0) 24 rfl Try.underlying25 info33 rfl (by decide) (by omega) u5 x5_1 y378 [.slice Ao41 y378.length co41] (fun k_ => k_ ≠ gb366) (fun k_ => some k_ = (.slice Ao41 y378.length co41 : Value).ownBlock) rfl rfl ?aP (fun k_ hk_ => ((Kd.zq (ok' := fun k_ => ((fun k_ => k_ ≠ gb366)) k_ ∧ some k_ ≠ (u5 : Value).ownBlock) (Kd.jP (HO380.out) (Kd.jN HO_5.out) (by decide)) (fun k_ hk => ⟨hk.1, hk.2⟩))).1 k_ hk_.symm) ?aF ?aO ?aB ?aS ?aL ?_; (case aP => exact Kd.JE (Kd.zq (Kd.Zq rfl (Kd.zq (ok' := fun k_ => ((fun k_ => k_ ≠ gb366)) k_ ∧ some k_ ≠ (u5 : Value).ownBlock) (Kd.jP (HO380.out) (Kd.jN HO_5.out) (by decide)) (fun k_ hk => ⟨hk.1, hk.2⟩))) (fun _ h_ => h_))); (case aB => exact (bs HB GE366)); (case aF => exact (fun k_ hk => Kd.jL (g := gb366) (o := .cells #[.int .i64 x367000_2, .int .i64 x367001_2] 35 (0, 0)) (kq BK366) k_ hk)); (case aO => exact (by (with_reducible repeat (first | apply Kd.zi | apply Kd.zk | apply Kd.zn)); exact Kd.zC HO_5.out (fun k_ hk => ⟨hk.2, fun e_ => hk.1 (e_.trans (by cases Ao41 <;> rfl))⟩))); (case aS => exact (qy (bs HB GE366))); (case aL => have := LMc40.out; omega); intro v382 w43 ho hb hg hat; rw [← Ny381.out] at ho; have n0_ := qa.mk (Kd.S_over' (by (with_reducible repeat (first | apply Kd.zi | apply Kd.zk | apply Kd.zn)); exact HO_44.out) (Kd.jN (by (with_reducible repeat (first | apply Kd.zi | apply Kd.zk | apply Kd.zn)); exact HO_5.out)) (by decide) hg); have n1_ := qa.mk (zy (g := gb366) (o := .cells #[.int .i64 x367000_2, .int .i64 x367001_2] 35 (0, 0)) (kq BK366) hg (Kd.QX HO_5.out BK366.out (by decide))); have n2_ := qa.mk (hb); have n3_ := qa.mk (ho); clear HO_44; clear BK366; clear HB; clear HO_5; clear HO380; have HO_44 := n0_; have BK366 := n1_; have HB := n2_; have HO383 := n3_; clear n0_ n1_ n2_ n3_; clear ho hb hg hat))
      go_roundg k2
      case measure => have := HK1.out; have := HK2.out; omega
      case rel => exact ⟨(y381), (wrap64 (x23_1 + 1)), (by first | rfl | (simp; done) | (simp [*]; done)), H', ⟨by have := HK1.out; have := HK2.out; omega⟩, ⟨by (with_reducible repeat (first | apply Kd.zi | apply Kd.zk | apply Kd.zn)); exact Kd.zC HO383.out (fun _ hk => trivial)⟩, ⟨bs HB GE366⟩⟩
     rw [if_pos c21] at H
     have c21b0 : decide (x46_2 < (t361.length : Int)) = true := decide_eq_true c21
     clear c21
     by_cases c22 : 0 ≤ x46_2
     case neg =>
      rw [if_neg c22] at H
      exact absurd H (by simp)
     rw [if_pos c22] at H
     have c22b0 : decide (0 ≤ x46_2) = true := decide_eq_true c22
     clear c22
     by_cases c23 : x46_2 < (t361.length : Int)
     case neg =>
      rw [if_neg c23] at H
      exact absurd H (by simp)
     rw [if_pos c23] at H
     have c23b0 : decide (x46_2 < (t361.length : Int)) = true := decide_eq_true c23
     clear c23
     replace H := Option.bind_eq_some_iff.mp H
     obtain ⟨t372, A240, H⟩ := H
     replace H : (if x12_2.length + t372.length < 8796093022208 then (qI.l1 k2 x5_1 t364 (x12_2 ++ t372) l0 (l0.length : Int) x23_1 t361 (t361.length : Int) (wrap64 (x46_2 + 1)) ((zw t361 x46_2).f1.f0) ((zw t361 x46_2).f1.f1)) else (none)) = some (r1, r2) := H
     have A24 := qa.mk A240
     clear A240
     by_cases c25 : x12_2.length + t372.length < 8796093022208
     case neg =>
      rw [if_neg c25] at H
      exact absurd H (by simp)
     rw [if_pos c25] at H
     have LMc25 := qa.mk c25
     clear c25
     obtain ⟨y375, hy375⟩ : ∃ y_ : List (S35), y_ = (x12_2 ++ t372) := ⟨_, rfl⟩
     replace H : (qI.l1 k2 x5_1 t364 y375 l0 (l0.length : Int) x23_1 t361 (t361.length : Int) (wrap64 (x46_2 + 1)) ((zw t361 x46_2).f1.f0) ((zw t361 x46_2).f1.f1)) = some (r1, r2) := by first | (rw [hy375]; with_reducible exact H) | (have H2_ := (Option.bind_some _ _).symm.trans H; rw [hy375]; with_reducible exact H2_) | (have H2_ := (Option.bind_some _ _).symm.trans H; with_reducible exact H2_) | with_reducible exact H | (rw [hy375]; exact H) | exact H
     have Ny375 := qa.mk hy375
     clear hy375
     have H' := qa.mk H
     clear H
     have p370 : 0 ≤ (x46_2 : Int) := odt
     have q370 : x46_2 < (t361.length : Int) := odt
     obtain ⟨ad370, A370_0, c370_0, e370, hx370_0, hx370_1, hx370_2, hl370_0, hi370_0⟩ := at_T64 (Kd.Qs HO_44.out).2.2 x46_2 p370 q370
     cases e370
     obtain ⟨ce370, hce370, hMe370, hcc370⟩ := Kd.S_get HO_44.out z64 x46_2 p370 (by first | exact q370 | exact odt | (have e_ := (Kd.Qs HO_44.out).1; omega))
     obtain ⟨ve370_0, rfl, ge370_0⟩ := k64_openM hMe370
     have hv370_0 := hcc370 0 _ rfl
     rw [Nat.add_zero] at hv370_0
     replace hv370_0 := Option.some.inj (hv370_0.symm.trans hx370_0)
     rw [hv370_0] at ge370_0
     have HL370_0 := qa.mk (show Kd.R k35 35 _ _ _ _ ((zw t361 x46_2).f0) from ge370_0)
     clear hv370_0 ge370_0
     clear hcc370 hce370
     have HR370_0 := qa.mk hi370_0
     have HC370_0 := qa.mk hl370_0
     clear hi370_0 hl370_0
     replace p370 := eq_true p370
     replace q370 := eq_true q370
     go_wp2_with (first | ((with_reducible refine zf (N := 14) rfl ?_); (try (refine jO (by rfl) ?_; dsimp only)); refine zm ?hg (N := 14) ?hd (cs := #[.slice none 0 0, .int .i64 0, .int .i64 0]) (t := 64) ?hr ?_; (case hd => rfl); (case hg => rfl); (case hr => first | (go_simp; done) | (go_simp; rfl)); intro gb371 hg w26 hbox hb; have n0_ := qa.mk (Kd.jA (by (with_reducible repeat (first | apply Kd.zi | apply Kd.zk | apply Kd.zn)); exact HO_5.out) hb); have n1_ := qa.mk (Kd.QJ (rq HO_12) hb); have n2_ := qa.mk (Kd.jA (Kd.Zf (by (with_reducible repeat (first | apply Kd.zi | apply Kd.zk | apply Kd.zn)); exact HO_44.out) gb371 (Nat.le_of_eq hg.symm)) hb); have n3_ := qa.mk (Kd.QJ (by (with_reducible repeat (first | apply Kd.zX | apply Kd.z8 | apply Kd.zR)); exact HL370_0.out) hb); have n4_ := qa.mk (qN (g := gb366) (o := .cells #[.int .i64 x367000_2, .int .i64 x367001_2] 35 (0, 0)) (kq BK366) hb); have n5_ := qa.mk (Kd.zZ (by repeat (first | (with_reducible exact HR370_0.out) | (with_reducible refine Kd.Qd ?_ _) | (with_reducible refine Kd.Qe ?_ _) | (with_reducible refine Kd.Qm ?_) | exact HR370_0.out)) hb); have n6_ := qa.mk (qE (bs HB GE366) hb); have n7_ := qa.mk (hbox); have n8_ := qa.mk ((by rw [hg]; exact (qy (bs HB GE366)) : w.heap.size ≤ gb371)); have n9_ := qa.mk ((by rw [hg]; exact (qy (bs HB GE366)) : w.heap.size ≤ gb371)); have n10_ := qa.mk ((by rw [hg]; exact Nat.ne_of_lt (qD (g := gb366) (o := .cells #[.int .i64 x367000_2, .int .i64 x367001_2] 35 (0, 0)) (kq BK366)) : gb366 ≠ gb371)); have n11_ := qa.mk ((by rw [hg]; exact Nat.ne_of_gt (qD (g := gb366) (o := .cells #[.int .i64 x367000_2, .int .i64 x367001_2] 35 (0, 0)) (kq BK366)) : gb371 ≠ gb366)); clear HO_5; clear HO_12; clear HO_44; clear HL370_0; clear BK366; clear HR370_0; clear HB; have HO_5 := n0_; have HO_12 := n1_; have HO_44 := n2_; have HL370_0 := n3_; have BK366 := n4_; have HR370_0 := n5_; have HB := n6_; have BK371 := n7_; have GW371 := n8_; have GE371 := n9_; have NB366_371 := n10_; have NB371_366 := n11_; clear n0_ n1_ n2_ n3_ n4_ n5_ n6_ n7_ n8_ n9_ n10_ n11_; clear hb hbox hg; have hnb27 := NB371_366.out; have hnc27 := NB366_371.out; have hcz28_0 : w26.cell? ⟨gb371, 0, none⟩ = some (.slice none 0 0) := (qf BK371.out 0).trans rfl; have hcz28_1 : w26.cell? ⟨gb371, 1, none⟩ = some (.int .i64 0) := (qf BK371.out 1).trans rfl; have hcz28_2 : w26.cell? ⟨gb371, 2, none⟩ = some (.int .i64 0) := (qf BK371.out 2).trans rfl; have hfz28_0 := qj BK371.out 0; have hfz28_1 := qj BK371.out 1; have hfz28_2 := qj BK371.out 2; have hcz29_0 : w26.cell? ⟨gb366, 0, none⟩ = some (.int .i64 x367000_2) := (qf BK366.out 0).trans rfl; have hcz29_1 : w26.cell? ⟨gb366, 1, none⟩ = some (.int .i64 x367001_2) := (qf BK366.out 1).trans rfl; have hfz29_0 := qj BK366.out 0; have hfz29_1 := qj BK366.out 1) | ((with_reducible refine zI (f := 27) rfl ?_); refine jM (some 53) rfl rfl Try.func27 (by kernel_rfl) rfl #[.agg #[.int .i64 x367000_2, .int .i64 x367001_2], .agg #[.slice A370_0 ((zw t361 x46_2).f0).length c370_0, .int .i64 ((zw t361 x46_2).f1.f0), .int .i64 ((zw t361 x46_2).f1.f1)]] rfl (by (try simp only [List.map_toArray, List.map_cons, List.map_nil]); first | done | rfl | (simp only [List.length_drop, List.length_take]; rfl)) ?_; (with_reducible refine (qx.calls k2 x367000_2 x367001_2 _ _ ((zw t361 x46_2).f0) ((zw t361 x46_2).f1.f0) ((zw t361 x46_2).f1.f1) t372 _ ?side1 ?side2 A24.out).mono ?_); (case side1 => repeat (first | exact ((Kd.jY (by (with_reducible repeat (first | apply Kd.zX | apply Kd.z8 | apply Kd.zR)); exact (Kd.zq (Kd.jh (p := ⟨gb371, 2, none⟩) (Kd.jh (p := ⟨gb371, 1, none⟩) (Kd.jh (p := ⟨gb371, 0, none⟩) (Kd.jR HL370_0.out BK371.out (by decide)) (fun _ hk => hk.2) (.slice A370_0 ((zw t361 x46_2).f0).length c370_0)) (fun _ hk => hk.2) (.int .i64 ((zw t361 x46_2).f1.f0))) (fun _ hk => hk.2) (.int .i64 ((zw t361 x46_2).f1.f1))) (fun _ h_ => h_.1)))).2.2) | (with_reducible refine Kd.Qd ?_ _) | (with_reducible refine Kd.Qe ?_ _) | (with_reducible refine Kd.Qm ?_))); (case side2 => exact HC370_0.out); rintro e w30 ⟨v373, rfl, ho0, hb⟩; refine ⟨_, rfl, ?_⟩; have n0_ := qa.mk (Kd.Zn (by (with_reducible repeat (first | apply Kd.zi | apply Kd.zk | apply Kd.zn)); exact (Kd.zC (Kd.jo (p := ⟨gb371, 2, none⟩) (Kd.jo (p := ⟨gb371, 1, none⟩) (Kd.jo (p := ⟨gb371, 0, none⟩) (Kd.S_types HO_5.out BK371.out (by decide)) (fun _ hk => hk.2) (.slice A370_0 ((zw t361 x46_2).f0).length c370_0)) (fun _ hk => hk.2) (.int .i64 ((zw t361 x46_2).f1.f0))) (fun _ hk => hk.2) (.int .i64 ((zw t361 x46_2).f1.f1))) (fun _ h_ => h_.1))) (Kd.QA ho0) hb); have n1_ := qa.mk (Kd.R_elder' (by (with_reducible repeat (first | apply Kd.zX | apply Kd.z8 | apply Kd.zR)); exact (Kd.zq (Kd.jh (p := ⟨gb371, 2, none⟩) (Kd.jh (p := ⟨gb371, 1, none⟩) (Kd.jh (p := ⟨gb371, 0, none⟩) (Kd.jR HO_12.out BK371.out (by decide)) (fun _ hk => hk.2) (.slice A370_0 ((zw t361 x46_2).f0).length c370_0)) (fun _ hk => hk.2) (.int .i64 ((zw t361 x46_2).f1.f0))) (fun _ hk => hk.2) (.int .i64 ((zw t361 x46_2).f1.f1))) (fun _ h_ => h_.1))) (Kd.QA ho0) hb); have n2_ := qa.mk (Kd.Zn (by (with_reducible repeat (first | apply Kd.zi | apply Kd.zk | apply Kd.zn)); exact (Kd.zC (Kd.jo (p := ⟨gb371, 2, none⟩) (Kd.jo (p := ⟨gb371, 1, none⟩) (Kd.jo (p := ⟨gb371, 0, none⟩) (Kd.zC HO_44.out (fun k_ hk => (⟨hk, hk.2⟩ : _ ∧ k_ ≠ gb371))) (fun _ hk => hk.2) (.slice A370_0 ((zw t361 x46_2).f0).length c370_0)) (fun _ hk => hk.2) (.int .i64 ((zw t361 x46_2).f1.f0))) (fun _ hk => hk.2) (.int .i64 ((zw t361 x46_2).f1.f1))) (fun _ h_ => h_.1))) (Kd.QA ho0) hb); have n3_ := qa.mk (Kd.R_elder' (by (with_reducible repeat (first | apply Kd.zX | apply Kd.z8 | apply Kd.zR)); exact (Kd.zq (Kd.jh (p := ⟨gb371, 2, none⟩) (Kd.jh (p := ⟨gb371, 1, none⟩) (Kd.jh (p := ⟨gb371, 0, none⟩) (Kd.jR HL370_0.out BK371.out (by decide)) (fun _ hk => hk.2) (.slice A370_0 ((zw t361 x46_2).f0).length c370_0)) (fun _ hk => hk.2) (.int .i64 ((zw t361 x46_2).f1.f0))) (fun _ hk => hk.2) (.int .i64 ((zw t361 x46_2).f1.f1))) (fun _ h_ => h_.1))) (Kd.QA ho0) hb); have n4_ := qa.mk (Kd.jZ (Kd.ZM (Kd.R_new' (Kd.R_new' ho0 (Kd.R_lt (by (with_reducible repeat (first | apply Kd.zX | apply Kd.z8 | apply Kd.zR)); exact (Kd.zq (Kd.jh (p := ⟨gb371, 2, none⟩) (Kd.jh (p := ⟨gb371, 1, none⟩) (Kd.jh (p := ⟨gb371, 0, none⟩) (Kd.jR HO_12.out BK371.out (by decide)) (fun _ hk => hk.2) (.slice A370_0 ((zw t361 x46_2).f0).length c370_0)) (fun _ hk => hk.2) (.int .i64 ((zw t361 x46_2).f1.f0))) (fun _ hk => hk.2) (.int .i64 ((zw t361 x46_2).f1.f1))) (fun _ h_ => h_.1))))) (Kd.R_lt (by (with_reducible repeat (first | apply Kd.zX | apply Kd.z8 | apply Kd.zR)); exact (Kd.zq (Kd.jh (p := ⟨gb371, 2, none⟩) (Kd.jh (p := ⟨gb371, 1, none⟩) (Kd.jh (p := ⟨gb371, 0, none⟩) (Kd.jR HL370_0.out BK371.out (by decide)) (fun _ hk => hk.2) (.slice A370_0 ((zw t361 x46_2).f0).length c370_0)) (fun _ hk => hk.2) (.int .i64 ((zw t361 x46_2).f1.f0))) (fun _ hk => hk.2) (.int .i64 ((zw t361 x46_2).f1.f1))) (fun _ h_ => h_.1))))) (g := gb366) (o := .cells #[.int .i64 x367000_2, .int .i64 x367001_2] 35 (0, 0)) (by (with_reducible repeat (first | refine qh ?_ _ | refine qc ?_ | refine qd ?_ _)); refine qJ ?_ NB366_371.out _; refine qJ ?_ NB366_371.out _; refine qJ ?_ NB366_371.out _; exact kq BK366)) (qy (by repeat (first | (with_reducible first | exact HB.out | apply qp | apply qo | apply qz | refine qg ?_ GE366.out | refine qg ?_ GE371.out) | exact HB.out)))); have n5_ := qa.mk (qN (g := gb366) (o := .cells #[.int .i64 x367000_2, .int .i64 x367001_2] 35 (0, 0)) (by (with_reducible repeat (first | refine qh ?_ _ | refine qc ?_ | refine qd ?_ _)); refine qJ ?_ NB366_371.out _; refine qJ ?_ NB366_371.out _; refine qJ ?_ NB366_371.out _; exact kq BK366) hb); have n6_ := qa.mk (Kd.zZ ((Kd.jY (by (with_reducible repeat (first | apply Kd.zX | apply Kd.z8 | apply Kd.zR)); exact (Kd.zq (Kd.jh (p := ⟨gb371, 2, none⟩) (Kd.jh (p := ⟨gb371, 1, none⟩) (Kd.jh (p := ⟨gb371, 0, none⟩) (Kd.jR HL370_0.out BK371.out (by decide)) (fun _ hk => hk.2) (.slice A370_0 ((zw t361 x46_2).f0).length c370_0)) (fun _ hk => hk.2) (.int .i64 ((zw t361 x46_2).f1.f0))) (fun _ hk => hk.2) (.int .i64 ((zw t361 x46_2).f1.f1))) (fun _ h_ => h_.1)))).2.2) hb); have n7_ := qa.mk (qN (g := gb371) (o := .cells #[.slice A370_0 ((zw t361 x46_2).f0).length c370_0, .int .i64 ((zw t361 x46_2).f1.f0), .int .i64 ((zw t361 x46_2).f1.f1)] 64 (0, 0)) (by (with_reducible repeat (first | refine qh ?_ _ | refine qc ?_ | refine qd ?_ _)); refine zb (cs := #[.slice A370_0 ((zw t361 x46_2).f0).length c370_0, .int .i64 ((zw t361 x46_2).f1.f0), .int .i64 0]) ?_ 2 _ rfl; refine zb (cs := #[.slice A370_0 ((zw t361 x46_2).f0).length c370_0, .int .i64 0, .int .i64 0]) ?_ 1 _ rfl; refine zb (cs := #[.slice none 0 0, .int .i64 0, .int .i64 0]) ?_ 0 _ rfl; exact kq BK371) hb); have n8_ := qa.mk (qE (by repeat (first | (with_reducible first | exact HB.out | apply qp | apply qo | apply qz | refine qg ?_ GE366.out | refine qg ?_ GE371.out) | exact HB.out)) hb); clear HO_5; clear HO_12; clear HO_44; clear HL370_0; clear BK366; clear HR370_0; clear BK371; clear HB; have HO_5 := n0_; have HO_12 := n1_; have HO_44 := n2_; have HL370_0 := n3_; have HO374 := n4_; have BK366 := n5_; have HR370_0 := n6_; have BK371 := n7_; have HB := n8_; clear n0_ n1_ n2_ n3_ n4_ n5_ n6_ n7_ n8_; (try clear hb); (try clear hb2); (try clear hk); (try clear hi); (try clear ho0); obtain ⟨Ao32, co32, eo32⟩ := Kd.jJ HO374.out; subst eo32) | ((with_reducible refine jw (b := .append) (xs := #[.tmp 50, .tmp 53]) rfl ?_); (try (refine jO (by rfl) ?_; dsimp only)); at_builtin; refine Kd.ZA k35 (w0 := w) w.heap.size rfl (.tmp 50) (.tmp 53) 33 35 (.agg #[(.int .i64 0), (.int .i64 0)]) 16 rfl Try.underlying33 Jr rfl (by decide) (by omega) u12 x12_2 t372 _ _ _ (fun k_ => some k_ ≠ (.slice Ao32 t372.length co32 : Value).ownBlock ∧ k_ ≠ gb366) (fun _ => False) rfl rfl ?aO ?aR (fun _ _ h => h) (fun _ h => h.elim) ?aF ?aB ?aS ?aL ?_; (case aR => repeat (first | exact (Kd.jY HO374.out).2.2 | (with_reducible refine Kd.Qd ?_ _) | (with_reducible refine Kd.Qe ?_ _) | (with_reducible refine Kd.Qm ?_))); (case aB => exact (by repeat (first | (with_reducible first | exact HB.out | apply qp | apply qo | apply qz | refine qg ?_ GE366.out | refine qg ?_ GE371.out) | exact HB.out))); (case aF => exact (fun k_ hk => ⟨Kd.fresh' (Kd.R_lt (rq HO374)) k_ hk, Kd.jL (g := gb366) (o := .cells #[.int .i64 x367000_2, .int .i64 x367001_2] 35 (0, 0)) (kq BK366) k_ hk⟩)); (case aO => exact (by (with_reducible repeat (first | apply Kd.zX | apply Kd.z8 | apply Kd.zR)); exact Kd.zq HO_12.out (fun _ hk => ⟨hk.2, hk.1⟩))); (case aS => exact (qy (by repeat (first | (with_reducible first | exact HB.out | apply qp | apply qo | apply qz | refine qg ?_ GE366.out | refine qg ?_ GE371.out) | exact HB.out)))); (case aL => have := LMc25.out; omega); intro v376 w31 ho hb hg hat; rw [← Ny375.out] at ho; have n0_ := qa.mk (Kd.S_after (ok := (fun k_ => some k_ ≠ (.slice Ao32 t372.length co32 : Value).ownBlock ∧ k_ ≠ gb366)) (by (with_reducible repeat (first | apply Kd.zi | apply Kd.zk | apply Kd.zn)); exact Kd.zC HO_5.out (fun _ hk => ⟨⟨hk.2, hk.1.2⟩, hk.1.1⟩)) hg hat); have n1_ := qa.mk (Kd.S_after (ok := (fun k_ => some k_ ≠ (.slice Ao32 t372.length co32 : Value).ownBlock ∧ k_ ≠ gb366 ∧ k_ ≠ gb371)) (by (with_reducible repeat (first | apply Kd.zi | apply Kd.zk | apply Kd.zn)); exact Kd.zC HO_44.out (fun _ hk => ⟨⟨hk.2, ⟨hk.1.1.2, hk.1.2⟩⟩, hk.1.1.1⟩)) hg hat); have n2_ := qa.mk (zy (g := gb366) (o := .cells #[.int .i64 x367000_2, .int .i64 x367001_2] 35 (0, 0)) (kq BK366) hg (Kd.Q0 HO_12.out (fun _ hk => hk.1))); have n3_ := qa.mk (Kd.R_after (ok := (fun k_ => some k_ ≠ (.slice (some ad370) t361.length co20 : Value).ownBlock ∧ some k_ ≠ (.slice Ao32 t372.length co32 : Value).ownBlock ∧ k_ ≠ gb366)) (by (with_reducible repeat (first | apply Kd.zX | apply Kd.z8 | apply Kd.zR)); exact Kd.zq HL370_0.out (fun _ hk => ⟨⟨hk.1.2, ⟨hk.2, hk.1.1.2⟩⟩, hk.1.1.1⟩)) hg hat); have n4_ := qa.mk (zy (g := gb371) (o := .cells #[.slice A370_0 ((zw t361 x46_2).f0).length c370_0, .int .i64 ((zw t361 x46_2).f1.f0), .int .i64 ((zw t361 x46_2).f1.f1)] 64 (0, 0)) (kq BK371) hg (Kd.JI HO_12.out BK371.out (by decide))); have n5_ := qa.mk (Kd.R_after (ok := (fun k_ => some k_ ≠ (.slice A370_0 ((zw t361 x46_2).f0).length c370_0 : Value).ownBlock ∧ k_ ≠ gb366)) (by (with_reducible repeat (first | apply Kd.zX | apply Kd.z8 | apply Kd.zR)); exact Kd.zq HO374.out (fun _ hk => ⟨⟨hk.1.2, hk.2⟩, hk.1.1.2⟩)) hg hat); have n6_ := qa.mk (hb); have n7_ := qa.mk (ho); clear HO_5; clear HO_44; clear BK366; clear HL370_0; clear BK371; clear HO374; clear HB; clear HO_12; have HO_5 := n0_; have HO_44 := n1_; have BK366 := n2_; have HL370_0 := n3_; have BK371 := n4_; have HO374 := n5_; have HB := n6_; have HO377 := n7_; clear n0_ n1_ n2_ n3_ n4_ n5_ n6_ n7_; clear ho hb hg hat; have hcz33_0 : w31.cell? ⟨gb371, 0, none⟩ = some (.slice A370_0 ((zw t361 x46_2).f0).length c370_0) := (qf BK371.out 0).trans rfl; have hcz33_1 : w31.cell? ⟨gb371, 1, none⟩ = some (.int .i64 ((zw t361 x46_2).f1.f0)) := (qf BK371.out 1).trans rfl; have hcz33_2 : w31.cell? ⟨gb371, 2, none⟩ = some (.int .i64 ((zw t361 x46_2).f1.f1)) := (qf BK371.out 2).trans rfl; have hfz33_0 := qj BK371.out 0; have hfz33_1 := qj BK371.out 1; have hfz33_2 := qj BK371.out 2; have hcz34_0 : w31.cell? ⟨gb366, 0, none⟩ = some (.int .i64 x367000_2) := (qf BK366.out 0).trans rfl; have hcz34_1 : w31.cell? ⟨gb366, 1, none⟩ = some (.int .i64 x367001_2) := (qf BK366.out 1).trans rfl; have hfz34_0 := qj BK366.out 0; have hfz34_1 := qj BK366.out 1))
     go_roundg k2
     case measure => have := HK1.out; have := HK2.out; omega
     case rel => exact ⟨(y375), (wrap64 (x46_2 + 1)), ((zw t361 x46_2).f1.f0), ((zw t361 x46_2).f1.f1), (by first | rfl | (simp; done) | (simp [*]; done)), H', ⟨by have := HK1.out; have := HK2.out; omega⟩, ⟨by (with_reducible repeat (first | apply Kd.zi | apply Kd.zk | apply Kd.zn)); exact Kd.zC (Kd.jo (p := ⟨gb366, 1, none⟩) (Kd.jo (p := ⟨gb366, 0, none⟩) (Kd.zC HO_5.out (fun k_ hk => (⟨hk, hk.1.2⟩ : _ ∧ k_ ≠ gb366))) (fun _ hk => hk.2) (.int .i64 ((zw t361 x46_2).f1.f0))) (fun _ hk => hk.2) (.int .i64 ((zw t361 x46_2).f1.f1))) (fun _ hk => ⟨hk.1.2, hk.1.1.2⟩)⟩, ⟨by (with_reducible repeat (first | apply Kd.zX | apply Kd.z8 | apply Kd.zR)); exact Kd.zq (Kd.jh (p := ⟨gb366, 1, none⟩) (Kd.jh (p := ⟨gb366, 0, none⟩) (Kd.zq HO377.out (fun k_ hk => (⟨hk, hk.2⟩ : _ ∧ k_ ≠ gb366))) (fun _ hk => hk.2) (.int .i64 ((zw t361 x46_2).f1.f0))) (fun _ hk => hk.2) (.int .i64 ((zw t361 x46_2).f1.f1))) (fun _ hk => hk.1.2)⟩, ⟨by (with_reducible repeat (first | apply Kd.zi | apply Kd.zk | apply Kd.zn)); exact Kd.zC (Kd.jo (p := ⟨gb366, 1, none⟩) (Kd.jo (p := ⟨gb366, 0, none⟩) (Kd.zC HO_44.out (fun k_ hk => (⟨hk, hk.1.2.1⟩ : _ ∧ k_ ≠ gb366))) (fun _ hk => hk.2) (.int .i64 ((zw t361 x46_2).f1.f0))) (fun _ hk => hk.2) (.int .i64 ((zw t361 x46_2).f1.f1))) (fun _ hk => ⟨hk.1.2, hk.1.1.2.1⟩)⟩, ⟨by (with_reducible repeat (first | refine qh ?_ _ | refine qc ?_ | refine qd ?_ _)); refine zb (cs := #[.int .i64 ((zw t361 x46_2).f1.f0), .int .i64 x367001_2]) ?_ 1 _ rfl; refine zb (cs := #[.int .i64 x367000_2, .int .i64 x367001_2]) ?_ 0 _ rfl; exact kq BK366⟩, ⟨by repeat (first | (with_reducible first | exact HB.out | apply qp | apply qo | apply qz | refine qg ?_ GE366.out | refine qg ?_ GE371.out) | exact HB.out)⟩⟩
end Go.Proofs.Ytmlkpadlafjfeaa.P
