import Derived.Test.YtfbanppdiglciaaXx0
import Derived.Test.YtfbanppdiglciaaXx1
import Derived.Test.YtfbanppdiglciaaXx13
import Derived.Test.YtfbanppdiglciaaXx14
import Derived.Test.YtfbanppdiglciaaXx15
import Derived.Test.YtfbanppdiglciaaXx19
import Derived.Test.YtfbanppdiglciaaXx20
import Derived.Test.YtfbanppdiglciaaXx28
namespace Go.Proofs.Ytfbanppdiglciaa.X
open Go.RowKit Go.Proofs.YtfbanppdiglciaaW.PrintWords Go.Proofs.YtfbanppdiglciaaW.PrintLast Go.Proofs.YtfbanppdiglciaaW.PrintMore
attribute [local go_sem] jw jv jJ jI jf je jA jC
set_option linter.unusedVariables false
set_option linter.unusedSimpArgs false
attribute [local go_sem high] eqA31
def qZ.l0 : Nat → List (S31) → Int → Int → List (S31) → Int → Int → Int → List Int → Int → Bool → Option (Bool)
 | 0, _, _, _, _, _, _, _, _, _, _ => none
 | k + 1, x0, x1, x2, x7, x9, x27, x28, x415000, x415001, x415002 => if x28 < x27 then (if 0 ≤ x28 then (if x28 < (x7.length : Int) then (if x28 < (x0.length : Int) then (if (!(((qc x7 x28).f0) == ((qc x0 x28).f0)) || (!(((qc x7 x28).f1) == ((qc x0 x28).f1)) || (!(((qc x7 x28).f2) == ((qc x0 x28).f2)) || (!(((qc x7 x28).f3) == ((qc x0 x28).f3)) || (!(((qc x7 x28).f4) == ((qc x0 x28).f4)) || (!(((qc x7 x28).f5) == ((qc x0 x28).f5)))))))) = true then (none) else (qZ.l0 k x0 x1 x2 x7 x9 x27 (wrap64 (x28 + 1)) x415000 x415001 x415002)) else (none)) else (none)) else (none)) else (if (x0.length : Int) > 200 then ((zf.f k x0 x1 x2).bind fun t417 => (if x9 = t417 then (some ((t417 != 0) == ((x415000.length : Int) == 0))) else (none))) else ((qf.f k x0 x1 x2).bind fun bt418 => (if x9 = bt418.2.2.2 then ((qL.f k x415000 bt418.1).bind fun t425 => (if t425 = true then (if x415001 = bt418.2.1 then (some (x415002 == bt418.2.2.1)) else (none)) else (none))) else (none))))
def qZ.f (k : Nat) (l0 : List (S31)) (a1 : Int) (a2 : Int) : Option (Bool) := (zn.f k).bind fun t401 => (if t401 = true then ((some (([] : List (S31)) : List (S31))).bind fun y402 => (if y402.length + l0.length < 2932031007402 then ((some (y402 ++ l0 : List (S31))).bind fun y405 => ((qV.f k y405 a1 a2).bind fun bt408 => (qZ.l0 k l0 a1 a2 y405 bt408.2.2.2 (l0.length : Int) 0 bt408.1 bt408.2.1 bt408.2.2.1))) else (none))) else (none))
theorem qZ.zT : ∀ k, (∀ y0 y1 y2 y3 y4 y5 y6 y7 y8 y9, LeO (qZ.l0 k y0 y1 y2 y3 y4 y5 y6 y7 y8 y9) (qZ.l0 (k + 1) y0 y1 y2 y3 y4 y5 y6 y7 y8 y9))
 | 0 => fun _ _ _ _ _ _ _ _ _ _ r h => by simp [qZ.l0] at h
 | k + 1 => by
  have ih0 := qZ.zT k
  ·intro y0 y1 y2 y3 y4 y5 y6 y7 y8 y9
   unfold qZ.l0
   repeat' first
   | (with_reducible exact ih0 _ _ _ _ _ _ _ _ _ _)
   | (with_reducible exact qV.mono _ _ _ _)
   | (with_reducible exact zn.mono _)
   | (with_reducible exact qL.mono _ _ _)
   | (with_reducible exact qf.mono _ _ _ _)
   | (with_reducible exact zf.mono _ _ _ _)
   | (with_reducible exact LeO.refl _)
   | (with_reducible exact LeO.none _)
   | (with_reducible refine LeO.ite ?_ ?_)
   | (with_reducible refine LeO.bind ?_ (fun _ => ?_))
   | exact ih0 _ _ _ _ _ _ _ _ _ _
   | exact qV.mono _ _ _ _
   | exact zn.mono _
   | exact qL.mono _ _ _
   | exact qf.mono _ _ _ _
   | exact zf.mono _ _ _ _
   | exact LeO.none _
   | refine LeO.ite ?_ ?_
   | refine LeO.bind ?_ (fun _ => ?_)
theorem qZ.mono : ∀ a0 a1 a2 k, LeO (qZ.f k a0 a1 a2) (qZ.f (k + 1) a0 a1 a2) := by
 intro a0 a1 a2 k
 have ih0 := qZ.zT k
 unfold qZ.f
 repeat' first
   | (with_reducible exact ih0 _ _ _ _ _ _ _ _ _ _)
   | (with_reducible exact qV.mono _ _ _ _)
   | (with_reducible exact zn.mono _)
   | (with_reducible exact qL.mono _ _ _)
   | (with_reducible exact qf.mono _ _ _ _)
   | (with_reducible exact zf.mono _ _ _ _)
   | (with_reducible exact LeO.refl _)
   | (with_reducible exact LeO.none _)
   | (with_reducible refine LeO.ite ?_ ?_)
   | (with_reducible refine LeO.bind ?_ (fun _ => ?_))
   | exact ih0 _ _ _ _ _ _ _ _ _ _
   | exact qV.mono _ _ _ _
   | exact zn.mono _
   | exact qL.mono _ _ _
   | exact qf.mono _ _ _ _
   | exact zf.mono _ _ _ _
   | exact LeO.none _
   | refine LeO.ite ?_ ?_
   | refine LeO.bind ?_ (fun _ => ?_)
set_option maxHeartbeats 8000000 in
set_option maxRecDepth 100000 in
theorem qZ.calls (k : Nat) (A0 : Option Addr) (c0 : Nat) (l0 : List (S31)) (a1 : Int) (a2 : Int) (r : Bool) (w : World) (hr0 : Kd.C k31 w A0 l0.length l0) (hc0 : l0.length ≤ c0) (h : qZ.f k l0 a1 a2 = some r) :
  Calls Try.prog 4 #[.slice A0 l0.length c0, .int .i64 a1, .int .i64 a2] w fun e w' => e = .returned (.bool r) ∧ Below w.heap.size w w' := by
 have hu26 := Try.underlying26
 have hu31 := Try.underlying31
 have HR0 := qa.mk hr0
 have HC0 := qa.mk hc0
 clear hr0 hc0
 have HB := qa.mk (Below.refl w.heap.size w)
 have H : ((zn.f k).bind fun t401 => (if t401 = true then ((some (([] : List (S31)) : List (S31))).bind fun y402 => (if y402.length + l0.length < 2932031007402 then ((some (y402 ++ l0 : List (S31))).bind fun y405 => ((qV.f k y405 a1 a2).bind fun bt408 => (qZ.l0 k l0 a1 a2 y405 bt408.2.2.2 (l0.length : Int) 0 bt408.1 bt408.2.1 bt408.2.2.1))) else (none))) else (none))) = some r := h
 clear h
 replace H := Option.bind_eq_some_iff.mp H
 obtain ⟨t401, A40, H⟩ := H
 replace H : (if t401 = true then ((some (([] : List (S31)) : List (S31))).bind fun y402 => (if y402.length + l0.length < 2932031007402 then ((some (y402 ++ l0 : List (S31))).bind fun y405 => ((qV.f k y405 a1 a2).bind fun bt408 => (qZ.l0 k l0 a1 a2 y405 bt408.2.2.2 (l0.length : Int) 0 bt408.1 bt408.2.1 bt408.2.2.1))) else (none))) else (none)) = some r := H
 have A4 := qa.mk A40
 clear A40
 by_cases c5 : t401 = true
 case neg =>
  replace c5 := Bool.eq_false_iff.mpr c5
  subst c5
  have H1 : (none) = some r := by rw [if_neg (show ¬ (false = true) by decide)] at H; exact H
  clear H
  have H := H1
  clear H1
  exact absurd H (by simp)
 subst c5
 have H1 : ((some (([] : List (S31)) : List (S31))).bind fun y402 => (if y402.length + l0.length < 2932031007402 then ((some (y402 ++ l0 : List (S31))).bind fun y405 => ((qV.f k y405 a1 a2).bind fun bt408 => (qZ.l0 k l0 a1 a2 y405 bt408.2.2.2 (l0.length : Int) 0 bt408.1 bt408.2.1 bt408.2.2.1))) else (none))) = some r := by rw [if_pos rfl] at H; exact H
 clear H
 have H := H1
 clear H1
 obtain ⟨y402, hy402⟩ : ∃ y_ : List (S31), y_ = (([] : List (S31))) := ⟨_, rfl⟩
 replace H : (if y402.length + l0.length < 2932031007402 then ((some (y402 ++ l0 : List (S31))).bind fun y405 => ((qV.f k y405 a1 a2).bind fun bt408 => (qZ.l0 k l0 a1 a2 y405 bt408.2.2.2 (l0.length : Int) 0 bt408.1 bt408.2.1 bt408.2.2.1))) else (none)) = some r := by first | (rw [hy402]; with_reducible exact H) | (have H2_ := (Option.bind_some _ _).symm.trans H; rw [hy402]; with_reducible exact H2_) | (have H2_ := (Option.bind_some _ _).symm.trans H; with_reducible exact H2_) | with_reducible exact H | (rw [hy402]; exact H) | exact H
 have Ny402 := qa.mk hy402
 clear hy402
 by_cases c6 : y402.length + l0.length < 2932031007402
 case neg =>
  rw [if_neg c6] at H
  exact absurd H (by simp)
 rw [if_pos c6] at H
 have LMc6 := qa.mk c6
 clear c6
 obtain ⟨y405, hy405⟩ : ∃ y_ : List (S31), y_ = (y402 ++ l0) := ⟨_, rfl⟩
 replace H : ((qV.f k y405 a1 a2).bind fun bt408 => (qZ.l0 k l0 a1 a2 y405 bt408.2.2.2 (l0.length : Int) 0 bt408.1 bt408.2.1 bt408.2.2.1)) = some r := by first | (rw [hy405]; with_reducible exact H) | (have H2_ := (Option.bind_some _ _).symm.trans H; rw [hy405]; with_reducible exact H2_) | (have H2_ := (Option.bind_some _ _).symm.trans H; with_reducible exact H2_) | with_reducible exact H | (rw [hy405]; exact H) | exact H
 have Ny405 := qa.mk hy405
 clear hy405
 replace H := Option.bind_eq_some_iff.mp H
 obtain ⟨⟨t408, t411, t412, t413⟩, A70, H⟩ := H
 replace H : (qZ.l0 k l0 a1 a2 y405 t413 (l0.length : Int) 0 t408 t411 t412) = some r := H
 have A7 := qa.mk A70
 clear A70
 have H' := qa.mk H
 clear H
 go_enter Try.func4, Try.ntmps4
 go_wp2_with (first | (go_at_call 12; (with_reducible refine (zn.calls k  true _ A4.out).mono ?_); rintro e w8 ⟨rfl, hb⟩; have n0_ := qa.mk (qP (bq HB) hb); clear HB; have HB := n0_; clear n0_; (try clear hb); (try clear hb2); (try clear hk); (try clear hi)) | ((with_reducible refine zw (N := 16) rfl ?_); (try (refine z8 (by rfl) ?_; dsimp only)); refine Kd.QW k31 _ 31 ?hg (N := 16) ?hd (xs := ([] : List (S31))) (inner := []) (ok := fun _ => True) (okp := fun _ => True) ?hr ?hp (fun _ hk => hk) trivial (Below.refl _ _) (Nat.le_refl _) (by simp) ?_; (case hd => rfl); (case hg => rfl); (case hr => first | (go_simp; done) | (go_simp; rfl)); (case hp => exact (zR.none _ _)); intro v403 w9 ho10 hb hg_ hnew_; clear hg_ hnew_; (first | rw [← Ny402.out] at ho10 | (simp only [Int.reduceToNat] at ho10; rw [← Ny402.out] at ho10)); have n0_ := qa.mk (Kd.jm ho10 (qI (bq HB))); have n1_ := qa.mk (qP (bq HB) hb); clear HB; have HO404 := n0_; have HB := n1_; clear n0_ n1_; clear hb ho10) | ((with_reducible refine zU (b := .append) (xs := #[.tmp 16, .tmp 17]) rfl ?_); (try (refine z8 (by rfl) ?_; dsimp only)); at_builtin; refine Kd.Qx k31 (w0 := w) w.heap.size rfl (.tmp 16) (.tmp 17) 23 31 (.agg #[(.int .i64 0), (.int .i64 0), (.int .i64 0), (.int .i64 0), (.int .i64 0), (.bool false)]) 48 rfl Try.underlying23 Jh rfl (by decide) (by omega) v403 y402 l0 _ _ _ (fun _ => True) (fun _ => False) rfl rfl ?aO ?aR (fun _ _ h => h) (fun _ h => h.elim) ?aF ?aB ?aS ?aL ?_; (case aR => repeat (first | exact (Kd.zS HR0.out HB.out) | (with_reducible refine Kd.zI ?_ _) | (with_reducible refine Kd.zH ?_ _) | (with_reducible refine Kd.zL ?_))); (case aB => exact (bq HB)); (case aF => exact (fun _ _ => trivial)); (case aO => exact (rq HO404)); (case aS => exact (qI (bq HB))); (case aL => have := LMc6.out; omega); intro v406 w11 ho hb hg hat; rw [← Ny405.out] at ho; have n0_ := qa.mk (hb); have n1_ := qa.mk (ho); clear HB; clear HO404; have HB := n0_; have HO407 := n1_; clear n0_ n1_; clear ho hb hg hat; obtain ⟨Ao12, co12, eo12⟩ := Kd.jo HO407.out; subst eo12) | (go_at_call 13; (with_reducible refine (qV.calls k _ _ y405 a1 a2 t408 t411 t412 t413 _ ?side1 ?side2 A7.out).mono ?_); (case side1 => repeat (first | exact (Kd.zm HO407.out).2.2 | (with_reducible refine Kd.zI ?_ _) | (with_reducible refine Kd.zH ?_ _) | (with_reducible refine Kd.zL ?_))); (case side2 => exact (Kd.zm HO407.out).2.1); rintro e w13 ⟨v409, rfl, ho0, hb⟩; have n0_ := qa.mk (Kd.zz (rq HO407) hb); have n1_ := qa.mk (Kd.jm ho0 (qI (bq HB))); have n2_ := qa.mk (qP (bq HB) hb); clear HO407; clear HB; have HO407 := n0_; have HO410 := n1_; have HB := n2_; clear n0_ n1_ n2_; (try clear hb); (try clear hb2); (try clear hk); (try clear hi); (try clear ho0)) | ((with_reducible refine zw (N := 8) rfl ?_); (try (refine z8 (by rfl) ?_; dsimp only)); refine zB ?hg (N := 8) ?hd (cs := #[.slice none 0 0, .int .i64 0, .bool false]) (t := 26) ?hr ?_; (case hd => rfl); (case hg => rfl); (case hr => first | (go_simp; done) | (go_simp; rfl)); intro gb414 hg w14 hbox hb; have n0_ := qa.mk (Kd.zz (rq HO407) hb); have n1_ := qa.mk (Kd.zz (rq HO410) hb); have n2_ := qa.mk (qP (bq HB) hb); have n3_ := qa.mk (hbox); have n4_ := qa.mk ((by rw [hg]; exact (qI (bq HB)) : w.heap.size ≤ gb414)); have n5_ := qa.mk ((by rw [hg]; exact (qI (bq HB)) : w.heap.size ≤ gb414)); clear HO407; clear HO410; clear HB; have HO407 := n0_; have HO410 := n1_; have HB := n2_; have BK414 := n3_; have GW414 := n4_; have GE414 := n5_; clear n0_ n1_ n2_ n3_ n4_ n5_; clear hb hbox hg; obtain ⟨Ao15, co15, eo15⟩ := Kd.jo HO410.out; subst eo15; have hcz16_0 : w14.cell? ⟨gb414, 0, none⟩ = some (.slice none 0 0) := (ql BK414.out 0).trans rfl; have hcz16_1 : w14.cell? ⟨gb414, 1, none⟩ = some (.int .i64 0) := (ql BK414.out 1).trans rfl; have hcz16_2 : w14.cell? ⟨gb414, 2, none⟩ = some (.bool false) := (ql BK414.out 2).trans rfl; have hfz16_0 := qg BK414.out 0; have hfz16_1 := qg BK414.out 1; have hfz16_2 := qg BK414.out 2))
 repeat (go_quiet (first | (go_at_call 12; (with_reducible refine (zn.calls k  true _ A4.out).mono ?_); rintro e w8 ⟨rfl, hb⟩; have n0_ := qa.mk (qP (bq HB) hb); clear HB; have HB := n0_; clear n0_; (try clear hb); (try clear hb2); (try clear hk); (try clear hi)) | ((with_reducible refine zw (N := 16) rfl ?_); (try (refine z8 (by rfl) ?_; dsimp only)); refine Kd.QW k31 _ 31 ?hg (N := 16) ?hd (xs := ([] : List (S31))) (inner := []) (ok := fun _ => True) (okp := fun _ => True) ?hr ?hp (fun _ hk => hk) trivial (Below.refl _ _) (Nat.le_refl _) (by simp) ?_; (case hd => rfl); (case hg => rfl); (case hr => first | (go_simp; done) | (go_simp; rfl)); (case hp => exact (zR.none _ _)); intro v403 w9 ho10 hb hg_ hnew_; clear hg_ hnew_; (first | rw [← Ny402.out] at ho10 | (simp only [Int.reduceToNat] at ho10; rw [← Ny402.out] at ho10)); have n0_ := qa.mk (Kd.jm ho10 (qI (bq HB))); have n1_ := qa.mk (qP (bq HB) hb); clear HB; have HO404 := n0_; have HB := n1_; clear n0_ n1_; clear hb ho10) | ((with_reducible refine zU (b := .append) (xs := #[.tmp 16, .tmp 17]) rfl ?_); (try (refine z8 (by rfl) ?_; dsimp only)); at_builtin; refine Kd.Qx k31 (w0 := w) w.heap.size rfl (.tmp 16) (.tmp 17) 23 31 (.agg #[(.int .i64 0), (.int .i64 0), (.int .i64 0), (.int .i64 0), (.int .i64 0), (.bool false)]) 48 rfl Try.underlying23 Jh rfl (by decide) (by omega) v403 y402 l0 _ _ _ (fun _ => True) (fun _ => False) rfl rfl ?aO ?aR (fun _ _ h => h) (fun _ h => h.elim) ?aF ?aB ?aS ?aL ?_; (case aR => repeat (first | exact (Kd.zS HR0.out HB.out) | (with_reducible refine Kd.zI ?_ _) | (with_reducible refine Kd.zH ?_ _) | (with_reducible refine Kd.zL ?_))); (case aB => exact (bq HB)); (case aF => exact (fun _ _ => trivial)); (case aO => exact (rq HO404)); (case aS => exact (qI (bq HB))); (case aL => have := LMc6.out; omega); intro v406 w11 ho hb hg hat; rw [← Ny405.out] at ho; have n0_ := qa.mk (hb); have n1_ := qa.mk (ho); clear HB; clear HO404; have HB := n0_; have HO407 := n1_; clear n0_ n1_; clear ho hb hg hat; obtain ⟨Ao12, co12, eo12⟩ := Kd.jo HO407.out; subst eo12) | (go_at_call 13; (with_reducible refine (qV.calls k _ _ y405 a1 a2 t408 t411 t412 t413 _ ?side1 ?side2 A7.out).mono ?_); (case side1 => repeat (first | exact (Kd.zm HO407.out).2.2 | (with_reducible refine Kd.zI ?_ _) | (with_reducible refine Kd.zH ?_ _) | (with_reducible refine Kd.zL ?_))); (case side2 => exact (Kd.zm HO407.out).2.1); rintro e w13 ⟨v409, rfl, ho0, hb⟩; have n0_ := qa.mk (Kd.zz (rq HO407) hb); have n1_ := qa.mk (Kd.jm ho0 (qI (bq HB))); have n2_ := qa.mk (qP (bq HB) hb); clear HO407; clear HB; have HO407 := n0_; have HO410 := n1_; have HB := n2_; clear n0_ n1_ n2_; (try clear hb); (try clear hb2); (try clear hk); (try clear hi); (try clear ho0)) | ((with_reducible refine zw (N := 8) rfl ?_); (try (refine z8 (by rfl) ?_; dsimp only)); refine zB ?hg (N := 8) ?hd (cs := #[.slice none 0 0, .int .i64 0, .bool false]) (t := 26) ?hr ?_; (case hd => rfl); (case hg => rfl); (case hr => first | (go_simp; done) | (go_simp; rfl)); intro gb414 hg w14 hbox hb; have n0_ := qa.mk (Kd.zz (rq HO407) hb); have n1_ := qa.mk (Kd.zz (rq HO410) hb); have n2_ := qa.mk (qP (bq HB) hb); have n3_ := qa.mk (hbox); have n4_ := qa.mk ((by rw [hg]; exact (qI (bq HB)) : w.heap.size ≤ gb414)); have n5_ := qa.mk ((by rw [hg]; exact (qI (bq HB)) : w.heap.size ≤ gb414)); clear HO407; clear HO410; clear HB; have HO407 := n0_; have HO410 := n1_; have HB := n2_; have BK414 := n3_; have GW414 := n4_; have GE414 := n5_; clear n0_ n1_ n2_ n3_ n4_ n5_; clear hb hbox hg; obtain ⟨Ao15, co15, eo15⟩ := Kd.jo HO410.out; subst eo15; have hcz16_0 : w14.cell? ⟨gb414, 0, none⟩ = some (.slice none 0 0) := (ql BK414.out 0).trans rfl; have hcz16_1 : w14.cell? ⟨gb414, 1, none⟩ = some (.int .i64 0) := (ql BK414.out 1).trans rfl; have hcz16_2 : w14.cell? ⟨gb414, 2, none⟩ = some (.bool false) := (ql BK414.out 2).trans rfl; have hfz16_0 := qg BK414.out 0; have hfz16_1 := qg BK414.out 1; have hfz16_2 := qg BK414.out 2)); try go_wp2_with (first | (go_at_call 12; (with_reducible refine (zn.calls k  true _ A4.out).mono ?_); rintro e w8 ⟨rfl, hb⟩; have n0_ := qa.mk (qP (bq HB) hb); clear HB; have HB := n0_; clear n0_; (try clear hb); (try clear hb2); (try clear hk); (try clear hi)) | ((with_reducible refine zw (N := 16) rfl ?_); (try (refine z8 (by rfl) ?_; dsimp only)); refine Kd.QW k31 _ 31 ?hg (N := 16) ?hd (xs := ([] : List (S31))) (inner := []) (ok := fun _ => True) (okp := fun _ => True) ?hr ?hp (fun _ hk => hk) trivial (Below.refl _ _) (Nat.le_refl _) (by simp) ?_; (case hd => rfl); (case hg => rfl); (case hr => first | (go_simp; done) | (go_simp; rfl)); (case hp => exact (zR.none _ _)); intro v403 w9 ho10 hb hg_ hnew_; clear hg_ hnew_; (first | rw [← Ny402.out] at ho10 | (simp only [Int.reduceToNat] at ho10; rw [← Ny402.out] at ho10)); have n0_ := qa.mk (Kd.jm ho10 (qI (bq HB))); have n1_ := qa.mk (qP (bq HB) hb); clear HB; have HO404 := n0_; have HB := n1_; clear n0_ n1_; clear hb ho10) | ((with_reducible refine zU (b := .append) (xs := #[.tmp 16, .tmp 17]) rfl ?_); (try (refine z8 (by rfl) ?_; dsimp only)); at_builtin; refine Kd.Qx k31 (w0 := w) w.heap.size rfl (.tmp 16) (.tmp 17) 23 31 (.agg #[(.int .i64 0), (.int .i64 0), (.int .i64 0), (.int .i64 0), (.int .i64 0), (.bool false)]) 48 rfl Try.underlying23 Jh rfl (by decide) (by omega) v403 y402 l0 _ _ _ (fun _ => True) (fun _ => False) rfl rfl ?aO ?aR (fun _ _ h => h) (fun _ h => h.elim) ?aF ?aB ?aS ?aL ?_; (case aR => repeat (first | exact (Kd.zS HR0.out HB.out) | (with_reducible refine Kd.zI ?_ _) | (with_reducible refine Kd.zH ?_ _) | (with_reducible refine Kd.zL ?_))); (case aB => exact (bq HB)); (case aF => exact (fun _ _ => trivial)); (case aO => exact (rq HO404)); (case aS => exact (qI (bq HB))); (case aL => have := LMc6.out; omega); intro v406 w11 ho hb hg hat; rw [← Ny405.out] at ho; have n0_ := qa.mk (hb); have n1_ := qa.mk (ho); clear HB; clear HO404; have HB := n0_; have HO407 := n1_; clear n0_ n1_; clear ho hb hg hat; obtain ⟨Ao12, co12, eo12⟩ := Kd.jo HO407.out; subst eo12) | (go_at_call 13; (with_reducible refine (qV.calls k _ _ y405 a1 a2 t408 t411 t412 t413 _ ?side1 ?side2 A7.out).mono ?_); (case side1 => repeat (first | exact (Kd.zm HO407.out).2.2 | (with_reducible refine Kd.zI ?_ _) | (with_reducible refine Kd.zH ?_ _) | (with_reducible refine Kd.zL ?_))); (case side2 => exact (Kd.zm HO407.out).2.1); rintro e w13 ⟨v409, rfl, ho0, hb⟩; have n0_ := qa.mk (Kd.zz (rq HO407) hb); have n1_ := qa.mk (Kd.jm ho0 (qI (bq HB))); have n2_ := qa.mk (qP (bq HB) hb); clear HO407; clear HB; have HO407 := n0_; have HO410 := n1_; have HB := n2_; clear n0_ n1_ n2_; (try clear hb); (try clear hb2); (try clear hk); (try clear hi); (try clear ho0)) | ((with_reducible refine zw (N := 8) rfl ?_); (try (refine z8 (by rfl) ?_; dsimp only)); refine zB ?hg (N := 8) ?hd (cs := #[.slice none 0 0, .int .i64 0, .bool false]) (t := 26) ?hr ?_; (case hd => rfl); (case hg => rfl); (case hr => first | (go_simp; done) | (go_simp; rfl)); intro gb414 hg w14 hbox hb; have n0_ := qa.mk (Kd.zz (rq HO407) hb); have n1_ := qa.mk (Kd.zz (rq HO410) hb); have n2_ := qa.mk (qP (bq HB) hb); have n3_ := qa.mk (hbox); have n4_ := qa.mk ((by rw [hg]; exact (qI (bq HB)) : w.heap.size ≤ gb414)); have n5_ := qa.mk ((by rw [hg]; exact (qI (bq HB)) : w.heap.size ≤ gb414)); clear HO407; clear HO410; clear HB; have HO407 := n0_; have HO410 := n1_; have HB := n2_; have BK414 := n3_; have GW414 := n4_; have GE414 := n5_; clear n0_ n1_ n2_ n3_ n4_ n5_; clear hb hbox hg; obtain ⟨Ao15, co15, eo15⟩ := Kd.jo HO410.out; subst eo15; have hcz16_0 : w14.cell? ⟨gb414, 0, none⟩ = some (.slice none 0 0) := (ql BK414.out 0).trans rfl; have hcz16_1 : w14.cell? ⟨gb414, 1, none⟩ = some (.int .i64 0) := (ql BK414.out 1).trans rfl; have hcz16_2 : w14.cell? ⟨gb414, 2, none⟩ = some (.bool false) := (ql BK414.out 2).trans rfl; have hfz16_0 := qg BK414.out 0; have hfz16_1 := qg BK414.out 1; have hfz16_2 := qg BK414.out 2)))
 go_loopg [28] k (fun kq v28 w' => ∃ (x28_1 : Int), v28 = .int .i64 x28_1 ∧ qa (qZ.l0 kq l0 a1 a2 y405 t413 (l0.length : Int) x28_1 t408 t411 t412 = some r) ∧ qa (kq ≤ k) ∧ qa (Kd.R k31 31 w' w.heap.size (fun _ => True) (.slice Ao12 y405.length co12) y405) ∧ qa (Kd.R (Kd.int .i64) 3 w' w.heap.size (fun _ => True) (.slice Ao15 t408.length co15) t408) ∧ qa (w'.heap[gb414]? = some (.cells #[(.slice Ao15 t408.length co15), .int .i64 t411, .bool t412] 26 (0, 0))) ∧ qa (Below w.heap.size w w'))
 case atStart => exact ⟨(0), (by first | rfl | (simp; done) | (simp [*]; done)), H', ⟨Nat.le_refl _⟩, ⟨by (with_reducible repeat (first | apply Kd.qD | apply Kd.qE | apply Kd.qG)); exact Kd.zi (Kd.ze (p := ⟨gb414, 2, none⟩) (Kd.ze (p := ⟨gb414, 1, none⟩) (Kd.ze (p := ⟨gb414, 0, none⟩) (Kd.zO HO407.out BK414.out (by decide)) (fun _ hk => hk.2) (.slice Ao15 t408.length co15)) (fun _ hk => hk.2) (.int .i64 t411)) (fun _ hk => hk.2) (.bool t412)) (fun _ hk => trivial)⟩, ⟨by (with_reducible repeat (first | apply Kd.qD | apply Kd.qE | apply Kd.qG)); exact Kd.zi (Kd.ze (p := ⟨gb414, 2, none⟩) (Kd.ze (p := ⟨gb414, 1, none⟩) (Kd.ze (p := ⟨gb414, 0, none⟩) (Kd.zO HO410.out BK414.out (by decide)) (fun _ hk => hk.2) (.slice Ao15 t408.length co15)) (fun _ hk => hk.2) (.int .i64 t411)) (fun _ hk => hk.2) (.bool t412)) (fun _ hk => trivial)⟩, ⟨by (with_reducible repeat (first | refine qj ?_ _ | refine qo ?_ | refine qi ?_ _)); refine qR (cs := #[.slice Ao15 t408.length co15, .int .i64 t411, .bool false]) ?_ 2 _ rfl; (with_reducible repeat (first | refine qj ?_ _ | refine qo ?_ | refine qi ?_ _)); refine qR (cs := #[.slice Ao15 t408.length co15, .int .i64 0, .bool false]) ?_ 1 _ rfl; (with_reducible repeat (first | refine qj ?_ _ | refine qo ?_ | refine qi ?_ _)); refine qR (cs := #[.slice none 0 0, .int .i64 0, .bool false]) ?_ 0 _ rfl; exact kq BK414⟩, ⟨bs HB GE414⟩⟩
 case round =>
  clear H'
  try clear p2
  try clear c4
  try clear c5
  try clear c6
  try clear hcz16_0
  try clear hcz16_1
  try clear hcz16_2
  try clear hfz16_0
  try clear hfz16_1
  try clear hfz16_2
  obtain ⟨x28_1, rfl, HA, HK1, HO_7, HO_415000, BK414, HB⟩ := hrel
  cases gk with
  | zero => exact absurd HA.out (by simp [qZ.l0])
  | succ k1 =>
   have H := HA.out
   clear HA
   simp only [qZ.l0] at H
   by_cases c17 : x28_1 < (l0.length : Int)
   ·rw [if_pos c17] at H
    have c17b0 : decide (x28_1 < (l0.length : Int)) = true := decide_eq_true c17
    clear c17
    by_cases c18 : 0 ≤ x28_1
    case neg =>
     rw [if_neg c18] at H
     exact absurd H (by simp)
    rw [if_pos c18] at H
    have c18b0 : decide (0 ≤ x28_1) = true := decide_eq_true c18
    clear c18
    by_cases c19 : x28_1 < (y405.length : Int)
    case neg =>
     rw [if_neg c19] at H
     exact absurd H (by simp)
    rw [if_pos c19] at H
    have c19b0 : decide (x28_1 < (y405.length : Int)) = true := decide_eq_true c19
    clear c19
    by_cases c20 : x28_1 < (l0.length : Int)
    case neg =>
     rw [if_neg c20] at H
     exact absurd H (by simp)
    rw [if_pos c20] at H
    have c20b0 : decide (x28_1 < (l0.length : Int)) = true := decide_eq_true c20
    clear c20
    by_cases c21 : (!(((qc y405 x28_1).f0) == ((qc l0 x28_1).f0)) || (!(((qc y405 x28_1).f1) == ((qc l0 x28_1).f1)) || (!(((qc y405 x28_1).f2) == ((qc l0 x28_1).f2)) || (!(((qc y405 x28_1).f3) == ((qc l0 x28_1).f3)) || (!(((qc y405 x28_1).f4) == ((qc l0 x28_1).f4)) || (!(((qc y405 x28_1).f5) == ((qc l0 x28_1).f5)))))))) = true
    ·rw [if_pos c21] at H
     exact absurd H (by simp)
    rw [if_neg c21] at H
    have c21b0 : (!(((qc y405 x28_1).f0) == ((qc l0 x28_1).f0)) || (!(((qc y405 x28_1).f1) == ((qc l0 x28_1).f1)) || (!(((qc y405 x28_1).f2) == ((qc l0 x28_1).f2)) || (!(((qc y405 x28_1).f3) == ((qc l0 x28_1).f3)) || (!(((qc y405 x28_1).f4) == ((qc l0 x28_1).f4)) || (!(((qc y405 x28_1).f5) == ((qc l0 x28_1).f5)))))))) = false := by simpa using c21
    clear c21
    have H' := qa.mk H
    clear H
    have p415 : 0 ≤ (x28_1 : Int) := odt
    have q415 : x28_1 < (y405.length : Int) := odt
    obtain ⟨ad415, e415, hx415_0, hx415_1, hx415_2, hx415_3, hx415_4, hx415_5⟩ := zt (Kd.zm HO_7.out).2.2 x28_1 p415 q415
    cases e415
    replace p415 := eq_true p415
    replace q415 := eq_true q415
    have p416 : 0 ≤ (x28_1 : Int) := odt
    have q416 : x28_1 < (l0.length : Int) := odt
    obtain ⟨ad416, e416, hx416_0, hx416_1, hx416_2, hx416_3, hx416_4, hx416_5⟩ := zt HR0.out x28_1 p416 q416
    cases e416
    replace hx416_0 := (HB.out.cell (World.block_lt_of_cell? w _ hx416_0)).trans hx416_0
    replace hx416_1 := (HB.out.cell (World.block_lt_of_cell? w _ hx416_1)).trans hx416_1
    replace hx416_2 := (HB.out.cell (World.block_lt_of_cell? w _ hx416_2)).trans hx416_2
    replace hx416_3 := (HB.out.cell (World.block_lt_of_cell? w _ hx416_3)).trans hx416_3
    replace hx416_4 := (HB.out.cell (World.block_lt_of_cell? w _ hx416_4)).trans hx416_4
    replace hx416_5 := (HB.out.cell (World.block_lt_of_cell? w _ hx416_5)).trans hx416_5
    replace p416 := eq_true p416
    replace q416 := eq_true q416
    go_wp2
    repeat (go_quiet (fail); try go_wp2)
    go_roundg k1
    case measure => have := HK1.out; omega
    case rel => exact ⟨(wrap64 (x28_1 + 1)), (by first | rfl | (simp; done) | (simp [*]; done)), H', ⟨by have := HK1.out; omega⟩, ⟨rq HO_7⟩, ⟨rq HO_415000⟩, ⟨kq BK414⟩, ⟨bs HB GE414⟩⟩
   rw [if_neg c17] at H
   have c17b0 : decide (x28_1 < (l0.length : Int)) = false := decide_eq_false c17
   clear c17
   by_cases c22 : (l0.length : Int) > 200
   ·rw [if_pos c22] at H
    have c22b0 : decide (200 < (l0.length : Int)) = true := decide_eq_true c22
    have c22b1 : decide (200 < l0.length) = true := decide_eq_true (by omega)
    clear c22
    replace H := Option.bind_eq_some_iff.mp H
    obtain ⟨t417, A230, H⟩ := H
    replace H : (if t413 = t417 then (some ((t417 != 0) == ((t408.length : Int) == 0))) else (none)) = some r := H
    have A23 := qa.mk A230
    clear A230
    by_cases c24 : t413 = t417
    case neg =>
     rw [if_neg c24] at H
     exact absurd H (by simp)
    rw [if_pos c24] at H
    have c24b0 : (t413 == t417) = true := beq_iff_eq.mpr c24
    have c24b1 : (t413 != t417) = false := bne_eq_false_iff_eq.mpr c24
    clear c24
    obtain rfl := Option.some.inj H
    go_wp2_with (first | (go_at_call 14; (with_reducible refine (zf.calls k1 _ _ l0 a1 a2 t417 _ ?side1 ?side2 A23.out).mono ?_); (case side1 => repeat (first | exact (Kd.zS HR0.out HB.out) | (with_reducible refine Kd.zI ?_ _) | (with_reducible refine Kd.zH ?_ _) | (with_reducible refine Kd.zL ?_))); (case side2 => exact HC0.out); rintro e w25 ⟨rfl, hb⟩; have n0_ := qa.mk (Kd.zz (rq HO_7) hb); have n1_ := qa.mk (Kd.zz (rq HO_415000) hb); have n2_ := qa.mk (zD (g := gb414) (o := .cells #[.slice Ao15 t408.length co15, .int .i64 t411, .bool t412] 26 (0, 0)) (kq BK414) hb); have n3_ := qa.mk (qP (bs HB GE414) hb); clear HO_7; clear HO_415000; clear BK414; clear HB; have HO_7 := n0_; have HO_415000 := n1_; have BK414 := n2_; have HB := n3_; clear n0_ n1_ n2_ n3_; (try clear hb); (try clear hb2); (try clear hk); (try clear hi); have hcz26_0 : w25.cell? ⟨gb414, 0, none⟩ = some (.slice Ao15 t408.length co15) := (ql BK414.out 0).trans rfl; have hcz26_1 : w25.cell? ⟨gb414, 1, none⟩ = some (.int .i64 t411) := (ql BK414.out 1).trans rfl; have hcz26_2 : w25.cell? ⟨gb414, 2, none⟩ = some (.bool t412) := (ql BK414.out 2).trans rfl; have hfz26_0 := qg BK414.out 0; have hfz26_1 := qg BK414.out 1; have hfz26_2 := qg BK414.out 2))
    repeat (go_quiet (first | (go_at_call 14; (with_reducible refine (zf.calls k1 _ _ l0 a1 a2 t417 _ ?side1 ?side2 A23.out).mono ?_); (case side1 => repeat (first | exact (Kd.zS HR0.out HB.out) | (with_reducible refine Kd.zI ?_ _) | (with_reducible refine Kd.zH ?_ _) | (with_reducible refine Kd.zL ?_))); (case side2 => exact HC0.out); rintro e w25 ⟨rfl, hb⟩; have n0_ := qa.mk (Kd.zz (rq HO_7) hb); have n1_ := qa.mk (Kd.zz (rq HO_415000) hb); have n2_ := qa.mk (zD (g := gb414) (o := .cells #[.slice Ao15 t408.length co15, .int .i64 t411, .bool t412] 26 (0, 0)) (kq BK414) hb); have n3_ := qa.mk (qP (bs HB GE414) hb); clear HO_7; clear HO_415000; clear BK414; clear HB; have HO_7 := n0_; have HO_415000 := n1_; have BK414 := n2_; have HB := n3_; clear n0_ n1_ n2_ n3_; (try clear hb); (try clear hb2); (try clear hk); (try clear hi); have hcz26_0 : w25.cell? ⟨gb414, 0, none⟩ = some (.slice Ao15 t408.length co15) := (ql BK414.out 0).trans rfl; have hcz26_1 : w25.cell? ⟨gb414, 1, none⟩ = some (.int .i64 t411) := (ql BK414.out 1).trans rfl; have hcz26_2 : w25.cell? ⟨gb414, 2, none⟩ = some (.bool t412) := (ql BK414.out 2).trans rfl; have hfz26_0 := qg BK414.out 0; have hfz26_1 := qg BK414.out 1; have hfz26_2 := qg BK414.out 2)); try go_wp2_with (first | (go_at_call 14; (with_reducible refine (zf.calls k1 _ _ l0 a1 a2 t417 _ ?side1 ?side2 A23.out).mono ?_); (case side1 => repeat (first | exact (Kd.zS HR0.out HB.out) | (with_reducible refine Kd.zI ?_ _) | (with_reducible refine Kd.zH ?_ _) | (with_reducible refine Kd.zL ?_))); (case side2 => exact HC0.out); rintro e w25 ⟨rfl, hb⟩; have n0_ := qa.mk (Kd.zz (rq HO_7) hb); have n1_ := qa.mk (Kd.zz (rq HO_415000) hb); have n2_ := qa.mk (zD (g := gb414) (o := .cells #[.slice Ao15 t408.length co15, .int .i64 t411, .bool t412] 26 (0, 0)) (kq BK414) hb); have n3_ := qa.mk (qP (bs HB GE414) hb); clear HO_7; clear HO_415000; clear BK414; clear HB; have HO_7 := n0_; have HO_415000 := n1_; have BK414 := n2_; have HB := n3_; clear n0_ n1_ n2_ n3_; (try clear hb); (try clear hb2); (try clear hk); (try clear hi); have hcz26_0 : w25.cell? ⟨gb414, 0, none⟩ = some (.slice Ao15 t408.length co15) := (ql BK414.out 0).trans rfl; have hcz26_1 : w25.cell? ⟨gb414, 1, none⟩ = some (.int .i64 t411) := (ql BK414.out 1).trans rfl; have hcz26_2 : w25.cell? ⟨gb414, 2, none⟩ = some (.bool t412) := (ql BK414.out 2).trans rfl; have hfz26_0 := qg BK414.out 0; have hfz26_1 := qg BK414.out 1; have hfz26_2 := qg BK414.out 2)))
    go_ret
    exact ⟨by first | rfl | (simp [qN, qM] <;> rfl) | (simp [*, qN, qM] <;> rfl), bs HB GE414⟩
   rw [if_neg c22] at H
   have c22b0 : decide (200 < (l0.length : Int)) = false := decide_eq_false c22
   have c22b1 : decide (200 < l0.length) = false := decide_eq_false (by omega)
   clear c22
   replace H := Option.bind_eq_some_iff.mp H
   obtain ⟨⟨t418, t421, t422, t423⟩, A270, H⟩ := H
   replace H : (if t413 = t423 then ((qL.f k1 t408 t418).bind fun t425 => (if t425 = true then (if t411 = t421 then (some (t412 == t422)) else (none)) else (none))) else (none)) = some r := H
   have A27 := qa.mk A270
   clear A270
   by_cases c28 : t413 = t423
   case neg =>
    rw [if_neg c28] at H
    exact absurd H (by simp)
   rw [if_pos c28] at H
   have c28b0 : (t413 == t423) = true := beq_iff_eq.mpr c28
   have c28b1 : (t413 != t423) = false := bne_eq_false_iff_eq.mpr c28
   clear c28
   replace H := Option.bind_eq_some_iff.mp H
   obtain ⟨t425, A290, H⟩ := H
   replace H : (if t425 = true then (if t411 = t421 then (some (t412 == t422)) else (none)) else (none)) = some r := H
   have A29 := qa.mk A290
   clear A290
   by_cases c30 : t425 = true
   case neg =>
    replace c30 := Bool.eq_false_iff.mpr c30
    subst c30
    have H1 : (none) = some r := by rw [if_neg (show ¬ (false = true) by decide)] at H; exact H
    clear H
    have H := H1
    clear H1
    exact absurd H (by simp)
   subst c30
   have H1 : (if t411 = t421 then (some (t412 == t422)) else (none)) = some r := by rw [if_pos rfl] at H; exact H
   clear H
   have H := H1
   clear H1
   by_cases c31 : t411 = t421
   case neg =>
    rw [if_neg c31] at H
    exact absurd H (by simp)
   rw [if_pos c31] at H
   have c31b0 : (t411 == t421) = true := beq_iff_eq.mpr c31
   have c31b1 : (t411 != t421) = false := bne_eq_false_iff_eq.mpr c31
   clear c31
   obtain rfl := Option.some.inj H
   go_wp2_with (first | (go_at_call 15; (with_reducible refine (qf.calls k1 _ _ l0 a1 a2 t418 t421 t422 t423 _ ?side1 ?side2 A27.out).mono ?_); (case side1 => repeat (first | exact (Kd.zS HR0.out HB.out) | (with_reducible refine Kd.zI ?_ _) | (with_reducible refine Kd.zH ?_ _) | (with_reducible refine Kd.zL ?_))); (case side2 => exact HC0.out); rintro e w32 ⟨v419, rfl, ho0, hb⟩; have n0_ := qa.mk (Kd.zz (rq HO_7) hb); have n1_ := qa.mk (Kd.Qk (rq HO_415000) (Kd.Qu ho0) hb); have n2_ := qa.mk (Kd.jm (Kd.QA ho0 (Kd.QN (rq HO_415000))) (qI (bs HB GE414))); have n3_ := qa.mk (zD (g := gb414) (o := .cells #[.slice Ao15 t408.length co15, .int .i64 t411, .bool t412] 26 (0, 0)) (kq BK414) hb); have n4_ := qa.mk (qP (bs HB GE414) hb); clear HO_7; clear HO_415000; clear BK414; clear HB; have HO_7 := n0_; have HO_415000 := n1_; have HO420 := n2_; have BK414 := n3_; have HB := n4_; clear n0_ n1_ n2_ n3_ n4_; (try clear hb); (try clear hb2); (try clear hk); (try clear hi); (try clear ho0)) | ((with_reducible refine zw (N := 12) rfl ?_); (try (refine z8 (by rfl) ?_; dsimp only)); refine zB ?hg (N := 12) ?hd (cs := #[.slice none 0 0, .int .i64 0, .bool false]) (t := 26) ?hr ?_; (case hd => rfl); (case hg => rfl); (case hr => first | (go_simp; done) | (go_simp; rfl)); intro gb424 hg w33 hbox hb; have n0_ := qa.mk (Kd.zz (rq HO_7) hb); have n1_ := qa.mk (Kd.zz (rq HO_415000) hb); have n2_ := qa.mk (Kd.zz (rq HO420) hb); have n3_ := qa.mk (zD (g := gb414) (o := .cells #[.slice Ao15 t408.length co15, .int .i64 t411, .bool t412] 26 (0, 0)) (kq BK414) hb); have n4_ := qa.mk (qP (bs HB GE414) hb); have n5_ := qa.mk (hbox); have n6_ := qa.mk ((by rw [hg]; exact (qI (bs HB GE414)) : w.heap.size ≤ gb424)); have n7_ := qa.mk ((by rw [hg]; exact (qI (bs HB GE414)) : w.heap.size ≤ gb424)); have n8_ := qa.mk ((by rw [hg]; exact Nat.ne_of_lt (jB (g := gb414) (o := .cells #[.slice Ao15 t408.length co15, .int .i64 t411, .bool t412] 26 (0, 0)) (kq BK414)) : gb414 ≠ gb424)); have n9_ := qa.mk ((by rw [hg]; exact Nat.ne_of_gt (jB (g := gb414) (o := .cells #[.slice Ao15 t408.length co15, .int .i64 t411, .bool t412] 26 (0, 0)) (kq BK414)) : gb424 ≠ gb414)); clear HO_7; clear HO_415000; clear HO420; clear BK414; clear HB; have HO_7 := n0_; have HO_415000 := n1_; have HO420 := n2_; have BK414 := n3_; have HB := n4_; have BK424 := n5_; have GW424 := n6_; have GE424 := n7_; have NB414_424 := n8_; have NB424_414 := n9_; clear n0_ n1_ n2_ n3_ n4_ n5_ n6_ n7_ n8_ n9_; clear hb hbox hg; obtain ⟨Ao34, co34, eo34⟩ := Kd.jo HO420.out; subst eo34; have hnb35 := NB424_414.out; have hnc35 := NB414_424.out; have hcz36_0 : w33.cell? ⟨gb424, 0, none⟩ = some (.slice none 0 0) := (ql BK424.out 0).trans rfl; have hcz36_1 : w33.cell? ⟨gb424, 1, none⟩ = some (.int .i64 0) := (ql BK424.out 1).trans rfl; have hcz36_2 : w33.cell? ⟨gb424, 2, none⟩ = some (.bool false) := (ql BK424.out 2).trans rfl; have hfz36_0 := qg BK424.out 0; have hfz36_1 := qg BK424.out 1; have hfz36_2 := qg BK424.out 2; have hcz37_0 : w33.cell? ⟨gb414, 0, none⟩ = some (.slice Ao15 t408.length co15) := (ql BK414.out 0).trans rfl; have hcz37_1 : w33.cell? ⟨gb414, 1, none⟩ = some (.int .i64 t411) := (ql BK414.out 1).trans rfl; have hcz37_2 : w33.cell? ⟨gb414, 2, none⟩ = some (.bool t412) := (ql BK414.out 2).trans rfl; have hfz37_0 := qg BK414.out 0; have hfz37_1 := qg BK414.out 1; have hfz37_2 := qg BK414.out 2) | (go_at_call 16; (with_reducible refine (qL.calls k1 _ _ t408 _ _ t418 true _ ?side1 ?side2 ?side3 ?side4 A29.out).mono ?_); (case side1 => refine (Kd.zm (e := 3) (base := w.heap.size) (ok := fun k_ => (True ∧ some k_ ≠ (.slice Ao34 t418.length co34 : Value).ownBlock)) (n := t408.length) (c := co15) ?_).2.2; exact (by (with_reducible repeat (first | apply Kd.qD | apply Kd.qE | apply Kd.qG)); exact (Kd.zi (Kd.ze (p := ⟨gb424, 2, none⟩) (Kd.ze (p := ⟨gb424, 1, none⟩) (Kd.ze (p := ⟨gb424, 0, none⟩) (Kd.zO HO_415000.out BK424.out (by decide)) (fun _ hk => hk.2) (.slice Ao34 t418.length co34)) (fun _ hk => hk.2) (.int .i64 t421)) (fun _ hk => hk.2) (.bool t422)) (fun _ h_ => h_.1)))); (case side2 => exact (Kd.zm HO_415000.out).2.1); (case side3 => refine (Kd.zm (e := 3) (base := w.heap.size) (ok := fun k_ => (True ∧ some k_ ≠ (.slice Ao15 t408.length co15 : Value).ownBlock)) (n := t418.length) (c := co34) ?_).2.2; exact (by (with_reducible repeat (first | apply Kd.qD | apply Kd.qE | apply Kd.qG)); exact (Kd.zi (Kd.ze (p := ⟨gb424, 2, none⟩) (Kd.ze (p := ⟨gb424, 1, none⟩) (Kd.ze (p := ⟨gb424, 0, none⟩) (Kd.zO HO420.out BK424.out (by decide)) (fun _ hk => hk.2) (.slice Ao34 t418.length co34)) (fun _ hk => hk.2) (.int .i64 t421)) (fun _ hk => hk.2) (.bool t422)) (fun _ h_ => h_.1)))); (case side4 => exact (Kd.zm HO420.out).2.1); rintro e w' ⟨rfl, ⟨nd, rfl⟩⟩; (try first | exact ⟨rfl, _, World.drewN_drewN _ _ _⟩ | exact ⟨rfl, _, Eq.trans (World.drewN_drewN _ _ _) (congrArg (World.drewN _) (Nat.add_assoc _ _ _))⟩)))
   repeat (go_quiet (first | (go_at_call 15; (with_reducible refine (qf.calls k1 _ _ l0 a1 a2 t418 t421 t422 t423 _ ?side1 ?side2 A27.out).mono ?_); (case side1 => repeat (first | exact (Kd.zS HR0.out HB.out) | (with_reducible refine Kd.zI ?_ _) | (with_reducible refine Kd.zH ?_ _) | (with_reducible refine Kd.zL ?_))); (case side2 => exact HC0.out); rintro e w32 ⟨v419, rfl, ho0, hb⟩; have n0_ := qa.mk (Kd.zz (rq HO_7) hb); have n1_ := qa.mk (Kd.Qk (rq HO_415000) (Kd.Qu ho0) hb); have n2_ := qa.mk (Kd.jm (Kd.QA ho0 (Kd.QN (rq HO_415000))) (qI (bs HB GE414))); have n3_ := qa.mk (zD (g := gb414) (o := .cells #[.slice Ao15 t408.length co15, .int .i64 t411, .bool t412] 26 (0, 0)) (kq BK414) hb); have n4_ := qa.mk (qP (bs HB GE414) hb); clear HO_7; clear HO_415000; clear BK414; clear HB; have HO_7 := n0_; have HO_415000 := n1_; have HO420 := n2_; have BK414 := n3_; have HB := n4_; clear n0_ n1_ n2_ n3_ n4_; (try clear hb); (try clear hb2); (try clear hk); (try clear hi); (try clear ho0)) | ((with_reducible refine zw (N := 12) rfl ?_); (try (refine z8 (by rfl) ?_; dsimp only)); refine zB ?hg (N := 12) ?hd (cs := #[.slice none 0 0, .int .i64 0, .bool false]) (t := 26) ?hr ?_; (case hd => rfl); (case hg => rfl); (case hr => first | (go_simp; done) | (go_simp; rfl)); intro gb424 hg w33 hbox hb; have n0_ := qa.mk (Kd.zz (rq HO_7) hb); have n1_ := qa.mk (Kd.zz (rq HO_415000) hb); have n2_ := qa.mk (Kd.zz (rq HO420) hb); have n3_ := qa.mk (zD (g := gb414) (o := .cells #[.slice Ao15 t408.length co15, .int .i64 t411, .bool t412] 26 (0, 0)) (kq BK414) hb); have n4_ := qa.mk (qP (bs HB GE414) hb); have n5_ := qa.mk (hbox); have n6_ := qa.mk ((by rw [hg]; exact (qI (bs HB GE414)) : w.heap.size ≤ gb424)); have n7_ := qa.mk ((by rw [hg]; exact (qI (bs HB GE414)) : w.heap.size ≤ gb424)); have n8_ := qa.mk ((by rw [hg]; exact Nat.ne_of_lt (jB (g := gb414) (o := .cells #[.slice Ao15 t408.length co15, .int .i64 t411, .bool t412] 26 (0, 0)) (kq BK414)) : gb414 ≠ gb424)); have n9_ := qa.mk ((by rw [hg]; exact Nat.ne_of_gt (jB (g := gb414) (o := .cells #[.slice Ao15 t408.length co15, .int .i64 t411, .bool t412] 26 (0, 0)) (kq BK414)) : gb424 ≠ gb414)); clear HO_7; clear HO_415000; clear HO420; clear BK414; clear HB; have HO_7 := n0_; have HO_415000 := n1_; have HO420 := n2_; have BK414 := n3_; have HB := n4_; have BK424 := n5_; have GW424 := n6_; have GE424 := n7_; have NB414_424 := n8_; have NB424_414 := n9_; clear n0_ n1_ n2_ n3_ n4_ n5_ n6_ n7_ n8_ n9_; clear hb hbox hg; obtain ⟨Ao34, co34, eo34⟩ := Kd.jo HO420.out; subst eo34; have hnb35 := NB424_414.out; have hnc35 := NB414_424.out; have hcz36_0 : w33.cell? ⟨gb424, 0, none⟩ = some (.slice none 0 0) := (ql BK424.out 0).trans rfl; have hcz36_1 : w33.cell? ⟨gb424, 1, none⟩ = some (.int .i64 0) := (ql BK424.out 1).trans rfl; have hcz36_2 : w33.cell? ⟨gb424, 2, none⟩ = some (.bool false) := (ql BK424.out 2).trans rfl; have hfz36_0 := qg BK424.out 0; have hfz36_1 := qg BK424.out 1; have hfz36_2 := qg BK424.out 2; have hcz37_0 : w33.cell? ⟨gb414, 0, none⟩ = some (.slice Ao15 t408.length co15) := (ql BK414.out 0).trans rfl; have hcz37_1 : w33.cell? ⟨gb414, 1, none⟩ = some (.int .i64 t411) := (ql BK414.out 1).trans rfl; have hcz37_2 : w33.cell? ⟨gb414, 2, none⟩ = some (.bool t412) := (ql BK414.out 2).trans rfl; have hfz37_0 := qg BK414.out 0; have hfz37_1 := qg BK414.out 1; have hfz37_2 := qg BK414.out 2) | (go_at_call 16; (with_reducible refine (qL.calls k1 _ _ t408 _ _ t418 true _ ?side1 ?side2 ?side3 ?side4 A29.out).mono ?_); (case side1 => refine (Kd.zm (e := 3) (base := w.heap.size) (ok := fun k_ => (True ∧ some k_ ≠ (.slice Ao34 t418.length co34 : Value).ownBlock)) (n := t408.length) (c := co15) ?_).2.2; exact (by (with_reducible repeat (first | apply Kd.qD | apply Kd.qE | apply Kd.qG)); exact (Kd.zi (Kd.ze (p := ⟨gb424, 2, none⟩) (Kd.ze (p := ⟨gb424, 1, none⟩) (Kd.ze (p := ⟨gb424, 0, none⟩) (Kd.zO HO_415000.out BK424.out (by decide)) (fun _ hk => hk.2) (.slice Ao34 t418.length co34)) (fun _ hk => hk.2) (.int .i64 t421)) (fun _ hk => hk.2) (.bool t422)) (fun _ h_ => h_.1)))); (case side2 => exact (Kd.zm HO_415000.out).2.1); (case side3 => refine (Kd.zm (e := 3) (base := w.heap.size) (ok := fun k_ => (True ∧ some k_ ≠ (.slice Ao15 t408.length co15 : Value).ownBlock)) (n := t418.length) (c := co34) ?_).2.2; exact (by (with_reducible repeat (first | apply Kd.qD | apply Kd.qE | apply Kd.qG)); exact (Kd.zi (Kd.ze (p := ⟨gb424, 2, none⟩) (Kd.ze (p := ⟨gb424, 1, none⟩) (Kd.ze (p := ⟨gb424, 0, none⟩) (Kd.zO HO420.out BK424.out (by decide)) (fun _ hk => hk.2) (.slice Ao34 t418.length co34)) (fun _ hk => hk.2) (.int .i64 t421)) (fun _ hk => hk.2) (.bool t422)) (fun _ h_ => h_.1)))); (case side4 => exact (Kd.zm HO420.out).2.1); rintro e w' ⟨rfl, ⟨nd, rfl⟩⟩; (try first | exact ⟨rfl, _, World.drewN_drewN _ _ _⟩ | exact ⟨rfl, _, Eq.trans (World.drewN_drewN _ _ _) (congrArg (World.drewN _) (Nat.add_assoc _ _ _))⟩))); try go_wp2_with (first | (go_at_call 15; (with_reducible refine (qf.calls k1 _ _ l0 a1 a2 t418 t421 t422 t423 _ ?side1 ?side2 A27.out).mono ?_); (case side1 => repeat (first | exact (Kd.zS HR0.out HB.out) | (with_reducible refine Kd.zI ?_ _) | (with_reducible refine Kd.zH ?_ _) | (with_reducible refine Kd.zL ?_))); (case side2 => exact HC0.out); rintro e w32 ⟨v419, rfl, ho0, hb⟩; have n0_ := qa.mk (Kd.zz (rq HO_7) hb); have n1_ := qa.mk (Kd.Qk (rq HO_415000) (Kd.Qu ho0) hb); have n2_ := qa.mk (Kd.jm (Kd.QA ho0 (Kd.QN (rq HO_415000))) (qI (bs HB GE414))); have n3_ := qa.mk (zD (g := gb414) (o := .cells #[.slice Ao15 t408.length co15, .int .i64 t411, .bool t412] 26 (0, 0)) (kq BK414) hb); have n4_ := qa.mk (qP (bs HB GE414) hb); clear HO_7; clear HO_415000; clear BK414; clear HB; have HO_7 := n0_; have HO_415000 := n1_; have HO420 := n2_; have BK414 := n3_; have HB := n4_; clear n0_ n1_ n2_ n3_ n4_; (try clear hb); (try clear hb2); (try clear hk); (try clear hi); (try clear ho0)) | ((with_reducible refine zw (N := 12) rfl ?_); (try (refine z8 (by rfl) ?_; dsimp only)); refine zB ?hg (N := 12) ?hd (cs := #[.slice none 0 0, .int .i64 0, .bool false]) (t := 26) ?hr ?_; (case hd => rfl); (case hg => rfl); (case hr => first | (go_simp; done) | (go_simp; rfl)); intro gb424 hg w33 hbox hb; have n0_ := qa.mk (Kd.zz (rq HO_7) hb); have n1_ := qa.mk (Kd.zz (rq HO_415000) hb); have n2_ := qa.mk (Kd.zz (rq HO420) hb); have n3_ := qa.mk (zD (g := gb414) (o := .cells #[.slice Ao15 t408.length co15, .int .i64 t411, .bool t412] 26 (0, 0)) (kq BK414) hb); have n4_ := qa.mk (qP (bs HB GE414) hb); have n5_ := qa.mk (hbox); have n6_ := qa.mk ((by rw [hg]; exact (qI (bs HB GE414)) : w.heap.size ≤ gb424)); have n7_ := qa.mk ((by rw [hg]; exact (qI (bs HB GE414)) : w.heap.size ≤ gb424)); have n8_ := qa.mk ((by rw [hg]; exact Nat.ne_of_lt (jB (g := gb414) (o := .cells #[.slice Ao15 t408.length co15, .int .i64 t411, .bool t412] 26 (0, 0)) (kq BK414)) : gb414 ≠ gb424)); have n9_ := qa.mk ((by rw [hg]; exact Nat.ne_of_gt (jB (g := gb414) (o := .cells #[.slice Ao15 t408.length co15, .int .i64 t411, .bool t412] 26 (0, 0)) (kq BK414)) : gb424 ≠ gb414)); clear HO_7; clear HO_415000; clear HO420; clear BK414; clear HB; have HO_7 := n0_; have HO_415000 := n1_; have HO420 := n2_; have BK414 := n3_; have HB := n4_; have BK424 := n5_; have GW424 := n6_; have GE424 := n7_; have NB414_424 := n8_; have NB424_414 := n9_; clear n0_ n1_ n2_ n3_ n4_ n5_ n6_ n7_ n8_ n9_; clear hb hbox hg; obtain ⟨Ao34, co34, eo34⟩ := Kd.jo HO420.out; subst eo34; have hnb35 := NB424_414.out; have hnc35 := NB414_424.out; have hcz36_0 : w33.cell? ⟨gb424, 0, none⟩ = some (.slice none 0 0) := (ql BK424.out 0).trans rfl; have hcz36_1 : w33.cell? ⟨gb424, 1, none⟩ = some (.int .i64 0) := (ql BK424.out 1).trans rfl; have hcz36_2 : w33.cell? ⟨gb424, 2, none⟩ = some (.bool false) := (ql BK424.out 2).trans rfl; have hfz36_0 := qg BK424.out 0; have hfz36_1 := qg BK424.out 1; have hfz36_2 := qg BK424.out 2; have hcz37_0 : w33.cell? ⟨gb414, 0, none⟩ = some (.slice Ao15 t408.length co15) := (ql BK414.out 0).trans rfl; have hcz37_1 : w33.cell? ⟨gb414, 1, none⟩ = some (.int .i64 t411) := (ql BK414.out 1).trans rfl; have hcz37_2 : w33.cell? ⟨gb414, 2, none⟩ = some (.bool t412) := (ql BK414.out 2).trans rfl; have hfz37_0 := qg BK414.out 0; have hfz37_1 := qg BK414.out 1; have hfz37_2 := qg BK414.out 2) | (go_at_call 16; (with_reducible refine (qL.calls k1 _ _ t408 _ _ t418 true _ ?side1 ?side2 ?side3 ?side4 A29.out).mono ?_); (case side1 => refine (Kd.zm (e := 3) (base := w.heap.size) (ok := fun k_ => (True ∧ some k_ ≠ (.slice Ao34 t418.length co34 : Value).ownBlock)) (n := t408.length) (c := co15) ?_).2.2; exact (by (with_reducible repeat (first | apply Kd.qD | apply Kd.qE | apply Kd.qG)); exact (Kd.zi (Kd.ze (p := ⟨gb424, 2, none⟩) (Kd.ze (p := ⟨gb424, 1, none⟩) (Kd.ze (p := ⟨gb424, 0, none⟩) (Kd.zO HO_415000.out BK424.out (by decide)) (fun _ hk => hk.2) (.slice Ao34 t418.length co34)) (fun _ hk => hk.2) (.int .i64 t421)) (fun _ hk => hk.2) (.bool t422)) (fun _ h_ => h_.1)))); (case side2 => exact (Kd.zm HO_415000.out).2.1); (case side3 => refine (Kd.zm (e := 3) (base := w.heap.size) (ok := fun k_ => (True ∧ some k_ ≠ (.slice Ao15 t408.length co15 : Value).ownBlock)) (n := t418.length) (c := co34) ?_).2.2; exact (by (with_reducible repeat (first | apply Kd.qD | apply Kd.qE | apply Kd.qG)); exact (Kd.zi (Kd.ze (p := ⟨gb424, 2, none⟩) (Kd.ze (p := ⟨gb424, 1, none⟩) (Kd.ze (p := ⟨gb424, 0, none⟩) (Kd.zO HO420.out BK424.out (by decide)) (fun _ hk => hk.2) (.slice Ao34 t418.length co34)) (fun _ hk => hk.2) (.int .i64 t421)) (fun _ hk => hk.2) (.bool t422)) (fun _ h_ => h_.1)))); (case side4 => exact (Kd.zm HO420.out).2.1); rintro e w' ⟨rfl, ⟨nd, rfl⟩⟩; (try first | exact ⟨rfl, _, World.drewN_drewN _ _ _⟩ | exact ⟨rfl, _, Eq.trans (World.drewN_drewN _ _ _) (congrArg (World.drewN _) (Nat.add_assoc _ _ _))⟩))))
   go_ret
   exact ⟨by first | rfl | (simp [qN, qM] <;> rfl) | (simp [*, qN, qM] <;> rfl), by repeat (first | (with_reducible first | exact HB.out | apply qA | apply qx | apply qC | refine qm ?_ GE414.out | refine qm ?_ GE424.out) | exact HB.out)⟩
def qZ.Pure : Prop := ∀ (l0 : List (S31)) (a1 : Int) (a2 : Int), (l0.length ≤ 9223372036854775807 ∧ l0.length * 48 ≤ 140737488351232 ∧ ∀ y1_ ∈ l0, okS31 y1_) → ((Lit.int .i64 a1).wf = true) → ((Lit.int .i64 a2).wf = true) → ∃ k, qZ.f k l0 a1 a2 = some true
end Go.Proofs.Ytfbanppdiglciaa.X
