import Derived.Test.YtfbanppdiglciaaXx0
import Derived.Test.YtfbanppdiglciaaXx13
import Derived.Test.YtfbanppdiglciaaXx15
import Derived.Test.YtfbanppdiglciaaXx17
import Derived.Test.YtfbanppdiglciaaXx18
namespace Go.Proofs.Ytfbanppdiglciaa.X
open Go.RowKit Go.Proofs.YtfbanppdiglciaaW.PrintWords Go.Proofs.YtfbanppdiglciaaW.PrintLast Go.Proofs.YtfbanppdiglciaaW.PrintMore
attribute [local go_sem] jw jv jJ jI jf je jA jC
set_option linter.unusedVariables false
set_option linter.unusedSimpArgs false
mutual
def qJ.l0 : Nat → List (S31) → Int → List Int → Int → Int → Option (Bool)
 | 0, _, _, _, _, _ => none
 | k + 1, x0, x9, x36, x37, x38 => if x38 < x37 then (if 0 ≤ x38 then (if x38 < (x36.length : Int) then (if (rd x36 x38) ≤ x9 then (qJ.j1 k x0 x9 (rd x36 x38) x36 x37 x38 true) else (if (rd x36 x38) > (x0.length : Int) then (qJ.j1 k x0 x9 (rd x36 x38) x36 x37 x38 true) else ((zZ.f x0 (rd x36 x38)).bind fun t275 => (qJ.j1 k x0 x9 (rd x36 x38) x36 x37 x38 (!t275))))) else (none)) else (none)) else (some (x9 == (x0.length : Int)))
def qJ.j1 : Nat → List (S31) → Int → Int → List Int → Int → Int → Bool → Option (Bool)
 | 0, _, _, _, _, _, _, _ => none
 | k + 1, x0, x9, x11, x36, x37, x38, x56 => if x56 = true then (none) else (qJ.l1 k x0 x11 (wrap64 (x9 + 1)) x36 x37 x38)
def qJ.l1 : Nat → List (S31) → Int → Int → List Int → Int → Int → Option (Bool)
 | 0, _, _, _, _, _, _ => none
 | k + 1, x0, x11, x12, x36, x37, x38 => if x12 < x11 then ((zx.f x0 x12).bind fun t276 => (if t276 = true then (none) else (qJ.l1 k x0 x11 (wrap64 (x12 + 1)) x36 x37 x38))) else (qJ.l0 k x0 x11 x36 x37 (wrap64 (x38 + 1)))
end
def qJ.f (k : Nat) (l0 : List (S31)) (a1 : Int) (a2 : Int) : Option (Bool) := (zn.f k).bind fun t260 => (if t260 = true then ((some (([] : List (S31)) : List (S31))).bind fun y261 => (if y261.length + l0.length < 2932031007402 then ((qV.f k (y261 ++ l0) a1 a2).bind fun bt267 => (if bt267.2.2.2 = 0 then (qJ.l0 k l0 (-1) bt267.1 (bt267.1.length : Int) 0) else (if (bt267.1.length : Int) = 0 then (some (!bt267.2.2.1)) else (none)))) else (none))) else (none))
theorem qJ.zT : ∀ k, (∀ y0 y1 y2 y3 y4, LeO (qJ.l0 k y0 y1 y2 y3 y4) (qJ.l0 (k + 1) y0 y1 y2 y3 y4)) ∧ (∀ y0 y1 y2 y3 y4 y5 y6, LeO (qJ.j1 k y0 y1 y2 y3 y4 y5 y6) (qJ.j1 (k + 1) y0 y1 y2 y3 y4 y5 y6)) ∧ (∀ y0 y1 y2 y3 y4 y5, LeO (qJ.l1 k y0 y1 y2 y3 y4 y5) (qJ.l1 (k + 1) y0 y1 y2 y3 y4 y5))
 | 0 => ⟨fun _ _ _ _ _ r h => by simp [qJ.l0] at h, fun _ _ _ _ _ _ _ r h => by simp [qJ.j1] at h, fun _ _ _ _ _ _ r h => by simp [qJ.l1] at h⟩
 | k + 1 => by
  obtain ⟨ih0, ih1, ih2⟩ := qJ.zT k
  refine ⟨?_, ?_, ?_⟩
  ·intro y0 y1 y2 y3 y4
   unfold qJ.l0
   repeat' first
   | (with_reducible exact ih0 _ _ _ _ _)
   | (with_reducible exact ih1 _ _ _ _ _ _ _)
   | (with_reducible exact ih2 _ _ _ _ _ _)
   | (with_reducible exact qV.mono _ _ _ _)
   | (with_reducible exact zn.mono _)
   | (with_reducible exact LeO.refl _)
   | (with_reducible exact LeO.none _)
   | (with_reducible refine LeO.ite ?_ ?_)
   | (with_reducible refine LeO.bind ?_ (fun _ => ?_))
   | exact ih0 _ _ _ _ _
   | exact ih1 _ _ _ _ _ _ _
   | exact ih2 _ _ _ _ _ _
   | exact qV.mono _ _ _ _
   | exact zn.mono _
   | exact LeO.none _
   | refine LeO.ite ?_ ?_
   | refine LeO.bind ?_ (fun _ => ?_)
  ·intro y0 y1 y2 y3 y4 y5 y6
   unfold qJ.j1
   repeat' first
   | (with_reducible exact ih0 _ _ _ _ _)
   | (with_reducible exact ih1 _ _ _ _ _ _ _)
   | (with_reducible exact ih2 _ _ _ _ _ _)
   | (with_reducible exact qV.mono _ _ _ _)
   | (with_reducible exact zn.mono _)
   | (with_reducible exact LeO.refl _)
   | (with_reducible exact LeO.none _)
   | (with_reducible refine LeO.ite ?_ ?_)
   | (with_reducible refine LeO.bind ?_ (fun _ => ?_))
   | exact ih0 _ _ _ _ _
   | exact ih1 _ _ _ _ _ _ _
   | exact ih2 _ _ _ _ _ _
   | exact qV.mono _ _ _ _
   | exact zn.mono _
   | exact LeO.none _
   | refine LeO.ite ?_ ?_
   | refine LeO.bind ?_ (fun _ => ?_)
  ·intro y0 y1 y2 y3 y4 y5
   unfold qJ.l1
   repeat' first
   | (with_reducible exact ih0 _ _ _ _ _)
   | (with_reducible exact ih1 _ _ _ _ _ _ _)
   | (with_reducible exact ih2 _ _ _ _ _ _)
   | (with_reducible exact qV.mono _ _ _ _)
   | (with_reducible exact zn.mono _)
   | (with_reducible exact LeO.refl _)
   | (with_reducible exact LeO.none _)
   | (with_reducible refine LeO.ite ?_ ?_)
   | (with_reducible refine LeO.bind ?_ (fun _ => ?_))
   | exact ih0 _ _ _ _ _
   | exact ih1 _ _ _ _ _ _ _
   | exact ih2 _ _ _ _ _ _
   | exact qV.mono _ _ _ _
   | exact zn.mono _
   | exact LeO.none _
   | refine LeO.ite ?_ ?_
   | refine LeO.bind ?_ (fun _ => ?_)
theorem qJ.mono : ∀ a0 a1 a2 k, LeO (qJ.f k a0 a1 a2) (qJ.f (k + 1) a0 a1 a2) := by
 intro a0 a1 a2 k
 obtain ⟨ih0, ih1, ih2⟩ := qJ.zT k
 unfold qJ.f
 repeat' first
   | (with_reducible exact ih0 _ _ _ _ _)
   | (with_reducible exact ih1 _ _ _ _ _ _ _)
   | (with_reducible exact ih2 _ _ _ _ _ _)
   | (with_reducible exact qV.mono _ _ _ _)
   | (with_reducible exact zn.mono _)
   | (with_reducible exact LeO.refl _)
   | (with_reducible exact LeO.none _)
   | (with_reducible refine LeO.ite ?_ ?_)
   | (with_reducible refine LeO.bind ?_ (fun _ => ?_))
   | exact ih0 _ _ _ _ _
   | exact ih1 _ _ _ _ _ _ _
   | exact ih2 _ _ _ _ _ _
   | exact qV.mono _ _ _ _
   | exact zn.mono _
   | exact LeO.none _
   | refine LeO.ite ?_ ?_
   | refine LeO.bind ?_ (fun _ => ?_)
set_option maxHeartbeats 8000000 in
set_option maxRecDepth 100000 in
theorem qJ.calls (k : Nat) (A0 : Option Addr) (c0 : Nat) (l0 : List (S31)) (a1 : Int) (a2 : Int) (r : Bool) (w : World) (hr0 : Kd.C k31 w A0 l0.length l0) (hc0 : l0.length ≤ c0) (h : qJ.f k l0 a1 a2 = some r) :
  Calls Try.prog 6 #[.slice A0 l0.length c0, .int .i64 a1, .int .i64 a2] w fun e w' => e = .returned (.bool r) ∧ Below w.heap.size w w' := by
 have hu26 := Try.underlying26
 have HR0 := qa.mk hr0
 have HC0 := qa.mk hc0
 clear hr0 hc0
 have HB := qa.mk (Below.refl w.heap.size w)
 have H : ((zn.f k).bind fun t260 => (if t260 = true then ((some (([] : List (S31)) : List (S31))).bind fun y261 => (if y261.length + l0.length < 2932031007402 then ((qV.f k (y261 ++ l0) a1 a2).bind fun bt267 => (if bt267.2.2.2 = 0 then (qJ.l0 k l0 (-1) bt267.1 (bt267.1.length : Int) 0) else (if (bt267.1.length : Int) = 0 then (some (!bt267.2.2.1)) else (none)))) else (none))) else (none))) = some r := h
 clear h
 replace H := Option.bind_eq_some_iff.mp H
 obtain ⟨t260, A40, H⟩ := H
 replace H : (if t260 = true then ((some (([] : List (S31)) : List (S31))).bind fun y261 => (if y261.length + l0.length < 2932031007402 then ((qV.f k (y261 ++ l0) a1 a2).bind fun bt267 => (if bt267.2.2.2 = 0 then (qJ.l0 k l0 (-1) bt267.1 (bt267.1.length : Int) 0) else (if (bt267.1.length : Int) = 0 then (some (!bt267.2.2.1)) else (none)))) else (none))) else (none)) = some r := H
 have A4 := qa.mk A40
 clear A40
 by_cases c5 : t260 = true
 case neg =>
  replace c5 := Bool.eq_false_iff.mpr c5
  subst c5
  have H1 : (none) = some r := by rw [if_neg (show ¬ (false = true) by decide)] at H; exact H
  clear H
  have H := H1
  clear H1
  exact absurd H (by simp)
 subst c5
 have H1 : ((some (([] : List (S31)) : List (S31))).bind fun y261 => (if y261.length + l0.length < 2932031007402 then ((qV.f k (y261 ++ l0) a1 a2).bind fun bt267 => (if bt267.2.2.2 = 0 then (qJ.l0 k l0 (-1) bt267.1 (bt267.1.length : Int) 0) else (if (bt267.1.length : Int) = 0 then (some (!bt267.2.2.1)) else (none)))) else (none))) = some r := by rw [if_pos rfl] at H; exact H
 clear H
 have H := H1
 clear H1
 obtain ⟨y261, hy261⟩ : ∃ y_ : List (S31), y_ = (([] : List (S31))) := ⟨_, rfl⟩
 replace H : (if y261.length + l0.length < 2932031007402 then ((qV.f k (y261 ++ l0) a1 a2).bind fun bt267 => (if bt267.2.2.2 = 0 then (qJ.l0 k l0 (-1) bt267.1 (bt267.1.length : Int) 0) else (if (bt267.1.length : Int) = 0 then (some (!bt267.2.2.1)) else (none)))) else (none)) = some r := by first | (rw [hy261]; with_reducible exact H) | (have H2_ := (Option.bind_some _ _).symm.trans H; rw [hy261]; with_reducible exact H2_) | (have H2_ := (Option.bind_some _ _).symm.trans H; with_reducible exact H2_) | with_reducible exact H | (rw [hy261]; exact H) | exact H
 have Ny261 := qa.mk hy261
 clear hy261
 by_cases c6 : y261.length + l0.length < 2932031007402
 case neg =>
  rw [if_neg c6] at H
  exact absurd H (by simp)
 rw [if_pos c6] at H
 have LMc6 := qa.mk c6
 clear c6
 obtain ⟨y264, hy264⟩ : ∃ y_ : List (S31), y_ = (y261 ++ l0) := ⟨_, rfl⟩
 replace H : ((qV.f k y264 a1 a2).bind fun bt267 => (if bt267.2.2.2 = 0 then (qJ.l0 k l0 (-1) bt267.1 (bt267.1.length : Int) 0) else (if (bt267.1.length : Int) = 0 then (some (!bt267.2.2.1)) else (none)))) = some r := by first | (rw [hy264]; with_reducible exact H) | (have H2_ := (Option.bind_some _ _).symm.trans H; rw [hy264]; with_reducible exact H2_) | (have H2_ := (Option.bind_some _ _).symm.trans H; with_reducible exact H2_) | with_reducible exact H | (rw [hy264]; exact H) | exact H
 have Ny264 := qa.mk hy264
 clear hy264
 replace H := Option.bind_eq_some_iff.mp H
 obtain ⟨⟨t267, t270, t271, t272⟩, A70, H⟩ := H
 replace H : (if t272 = 0 then (qJ.l0 k l0 (-1) t267 (t267.length : Int) 0) else (if (t267.length : Int) = 0 then (some (!t271)) else (none))) = some r := H
 have A7 := qa.mk A70
 clear A70
 by_cases c8 : t272 = 0
 case neg =>
  rw [if_neg c8] at H
  have c8b0 : (t272 == 0) = false := beq_eq_false_iff_ne.mpr c8
  have c8b1 : (t272 != 0) = true := bne_iff_ne.mpr c8
  by_cases c29 : (t267.length : Int) = 0
  case neg =>
   rw [if_neg c29] at H
   exact absurd H (by simp)
  rw [if_pos c29] at H
  have c29b0 : ((t267.length : Int) == 0) = true := beq_iff_eq.mpr c29
  have c29b1 : ((t267.length : Int) != 0) = false := bne_eq_false_iff_eq.mpr c29
  clear c29
  obtain rfl := Option.some.inj H
  go_enter Try.func6, Try.ntmps6
  go_wp2_with (first | ((with_reducible refine zl (f := 12) rfl ?_); refine zM (some 13) rfl rfl Try.func12 (by kernel_rfl) rfl #[] rfl (by (try simp only [List.map_toArray, List.map_cons, List.map_nil]); first | done | rfl | (simp only [List.length_drop, List.length_take]; rfl)) ?_; (with_reducible refine (zn.calls k  true _ A4.out).mono ?_); rintro e w30 ⟨rfl, hb⟩; refine ⟨_, rfl, ?_⟩; have n0_ := qa.mk (qP (bq HB) hb); clear HB; have HB := n0_; clear n0_; (try clear hb); (try clear hb2); (try clear hk); (try clear hi)) | ((with_reducible refine zw (N := 16) rfl ?_); (try (refine z8 (by rfl) ?_; dsimp only)); refine Kd.QW k31 _ 31 ?hg (N := 16) ?hd (xs := ([] : List (S31))) (inner := []) (ok := fun _ => True) (okp := fun _ => True) ?hr ?hp (fun _ hk => hk) trivial (Below.refl _ _) (Nat.le_refl _) (by simp) ?_; (case hd => rfl); (case hg => rfl); (case hr => first | (go_simp; done) | (go_simp; rfl)); (case hp => exact (zR.none _ _)); intro v262 w31 ho32 hb hg_ hnew_; clear hg_ hnew_; (first | rw [← Ny261.out] at ho32 | (simp only [Int.reduceToNat] at ho32; rw [← Ny261.out] at ho32)); have n0_ := qa.mk (Kd.jm ho32 (qI (bq HB))); have n1_ := qa.mk (qP (bq HB) hb); clear HB; have HO263 := n0_; have HB := n1_; clear n0_ n1_; clear hb ho32) | ((with_reducible refine zU (b := .append) (xs := #[.tmp 16, .tmp 17]) rfl ?_); (try (refine z8 (by rfl) ?_; dsimp only)); at_builtin; refine Kd.Qx k31 (w0 := w) w.heap.size rfl (.tmp 16) (.tmp 17) 23 31 (.agg #[(.int .i64 0), (.int .i64 0), (.int .i64 0), (.int .i64 0), (.int .i64 0), (.bool false)]) 48 rfl Try.underlying23 Jh rfl (by decide) (by omega) v262 y261 l0 _ _ _ (fun _ => True) (fun _ => False) rfl rfl ?aO ?aR (fun _ _ h => h) (fun _ h => h.elim) ?aF ?aB ?aS ?aL ?_; (case aR => repeat (first | exact (Kd.zS HR0.out HB.out) | (with_reducible refine Kd.zI ?_ _) | (with_reducible refine Kd.zH ?_ _) | (with_reducible refine Kd.zL ?_))); (case aB => exact (bq HB)); (case aF => exact (fun _ _ => trivial)); (case aO => exact (rq HO263)); (case aS => exact (qI (bq HB))); (case aL => have := LMc6.out; omega); intro v265 w33 ho hb hg hat; rw [← Ny264.out] at ho; have n0_ := qa.mk (hb); have n1_ := qa.mk (ho); clear HB; clear HO263; have HB := n0_; have HO266 := n1_; clear n0_ n1_; clear ho hb hg hat; obtain ⟨Ao34, co34, eo34⟩ := Kd.jo HO266.out; subst eo34) | ((with_reducible refine zl (f := 13) rfl ?_); refine zM (some 21) rfl rfl Try.func13 (by kernel_rfl) rfl #[.slice Ao34 y264.length co34, .int .i64 a1, .int .i64 a2] rfl (by (try simp only [List.map_toArray, List.map_cons, List.map_nil]); first | done | rfl | (simp only [List.length_drop, List.length_take]; rfl)) ?_; (with_reducible refine (qV.calls k _ _ y264 a1 a2 t267 t270 t271 t272 _ ?side1 ?side2 A7.out).mono ?_); (case side1 => repeat (first | exact (Kd.zm HO266.out).2.2 | (with_reducible refine Kd.zI ?_ _) | (with_reducible refine Kd.zH ?_ _) | (with_reducible refine Kd.zL ?_))); (case side2 => exact (Kd.zm HO266.out).2.1); rintro e w35 ⟨v268, rfl, ho0, hb⟩; refine ⟨_, rfl, ?_⟩; have n0_ := qa.mk (Kd.zz (rq HO266) hb); have n1_ := qa.mk (Kd.jm ho0 (qI (bq HB))); have n2_ := qa.mk (qP (bq HB) hb); clear HO266; clear HB; have HO266 := n0_; have HO269 := n1_; have HB := n2_; clear n0_ n1_ n2_; (try clear hb); (try clear hb2); (try clear hk); (try clear hi); (try clear ho0)) | ((with_reducible refine zw (N := 7) rfl ?_); (try (refine z8 (by rfl) ?_; dsimp only)); refine zB ?hg (N := 7) ?hd (cs := #[.slice none 0 0, .int .i64 0, .bool false]) (t := 26) ?hr ?_; (case hd => rfl); (case hg => rfl); (case hr => first | (go_simp; done) | (go_simp; rfl)); intro gb273 hg w36 hbox hb; have n0_ := qa.mk (Kd.zz (rq HO266) hb); have n1_ := qa.mk (Kd.zz (rq HO269) hb); have n2_ := qa.mk (qP (bq HB) hb); have n3_ := qa.mk (hbox); have n4_ := qa.mk ((by rw [hg]; exact (qI (bq HB)) : w.heap.size ≤ gb273)); have n5_ := qa.mk ((by rw [hg]; exact (qI (bq HB)) : w.heap.size ≤ gb273)); clear HO266; clear HO269; clear HB; have HO266 := n0_; have HO269 := n1_; have HB := n2_; have BK273 := n3_; have GW273 := n4_; have GE273 := n5_; clear n0_ n1_ n2_ n3_ n4_ n5_; clear hb hbox hg; obtain ⟨Ao37, co37, eo37⟩ := Kd.jo HO269.out; subst eo37; have hcz38_0 : w36.cell? ⟨gb273, 0, none⟩ = some (.slice none 0 0) := (ql BK273.out 0).trans rfl; have hcz38_1 : w36.cell? ⟨gb273, 1, none⟩ = some (.int .i64 0) := (ql BK273.out 1).trans rfl; have hcz38_2 : w36.cell? ⟨gb273, 2, none⟩ = some (.bool false) := (ql BK273.out 2).trans rfl; have hfz38_0 := qg BK273.out 0; have hfz38_1 := qg BK273.out 1; have hfz38_2 := qg BK273.out 2))
  go_ret
  exact ⟨by first | rfl | (simp [qN, qM] <;> rfl) | (simp [*, qN, qM] <;> rfl), bs HB GE273⟩
 rw [if_pos c8] at H
 have c8b0 : (t272 == 0) = true := beq_iff_eq.mpr c8
 have c8b1 : (t272 != 0) = false := bne_eq_false_iff_eq.mpr c8
 clear c8
 have H' := qa.mk H
 clear H
 go_enter Try.func6, Try.ntmps6
 go_wp2_with (first | ((with_reducible refine zl (f := 12) rfl ?_); refine zM (some 13) rfl rfl Try.func12 (by kernel_rfl) rfl #[] rfl (by (try simp only [List.map_toArray, List.map_cons, List.map_nil]); first | done | rfl | (simp only [List.length_drop, List.length_take]; rfl)) ?_; (with_reducible refine (zn.calls k  true _ A4.out).mono ?_); rintro e w9 ⟨rfl, hb⟩; refine ⟨_, rfl, ?_⟩; have n0_ := qa.mk (qP (bq HB) hb); clear HB; have HB := n0_; clear n0_; (try clear hb); (try clear hb2); (try clear hk); (try clear hi)) | ((with_reducible refine zw (N := 16) rfl ?_); (try (refine z8 (by rfl) ?_; dsimp only)); refine Kd.QW k31 _ 31 ?hg (N := 16) ?hd (xs := ([] : List (S31))) (inner := []) (ok := fun _ => True) (okp := fun _ => True) ?hr ?hp (fun _ hk => hk) trivial (Below.refl _ _) (Nat.le_refl _) (by simp) ?_; (case hd => rfl); (case hg => rfl); (case hr => first | (go_simp; done) | (go_simp; rfl)); (case hp => exact (zR.none _ _)); intro v262 w10 ho11 hb hg_ hnew_; clear hg_ hnew_; (first | rw [← Ny261.out] at ho11 | (simp only [Int.reduceToNat] at ho11; rw [← Ny261.out] at ho11)); have n0_ := qa.mk (Kd.jm ho11 (qI (bq HB))); have n1_ := qa.mk (qP (bq HB) hb); clear HB; have HO263 := n0_; have HB := n1_; clear n0_ n1_; clear hb ho11) | ((with_reducible refine zU (b := .append) (xs := #[.tmp 16, .tmp 17]) rfl ?_); (try (refine z8 (by rfl) ?_; dsimp only)); at_builtin; refine Kd.Qx k31 (w0 := w) w.heap.size rfl (.tmp 16) (.tmp 17) 23 31 (.agg #[(.int .i64 0), (.int .i64 0), (.int .i64 0), (.int .i64 0), (.int .i64 0), (.bool false)]) 48 rfl Try.underlying23 Jh rfl (by decide) (by omega) v262 y261 l0 _ _ _ (fun _ => True) (fun _ => False) rfl rfl ?aO ?aR (fun _ _ h => h) (fun _ h => h.elim) ?aF ?aB ?aS ?aL ?_; (case aR => repeat (first | exact (Kd.zS HR0.out HB.out) | (with_reducible refine Kd.zI ?_ _) | (with_reducible refine Kd.zH ?_ _) | (with_reducible refine Kd.zL ?_))); (case aB => exact (bq HB)); (case aF => exact (fun _ _ => trivial)); (case aO => exact (rq HO263)); (case aS => exact (qI (bq HB))); (case aL => have := LMc6.out; omega); intro v265 w12 ho hb hg hat; rw [← Ny264.out] at ho; have n0_ := qa.mk (hb); have n1_ := qa.mk (ho); clear HB; clear HO263; have HB := n0_; have HO266 := n1_; clear n0_ n1_; clear ho hb hg hat; obtain ⟨Ao13, co13, eo13⟩ := Kd.jo HO266.out; subst eo13) | ((with_reducible refine zl (f := 13) rfl ?_); refine zM (some 21) rfl rfl Try.func13 (by kernel_rfl) rfl #[.slice Ao13 y264.length co13, .int .i64 a1, .int .i64 a2] rfl (by (try simp only [List.map_toArray, List.map_cons, List.map_nil]); first | done | rfl | (simp only [List.length_drop, List.length_take]; rfl)) ?_; (with_reducible refine (qV.calls k _ _ y264 a1 a2 t267 t270 t271 t272 _ ?side1 ?side2 A7.out).mono ?_); (case side1 => repeat (first | exact (Kd.zm HO266.out).2.2 | (with_reducible refine Kd.zI ?_ _) | (with_reducible refine Kd.zH ?_ _) | (with_reducible refine Kd.zL ?_))); (case side2 => exact (Kd.zm HO266.out).2.1); rintro e w14 ⟨v268, rfl, ho0, hb⟩; refine ⟨_, rfl, ?_⟩; have n0_ := qa.mk (Kd.zz (rq HO266) hb); have n1_ := qa.mk (Kd.jm ho0 (qI (bq HB))); have n2_ := qa.mk (qP (bq HB) hb); clear HO266; clear HB; have HO266 := n0_; have HO269 := n1_; have HB := n2_; clear n0_ n1_ n2_; (try clear hb); (try clear hb2); (try clear hk); (try clear hi); (try clear ho0)) | ((with_reducible refine zw (N := 7) rfl ?_); (try (refine z8 (by rfl) ?_; dsimp only)); refine zB ?hg (N := 7) ?hd (cs := #[.slice none 0 0, .int .i64 0, .bool false]) (t := 26) ?hr ?_; (case hd => rfl); (case hg => rfl); (case hr => first | (go_simp; done) | (go_simp; rfl)); intro gb273 hg w15 hbox hb; have n0_ := qa.mk (Kd.zz (rq HO266) hb); have n1_ := qa.mk (Kd.zz (rq HO269) hb); have n2_ := qa.mk (qP (bq HB) hb); have n3_ := qa.mk (hbox); have n4_ := qa.mk ((by rw [hg]; exact (qI (bq HB)) : w.heap.size ≤ gb273)); have n5_ := qa.mk ((by rw [hg]; exact (qI (bq HB)) : w.heap.size ≤ gb273)); clear HO266; clear HO269; clear HB; have HO266 := n0_; have HO269 := n1_; have HB := n2_; have BK273 := n3_; have GW273 := n4_; have GE273 := n5_; clear n0_ n1_ n2_ n3_ n4_ n5_; clear hb hbox hg; obtain ⟨Ao16, co16, eo16⟩ := Kd.jo HO269.out; subst eo16; have hcz17_0 : w15.cell? ⟨gb273, 0, none⟩ = some (.slice none 0 0) := (ql BK273.out 0).trans rfl; have hcz17_1 : w15.cell? ⟨gb273, 1, none⟩ = some (.int .i64 0) := (ql BK273.out 1).trans rfl; have hcz17_2 : w15.cell? ⟨gb273, 2, none⟩ = some (.bool false) := (ql BK273.out 2).trans rfl; have hfz17_0 := qg BK273.out 0; have hfz17_1 := qg BK273.out 1; have hfz17_2 := qg BK273.out 2))
 go_loopg [9, 38] k (fun kq v9 v38 w' => ∃ (x9_1 : Int) (x38_1 : Int), v9 = .int .i64 x9_1 ∧ v38 = .int .i64 x38_1 ∧ qa (qJ.l0 kq l0 x9_1 t267 (t267.length : Int) x38_1 = some r) ∧ qa (kq ≤ k) ∧ qa (Kd.R (Kd.int .i64) 3 w' w.heap.size (fun _ => True) (.slice Ao16 t267.length co16) t267) ∧ qa (Kd.R (Kd.int .i64) 3 w' w.heap.size (fun _ => True) (.slice Ao16 t267.length co16) t267) ∧ qa (w'.heap[gb273]? = some (.cells #[(.slice Ao16 t267.length co16), .int .i64 t270, .bool t271] 26 (0, 0))) ∧ qa (Below w.heap.size w w'))
 case atStart => exact ⟨((-1)), (0), (by first | rfl | (simp; done) | (simp [*]; done)), (by first | rfl | (simp; done) | (simp [*]; done)), H', ⟨Nat.le_refl _⟩, ⟨by (with_reducible repeat (first | apply Kd.qD | apply Kd.qE | apply Kd.qG)); exact Kd.zi (Kd.ze (p := ⟨gb273, 2, none⟩) (Kd.ze (p := ⟨gb273, 1, none⟩) (Kd.ze (p := ⟨gb273, 0, none⟩) (Kd.zO HO269.out BK273.out (by decide)) (fun _ hk => hk.2) (.slice Ao16 t267.length co16)) (fun _ hk => hk.2) (.int .i64 t270)) (fun _ hk => hk.2) (.bool t271)) (fun _ hk => trivial)⟩, ⟨by (with_reducible repeat (first | apply Kd.qD | apply Kd.qE | apply Kd.qG)); exact Kd.zi (Kd.ze (p := ⟨gb273, 2, none⟩) (Kd.ze (p := ⟨gb273, 1, none⟩) (Kd.ze (p := ⟨gb273, 0, none⟩) (Kd.zO HO269.out BK273.out (by decide)) (fun _ hk => hk.2) (.slice Ao16 t267.length co16)) (fun _ hk => hk.2) (.int .i64 t270)) (fun _ hk => hk.2) (.bool t271)) (fun _ hk => trivial)⟩, ⟨by (with_reducible repeat (first | refine qj ?_ _ | refine qo ?_ | refine qi ?_ _)); refine qR (cs := #[.slice Ao16 t267.length co16, .int .i64 t270, .bool false]) ?_ 2 _ rfl; (with_reducible repeat (first | refine qj ?_ _ | refine qo ?_ | refine qi ?_ _)); refine qR (cs := #[.slice Ao16 t267.length co16, .int .i64 0, .bool false]) ?_ 1 _ rfl; (with_reducible repeat (first | refine qj ?_ _ | refine qo ?_ | refine qi ?_ _)); refine qR (cs := #[.slice none 0 0, .int .i64 0, .bool false]) ?_ 0 _ rfl; exact kq BK273⟩, ⟨bs HB GE273⟩⟩
 case round =>
  clear H'
  try clear c1
  try clear p2
  try clear c5
  try clear c6
  try clear c8
  try clear c8b0
  try clear c8b1
  try clear c12
  try clear c13
  try clear hcz17_0
  try clear hcz17_1
  try clear hcz17_2
  try clear hfz17_0
  try clear hfz17_1
  try clear hfz17_2
  obtain ⟨x9_1, x38_1, rfl, rfl, HA, HK1, HO_36, HO_274000, BK273, HB⟩ := hrel
  cases gk with
  | zero => exact absurd HA.out (by simp [qJ.l0])
  | succ k1 =>
   have H := HA.out
   clear HA
   simp only [qJ.l0] at H
   by_cases c18 : x38_1 < (t267.length : Int)
   case neg =>
    rw [if_neg c18] at H
    have c18b0 : decide (x38_1 < (t267.length : Int)) = false := decide_eq_false c18
    clear c18
    obtain rfl := Option.some.inj H
    go_wp2
    go_ret
    exact ⟨by first | rfl | (simp [qN, qM] <;> rfl) | (simp [*, qN, qM] <;> rfl), bs HB GE273⟩
   rw [if_pos c18] at H
   have c18b0 : decide (x38_1 < (t267.length : Int)) = true := decide_eq_true c18
   clear c18
   by_cases c19 : 0 ≤ x38_1
   case neg =>
    rw [if_neg c19] at H
    exact absurd H (by simp)
   rw [if_pos c19] at H
   have c19b0 : decide (0 ≤ x38_1) = true := decide_eq_true c19
   clear c19
   by_cases c20 : x38_1 < (t267.length : Int)
   case neg =>
    rw [if_neg c20] at H
    exact absurd H (by simp)
   rw [if_pos c20] at H
   have c20b0 : decide (x38_1 < (t267.length : Int)) = true := decide_eq_true c20
   clear c20
   have HC21 := qa.mk H
   clear H
   have p274 : 0 ≤ (x38_1 : Int) := odt
   have q274 : x38_1 < (t267.length : Int) := odt
   obtain ⟨ad274, e274, hx274_0⟩ := Kd.zY (Kd.zm HO_36.out).2.2 x38_1 p274 q274
   cases e274
   replace p274 := eq_true p274
   replace q274 := eq_true q274
   go_upto_region 10 with (fail)
   go_cut [56] (fun v56 wc => ∃ (kq : Nat) (x56_20 : Bool), v56 = .bool x56_20 ∧ qa (qJ.j1 kq l0 x9_1 (rd t267 x38_1) t267 (t267.length : Int) x38_1 x56_20 = some r) ∧ qa (kq ≤ k1) ∧ qa (Kd.R (Kd.int .i64) 3 wc w.heap.size (fun _ => True) (.slice (some ad274) t267.length co16) t267) ∧ qa (Kd.R (Kd.int .i64) 3 wc w.heap.size (fun _ => True) (.slice (some ad274) t267.length co16) t267) ∧ qa (wc.heap[gb273]? = some (.cells #[(.slice (some ad274) t267.length co16), .int .i64 t270, .bool t271] 26 (0, 0))) ∧ qa (Below w.heap.size w wc))
   case first =>
    have H := HC21.out
    clear HC21
    by_cases c22 : (rd t267 x38_1) ≤ x9_1
    ·rw [if_pos c22] at H
     have c22b0 : decide ((rd t267 x38_1) ≤ x9_1) = true := decide_eq_true c22
     clear c22
     (first | rw [c22b0] | (simp only [zJ, zN]; rw [c22b0]) | skip)
     have H' := qa.mk H
     clear H
     go_wp2
     go_meet
     case rel => exact ⟨_, (true), (by first | rfl | (simp; done) | (simp [*]; done)), H', ⟨by have := HK1.out; first | omega | exact Nat.le_refl _⟩, ⟨rq HO_36⟩, ⟨rq HO_274000⟩, ⟨kq BK273⟩, ⟨bs HB GE273⟩⟩
    rw [if_neg c22] at H
    have c22b0 : decide ((rd t267 x38_1) ≤ x9_1) = false := decide_eq_false c22
    clear c22
    (first | rw [c22b0] | (simp only [zJ, zN]; rw [c22b0]) | skip)
    by_cases c23 : (rd t267 x38_1) > (l0.length : Int)
    ·rw [if_pos c23] at H
     have c23b0 : decide ((l0.length : Int) < (rd t267 x38_1)) = true := decide_eq_true c23
     clear c23
     have H' := qa.mk H
     clear H
     go_wp2
     go_meet
     case rel => exact ⟨_, (true), (by first | rfl | (simp; done) | (simp [*]; done)), H', ⟨by have := HK1.out; first | omega | exact Nat.le_refl _⟩, ⟨rq HO_36⟩, ⟨rq HO_274000⟩, ⟨kq BK273⟩, ⟨bs HB GE273⟩⟩
    rw [if_neg c23] at H
    have c23b0 : decide ((l0.length : Int) < (rd t267 x38_1)) = false := decide_eq_false c23
    clear c23
    replace H := Option.bind_eq_some_iff.mp H
    obtain ⟨t275, A240, H⟩ := H
    replace H : (qJ.j1 k1 l0 x9_1 (rd t267 x38_1) t267 (t267.length : Int) x38_1 (!t275)) = some r := H
    have A24 := qa.mk A240
    clear A240
    have H' := qa.mk H
    clear H
    go_wp2_with (first | (go_at_call 19; (with_reducible refine (zZ.calls _ _ l0 (rd t267 x38_1) t275 _ ?side1 ?side2 A24.out).mono ?_); (case side1 => repeat (first | exact (Kd.zS HR0.out HB.out) | (with_reducible refine Kd.zI ?_ _) | (with_reducible refine Kd.zH ?_ _) | (with_reducible refine Kd.zL ?_))); (case side2 => exact HC0.out); rintro e w' ⟨rfl, ⟨nd, rfl⟩⟩))
    go_meet
    case rel => exact ⟨_, (!t275), (by first | rfl | (simp; done) | (simp [*]; done)), H', ⟨by have := HK1.out; first | omega | exact Nat.le_refl _⟩, ⟨rq HO_36⟩, ⟨rq HO_274000⟩, ⟨kq BK273⟩, ⟨bs HB GE273⟩⟩
   case rest =>
    clear HC21
    try clear c1
    try clear c2
    try clear p2
    try clear q2
    try clear hx2
    try clear c5
    try clear c6
    try clear c8
    try clear c8b0
    try clear c8b1
    try clear c12
    try clear c13
    try clear c18
    try clear c18b0
    try clear c19
    try clear c19b0
    try clear c20
    try clear c20b0
    try clear c22
    try clear c22b0
    try clear c23
    try clear c23b0
    try clear hcz17_0
    try clear hcz17_1
    try clear hcz17_2
    try clear hfz17_0
    try clear hfz17_1
    try clear hfz17_2
    try clear hx274_0
    try clear p2
    try clear p274
    try clear q274
    obtain ⟨kq, x56_20, rfl, HA, HJ20, HO_36, HO_274000, BK273, HB⟩ := hcut
    cases kq with
    | zero => exact absurd HA.out (by simp [qJ.j1])
    | succ kj20 =>
     have H := HA.out
     clear HA
     simp only [qJ.j1] at H
     by_cases c25 : x56_20 = true
     ·subst c25
      have H1 : (none) = some r := by rw [if_pos rfl] at H; exact H
      clear H
      have H := H1
      clear H1
      exact absurd H (by simp)
     replace c25 := Bool.eq_false_iff.mpr c25
     subst c25
     have H1 : (qJ.l1 kj20 l0 (rd t267 x38_1) (wrap64 (x9_1 + 1)) t267 (t267.length : Int) x38_1) = some r := by rw [if_neg (show ¬ (false = true) by decide)] at H; exact H
     clear H
     have H := H1
     clear H1
     have H' := qa.mk H
     clear H
     go_wp2
     go_loopg [12] kj20 (fun kq v12 w' => ∃ (x12_3 : Int), v12 = .int .i64 x12_3 ∧ qa (qJ.l1 kq l0 (rd t267 x38_1) x12_3 t267 (t267.length : Int) x38_1 = some r) ∧ qa (kq ≤ kj20) ∧ qa (Kd.R (Kd.int .i64) 3 w' w.heap.size (fun _ => True) (.slice (some ad274) t267.length co16) t267) ∧ qa (Kd.R (Kd.int .i64) 3 w' w.heap.size (fun _ => True) (.slice (some ad274) t267.length co16) t267) ∧ qa (w'.heap[gb273]? = some (.cells #[(.slice (some ad274) t267.length co16), .int .i64 t270, .bool t271] 26 (0, 0))) ∧ qa (Below w.heap.size w w'))
     case atStart => exact ⟨(wrap64 (x9_1 + 1)), (by first | rfl | (simp; done) | (simp [*]; done)), H', ⟨Nat.le_refl _⟩, ⟨rq HO_36⟩, ⟨rq HO_274000⟩, ⟨kq BK273⟩, ⟨bs HB GE273⟩⟩
     case round =>
      clear H'
      try clear c1
      try clear c2
      try clear p2
      try clear q2
      try clear hx2
      try clear c5
      try clear c6
      try clear p6
      try clear c8
      try clear c8b0
      try clear c8b1
      try clear c12
      try clear c13
      try clear c18
      try clear c18b0
      try clear c19
      try clear c19b0
      try clear c20
      try clear c20b0
      try clear c22
      try clear c22b0
      try clear c23
      try clear c23b0
      try clear c25
      try clear hcz17_0
      try clear hcz17_1
      try clear hcz17_2
      try clear hfz17_0
      try clear hfz17_1
      try clear hfz17_2
      try clear hx274_0
      try clear p2
      try clear p274
      try clear q2
      try clear q274
      obtain ⟨x12_3, rfl, HA, HK3, HO_36, HO_274000, BK273, HB⟩ := hrel
      cases gk with
      | zero => exact absurd HA.out (by simp [qJ.l1])
      | succ k3 =>
       have H := HA.out
       clear HA
       simp only [qJ.l1] at H
       by_cases c26 : x12_3 < (rd t267 x38_1)
       case neg =>
        rw [if_neg c26] at H
        have c26b0 : decide (x12_3 < (rd t267 x38_1)) = false := decide_eq_false c26
        clear c26
        have H' := qa.mk H
        clear H
        go_wp2
        go_roundg k3
        case measure => have := HK1.out; have := HJ20.out; have := HK3.out; omega
        case rel => exact ⟨((rd t267 x38_1)), (wrap64 (x38_1 + 1)), (by first | rfl | (simp; done) | (simp [*]; done)), (by first | rfl | (simp; done) | (simp [*]; done)), H', ⟨by have := HK1.out; have := HJ20.out; have := HK3.out; omega⟩, ⟨rq HO_36⟩, ⟨rq HO_274000⟩, ⟨kq BK273⟩, ⟨bs HB GE273⟩⟩
       rw [if_pos c26] at H
       have c26b0 : decide (x12_3 < (rd t267 x38_1)) = true := decide_eq_true c26
       clear c26
       replace H := Option.bind_eq_some_iff.mp H
       obtain ⟨t276, A270, H⟩ := H
       replace H : (if t276 = true then (none) else (qJ.l1 k3 l0 (rd t267 x38_1) (wrap64 (x12_3 + 1)) t267 (t267.length : Int) x38_1)) = some r := H
       have A27 := qa.mk A270
       clear A270
       by_cases c28 : t276 = true
       ·subst c28
        have H1 : (none) = some r := by rw [if_pos rfl] at H; exact H
        clear H
        have H := H1
        clear H1
        exact absurd H (by simp)
       replace c28 := Bool.eq_false_iff.mpr c28
       subst c28
       have H1 : (qJ.l1 k3 l0 (rd t267 x38_1) (wrap64 (x12_3 + 1)) t267 (t267.length : Int) x38_1) = some r := by rw [if_neg (show ¬ (false = true) by decide)] at H; exact H
       clear H
       have H := H1
       clear H1
       have H' := qa.mk H
       clear H
       go_wp2_with (first | ((with_reducible refine zl (f := 20) rfl ?_); refine zM (some 66) rfl rfl Try.func20 (by kernel_rfl) rfl #[.slice A0 l0.length c0, .int .i64 x12_3] rfl (by (try simp only [List.map_toArray, List.map_cons, List.map_nil]); first | done | rfl | (simp only [List.length_drop, List.length_take]; rfl)) ?_; (with_reducible refine (zx.calls _ _ l0 x12_3 false _ ?side1 ?side2 A27.out).mono ?_); (case side1 => repeat (first | exact (Kd.zS HR0.out HB.out) | (with_reducible refine Kd.zI ?_ _) | (with_reducible refine Kd.zH ?_ _) | (with_reducible refine Kd.zL ?_))); (case side2 => exact HC0.out); rintro e w' ⟨rfl, ⟨nd, rfl⟩⟩; refine ⟨_, rfl, ?_⟩))
       go_roundg k3
       case measure => have := HK1.out; have := HJ20.out; have := HK3.out; omega
       case rel => exact ⟨(wrap64 (x12_3 + 1)), (by first | rfl | (simp; done) | (simp [*]; done)), H', ⟨by have := HK1.out; have := HJ20.out; have := HK3.out; omega⟩, ⟨rq HO_36⟩, ⟨rq HO_274000⟩, ⟨kq BK273⟩, ⟨bs HB GE273⟩⟩
def okS31 (x : S31) : Prop := (Lit.int .i64 x.f0).wf = true ∧ (Lit.int .i64 x.f1).wf = true ∧ (Lit.int .i64 x.f2).wf = true ∧ (Lit.int .i64 x.f3).wf = true ∧ (Lit.int .i64 x.f4).wf = true ∧ True
def qJ.Pure : Prop := ∀ (l0 : List (S31)) (a1 : Int) (a2 : Int), (l0.length ≤ 9223372036854775807 ∧ l0.length * 48 ≤ 140737488351232 ∧ ∀ y1_ ∈ l0, okS31 y1_) → ((Lit.int .i64 a1).wf = true) → ((Lit.int .i64 a2).wf = true) → ∃ k, qJ.f k l0 a1 a2 = some true
end Go.Proofs.Ytfbanppdiglciaa.X
