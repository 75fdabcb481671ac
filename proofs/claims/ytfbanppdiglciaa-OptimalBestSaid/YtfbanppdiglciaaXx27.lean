import Derived.Test.YtfbanppdiglciaaXx0
import Derived.Test.YtfbanppdiglciaaXx17
import Derived.Test.YtfbanppdiglciaaXx18
import Derived.Test.YtfbanppdiglciaaXx21
namespace Go.Proofs.Ytfbanppdiglciaa.X
open Go.RowKit Go.Proofs.YtfbanppdiglciaaW.PrintWords Go.Proofs.YtfbanppdiglciaaW.PrintLast Go.Proofs.YtfbanppdiglciaaW.PrintMore
attribute [local go_sem] jw jv jJ jI jf je jA jC
set_option linter.unusedVariables false
set_option linter.unusedSimpArgs false
mutual
def qp.l0 : Nat → List (S31) → Int → List Int → Int → Option (List Int)
 | 0, _, _, _, _ => none
 | k + 1, x0, x1, x5, x6 => if x6 < (x0.length : Int) then (qp.l1 k x0 x1 x5 x6 (-1) (wrap64 (x6 + 1))) else (some x5)
def qp.l1 : Nat → List (S31) → Int → List Int → Int → Int → Int → Option (List Int)
 | 0, _, _, _, _, _, _ => none
 | k + 1, x0, x1, x5, x6, x7, x8 => if x8 ≤ (x0.length : Int) then ((zZ.f x0 x8).bind fun t342 => (if t342 = true then ((qF.f k x0 x6 x8).bind fun bt343 => (if x7 < 0 then (qp.j2 k x0 x1 x5 x6 x7 x8 true) else (qp.j2 k x0 x1 x5 x6 x7 x8 (decide ((wrap64 (bt343.1 - bt343.2.2)) ≤ x1))))) else (qp.l1 k x0 x1 x5 x6 x7 (wrap64 (x8 + 1))))) else (if x5.length < 17592186044416 then (qp.l0 k x0 x1 (x5 ++ [x7]) x7) else (none))
def qp.j2 : Nat → List (S31) → Int → List Int → Int → Int → Int → Bool → Option (List Int)
 | 0, _, _, _, _, _, _, _ => none
 | k + 1, x0, x1, x5, x6, x7, x8, x45 => if x45 = true then ((zx.f x0 x8).bind fun t346 => (if t346 = true then (if x5.length < 17592186044416 then (qp.l0 k x0 x1 (x5 ++ [x8]) x8) else (none)) else (qp.l1 k x0 x1 x5 x6 x8 (wrap64 (x8 + 1))))) else ((zx.f x0 x8).bind fun t350 => (if t350 = true then (if x5.length < 17592186044416 then (qp.l0 k x0 x1 (x5 ++ [x7]) x7) else (none)) else (qp.l1 k x0 x1 x5 x6 x7 (wrap64 (x8 + 1)))))
end
def qp.f (k : Nat) (l0 : List (S31)) (a1 : Int) : Option (List Int) := qp.l0 k l0 a1 (([] : List Int)) (-1)
theorem qp.zT : ∀ k, (∀ y0 y1 y2 y3, LeO (qp.l0 k y0 y1 y2 y3) (qp.l0 (k + 1) y0 y1 y2 y3)) ∧ (∀ y0 y1 y2 y3 y4 y5, LeO (qp.l1 k y0 y1 y2 y3 y4 y5) (qp.l1 (k + 1) y0 y1 y2 y3 y4 y5)) ∧ (∀ y0 y1 y2 y3 y4 y5 y6, LeO (qp.j2 k y0 y1 y2 y3 y4 y5 y6) (qp.j2 (k + 1) y0 y1 y2 y3 y4 y5 y6))
 | 0 => ⟨fun _ _ _ _ r h => by simp [qp.l0] at h, fun _ _ _ _ _ _ r h => by simp [qp.l1] at h, fun _ _ _ _ _ _ _ r h => by simp [qp.j2] at h⟩
 | k + 1 => by
  obtain ⟨ih0, ih1, ih2⟩ := qp.zT k
  refine ⟨?_, ?_, ?_⟩
  ·intro y0 y1 y2 y3
   unfold qp.l0
   repeat' first
   | (with_reducible exact ih0 _ _ _ _)
   | (with_reducible exact ih1 _ _ _ _ _ _)
   | (with_reducible exact ih2 _ _ _ _ _ _ _)
   | (with_reducible exact qF.mono _ _ _ _)
   | (with_reducible exact LeO.refl _)
   | (with_reducible exact LeO.none _)
   | (with_reducible refine LeO.ite ?_ ?_)
   | (with_reducible refine LeO.bind ?_ (fun _ => ?_))
   | exact ih0 _ _ _ _
   | exact ih1 _ _ _ _ _ _
   | exact ih2 _ _ _ _ _ _ _
   | exact qF.mono _ _ _ _
   | exact LeO.none _
   | refine LeO.ite ?_ ?_
   | refine LeO.bind ?_ (fun _ => ?_)
  ·intro y0 y1 y2 y3 y4 y5
   unfold qp.l1
   repeat' first
   | (with_reducible exact ih0 _ _ _ _)
   | (with_reducible exact ih1 _ _ _ _ _ _)
   | (with_reducible exact ih2 _ _ _ _ _ _ _)
   | (with_reducible exact qF.mono _ _ _ _)
   | (with_reducible exact LeO.refl _)
   | (with_reducible exact LeO.none _)
   | (with_reducible refine LeO.ite ?_ ?_)
   | (with_reducible refine LeO.bind ?_ (fun _ => ?_))
   | exact ih0 _ _ _ _
   | exact ih1 _ _ _ _ _ _
   | exact ih2 _ _ _ _ _ _ _
   | exact qF.mono _ _ _ _
   | exact LeO.none _
   | refine LeO.ite ?_ ?_
   | refine LeO.bind ?_ (fun _ => ?_)
  ·intro y0 y1 y2 y3 y4 y5 y6
   unfold qp.j2
   repeat' first
   | (with_reducible exact ih0 _ _ _ _)
   | (with_reducible exact ih1 _ _ _ _ _ _)
   | (with_reducible exact ih2 _ _ _ _ _ _ _)
   | (with_reducible exact qF.mono _ _ _ _)
   | (with_reducible exact LeO.refl _)
   | (with_reducible exact LeO.none _)
   | (with_reducible refine LeO.ite ?_ ?_)
   | (with_reducible refine LeO.bind ?_ (fun _ => ?_))
   | exact ih0 _ _ _ _
   | exact ih1 _ _ _ _ _ _
   | exact ih2 _ _ _ _ _ _ _
   | exact qF.mono _ _ _ _
   | exact LeO.none _
   | refine LeO.ite ?_ ?_
   | refine LeO.bind ?_ (fun _ => ?_)
theorem qp.mono : ∀ a0 a1 k, LeO (qp.f k a0 a1) (qp.f (k + 1) a0 a1) := by
 intro a0 a1 k
 obtain ⟨ih0, ih1, ih2⟩ := qp.zT k
 unfold qp.f
 repeat' first
   | (with_reducible exact ih0 _ _ _ _)
   | (with_reducible exact ih1 _ _ _ _ _ _)
   | (with_reducible exact ih2 _ _ _ _ _ _ _)
   | (with_reducible exact qF.mono _ _ _ _)
   | (with_reducible exact LeO.refl _)
   | (with_reducible exact LeO.none _)
   | (with_reducible refine LeO.ite ?_ ?_)
   | (with_reducible refine LeO.bind ?_ (fun _ => ?_))
   | exact ih0 _ _ _ _
   | exact ih1 _ _ _ _ _ _
   | exact ih2 _ _ _ _ _ _ _
   | exact qF.mono _ _ _ _
   | exact LeO.none _
   | refine LeO.ite ?_ ?_
   | refine LeO.bind ?_ (fun _ => ?_)
set_option maxHeartbeats 8000000 in
set_option maxRecDepth 100000 in
theorem qp.calls (k : Nat) (A0 : Option Addr) (c0 : Nat) (l0 : List (S31)) (a1 : Int) (r : List Int) (w : World) (hr0 : Kd.C k31 w A0 l0.length l0) (hc0 : l0.length ≤ c0) (h : qp.f k l0 a1 = some r) :
  Calls Try.prog 34 #[.slice A0 l0.length c0, .int .i64 a1] w fun e w' => ∃ v0_ : Value, e = .returned (v0_) ∧ Kd.R (Kd.int .i64) 3 w' w.heap.size (fun _ => True) v0_ r ∧ Below w.heap.size w w' := by
 have HR0 := qa.mk hr0
 have HC0 := qa.mk hc0
 clear hr0 hc0
 have HB := qa.mk (Below.refl w.heap.size w)
 have H : (qp.l0 k l0 a1 (([] : List Int)) (-1)) = some r := h
 clear h
 obtain ⟨y336, hy336⟩ : ∃ y_ : List Int, y_ = (([] : List Int)) := ⟨_, rfl⟩
 replace H : (qp.l0 k l0 a1 y336 (-1)) = some r := by first | (rw [hy336]; with_reducible exact H) | (have H2_ := (Option.bind_some _ _).symm.trans H; rw [hy336]; with_reducible exact H2_) | (have H2_ := (Option.bind_some _ _).symm.trans H; with_reducible exact H2_) | with_reducible exact H | (rw [hy336]; exact H) | exact H
 have Ny336 := qa.mk hy336
 clear hy336
 have H' := qa.mk H
 clear H
 go_enter Try.func34, Try.ntmps34
 go_wp2_with (first | ((with_reducible refine zw (N := 12) rfl ?_); refine Kd.QW (Kd.int .i64) _ 3 ?hg (N := 12) ?hd (xs := ([] : List Int)) (inner := []) (ok := fun _ => True) (okp := fun _ => True) ?hr ?hp (fun _ hk => hk) trivial (Below.refl _ _) (Nat.le_refl _) (by simp) ?_; (case hd => rfl); (case hg => rfl); (case hr => first | (go_simp; done) | (go_simp; rfl)); (case hp => exact (zR.none _ _)); intro v337 w3 ho4 hb hg_ hnew_; clear hg_ hnew_; (first | rw [← Ny336.out] at ho4 | (simp only [Int.reduceToNat] at ho4; rw [← Ny336.out] at ho4)); have n0_ := qa.mk (Kd.jm ho4 (qI (bq HB))); have n1_ := qa.mk (qP (bq HB) hb); clear HB; have HO338 := n0_; have HB := n1_; clear n0_ n1_; clear hb ho4))
 go_loopg [5, 6] k (fun kq v5 v6 w' => ∃ (x5_1 : List Int) (x6_1 : Int), v6 = .int .i64 x6_1 ∧ qa (qp.l0 kq l0 a1 x5_1 x6_1 = some r) ∧ qa (kq ≤ k) ∧ qa (Kd.R (Kd.int .i64) 3 w' w.heap.size (fun _ => True) v5 x5_1) ∧ qa (Below w.heap.size w w'))
 case atStart => exact ⟨(y336), ((-1)), (by first | rfl | (simp; done) | (simp [*]; done)), H', ⟨Nat.le_refl _⟩, ⟨rq HO338⟩, ⟨bq HB⟩⟩
 case round =>
  clear H'
  try clear p2
  try clear c3
  obtain ⟨x5_1, x6_1, rfl, HA, HK1, HO_5, HB⟩ := hrel
  cases gk with
  | zero => exact absurd HA.out (by simp [qp.l0])
  | succ k1 =>
   have H := HA.out
   clear HA
   simp only [qp.l0] at H
   by_cases c5 : x6_1 < (l0.length : Int)
   case neg =>
    rw [if_neg c5] at H
    have c5b0 : decide (x6_1 < (l0.length : Int)) = false := decide_eq_false c5
    clear c5
    obtain rfl := Option.some.inj H
    go_wp2
    go_ret
    exact ⟨_, by first | rfl | (simp [qN, qM] <;> rfl) | (simp [*, qN, qM] <;> rfl), rq HO_5, bq HB⟩
   rw [if_pos c5] at H
   have c5b0 : decide (x6_1 < (l0.length : Int)) = true := decide_eq_true c5
   clear c5
   have H' := qa.mk H
   clear H
   go_wp2
   go_loopg [7, 8] k1 (fun kq v7 v8 w' => ∃ (x7_2 : Int) (x8_2 : Int), v7 = .int .i64 x7_2 ∧ v8 = .int .i64 x8_2 ∧ qa (qp.l1 kq l0 a1 x5_1 x6_1 x7_2 x8_2 = some r) ∧ qa (kq ≤ k1) ∧ qa (Kd.R (Kd.int .i64) 3 w' w.heap.size (fun _ => True) u5 x5_1) ∧ qa (Below w.heap.size w w'))
   case atStart => exact ⟨((-1)), (wrap64 (x6_1 + 1)), (by first | rfl | (simp; done) | (simp [*]; done)), (by first | rfl | (simp; done) | (simp [*]; done)), H', ⟨Nat.le_refl _⟩, ⟨rq HO_5⟩, ⟨bq HB⟩⟩
   case round =>
    clear H'
    try clear p2
    try clear c3
    try clear c5
    try clear c5b0
    try clear p2
    obtain ⟨x7_2, x8_2, rfl, rfl, HA, HK2, HO_5, HB⟩ := hrel
    cases gk with
    | zero => exact absurd HA.out (by simp [qp.l1])
    | succ k2 =>
     have H := HA.out
     clear HA
     simp only [qp.l1] at H
     by_cases c6 : x8_2 ≤ (l0.length : Int)
     case neg =>
      rw [if_neg c6] at H
      have c6b0 : decide (x8_2 ≤ (l0.length : Int)) = false := decide_eq_false c6
      clear c6
      by_cases c21 : x5_1.length < 17592186044416
      case neg =>
       rw [if_neg c21] at H
       exact absurd H (by simp)
      rw [if_pos c21] at H
      have LMc21 := qa.mk c21
      clear c21
      obtain ⟨y339, hy339⟩ : ∃ y_ : List Int, y_ = (x5_1 ++ [x7_2]) := ⟨_, rfl⟩
      replace H : (qp.l0 k2 l0 a1 y339 x7_2) = some r := by first | (rw [hy339]; with_reducible exact H) | (have H2_ := (Option.bind_some _ _).symm.trans H; rw [hy339]; with_reducible exact H2_) | (have H2_ := (Option.bind_some _ _).symm.trans H; with_reducible exact H2_) | with_reducible exact H | (rw [hy339]; exact H) | exact H
      have Ny339 := qa.mk hy339
      clear hy339
      have H' := qa.mk H
      clear H
      go_wp2_with (first | ((with_reducible refine zU (b := .append) (xs := #[.tmp 50, .tmp 52]) rfl ?_); at_builtin; refine Kd.jU (Kd.int .i64) (w0 := w) w.heap.size rfl (.tmp 50) (.tmp 52) 24 3 (.int .i64 0) 8 rfl Try.underlying24 info3 rfl (by decide) (by omega) u5 x5_1 x7_2 [.int .i64 x7_2] (fun _ => True) (fun _ => False) rfl rfl ?aP (fun _ hk => hk.elim) ?aF ?aO ?aB ?aS ?aL ?_; (case aP => exact rfl); (case aB => exact (bq HB)); (case aF => exact (fun _ _ => trivial)); (case aO => exact (rq HO_5)); (case aS => exact (qI (bq HB))); (case aL => have := LMc21.out; omega); intro v340 w22 ho hb hg hat; rw [← Ny339.out] at ho; have n0_ := qa.mk (hb); have n1_ := qa.mk (ho); clear HB; clear HO_5; have HB := n0_; have HO341 := n1_; clear n0_ n1_; clear ho hb hg hat))
      go_roundg k2
      case measure => have := HK1.out; have := HK2.out; omega
      case rel => exact ⟨(y339), (x7_2), (by first | rfl | (simp; done) | (simp [*]; done)), H', ⟨by have := HK1.out; have := HK2.out; omega⟩, ⟨rq HO341⟩, ⟨bq HB⟩⟩
     rw [if_pos c6] at H
     have c6b0 : decide (x8_2 ≤ (l0.length : Int)) = true := decide_eq_true c6
     clear c6
     replace H := Option.bind_eq_some_iff.mp H
     obtain ⟨t342, A70, H⟩ := H
     replace H : (if t342 = true then ((qF.f k2 l0 x6_1 x8_2).bind fun bt343 => (if x7_2 < 0 then (qp.j2 k2 l0 a1 x5_1 x6_1 x7_2 x8_2 true) else (qp.j2 k2 l0 a1 x5_1 x6_1 x7_2 x8_2 (decide ((wrap64 (bt343.1 - bt343.2.2)) ≤ a1))))) else (qp.l1 k2 l0 a1 x5_1 x6_1 x7_2 (wrap64 (x8_2 + 1)))) = some r := H
     have A7 := qa.mk A70
     clear A70
     by_cases c8 : t342 = true
     case neg =>
      replace c8 := Bool.eq_false_iff.mpr c8
      subst c8
      have H1 : (qp.l1 k2 l0 a1 x5_1 x6_1 x7_2 (wrap64 (x8_2 + 1))) = some r := by rw [if_neg (show ¬ (false = true) by decide)] at H; exact H
      clear H
      have H := H1
      clear H1
      have H' := qa.mk H
      clear H
      go_wp2_with (first | ((with_reducible refine zl (f := 19) rfl ?_); refine zM (some 27) rfl rfl Try.func19 (by kernel_rfl) rfl #[.slice A0 l0.length c0, .int .i64 x8_2] rfl (by (try simp only [List.map_toArray, List.map_cons, List.map_nil]); first | done | rfl | (simp only [List.length_drop, List.length_take]; rfl)) ?_; (with_reducible refine (zZ.calls _ _ l0 x8_2 false _ ?side1 ?side2 A7.out).mono ?_); (case side1 => repeat (first | exact (Kd.zS HR0.out HB.out) | (with_reducible refine Kd.zI ?_ _) | (with_reducible refine Kd.zH ?_ _) | (with_reducible refine Kd.zL ?_))); (case side2 => exact HC0.out); rintro e w' ⟨rfl, ⟨nd, rfl⟩⟩; refine ⟨_, rfl, ?_⟩))
      go_roundg k2
      case measure => have := HK1.out; have := HK2.out; omega
      case rel => exact ⟨(x7_2), (wrap64 (x8_2 + 1)), (by first | rfl | (simp; done) | (simp [*]; done)), (by first | rfl | (simp; done) | (simp [*]; done)), H', ⟨by have := HK1.out; have := HK2.out; omega⟩, ⟨rq HO_5⟩, ⟨bq HB⟩⟩
     subst c8
     have H1 : ((qF.f k2 l0 x6_1 x8_2).bind fun bt343 => (if x7_2 < 0 then (qp.j2 k2 l0 a1 x5_1 x6_1 x7_2 x8_2 true) else (qp.j2 k2 l0 a1 x5_1 x6_1 x7_2 x8_2 (decide ((wrap64 (bt343.1 - bt343.2.2)) ≤ a1))))) = some r := by rw [if_pos rfl] at H; exact H
     clear H
     have H := H1
     clear H1
     replace H := Option.bind_eq_some_iff.mp H
     obtain ⟨⟨t343, t344, t345⟩, A90, H⟩ := H
     replace H : (if x7_2 < 0 then (qp.j2 k2 l0 a1 x5_1 x6_1 x7_2 x8_2 true) else (qp.j2 k2 l0 a1 x5_1 x6_1 x7_2 x8_2 (decide ((wrap64 (t343 - t345)) ≤ a1)))) = some r := H
     have A9 := qa.mk A90
     clear A90
     have HC10 := qa.mk H
     clear H
     go_upto_region 10 with (first | ((with_reducible refine zl (f := 19) rfl ?_); refine zM (some 27) rfl rfl Try.func19 (by kernel_rfl) rfl #[.slice A0 l0.length c0, .int .i64 x8_2] rfl (by (try simp only [List.map_toArray, List.map_cons, List.map_nil]); first | done | rfl | (simp only [List.length_drop, List.length_take]; rfl)) ?_; (with_reducible refine (zZ.calls _ _ l0 x8_2 true _ ?side1 ?side2 A7.out).mono ?_); (case side1 => repeat (first | exact (Kd.zS HR0.out HB.out) | (with_reducible refine Kd.zI ?_ _) | (with_reducible refine Kd.zH ?_ _) | (with_reducible refine Kd.zL ?_))); (case side2 => exact HC0.out); rintro e w' ⟨rfl, ⟨nd, rfl⟩⟩; refine ⟨_, rfl, ?_⟩) | ((with_reducible refine zl (f := 35) rfl ?_); refine zM (some 33) rfl rfl Try.func35 (by kernel_rfl) rfl #[.slice A0 l0.length c0, .int .i64 x6_1, .int .i64 x8_2] rfl (by (try simp only [List.map_toArray, List.map_cons, List.map_nil]); first | done | rfl | (simp only [List.length_drop, List.length_take]; rfl)) ?_; (with_reducible refine (qF.calls k2 _ _ l0 x6_1 x8_2 t343 t344 t345 _ ?side1 ?side2 A9.out).mono ?_); (case side1 => repeat (first | exact (Kd.zS HR0.out (bq HB)) | (with_reducible refine Kd.zI ?_ _) | (with_reducible refine Kd.zH ?_ _) | (with_reducible refine Kd.zL ?_))); (case side2 => exact HC0.out); rintro e w' ⟨rfl, ⟨nd, rfl⟩⟩; refine ⟨_, rfl, ?_⟩))
     (try simp only [Act.put, List.setIfInBounds_toArray, List.set_cons_zero, List.set_cons_succ])
     go_cut [45] (fun v45 wc => ∃ (kq : Nat) (x45_9 : Bool), v45 = .bool x45_9 ∧ qa (qp.j2 kq l0 a1 x5_1 x6_1 x7_2 x8_2 x45_9 = some r) ∧ qa (kq ≤ k2) ∧ qa (Kd.R (Kd.int .i64) 3 wc w.heap.size (fun _ => True) u5 x5_1) ∧ qa (Below w.heap.size w wc))
     case first =>
      have H := HC10.out
      clear HC10
      by_cases c11 : x7_2 < 0
      ·rw [if_pos c11] at H
       have c11b0 : decide (x7_2 < 0) = true := decide_eq_true c11
       clear c11
       (first | rw [c11b0] | (simp only [zJ, zN]; rw [c11b0]) | skip)
       have H' := qa.mk H
       clear H
       go_wp2
       go_meet
       case rel => exact ⟨_, (true), (by first | rfl | (simp; done) | (simp [*]; done)), H', ⟨by have := HK1.out; have := HK2.out; first | omega | exact Nat.le_refl _⟩, ⟨rq HO_5⟩, ⟨bq HB⟩⟩
      rw [if_neg c11] at H
      have c11b0 : decide (x7_2 < 0) = false := decide_eq_false c11
      clear c11
      (first | rw [c11b0] | (simp only [zJ, zN]; rw [c11b0]) | skip)
      have H' := qa.mk H
      clear H
      go_wp2
      go_meet
      case rel => exact ⟨_, (decide ((wrap64 (t343 - t345)) ≤ a1)), (by first | rfl | (simp; done) | (simp [*]; done)), H', ⟨by have := HK1.out; have := HK2.out; first | omega | exact Nat.le_refl _⟩, ⟨rq HO_5⟩, ⟨bq HB⟩⟩
     case rest =>
      clear HC10
      try clear c1
      try clear p2
      try clear c3
      try clear c5
      try clear c5b0
      try clear c6
      try clear c6b0
      try clear p6
      try clear c8
      try clear c11
      try clear c11b0
      try clear p2
      obtain ⟨kq, x45_9, rfl, HA, HJ9, HO_5, HB⟩ := hcut
      cases kq with
      | zero => exact absurd HA.out (by simp [qp.j2])
      | succ kj9 =>
       have H := HA.out
       clear HA
       simp only [qp.j2] at H
       by_cases c12 : x45_9 = true
       ·subst c12
        have H1 : ((zx.f l0 x8_2).bind fun t346 => (if t346 = true then (if x5_1.length < 17592186044416 then (qp.l0 kj9 l0 a1 (x5_1 ++ [x8_2]) x8_2) else (none)) else (qp.l1 kj9 l0 a1 x5_1 x6_1 x8_2 (wrap64 (x8_2 + 1))))) = some r := by rw [if_pos rfl] at H; exact H
        clear H
        have H := H1
        clear H1
        replace H := Option.bind_eq_some_iff.mp H
        obtain ⟨t346, A130, H⟩ := H
        replace H : (if t346 = true then (if x5_1.length < 17592186044416 then (qp.l0 kj9 l0 a1 (x5_1 ++ [x8_2]) x8_2) else (none)) else (qp.l1 kj9 l0 a1 x5_1 x6_1 x8_2 (wrap64 (x8_2 + 1)))) = some r := H
        have A13 := qa.mk A130
        clear A130
        by_cases c14 : t346 = true
        case neg =>
         replace c14 := Bool.eq_false_iff.mpr c14
         subst c14
         have H1 : (qp.l1 kj9 l0 a1 x5_1 x6_1 x8_2 (wrap64 (x8_2 + 1))) = some r := by rw [if_neg (show ¬ (false = true) by decide)] at H; exact H
         clear H
         have H := H1
         clear H1
         have H' := qa.mk H
         clear H
         go_wp2_with (first | ((with_reducible refine zl (f := 20) rfl ?_); refine zM (some 49) rfl rfl Try.func20 (by kernel_rfl) rfl #[.slice A0 l0.length c0, .int .i64 x8_2] rfl (by (try simp only [List.map_toArray, List.map_cons, List.map_nil]); first | done | rfl | (simp only [List.length_drop, List.length_take]; rfl)) ?_; (with_reducible refine (zx.calls _ _ l0 x8_2 false _ ?side1 ?side2 A13.out).mono ?_); (case side1 => repeat (first | exact (Kd.zS HR0.out HB.out) | (with_reducible refine Kd.zI ?_ _) | (with_reducible refine Kd.zH ?_ _) | (with_reducible refine Kd.zL ?_))); (case side2 => exact HC0.out); rintro e w' ⟨rfl, ⟨nd, rfl⟩⟩; refine ⟨_, rfl, ?_⟩))
         go_roundg kj9
         case measure => have := HK1.out; have := HK2.out; have := HJ9.out; omega
         case rel => exact ⟨(x8_2), (wrap64 (x8_2 + 1)), (by first | rfl | (simp; done) | (simp [*]; done)), (by first | rfl | (simp; done) | (simp [*]; done)), H', ⟨by have := HK1.out; have := HK2.out; have := HJ9.out; omega⟩, ⟨rq HO_5⟩, ⟨bq HB⟩⟩
        subst c14
        have H1 : (if x5_1.length < 17592186044416 then (qp.l0 kj9 l0 a1 (x5_1 ++ [x8_2]) x8_2) else (none)) = some r := by rw [if_pos rfl] at H; exact H
        clear H
        have H := H1
        clear H1
        by_cases c15 : x5_1.length < 17592186044416
        case neg =>
         rw [if_neg c15] at H
         exact absurd H (by simp)
        rw [if_pos c15] at H
        have LMc15 := qa.mk c15
        clear c15
        obtain ⟨y347, hy347⟩ : ∃ y_ : List Int, y_ = (x5_1 ++ [x8_2]) := ⟨_, rfl⟩
        replace H : (qp.l0 kj9 l0 a1 y347 x8_2) = some r := by first | (rw [hy347]; with_reducible exact H) | (have H2_ := (Option.bind_some _ _).symm.trans H; rw [hy347]; with_reducible exact H2_) | (have H2_ := (Option.bind_some _ _).symm.trans H; with_reducible exact H2_) | with_reducible exact H | (rw [hy347]; exact H) | exact H
        have Ny347 := qa.mk hy347
        clear hy347
        have H' := qa.mk H
        clear H
        go_wp2_with (first | ((with_reducible refine zl (f := 20) rfl ?_); refine zM (some 49) rfl rfl Try.func20 (by kernel_rfl) rfl #[.slice A0 l0.length c0, .int .i64 x8_2] rfl (by (try simp only [List.map_toArray, List.map_cons, List.map_nil]); first | done | rfl | (simp only [List.length_drop, List.length_take]; rfl)) ?_; (with_reducible refine (zx.calls _ _ l0 x8_2 true _ ?side1 ?side2 A13.out).mono ?_); (case side1 => repeat (first | exact (Kd.zS HR0.out HB.out) | (with_reducible refine Kd.zI ?_ _) | (with_reducible refine Kd.zH ?_ _) | (with_reducible refine Kd.zL ?_))); (case side2 => exact HC0.out); rintro e w' ⟨rfl, ⟨nd, rfl⟩⟩; refine ⟨_, rfl, ?_⟩) | ((with_reducible refine zU (b := .append) (xs := #[.tmp 50, .tmp 52]) rfl ?_); at_builtin; refine Kd.jU (Kd.int .i64) (w0 := w) w.heap.size rfl (.tmp 50) (.tmp 52) 24 3 (.int .i64 0) 8 rfl Try.underlying24 info3 rfl (by decide) (by omega) u5 x5_1 x8_2 [.int .i64 x8_2] (fun _ => True) (fun _ => False) rfl rfl ?aP (fun _ hk => hk.elim) ?aF ?aO ?aB ?aS ?aL ?_; (case aP => exact rfl); (case aB => exact (bq HB)); (case aF => exact (fun _ _ => trivial)); (case aO => exact (rq HO_5)); (case aS => exact (qI (bq HB))); (case aL => have := LMc15.out; omega); intro v348 w16 ho hb hg hat; rw [← Ny347.out] at ho; have n0_ := qa.mk (hb); have n1_ := qa.mk (ho); clear HB; clear HO_5; have HB := n0_; have HO349 := n1_; clear n0_ n1_; clear ho hb hg hat))
        go_roundg kj9
        case measure => have := HK1.out; have := HK2.out; have := HJ9.out; omega
        case rel => exact ⟨(y347), (x8_2), (by first | rfl | (simp; done) | (simp [*]; done)), H', ⟨by have := HK1.out; have := HK2.out; have := HJ9.out; omega⟩, ⟨rq HO349⟩, ⟨bq HB⟩⟩
       replace c12 := Bool.eq_false_iff.mpr c12
       subst c12
       have H1 : ((zx.f l0 x8_2).bind fun t350 => (if t350 = true then (if x5_1.length < 17592186044416 then (qp.l0 kj9 l0 a1 (x5_1 ++ [x7_2]) x7_2) else (none)) else (qp.l1 kj9 l0 a1 x5_1 x6_1 x7_2 (wrap64 (x8_2 + 1))))) = some r := by rw [if_neg (show ¬ (false = true) by decide)] at H; exact H
       clear H
       have H := H1
       clear H1
       replace H := Option.bind_eq_some_iff.mp H
       obtain ⟨t350, A170, H⟩ := H
       replace H : (if t350 = true then (if x5_1.length < 17592186044416 then (qp.l0 kj9 l0 a1 (x5_1 ++ [x7_2]) x7_2) else (none)) else (qp.l1 kj9 l0 a1 x5_1 x6_1 x7_2 (wrap64 (x8_2 + 1)))) = some r := H
       have A17 := qa.mk A170
       clear A170
       by_cases c18 : t350 = true
       case neg =>
        replace c18 := Bool.eq_false_iff.mpr c18
        subst c18
        have H1 : (qp.l1 kj9 l0 a1 x5_1 x6_1 x7_2 (wrap64 (x8_2 + 1))) = some r := by rw [if_neg (show ¬ (false = true) by decide)] at H; exact H
        clear H
        have H := H1
        clear H1
        have H' := qa.mk H
        clear H
        go_wp2_with (first | ((with_reducible refine zl (f := 20) rfl ?_); refine zM (some 49) rfl rfl Try.func20 (by kernel_rfl) rfl #[.slice A0 l0.length c0, .int .i64 x8_2] rfl (by (try simp only [List.map_toArray, List.map_cons, List.map_nil]); first | done | rfl | (simp only [List.length_drop, List.length_take]; rfl)) ?_; (with_reducible refine (zx.calls _ _ l0 x8_2 false _ ?side1 ?side2 A17.out).mono ?_); (case side1 => repeat (first | exact (Kd.zS HR0.out HB.out) | (with_reducible refine Kd.zI ?_ _) | (with_reducible refine Kd.zH ?_ _) | (with_reducible refine Kd.zL ?_))); (case side2 => exact HC0.out); rintro e w' ⟨rfl, ⟨nd, rfl⟩⟩; refine ⟨_, rfl, ?_⟩))
        go_roundg kj9
        case measure => have := HK1.out; have := HK2.out; have := HJ9.out; omega
        case rel => exact ⟨(x7_2), (wrap64 (x8_2 + 1)), (by first | rfl | (simp; done) | (simp [*]; done)), (by first | rfl | (simp; done) | (simp [*]; done)), H', ⟨by have := HK1.out; have := HK2.out; have := HJ9.out; omega⟩, ⟨rq HO_5⟩, ⟨bq HB⟩⟩
       subst c18
       have H1 : (if x5_1.length < 17592186044416 then (qp.l0 kj9 l0 a1 (x5_1 ++ [x7_2]) x7_2) else (none)) = some r := by rw [if_pos rfl] at H; exact H
       clear H
       have H := H1
       clear H1
       by_cases c19 : x5_1.length < 17592186044416
       case neg =>
        rw [if_neg c19] at H
        exact absurd H (by simp)
       rw [if_pos c19] at H
       have LMc19 := qa.mk c19
       clear c19
       obtain ⟨y351, hy351⟩ : ∃ y_ : List Int, y_ = (x5_1 ++ [x7_2]) := ⟨_, rfl⟩
       replace H : (qp.l0 kj9 l0 a1 y351 x7_2) = some r := by first | (rw [hy351]; with_reducible exact H) | (have H2_ := (Option.bind_some _ _).symm.trans H; rw [hy351]; with_reducible exact H2_) | (have H2_ := (Option.bind_some _ _).symm.trans H; with_reducible exact H2_) | with_reducible exact H | (rw [hy351]; exact H) | exact H
       have Ny351 := qa.mk hy351
       clear hy351
       have H' := qa.mk H
       clear H
       go_wp2_with (first | ((with_reducible refine zl (f := 20) rfl ?_); refine zM (some 49) rfl rfl Try.func20 (by kernel_rfl) rfl #[.slice A0 l0.length c0, .int .i64 x8_2] rfl (by (try simp only [List.map_toArray, List.map_cons, List.map_nil]); first | done | rfl | (simp only [List.length_drop, List.length_take]; rfl)) ?_; (with_reducible refine (zx.calls _ _ l0 x8_2 true _ ?side1 ?side2 A17.out).mono ?_); (case side1 => repeat (first | exact (Kd.zS HR0.out HB.out) | (with_reducible refine Kd.zI ?_ _) | (with_reducible refine Kd.zH ?_ _) | (with_reducible refine Kd.zL ?_))); (case side2 => exact HC0.out); rintro e w' ⟨rfl, ⟨nd, rfl⟩⟩; refine ⟨_, rfl, ?_⟩) | ((with_reducible refine zU (b := .append) (xs := #[.tmp 50, .tmp 52]) rfl ?_); at_builtin; refine Kd.jU (Kd.int .i64) (w0 := w) w.heap.size rfl (.tmp 50) (.tmp 52) 24 3 (.int .i64 0) 8 rfl Try.underlying24 info3 rfl (by decide) (by omega) u5 x5_1 x7_2 [.int .i64 x7_2] (fun _ => True) (fun _ => False) rfl rfl ?aP (fun _ hk => hk.elim) ?aF ?aO ?aB ?aS ?aL ?_; (case aP => exact rfl); (case aB => exact (bq HB)); (case aF => exact (fun _ _ => trivial)); (case aO => exact (rq HO_5)); (case aS => exact (qI (bq HB))); (case aL => have := LMc19.out; omega); intro v352 w20 ho hb hg hat; rw [← Ny351.out] at ho; have n0_ := qa.mk (hb); have n1_ := qa.mk (ho); clear HB; clear HO_5; have HB := n0_; have HO353 := n1_; clear n0_ n1_; clear ho hb hg hat))
       go_roundg kj9
       case measure => have := HK1.out; have := HK2.out; have := HJ9.out; omega
       case rel => exact ⟨(y351), (x7_2), (by first | rfl | (simp; done) | (simp [*]; done)), H', ⟨by have := HK1.out; have := HK2.out; have := HJ9.out; omega⟩, ⟨rq HO353⟩, ⟨bq HB⟩⟩
end Go.Proofs.Ytfbanppdiglciaa.X
