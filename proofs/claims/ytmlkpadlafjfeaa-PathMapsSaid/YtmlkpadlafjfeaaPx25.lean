import Derived.Test.YtmlkpadlafjfeaaPx90
namespace Go.Proofs.Ytmlkpadlafjfeaa.P
open Go.RowKit Go.Proofs.YtmlkpadlafjfeaaW.PrintWords Go.Proofs.YtmlkpadlafjfeaaW.PrintLast Go.Proofs.YtmlkpadlafjfeaaW.PrintMore
attribute [local go_sem] zH zK zU zT zB zC zJ zI
set_option linter.unusedVariables false
set_option linter.unusedSimpArgs false
attribute [local go_sem high] eqA35
mutual
def qH.l0 : Nat → List (List (S35)) → List (List (S35)) → Int → Int → Option (Bool)
 | 0, _, _, _, _ => none
 | k + 1, x0, x1, x13, x14 => if x14 < x13 then (if 0 ≤ x14 then (if x14 < (x0.length : Int) then (if x14 < (x1.length : Int) then (if ((zY x0 x14).length : Int) = ((zY x1 x14).length : Int) then (qH.l1 k x0 x1 x14 x13 x14 ((zY x0 x14).length : Int) 0) else (some false)) else (none)) else (none)) else (none)) else (some true)
def qH.l1 : Nat → List (List (S35)) → List (List (S35)) → Int → Int → Int → Int → Int → Option (Bool)
 | 0, _, _, _, _, _, _, _ => none
 | k + 1, x0, x1, x5, x13, x14, x32, x33 => if x33 < x32 then (if 0 ≤ x5 then (if x5 < (x0.length : Int) then (if 0 ≤ x33 then (if x33 < ((zY x0 x5).length : Int) then (if x5 < (x1.length : Int) then (if x33 < ((zY x1 x5).length : Int) then (if (!(((jX (zY x0 x5) x33).f0) == ((jX (zY x1 x5) x33).f0)) || (!(((jX (zY x0 x5) x33).f1) == ((jX (zY x1 x5) x33).f1)))) = true then (some false) else (qH.l1 k x0 x1 x5 x13 x14 x32 (wrap64 (x33 + 1)))) else (none)) else (none)) else (none)) else (none)) else (none)) else (none)) else (qH.l0 k x0 x1 x13 (wrap64 (x14 + 1)))
end
def qH.f (k : Nat) (l0 : List (List (S35))) (l1 : List (List (S35))) : Option (Bool) := if (l0.length : Int) = (l1.length : Int) then (qH.l0 k l0 l1 (l0.length : Int) 0) else (some false)
theorem qH.zW : ∀ k, (∀ y0 y1 y2 y3, LeO (qH.l0 k y0 y1 y2 y3) (qH.l0 (k + 1) y0 y1 y2 y3)) ∧ (∀ y0 y1 y2 y3 y4 y5 y6, LeO (qH.l1 k y0 y1 y2 y3 y4 y5 y6) (qH.l1 (k + 1) y0 y1 y2 y3 y4 y5 y6))
 | 0 => ⟨fun _ _ _ _ r h => by simp [qH.l0] at h, fun _ _ _ _ _ _ _ r h => by simp [qH.l1] at h⟩
 | k + 1 => by
  obtain ⟨ih0, ih1⟩ := qH.zW k
  refine ⟨?_, ?_⟩
  ·intro y0 y1 y2 y3
   unfold qH.l0
   repeat' first
   | (with_reducible exact ih0 _ _ _ _)
   | (with_reducible exact ih1 _ _ _ _ _ _ _)
   | (with_reducible exact LeO.refl _)
   | (with_reducible exact LeO.none _)
   | (with_reducible refine LeO.ite ?_ ?_)
   | (with_reducible refine LeO.bind ?_ (fun _ => ?_))
   | exact ih0 _ _ _ _
   | exact ih1 _ _ _ _ _ _ _
   | exact LeO.none _
   | refine LeO.ite ?_ ?_
   | refine LeO.bind ?_ (fun _ => ?_)
  ·intro y0 y1 y2 y3 y4 y5 y6
   unfold qH.l1
   repeat' first
   | (with_reducible exact ih0 _ _ _ _)
   | (with_reducible exact ih1 _ _ _ _ _ _ _)
   | (with_reducible exact LeO.refl _)
   | (with_reducible exact LeO.none _)
   | (with_reducible refine LeO.ite ?_ ?_)
   | (with_reducible refine LeO.bind ?_ (fun _ => ?_))
   | exact ih0 _ _ _ _
   | exact ih1 _ _ _ _ _ _ _
   | exact LeO.none _
   | refine LeO.ite ?_ ?_
   | refine LeO.bind ?_ (fun _ => ?_)
theorem qH.mono : ∀ a0 a1 k, LeO (qH.f k a0 a1) (qH.f (k + 1) a0 a1) := by
 intro a0 a1 k
 obtain ⟨ih0, ih1⟩ := qH.zW k
 unfold qH.f
 repeat' first
   | (with_reducible exact ih0 _ _ _ _)
   | (with_reducible exact ih1 _ _ _ _ _ _ _)
   | (with_reducible exact LeO.refl _)
   | (with_reducible exact LeO.none _)
   | (with_reducible refine LeO.ite ?_ ?_)
   | (with_reducible refine LeO.bind ?_ (fun _ => ?_))
   | exact ih0 _ _ _ _
   | exact ih1 _ _ _ _ _ _ _
   | exact LeO.none _
   | refine LeO.ite ?_ ?_
   | refine LeO.bind ?_ (fun _ => ?_)
set_option maxHeartbeats 8000000 in
set_option maxRecDepth 100000 in
theorem qH.calls (k : Nat) (A0 : Option Addr) (c0 : Nat) (l0 : List (List (S35))) (A1 : Option Addr) (c1 : Nat) (l1 : List (List (S35))) (r : Bool) (w : World) (hr0 : Kd.C (Kd.slice 35 k35) w A0 l0.length l0) (hc0 : l0.length ≤ c0) (hr1 : Kd.C (Kd.slice 35 k35) w A1 l1.length l1) (hc1 : l1.length ≤ c1) (h : qH.f k l0 l1 = some r) :
  Calls Try.prog 14 #[.slice A0 l0.length c0, .slice A1 l1.length c1] w fun e w' => e = .returned (.bool r) ∧ qE w w' := by
 have hu35 := Try.underlying35
 have HR0 := qa.mk hr0
 have HC0 := qa.mk hc0
 clear hr0 hc0
 have HR1 := qa.mk hr1
 have HC1 := qa.mk hc1
 clear hr1 hc1
 have H : (if (l0.length : Int) = (l1.length : Int) then (qH.l0 k l0 l1 (l0.length : Int) 0) else (some false)) = some r := h
 clear h
 by_cases c3 : (l0.length : Int) = (l1.length : Int)
 case neg =>
  rw [if_neg c3] at H
  have c3b0 : ((l0.length : Int) == (l1.length : Int)) = false := beq_eq_false_iff_ne.mpr c3
  have c3b1 : ((l0.length : Int) != (l1.length : Int)) = true := bne_iff_ne.mpr c3
  have c3b2 : (l0.length == l1.length) = false := by first | simpa using c3 | (simp at c3 ⊢; omega)
  obtain rfl := Option.some.inj H
  go_enter Try.func14, Try.ntmps14
  go_wp2
  repeat (go_quiet (fail); try go_wp2)
  go_ret
  exact ⟨by first | rfl | (simp; done) | (simp [*]; done), by repeat (first | exact qE.refl _ | apply qE.step)⟩
 rw [if_pos c3] at H
 have c3b0 : ((l0.length : Int) == (l1.length : Int)) = true := beq_iff_eq.mpr c3
 have c3b1 : ((l0.length : Int) != (l1.length : Int)) = false := bne_eq_false_iff_eq.mpr c3
 have c3b2 : (l0.length == l1.length) = true := by first | simpa using c3 | (simp at c3 ⊢; omega)
 clear c3
 have H' := qa.mk H
 clear H
 go_enter Try.func14, Try.ntmps14
 go_wp2
 repeat (go_quiet (fail); try go_wp2)
 go_loopg [14] k (fun kq v14 w' => ∃ (x14_1 : Int), v14 = .int .i64 x14_1 ∧ qa (qH.l0 kq l0 l1 (l0.length : Int) x14_1 = some r) ∧ qa (kq ≤ k) ∧ qE w w')
 case atStart => exact ⟨(0), (by first | rfl | (simp; done) | (simp [*]; done)), H', ⟨Nat.le_refl _⟩, by repeat (first | exact qE.refl _ | apply qE.step)⟩
 case round =>
  clear H'
  try clear c1
  try clear p2
  try clear c3
  try clear c3b0
  try clear c3b1
  try clear c3b2
  obtain ⟨x14_1, rfl, HA, HK1, ⟨m1, rfl⟩⟩ := hrel
  cases gk with
  | zero => exact absurd HA.out (by simp [qH.l0])
  | succ k1 =>
   have H := HA.out
   clear HA
   simp only [qH.l0] at H
   by_cases c4 : x14_1 < (l0.length : Int)
   case neg =>
    rw [if_neg c4] at H
    have c4b0 : decide (x14_1 < (l0.length : Int)) = false := decide_eq_false c4
    clear c4
    obtain rfl := Option.some.inj H
    go_wp2
    repeat (go_quiet (fail); try go_wp2)
    go_ret
    exact ⟨by first | rfl | (simp; done) | (simp [*]; done), by repeat (first | exact qE.refl _ | apply qE.step)⟩
   rw [if_pos c4] at H
   have c4b0 : decide (x14_1 < (l0.length : Int)) = true := decide_eq_true c4
   clear c4
   by_cases c5 : 0 ≤ x14_1
   case neg =>
    rw [if_neg c5] at H
    exact absurd H (by simp)
   rw [if_pos c5] at H
   have c5b0 : decide (0 ≤ x14_1) = true := decide_eq_true c5
   clear c5
   by_cases c6 : x14_1 < (l0.length : Int)
   case neg =>
    rw [if_neg c6] at H
    exact absurd H (by simp)
   rw [if_pos c6] at H
   have c6b0 : decide (x14_1 < (l0.length : Int)) = true := decide_eq_true c6
   clear c6
   by_cases c7 : x14_1 < (l1.length : Int)
   case neg =>
    rw [if_neg c7] at H
    exact absurd H (by simp)
   rw [if_pos c7] at H
   have c7b0 : decide (x14_1 < (l1.length : Int)) = true := decide_eq_true c7
   clear c7
   by_cases c8 : ((zY l0 x14_1).length : Int) = ((zY l1 x14_1).length : Int)
   case neg =>
    rw [if_neg c8] at H
    have c8b0 : (((zY l0 x14_1).length : Int) == ((zY l1 x14_1).length : Int)) = false := beq_eq_false_iff_ne.mpr c8
    have c8b1 : (((zY l0 x14_1).length : Int) != ((zY l1 x14_1).length : Int)) = true := bne_iff_ne.mpr c8
    have c8b2 : ((zY l0 x14_1).length == (zY l1 x14_1).length) = false := by first | simpa using c8 | (simp at c8 ⊢; omega)
    obtain rfl := Option.some.inj H
    have p190 : 0 ≤ (x14_1 : Int) := odt
    have q190 : x14_1 < (l0.length : Int) := odt
    obtain ⟨ad190, A190_0, c190_0, e190, hx190_0, hl190_0, hi190_0⟩ := Jd HR0.out x14_1 p190 q190
    cases e190
    have HR190_0 := qa.mk hi190_0
    have HC190_0 := qa.mk hl190_0
    clear hi190_0 hl190_0
    replace p190 := eq_true p190
    replace q190 := eq_true q190
    have p191 : 0 ≤ (x14_1 : Int) := odt
    have q191 : x14_1 < (l1.length : Int) := odt
    obtain ⟨ad191, A191_0, c191_0, e191, hx191_0, hl191_0, hi191_0⟩ := Jd HR1.out x14_1 p191 q191
    cases e191
    have HR191_0 := qa.mk hi191_0
    have HC191_0 := qa.mk hl191_0
    clear hi191_0 hl191_0
    replace p191 := eq_true p191
    replace q191 := eq_true q191
    go_wp2
    repeat (go_quiet (fail); try go_wp2)
    go_ret
    exact ⟨by first | rfl | (simp; done) | (simp [*]; done), by repeat (first | exact qE.refl _ | apply qE.step)⟩
   rw [if_pos c8] at H
   have c8b0 : (((zY l0 x14_1).length : Int) == ((zY l1 x14_1).length : Int)) = true := beq_iff_eq.mpr c8
   have c8b1 : (((zY l0 x14_1).length : Int) != ((zY l1 x14_1).length : Int)) = false := bne_eq_false_iff_eq.mpr c8
   have c8b2 : ((zY l0 x14_1).length == (zY l1 x14_1).length) = true := by first | simpa using c8 | (simp at c8 ⊢; omega)
   clear c8
   have H' := qa.mk H
   clear H
   have p190 : 0 ≤ (x14_1 : Int) := odt
   have q190 : x14_1 < (l0.length : Int) := odt
   obtain ⟨ad190, A190_0, c190_0, e190, hx190_0, hl190_0, hi190_0⟩ := Jd HR0.out x14_1 p190 q190
   cases e190
   have HR190_0 := qa.mk hi190_0
   have HC190_0 := qa.mk hl190_0
   clear hi190_0 hl190_0
   replace p190 := eq_true p190
   replace q190 := eq_true q190
   have p191 : 0 ≤ (x14_1 : Int) := odt
   have q191 : x14_1 < (l1.length : Int) := odt
   obtain ⟨ad191, A191_0, c191_0, e191, hx191_0, hl191_0, hi191_0⟩ := Jd HR1.out x14_1 p191 q191
   cases e191
   have HR191_0 := qa.mk hi191_0
   have HC191_0 := qa.mk hl191_0
   clear hi191_0 hl191_0
   replace p191 := eq_true p191
   replace q191 := eq_true q191
   have p192 : 0 ≤ (x14_1 : Int) := odt
   have q192 : x14_1 < (l0.length : Int) := odt
   obtain ⟨ad192, A192_0, c192_0, e192, hx192_0, hl192_0, hi192_0⟩ := Jd HR0.out x14_1 p192 q192
   obtain rfl : ad190 = ad192 := (by injection e192)
   have HR192_0 := qa.mk hi192_0
   have HC192_0 := qa.mk hl192_0
   clear hi192_0 hl192_0
   replace p192 := eq_true p192
   replace q192 := eq_true q192
   have ea_ := Option.some.inj (hx190_0.symm.trans hx192_0)
   injection ea_ with ea_ en_ ec_
   subst ea_
   subst ec_
   clear en_
   go_wp2
   repeat (go_quiet (fail); try go_wp2)
   go_loopg [33] k1 (fun kq v33 w' => ∃ (x33_2 : Int), v33 = .int .i64 x33_2 ∧ qa (qH.l1 kq l0 l1 x14_1 (l0.length : Int) x14_1 ((zY l0 x14_1).length : Int) x33_2 = some r) ∧ qa (kq ≤ k1) ∧ qE w w')
   case atStart => exact ⟨(0), (by first | rfl | (simp; done) | (simp [*]; done)), H', ⟨Nat.le_refl _⟩, by repeat (first | exact qE.refl _ | apply qE.step)⟩
   case round =>
    clear H'
    try clear c1
    try clear p1
    try clear q1
    try clear hx1
    try clear p2
    try clear c3
    try clear c3b0
    try clear c3b1
    try clear c3b2
    try clear c4
    try clear c4b0
    try clear c5
    try clear c5b0
    try clear c6
    try clear c6b0
    try clear c7
    try clear c7b0
    try clear c8
    try clear c8b0
    try clear c8b1
    try clear c8b2
    try clear hx190_0
    try clear hx191_0
    try clear hx192_0
    try clear p190
    try clear p191
    try clear p192
    try clear p2
    try clear q190
    try clear q191
    try clear q192
    obtain ⟨x33_2, rfl, HA, HK2, ⟨m2, rfl⟩⟩ := hrel
    cases gk with
    | zero => exact absurd HA.out (by simp [qH.l1])
    | succ k2 =>
     have H := HA.out
     clear HA
     simp only [qH.l1] at H
     by_cases c9 : x33_2 < ((zY l0 x14_1).length : Int)
     case neg =>
      rw [if_neg c9] at H
      have c9b0 : decide (x33_2 < ((zY l0 x14_1).length : Int)) = false := decide_eq_false c9
      clear c9
      have H' := qa.mk H
      clear H
      go_wp2
      repeat (go_quiet (fail); try go_wp2)
      go_roundg k2
      case measure => have := HK1.out; have := HK2.out; omega
      case rel => exact ⟨(wrap64 (x14_1 + 1)), (by first | rfl | (simp; done) | (simp [*]; done)), H', ⟨by have := HK1.out; have := HK2.out; omega⟩, by repeat (first | exact qE.refl _ | apply qE.step)⟩
     rw [if_pos c9] at H
     have c9b0 : decide (x33_2 < ((zY l0 x14_1).length : Int)) = true := decide_eq_true c9
     clear c9
     by_cases c10 : 0 ≤ x14_1
     case neg =>
      rw [if_neg c10] at H
      exact absurd H (by simp)
     rw [if_pos c10] at H
     have c10b0 : decide (0 ≤ x14_1) = true := decide_eq_true c10
     clear c10
     by_cases c11 : x14_1 < (l0.length : Int)
     case neg =>
      rw [if_neg c11] at H
      exact absurd H (by simp)
     rw [if_pos c11] at H
     have c11b0 : decide (x14_1 < (l0.length : Int)) = true := decide_eq_true c11
     clear c11
     by_cases c12 : 0 ≤ x33_2
     case neg =>
      rw [if_neg c12] at H
      exact absurd H (by simp)
     rw [if_pos c12] at H
     have c12b0 : decide (0 ≤ x33_2) = true := decide_eq_true c12
     clear c12
     by_cases c13 : x33_2 < ((zY l0 x14_1).length : Int)
     case neg =>
      rw [if_neg c13] at H
      exact absurd H (by simp)
     rw [if_pos c13] at H
     have c13b0 : decide (x33_2 < ((zY l0 x14_1).length : Int)) = true := decide_eq_true c13
     clear c13
     by_cases c14 : x14_1 < (l1.length : Int)
     case neg =>
      rw [if_neg c14] at H
      exact absurd H (by simp)
     rw [if_pos c14] at H
     have c14b0 : decide (x14_1 < (l1.length : Int)) = true := decide_eq_true c14
     clear c14
     by_cases c15 : x33_2 < ((zY l1 x14_1).length : Int)
     case neg =>
      rw [if_neg c15] at H
      exact absurd H (by simp)
     rw [if_pos c15] at H
     have c15b0 : decide (x33_2 < ((zY l1 x14_1).length : Int)) = true := decide_eq_true c15
     clear c15
     by_cases c16 : (!(((jX (zY l0 x14_1) x33_2).f0) == ((jX (zY l1 x14_1) x33_2).f0)) || (!(((jX (zY l0 x14_1) x33_2).f1) == ((jX (zY l1 x14_1) x33_2).f1)))) = true
     ·rw [if_pos c16] at H
      have c16b0 : (!(((jX (zY l0 x14_1) x33_2).f0) == ((jX (zY l1 x14_1) x33_2).f0)) || (!(((jX (zY l0 x14_1) x33_2).f1) == ((jX (zY l1 x14_1) x33_2).f1)))) = true := c16
      clear c16
      obtain rfl := Option.some.inj H
      have p193 : 0 ≤ (x14_1 : Int) := odt
      have q193 : x14_1 < (l0.length : Int) := odt
      obtain ⟨ad193, A193_0, c193_0, e193, hx193_0, hl193_0, hi193_0⟩ := Jd HR0.out x14_1 p193 q193
      obtain rfl : ad190 = ad193 := (by injection e193)
      have HR193_0 := qa.mk hi193_0
      have HC193_0 := qa.mk hl193_0
      clear hi193_0 hl193_0
      replace p193 := eq_true p193
      replace q193 := eq_true q193
      have p194 : 0 ≤ (x33_2 : Int) := odt
      have q194 : x33_2 < ((zY l0 x14_1).length : Int) := odt
      obtain ⟨ad194, e194, hx194_0, hx194_1⟩ := at_T35 HR193_0.out x33_2 p194 q194
      cases e194
      replace p194 := eq_true p194
      replace q194 := eq_true q194
      have p195 : 0 ≤ (x14_1 : Int) := odt
      have q195 : x14_1 < (l1.length : Int) := odt
      obtain ⟨ad195, A195_0, c195_0, e195, hx195_0, hl195_0, hi195_0⟩ := Jd HR1.out x14_1 p195 q195
      obtain rfl : ad191 = ad195 := (by injection e195)
      have HR195_0 := qa.mk hi195_0
      have HC195_0 := qa.mk hl195_0
      clear hi195_0 hl195_0
      replace p195 := eq_true p195
      replace q195 := eq_true q195
      have p196 : 0 ≤ (x33_2 : Int) := odt
      have q196 : x33_2 < ((zY l1 x14_1).length : Int) := odt
      obtain ⟨ad196, e196, hx196_0, hx196_1⟩ := at_T35 HR195_0.out x33_2 p196 q196
      cases e196
      replace p196 := eq_true p196
      replace q196 := eq_true q196
      go_wp2
      repeat (go_quiet (fail); try go_wp2)
      go_ret
      exact ⟨by first | rfl | (simp; done) | (simp [*]; done), by repeat (first | exact qE.refl _ | apply qE.step)⟩
     rw [if_neg c16] at H
     have c16b0 : (!(((jX (zY l0 x14_1) x33_2).f0) == ((jX (zY l1 x14_1) x33_2).f0)) || (!(((jX (zY l0 x14_1) x33_2).f1) == ((jX (zY l1 x14_1) x33_2).f1)))) = false := by simpa using c16
     clear c16
     have H' := qa.mk H
     clear H
     have p193 : 0 ≤ (x14_1 : Int) := odt
     have q193 : x14_1 < (l0.length : Int) := odt
     obtain ⟨ad193, A193_0, c193_0, e193, hx193_0, hl193_0, hi193_0⟩ := Jd HR0.out x14_1 p193 q193
     obtain rfl : ad190 = ad193 := (by injection e193)
     have HR193_0 := qa.mk hi193_0
     have HC193_0 := qa.mk hl193_0
     clear hi193_0 hl193_0
     replace p193 := eq_true p193
     replace q193 := eq_true q193
     have p194 : 0 ≤ (x33_2 : Int) := odt
     have q194 : x33_2 < ((zY l0 x14_1).length : Int) := odt
     obtain ⟨ad194, e194, hx194_0, hx194_1⟩ := at_T35 HR193_0.out x33_2 p194 q194
     cases e194
     replace p194 := eq_true p194
     replace q194 := eq_true q194
     have p195 : 0 ≤ (x14_1 : Int) := odt
     have q195 : x14_1 < (l1.length : Int) := odt
     obtain ⟨ad195, A195_0, c195_0, e195, hx195_0, hl195_0, hi195_0⟩ := Jd HR1.out x14_1 p195 q195
     obtain rfl : ad191 = ad195 := (by injection e195)
     have HR195_0 := qa.mk hi195_0
     have HC195_0 := qa.mk hl195_0
     clear hi195_0 hl195_0
     replace p195 := eq_true p195
     replace q195 := eq_true q195
     have p196 : 0 ≤ (x33_2 : Int) := odt
     have q196 : x33_2 < ((zY l1 x14_1).length : Int) := odt
     obtain ⟨ad196, e196, hx196_0, hx196_1⟩ := at_T35 HR195_0.out x33_2 p196 q196
     cases e196
     replace p196 := eq_true p196
     replace q196 := eq_true q196
     go_wp2
     repeat (go_quiet (fail); try go_wp2)
     go_roundg k2
     case measure => have := HK1.out; have := HK2.out; omega
     case rel => exact ⟨(wrap64 (x33_2 + 1)), (by first | rfl | (simp; done) | (simp [*]; done)), H', ⟨by have := HK1.out; have := HK2.out; omega⟩, by repeat (first | exact qE.refl _ | apply qE.step)⟩
end Go.Proofs.Ytmlkpadlafjfeaa.P
