import Derived.Test.YtmlkpadlafjfeaaPx90
namespace Go.Proofs.Ytmlkpadlafjfeaa.P
open Go.RowKit Go.Proofs.YtmlkpadlafjfeaaW.PrintWords Go.Proofs.YtmlkpadlafjfeaaW.PrintLast Go.Proofs.YtmlkpadlafjfeaaW.PrintMore
attribute [local go_sem] zH zK zU zT zB zC zJ zI
set_option linter.unusedVariables false
set_option linter.unusedSimpArgs false
attribute [local go_sem high] eqA40
mutual
def qG.l0 : Nat → List (List (S40)) → List (List (S40)) → Int → Int → Option (Bool)
 | 0, _, _, _, _ => none
 | k + 1, x0, x1, x13, x14 => if x14 < x13 then (if 0 ≤ x14 then (if x14 < (x0.length : Int) then (if x14 < (x1.length : Int) then (if ((qp x0 x14).length : Int) = ((qp x1 x14).length : Int) then (qG.l1 k x0 x1 x14 x13 x14 ((qp x0 x14).length : Int) 0) else (some false)) else (none)) else (none)) else (none)) else (some true)
def qG.l1 : Nat → List (List (S40)) → List (List (S40)) → Int → Int → Int → Int → Int → Option (Bool)
 | 0, _, _, _, _, _, _, _ => none
 | k + 1, x0, x1, x5, x13, x14, x32, x33 => if x33 < x32 then (if 0 ≤ x5 then (if x5 < (x0.length : Int) then (if 0 ≤ x33 then (if x33 < ((qp x0 x5).length : Int) then (if x5 < (x1.length : Int) then (if x33 < ((qp x1 x5).length : Int) then (if (!(((ql (qp x0 x5) x33).f0) == ((ql (qp x1 x5) x33).f0)) || (!(((ql (qp x0 x5) x33).f1) == ((ql (qp x1 x5) x33).f1)) || (!(((ql (qp x0 x5) x33).f2) == ((ql (qp x1 x5) x33).f2))))) = true then (some false) else (qG.l1 k x0 x1 x5 x13 x14 x32 (wrap64 (x33 + 1)))) else (none)) else (none)) else (none)) else (none)) else (none)) else (none)) else (qG.l0 k x0 x1 x13 (wrap64 (x14 + 1)))
end
def qG.f (k : Nat) (l0 : List (List (S40))) (l1 : List (List (S40))) : Option (Bool) := if (l0.length : Int) = (l1.length : Int) then (qG.l0 k l0 l1 (l0.length : Int) 0) else (some false)
theorem qG.zW : ∀ k, (∀ y0 y1 y2 y3, LeO (qG.l0 k y0 y1 y2 y3) (qG.l0 (k + 1) y0 y1 y2 y3)) ∧ (∀ y0 y1 y2 y3 y4 y5 y6, LeO (qG.l1 k y0 y1 y2 y3 y4 y5 y6) (qG.l1 (k + 1) y0 y1 y2 y3 y4 y5 y6))
 | 0 => ⟨fun _ _ _ _ r h => by simp [qG.l0] at h, fun _ _ _ _ _ _ _ r h => by simp [qG.l1] at h⟩
 | k + 1 => by
  obtain ⟨ih0, ih1⟩ := qG.zW k
  refine ⟨?_, ?_⟩
  ·intro y0 y1 y2 y3
   unfold qG.l0
   repeat' first
   | (with_reducible exact ih0 _ _ _ _)
   | (with_reducible exact ih1 _ _ _ _ _ _ _)
   | (with_reducible exact LeO.refl _)
   | (with_reducible exact LeO.none _)
   | (with_reducible refine LeO.ite ?_ ?_)
   | (with_reducible refine LeO.bind ?_ (fun _ => ?_))
   | exact ih0 _ _ _ _
   | exact ih1 _ _ _ _ _ _ _
   | exact LeO.none _
   | refine LeO.ite ?_ ?_
   | refine LeO.bind ?_ (fun _ => ?_)
  ·intro y0 y1 y2 y3 y4 y5 y6
   unfold qG.l1
   repeat' first
   | (with_reducible exact ih0 _ _ _ _)
   | (with_reducible exact ih1 _ _ _ _ _ _ _)
   | (with_reducible exact LeO.refl _)
   | (with_reducible exact LeO.none _)
   | (with_reducible refine LeO.ite ?_ ?_)
   | (with_reducible refine LeO.bind ?_ (fun _ => ?_))
   | exact ih0 _ _ _ _
   | exact ih1 _ _ _ _ _ _ _
   | exact LeO.none _
   | refine LeO.ite ?_ ?_
   | refine LeO.bind ?_ (fun _ => ?_)
theorem qG.mono : ∀ a0 a1 k, LeO (qG.f k a0 a1) (qG.f (k + 1) a0 a1) := by
 intro a0 a1 k
 obtain ⟨ih0, ih1⟩ := qG.zW k
 unfold qG.f
 repeat' first
   | (with_reducible exact ih0 _ _ _ _)
   | (with_reducible exact ih1 _ _ _ _ _ _ _)
   | (with_reducible exact LeO.refl _)
   | (with_reducible exact LeO.none _)
   | (with_reducible refine LeO.ite ?_ ?_)
   | (with_reducible refine LeO.bind ?_ (fun _ => ?_))
   | exact ih0 _ _ _ _
   | exact ih1 _ _ _ _ _ _ _
   | exact LeO.none _
   | refine LeO.ite ?_ ?_
   | refine LeO.bind ?_ (fun _ => ?_)
set_option maxHeartbeats 8000000 in
set_option maxRecDepth 100000 in
theorem qG.calls (k : Nat) (A0 : Option Addr) (c0 : Nat) (l0 : List (List (S40))) (A1 : Option Addr) (c1 : Nat) (l1 : List (List (S40))) (r : Bool) (w : World) (hr0 : Kd.C (Kd.slice 40 k40) w A0 l0.length l0) (hc0 : l0.length ≤ c0) (hr1 : Kd.C (Kd.slice 40 k40) w A1 l1.length l1) (hc1 : l1.length ≤ c1) (h : qG.f k l0 l1 = some r) :
  Calls Try.prog 15 #[.slice A0 l0.length c0, .slice A1 l1.length c1] w fun e w' => e = .returned (.bool r) ∧ qE w w' := by
 have hu40 := Try.underlying40
 have HR0 := qa.mk hr0
 have HC0 := qa.mk hc0
 clear hr0 hc0
 have HR1 := qa.mk hr1
 have HC1 := qa.mk hc1
 clear hr1 hc1
 have H : (if (l0.length : Int) = (l1.length : Int) then (qG.l0 k l0 l1 (l0.length : Int) 0) else (some false)) = some r := h
 clear h
 by_cases c3 : (l0.length : Int) = (l1.length : Int)
 case neg =>
  rw [if_neg c3] at H
  have c3b0 : ((l0.length : Int) == (l1.length : Int)) = false := beq_eq_false_iff_ne.mpr c3
  have c3b1 : ((l0.length : Int) != (l1.length : Int)) = true := bne_iff_ne.mpr c3
  have c3b2 : (l0.length == l1.length) = false := by first | simpa using c3 | (simp at c3 ⊢; omega)
  obtain rfl := Option.some.inj H
  go_enter Try.func15, Try.ntmps15
  go_wp2
  repeat (go_quiet (fail); try go_wp2)
  go_ret
  exact ⟨by first | rfl | (simp; done) | (simp [*]; done), by repeat (first | exact qE.refl _ | apply qE.step)⟩
 rw [if_pos c3] at H
 have c3b0 : ((l0.length : Int) == (l1.length : Int)) = true := beq_iff_eq.mpr c3
 have c3b1 : ((l0.length : Int) != (l1.length : Int)) = false := bne_eq_false_iff_eq.mpr c3
 have c3b2 : (l0.length == l1.length) = true := by first | simpa using c3 | (simp at c3 ⊢; omega)
 clear c3
 have H' := qa.mk H
 clear H
 go_enter Try.func15, Try.ntmps15
 go_wp2
 repeat (go_quiet (fail); try go_wp2)
 go_loopg [14] k (fun kq v14 w' => ∃ (x14_1 : Int), v14 = .int .i64 x14_1 ∧ qa (qG.l0 kq l0 l1 (l0.length : Int) x14_1 = some r) ∧ qa (kq ≤ k) ∧ qE w w')
 case atStart => exact ⟨(0), (by first | rfl | (simp; done) | (simp [*]; done)), H', ⟨Nat.le_refl _⟩, by repeat (first | exact qE.refl _ | apply qE.step)⟩
 case round =>
  clear H'
  try clear c1
  try clear p2
  try clear c3
  try clear c3b0
  try clear c3b1
  try clear c3b2
  obtain ⟨x14_1, rfl, HA, HK1, ⟨m1, rfl⟩⟩ := hrel
  cases gk with
  | zero => exact absurd HA.out (by simp [qG.l0])
  | succ k1 =>
   have H := HA.out
   clear HA
   simp only [qG.l0] at H
   by_cases c4 : x14_1 < (l0.length : Int)
   case neg =>
    rw [if_neg c4] at H
    have c4b0 : decide (x14_1 < (l0.length : Int)) = false := decide_eq_false c4
    clear c4
    obtain rfl := Option.some.inj H
    go_wp2
    repeat (go_quiet (fail); try go_wp2)
    go_ret
    exact ⟨by first | rfl | (simp; done) | (simp [*]; done), by repeat (first | exact qE.refl _ | apply qE.step)⟩
   rw [if_pos c4] at H
   have c4b0 : decide (x14_1 < (l0.length : Int)) = true := decide_eq_true c4
   clear c4
   by_cases c5 : 0 ≤ x14_1
   case neg =>
    rw [if_neg c5] at H
    exact absurd H (by simp)
   rw [if_pos c5] at H
   have c5b0 : decide (0 ≤ x14_1) = true := decide_eq_true c5
   clear c5
   by_cases c6 : x14_1 < (l0.length : Int)
   case neg =>
    rw [if_neg c6] at H
    exact absurd H (by simp)
   rw [if_pos c6] at H
   have c6b0 : decide (x14_1 < (l0.length : Int)) = true := decide_eq_true c6
   clear c6
   by_cases c7 : x14_1 < (l1.length : Int)
   case neg =>
    rw [if_neg c7] at H
    exact absurd H (by simp)
   rw [if_pos c7] at H
   have c7b0 : decide (x14_1 < (l1.length : Int)) = true := decide_eq_true c7
   clear c7
   by_cases c8 : ((qp l0 x14_1).length : Int) = ((qp l1 x14_1).length : Int)
   case neg =>
    rw [if_neg c8] at H
    have c8b0 : (((qp l0 x14_1).length : Int) == ((qp l1 x14_1).length : Int)) = false := beq_eq_false_iff_ne.mpr c8
    have c8b1 : (((qp l0 x14_1).length : Int) != ((qp l1 x14_1).length : Int)) = true := bne_iff_ne.mpr c8
    have c8b2 : ((qp l0 x14_1).length == (qp l1 x14_1).length) = false := by first | simpa using c8 | (simp at c8 ⊢; omega)
    obtain rfl := Option.some.inj H
    have p390 : 0 ≤ (x14_1 : Int) := odt
    have q390 : x14_1 < (l0.length : Int) := odt
    obtain ⟨ad390, A390_0, c390_0, e390, hx390_0, hl390_0, hi390_0⟩ := Qm HR0.out x14_1 p390 q390
    cases e390
    have HR390_0 := qa.mk hi390_0
    have HC390_0 := qa.mk hl390_0
    clear hi390_0 hl390_0
    replace p390 := eq_true p390
    replace q390 := eq_true q390
    have p391 : 0 ≤ (x14_1 : Int) := odt
    have q391 : x14_1 < (l1.length : Int) := odt
    obtain ⟨ad391, A391_0, c391_0, e391, hx391_0, hl391_0, hi391_0⟩ := Qm HR1.out x14_1 p391 q391
    cases e391
    have HR391_0 := qa.mk hi391_0
    have HC391_0 := qa.mk hl391_0
    clear hi391_0 hl391_0
    replace p391 := eq_true p391
    replace q391 := eq_true q391
    go_wp2
    repeat (go_quiet (fail); try go_wp2)
    go_ret
    exact ⟨by first | rfl | (simp; done) | (simp [*]; done), by repeat (first | exact qE.refl _ | apply qE.step)⟩
   rw [if_pos c8] at H
   have c8b0 : (((qp l0 x14_1).length : Int) == ((qp l1 x14_1).length : Int)) = true := beq_iff_eq.mpr c8
   have c8b1 : (((qp l0 x14_1).length : Int) != ((qp l1 x14_1).length : Int)) = false := bne_eq_false_iff_eq.mpr c8
   have c8b2 : ((qp l0 x14_1).length == (qp l1 x14_1).length) = true := by first | simpa using c8 | (simp at c8 ⊢; omega)
   clear c8
   have H' := qa.mk H
   clear H
   have p390 : 0 ≤ (x14_1 : Int) := odt
   have q390 : x14_1 < (l0.length : Int) := odt
   obtain ⟨ad390, A390_0, c390_0, e390, hx390_0, hl390_0, hi390_0⟩ := Qm HR0.out x14_1 p390 q390
   cases e390
   have HR390_0 := qa.mk hi390_0
   have HC390_0 := qa.mk hl390_0
   clear hi390_0 hl390_0
   replace p390 := eq_true p390
   replace q390 := eq_true q390
   have p391 : 0 ≤ (x14_1 : Int) := odt
   have q391 : x14_1 < (l1.length : Int) := odt
   obtain ⟨ad391, A391_0, c391_0, e391, hx391_0, hl391_0, hi391_0⟩ := Qm HR1.out x14_1 p391 q391
   cases e391
   have HR391_0 := qa.mk hi391_0
   have HC391_0 := qa.mk hl391_0
   clear hi391_0 hl391_0
   replace p391 := eq_true p391
   replace q391 := eq_true q391
   have p392 : 0 ≤ (x14_1 : Int) := odt
   have q392 : x14_1 < (l0.length : Int) := odt
   obtain ⟨ad392, A392_0, c392_0, e392, hx392_0, hl392_0, hi392_0⟩ := Qm HR0.out x14_1 p392 q392
   obtain rfl : ad390 = ad392 := (by injection e392)
   have HR392_0 := qa.mk hi392_0
   have HC392_0 := qa.mk hl392_0
   clear hi392_0 hl392_0
   replace p392 := eq_true p392
   replace q392 := eq_true q392
   have ea_ := Option.some.inj (hx390_0.symm.trans hx392_0)
   injection ea_ with ea_ en_ ec_
   subst ea_
   subst ec_
   clear en_
   go_wp2
   repeat (go_quiet (fail); try go_wp2)
   go_loopg [33] k1 (fun kq v33 w' => ∃ (x33_2 : Int), v33 = .int .i64 x33_2 ∧ qa (qG.l1 kq l0 l1 x14_1 (l0.length : Int) x14_1 ((qp l0 x14_1).length : Int) x33_2 = some r) ∧ qa (kq ≤ k1) ∧ qE w w')
   case atStart => exact ⟨(0), (by first | rfl | (simp; done) | (simp [*]; done)), H', ⟨Nat.le_refl _⟩, by repeat (first | exact qE.refl _ | apply qE.step)⟩
   case round =>
    clear H'
    try clear c1
    try clear p2
    try clear c3
    try clear c3b0
    try clear c3b1
    try clear c3b2
    try clear p3
    try clear q3
    try clear hx3
    try clear c4
    try clear c4b0
    try clear c5
    try clear c5b0
    try clear c6
    try clear c6b0
    try clear c7
    try clear c7b0
    try clear c8
    try clear c8b0
    try clear c8b1
    try clear c8b2
    try clear hx390_0
    try clear hx391_0
    try clear hx392_0
    try clear p2
    try clear p390
    try clear p391
    try clear p392
    try clear q390
    try clear q391
    try clear q392
    obtain ⟨x33_2, rfl, HA, HK2, ⟨m2, rfl⟩⟩ := hrel
    cases gk with
    | zero => exact absurd HA.out (by simp [qG.l1])
    | succ k2 =>
     have H := HA.out
     clear HA
     simp only [qG.l1] at H
     by_cases c9 : x33_2 < ((qp l0 x14_1).length : Int)
     case neg =>
      rw [if_neg c9] at H
      have c9b0 : decide (x33_2 < ((qp l0 x14_1).length : Int)) = false := decide_eq_false c9
      clear c9
      have H' := qa.mk H
      clear H
      go_wp2
      repeat (go_quiet (fail); try go_wp2)
      go_roundg k2
      case measure => have := HK1.out; have := HK2.out; omega
      case rel => exact ⟨(wrap64 (x14_1 + 1)), (by first | rfl | (simp; done) | (simp [*]; done)), H', ⟨by have := HK1.out; have := HK2.out; omega⟩, by repeat (first | exact qE.refl _ | apply qE.step)⟩
     rw [if_pos c9] at H
     have c9b0 : decide (x33_2 < ((qp l0 x14_1).length : Int)) = true := decide_eq_true c9
     clear c9
     by_cases c10 : 0 ≤ x14_1
     case neg =>
      rw [if_neg c10] at H
      exact absurd H (by simp)
     rw [if_pos c10] at H
     have c10b0 : decide (0 ≤ x14_1) = true := decide_eq_true c10
     clear c10
     by_cases c11 : x14_1 < (l0.length : Int)
     case neg =>
      rw [if_neg c11] at H
      exact absurd H (by simp)
     rw [if_pos c11] at H
     have c11b0 : decide (x14_1 < (l0.length : Int)) = true := decide_eq_true c11
     clear c11
     by_cases c12 : 0 ≤ x33_2
     case neg =>
      rw [if_neg c12] at H
      exact absurd H (by simp)
     rw [if_pos c12] at H
     have c12b0 : decide (0 ≤ x33_2) = true := decide_eq_true c12
     clear c12
     by_cases c13 : x33_2 < ((qp l0 x14_1).length : Int)
     case neg =>
      rw [if_neg c13] at H
      exact absurd H (by simp)
     rw [if_pos c13] at H
     have c13b0 : decide (x33_2 < ((qp l0 x14_1).length : Int)) = true := decide_eq_true c13
     clear c13
     by_cases c14 : x14_1 < (l1.length : Int)
     case neg =>
      rw [if_neg c14] at H
      exact absurd H (by simp)
     rw [if_pos c14] at H
     have c14b0 : decide (x14_1 < (l1.length : Int)) = true := decide_eq_true c14
     clear c14
     by_cases c15 : x33_2 < ((qp l1 x14_1).length : Int)
     case neg =>
      rw [if_neg c15] at H
      exact absurd H (by simp)
     rw [if_pos c15] at H
     have c15b0 : decide (x33_2 < ((qp l1 x14_1).length : Int)) = true := decide_eq_true c15
     clear c15
     by_cases c16 : (!(((ql (qp l0 x14_1) x33_2).f0) == ((ql (qp l1 x14_1) x33_2).f0)) || (!(((ql (qp l0 x14_1) x33_2).f1) == ((ql (qp l1 x14_1) x33_2).f1)) || (!(((ql (qp l0 x14_1) x33_2).f2) == ((ql (qp l1 x14_1) x33_2).f2))))) = true
     ·rw [if_pos c16] at H
      have c16b0 : (!(((ql (qp l0 x14_1) x33_2).f0) == ((ql (qp l1 x14_1) x33_2).f0)) || (!(((ql (qp l0 x14_1) x33_2).f1) == ((ql (qp l1 x14_1) x33_2).f1)) || (!(((ql (qp l0 x14_1) x33_2).f2) == ((ql (qp l1 x14_1) x33_2).f2))))) = true := c16
      clear c16
      obtain rfl := Option.some.inj H
      have p393 : 0 ≤ (x14_1 : Int) := odt
      have q393 : x14_1 < (l0.length : Int) := odt
      obtain ⟨ad393, A393_0, c393_0, e393, hx393_0, hl393_0, hi393_0⟩ := Qm HR0.out x14_1 p393 q393
      obtain rfl : ad390 = ad393 := (by injection e393)
      have HR393_0 := qa.mk hi393_0
      have HC393_0 := qa.mk hl393_0
      clear hi393_0 hl393_0
      replace p393 := eq_true p393
      replace q393 := eq_true q393
      have p394 : 0 ≤ (x33_2 : Int) := odt
      have q394 : x33_2 < ((qp l0 x14_1).length : Int) := odt
      obtain ⟨ad394, e394, hx394_0, hx394_1, hx394_2⟩ := jh HR393_0.out x33_2 p394 q394
      cases e394
      replace p394 := eq_true p394
      replace q394 := eq_true q394
      have p395 : 0 ≤ (x14_1 : Int) := odt
      have q395 : x14_1 < (l1.length : Int) := odt
      obtain ⟨ad395, A395_0, c395_0, e395, hx395_0, hl395_0, hi395_0⟩ := Qm HR1.out x14_1 p395 q395
      obtain rfl : ad391 = ad395 := (by injection e395)
      have HR395_0 := qa.mk hi395_0
      have HC395_0 := qa.mk hl395_0
      clear hi395_0 hl395_0
      replace p395 := eq_true p395
      replace q395 := eq_true q395
      have p396 : 0 ≤ (x33_2 : Int) := odt
      have q396 : x33_2 < ((qp l1 x14_1).length : Int) := odt
      obtain ⟨ad396, e396, hx396_0, hx396_1, hx396_2⟩ := jh HR395_0.out x33_2 p396 q396
      cases e396
      replace p396 := eq_true p396
      replace q396 := eq_true q396
      go_wp2
      repeat (go_quiet (fail); try go_wp2)
      go_ret
      exact ⟨by first | rfl | (simp; done) | (simp [*]; done), by repeat (first | exact qE.refl _ | apply qE.step)⟩
     rw [if_neg c16] at H
     have c16b0 : (!(((ql (qp l0 x14_1) x33_2).f0) == ((ql (qp l1 x14_1) x33_2).f0)) || (!(((ql (qp l0 x14_1) x33_2).f1) == ((ql (qp l1 x14_1) x33_2).f1)) || (!(((ql (qp l0 x14_1) x33_2).f2) == ((ql (qp l1 x14_1) x33_2).f2))))) = false := by simpa using c16
     clear c16
     have H' := qa.mk H
     clear H
     have p393 : 0 ≤ (x14_1 : Int) := odt
     have q393 : x14_1 < (l0.length : Int) := odt
     obtain ⟨ad393, A393_0, c393_0, e393, hx393_0, hl393_0, hi393_0⟩ := Qm HR0.out x14_1 p393 q393
     obtain rfl : ad390 = ad393 := (by injection e393)
     have HR393_0 := qa.mk hi393_0
     have HC393_0 := qa.mk hl393_0
     clear hi393_0 hl393_0
     replace p393 := eq_true p393
     replace q393 := eq_true q393
     have p394 : 0 ≤ (x33_2 : Int) := odt
     have q394 : x33_2 < ((qp l0 x14_1).length : Int) := odt
     obtain ⟨ad394, e394, hx394_0, hx394_1, hx394_2⟩ := jh HR393_0.out x33_2 p394 q394
     cases e394
     replace p394 := eq_true p394
     replace q394 := eq_true q394
     have p395 : 0 ≤ (x14_1 : Int) := odt
     have q395 : x14_1 < (l1.length : Int) := odt
     obtain ⟨ad395, A395_0, c395_0, e395, hx395_0, hl395_0, hi395_0⟩ := Qm HR1.out x14_1 p395 q395
     obtain rfl : ad391 = ad395 := (by injection e395)
     have HR395_0 := qa.mk hi395_0
     have HC395_0 := qa.mk hl395_0
     clear hi395_0 hl395_0
     replace p395 := eq_true p395
     replace q395 := eq_true q395
     have p396 : 0 ≤ (x33_2 : Int) := odt
     have q396 : x33_2 < ((qp l1 x14_1).length : Int) := odt
     obtain ⟨ad396, e396, hx396_0, hx396_1, hx396_2⟩ := jh HR395_0.out x33_2 p396 q396
     cases e396
     replace p396 := eq_true p396
     replace q396 := eq_true q396
     go_wp2
     repeat (go_quiet (fail); try go_wp2)
     go_roundg k2
     case measure => have := HK1.out; have := HK2.out; omega
     case rel => exact ⟨(wrap64 (x33_2 + 1)), (by first | rfl | (simp; done) | (simp [*]; done)), H', ⟨by have := HK1.out; have := HK2.out; omega⟩, by repeat (first | exact qE.refl _ | apply qE.step)⟩
end Go.Proofs.Ytmlkpadlafjfeaa.P
