import Derived.Test.YtmlkpadlafjfeaaPx90
namespace Go.Proofs.Ytmlkpadlafjfeaa.P
open Go.RowKit Go.Proofs.YtmlkpadlafjfeaaW.PrintWords Go.Proofs.YtmlkpadlafjfeaaW.PrintLast Go.Proofs.YtmlkpadlafjfeaaW.PrintMore
attribute [local go_sem] zH zK zU zT zB zC zJ zI
set_option linter.unusedVariables false
set_option linter.unusedSimpArgs false
mutual
def qi.l0 : Nat → List (List (S40)) → Int → List (List (S40)) → Int → Int → Option (Int)
 | 0, _, _, _, _, _ => none
 | k + 1, x0, x3, x14, x15, x16 => if x16 < x15 then (if 0 ≤ x16 then (if x16 < (x14.length : Int) then (qi.l0 k x0 (wrap64 (x3 + ((qp x14 x16).length : Int))) x14 x15 (wrap64 (x16 + 1))) else (none)) else (none)) else (if (x0.length : Int) > 256 then (qi.j1 k x0 true) else (qi.j1 k x0 (decide (x3 > 4096))))
def qi.j1 : Nat → List (List (S40)) → Bool → Option (Int)
 | 0, _, _ => none
 | k + 1, x0, x31 => if x31 = true then (some 63) else (qi.l1 k x0 x0 (x0.length : Int) 0)
def qi.l1 : Nat → List (List (S40)) → List (List (S40)) → Int → Int → Option (Int)
 | 0, _, _, _, _ => none
 | k + 1, x0, x32, x33, x34 => if x34 < x33 then (if 0 ≤ x34 then (if x34 < (x32.length : Int) then (qi.l2 k x0 x32 x33 x34 (qp x32 x34) ((qp x32 x34).length : Int) 0) else (none)) else (none)) else (qi.l3 k x0 (x0.length : Int) 0)
def qi.l2 : Nat → List (List (S40)) → List (List (S40)) → Int → Int → List (S40) → Int → Int → Option (Int)
 | 0, _, _, _, _, _, _, _ => none
 | k + 1, x0, x32, x33, x34, x38, x39, x40 => if x40 < x39 then (if 0 ≤ x40 then (if x40 < (x38.length : Int) then (if ((ql x38 x40).f2) < 1 then (some 61) else (if ((ql x38 x40).f2) > 3 then (some 61) else (qi.l2 k x0 x32 x33 x34 x38 x39 (wrap64 (x40 + 1))))) else (none)) else (none)) else (qi.l1 k x0 x32 x33 (wrap64 (x34 + 1)))
def qi.l3 : Nat → List (List (S40)) → Int → Int → Option (Int)
 | 0, _, _, _ => none
 | k + 1, x54, x55, x56 => if x56 < x55 then (if 0 ≤ x56 then (if x56 < (x54.length : Int) then (qi.l4 k x54 x55 x56 (qp x54 x56) ((qp x54 x56).length : Int) 0) else (none)) else (none)) else (some 0)
def qi.l4 : Nat → List (List (S40)) → Int → Int → List (S40) → Int → Int → Option (Int)
 | 0, _, _, _, _, _, _ => none
 | k + 1, x54, x55, x56, x60, x61, x62 => if x62 < x61 then (if 0 ≤ x62 then (if x62 < (x60.length : Int) then ((qM.f ((ql x60 x62).f0)).bind fun t246 => (if t246 = true then ((qM.f ((ql x60 x62).f1)).bind fun t247 => (if t247 = true then (qi.l4 k x54 x55 x56 x60 x61 (wrap64 (x62 + 1))) else (some 64))) else (some 64))) else (none)) else (none)) else (qi.l3 k x54 x55 (wrap64 (x56 + 1)))
end
def qi.f (k : Nat) (l0 : List (List (S40))) : Option (Int) := qi.l0 k l0 0 l0 (l0.length : Int) 0
theorem qi.zW : ∀ k, (∀ y0 y1 y2 y3 y4, LeO (qi.l0 k y0 y1 y2 y3 y4) (qi.l0 (k + 1) y0 y1 y2 y3 y4)) ∧ (∀ y0 y1, LeO (qi.j1 k y0 y1) (qi.j1 (k + 1) y0 y1)) ∧ (∀ y0 y1 y2 y3, LeO (qi.l1 k y0 y1 y2 y3) (qi.l1 (k + 1) y0 y1 y2 y3)) ∧ (∀ y0 y1 y2 y3 y4 y5 y6, LeO (qi.l2 k y0 y1 y2 y3 y4 y5 y6) (qi.l2 (k + 1) y0 y1 y2 y3 y4 y5 y6)) ∧ (∀ y0 y1 y2, LeO (qi.l3 k y0 y1 y2) (qi.l3 (k + 1) y0 y1 y2)) ∧ (∀ y0 y1 y2 y3 y4 y5, LeO (qi.l4 k y0 y1 y2 y3 y4 y5) (qi.l4 (k + 1) y0 y1 y2 y3 y4 y5))
 | 0 => ⟨fun _ _ _ _ _ r h => by simp [qi.l0] at h, fun _ _ r h => by simp [qi.j1] at h, fun _ _ _ _ r h => by simp [qi.l1] at h, fun _ _ _ _ _ _ _ r h => by simp [qi.l2] at h, fun _ _ _ r h => by simp [qi.l3] at h, fun _ _ _ _ _ _ r h => by simp [qi.l4] at h⟩
 | k + 1 => by
  obtain ⟨ih0, ih1, ih2, ih3, ih4, ih5⟩ := qi.zW k
  refine ⟨?_, ?_, ?_, ?_, ?_, ?_⟩
  ·intro y0 y1 y2 y3 y4
   unfold qi.l0
   repeat' first
   | (with_reducible exact ih0 _ _ _ _ _)
   | (with_reducible exact ih1 _ _)
   | (with_reducible exact ih2 _ _ _ _)
   | (with_reducible exact ih3 _ _ _ _ _ _ _)
   | (with_reducible exact ih4 _ _ _)
   | (with_reducible exact ih5 _ _ _ _ _ _)
   | (with_reducible exact LeO.refl _)
   | (with_reducible exact LeO.none _)
   | (with_reducible refine LeO.ite ?_ ?_)
   | (with_reducible refine LeO.bind ?_ (fun _ => ?_))
   | exact ih0 _ _ _ _ _
   | exact ih1 _ _
   | exact ih2 _ _ _ _
   | exact ih3 _ _ _ _ _ _ _
   | exact ih4 _ _ _
   | exact ih5 _ _ _ _ _ _
   | exact LeO.none _
   | refine LeO.ite ?_ ?_
   | refine LeO.bind ?_ (fun _ => ?_)
  ·intro y0 y1
   unfold qi.j1
   repeat' first
   | (with_reducible exact ih0 _ _ _ _ _)
   | (with_reducible exact ih1 _ _)
   | (with_reducible exact ih2 _ _ _ _)
   | (with_reducible exact ih3 _ _ _ _ _ _ _)
   | (with_reducible exact ih4 _ _ _)
   | (with_reducible exact ih5 _ _ _ _ _ _)
   | (with_reducible exact LeO.refl _)
   | (with_reducible exact LeO.none _)
   | (with_reducible refine LeO.ite ?_ ?_)
   | (with_reducible refine LeO.bind ?_ (fun _ => ?_))
   | exact ih0 _ _ _ _ _
   | exact ih1 _ _
   | exact ih2 _ _ _ _
   | exact ih3 _ _ _ _ _ _ _
   | exact ih4 _ _ _
   | exact ih5 _ _ _ _ _ _
   | exact LeO.none _
   | refine LeO.ite ?_ ?_
   | refine LeO.bind ?_ (fun _ => ?_)
  ·intro y0 y1 y2 y3
   unfold qi.l1
   repeat' first
   | (with_reducible exact ih0 _ _ _ _ _)
   | (with_reducible exact ih1 _ _)
   | (with_reducible exact ih2 _ _ _ _)
   | (with_reducible exact ih3 _ _ _ _ _ _ _)
   | (with_reducible exact ih4 _ _ _)
   | (with_reducible exact ih5 _ _ _ _ _ _)
   | (with_reducible exact LeO.refl _)
   | (with_reducible exact LeO.none _)
   | (with_reducible refine LeO.ite ?_ ?_)
   | (with_reducible refine LeO.bind ?_ (fun _ => ?_))
   | exact ih0 _ _ _ _ _
   | exact ih1 _ _
   | exact ih2 _ _ _ _
   | exact ih3 _ _ _ _ _ _ _
   | exact ih4 _ _ _
   | exact ih5 _ _ _ _ _ _
   | exact LeO.none _
   | refine LeO.ite ?_ ?_
   | refine LeO.bind ?_ (fun _ => ?_)
  ·intro y0 y1 y2 y3 y4 y5 y6
   unfold qi.l2
   repeat' first
   | (with_reducible exact ih0 _ _ _ _ _)
   | (with_reducible exact ih1 _ _)
   | (with_reducible exact ih2 _ _ _ _)
   | (with_reducible exact ih3 _ _ _ _ _ _ _)
   | (with_reducible exact ih4 _ _ _)
   | (with_reducible exact ih5 _ _ _ _ _ _)
   | (with_reducible exact LeO.refl _)
   | (with_reducible exact LeO.none _)
   | (with_reducible refine LeO.ite ?_ ?_)
   | (with_reducible refine LeO.bind ?_ (fun _ => ?_))
   | exact ih0 _ _ _ _ _
   | exact ih1 _ _
   | exact ih2 _ _ _ _
   | exact ih3 _ _ _ _ _ _ _
   | exact ih4 _ _ _
   | exact ih5 _ _ _ _ _ _
   | exact LeO.none _
   | refine LeO.ite ?_ ?_
   | refine LeO.bind ?_ (fun _ => ?_)
  ·intro y0 y1 y2
   unfold qi.l3
   repeat' first
   | (with_reducible exact ih0 _ _ _ _ _)
   | (with_reducible exact ih1 _ _)
   | (with_reducible exact ih2 _ _ _ _)
   | (with_reducible exact ih3 _ _ _ _ _ _ _)
   | (with_reducible exact ih4 _ _ _)
   | (with_reducible exact ih5 _ _ _ _ _ _)
   | (with_reducible exact LeO.refl _)
   | (with_reducible exact LeO.none _)
   | (with_reducible refine LeO.ite ?_ ?_)
   | (with_reducible refine LeO.bind ?_ (fun _ => ?_))
   | exact ih0 _ _ _ _ _
   | exact ih1 _ _
   | exact ih2 _ _ _ _
   | exact ih3 _ _ _ _ _ _ _
   | exact ih4 _ _ _
   | exact ih5 _ _ _ _ _ _
   | exact LeO.none _
   | refine LeO.ite ?_ ?_
   | refine LeO.bind ?_ (fun _ => ?_)
  ·intro y0 y1 y2 y3 y4 y5
   unfold qi.l4
   repeat' first
   | (with_reducible exact ih0 _ _ _ _ _)
   | (with_reducible exact ih1 _ _)
   | (with_reducible exact ih2 _ _ _ _)
   | (with_reducible exact ih3 _ _ _ _ _ _ _)
   | (with_reducible exact ih4 _ _ _)
   | (with_reducible exact ih5 _ _ _ _ _ _)
   | (with_reducible exact LeO.refl _)
   | (with_reducible exact LeO.none _)
   | (with_reducible refine LeO.ite ?_ ?_)
   | (with_reducible refine LeO.bind ?_ (fun _ => ?_))
   | exact ih0 _ _ _ _ _
   | exact ih1 _ _
   | exact ih2 _ _ _ _
   | exact ih3 _ _ _ _ _ _ _
   | exact ih4 _ _ _
   | exact ih5 _ _ _ _ _ _
   | exact LeO.none _
   | refine LeO.ite ?_ ?_
   | refine LeO.bind ?_ (fun _ => ?_)
theorem qi.mono : ∀ a0 k, LeO (qi.f k a0) (qi.f (k + 1) a0) := by
 intro a0 k
 obtain ⟨ih0, ih1, ih2, ih3, ih4, ih5⟩ := qi.zW k
 unfold qi.f
 repeat' first
   | (with_reducible exact ih0 _ _ _ _ _)
   | (with_reducible exact ih1 _ _)
   | (with_reducible exact ih2 _ _ _ _)
   | (with_reducible exact ih3 _ _ _ _ _ _ _)
   | (with_reducible exact ih4 _ _ _)
   | (with_reducible exact ih5 _ _ _ _ _ _)
   | (with_reducible exact LeO.refl _)
   | (with_reducible exact LeO.none _)
   | (with_reducible refine LeO.ite ?_ ?_)
   | (with_reducible refine LeO.bind ?_ (fun _ => ?_))
   | exact ih0 _ _ _ _ _
   | exact ih1 _ _
   | exact ih2 _ _ _ _
   | exact ih3 _ _ _ _ _ _ _
   | exact ih4 _ _ _
   | exact ih5 _ _ _ _ _ _
   | exact LeO.none _
   | refine LeO.ite ?_ ?_
   | refine LeO.bind ?_ (fun _ => ?_)
set_option maxHeartbeats 8000000 in
set_option maxRecDepth 100000 in
theorem qi.calls (k : Nat) (A0 : Option Addr) (c0 : Nat) (l0 : List (List (S40))) (r : Int) (w : World) (hr0 : Kd.C (Kd.slice 40 k40) w A0 l0.length l0) (hc0 : l0.length ≤ c0) (h : qi.f k l0 = some r) :
  Calls Try.prog 17 #[.slice A0 l0.length c0] w fun e w' => e = .returned (.int .i64 r) ∧ Below w.heap.size w w' := by
 have hu40 := Try.underlying40
 have HR0 := qa.mk hr0
 have HC0 := qa.mk hc0
 clear hr0 hc0
 have HB := qa.mk (Below.refl w.heap.size w)
 have H : (qi.l0 k l0 0 l0 (l0.length : Int) 0) = some r := h
 clear h
 have H' := qa.mk H
 clear H
 go_enter Try.func17, Try.ntmps17
 go_wp2
 go_loopg [3, 16] k (fun kq v3 v16 w' => ∃ (x3_1 : Int) (x16_1 : Int), v3 = .int .i64 x3_1 ∧ v16 = .int .i64 x16_1 ∧ qa (qi.l0 kq l0 x3_1 l0 (l0.length : Int) x16_1 = some r) ∧ qa (kq ≤ k) ∧ qa (Below w.heap.size w w'))
 case atStart => exact ⟨(0), (0), (by first | rfl | (simp; done) | (simp [*]; done)), (by first | rfl | (simp; done) | (simp [*]; done)), H', ⟨Nat.le_refl _⟩, ⟨bq HB⟩⟩
 case round =>
  clear H'
  try clear c1
  obtain ⟨x3_1, x16_1, rfl, rfl, HA, HK1, HB⟩ := hrel
  cases gk with
  | zero => exact absurd HA.out (by simp [qi.l0])
  | succ k1 =>
   have H := HA.out
   clear HA
   simp only [qi.l0] at H
   by_cases c2 : x16_1 < (l0.length : Int)
   ·rw [if_pos c2] at H
    have c2b0 : decide (x16_1 < (l0.length : Int)) = true := decide_eq_true c2
    clear c2
    by_cases c3 : 0 ≤ x16_1
    case neg =>
     rw [if_neg c3] at H
     exact absurd H (by simp)
    rw [if_pos c3] at H
    have c3b0 : decide (0 ≤ x16_1) = true := decide_eq_true c3
    clear c3
    by_cases c4 : x16_1 < (l0.length : Int)
    case neg =>
     rw [if_neg c4] at H
     exact absurd H (by simp)
    rw [if_pos c4] at H
    have c4b0 : decide (x16_1 < (l0.length : Int)) = true := decide_eq_true c4
    clear c4
    have H' := qa.mk H
    clear H
    have p239 : 0 ≤ (x16_1 : Int) := odt
    have q239 : x16_1 < (l0.length : Int) := odt
    obtain ⟨ad239, A239_0, c239_0, e239, hx239_0, hl239_0, hi239_0⟩ := Qm HR0.out x16_1 p239 q239
    cases e239
    replace hx239_0 := (HB.out.cell (World.block_lt_of_cell? w _ hx239_0)).trans hx239_0
    have HR239_0 := qa.mk hi239_0
    have HC239_0 := qa.mk hl239_0
    clear hi239_0 hl239_0
    replace p239 := eq_true p239
    replace q239 := eq_true q239
    go_wp2
    go_roundg k1
    case measure => have := HK1.out; omega
    case rel => exact ⟨(wrap64 (x3_1 + ((qp l0 x16_1).length : Int))), (wrap64 (x16_1 + 1)), (by first | rfl | (simp; done) | (simp [*]; done)), (by first | rfl | (simp; done) | (simp [*]; done)), H', ⟨by have := HK1.out; omega⟩, ⟨bq HB⟩⟩
   rw [if_neg c2] at H
   have c2b0 : decide (x16_1 < (l0.length : Int)) = false := decide_eq_false c2
   clear c2
   have HC5 := qa.mk H
   clear H
   go_upto_region 7 with (fail)
   go_cut [31] (fun v31 wc => ∃ (kq : Nat) (x31_4 : Bool), v31 = .bool x31_4 ∧ qa (qi.j1 kq l0 x31_4 = some r) ∧ qa (kq ≤ k1) ∧ qa (Below w.heap.size w wc))
   case first =>
    have H := HC5.out
    clear HC5
    by_cases c6 : (l0.length : Int) > 256
    ·rw [if_pos c6] at H
     have c6b0 : decide (256 < (l0.length : Int)) = true := decide_eq_true c6
     have c6b1 : decide (256 < l0.length) = true := decide_eq_true (by omega)
     clear c6
     (first | rw [c6b0] | (simp only [qz, qA]; rw [c6b0]) | skip)
     have H' := qa.mk H
     clear H
     go_wp2
     go_meet
     case rel => exact ⟨_, (true), (by first | rfl | (simp; done) | (simp [*]; done)), H', ⟨by have := HK1.out; first | omega | exact Nat.le_refl _⟩, ⟨bq HB⟩⟩
    rw [if_neg c6] at H
    have c6b0 : decide (256 < (l0.length : Int)) = false := decide_eq_false c6
    have c6b1 : decide (256 < l0.length) = false := decide_eq_false (by omega)
    clear c6
    (first | rw [c6b0] | (simp only [qz, qA]; rw [c6b0]) | skip)
    have H' := qa.mk H
    clear H
    go_wp2
    go_meet
    case rel => exact ⟨_, (decide (x3_1 > 4096)), (by first | rfl | (simp; done) | (simp [*]; done)), H', ⟨by have := HK1.out; first | omega | exact Nat.le_refl _⟩, ⟨bq HB⟩⟩
   case rest =>
    clear HC5
    try clear c1
    try clear c2
    try clear c2b0
    try clear p2
    try clear q2
    try clear hx2
    try clear c3
    try clear c3b0
    try clear c4
    try clear c4b0
    try clear c6
    try clear c6b0
    try clear c6b1
    try clear p6
    try clear hx239_0
    try clear p239
    try clear q239
    obtain ⟨kq, x31_4, rfl, HA, HJ4, HB⟩ := hcut
    cases kq with
    | zero => exact absurd HA.out (by simp [qi.j1])
    | succ kj4 =>
     have H := HA.out
     clear HA
     simp only [qi.j1] at H
     by_cases c7 : x31_4 = true
     ·subst c7
      have H1 : (some 63) = some r := by rw [if_pos rfl] at H; exact H
      clear H
      have H := H1
      clear H1
      obtain rfl := Option.some.inj H
      go_wp2
      go_ret
      exact ⟨by first | rfl | (simp [qR, qU] <;> rfl) | (simp [*, qR, qU] <;> rfl), bq HB⟩
     replace c7 := Bool.eq_false_iff.mpr c7
     subst c7
     have H1 : (qi.l1 kj4 l0 l0 (l0.length : Int) 0) = some r := by rw [if_neg (show ¬ (false = true) by decide)] at H; exact H
     clear H
     have H := H1
     clear H1
     have H' := qa.mk H
     clear H
     go_wp2
     go_loopg [34] kj4 (fun kq v34 w' => ∃ (x34_3 : Int), v34 = .int .i64 x34_3 ∧ qa (qi.l1 kq l0 l0 (l0.length : Int) x34_3 = some r) ∧ qa (kq ≤ kj4) ∧ qa (Below w.heap.size w w'))
     case atStart => exact ⟨(0), (by first | rfl | (simp; done) | (simp [*]; done)), H', ⟨Nat.le_refl _⟩, ⟨bq HB⟩⟩
     case round =>
      clear H'
      try clear c1
      try clear c2
      try clear c2b0
      try clear p2
      try clear q2
      try clear hx2
      try clear c3
      try clear c3b0
      try clear c4
      try clear c4b0
      try clear c6
      try clear c6b0
      try clear c6b1
      try clear p6
      try clear c7
      try clear hx239_0
      try clear p2
      try clear p239
      try clear p6
      try clear q2
      try clear q239
      obtain ⟨x34_3, rfl, HA, HK3, HB⟩ := hrel
      cases gk with
      | zero => exact absurd HA.out (by simp [qi.l1])
      | succ k3 =>
       have H := HA.out
       clear HA
       simp only [qi.l1] at H
       by_cases c8 : x34_3 < (l0.length : Int)
       ·rw [if_pos c8] at H
        have c8b0 : decide (x34_3 < (l0.length : Int)) = true := decide_eq_true c8
        clear c8
        by_cases c9 : 0 ≤ x34_3
        case neg =>
         rw [if_neg c9] at H
         exact absurd H (by simp)
        rw [if_pos c9] at H
        have c9b0 : decide (0 ≤ x34_3) = true := decide_eq_true c9
        clear c9
        by_cases c10 : x34_3 < (l0.length : Int)
        case neg =>
         rw [if_neg c10] at H
         exact absurd H (by simp)
        rw [if_pos c10] at H
        have c10b0 : decide (x34_3 < (l0.length : Int)) = true := decide_eq_true c10
        clear c10
        have H' := qa.mk H
        clear H
        have p240 : 0 ≤ (x34_3 : Int) := odt
        have q240 : x34_3 < (l0.length : Int) := odt
        obtain ⟨ad240, A240_0, c240_0, e240, hx240_0, hl240_0, hi240_0⟩ := Qm HR0.out x34_3 p240 q240
        cases e240
        replace hx240_0 := (HB.out.cell (World.block_lt_of_cell? w _ hx240_0)).trans hx240_0
        have HR240_0 := qa.mk hi240_0
        have HC240_0 := qa.mk hl240_0
        clear hi240_0 hl240_0
        replace p240 := eq_true p240
        replace q240 := eq_true q240
        go_wp2
        go_loopg [40] k3 (fun kq v40 w' => ∃ (x40_4 : Int), v40 = .int .i64 x40_4 ∧ qa (qi.l2 kq l0 l0 (l0.length : Int) x34_3 (qp l0 x34_3) ((qp l0 x34_3).length : Int) x40_4 = some r) ∧ qa (kq ≤ k3) ∧ qa (Below w.heap.size w w'))
        case atStart => exact ⟨(0), (by first | rfl | (simp; done) | (simp [*]; done)), H', ⟨Nat.le_refl _⟩, ⟨bq HB⟩⟩
        case round =>
         clear H'
         try clear c1
         try clear c2
         try clear c2b0
         try clear p2
         try clear q2
         try clear hx2
         try clear c3
         try clear c3b0
         try clear c4
         try clear c4b0
         try clear c6
         try clear c6b0
         try clear c6b1
         try clear p6
         try clear c7
         try clear c8
         try clear c8b0
         try clear c9
         try clear c9b0
         try clear c10
         try clear c10b0
         try clear hx239_0
         try clear hx240_0
         try clear p2
         try clear p239
         try clear p240
         try clear p6
         try clear q2
         try clear q239
         try clear q240
         obtain ⟨x40_4, rfl, HA, HK4, HB⟩ := hrel
         cases gk with
         | zero => exact absurd HA.out (by simp [qi.l2])
         | succ k4 =>
          have H := HA.out
          clear HA
          simp only [qi.l2] at H
          by_cases c11 : x40_4 < ((qp l0 x34_3).length : Int)
          case neg =>
           rw [if_neg c11] at H
           have c11b0 : decide (x40_4 < ((qp l0 x34_3).length : Int)) = false := decide_eq_false c11
           clear c11
           have H' := qa.mk H
           clear H
           go_wp2
           go_roundg k4
           case measure => have := HK1.out; have := HJ4.out; have := HK3.out; have := HK4.out; omega
           case rel => exact ⟨(wrap64 (x34_3 + 1)), (by first | rfl | (simp; done) | (simp [*]; done)), H', ⟨by have := HK1.out; have := HJ4.out; have := HK3.out; have := HK4.out; omega⟩, ⟨bq HB⟩⟩
          rw [if_pos c11] at H
          have c11b0 : decide (x40_4 < ((qp l0 x34_3).length : Int)) = true := decide_eq_true c11
          clear c11
          by_cases c12 : 0 ≤ x40_4
          case neg =>
           rw [if_neg c12] at H
           exact absurd H (by simp)
          rw [if_pos c12] at H
          have c12b0 : decide (0 ≤ x40_4) = true := decide_eq_true c12
          clear c12
          by_cases c13 : x40_4 < ((qp l0 x34_3).length : Int)
          case neg =>
           rw [if_neg c13] at H
           exact absurd H (by simp)
          rw [if_pos c13] at H
          have c13b0 : decide (x40_4 < ((qp l0 x34_3).length : Int)) = true := decide_eq_true c13
          clear c13
          by_cases c14 : ((ql (qp l0 x34_3) x40_4).f2) < 1
          ·rw [if_pos c14] at H
           have c14b0 : decide (((ql (qp l0 x34_3) x40_4).f2) < 1) = true := decide_eq_true c14
           clear c14
           obtain rfl := Option.some.inj H
           have p241 : 0 ≤ (x40_4 : Int) := odt
           have q241 : x40_4 < ((qp l0 x34_3).length : Int) := odt
           obtain ⟨ad241, e241, hx241_0, hx241_1, hx241_2⟩ := jh HR240_0.out x40_4 p241 q241
           cases e241
           replace hx241_0 := (HB.out.cell (World.block_lt_of_cell? w _ hx241_0)).trans hx241_0
           replace hx241_1 := (HB.out.cell (World.block_lt_of_cell? w _ hx241_1)).trans hx241_1
           replace hx241_2 := (HB.out.cell (World.block_lt_of_cell? w _ hx241_2)).trans hx241_2
           replace p241 := eq_true p241
           replace q241 := eq_true q241
           go_wp2_with (first | ((with_reducible refine zl (N := 9) rfl ?_); refine zF ?hg (N := 9) ?hd (cs := #[.int .i64 0, .int .i64 0, .int .i64 0]) (t := 40) ?hr ?_; (case hd => rfl); (case hg => rfl); (case hr => first | (go_simp; done) | (go_simp; rfl)); intro gb242 hg w15 hbox hb; have n0_ := qa.mk (qh (bq HB) hb); have n1_ := qa.mk (hbox); have n2_ := qa.mk ((by rw [hg]; exact (qx (bq HB)) : w.heap.size ≤ gb242)); have n3_ := qa.mk ((by rw [hg]; exact (qx (bq HB)) : w.heap.size ≤ gb242)); clear HB; have HB := n0_; have BK242 := n1_; have GW242 := n2_; have GE242 := n3_; clear n0_ n1_ n2_ n3_; clear hb hbox hg; have hcz16_0 : w15.cell? ⟨gb242, 0, none⟩ = some (.int .i64 0) := (qb BK242.out 0).trans rfl; have hcz16_1 : w15.cell? ⟨gb242, 1, none⟩ = some (.int .i64 0) := (qb BK242.out 1).trans rfl; have hcz16_2 : w15.cell? ⟨gb242, 2, none⟩ = some (.int .i64 0) := (qb BK242.out 2).trans rfl; have hfz16_0 := qo BK242.out 0; have hfz16_1 := qo BK242.out 1; have hfz16_2 := qo BK242.out 2))
           go_ret
           exact ⟨by first | rfl | (simp [qR, qU] <;> rfl) | (simp [*, qR, qU] <;> rfl), bs HB GE242⟩
          rw [if_neg c14] at H
          have c14b0 : decide (((ql (qp l0 x34_3) x40_4).f2) < 1) = false := decide_eq_false c14
          clear c14
          by_cases c17 : ((ql (qp l0 x34_3) x40_4).f2) > 3
          ·rw [if_pos c17] at H
           have c17b0 : decide (3 < ((ql (qp l0 x34_3) x40_4).f2)) = true := decide_eq_true c17
           clear c17
           obtain rfl := Option.some.inj H
           have p241 : 0 ≤ (x40_4 : Int) := odt
           have q241 : x40_4 < ((qp l0 x34_3).length : Int) := odt
           obtain ⟨ad241, e241, hx241_0, hx241_1, hx241_2⟩ := jh HR240_0.out x40_4 p241 q241
           cases e241
           replace hx241_0 := (HB.out.cell (World.block_lt_of_cell? w _ hx241_0)).trans hx241_0
           replace hx241_1 := (HB.out.cell (World.block_lt_of_cell? w _ hx241_1)).trans hx241_1
           replace hx241_2 := (HB.out.cell (World.block_lt_of_cell? w _ hx241_2)).trans hx241_2
           replace p241 := eq_true p241
           replace q241 := eq_true q241
           go_wp2_with (first | ((with_reducible refine zl (N := 9) rfl ?_); refine zF ?hg (N := 9) ?hd (cs := #[.int .i64 0, .int .i64 0, .int .i64 0]) (t := 40) ?hr ?_; (case hd => rfl); (case hg => rfl); (case hr => first | (go_simp; done) | (go_simp; rfl)); intro gb242 hg w18 hbox hb; have n0_ := qa.mk (qh (bq HB) hb); have n1_ := qa.mk (hbox); have n2_ := qa.mk ((by rw [hg]; exact (qx (bq HB)) : w.heap.size ≤ gb242)); have n3_ := qa.mk ((by rw [hg]; exact (qx (bq HB)) : w.heap.size ≤ gb242)); clear HB; have HB := n0_; have BK242 := n1_; have GW242 := n2_; have GE242 := n3_; clear n0_ n1_ n2_ n3_; clear hb hbox hg; have hcz19_0 : w18.cell? ⟨gb242, 0, none⟩ = some (.int .i64 0) := (qb BK242.out 0).trans rfl; have hcz19_1 : w18.cell? ⟨gb242, 1, none⟩ = some (.int .i64 0) := (qb BK242.out 1).trans rfl; have hcz19_2 : w18.cell? ⟨gb242, 2, none⟩ = some (.int .i64 0) := (qb BK242.out 2).trans rfl; have hfz19_0 := qo BK242.out 0; have hfz19_1 := qo BK242.out 1; have hfz19_2 := qo BK242.out 2))
           go_ret
           exact ⟨by first | rfl | (simp [qR, qU] <;> rfl) | (simp [*, qR, qU] <;> rfl), bs HB GE242⟩
          rw [if_neg c17] at H
          have c17b0 : decide (3 < ((ql (qp l0 x34_3) x40_4).f2)) = false := decide_eq_false c17
          clear c17
          have H' := qa.mk H
          clear H
          have p241 : 0 ≤ (x40_4 : Int) := odt
          have q241 : x40_4 < ((qp l0 x34_3).length : Int) := odt
          obtain ⟨ad241, e241, hx241_0, hx241_1, hx241_2⟩ := jh HR240_0.out x40_4 p241 q241
          cases e241
          replace hx241_0 := (HB.out.cell (World.block_lt_of_cell? w _ hx241_0)).trans hx241_0
          replace hx241_1 := (HB.out.cell (World.block_lt_of_cell? w _ hx241_1)).trans hx241_1
          replace hx241_2 := (HB.out.cell (World.block_lt_of_cell? w _ hx241_2)).trans hx241_2
          replace p241 := eq_true p241
          replace q241 := eq_true q241
          go_wp2_with (first | ((with_reducible refine zl (N := 9) rfl ?_); refine zF ?hg (N := 9) ?hd (cs := #[.int .i64 0, .int .i64 0, .int .i64 0]) (t := 40) ?hr ?_; (case hd => rfl); (case hg => rfl); (case hr => first | (go_simp; done) | (go_simp; rfl)); intro gb242 hg w20 hbox hb; have n0_ := qa.mk (qh (bq HB) hb); have n1_ := qa.mk (hbox); have n2_ := qa.mk ((by rw [hg]; exact (qx (bq HB)) : w.heap.size ≤ gb242)); have n3_ := qa.mk ((by rw [hg]; exact (qx (bq HB)) : w.heap.size ≤ gb242)); clear HB; have HB := n0_; have BK242 := n1_; have GW242 := n2_; have GE242 := n3_; clear n0_ n1_ n2_ n3_; clear hb hbox hg; have hcz21_0 : w20.cell? ⟨gb242, 0, none⟩ = some (.int .i64 0) := (qb BK242.out 0).trans rfl; have hcz21_1 : w20.cell? ⟨gb242, 1, none⟩ = some (.int .i64 0) := (qb BK242.out 1).trans rfl; have hcz21_2 : w20.cell? ⟨gb242, 2, none⟩ = some (.int .i64 0) := (qb BK242.out 2).trans rfl; have hfz21_0 := qo BK242.out 0; have hfz21_1 := qo BK242.out 1; have hfz21_2 := qo BK242.out 2))
          go_roundg k4
          case measure => have := HK1.out; have := HJ4.out; have := HK3.out; have := HK4.out; omega
          case rel => exact ⟨(wrap64 (x40_4 + 1)), (by first | rfl | (simp; done) | (simp [*]; done)), H', ⟨by have := HK1.out; have := HJ4.out; have := HK3.out; have := HK4.out; omega⟩, ⟨bs HB GE242⟩⟩
       rw [if_neg c8] at H
       have c8b0 : decide (x34_3 < (l0.length : Int)) = false := decide_eq_false c8
       clear c8
       have H' := qa.mk H
       clear H
       go_wp2
       go_loopg [56] k3 (fun kq v56 w' => ∃ (x56_4 : Int), v56 = .int .i64 x56_4 ∧ qa (qi.l3 kq l0 (l0.length : Int) x56_4 = some r) ∧ qa (kq ≤ k3) ∧ qa (Below w.heap.size w w'))
       case atStart => exact ⟨(0), (by first | rfl | (simp; done) | (simp [*]; done)), H', ⟨Nat.le_refl _⟩, ⟨bq HB⟩⟩
       case round =>
        clear H'
        try clear c1
        try clear c2
        try clear c2b0
        try clear p2
        try clear q2
        try clear hx2
        try clear c3
        try clear c3b0
        try clear c4
        try clear c4b0
        try clear c6
        try clear c6b0
        try clear c6b1
        try clear p6
        try clear c7
        try clear c8
        try clear c8b0
        try clear c9
        try clear c9b0
        try clear c10
        try clear c10b0
        try clear c11
        try clear c11b0
        try clear c12
        try clear c12b0
        try clear c13
        try clear c13b0
        try clear c14
        try clear c14b0
        try clear c17
        try clear c17b0
        try clear hcz16_0
        try clear hcz16_1
        try clear hcz16_2
        try clear hcz19_0
        try clear hcz19_1
        try clear hcz19_2
        try clear hcz21_0
        try clear hcz21_1
        try clear hcz21_2
        try clear hfz16_0
        try clear hfz16_1
        try clear hfz16_2
        try clear hfz19_0
        try clear hfz19_1
        try clear hfz19_2
        try clear hfz21_0
        try clear hfz21_1
        try clear hfz21_2
        try clear hx239_0
        try clear hx240_0
        try clear hx241_0
        try clear hx241_1
        try clear hx241_2
        try clear p2
        try clear p239
        try clear p240
        try clear p241
        try clear p6
        try clear q2
        try clear q239
        try clear q240
        try clear q241
        obtain ⟨x56_4, rfl, HA, HK4, HB⟩ := hrel
        cases gk with
        | zero => exact absurd HA.out (by simp [qi.l3])
        | succ k4 =>
         have H := HA.out
         clear HA
         simp only [qi.l3] at H
         by_cases c22 : x56_4 < (l0.length : Int)
         case neg =>
          rw [if_neg c22] at H
          have c22b0 : decide (x56_4 < (l0.length : Int)) = false := decide_eq_false c22
          clear c22
          obtain rfl := Option.some.inj H
          go_wp2
          go_ret
          exact ⟨by first | rfl | (simp [qR, qU] <;> rfl) | (simp [*, qR, qU] <;> rfl), bq HB⟩
         rw [if_pos c22] at H
         have c22b0 : decide (x56_4 < (l0.length : Int)) = true := decide_eq_true c22
         clear c22
         by_cases c23 : 0 ≤ x56_4
         case neg =>
          rw [if_neg c23] at H
          exact absurd H (by simp)
         rw [if_pos c23] at H
         have c23b0 : decide (0 ≤ x56_4) = true := decide_eq_true c23
         clear c23
         by_cases c24 : x56_4 < (l0.length : Int)
         case neg =>
          rw [if_neg c24] at H
          exact absurd H (by simp)
         rw [if_pos c24] at H
         have c24b0 : decide (x56_4 < (l0.length : Int)) = true := decide_eq_true c24
         clear c24
         have H' := qa.mk H
         clear H
         have p243 : 0 ≤ (x56_4 : Int) := odt
         have q243 : x56_4 < (l0.length : Int) := odt
         obtain ⟨ad243, A243_0, c243_0, e243, hx243_0, hl243_0, hi243_0⟩ := Qm HR0.out x56_4 p243 q243
         cases e243
         replace hx243_0 := (HB.out.cell (World.block_lt_of_cell? w _ hx243_0)).trans hx243_0
         have HR243_0 := qa.mk hi243_0
         have HC243_0 := qa.mk hl243_0
         clear hi243_0 hl243_0
         replace p243 := eq_true p243
         replace q243 := eq_true q243
         go_wp2
         go_loopg [62] k4 (fun kq v62 w' => ∃ (x62_5 : Int), v62 = .int .i64 x62_5 ∧ qa (qi.l4 kq l0 (l0.length : Int) x56_4 (qp l0 x56_4) ((qp l0 x56_4).length : Int) x62_5 = some r) ∧ qa (kq ≤ k4) ∧ qa (Below w.heap.size w w'))
         case atStart => exact ⟨(0), (by first | rfl | (simp; done) | (simp [*]; done)), H', ⟨Nat.le_refl _⟩, ⟨bq HB⟩⟩
         case round =>
          clear H'
          try clear c1
          try clear c2
          try clear c2b0
          try clear p2
          try clear q2
          try clear hx2
          try clear c3
          try clear c3b0
          try clear c4
          try clear c4b0
          try clear c6
          try clear c6b0
          try clear c6b1
          try clear p6
          try clear c7
          try clear c8
          try clear c8b0
          try clear c9
          try clear c9b0
          try clear c10
          try clear c10b0
          try clear c11
          try clear c11b0
          try clear c12
          try clear c12b0
          try clear c13
          try clear c13b0
          try clear c14
          try clear c14b0
          try clear c17
          try clear c17b0
          try clear c22
          try clear c22b0
          try clear c23
          try clear c23b0
          try clear p23
          try clear q23
          try clear hx23
          try clear c24
          try clear c24b0
          try clear p24
          try clear q24
          try clear hx24
          try clear hcz16_0
          try clear hcz16_1
          try clear hcz16_2
          try clear hcz19_0
          try clear hcz19_1
          try clear hcz19_2
          try clear hcz21_0
          try clear hcz21_1
          try clear hcz21_2
          try clear hfz16_0
          try clear hfz16_1
          try clear hfz16_2
          try clear hfz19_0
          try clear hfz19_1
          try clear hfz19_2
          try clear hfz21_0
          try clear hfz21_1
          try clear hfz21_2
          try clear hx239_0
          try clear hx240_0
          try clear hx241_0
          try clear hx241_1
          try clear hx241_2
          try clear hx243_0
          try clear p2
          try clear p239
          try clear p240
          try clear p241
          try clear p243
          try clear p6
          try clear q2
          try clear q239
          try clear q240
          try clear q241
          try clear q243
          obtain ⟨x62_5, rfl, HA, HK5, HB⟩ := hrel
          cases gk with
          | zero => exact absurd HA.out (by simp [qi.l4])
          | succ k5 =>
           have H := HA.out
           clear HA
           simp only [qi.l4] at H
           by_cases c25 : x62_5 < ((qp l0 x56_4).length : Int)
           case neg =>
            rw [if_neg c25] at H
            have c25b0 : decide (x62_5 < ((qp l0 x56_4).length : Int)) = false := decide_eq_false c25
            clear c25
            have H' := qa.mk H
            clear H
            go_wp2
            go_roundg k5
            case measure => have := HK1.out; have := HJ4.out; have := HK3.out; have := HK4.out; have := HK5.out; omega
            case rel => exact ⟨(wrap64 (x56_4 + 1)), (by first | rfl | (simp; done) | (simp [*]; done)), H', ⟨by have := HK1.out; have := HJ4.out; have := HK3.out; have := HK4.out; have := HK5.out; omega⟩, ⟨bq HB⟩⟩
           rw [if_pos c25] at H
           have c25b0 : decide (x62_5 < ((qp l0 x56_4).length : Int)) = true := decide_eq_true c25
           clear c25
           by_cases c26 : 0 ≤ x62_5
           case neg =>
            rw [if_neg c26] at H
            exact absurd H (by simp)
           rw [if_pos c26] at H
           have c26b0 : decide (0 ≤ x62_5) = true := decide_eq_true c26
           clear c26
           by_cases c27 : x62_5 < ((qp l0 x56_4).length : Int)
           case neg =>
            rw [if_neg c27] at H
            exact absurd H (by simp)
           rw [if_pos c27] at H
           have c27b0 : decide (x62_5 < ((qp l0 x56_4).length : Int)) = true := decide_eq_true c27
           clear c27
           replace H := Option.bind_eq_some_iff.mp H
           obtain ⟨t246, A280, H⟩ := H
           replace H : (if t246 = true then ((qM.f ((ql (qp l0 x56_4) x62_5).f1)).bind fun t247 => (if t247 = true then (qi.l4 k5 l0 (l0.length : Int) x56_4 (qp l0 x56_4) ((qp l0 x56_4).length : Int) (wrap64 (x62_5 + 1))) else (some 64))) else (some 64)) = some r := H
           have A28 := qa.mk A280
           clear A280
           by_cases c29 : t246 = true
           case neg =>
            replace c29 := Bool.eq_false_iff.mpr c29
            subst c29
            have H1 : (some 64) = some r := by rw [if_neg (show ¬ (false = true) by decide)] at H; exact H
            clear H
            have H := H1
            clear H1
            obtain rfl := Option.some.inj H
            have p244 : 0 ≤ (x62_5 : Int) := odt
            have q244 : x62_5 < ((qp l0 x56_4).length : Int) := odt
            obtain ⟨ad244, e244, hx244_0, hx244_1, hx244_2⟩ := jh HR243_0.out x62_5 p244 q244
            cases e244
            replace hx244_0 := (HB.out.cell (World.block_lt_of_cell? w _ hx244_0)).trans hx244_0
            replace hx244_1 := (HB.out.cell (World.block_lt_of_cell? w _ hx244_1)).trans hx244_1
            replace hx244_2 := (HB.out.cell (World.block_lt_of_cell? w _ hx244_2)).trans hx244_2
            replace p244 := eq_true p244
            replace q244 := eq_true q244
            go_wp2_with (first | ((with_reducible refine zl (N := 13) rfl ?_); refine zF ?hg (N := 13) ?hd (cs := #[.int .i64 0, .int .i64 0, .int .i64 0]) (t := 40) ?hr ?_; (case hd => rfl); (case hg => rfl); (case hr => first | (go_simp; done) | (go_simp; rfl)); intro gb245 hg w36 hbox hb; have n0_ := qa.mk (qh (bq HB) hb); have n1_ := qa.mk (hbox); have n2_ := qa.mk ((by rw [hg]; exact (qx (bq HB)) : w.heap.size ≤ gb245)); have n3_ := qa.mk ((by rw [hg]; exact (qx (bq HB)) : w.heap.size ≤ gb245)); clear HB; have HB := n0_; have BK245 := n1_; have GW245 := n2_; have GE245 := n3_; clear n0_ n1_ n2_ n3_; clear hb hbox hg; have hcz37_0 : w36.cell? ⟨gb245, 0, none⟩ = some (.int .i64 0) := (qb BK245.out 0).trans rfl; have hcz37_1 : w36.cell? ⟨gb245, 1, none⟩ = some (.int .i64 0) := (qb BK245.out 1).trans rfl; have hcz37_2 : w36.cell? ⟨gb245, 2, none⟩ = some (.int .i64 0) := (qb BK245.out 2).trans rfl; have hfz37_0 := qo BK245.out 0; have hfz37_1 := qo BK245.out 1; have hfz37_2 := qo BK245.out 2) | ((with_reducible refine zf (f := 16) rfl ?_); refine zR (some 68) rfl rfl Try.func16 (by kernel_rfl) rfl #[.int .i64 ((ql (qp l0 x56_4) x62_5).f0)] rfl (by (try simp only [List.map_toArray, List.map_cons, List.map_nil]); first | done | rfl | (simp only [List.length_drop, List.length_take]; rfl)) ?_; (with_reducible refine (qM.calls ((ql (qp l0 x56_4) x62_5).f0) false _ A28.out).mono ?_); rintro e w' ⟨rfl, ⟨nd, rfl⟩⟩; refine ⟨_, rfl, ?_⟩))
            go_ret
            exact ⟨by first | rfl | (simp [qR, qU] <;> rfl) | (simp [*, qR, qU] <;> rfl), bs HB GE245⟩
           subst c29
           have H1 : ((qM.f ((ql (qp l0 x56_4) x62_5).f1)).bind fun t247 => (if t247 = true then (qi.l4 k5 l0 (l0.length : Int) x56_4 (qp l0 x56_4) ((qp l0 x56_4).length : Int) (wrap64 (x62_5 + 1))) else (some 64))) = some r := by rw [if_pos rfl] at H; exact H
           clear H
           have H := H1
           clear H1
           replace H := Option.bind_eq_some_iff.mp H
           obtain ⟨t247, A300, H⟩ := H
           replace H : (if t247 = true then (qi.l4 k5 l0 (l0.length : Int) x56_4 (qp l0 x56_4) ((qp l0 x56_4).length : Int) (wrap64 (x62_5 + 1))) else (some 64)) = some r := H
           have A30 := qa.mk A300
           clear A300
           by_cases c31 : t247 = true
           case neg =>
            replace c31 := Bool.eq_false_iff.mpr c31
            subst c31
            have H1 : (some 64) = some r := by rw [if_neg (show ¬ (false = true) by decide)] at H; exact H
            clear H
            have H := H1
            clear H1
            obtain rfl := Option.some.inj H
            have p244 : 0 ≤ (x62_5 : Int) := odt
            have q244 : x62_5 < ((qp l0 x56_4).length : Int) := odt
            obtain ⟨ad244, e244, hx244_0, hx244_1, hx244_2⟩ := jh HR243_0.out x62_5 p244 q244
            cases e244
            replace hx244_0 := (HB.out.cell (World.block_lt_of_cell? w _ hx244_0)).trans hx244_0
            replace hx244_1 := (HB.out.cell (World.block_lt_of_cell? w _ hx244_1)).trans hx244_1
            replace hx244_2 := (HB.out.cell (World.block_lt_of_cell? w _ hx244_2)).trans hx244_2
            replace p244 := eq_true p244
            replace q244 := eq_true q244
            go_wp2_with (first | ((with_reducible refine zl (N := 13) rfl ?_); refine zF ?hg (N := 13) ?hd (cs := #[.int .i64 0, .int .i64 0, .int .i64 0]) (t := 40) ?hr ?_; (case hd => rfl); (case hg => rfl); (case hr => first | (go_simp; done) | (go_simp; rfl)); intro gb245 hg w34 hbox hb; have n0_ := qa.mk (qh (bq HB) hb); have n1_ := qa.mk (hbox); have n2_ := qa.mk ((by rw [hg]; exact (qx (bq HB)) : w.heap.size ≤ gb245)); have n3_ := qa.mk ((by rw [hg]; exact (qx (bq HB)) : w.heap.size ≤ gb245)); clear HB; have HB := n0_; have BK245 := n1_; have GW245 := n2_; have GE245 := n3_; clear n0_ n1_ n2_ n3_; clear hb hbox hg; have hcz35_0 : w34.cell? ⟨gb245, 0, none⟩ = some (.int .i64 0) := (qb BK245.out 0).trans rfl; have hcz35_1 : w34.cell? ⟨gb245, 1, none⟩ = some (.int .i64 0) := (qb BK245.out 1).trans rfl; have hcz35_2 : w34.cell? ⟨gb245, 2, none⟩ = some (.int .i64 0) := (qb BK245.out 2).trans rfl; have hfz35_0 := qo BK245.out 0; have hfz35_1 := qo BK245.out 1; have hfz35_2 := qo BK245.out 2) | ((with_reducible refine zf (f := 16) rfl ?_); refine zR (some 68) rfl rfl Try.func16 (by kernel_rfl) rfl #[.int .i64 ((ql (qp l0 x56_4) x62_5).f0)] rfl (by (try simp only [List.map_toArray, List.map_cons, List.map_nil]); first | done | rfl | (simp only [List.length_drop, List.length_take]; rfl)) ?_; (with_reducible refine (qM.calls ((ql (qp l0 x56_4) x62_5).f0) true _ A28.out).mono ?_); rintro e w' ⟨rfl, ⟨nd, rfl⟩⟩; refine ⟨_, rfl, ?_⟩) | (go_at_call 16; (with_reducible refine (qM.calls ((ql (qp l0 x56_4) x62_5).f1) false _ A30.out).mono ?_); rintro e w' ⟨rfl, ⟨nd, rfl⟩⟩))
            go_ret
            exact ⟨by first | rfl | (simp [qR, qU] <;> rfl) | (simp [*, qR, qU] <;> rfl), bs HB GE245⟩
           subst c31
           have H1 : (qi.l4 k5 l0 (l0.length : Int) x56_4 (qp l0 x56_4) ((qp l0 x56_4).length : Int) (wrap64 (x62_5 + 1))) = some r := by rw [if_pos rfl] at H; exact H
           clear H
           have H := H1
           clear H1
           have H' := qa.mk H
           clear H
           have p244 : 0 ≤ (x62_5 : Int) := odt
           have q244 : x62_5 < ((qp l0 x56_4).length : Int) := odt
           obtain ⟨ad244, e244, hx244_0, hx244_1, hx244_2⟩ := jh HR243_0.out x62_5 p244 q244
           cases e244
           replace hx244_0 := (HB.out.cell (World.block_lt_of_cell? w _ hx244_0)).trans hx244_0
           replace hx244_1 := (HB.out.cell (World.block_lt_of_cell? w _ hx244_1)).trans hx244_1
           replace hx244_2 := (HB.out.cell (World.block_lt_of_cell? w _ hx244_2)).trans hx244_2
           replace p244 := eq_true p244
           replace q244 := eq_true q244
           go_wp2_with (first | ((with_reducible refine zl (N := 13) rfl ?_); refine zF ?hg (N := 13) ?hd (cs := #[.int .i64 0, .int .i64 0, .int .i64 0]) (t := 40) ?hr ?_; (case hd => rfl); (case hg => rfl); (case hr => first | (go_simp; done) | (go_simp; rfl)); intro gb245 hg w32 hbox hb; have n0_ := qa.mk (qh (bq HB) hb); have n1_ := qa.mk (hbox); have n2_ := qa.mk ((by rw [hg]; exact (qx (bq HB)) : w.heap.size ≤ gb245)); have n3_ := qa.mk ((by rw [hg]; exact (qx (bq HB)) : w.heap.size ≤ gb245)); clear HB; have HB := n0_; have BK245 := n1_; have GW245 := n2_; have GE245 := n3_; clear n0_ n1_ n2_ n3_; clear hb hbox hg; have hcz33_0 : w32.cell? ⟨gb245, 0, none⟩ = some (.int .i64 0) := (qb BK245.out 0).trans rfl; have hcz33_1 : w32.cell? ⟨gb245, 1, none⟩ = some (.int .i64 0) := (qb BK245.out 1).trans rfl; have hcz33_2 : w32.cell? ⟨gb245, 2, none⟩ = some (.int .i64 0) := (qb BK245.out 2).trans rfl; have hfz33_0 := qo BK245.out 0; have hfz33_1 := qo BK245.out 1; have hfz33_2 := qo BK245.out 2) | ((with_reducible refine zf (f := 16) rfl ?_); refine zR (some 68) rfl rfl Try.func16 (by kernel_rfl) rfl #[.int .i64 ((ql (qp l0 x56_4) x62_5).f0)] rfl (by (try simp only [List.map_toArray, List.map_cons, List.map_nil]); first | done | rfl | (simp only [List.length_drop, List.length_take]; rfl)) ?_; (with_reducible refine (qM.calls ((ql (qp l0 x56_4) x62_5).f0) true _ A28.out).mono ?_); rintro e w' ⟨rfl, ⟨nd, rfl⟩⟩; refine ⟨_, rfl, ?_⟩) | (go_at_call 16; (with_reducible refine (qM.calls ((ql (qp l0 x56_4) x62_5).f1) true _ A30.out).mono ?_); rintro e w' ⟨rfl, ⟨nd, rfl⟩⟩))
           go_roundg k5
           case measure => have := HK1.out; have := HJ4.out; have := HK3.out; have := HK4.out; have := HK5.out; omega
           case rel => exact ⟨(wrap64 (x62_5 + 1)), (by first | rfl | (simp; done) | (simp [*]; done)), H', ⟨by have := HK1.out; have := HJ4.out; have := HK3.out; have := HK4.out; have := HK5.out; omega⟩, ⟨bs HB GE245⟩⟩
end Go.Proofs.Ytmlkpadlafjfeaa.P
