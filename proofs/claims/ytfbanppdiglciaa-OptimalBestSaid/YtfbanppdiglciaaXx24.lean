import Derived.Test.YtfbanppdiglciaaXx0
import Derived.Test.YtfbanppdiglciaaXx17
import Derived.Test.YtfbanppdiglciaaXx18
import Derived.Test.YtfbanppdiglciaaXx22
import Derived.Test.YtfbanppdiglciaaXx23
namespace Go.Proofs.Ytfbanppdiglciaa.X
open Go.RowKit Go.Proofs.YtfbanppdiglciaaW.PrintWords Go.Proofs.YtfbanppdiglciaaW.PrintLast Go.Proofs.YtfbanppdiglciaaW.PrintMore
attribute [local go_sem] jw jv jJ jI jf je jA jC
set_option linter.unusedVariables false
set_option linter.unusedSimpArgs false
mutual
def qH.l0 : Nat → List (S31) → Int → Int → Int → Int → List Int → Int → Int → Option (Int × Bool)
 | 0, _, _, _, _, _, _, _, _ => none
 | k + 1, x0, x2, x3, x10, x11, x18, x19, x20 => if x20 < x19 then (if 0 ≤ x20 then (if x20 < (x18.length : Int) then (if (rd x18 x20) ≤ x10 then (qH.j1 k x0 x2 x3 x10 x11 (rd x18 x20) x18 x19 x20 true) else (if (rd x18 x20) > (x0.length : Int) then (qH.j1 k x0 x2 x3 x10 x11 (rd x18 x20) x18 x19 x20 true) else ((zZ.f x0 (rd x18 x20)).bind fun t305 => (qH.j1 k x0 x2 x3 x10 x11 (rd x18 x20) x18 x19 x20 (!t305))))) else (none)) else (none)) else (some (x11, (x10 == (x0.length : Int))))
def qH.j1 : Nat → List (S31) → Int → Int → Int → Int → Int → List Int → Int → Int → Bool → Option (Int × Bool)
 | 0, _, _, _, _, _, _, _, _, _, _ => none
 | k + 1, x0, x2, x3, x10, x11, x13, x18, x19, x20, x38 => if x38 = true then (some (0, false)) else (qH.l1 k x0 x2 x3 x10 x11 x13 (wrap64 (x10 + 1)) x18 x19 x20)
def qH.l1 : Nat → List (S31) → Int → Int → Int → Int → Int → Int → List Int → Int → Int → Option (Int × Bool)
 | 0, _, _, _, _, _, _, _, _, _, _ => none
 | k + 1, x0, x2, x3, x10, x11, x13, x14, x18, x19, x20 => if x14 < x13 then ((zx.f x0 x14).bind fun t306 => (if t306 = true then (some (0, false)) else (qH.l1 k x0 x2 x3 x10 x11 x13 (wrap64 (x14 + 1)) x18 x19 x20))) else ((qY.f k x0 x10 x13 x2).bind fun bt307 => (if bt307.2.2 = true then (if bt307.1 > x3 then (some (0, false)) else ((qQ.f k x0 x10 x13 bt307.2.1).bind fun t310 => (qH.l0 k x0 x2 x3 x13 (wrap64 (x11 + t310)) x18 x19 (wrap64 (x20 + 1))))) else (some (0, false))))
end
def qH.f (k : Nat) (l0 : List (S31)) (l1 : List Int) (a2 : Int) (a3 : Int) : Option (Int × Bool) := qH.l0 k l0 a2 a3 (-1) 0 l1 (l1.length : Int) 0
theorem qH.zT : ∀ k, (∀ y0 y1 y2 y3 y4 y5 y6 y7, LeO (qH.l0 k y0 y1 y2 y3 y4 y5 y6 y7) (qH.l0 (k + 1) y0 y1 y2 y3 y4 y5 y6 y7)) ∧ (∀ y0 y1 y2 y3 y4 y5 y6 y7 y8 y9, LeO (qH.j1 k y0 y1 y2 y3 y4 y5 y6 y7 y8 y9) (qH.j1 (k + 1) y0 y1 y2 y3 y4 y5 y6 y7 y8 y9)) ∧ (∀ y0 y1 y2 y3 y4 y5 y6 y7 y8 y9, LeO (qH.l1 k y0 y1 y2 y3 y4 y5 y6 y7 y8 y9) (qH.l1 (k + 1) y0 y1 y2 y3 y4 y5 y6 y7 y8 y9))
 | 0 => ⟨fun _ _ _ _ _ _ _ _ r h => by simp [qH.l0] at h, fun _ _ _ _ _ _ _ _ _ _ r h => by simp [qH.j1] at h, fun _ _ _ _ _ _ _ _ _ _ r h => by simp [qH.l1] at h⟩
 | k + 1 => by
  obtain ⟨ih0, ih1, ih2⟩ := qH.zT k
  refine ⟨?_, ?_, ?_⟩
  ·intro y0 y1 y2 y3 y4 y5 y6 y7
   unfold qH.l0
   repeat' first
   | (with_reducible exact ih0 _ _ _ _ _ _ _ _)
   | (with_reducible exact ih1 _ _ _ _ _ _ _ _ _ _)
   | (with_reducible exact ih2 _ _ _ _ _ _ _ _ _ _)
   | (with_reducible exact qQ.mono _ _ _ _ _)
   | (with_reducible exact qY.mono _ _ _ _ _)
   | (with_reducible exact LeO.refl _)
   | (with_reducible exact LeO.none _)
   | (with_reducible refine LeO.ite ?_ ?_)
   | (with_reducible refine LeO.bind ?_ (fun _ => ?_))
   | exact ih0 _ _ _ _ _ _ _ _
   | exact ih1 _ _ _ _ _ _ _ _ _ _
   | exact ih2 _ _ _ _ _ _ _ _ _ _
   | exact qQ.mono _ _ _ _ _
   | exact qY.mono _ _ _ _ _
   | exact LeO.none _
   | refine LeO.ite ?_ ?_
   | refine LeO.bind ?_ (fun _ => ?_)
  ·intro y0 y1 y2 y3 y4 y5 y6 y7 y8 y9
   unfold qH.j1
   repeat' first
   | (with_reducible exact ih0 _ _ _ _ _ _ _ _)
   | (with_reducible exact ih1 _ _ _ _ _ _ _ _ _ _)
   | (with_reducible exact ih2 _ _ _ _ _ _ _ _ _ _)
   | (with_reducible exact qQ.mono _ _ _ _ _)
   | (with_reducible exact qY.mono _ _ _ _ _)
   | (with_reducible exact LeO.refl _)
   | (with_reducible exact LeO.none _)
   | (with_reducible refine LeO.ite ?_ ?_)
   | (with_reducible refine LeO.bind ?_ (fun _ => ?_))
   | exact ih0 _ _ _ _ _ _ _ _
   | exact ih1 _ _ _ _ _ _ _ _ _ _
   | exact ih2 _ _ _ _ _ _ _ _ _ _
   | exact qQ.mono _ _ _ _ _
   | exact qY.mono _ _ _ _ _
   | exact LeO.none _
   | refine LeO.ite ?_ ?_
   | refine LeO.bind ?_ (fun _ => ?_)
  ·intro y0 y1 y2 y3 y4 y5 y6 y7 y8 y9
   unfold qH.l1
   repeat' first
   | (with_reducible exact ih0 _ _ _ _ _ _ _ _)
   | (with_reducible exact ih1 _ _ _ _ _ _ _ _ _ _)
   | (with_reducible exact ih2 _ _ _ _ _ _ _ _ _ _)
   | (with_reducible exact qQ.mono _ _ _ _ _)
   | (with_reducible exact qY.mono _ _ _ _ _)
   | (with_reducible exact LeO.refl _)
   | (with_reducible exact LeO.none _)
   | (with_reducible refine LeO.ite ?_ ?_)
   | (with_reducible refine LeO.bind ?_ (fun _ => ?_))
   | exact ih0 _ _ _ _ _ _ _ _
   | exact ih1 _ _ _ _ _ _ _ _ _ _
   | exact ih2 _ _ _ _ _ _ _ _ _ _
   | exact qQ.mono _ _ _ _ _
   | exact qY.mono _ _ _ _ _
   | exact LeO.none _
   | refine LeO.ite ?_ ?_
   | refine LeO.bind ?_ (fun _ => ?_)
theorem qH.mono : ∀ a0 a1 a2 a3 k, LeO (qH.f k a0 a1 a2 a3) (qH.f (k + 1) a0 a1 a2 a3) := by
 intro a0 a1 a2 a3 k
 obtain ⟨ih0, ih1, ih2⟩ := qH.zT k
 unfold qH.f
 repeat' first
   | (with_reducible exact ih0 _ _ _ _ _ _ _ _)
   | (with_reducible exact ih1 _ _ _ _ _ _ _ _ _ _)
   | (with_reducible exact ih2 _ _ _ _ _ _ _ _ _ _)
   | (with_reducible exact qQ.mono _ _ _ _ _)
   | (with_reducible exact qY.mono _ _ _ _ _)
   | (with_reducible exact LeO.refl _)
   | (with_reducible exact LeO.none _)
   | (with_reducible refine LeO.ite ?_ ?_)
   | (with_reducible refine LeO.bind ?_ (fun _ => ?_))
   | exact ih0 _ _ _ _ _ _ _ _
   | exact ih1 _ _ _ _ _ _ _ _ _ _
   | exact ih2 _ _ _ _ _ _ _ _ _ _
   | exact qQ.mono _ _ _ _ _
   | exact qY.mono _ _ _ _ _
   | exact LeO.none _
   | refine LeO.ite ?_ ?_
   | refine LeO.bind ?_ (fun _ => ?_)
set_option maxHeartbeats 8000000 in
set_option maxRecDepth 100000 in
theorem qH.calls (k : Nat) (A0 : Option Addr) (c0 : Nat) (l0 : List (S31)) (A1 : Option Addr) (c1 : Nat) (l1 : List Int) (a2 : Int) (a3 : Int) (r1 : Int) (r2 : Bool) (w : World) (hr0 : Kd.C k31 w A0 l0.length l0) (hc0 : l0.length ≤ c0) (hr1 : Kd.C (Kd.int .i64) w A1 l1.length l1) (hc1 : l1.length ≤ c1) (h : qH.f k l0 l1 a2 a3 = some (r1, r2)) :
  Calls Try.prog 17 #[.slice A0 l0.length c0, .slice A1 l1.length c1, .int .i64 a2, .int .i64 a3] w fun e w' => e = .returned (.tuple #[.int .i64 r1, .bool r2]) ∧ qU w w' := by
 have HR0 := qa.mk hr0
 have HC0 := qa.mk hc0
 clear hr0 hc0
 have HR1 := qa.mk hr1
 have HC1 := qa.mk hc1
 clear hr1 hc1
 have H : (qH.l0 k l0 a2 a3 (-1) 0 l1 (l1.length : Int) 0) = some (r1, r2) := h
 clear h
 have H' := qa.mk H
 clear H
 go_enter Try.func17, Try.ntmps17
 go_wp2
 go_loopg [10, 11, 20] k (fun kq v10 v11 v20 w' => ∃ (x10_1 : Int) (x11_1 : Int) (x20_1 : Int), v10 = .int .i64 x10_1 ∧ v11 = .int .i64 x11_1 ∧ v20 = .int .i64 x20_1 ∧ qa (qH.l0 kq l0 a2 a3 x10_1 x11_1 l1 (l1.length : Int) x20_1 = some (r1, r2)) ∧ qa (kq ≤ k) ∧ qU w w')
 case atStart => exact ⟨((-1)), (0), (0), (by first | rfl | (simp; done) | (simp [*]; done)), (by first | rfl | (simp; done) | (simp [*]; done)), (by first | rfl | (simp; done) | (simp [*]; done)), H', ⟨Nat.le_refl _⟩, by repeat (first | exact qU.refl _ | apply qU.step)⟩
 case round =>
  clear H'
  try clear c1
  try clear p2
  obtain ⟨x10_1, x11_1, x20_1, rfl, rfl, rfl, HA, HK1, ⟨m1, rfl⟩⟩ := hrel
  cases gk with
  | zero => exact absurd HA.out (by simp [qH.l0])
  | succ k1 =>
   have H := HA.out
   clear HA
   simp only [qH.l0] at H
   by_cases c5 : x20_1 < (l1.length : Int)
   case neg =>
    rw [if_neg c5] at H
    have c5b0 : decide (x20_1 < (l1.length : Int)) = false := decide_eq_false c5
    clear c5
    simp only [Option.some.injEq, Prod.mk.injEq] at H
    obtain ⟨rfl, rfl⟩ := H
    go_wp2
    go_ret2
    exact ⟨by first | rfl | (simp; done) | (simp [*]; done), by repeat (first | exact qU.refl _ | apply qU.step)⟩
   rw [if_pos c5] at H
   have c5b0 : decide (x20_1 < (l1.length : Int)) = true := decide_eq_true c5
   clear c5
   by_cases c6 : 0 ≤ x20_1
   case neg =>
    rw [if_neg c6] at H
    exact absurd H (by simp)
   rw [if_pos c6] at H
   have c6b0 : decide (0 ≤ x20_1) = true := decide_eq_true c6
   clear c6
   by_cases c7 : x20_1 < (l1.length : Int)
   case neg =>
    rw [if_neg c7] at H
    exact absurd H (by simp)
   rw [if_pos c7] at H
   have c7b0 : decide (x20_1 < (l1.length : Int)) = true := decide_eq_true c7
   clear c7
   have HC8 := qa.mk H
   clear H
   have p304 : 0 ≤ (x20_1 : Int) := odt
   have q304 : x20_1 < (l1.length : Int) := odt
   obtain ⟨ad304, e304, hx304_0⟩ := Kd.zY HR1.out x20_1 p304 q304
   cases e304
   replace p304 := eq_true p304
   replace q304 := eq_true q304
   go_upto_region 5 with (fail)
   go_cut [38] (fun v38 wc => ∃ (kq : Nat) (x38_7 : Bool), v38 = .bool x38_7 ∧ qa (qH.j1 kq l0 a2 a3 x10_1 x11_1 (rd l1 x20_1) l1 (l1.length : Int) x20_1 x38_7 = some (r1, r2)) ∧ qa (kq ≤ k1) ∧ qU w wc)
   case first =>
    have H := HC8.out
    clear HC8
    by_cases c9 : (rd l1 x20_1) ≤ x10_1
    ·rw [if_pos c9] at H
     have c9b0 : decide ((rd l1 x20_1) ≤ x10_1) = true := decide_eq_true c9
     clear c9
     (first | rw [c9b0] | (simp only [zJ, zN]; rw [c9b0]) | skip)
     have H' := qa.mk H
     clear H
     go_wp2
     go_meet
     case rel => exact ⟨_, (true), (by first | rfl | (simp; done) | (simp [*]; done)), H', ⟨by have := HK1.out; first | omega | exact Nat.le_refl _⟩, by repeat (first | exact qU.refl _ | apply qU.step)⟩
    rw [if_neg c9] at H
    have c9b0 : decide ((rd l1 x20_1) ≤ x10_1) = false := decide_eq_false c9
    clear c9
    (first | rw [c9b0] | (simp only [zJ, zN]; rw [c9b0]) | skip)
    by_cases c10 : (rd l1 x20_1) > (l0.length : Int)
    ·rw [if_pos c10] at H
     have c10b0 : decide ((l0.length : Int) < (rd l1 x20_1)) = true := decide_eq_true c10
     clear c10
     have H' := qa.mk H
     clear H
     go_wp2
     go_meet
     case rel => exact ⟨_, (true), (by first | rfl | (simp; done) | (simp [*]; done)), H', ⟨by have := HK1.out; first | omega | exact Nat.le_refl _⟩, by repeat (first | exact qU.refl _ | apply qU.step)⟩
    rw [if_neg c10] at H
    have c10b0 : decide ((l0.length : Int) < (rd l1 x20_1)) = false := decide_eq_false c10
    clear c10
    replace H := Option.bind_eq_some_iff.mp H
    obtain ⟨t305, A110, H⟩ := H
    replace H : (qH.j1 k1 l0 a2 a3 x10_1 x11_1 (rd l1 x20_1) l1 (l1.length : Int) x20_1 (!t305)) = some (r1, r2) := H
    have A11 := qa.mk A110
    clear A110
    have H' := qa.mk H
    clear H
    go_wp2_with (first | (go_at_call 19; (with_reducible refine (zZ.calls _ _ l0 (rd l1 x20_1) t305 _ ?side1 ?side2 A11.out).mono ?_); (case side1 => repeat (first | exact HR0.out | (with_reducible refine Kd.zI ?_ _) | (with_reducible refine Kd.zH ?_ _) | (with_reducible refine Kd.zL ?_))); (case side2 => exact HC0.out); rintro e w' ⟨rfl, ⟨nd, rfl⟩⟩))
    go_meet
    case rel => exact ⟨_, (!t305), (by first | rfl | (simp; done) | (simp [*]; done)), H', ⟨by have := HK1.out; first | omega | exact Nat.le_refl _⟩, by repeat (first | exact qU.refl _ | apply qU.step)⟩
   case rest =>
    clear HC8
    try clear c1
    try clear p2
    try clear p3
    try clear q3
    try clear hx3
    try clear c5
    try clear c5b0
    try clear c6
    try clear c6b0
    try clear c7
    try clear c7b0
    try clear c9
    try clear c9b0
    try clear c10
    try clear c10b0
    try clear hx304_0
    try clear p2
    try clear p304
    try clear q304
    obtain ⟨kq, x38_7, rfl, HA, HJ7, ⟨mc7, rfl⟩⟩ := hcut
    cases kq with
    | zero => exact absurd HA.out (by simp [qH.j1])
    | succ kj7 =>
     have H := HA.out
     clear HA
     simp only [qH.j1] at H
     by_cases c12 : x38_7 = true
     ·subst c12
      have H1 : (some (0, false)) = some (r1, r2) := by rw [if_pos rfl] at H; exact H
      clear H
      have H := H1
      clear H1
      simp only [Option.some.injEq, Prod.mk.injEq] at H
      obtain ⟨rfl, rfl⟩ := H
      go_wp2
      go_ret2
      exact ⟨by first | rfl | (simp; done) | (simp [*]; done), by repeat (first | exact qU.refl _ | apply qU.step)⟩
     replace c12 := Bool.eq_false_iff.mpr c12
     subst c12
     have H1 : (qH.l1 kj7 l0 a2 a3 x10_1 x11_1 (rd l1 x20_1) (wrap64 (x10_1 + 1)) l1 (l1.length : Int) x20_1) = some (r1, r2) := by rw [if_neg (show ¬ (false = true) by decide)] at H; exact H
     clear H
     have H := H1
     clear H1
     have H' := qa.mk H
     clear H
     go_wp2
     go_loopg [14] kj7 (fun kq v14 w' => ∃ (x14_3 : Int), v14 = .int .i64 x14_3 ∧ qa (qH.l1 kq l0 a2 a3 x10_1 x11_1 (rd l1 x20_1) x14_3 l1 (l1.length : Int) x20_1 = some (r1, r2)) ∧ qa (kq ≤ kj7) ∧ qU w w')
     case atStart => exact ⟨(wrap64 (x10_1 + 1)), (by first | rfl | (simp; done) | (simp [*]; done)), H', ⟨Nat.le_refl _⟩, by repeat (first | exact qU.refl _ | apply qU.step)⟩
     case round =>
      clear H'
      try clear c1
      try clear p2
      try clear p3
      try clear q3
      try clear hx3
      try clear c5
      try clear c5b0
      try clear c6
      try clear c6b0
      try clear p6
      try clear c7
      try clear c7b0
      try clear c9
      try clear c9b0
      try clear c10
      try clear c10b0
      try clear c12
      try clear hx304_0
      try clear p2
      try clear p3
      try clear p304
      try clear q3
      try clear q304
      obtain ⟨x14_3, rfl, HA, HK3, ⟨m3, rfl⟩⟩ := hrel
      cases gk with
      | zero => exact absurd HA.out (by simp [qH.l1])
      | succ k3 =>
       have H := HA.out
       clear HA
       simp only [qH.l1] at H
       by_cases c13 : x14_3 < (rd l1 x20_1)
       ·rw [if_pos c13] at H
        have c13b0 : decide (x14_3 < (rd l1 x20_1)) = true := decide_eq_true c13
        clear c13
        replace H := Option.bind_eq_some_iff.mp H
        obtain ⟨t306, A140, H⟩ := H
        replace H : (if t306 = true then (some (0, false)) else (qH.l1 k3 l0 a2 a3 x10_1 x11_1 (rd l1 x20_1) (wrap64 (x14_3 + 1)) l1 (l1.length : Int) x20_1)) = some (r1, r2) := H
        have A14 := qa.mk A140
        clear A140
        by_cases c15 : t306 = true
        ·subst c15
         have H1 : (some (0, false)) = some (r1, r2) := by rw [if_pos rfl] at H; exact H
         clear H
         have H := H1
         clear H1
         simp only [Option.some.injEq, Prod.mk.injEq] at H
         obtain ⟨rfl, rfl⟩ := H
         go_wp2_with (first | ((with_reducible refine zl (f := 20) rfl ?_); refine zM (some 48) rfl rfl Try.func20 (by kernel_rfl) rfl #[.slice A0 l0.length c0, .int .i64 x14_3] rfl (by (try simp only [List.map_toArray, List.map_cons, List.map_nil]); first | done | rfl | (simp only [List.length_drop, List.length_take]; rfl)) ?_; (with_reducible refine (zx.calls _ _ l0 x14_3 true _ ?side1 ?side2 A14.out).mono ?_); (case side1 => repeat (first | exact HR0.out | (with_reducible refine Kd.zI ?_ _) | (with_reducible refine Kd.zH ?_ _) | (with_reducible refine Kd.zL ?_))); (case side2 => exact HC0.out); rintro e w' ⟨rfl, ⟨nd, rfl⟩⟩; refine ⟨_, rfl, ?_⟩))
         go_ret2
         exact ⟨by first | rfl | (simp; done) | (simp [*]; done), by repeat (first | exact qU.refl _ | apply qU.step)⟩
        replace c15 := Bool.eq_false_iff.mpr c15
        subst c15
        have H1 : (qH.l1 k3 l0 a2 a3 x10_1 x11_1 (rd l1 x20_1) (wrap64 (x14_3 + 1)) l1 (l1.length : Int) x20_1) = some (r1, r2) := by rw [if_neg (show ¬ (false = true) by decide)] at H; exact H
        clear H
        have H := H1
        clear H1
        have H' := qa.mk H
        clear H
        go_wp2_with (first | ((with_reducible refine zl (f := 20) rfl ?_); refine zM (some 48) rfl rfl Try.func20 (by kernel_rfl) rfl #[.slice A0 l0.length c0, .int .i64 x14_3] rfl (by (try simp only [List.map_toArray, List.map_cons, List.map_nil]); first | done | rfl | (simp only [List.length_drop, List.length_take]; rfl)) ?_; (with_reducible refine (zx.calls _ _ l0 x14_3 false _ ?side1 ?side2 A14.out).mono ?_); (case side1 => repeat (first | exact HR0.out | (with_reducible refine Kd.zI ?_ _) | (with_reducible refine Kd.zH ?_ _) | (with_reducible refine Kd.zL ?_))); (case side2 => exact HC0.out); rintro e w' ⟨rfl, ⟨nd, rfl⟩⟩; refine ⟨_, rfl, ?_⟩))
        go_roundg k3
        case measure => have := HK1.out; have := HJ7.out; have := HK3.out; omega
        case rel => exact ⟨(wrap64 (x14_3 + 1)), (by first | rfl | (simp; done) | (simp [*]; done)), H', ⟨by have := HK1.out; have := HJ7.out; have := HK3.out; omega⟩, by repeat (first | exact qU.refl _ | apply qU.step)⟩
       rw [if_neg c13] at H
       have c13b0 : decide (x14_3 < (rd l1 x20_1)) = false := decide_eq_false c13
       clear c13
       replace H := Option.bind_eq_some_iff.mp H
       obtain ⟨⟨t307, t308, t309⟩, A160, H⟩ := H
       replace H : (if t309 = true then (if t307 > a3 then (some (0, false)) else ((qQ.f k3 l0 x10_1 (rd l1 x20_1) t308).bind fun t310 => (qH.l0 k3 l0 a2 a3 (rd l1 x20_1) (wrap64 (x11_1 + t310)) l1 (l1.length : Int) (wrap64 (x20_1 + 1))))) else (some (0, false))) = some (r1, r2) := H
       have A16 := qa.mk A160
       clear A160
       by_cases c17 : t309 = true
       case neg =>
        replace c17 := Bool.eq_false_iff.mpr c17
        subst c17
        have H1 : (some (0, false)) = some (r1, r2) := by rw [if_neg (show ¬ (false = true) by decide)] at H; exact H
        clear H
        have H := H1
        clear H1
        simp only [Option.some.injEq, Prod.mk.injEq] at H
        obtain ⟨rfl, rfl⟩ := H
        go_wp2_with (first | ((with_reducible refine zl (f := 32) rfl ?_); refine zM (some 54) rfl rfl Try.func32 (by kernel_rfl) rfl #[.slice A0 l0.length c0, .int .i64 x10_1, .int .i64 (rd l1 x20_1), .int .i64 a2] rfl (by (try simp only [List.map_toArray, List.map_cons, List.map_nil]); first | done | rfl | (simp only [List.length_drop, List.length_take]; rfl)) ?_; (with_reducible refine (qY.calls k3 _ _ l0 x10_1 (rd l1 x20_1) a2 t307 t308 false _ ?side1 ?side2 A16.out).mono ?_); (case side1 => repeat (first | exact HR0.out | (with_reducible refine Kd.zI ?_ _) | (with_reducible refine Kd.zH ?_ _) | (with_reducible refine Kd.zL ?_))); (case side2 => exact HC0.out); rintro e w' ⟨rfl, ⟨nd, rfl⟩⟩; refine ⟨_, rfl, ?_⟩))
        go_ret2
        exact ⟨by first | rfl | (simp; done) | (simp [*]; done), by repeat (first | exact qU.refl _ | apply qU.step)⟩
       subst c17
       have H1 : (if t307 > a3 then (some (0, false)) else ((qQ.f k3 l0 x10_1 (rd l1 x20_1) t308).bind fun t310 => (qH.l0 k3 l0 a2 a3 (rd l1 x20_1) (wrap64 (x11_1 + t310)) l1 (l1.length : Int) (wrap64 (x20_1 + 1))))) = some (r1, r2) := by rw [if_pos rfl] at H; exact H
       clear H
       have H := H1
       clear H1
       by_cases c18 : t307 > a3
       ·rw [if_pos c18] at H
        have c18b0 : decide (a3 < t307) = true := decide_eq_true c18
        clear c18
        simp only [Option.some.injEq, Prod.mk.injEq] at H
        obtain ⟨rfl, rfl⟩ := H
        go_wp2_with (first | ((with_reducible refine zl (f := 32) rfl ?_); refine zM (some 54) rfl rfl Try.func32 (by kernel_rfl) rfl #[.slice A0 l0.length c0, .int .i64 x10_1, .int .i64 (rd l1 x20_1), .int .i64 a2] rfl (by (try simp only [List.map_toArray, List.map_cons, List.map_nil]); first | done | rfl | (simp only [List.length_drop, List.length_take]; rfl)) ?_; (with_reducible refine (qY.calls k3 _ _ l0 x10_1 (rd l1 x20_1) a2 t307 t308 true _ ?side1 ?side2 A16.out).mono ?_); (case side1 => repeat (first | exact HR0.out | (with_reducible refine Kd.zI ?_ _) | (with_reducible refine Kd.zH ?_ _) | (with_reducible refine Kd.zL ?_))); (case side2 => exact HC0.out); rintro e w' ⟨rfl, ⟨nd, rfl⟩⟩; refine ⟨_, rfl, ?_⟩))
        go_ret2
        exact ⟨by first | rfl | (simp; done) | (simp [*]; done), by repeat (first | exact qU.refl _ | apply qU.step)⟩
       rw [if_neg c18] at H
       have c18b0 : decide (a3 < t307) = false := decide_eq_false c18
       clear c18
       replace H := Option.bind_eq_some_iff.mp H
       obtain ⟨t310, A190, H⟩ := H
       replace H : (qH.l0 k3 l0 a2 a3 (rd l1 x20_1) (wrap64 (x11_1 + t310)) l1 (l1.length : Int) (wrap64 (x20_1 + 1))) = some (r1, r2) := H
       have A19 := qa.mk A190
       clear A190
       have H' := qa.mk H
       clear H
       go_wp2_with (first | ((with_reducible refine zl (f := 32) rfl ?_); refine zM (some 54) rfl rfl Try.func32 (by kernel_rfl) rfl #[.slice A0 l0.length c0, .int .i64 x10_1, .int .i64 (rd l1 x20_1), .int .i64 a2] rfl (by (try simp only [List.map_toArray, List.map_cons, List.map_nil]); first | done | rfl | (simp only [List.length_drop, List.length_take]; rfl)) ?_; (with_reducible refine (qY.calls k3 _ _ l0 x10_1 (rd l1 x20_1) a2 t307 t308 true _ ?side1 ?side2 A16.out).mono ?_); (case side1 => repeat (first | exact HR0.out | (with_reducible refine Kd.zI ?_ _) | (with_reducible refine Kd.zH ?_ _) | (with_reducible refine Kd.zL ?_))); (case side2 => exact HC0.out); rintro e w' ⟨rfl, ⟨nd, rfl⟩⟩; refine ⟨_, rfl, ?_⟩) | ((with_reducible refine zl (f := 33) rfl ?_); refine zM (some 70) rfl rfl Try.func33 (by kernel_rfl) rfl #[.slice A0 l0.length c0, .int .i64 x10_1, .int .i64 (rd l1 x20_1), .int .i64 t308] rfl (by (try simp only [List.map_toArray, List.map_cons, List.map_nil]); first | done | rfl | (simp only [List.length_drop, List.length_take]; rfl)) ?_; (with_reducible refine (qQ.calls k3 _ _ l0 x10_1 (rd l1 x20_1) t308 t310 _ ?side1 ?side2 A19.out).mono ?_); (case side1 => repeat (first | exact HR0.out | (with_reducible refine Kd.zI ?_ _) | (with_reducible refine Kd.zH ?_ _) | (with_reducible refine Kd.zL ?_))); (case side2 => exact HC0.out); rintro e w' ⟨rfl, ⟨nd, rfl⟩⟩; refine ⟨_, rfl, ?_⟩))
       go_roundg k3
       case measure => have := HK1.out; have := HJ7.out; have := HK3.out; omega
       case rel => exact ⟨((rd l1 x20_1)), (wrap64 (x11_1 + t310)), (wrap64 (x20_1 + 1)), (by first | rfl | (simp; done) | (simp [*]; done)), (by first | rfl | (simp; done) | (simp [*]; done)), (by first | rfl | (simp; done) | (simp [*]; done)), H', ⟨by have := HK1.out; have := HJ7.out; have := HK3.out; omega⟩, by repeat (first | exact qU.refl _ | apply qU.step)⟩
end Go.Proofs.Ytfbanppdiglciaa.X
