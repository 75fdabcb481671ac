import Derived.Test.YtfbanppdiglciaaXx0
namespace Go.Proofs.Ytfbanppdiglciaa.X
open Go.RowKit Go.Proofs.YtfbanppdiglciaaW.PrintWords Go.Proofs.YtfbanppdiglciaaW.PrintLast Go.Proofs.YtfbanppdiglciaaW.PrintMore
attribute [local go_sem] jw jv jJ jI jf je jA jC
set_option linter.unusedVariables false
set_option linter.unusedSimpArgs false
def za.l0 : Nat → List Int → List Int → Int → Int → Option (Bool)
 | 0, _, _, _, _ => none
 | k + 1, x0, x1, x7, x8 => if x8 < x7 then (if x8 ≥ (x1.length : Int) then (some false) else (if 0 ≤ x8 then (if x8 < (x0.length : Int) then (if x8 < (x1.length : Int) then (if (rd x0 x8) = (rd x1 x8) then (za.l0 k x0 x1 x7 (wrap64 (x8 + 1))) else (some (decide ((rd x0 x8) < (rd x1 x8))))) else (none)) else (none)) else (none))) else (some (decide ((x0.length : Int) < (x1.length : Int))))
def za.f (k : Nat) (l0 : List Int) (l1 : List Int) : Option (Bool) := za.l0 k l0 l1 (l0.length : Int) 0
theorem za.zT : ∀ k, (∀ y0 y1 y2 y3, LeO (za.l0 k y0 y1 y2 y3) (za.l0 (k + 1) y0 y1 y2 y3))
 | 0 => fun _ _ _ _ r h => by simp [za.l0] at h
 | k + 1 => by
  have ih0 := za.zT k
  ·intro y0 y1 y2 y3
   unfold za.l0
   repeat' first
   | (with_reducible exact ih0 _ _ _ _)
   | (with_reducible exact LeO.refl _)
   | (with_reducible exact LeO.none _)
   | (with_reducible refine LeO.ite ?_ ?_)
   | (with_reducible refine LeO.bind ?_ (fun _ => ?_))
   | exact ih0 _ _ _ _
   | exact LeO.none _
   | refine LeO.ite ?_ ?_
   | refine LeO.bind ?_ (fun _ => ?_)
theorem za.mono : ∀ a0 a1 k, LeO (za.f k a0 a1) (za.f (k + 1) a0 a1) := by
 intro a0 a1 k
 have ih0 := za.zT k
 unfold za.f
 repeat' first
   | (with_reducible exact ih0 _ _ _ _)
   | (with_reducible exact LeO.refl _)
   | (with_reducible exact LeO.none _)
   | (with_reducible refine LeO.ite ?_ ?_)
   | (with_reducible refine LeO.bind ?_ (fun _ => ?_))
   | exact ih0 _ _ _ _
   | exact LeO.none _
   | refine LeO.ite ?_ ?_
   | refine LeO.bind ?_ (fun _ => ?_)
set_option maxHeartbeats 8000000 in
set_option maxRecDepth 100000 in
theorem za.calls (k : Nat) (A0 : Option Addr) (c0 : Nat) (l0 : List Int) (A1 : Option Addr) (c1 : Nat) (l1 : List Int) (r : Bool) (w : World) (hr0 : Kd.C (Kd.int .i64) w A0 l0.length l0) (hc0 : l0.length ≤ c0) (hr1 : Kd.C (Kd.int .i64) w A1 l1.length l1) (hc1 : l1.length ≤ c1) (h : za.f k l0 l1 = some r) :
  Calls Try.prog 18 #[.slice A0 l0.length c0, .slice A1 l1.length c1] w fun e w' => e = .returned (.bool r) ∧ qU w w' := by
 have HR0 := qa.mk hr0
 have HC0 := qa.mk hc0
 clear hr0 hc0
 have HR1 := qa.mk hr1
 have HC1 := qa.mk hc1
 clear hr1 hc1
 have H : (za.l0 k l0 l1 (l0.length : Int) 0) = some r := h
 clear h
 have H' := qa.mk H
 clear H
 go_enter Try.func18, Try.ntmps18
 go_wp2
 repeat (go_quiet (fail); try go_wp2)
 go_loopg [8] k (fun kq v8 w' => ∃ (x8_1 : Int), v8 = .int .i64 x8_1 ∧ qa (za.l0 kq l0 l1 (l0.length : Int) x8_1 = some r) ∧ qa (kq ≤ k) ∧ qU w w')
 case atStart => exact ⟨(0), (by first | rfl | (simp; done) | (simp [*]; done)), H', ⟨Nat.le_refl _⟩, by repeat (first | exact qU.refl _ | apply qU.step)⟩
 case round =>
  clear H'
  try clear c1
  try clear p2
  obtain ⟨x8_1, rfl, HA, HK1, ⟨m1, rfl⟩⟩ := hrel
  cases gk with
  | zero => exact absurd HA.out (by simp [za.l0])
  | succ k1 =>
   have H := HA.out
   clear HA
   simp only [za.l0] at H
   by_cases c3 : x8_1 < (l0.length : Int)
   case neg =>
    rw [if_neg c3] at H
    have c3b0 : decide (x8_1 < (l0.length : Int)) = false := decide_eq_false c3
    clear c3
    obtain rfl := Option.some.inj H
    go_wp2
    repeat (go_quiet (fail); try go_wp2)
    go_ret
    exact ⟨by first | rfl | (simp; done) | (simp [*]; done), by repeat (first | exact qU.refl _ | apply qU.step)⟩
   rw [if_pos c3] at H
   have c3b0 : decide (x8_1 < (l0.length : Int)) = true := decide_eq_true c3
   clear c3
   by_cases c4 : x8_1 ≥ (l1.length : Int)
   ·rw [if_pos c4] at H
    have c4b0 : decide ((l1.length : Int) ≤ x8_1) = true := decide_eq_true c4
    clear c4
    obtain rfl := Option.some.inj H
    go_wp2
    repeat (go_quiet (fail); try go_wp2)
    go_ret
    exact ⟨by first | rfl | (simp; done) | (simp [*]; done), by repeat (first | exact qU.refl _ | apply qU.step)⟩
   rw [if_neg c4] at H
   have c4b0 : decide ((l1.length : Int) ≤ x8_1) = false := decide_eq_false c4
   clear c4
   by_cases c5 : 0 ≤ x8_1
   case neg =>
    rw [if_neg c5] at H
    exact absurd H (by simp)
   rw [if_pos c5] at H
   have c5b0 : decide (0 ≤ x8_1) = true := decide_eq_true c5
   clear c5
   by_cases c6 : x8_1 < (l0.length : Int)
   case neg =>
    rw [if_neg c6] at H
    exact absurd H (by simp)
   rw [if_pos c6] at H
   have c6b0 : decide (x8_1 < (l0.length : Int)) = true := decide_eq_true c6
   clear c6
   by_cases c7 : x8_1 < (l1.length : Int)
   case neg =>
    rw [if_neg c7] at H
    exact absurd H (by simp)
   rw [if_pos c7] at H
   have c7b0 : decide (x8_1 < (l1.length : Int)) = true := decide_eq_true c7
   clear c7
   by_cases c8 : (rd l0 x8_1) = (rd l1 x8_1)
   ·rw [if_pos c8] at H
    have c8b0 : ((rd l0 x8_1) == (rd l1 x8_1)) = true := beq_iff_eq.mpr c8
    have c8b1 : ((rd l0 x8_1) != (rd l1 x8_1)) = false := bne_eq_false_iff_eq.mpr c8
    clear c8
    have H' := qa.mk H
    clear H
    have p311 : 0 ≤ (x8_1 : Int) := odt
    have q311 : x8_1 < (l0.length : Int) := odt
    obtain ⟨ad311, e311, hx311_0⟩ := Kd.zY HR0.out x8_1 p311 q311
    cases e311
    replace p311 := eq_true p311
    replace q311 := eq_true q311
    have p312 : 0 ≤ (x8_1 : Int) := odt
    have q312 : x8_1 < (l1.length : Int) := odt
    obtain ⟨ad312, e312, hx312_0⟩ := Kd.zY HR1.out x8_1 p312 q312
    cases e312
    replace p312 := eq_true p312
    replace q312 := eq_true q312
    go_wp2
    repeat (go_quiet (fail); try go_wp2)
    go_roundg k1
    case measure => have := HK1.out; omega
    case rel => exact ⟨(wrap64 (x8_1 + 1)), (by first | rfl | (simp; done) | (simp [*]; done)), H', ⟨by have := HK1.out; omega⟩, by repeat (first | exact qU.refl _ | apply qU.step)⟩
   rw [if_neg c8] at H
   have c8b0 : ((rd l0 x8_1) == (rd l1 x8_1)) = false := beq_eq_false_iff_ne.mpr c8
   have c8b1 : ((rd l0 x8_1) != (rd l1 x8_1)) = true := bne_iff_ne.mpr c8
   obtain rfl := Option.some.inj H
   have p311 : 0 ≤ (x8_1 : Int) := odt
   have q311 : x8_1 < (l0.length : Int) := odt
   obtain ⟨ad311, e311, hx311_0⟩ := Kd.zY HR0.out x8_1 p311 q311
   cases e311
   replace p311 := eq_true p311
   replace q311 := eq_true q311
   have p312 : 0 ≤ (x8_1 : Int) := odt
   have q312 : x8_1 < (l1.length : Int) := odt
   obtain ⟨ad312, e312, hx312_0⟩ := Kd.zY HR1.out x8_1 p312 q312
   cases e312
   replace p312 := eq_true p312
   replace q312 := eq_true q312
   have p313 : 0 ≤ (x8_1 : Int) := odt
   have q313 : x8_1 < (l0.length : Int) := odt
   obtain ⟨ad313, e313, hx313_0⟩ := Kd.zY HR0.out x8_1 p313 q313
   obtain rfl : ad311 = ad313 := (by injection e313)
   replace p313 := eq_true p313
   replace q313 := eq_true q313
   have p314 : 0 ≤ (x8_1 : Int) := odt
   have q314 : x8_1 < (l1.length : Int) := odt
   obtain ⟨ad314, e314, hx314_0⟩ := Kd.zY HR1.out x8_1 p314 q314
   obtain rfl : ad312 = ad314 := (by injection e314)
   replace p314 := eq_true p314
   replace q314 := eq_true q314
   go_wp2
   repeat (go_quiet (fail); try go_wp2)
   go_ret
   exact ⟨by first | rfl | (simp; done) | (simp [*]; done), by repeat (first | exact qU.refl _ | apply qU.step)⟩
end Go.Proofs.Ytfbanppdiglciaa.X
