import Derived.Test.YtonljpciadeafaaSx0
import Derived.Test.YtonljpciadeafaaSxPA
namespace Go.Proofs.Ytonljpciadeafaa.S
open Go.RowKit Go.Proofs.YtonljpciadeafaaW.PrintWords Go.Proofs.YtonljpciadeafaaW.PrintLast Go.Proofs.YtonljpciadeafaaW.PrintMore
attribute [local go_sem] zX zZ ji jk zR zQ zW zY
set_option linter.unusedVariables false
set_option linter.unusedSimpArgs false
theorem big_len_l : ∀ (k : Nat) (x0 : Int) (x5 : List Int) (x6 : Int) (r : List Int), qm.l0 k x0 x5 x6 = some r → r.length = x5.length
 | 0, _, _, _, _, h => by simp [qm.l0] at h
 | k + 1, x0, x5, x6, r, h => by
  unfold qm.l0 at h
  split at h
  ·split at h
   ·have := big_len_l k _ _ _ _ h
    rw [this, List.length_set]
   ·simp at h
  ·injection h with h
   rw [h]
theorem ZJ {k : Nat} {v n : Int} {r : List Int} (h : qm.f k v n = some r) : r.length = n.toNat := by
 unfold qm.f at h
 split at h
 ·split at h
  ·have := big_len_l _ _ _ _ _ h
   rw [this, List.length_replicate]
  simp at h
 simp at h
theorem ZT : ∀ (k : Nat) (x3 x7 : List Int) (x8 x9 : Int) (r : List Int), qy.l0 k x3 x7 x8 x9 = some r → x3.length ≤ r.length
 | 0, _, _, _, _, _, h => by simp [qy.l0] at h
 | k + 1, x3, x7, x8, x9, r, h => by
  unfold qy.l0 at h
  split at h
  ·split at h
   ·split at h
    ·split at h
     ·obtain ⟨t, ht, h⟩ := Option.bind_eq_some_iff.1 h
      split at h
      ·have := ZT k _ _ _ _ _ h
       rw [List.length_append] at this
       omega
      ·simp at h
     ·obtain ⟨t, ht, h⟩ := Option.bind_eq_some_iff.1 h
      split at h
      ·have := ZT k _ _ _ _ _ h
       rw [List.length_append] at this
       omega
      ·simp at h
    ·simp at h
   ·simp at h
  ·injection h with h
   rw [h]
   exact Nat.le_refl _
theorem two_ne {k : Nat} {xs r : List Int} (h : qy.f k xs = some r) (hx : 0 < xs.length) : r ≠ [] := by
 unfold qy.f at h
 cases k with
 | zero => simp [qy.l0] at h
 | succ k =>
  unfold qy.l0 at h
  rw [if_pos (by omega), if_pos (by omega), if_pos (by omega)] at h
  split at h
  ·obtain ⟨t, ht, h⟩ := Option.bind_eq_some_iff.1 h
   split at h
   ·have h1 := ZT k _ _ _ _ _ h
    have h2 := ZJ ht
    rw [List.length_append] at h1
    intro e
    rw [e] at h1
    simp at h1
    rw [h1] at h2
    simp at h2
   simp at h
  obtain ⟨t, ht, h⟩ := Option.bind_eq_some_iff.1 h
  split at h
  ·have h1 := ZT k _ _ _ _ _ h
   have h2 := ZJ ht
   rw [List.length_append] at h1
   intro e
   rw [e] at h1
   simp at h1
   rw [h1] at h2
   simp at h2
  simp at h
mutual
def qo.j0 : Nat → Int → List (S50) → Bool → Option (List Int × Int)
 | 0, _, _, _ => none
 | k + 1, x0, x1, x23 => if x23 = true then (some (([] : List Int), 35)) else (qo.l0 k x0 x1 x1 (x1.length : Int) 0)
def qo.l0 : Nat → Int → List (S50) → List (S50) → Int → Int → Option (List Int × Int)
 | 0, _, _, _, _, _ => none
 | k + 1, x0, x1, x24, x25, x26 => if x26 < x25 then (if 0 ≤ x26 then (if x26 < (x24.length : Int) then (if (((ql x24 x26).f0).size : Int) = 4 then (if x26 > 0 then (if 0 ≤ (wrap64 (x26 - 1)) then (if (wrap64 (x26 - 1)) < (x1.length : Int) then (if ((Op.bytesLess (((ql x1 (wrap64 (x26 - 1))).f0).toList) (((ql x24 x26).f0).toList)) = true) then (qo.l0 k x0 x1 x24 x25 (wrap64 (x26 + 1))) else (some (([] : List Int), 35))) else (none)) else (none)) else (qo.l0 k x0 x1 x24 x25 (wrap64 (x26 + 1)))) else (some (([] : List Int), 35))) else (none)) else (none)) else (if (x1.length : Int) > 64 then (some (([] : List Int), 33)) else (qo.l1 k x0 x1 (([] : List Int)) (([] : List Int)) x1 (x1.length : Int) 0))
def qo.l1 : Nat → Int → List (S50) → List Int → List Int → List (S50) → Int → Int → Option (List Int × Int)
 | 0, _, _, _, _, _, _, _ => none
 | k + 1, x0, x1, x8, x9, x57, x58, x59 => if x59 < x58 then (if 0 ≤ x59 then (if x59 < (x57.length : Int) then (if x9.length + ((ql x57 x59).f0).size < 140737488355328 then ((some (x9 ++ bytesOf ((ql x57 x59).f0) : List Int)).bind fun y234 => ((qB.f k ((ql x57 x59).f1)).bind fun t237 => ((qm.f k t237 4).bind fun t238 => (if y234.length + t238.length < 140737488355328 then ((some (y234 ++ t238 : List Int)).bind fun y241 => ((qm.f k (wrap64 ((wrap64 (12 + (wrap64 (16 * (x1.length : Int))))) + (x8.length : Int))) 4).bind fun t244 => (if y241.length + t244.length < 140737488355328 then ((some (y241 ++ t244 : List Int)).bind fun y247 => ((qm.f k (((ql x57 x59).f1).length : Int) 4).bind fun t250 => (if y247.length + t250.length < 140737488355328 then (if x8.length + ((ql x57 x59).f1).length < 140737488355328 then (qo.l2 k x0 x1 (x8 ++ ((ql x57 x59).f1)) (y247 ++ t250) x57 x58 x59) else (none)) else (none)))) else (none)))) else (none))))) else (none)) else (none)) else (none)) else ((some (([0, 1, 0, 0] : List Int) : List Int)).bind fun y196 => (if x0 = 2 then ((some (([79, 84, 84, 79] : List Int) : List Int)).bind fun y199 => ((qy.f k (([(x1.length : Int), 0, 0, 0] : List Int))).bind fun t205 => (if y199.length + t205.length < 140737488355328 then ((some (y199 ++ t205 : List Int)).bind fun y208 => (if y208.length + x9.length < 140737488355328 then ((some (y208 ++ x9 : List Int)).bind fun y211 => (if y211.length + x8.length < 140737488355328 then (some ((y211 ++ x8), 0)) else (none))) else (none))) else (none)))) else ((qy.f k (([(x1.length : Int), 0, 0, 0] : List Int))).bind fun t220 => (if y196.length + t220.length < 140737488355328 then ((some (y196 ++ t220 : List Int)).bind fun y223 => (if y223.length + x9.length < 140737488355328 then ((some (y223 ++ x9 : List Int)).bind fun y226 => (if y226.length + x8.length < 140737488355328 then (some ((y226 ++ x8), 0)) else (none))) else (none))) else (none)))))
def qo.l2 : Nat → Int → List (S50) → List Int → List Int → List (S50) → Int → Int → Option (List Int × Int)
 | 0, _, _, _, _, _, _, _ => none
 | k + 1, x0, x1, x8, x9, x57, x58, x59 => if ((x8.length : Int) % 4) = 0 then (if (wrap64 ((wrap64 (12 + (wrap64 (16 * (x1.length : Int))))) + (x8.length : Int))) > 1048576 then (some (([] : List Int), 33)) else (qo.l1 k x0 x1 x8 x9 x57 x58 (wrap64 (x59 + 1)))) else (if x8.length < 140737488355328 then (qo.l2 k x0 x1 (x8 ++ [0]) x9 x57 x58 x59) else (none))
end
def qo.f (k : Nat) (a0 : Int) (l1 : List (S50)) : Option (List Int × Int) := if a0 = 1 then (qo.j0 k a0 l1 ((l1.length : Int) == 0)) else (if a0 = 2 then (qo.j0 k a0 l1 ((l1.length : Int) == 0)) else (qo.j0 k a0 l1 true))
theorem qo.zP : ∀ k, (∀ y0 y1 y2, LeO (qo.j0 k y0 y1 y2) (qo.j0 (k + 1) y0 y1 y2)) ∧ (∀ y0 y1 y2 y3 y4, LeO (qo.l0 k y0 y1 y2 y3 y4) (qo.l0 (k + 1) y0 y1 y2 y3 y4)) ∧ (∀ y0 y1 y2 y3 y4 y5 y6, LeO (qo.l1 k y0 y1 y2 y3 y4 y5 y6) (qo.l1 (k + 1) y0 y1 y2 y3 y4 y5 y6)) ∧ (∀ y0 y1 y2 y3 y4 y5 y6, LeO (qo.l2 k y0 y1 y2 y3 y4 y5 y6) (qo.l2 (k + 1) y0 y1 y2 y3 y4 y5 y6))
 | 0 => ⟨fun _ _ _ r h => by simp [qo.j0] at h, fun _ _ _ _ _ r h => by simp [qo.l0] at h, fun _ _ _ _ _ _ _ r h => by simp [qo.l1] at h, fun _ _ _ _ _ _ _ r h => by simp [qo.l2] at h⟩
 | k + 1 => by
  obtain ⟨ih0, ih1, ih2, ih3⟩ := qo.zP k
  refine ⟨?_, ?_, ?_, ?_⟩
  ·intro y0 y1 y2
   unfold qo.j0
   repeat' first
   | (with_reducible exact ih0 _ _ _)
   | (with_reducible exact ih1 _ _ _ _ _)
   | (with_reducible exact ih2 _ _ _ _ _ _ _)
   | (with_reducible exact ih3 _ _ _ _ _ _ _)
   | (with_reducible exact qm.mono _ _ _)
   | (with_reducible exact qy.mono _ _)
   | (with_reducible exact qB.mono _ _)
   | (with_reducible exact LeO.refl _)
   | (with_reducible exact LeO.none _)
   | (with_reducible refine LeO.ite ?_ ?_)
   | (with_reducible refine LeO.bind ?_ (fun _ => ?_))
   | exact ih0 _ _ _
   | exact ih1 _ _ _ _ _
   | exact ih2 _ _ _ _ _ _ _
   | exact ih3 _ _ _ _ _ _ _
   | exact qm.mono _ _ _
   | exact qy.mono _ _
   | exact qB.mono _ _
   | exact LeO.none _
   | refine LeO.ite ?_ ?_
   | refine LeO.bind ?_ (fun _ => ?_)
  ·intro y0 y1 y2 y3 y4
   unfold qo.l0
   repeat' first
   | (with_reducible exact ih0 _ _ _)
   | (with_reducible exact ih1 _ _ _ _ _)
   | (with_reducible exact ih2 _ _ _ _ _ _ _)
   | (with_reducible exact ih3 _ _ _ _ _ _ _)
   | (with_reducible exact qm.mono _ _ _)
   | (with_reducible exact qy.mono _ _)
   | (with_reducible exact qB.mono _ _)
   | (with_reducible exact LeO.refl _)
   | (with_reducible exact LeO.none _)
   | (with_reducible refine LeO.ite ?_ ?_)
   | (with_reducible refine LeO.bind ?_ (fun _ => ?_))
   | exact ih0 _ _ _
   | exact ih1 _ _ _ _ _
   | exact ih2 _ _ _ _ _ _ _
   | exact ih3 _ _ _ _ _ _ _
   | exact qm.mono _ _ _
   | exact qy.mono _ _
   | exact qB.mono _ _
   | exact LeO.none _
   | refine LeO.ite ?_ ?_
   | refine LeO.bind ?_ (fun _ => ?_)
  ·intro y0 y1 y2 y3 y4 y5 y6
   unfold qo.l1
   repeat' first
   | (with_reducible exact ih0 _ _ _)
   | (with_reducible exact ih1 _ _ _ _ _)
   | (with_reducible exact ih2 _ _ _ _ _ _ _)
   | (with_reducible exact ih3 _ _ _ _ _ _ _)
   | (with_reducible exact qm.mono _ _ _)
   | (with_reducible exact qy.mono _ _)
   | (with_reducible exact qB.mono _ _)
   | (with_reducible exact LeO.refl _)
   | (with_reducible exact LeO.none _)
   | (with_reducible refine LeO.ite ?_ ?_)
   | (with_reducible refine LeO.bind ?_ (fun _ => ?_))
   | exact ih0 _ _ _
   | exact ih1 _ _ _ _ _
   | exact ih2 _ _ _ _ _ _ _
   | exact ih3 _ _ _ _ _ _ _
   | exact qm.mono _ _ _
   | exact qy.mono _ _
   | exact qB.mono _ _
   | exact LeO.none _
   | refine LeO.ite ?_ ?_
   | refine LeO.bind ?_ (fun _ => ?_)
  ·intro y0 y1 y2 y3 y4 y5 y6
   unfold qo.l2
   repeat' first
   | (with_reducible exact ih0 _ _ _)
   | (with_reducible exact ih1 _ _ _ _ _)
   | (with_reducible exact ih2 _ _ _ _ _ _ _)
   | (with_reducible exact ih3 _ _ _ _ _ _ _)
   | (with_reducible exact qm.mono _ _ _)
   | (with_reducible exact qy.mono _ _)
   | (with_reducible exact qB.mono _ _)
   | (with_reducible exact LeO.refl _)
   | (with_reducible exact LeO.none _)
   | (with_reducible refine LeO.ite ?_ ?_)
   | (with_reducible refine LeO.bind ?_ (fun _ => ?_))
   | exact ih0 _ _ _
   | exact ih1 _ _ _ _ _
   | exact ih2 _ _ _ _ _ _ _
   | exact ih3 _ _ _ _ _ _ _
   | exact qm.mono _ _ _
   | exact qy.mono _ _
   | exact qB.mono _ _
   | exact LeO.none _
   | refine LeO.ite ?_ ?_
   | refine LeO.bind ?_ (fun _ => ?_)
theorem qo.mono : ∀ a0 a1 k, LeO (qo.f k a0 a1) (qo.f (k + 1) a0 a1) := by
 intro a0 a1 k
 obtain ⟨ih0, ih1, ih2, ih3⟩ := qo.zP k
 unfold qo.f
 repeat' first
   | (with_reducible exact ih0 _ _ _)
   | (with_reducible exact ih1 _ _ _ _ _)
   | (with_reducible exact ih2 _ _ _ _ _ _ _)
   | (with_reducible exact ih3 _ _ _ _ _ _ _)
   | (with_reducible exact qm.mono _ _ _)
   | (with_reducible exact qy.mono _ _)
   | (with_reducible exact qB.mono _ _)
   | (with_reducible exact LeO.refl _)
   | (with_reducible exact LeO.none _)
   | (with_reducible refine LeO.ite ?_ ?_)
   | (with_reducible refine LeO.bind ?_ (fun _ => ?_))
   | exact ih0 _ _ _
   | exact ih1 _ _ _ _ _
   | exact ih2 _ _ _ _ _ _ _
   | exact ih3 _ _ _ _ _ _ _
   | exact qm.mono _ _ _
   | exact qy.mono _ _
   | exact qB.mono _ _
   | exact LeO.none _
   | refine LeO.ite ?_ ?_
   | refine LeO.bind ?_ (fun _ => ?_)
set_option maxHeartbeats 8000000 in
set_option maxRecDepth 100000 in
theorem qo.calls (k : Nat) (a0 : Int) (A1 : Option Addr) (c1 : Nat) (l1 : List (S50)) (r1 : List Int) (r2 : Int) (w : World) (hr1 : Kd.C k50 w A1 l1.length l1) (hc1 : l1.length ≤ c1) (h : qo.f k a0 l1 = some (r1, r2)) :
  Calls Try.prog 19 #[.int .i64 a0, .slice A1 l1.length c1] w fun e w' => ∃ v0_ : Value, e = .returned (.tuple #[v0_, .int .i64 r2]) ∧ Kd.R (Kd.int .u8) 5 w' w.heap.size (fun _ => True) v0_ r1 ∧ Below w.heap.size w w' := by
 have hu50 := Try.underlying50
 have HR1 := qa.mk hr1
 have HC1 := qa.mk hc1
 clear hr1 hc1
 have HB := qa.mk (Below.refl w.heap.size w)
 have H : (if a0 = 1 then (qo.j0 k a0 l1 ((l1.length : Int) == 0)) else (if a0 = 2 then (qo.j0 k a0 l1 ((l1.length : Int) == 0)) else (qo.j0 k a0 l1 true))) = some (r1, r2) := h
 clear h
 have HC3 := qa.mk H
 clear H
 go_enter Try.func19, Try.ntmps19
 go_upto_region 1 with (fail)
 repeat (go_quiet (fail); go_upto_region 1 with (fail))
 go_cut [23] (fun v23 wc => ∃ (kq : Nat) (x23_2 : Bool), v23 = .bool x23_2 ∧ qa (qo.j0 kq a0 l1 x23_2 = some (r1, r2)) ∧ qa (kq ≤ k) ∧ qa (Below w.heap.size w wc))
 case first =>
  have H := HC3.out
  clear HC3
  by_cases c4 : a0 = 1
  ·rw [if_pos c4] at H
   have c4b0 : (a0 == 1) = true := beq_iff_eq.mpr c4
   have c4b1 : (a0 != 1) = false := bne_eq_false_iff_eq.mpr c4
   clear c4
   (first | rw [c4b0] | (simp only [qg, qh]; rw [c4b0]) | skip)
   have H' := qa.mk H
   clear H
   go_wp2
   repeat (go_quiet (fail); try go_wp2)
   go_meet
   case rel => exact ⟨_, (((l1.length : Int) == 0)), (by first | rfl | (simp; done) | (simp [*]; done)), H', ⟨by first | omega | exact Nat.le_refl _⟩, ⟨bq HB⟩⟩
  rw [if_neg c4] at H
  have c4b0 : (a0 == 1) = false := beq_eq_false_iff_ne.mpr c4
  have c4b1 : (a0 != 1) = true := bne_iff_ne.mpr c4
  (first | rw [c4b0] | (simp only [qg, qh]; rw [c4b0]) | skip)
  by_cases c5 : a0 = 2
  case neg =>
   rw [if_neg c5] at H
   have c5b0 : (a0 == 2) = false := beq_eq_false_iff_ne.mpr c5
   have c5b1 : (a0 != 2) = true := bne_iff_ne.mpr c5
   have H' := qa.mk H
   clear H
   go_wp2
   repeat (go_quiet (fail); try go_wp2)
   go_meet
   case rel => exact ⟨_, (true), (by first | rfl | (simp; done) | (simp [*]; done)), H', ⟨by first | omega | exact Nat.le_refl _⟩, ⟨bq HB⟩⟩
  rw [if_pos c5] at H
  have c5b0 : (a0 == 2) = true := beq_iff_eq.mpr c5
  have c5b1 : (a0 != 2) = false := bne_eq_false_iff_eq.mpr c5
  clear c5
  have H' := qa.mk H
  clear H
  go_wp2
  repeat (go_quiet (fail); try go_wp2)
  go_meet
  case rel => exact ⟨_, (((l1.length : Int) == 0)), (by first | rfl | (simp; done) | (simp [*]; done)), H', ⟨by first | omega | exact Nat.le_refl _⟩, ⟨bq HB⟩⟩
 case rest =>
  clear HC3
  try clear c1
  try clear p2
  try clear c4
  try clear c4b0
  try clear c4b1
  try clear c5
  try clear c5b0
  try clear c5b1
  obtain ⟨kq, x23_2, rfl, HA, HJ2, HB⟩ := hcut
  cases kq with
  | zero => exact absurd HA.out (by simp [qo.j0])
  | succ kj2 =>
   have H := HA.out
   clear HA
   simp only [qo.j0] at H
   by_cases c6 : x23_2 = true
   ·subst c6
    have H1 : (some (([] : List Int), 35)) = some (r1, r2) := by rw [if_pos rfl] at H; exact H
    clear H
    have H := H1
    clear H1
    simp only [Option.some.injEq, Prod.mk.injEq] at H
    obtain ⟨rfl, rfl⟩ := H
    go_wp2
    repeat (go_quiet (fail); try go_wp2)
    go_ret2
    exact ⟨_, by first | rfl | (simp [qW, qV] <;> rfl) | (simp [*, qW, qV] <;> rfl), by first | exact Kd.jE _ _ _ _ _ | exact Kd.N_nil _ _ _ _ _ | exact Kd.V_nil _ _ _ _ _ | exact Kd.Q_nil _ _ _ _ _ | exact Kd.S_nil _ _ _ _ _, bq HB⟩
   replace c6 := Bool.eq_false_iff.mpr c6
   subst c6
   have H1 : (qo.l0 kj2 a0 l1 l1 (l1.length : Int) 0) = some (r1, r2) := by rw [if_neg (show ¬ (false = true) by decide)] at H; exact H
   clear H
   have H := H1
   clear H1
   have H' := qa.mk H
   clear H
   go_wp2
   repeat (go_quiet (fail); try go_wp2)
   go_loopg [26] kj2 (fun kq v26 w' => ∃ (x26_2 : Int), v26 = .int .i64 x26_2 ∧ qa (qo.l0 kq a0 l1 l1 (l1.length : Int) x26_2 = some (r1, r2)) ∧ qa (kq ≤ kj2) ∧ qa (Below w.heap.size w w'))
   case atStart => exact ⟨(0), (by first | rfl | (simp; done) | (simp [*]; done)), H', ⟨Nat.le_refl _⟩, ⟨bq HB⟩⟩
   case round =>
    clear H'
    try clear c1
    try clear p2
    try clear c4
    try clear c4b0
    try clear c4b1
    try clear c5
    try clear c5b0
    try clear c5b1
    try clear c6
    try clear p2
    obtain ⟨x26_2, rfl, HA, HK2, HB⟩ := hrel
    cases gk with
    | zero => exact absurd HA.out (by simp [qo.l0])
    | succ k2 =>
     have H := HA.out
     clear HA
     simp only [qo.l0] at H
     by_cases c7 : x26_2 < (l1.length : Int)
     ·rw [if_pos c7] at H
      have c7b0 : decide (x26_2 < (l1.length : Int)) = true := decide_eq_true c7
      clear c7
      by_cases c8 : 0 ≤ x26_2
      case neg =>
       rw [if_neg c8] at H
       exact absurd H (by simp)
      rw [if_pos c8] at H
      have c8b0 : decide (0 ≤ x26_2) = true := decide_eq_true c8
      clear c8
      by_cases c9 : x26_2 < (l1.length : Int)
      case neg =>
       rw [if_neg c9] at H
       exact absurd H (by simp)
      rw [if_pos c9] at H
      have c9b0 : decide (x26_2 < (l1.length : Int)) = true := decide_eq_true c9
      clear c9
      by_cases c10 : (((ql l1 x26_2).f0).size : Int) = 4
      case neg =>
       rw [if_neg c10] at H
       have c10b0 : ((((ql l1 x26_2).f0).size : Int) == 4) = false := beq_eq_false_iff_ne.mpr c10
       have c10b1 : ((((ql l1 x26_2).f0).size : Int) != 4) = true := bne_iff_ne.mpr c10
       simp only [Option.some.injEq, Prod.mk.injEq] at H
       obtain ⟨rfl, rfl⟩ := H
       have p187 : 0 ≤ (x26_2 : Int) := odt
       have q187 : x26_2 < (l1.length : Int) := odt
       obtain ⟨ad187, A187_1, c187_1, e187, hx187_0, hx187_1, hl187_1, hi187_1⟩ := QB HR1.out x26_2 p187 q187
       cases e187
       replace hx187_0 := (HB.out.cell (World.block_lt_of_cell? w _ hx187_0)).trans hx187_0
       replace hx187_1 := (HB.out.cell (World.block_lt_of_cell? w _ hx187_1)).trans hx187_1
       have HR187_1 := qa.mk hi187_1
       have HC187_1 := qa.mk hl187_1
       clear hi187_1 hl187_1
       replace p187 := eq_true p187
       replace q187 := eq_true q187
       go_wp2_with (first | ((with_reducible refine qX (N := 7) rfl ?_); (try (refine qU (by rfl) ?_; dsimp only)); refine zt ?hg (N := 7) ?hd (cs := #[.string (⟨#[]⟩ : ByteArray), .slice none 0 0]) (t := 50) ?hr ?_; (case hd => rfl); (case hg => rfl); (case hr => first | (go_simp; done) | (go_simp; rfl)); intro gb188 hg w22 hbox hb; have n0_ := qa.mk (qc (bq HB) hb); have n1_ := qa.mk (hbox); have n2_ := qa.mk ((by rw [hg]; exact (qi (bq HB)) : w.heap.size ≤ gb188)); have n3_ := qa.mk ((by rw [hg]; exact (qi (bq HB)) : w.heap.size ≤ gb188)); clear HB; have HB := n0_; have BK188 := n1_; have GW188 := n2_; have GE188 := n3_; clear n0_ n1_ n2_ n3_; clear hb hbox hg; have hcz23_0 : w22.cell? ⟨gb188, 0, none⟩ = some (.string (⟨#[]⟩ : ByteArray)) := (qb BK188.out 0).trans rfl; have hcz23_1 : w22.cell? ⟨gb188, 1, none⟩ = some (.slice none 0 0) := (qb BK188.out 1).trans rfl; have hfz23_0 := qd BK188.out 0; have hfz23_1 := qd BK188.out 1))
       repeat (go_quiet (first | ((with_reducible refine qX (N := 7) rfl ?_); (try (refine qU (by rfl) ?_; dsimp only)); refine zt ?hg (N := 7) ?hd (cs := #[.string (⟨#[]⟩ : ByteArray), .slice none 0 0]) (t := 50) ?hr ?_; (case hd => rfl); (case hg => rfl); (case hr => first | (go_simp; done) | (go_simp; rfl)); intro gb188 hg w22 hbox hb; have n0_ := qa.mk (qc (bq HB) hb); have n1_ := qa.mk (hbox); have n2_ := qa.mk ((by rw [hg]; exact (qi (bq HB)) : w.heap.size ≤ gb188)); have n3_ := qa.mk ((by rw [hg]; exact (qi (bq HB)) : w.heap.size ≤ gb188)); clear HB; have HB := n0_; have BK188 := n1_; have GW188 := n2_; have GE188 := n3_; clear n0_ n1_ n2_ n3_; clear hb hbox hg; have hcz23_0 : w22.cell? ⟨gb188, 0, none⟩ = some (.string (⟨#[]⟩ : ByteArray)) := (qb BK188.out 0).trans rfl; have hcz23_1 : w22.cell? ⟨gb188, 1, none⟩ = some (.slice none 0 0) := (qb BK188.out 1).trans rfl; have hfz23_0 := qd BK188.out 0; have hfz23_1 := qd BK188.out 1)); try go_wp2_with (first | ((with_reducible refine qX (N := 7) rfl ?_); (try (refine qU (by rfl) ?_; dsimp only)); refine zt ?hg (N := 7) ?hd (cs := #[.string (⟨#[]⟩ : ByteArray), .slice none 0 0]) (t := 50) ?hr ?_; (case hd => rfl); (case hg => rfl); (case hr => first | (go_simp; done) | (go_simp; rfl)); intro gb188 hg w22 hbox hb; have n0_ := qa.mk (qc (bq HB) hb); have n1_ := qa.mk (hbox); have n2_ := qa.mk ((by rw [hg]; exact (qi (bq HB)) : w.heap.size ≤ gb188)); have n3_ := qa.mk ((by rw [hg]; exact (qi (bq HB)) : w.heap.size ≤ gb188)); clear HB; have HB := n0_; have BK188 := n1_; have GW188 := n2_; have GE188 := n3_; clear n0_ n1_ n2_ n3_; clear hb hbox hg; have hcz23_0 : w22.cell? ⟨gb188, 0, none⟩ = some (.string (⟨#[]⟩ : ByteArray)) := (qb BK188.out 0).trans rfl; have hcz23_1 : w22.cell? ⟨gb188, 1, none⟩ = some (.slice none 0 0) := (qb BK188.out 1).trans rfl; have hfz23_0 := qd BK188.out 0; have hfz23_1 := qd BK188.out 1)))
       go_ret2
       exact ⟨_, by first | rfl | (simp [qW, qV] <;> rfl) | (simp [*, qW, qV] <;> rfl), by first | exact Kd.jE _ _ _ _ _ | exact Kd.N_nil _ _ _ _ _ | exact Kd.V_nil _ _ _ _ _ | exact Kd.Q_nil _ _ _ _ _ | exact Kd.S_nil _ _ _ _ _, bs HB GE188⟩
      rw [if_pos c10] at H
      have c10b0 : ((((ql l1 x26_2).f0).size : Int) == 4) = true := beq_iff_eq.mpr c10
      have c10b1 : ((((ql l1 x26_2).f0).size : Int) != 4) = false := bne_eq_false_iff_eq.mpr c10
      clear c10
      by_cases c11 : x26_2 > 0
      case neg =>
       rw [if_neg c11] at H
       have c11b0 : decide (0 < x26_2) = false := decide_eq_false c11
       clear c11
       have H' := qa.mk H
       clear H
       have p187 : 0 ≤ (x26_2 : Int) := odt
       have q187 : x26_2 < (l1.length : Int) := odt
       obtain ⟨ad187, A187_1, c187_1, e187, hx187_0, hx187_1, hl187_1, hi187_1⟩ := QB HR1.out x26_2 p187 q187
       cases e187
       replace hx187_0 := (HB.out.cell (World.block_lt_of_cell? w _ hx187_0)).trans hx187_0
       replace hx187_1 := (HB.out.cell (World.block_lt_of_cell? w _ hx187_1)).trans hx187_1
       have HR187_1 := qa.mk hi187_1
       have HC187_1 := qa.mk hl187_1
       clear hi187_1 hl187_1
       replace p187 := eq_true p187
       replace q187 := eq_true q187
       go_wp2_with (first | ((with_reducible refine qX (N := 7) rfl ?_); (try (refine qU (by rfl) ?_; dsimp only)); refine zt ?hg (N := 7) ?hd (cs := #[.string (⟨#[]⟩ : ByteArray), .slice none 0 0]) (t := 50) ?hr ?_; (case hd => rfl); (case hg => rfl); (case hr => first | (go_simp; done) | (go_simp; rfl)); intro gb188 hg w20 hbox hb; have n0_ := qa.mk (qc (bq HB) hb); have n1_ := qa.mk (hbox); have n2_ := qa.mk ((by rw [hg]; exact (qi (bq HB)) : w.heap.size ≤ gb188)); have n3_ := qa.mk ((by rw [hg]; exact (qi (bq HB)) : w.heap.size ≤ gb188)); clear HB; have HB := n0_; have BK188 := n1_; have GW188 := n2_; have GE188 := n3_; clear n0_ n1_ n2_ n3_; clear hb hbox hg; have hcz21_0 : w20.cell? ⟨gb188, 0, none⟩ = some (.string (⟨#[]⟩ : ByteArray)) := (qb BK188.out 0).trans rfl; have hcz21_1 : w20.cell? ⟨gb188, 1, none⟩ = some (.slice none 0 0) := (qb BK188.out 1).trans rfl; have hfz21_0 := qd BK188.out 0; have hfz21_1 := qd BK188.out 1))
       repeat (go_quiet (first | ((with_reducible refine qX (N := 7) rfl ?_); (try (refine qU (by rfl) ?_; dsimp only)); refine zt ?hg (N := 7) ?hd (cs := #[.string (⟨#[]⟩ : ByteArray), .slice none 0 0]) (t := 50) ?hr ?_; (case hd => rfl); (case hg => rfl); (case hr => first | (go_simp; done) | (go_simp; rfl)); intro gb188 hg w20 hbox hb; have n0_ := qa.mk (qc (bq HB) hb); have n1_ := qa.mk (hbox); have n2_ := qa.mk ((by rw [hg]; exact (qi (bq HB)) : w.heap.size ≤ gb188)); have n3_ := qa.mk ((by rw [hg]; exact (qi (bq HB)) : w.heap.size ≤ gb188)); clear HB; have HB := n0_; have BK188 := n1_; have GW188 := n2_; have GE188 := n3_; clear n0_ n1_ n2_ n3_; clear hb hbox hg; have hcz21_0 : w20.cell? ⟨gb188, 0, none⟩ = some (.string (⟨#[]⟩ : ByteArray)) := (qb BK188.out 0).trans rfl; have hcz21_1 : w20.cell? ⟨gb188, 1, none⟩ = some (.slice none 0 0) := (qb BK188.out 1).trans rfl; have hfz21_0 := qd BK188.out 0; have hfz21_1 := qd BK188.out 1)); try go_wp2_with (first | ((with_reducible refine qX (N := 7) rfl ?_); (try (refine qU (by rfl) ?_; dsimp only)); refine zt ?hg (N := 7) ?hd (cs := #[.string (⟨#[]⟩ : ByteArray), .slice none 0 0]) (t := 50) ?hr ?_; (case hd => rfl); (case hg => rfl); (case hr => first | (go_simp; done) | (go_simp; rfl)); intro gb188 hg w20 hbox hb; have n0_ := qa.mk (qc (bq HB) hb); have n1_ := qa.mk (hbox); have n2_ := qa.mk ((by rw [hg]; exact (qi (bq HB)) : w.heap.size ≤ gb188)); have n3_ := qa.mk ((by rw [hg]; exact (qi (bq HB)) : w.heap.size ≤ gb188)); clear HB; have HB := n0_; have BK188 := n1_; have GW188 := n2_; have GE188 := n3_; clear n0_ n1_ n2_ n3_; clear hb hbox hg; have hcz21_0 : w20.cell? ⟨gb188, 0, none⟩ = some (.string (⟨#[]⟩ : ByteArray)) := (qb BK188.out 0).trans rfl; have hcz21_1 : w20.cell? ⟨gb188, 1, none⟩ = some (.slice none 0 0) := (qb BK188.out 1).trans rfl; have hfz21_0 := qd BK188.out 0; have hfz21_1 := qd BK188.out 1)))
       go_roundg k2
       case measure => have := HJ2.out; have := HK2.out; omega
       case rel => exact ⟨(wrap64 (x26_2 + 1)), (by first | rfl | (simp; done) | (simp [*]; done)), H', ⟨by have := HJ2.out; have := HK2.out; omega⟩, ⟨bs HB GE188⟩⟩
      rw [if_pos c11] at H
      have c11b0 : decide (0 < x26_2) = true := decide_eq_true c11
      clear c11
      obtain ⟨ji12, hji12⟩ : ∃ j_ : Int, (wrap64 (x26_2 - 1)) = j_ := ⟨_, rfl⟩
      replace H : (if 0 ≤ (ji12) then (if (ji12) < (l1.length : Int) then (if ((Op.bytesLess (((ql l1 (ji12)).f0).toList) (((ql l1 x26_2).f0).toList)) = true) then (qo.l0 k2 a0 l1 l1 (l1.length : Int) (wrap64 (x26_2 + 1))) else (some (([] : List Int), 35))) else (none)) else (none)) = some (r1, r2) := by first | (rw [hji12] at H; exact H) | (simp only [hji12] at H ⊢; exact H)
      have hji12w : (IntKind.i64.wrap (x26_2 - 1)) = ji12 := (qg _).trans hji12
      by_cases c13 : 0 ≤ (ji12)
      case neg =>
       rw [if_neg c13] at H
       exact absurd H (by simp)
      rw [if_pos c13] at H
      have c13b0 : decide (0 ≤ (ji12)) = true := decide_eq_true c13
      clear c13
      by_cases c14 : (ji12) < (l1.length : Int)
      case neg =>
       rw [if_neg c14] at H
       exact absurd H (by simp)
      rw [if_pos c14] at H
      have c14b0 : decide ((ji12) < (l1.length : Int)) = true := decide_eq_true c14
      clear c14
      by_cases c15 : ((Op.bytesLess (((ql l1 (ji12)).f0).toList) (((ql l1 x26_2).f0).toList)) = true)
      ·rw [if_pos c15] at H
       have c15b0 : (Op.bytesLess (((ql l1 (ji12)).f0).toList) (((ql l1 x26_2).f0).toList)) = true := c15
       clear c15
       have H' := qa.mk H
       clear H
       have p187 : 0 ≤ (x26_2 : Int) := odt
       have q187 : x26_2 < (l1.length : Int) := odt
       obtain ⟨ad187, A187_1, c187_1, e187, hx187_0, hx187_1, hl187_1, hi187_1⟩ := QB HR1.out x26_2 p187 q187
       cases e187
       replace hx187_0 := (HB.out.cell (World.block_lt_of_cell? w _ hx187_0)).trans hx187_0
       replace hx187_1 := (HB.out.cell (World.block_lt_of_cell? w _ hx187_1)).trans hx187_1
       have HR187_1 := qa.mk hi187_1
       have HC187_1 := qa.mk hl187_1
       clear hi187_1 hl187_1
       replace p187 := eq_true p187
       replace q187 := eq_true q187
       go_wp2_with (first | ((with_reducible refine qX (N := 7) rfl ?_); (try (refine qU (by rfl) ?_; dsimp only)); refine zt ?hg (N := 7) ?hd (cs := #[.string (⟨#[]⟩ : ByteArray), .slice none 0 0]) (t := 50) ?hr ?_; (case hd => rfl); (case hg => rfl); (case hr => first | (go_simp; done) | (go_simp; rfl)); intro gb188 hg w16 hbox hb; have n0_ := qa.mk (qc (bq HB) hb); have n1_ := qa.mk (hbox); have n2_ := qa.mk ((by rw [hg]; exact (qi (bq HB)) : w.heap.size ≤ gb188)); have n3_ := qa.mk ((by rw [hg]; exact (qi (bq HB)) : w.heap.size ≤ gb188)); clear HB; have HB := n0_; have BK188 := n1_; have GW188 := n2_; have GE188 := n3_; clear n0_ n1_ n2_ n3_; clear hb hbox hg; have hcz17_0 : w16.cell? ⟨gb188, 0, none⟩ = some (.string (⟨#[]⟩ : ByteArray)) := (qb BK188.out 0).trans rfl; have hcz17_1 : w16.cell? ⟨gb188, 1, none⟩ = some (.slice none 0 0) := (qb BK188.out 1).trans rfl; have hfz17_0 := qd BK188.out 0; have hfz17_1 := qd BK188.out 1; have p189 : 0 ≤ ((ji12) : Int) := odt; have q189 : (ji12) < (l1.length : Int) := odt; obtain ⟨ad189, A189_1, c189_1, e189, hx189_0, hx189_1, hl189_1, hi189_1⟩ := QB HR1.out (ji12) p189 q189; obtain rfl : ad187 = ad189 := (by injection e189); have hn189_0 : ad187.block ≠ gb188 := Nat.ne_of_lt (Nat.lt_of_lt_of_le (by have := World.block_lt_of_cell? _ _ hx189_0; first | rwa [add_block] at this | exact this) GW188.out); have hn189_1 : ad187.block ≠ gb188 := Nat.ne_of_lt (Nat.lt_of_lt_of_le (by have := World.block_lt_of_cell? _ _ hx189_0; first | rwa [add_block] at this | exact this) GW188.out); replace hx189_0 := (HB.out.cell (World.block_lt_of_cell? w _ hx189_0)).trans hx189_0; replace hx189_1 := (HB.out.cell (World.block_lt_of_cell? w _ hx189_1)).trans hx189_1; have HR189_1 := qa.mk hi189_1; have HC189_1 := qa.mk hl189_1; clear hi189_1 hl189_1; replace hx189_0 := (cell_far (p := ⟨gb188, 0, none⟩) (by first | (rw [add_block]; exact hn189_0) | (show (Addr.add _ _).block ≠ _; rw [add_block]; exact hn189_0) | exact hn189_0) (.string ((ql l1 x26_2).f0))).trans hx189_0; replace hx189_1 := (cell_far (p := ⟨gb188, 0, none⟩) (by first | (rw [add_block]; exact hn189_0) | (show (Addr.add _ _).block ≠ _; rw [add_block]; exact hn189_0) | exact hn189_0) (.string ((ql l1 x26_2).f0))).trans hx189_1; replace hx189_0 := (cell_far (p := ⟨gb188, 1, none⟩) (by first | (rw [add_block]; exact hn189_1) | (show (Addr.add _ _).block ≠ _; rw [add_block]; exact hn189_1) | exact hn189_1) (.slice A187_1 ((ql l1 x26_2).f1).length c187_1)).trans hx189_0; replace hx189_1 := (cell_far (p := ⟨gb188, 1, none⟩) (by first | (rw [add_block]; exact hn189_1) | (show (Addr.add _ _).block ≠ _; rw [add_block]; exact hn189_1) | exact hn189_1) (.slice A187_1 ((ql l1 x26_2).f1).length c187_1)).trans hx189_1; (try have hy189_0 := fun (n_ : Nat) => (show ((((w16.drewN n_).setCell ⟨gb188, 0, none⟩ (.string ((ql l1 x26_2).f0))).setCell ⟨gb188, 1, none⟩ (.slice A187_1 ((ql l1 x26_2).f1).length c187_1))).cell? _ = some _ from hx189_0)); (try have hy189_1 := fun (n_ : Nat) => (show ((((w16.drewN n_).setCell ⟨gb188, 0, none⟩ (.string ((ql l1 x26_2).f0))).setCell ⟨gb188, 1, none⟩ (.slice A187_1 ((ql l1 x26_2).f1).length c187_1))).cell? _ = some _ from hx189_1)); clear hn189_0; clear hn189_1; replace p189 := eq_true p189; replace q189 := eq_true q189))
       repeat (go_quiet (first | ((with_reducible refine qX (N := 7) rfl ?_); (try (refine qU (by rfl) ?_; dsimp only)); refine zt ?hg (N := 7) ?hd (cs := #[.string (⟨#[]⟩ : ByteArray), .slice none 0 0]) (t := 50) ?hr ?_; (case hd => rfl); (case hg => rfl); (case hr => first | (go_simp; done) | (go_simp; rfl)); intro gb188 hg w16 hbox hb; have n0_ := qa.mk (qc (bq HB) hb); have n1_ := qa.mk (hbox); have n2_ := qa.mk ((by rw [hg]; exact (qi (bq HB)) : w.heap.size ≤ gb188)); have n3_ := qa.mk ((by rw [hg]; exact (qi (bq HB)) : w.heap.size ≤ gb188)); clear HB; have HB := n0_; have BK188 := n1_; have GW188 := n2_; have GE188 := n3_; clear n0_ n1_ n2_ n3_; clear hb hbox hg; have hcz17_0 : w16.cell? ⟨gb188, 0, none⟩ = some (.string (⟨#[]⟩ : ByteArray)) := (qb BK188.out 0).trans rfl; have hcz17_1 : w16.cell? ⟨gb188, 1, none⟩ = some (.slice none 0 0) := (qb BK188.out 1).trans rfl; have hfz17_0 := qd BK188.out 0; have hfz17_1 := qd BK188.out 1; have p189 : 0 ≤ ((ji12) : Int) := odt; have q189 : (ji12) < (l1.length : Int) := odt; obtain ⟨ad189, A189_1, c189_1, e189, hx189_0, hx189_1, hl189_1, hi189_1⟩ := QB HR1.out (ji12) p189 q189; obtain rfl : ad187 = ad189 := (by injection e189); have hn189_0 : ad187.block ≠ gb188 := Nat.ne_of_lt (Nat.lt_of_lt_of_le (by have := World.block_lt_of_cell? _ _ hx189_0; first | rwa [add_block] at this | exact this) GW188.out); have hn189_1 : ad187.block ≠ gb188 := Nat.ne_of_lt (Nat.lt_of_lt_of_le (by have := World.block_lt_of_cell? _ _ hx189_0; first | rwa [add_block] at this | exact this) GW188.out); replace hx189_0 := (HB.out.cell (World.block_lt_of_cell? w _ hx189_0)).trans hx189_0; replace hx189_1 := (HB.out.cell (World.block_lt_of_cell? w _ hx189_1)).trans hx189_1; have HR189_1 := qa.mk hi189_1; have HC189_1 := qa.mk hl189_1; clear hi189_1 hl189_1; replace hx189_0 := (cell_far (p := ⟨gb188, 0, none⟩) (by first | (rw [add_block]; exact hn189_0) | (show (Addr.add _ _).block ≠ _; rw [add_block]; exact hn189_0) | exact hn189_0) (.string ((ql l1 x26_2).f0))).trans hx189_0; replace hx189_1 := (cell_far (p := ⟨gb188, 0, none⟩) (by first | (rw [add_block]; exact hn189_0) | (show (Addr.add _ _).block ≠ _; rw [add_block]; exact hn189_0) | exact hn189_0) (.string ((ql l1 x26_2).f0))).trans hx189_1; replace hx189_0 := (cell_far (p := ⟨gb188, 1, none⟩) (by first | (rw [add_block]; exact hn189_1) | (show (Addr.add _ _).block ≠ _; rw [add_block]; exact hn189_1) | exact hn189_1) (.slice A187_1 ((ql l1 x26_2).f1).length c187_1)).trans hx189_0; replace hx189_1 := (cell_far (p := ⟨gb188, 1, none⟩) (by first | (rw [add_block]; exact hn189_1) | (show (Addr.add _ _).block ≠ _; rw [add_block]; exact hn189_1) | exact hn189_1) (.slice A187_1 ((ql l1 x26_2).f1).length c187_1)).trans hx189_1; (try have hy189_0 := fun (n_ : Nat) => (show ((((w16.drewN n_).setCell ⟨gb188, 0, none⟩ (.string ((ql l1 x26_2).f0))).setCell ⟨gb188, 1, none⟩ (.slice A187_1 ((ql l1 x26_2).f1).length c187_1))).cell? _ = some _ from hx189_0)); (try have hy189_1 := fun (n_ : Nat) => (show ((((w16.drewN n_).setCell ⟨gb188, 0, none⟩ (.string ((ql l1 x26_2).f0))).setCell ⟨gb188, 1, none⟩ (.slice A187_1 ((ql l1 x26_2).f1).length c187_1))).cell? _ = some _ from hx189_1)); clear hn189_0; clear hn189_1; replace p189 := eq_true p189; replace q189 := eq_true q189)); try go_wp2_with (first | ((with_reducible refine qX (N := 7) rfl ?_); (try (refine qU (by rfl) ?_; dsimp only)); refine zt ?hg (N := 7) ?hd (cs := #[.string (⟨#[]⟩ : ByteArray), .slice none 0 0]) (t := 50) ?hr ?_; (case hd => rfl); (case hg => rfl); (case hr => first | (go_simp; done) | (go_simp; rfl)); intro gb188 hg w16 hbox hb; have n0_ := qa.mk (qc (bq HB) hb); have n1_ := qa.mk (hbox); have n2_ := qa.mk ((by rw [hg]; exact (qi (bq HB)) : w.heap.size ≤ gb188)); have n3_ := qa.mk ((by rw [hg]; exact (qi (bq HB)) : w.heap.size ≤ gb188)); clear HB; have HB := n0_; have BK188 := n1_; have GW188 := n2_; have GE188 := n3_; clear n0_ n1_ n2_ n3_; clear hb hbox hg; have hcz17_0 : w16.cell? ⟨gb188, 0, none⟩ = some (.string (⟨#[]⟩ : ByteArray)) := (qb BK188.out 0).trans rfl; have hcz17_1 : w16.cell? ⟨gb188, 1, none⟩ = some (.slice none 0 0) := (qb BK188.out 1).trans rfl; have hfz17_0 := qd BK188.out 0; have hfz17_1 := qd BK188.out 1; have p189 : 0 ≤ ((ji12) : Int) := odt; have q189 : (ji12) < (l1.length : Int) := odt; obtain ⟨ad189, A189_1, c189_1, e189, hx189_0, hx189_1, hl189_1, hi189_1⟩ := QB HR1.out (ji12) p189 q189; obtain rfl : ad187 = ad189 := (by injection e189); have hn189_0 : ad187.block ≠ gb188 := Nat.ne_of_lt (Nat.lt_of_lt_of_le (by have := World.block_lt_of_cell? _ _ hx189_0; first | rwa [add_block] at this | exact this) GW188.out); have hn189_1 : ad187.block ≠ gb188 := Nat.ne_of_lt (Nat.lt_of_lt_of_le (by have := World.block_lt_of_cell? _ _ hx189_0; first | rwa [add_block] at this | exact this) GW188.out); replace hx189_0 := (HB.out.cell (World.block_lt_of_cell? w _ hx189_0)).trans hx189_0; replace hx189_1 := (HB.out.cell (World.block_lt_of_cell? w _ hx189_1)).trans hx189_1; have HR189_1 := qa.mk hi189_1; have HC189_1 := qa.mk hl189_1; clear hi189_1 hl189_1; replace hx189_0 := (cell_far (p := ⟨gb188, 0, none⟩) (by first | (rw [add_block]; exact hn189_0) | (show (Addr.add _ _).block ≠ _; rw [add_block]; exact hn189_0) | exact hn189_0) (.string ((ql l1 x26_2).f0))).trans hx189_0; replace hx189_1 := (cell_far (p := ⟨gb188, 0, none⟩) (by first | (rw [add_block]; exact hn189_0) | (show (Addr.add _ _).block ≠ _; rw [add_block]; exact hn189_0) | exact hn189_0) (.string ((ql l1 x26_2).f0))).trans hx189_1; replace hx189_0 := (cell_far (p := ⟨gb188, 1, none⟩) (by first | (rw [add_block]; exact hn189_1) | (show (Addr.add _ _).block ≠ _; rw [add_block]; exact hn189_1) | exact hn189_1) (.slice A187_1 ((ql l1 x26_2).f1).length c187_1)).trans hx189_0; replace hx189_1 := (cell_far (p := ⟨gb188, 1, none⟩) (by first | (rw [add_block]; exact hn189_1) | (show (Addr.add _ _).block ≠ _; rw [add_block]; exact hn189_1) | exact hn189_1) (.slice A187_1 ((ql l1 x26_2).f1).length c187_1)).trans hx189_1; (try have hy189_0 := fun (n_ : Nat) => (show ((((w16.drewN n_).setCell ⟨gb188, 0, none⟩ (.string ((ql l1 x26_2).f0))).setCell ⟨gb188, 1, none⟩ (.slice A187_1 ((ql l1 x26_2).f1).length c187_1))).cell? _ = some _ from hx189_0)); (try have hy189_1 := fun (n_ : Nat) => (show ((((w16.drewN n_).setCell ⟨gb188, 0, none⟩ (.string ((ql l1 x26_2).f0))).setCell ⟨gb188, 1, none⟩ (.slice A187_1 ((ql l1 x26_2).f1).length c187_1))).cell? _ = some _ from hx189_1)); clear hn189_0; clear hn189_1; replace p189 := eq_true p189; replace q189 := eq_true q189)))
       go_roundg k2
       case measure => have := HJ2.out; have := HK2.out; omega
       case rel => exact ⟨(wrap64 (x26_2 + 1)), (by first | rfl | (simp; done) | (simp [*]; done)), H', ⟨by have := HJ2.out; have := HK2.out; omega⟩, ⟨bs HB GE188⟩⟩
      rw [if_neg c15] at H
      have c15b0 : (Op.bytesLess (((ql l1 (ji12)).f0).toList) (((ql l1 x26_2).f0).toList)) = false := by simpa using c15
      clear c15
      simp only [Option.some.injEq, Prod.mk.injEq] at H
      obtain ⟨rfl, rfl⟩ := H
      have p187 : 0 ≤ (x26_2 : Int) := odt
      have q187 : x26_2 < (l1.length : Int) := odt
      obtain ⟨ad187, A187_1, c187_1, e187, hx187_0, hx187_1, hl187_1, hi187_1⟩ := QB HR1.out x26_2 p187 q187
      cases e187
      replace hx187_0 := (HB.out.cell (World.block_lt_of_cell? w _ hx187_0)).trans hx187_0
      replace hx187_1 := (HB.out.cell (World.block_lt_of_cell? w _ hx187_1)).trans hx187_1
      have HR187_1 := qa.mk hi187_1
      have HC187_1 := qa.mk hl187_1
      clear hi187_1 hl187_1
      replace p187 := eq_true p187
      replace q187 := eq_true q187
      go_wp2_with (first | ((with_reducible refine qX (N := 7) rfl ?_); (try (refine qU (by rfl) ?_; dsimp only)); refine zt ?hg (N := 7) ?hd (cs := #[.string (⟨#[]⟩ : ByteArray), .slice none 0 0]) (t := 50) ?hr ?_; (case hd => rfl); (case hg => rfl); (case hr => first | (go_simp; done) | (go_simp; rfl)); intro gb188 hg w18 hbox hb; have n0_ := qa.mk (qc (bq HB) hb); have n1_ := qa.mk (hbox); have n2_ := qa.mk ((by rw [hg]; exact (qi (bq HB)) : w.heap.size ≤ gb188)); have n3_ := qa.mk ((by rw [hg]; exact (qi (bq HB)) : w.heap.size ≤ gb188)); clear HB; have HB := n0_; have BK188 := n1_; have GW188 := n2_; have GE188 := n3_; clear n0_ n1_ n2_ n3_; clear hb hbox hg; have hcz19_0 : w18.cell? ⟨gb188, 0, none⟩ = some (.string (⟨#[]⟩ : ByteArray)) := (qb BK188.out 0).trans rfl; have hcz19_1 : w18.cell? ⟨gb188, 1, none⟩ = some (.slice none 0 0) := (qb BK188.out 1).trans rfl; have hfz19_0 := qd BK188.out 0; have hfz19_1 := qd BK188.out 1; have p189 : 0 ≤ ((ji12) : Int) := odt; have q189 : (ji12) < (l1.length : Int) := odt; obtain ⟨ad189, A189_1, c189_1, e189, hx189_0, hx189_1, hl189_1, hi189_1⟩ := QB HR1.out (ji12) p189 q189; obtain rfl : ad187 = ad189 := (by injection e189); have hn189_0 : ad187.block ≠ gb188 := Nat.ne_of_lt (Nat.lt_of_lt_of_le (by have := World.block_lt_of_cell? _ _ hx189_0; first | rwa [add_block] at this | exact this) GW188.out); have hn189_1 : ad187.block ≠ gb188 := Nat.ne_of_lt (Nat.lt_of_lt_of_le (by have := World.block_lt_of_cell? _ _ hx189_0; first | rwa [add_block] at this | exact this) GW188.out); replace hx189_0 := (HB.out.cell (World.block_lt_of_cell? w _ hx189_0)).trans hx189_0; replace hx189_1 := (HB.out.cell (World.block_lt_of_cell? w _ hx189_1)).trans hx189_1; have HR189_1 := qa.mk hi189_1; have HC189_1 := qa.mk hl189_1; clear hi189_1 hl189_1; replace hx189_0 := (cell_far (p := ⟨gb188, 0, none⟩) (by first | (rw [add_block]; exact hn189_0) | (show (Addr.add _ _).block ≠ _; rw [add_block]; exact hn189_0) | exact hn189_0) (.string ((ql l1 x26_2).f0))).trans hx189_0; replace hx189_1 := (cell_far (p := ⟨gb188, 0, none⟩) (by first | (rw [add_block]; exact hn189_0) | (show (Addr.add _ _).block ≠ _; rw [add_block]; exact hn189_0) | exact hn189_0) (.string ((ql l1 x26_2).f0))).trans hx189_1; replace hx189_0 := (cell_far (p := ⟨gb188, 1, none⟩) (by first | (rw [add_block]; exact hn189_1) | (show (Addr.add _ _).block ≠ _; rw [add_block]; exact hn189_1) | exact hn189_1) (.slice A187_1 ((ql l1 x26_2).f1).length c187_1)).trans hx189_0; replace hx189_1 := (cell_far (p := ⟨gb188, 1, none⟩) (by first | (rw [add_block]; exact hn189_1) | (show (Addr.add _ _).block ≠ _; rw [add_block]; exact hn189_1) | exact hn189_1) (.slice A187_1 ((ql l1 x26_2).f1).length c187_1)).trans hx189_1; (try have hy189_0 := fun (n_ : Nat) => (show ((((w18.drewN n_).setCell ⟨gb188, 0, none⟩ (.string ((ql l1 x26_2).f0))).setCell ⟨gb188, 1, none⟩ (.slice A187_1 ((ql l1 x26_2).f1).length c187_1))).cell? _ = some _ from hx189_0)); (try have hy189_1 := fun (n_ : Nat) => (show ((((w18.drewN n_).setCell ⟨gb188, 0, none⟩ (.string ((ql l1 x26_2).f0))).setCell ⟨gb188, 1, none⟩ (.slice A187_1 ((ql l1 x26_2).f1).length c187_1))).cell? _ = some _ from hx189_1)); clear hn189_0; clear hn189_1; replace p189 := eq_true p189; replace q189 := eq_true q189))
      repeat (go_quiet (first | ((with_reducible refine qX (N := 7) rfl ?_); (try (refine qU (by rfl) ?_; dsimp only)); refine zt ?hg (N := 7) ?hd (cs := #[.string (⟨#[]⟩ : ByteArray), .slice none 0 0]) (t := 50) ?hr ?_; (case hd => rfl); (case hg => rfl); (case hr => first | (go_simp; done) | (go_simp; rfl)); intro gb188 hg w18 hbox hb; have n0_ := qa.mk (qc (bq HB) hb); have n1_ := qa.mk (hbox); have n2_ := qa.mk ((by rw [hg]; exact (qi (bq HB)) : w.heap.size ≤ gb188)); have n3_ := qa.mk ((by rw [hg]; exact (qi (bq HB)) : w.heap.size ≤ gb188)); clear HB; have HB := n0_; have BK188 := n1_; have GW188 := n2_; have GE188 := n3_; clear n0_ n1_ n2_ n3_; clear hb hbox hg; have hcz19_0 : w18.cell? ⟨gb188, 0, none⟩ = some (.string (⟨#[]⟩ : ByteArray)) := (qb BK188.out 0).trans rfl; have hcz19_1 : w18.cell? ⟨gb188, 1, none⟩ = some (.slice none 0 0) := (qb BK188.out 1).trans rfl; have hfz19_0 := qd BK188.out 0; have hfz19_1 := qd BK188.out 1; have p189 : 0 ≤ ((ji12) : Int) := odt; have q189 : (ji12) < (l1.length : Int) := odt; obtain ⟨ad189, A189_1, c189_1, e189, hx189_0, hx189_1, hl189_1, hi189_1⟩ := QB HR1.out (ji12) p189 q189; obtain rfl : ad187 = ad189 := (by injection e189); have hn189_0 : ad187.block ≠ gb188 := Nat.ne_of_lt (Nat.lt_of_lt_of_le (by have := World.block_lt_of_cell? _ _ hx189_0; first | rwa [add_block] at this | exact this) GW188.out); have hn189_1 : ad187.block ≠ gb188 := Nat.ne_of_lt (Nat.lt_of_lt_of_le (by have := World.block_lt_of_cell? _ _ hx189_0; first | rwa [add_block] at this | exact this) GW188.out); replace hx189_0 := (HB.out.cell (World.block_lt_of_cell? w _ hx189_0)).trans hx189_0; replace hx189_1 := (HB.out.cell (World.block_lt_of_cell? w _ hx189_1)).trans hx189_1; have HR189_1 := qa.mk hi189_1; have HC189_1 := qa.mk hl189_1; clear hi189_1 hl189_1; replace hx189_0 := (cell_far (p := ⟨gb188, 0, none⟩) (by first | (rw [add_block]; exact hn189_0) | (show (Addr.add _ _).block ≠ _; rw [add_block]; exact hn189_0) | exact hn189_0) (.string ((ql l1 x26_2).f0))).trans hx189_0; replace hx189_1 := (cell_far (p := ⟨gb188, 0, none⟩) (by first | (rw [add_block]; exact hn189_0) | (show (Addr.add _ _).block ≠ _; rw [add_block]; exact hn189_0) | exact hn189_0) (.string ((ql l1 x26_2).f0))).trans hx189_1; replace hx189_0 := (cell_far (p := ⟨gb188, 1, none⟩) (by first | (rw [add_block]; exact hn189_1) | (show (Addr.add _ _).block ≠ _; rw [add_block]; exact hn189_1) | exact hn189_1) (.slice A187_1 ((ql l1 x26_2).f1).length c187_1)).trans hx189_0; replace hx189_1 := (cell_far (p := ⟨gb188, 1, none⟩) (by first | (rw [add_block]; exact hn189_1) | (show (Addr.add _ _).block ≠ _; rw [add_block]; exact hn189_1) | exact hn189_1) (.slice A187_1 ((ql l1 x26_2).f1).length c187_1)).trans hx189_1; (try have hy189_0 := fun (n_ : Nat) => (show ((((w18.drewN n_).setCell ⟨gb188, 0, none⟩ (.string ((ql l1 x26_2).f0))).setCell ⟨gb188, 1, none⟩ (.slice A187_1 ((ql l1 x26_2).f1).length c187_1))).cell? _ = some _ from hx189_0)); (try have hy189_1 := fun (n_ : Nat) => (show ((((w18.drewN n_).setCell ⟨gb188, 0, none⟩ (.string ((ql l1 x26_2).f0))).setCell ⟨gb188, 1, none⟩ (.slice A187_1 ((ql l1 x26_2).f1).length c187_1))).cell? _ = some _ from hx189_1)); clear hn189_0; clear hn189_1; replace p189 := eq_true p189; replace q189 := eq_true q189)); try go_wp2_with (first | ((with_reducible refine qX (N := 7) rfl ?_); (try (refine qU (by rfl) ?_; dsimp only)); refine zt ?hg (N := 7) ?hd (cs := #[.string (⟨#[]⟩ : ByteArray), .slice none 0 0]) (t := 50) ?hr ?_; (case hd => rfl); (case hg => rfl); (case hr => first | (go_simp; done) | (go_simp; rfl)); intro gb188 hg w18 hbox hb; have n0_ := qa.mk (qc (bq HB) hb); have n1_ := qa.mk (hbox); have n2_ := qa.mk ((by rw [hg]; exact (qi (bq HB)) : w.heap.size ≤ gb188)); have n3_ := qa.mk ((by rw [hg]; exact (qi (bq HB)) : w.heap.size ≤ gb188)); clear HB; have HB := n0_; have BK188 := n1_; have GW188 := n2_; have GE188 := n3_; clear n0_ n1_ n2_ n3_; clear hb hbox hg; have hcz19_0 : w18.cell? ⟨gb188, 0, none⟩ = some (.string (⟨#[]⟩ : ByteArray)) := (qb BK188.out 0).trans rfl; have hcz19_1 : w18.cell? ⟨gb188, 1, none⟩ = some (.slice none 0 0) := (qb BK188.out 1).trans rfl; have hfz19_0 := qd BK188.out 0; have hfz19_1 := qd BK188.out 1; have p189 : 0 ≤ ((ji12) : Int) := odt; have q189 : (ji12) < (l1.length : Int) := odt; obtain ⟨ad189, A189_1, c189_1, e189, hx189_0, hx189_1, hl189_1, hi189_1⟩ := QB HR1.out (ji12) p189 q189; obtain rfl : ad187 = ad189 := (by injection e189); have hn189_0 : ad187.block ≠ gb188 := Nat.ne_of_lt (Nat.lt_of_lt_of_le (by have := World.block_lt_of_cell? _ _ hx189_0; first | rwa [add_block] at this | exact this) GW188.out); have hn189_1 : ad187.block ≠ gb188 := Nat.ne_of_lt (Nat.lt_of_lt_of_le (by have := World.block_lt_of_cell? _ _ hx189_0; first | rwa [add_block] at this | exact this) GW188.out); replace hx189_0 := (HB.out.cell (World.block_lt_of_cell? w _ hx189_0)).trans hx189_0; replace hx189_1 := (HB.out.cell (World.block_lt_of_cell? w _ hx189_1)).trans hx189_1; have HR189_1 := qa.mk hi189_1; have HC189_1 := qa.mk hl189_1; clear hi189_1 hl189_1; replace hx189_0 := (cell_far (p := ⟨gb188, 0, none⟩) (by first | (rw [add_block]; exact hn189_0) | (show (Addr.add _ _).block ≠ _; rw [add_block]; exact hn189_0) | exact hn189_0) (.string ((ql l1 x26_2).f0))).trans hx189_0; replace hx189_1 := (cell_far (p := ⟨gb188, 0, none⟩) (by first | (rw [add_block]; exact hn189_0) | (show (Addr.add _ _).block ≠ _; rw [add_block]; exact hn189_0) | exact hn189_0) (.string ((ql l1 x26_2).f0))).trans hx189_1; replace hx189_0 := (cell_far (p := ⟨gb188, 1, none⟩) (by first | (rw [add_block]; exact hn189_1) | (show (Addr.add _ _).block ≠ _; rw [add_block]; exact hn189_1) | exact hn189_1) (.slice A187_1 ((ql l1 x26_2).f1).length c187_1)).trans hx189_0; replace hx189_1 := (cell_far (p := ⟨gb188, 1, none⟩) (by first | (rw [add_block]; exact hn189_1) | (show (Addr.add _ _).block ≠ _; rw [add_block]; exact hn189_1) | exact hn189_1) (.slice A187_1 ((ql l1 x26_2).f1).length c187_1)).trans hx189_1; (try have hy189_0 := fun (n_ : Nat) => (show ((((w18.drewN n_).setCell ⟨gb188, 0, none⟩ (.string ((ql l1 x26_2).f0))).setCell ⟨gb188, 1, none⟩ (.slice A187_1 ((ql l1 x26_2).f1).length c187_1))).cell? _ = some _ from hx189_0)); (try have hy189_1 := fun (n_ : Nat) => (show ((((w18.drewN n_).setCell ⟨gb188, 0, none⟩ (.string ((ql l1 x26_2).f0))).setCell ⟨gb188, 1, none⟩ (.slice A187_1 ((ql l1 x26_2).f1).length c187_1))).cell? _ = some _ from hx189_1)); clear hn189_0; clear hn189_1; replace p189 := eq_true p189; replace q189 := eq_true q189)))
      go_ret2
      exact ⟨_, by first | rfl | (simp [qW, qV] <;> rfl) | (simp only [← hji12]; first | rfl | (simp [qW, qV] <;> rfl)) | (simp [*, qW, qV] <;> rfl), by first | exact Kd.jE _ _ _ _ _ | exact Kd.N_nil _ _ _ _ _ | exact Kd.V_nil _ _ _ _ _ | exact Kd.Q_nil _ _ _ _ _ | exact Kd.S_nil _ _ _ _ _, bs HB GE188⟩
     rw [if_neg c7] at H
     have c7b0 : decide (x26_2 < (l1.length : Int)) = false := decide_eq_false c7
     clear c7
     by_cases c24 : (l1.length : Int) > 64
     ·rw [if_pos c24] at H
      have c24b0 : decide (64 < (l1.length : Int)) = true := decide_eq_true c24
      have c24b1 : decide (64 < l1.length) = true := decide_eq_true (by omega)
      clear c24
      simp only [Option.some.injEq, Prod.mk.injEq] at H
      obtain ⟨rfl, rfl⟩ := H
      go_wp2
      repeat (go_quiet (fail); try go_wp2)
      go_ret2
      exact ⟨_, by first | rfl | (simp [qW, qV] <;> rfl) | (simp [*, qW, qV] <;> rfl), by first | exact Kd.jE _ _ _ _ _ | exact Kd.N_nil _ _ _ _ _ | exact Kd.V_nil _ _ _ _ _ | exact Kd.Q_nil _ _ _ _ _ | exact Kd.S_nil _ _ _ _ _, bq HB⟩
     rw [if_neg c24] at H
     have c24b0 : decide (64 < (l1.length : Int)) = false := decide_eq_false c24
     have c24b1 : decide (64 < l1.length) = false := decide_eq_false (by omega)
     clear c24
     obtain ⟨y190, hy190⟩ : ∃ y_ : List Int, y_ = (([] : List Int)) := ⟨_, rfl⟩
     replace H : (qo.l1 k2 a0 l1 y190 (([] : List Int)) l1 (l1.length : Int) 0) = some (r1, r2) := by first | (rw [hy190]; with_reducible exact H) | (have H2_ := (Option.bind_some _ _).symm.trans H; rw [hy190]; with_reducible exact H2_) | (have H2_ := (Option.bind_some _ _).symm.trans H; with_reducible exact H2_) | with_reducible exact H | (rw [hy190]; exact H) | exact H
     have Ny190 := qa.mk hy190
     clear hy190
     obtain ⟨y193, hy193⟩ : ∃ y_ : List Int, y_ = (([] : List Int)) := ⟨_, rfl⟩
     replace H : (qo.l1 k2 a0 l1 y190 y193 l1 (l1.length : Int) 0) = some (r1, r2) := by first | (rw [hy193]; with_reducible exact H) | (have H2_ := (Option.bind_some _ _).symm.trans H; rw [hy193]; with_reducible exact H2_) | (have H2_ := (Option.bind_some _ _).symm.trans H; with_reducible exact H2_) | with_reducible exact H | (rw [hy193]; exact H) | exact H
     have Ny193 := qa.mk hy193
     clear hy193
     have H' := qa.mk H
     clear H
     go_wp2_with (first | ((with_reducible refine qX (N := 55) rfl ?_); (try (refine qU (by rfl) ?_; dsimp only)); refine Kd.jQ (Kd.int .u8) _ 5 ?hg (N := 55) ?hd (xs := ([] : List Int)) (inner := []) (ok := fun _ => True) (okp := fun _ => True) ?hr ?hp (fun _ hk => hk) trivial (Below.refl _ _) (Nat.le_refl _) (by simp) ?_; (case hd => rfl); (case hg => rfl); (case hr => first | (go_simp; done) | (go_simp; rfl)); (case hp => exact (qY.none _ _)); intro v191 w25 ho26 hb hg_ hnew_; clear hg_ hnew_; (first | rw [← Ny190.out] at ho26 | (simp only [Int.reduceToNat] at ho26; rw [← Ny190.out] at ho26)); have n0_ := qa.mk (Kd.zI ho26 (qi (bq HB))); have n1_ := qa.mk (qc (bq HB) hb); clear HB; have HO192 := n0_; have HB := n1_; clear n0_ n1_; clear hb ho26) | ((with_reducible refine qX (N := 56) rfl ?_); (try (refine qU (by rfl) ?_; dsimp only)); refine Kd.jQ (Kd.int .u8) _ 5 ?hg (N := 56) ?hd (xs := ([] : List Int)) (inner := []) (ok := fun _ => True) (okp := fun _ => True) ?hr ?hp (fun _ hk => hk) trivial (Below.refl _ _) (Nat.le_refl _) (by simp) ?_; (case hd => rfl); (case hg => rfl); (case hr => first | (go_simp; done) | (go_simp; rfl)); (case hp => exact (qY.none _ _)); intro v194 w27 ho28 hb hg_ hnew_; clear hg_ hnew_; (first | rw [← Ny193.out] at ho28 | (simp only [Int.reduceToNat] at ho28; rw [← Ny193.out] at ho28)); have n0_ := qa.mk (Kd.zo (rq HO192) (Kd.qZ ho28) hb); have n1_ := qa.mk (Kd.zI (Kd.zF ho28 (Kd.za (rq HO192))) (qi (bq HB))); have n2_ := qa.mk (qc (bq HB) hb); clear HO192; clear HB; have HO192 := n0_; have HO195 := n1_; have HB := n2_; clear n0_ n1_ n2_; clear hb ho28))
     repeat (go_quiet (first | ((with_reducible refine qX (N := 55) rfl ?_); (try (refine qU (by rfl) ?_; dsimp only)); refine Kd.jQ (Kd.int .u8) _ 5 ?hg (N := 55) ?hd (xs := ([] : List Int)) (inner := []) (ok := fun _ => True) (okp := fun _ => True) ?hr ?hp (fun _ hk => hk) trivial (Below.refl _ _) (Nat.le_refl _) (by simp) ?_; (case hd => rfl); (case hg => rfl); (case hr => first | (go_simp; done) | (go_simp; rfl)); (case hp => exact (qY.none _ _)); intro v191 w25 ho26 hb hg_ hnew_; clear hg_ hnew_; (first | rw [← Ny190.out] at ho26 | (simp only [Int.reduceToNat] at ho26; rw [← Ny190.out] at ho26)); have n0_ := qa.mk (Kd.zI ho26 (qi (bq HB))); have n1_ := qa.mk (qc (bq HB) hb); clear HB; have HO192 := n0_; have HB := n1_; clear n0_ n1_; clear hb ho26) | ((with_reducible refine qX (N := 56) rfl ?_); (try (refine qU (by rfl) ?_; dsimp only)); refine Kd.jQ (Kd.int .u8) _ 5 ?hg (N := 56) ?hd (xs := ([] : List Int)) (inner := []) (ok := fun _ => True) (okp := fun _ => True) ?hr ?hp (fun _ hk => hk) trivial (Below.refl _ _) (Nat.le_refl _) (by simp) ?_; (case hd => rfl); (case hg => rfl); (case hr => first | (go_simp; done) | (go_simp; rfl)); (case hp => exact (qY.none _ _)); intro v194 w27 ho28 hb hg_ hnew_; clear hg_ hnew_; (first | rw [← Ny193.out] at ho28 | (simp only [Int.reduceToNat] at ho28; rw [← Ny193.out] at ho28)); have n0_ := qa.mk (Kd.zo (rq HO192) (Kd.qZ ho28) hb); have n1_ := qa.mk (Kd.zI (Kd.zF ho28 (Kd.za (rq HO192))) (qi (bq HB))); have n2_ := qa.mk (qc (bq HB) hb); clear HO192; clear HB; have HO192 := n0_; have HO195 := n1_; have HB := n2_; clear n0_ n1_ n2_; clear hb ho28)); try go_wp2_with (first | ((with_reducible refine qX (N := 55) rfl ?_); (try (refine qU (by rfl) ?_; dsimp only)); refine Kd.jQ (Kd.int .u8) _ 5 ?hg (N := 55) ?hd (xs := ([] : List Int)) (inner := []) (ok := fun _ => True) (okp := fun _ => True) ?hr ?hp (fun _ hk => hk) trivial (Below.refl _ _) (Nat.le_refl _) (by simp) ?_; (case hd => rfl); (case hg => rfl); (case hr => first | (go_simp; done) | (go_simp; rfl)); (case hp => exact (qY.none _ _)); intro v191 w25 ho26 hb hg_ hnew_; clear hg_ hnew_; (first | rw [← Ny190.out] at ho26 | (simp only [Int.reduceToNat] at ho26; rw [← Ny190.out] at ho26)); have n0_ := qa.mk (Kd.zI ho26 (qi (bq HB))); have n1_ := qa.mk (qc (bq HB) hb); clear HB; have HO192 := n0_; have HB := n1_; clear n0_ n1_; clear hb ho26) | ((with_reducible refine qX (N := 56) rfl ?_); (try (refine qU (by rfl) ?_; dsimp only)); refine Kd.jQ (Kd.int .u8) _ 5 ?hg (N := 56) ?hd (xs := ([] : List Int)) (inner := []) (ok := fun _ => True) (okp := fun _ => True) ?hr ?hp (fun _ hk => hk) trivial (Below.refl _ _) (Nat.le_refl _) (by simp) ?_; (case hd => rfl); (case hg => rfl); (case hr => first | (go_simp; done) | (go_simp; rfl)); (case hp => exact (qY.none _ _)); intro v194 w27 ho28 hb hg_ hnew_; clear hg_ hnew_; (first | rw [← Ny193.out] at ho28 | (simp only [Int.reduceToNat] at ho28; rw [← Ny193.out] at ho28)); have n0_ := qa.mk (Kd.zo (rq HO192) (Kd.qZ ho28) hb); have n1_ := qa.mk (Kd.zI (Kd.zF ho28 (Kd.za (rq HO192))) (qi (bq HB))); have n2_ := qa.mk (qc (bq HB) hb); clear HO192; clear HB; have HO192 := n0_; have HO195 := n1_; have HB := n2_; clear n0_ n1_ n2_; clear hb ho28)))
     go_loopg [8, 9, 59] k2 (fun kq v8 v9 v59 w' => ∃ (x8_3 : List Int) (x9_3 : List Int) (x59_3 : Int), v59 = .int .i64 x59_3 ∧ qa (qo.l1 kq a0 l1 x8_3 x9_3 l1 (l1.length : Int) x59_3 = some (r1, r2)) ∧ qa (kq ≤ k2) ∧ qa (Kd.R (Kd.int .u8) 5 w' w.heap.size (fun k_ => some k_ ≠ (v9 : Value).ownBlock) v8 x8_3) ∧ qa (Kd.R (Kd.int .u8) 5 w' w.heap.size (fun k_ => some k_ ≠ (v8 : Value).ownBlock) v9 x9_3) ∧ qa (Below w.heap.size w w'))
     case atStart => exact ⟨(y190), (y193), (0), (by first | rfl | (simp; done) | (simp [*]; done)), H', ⟨Nat.le_refl _⟩, ⟨by (with_reducible repeat (first | apply Kd.qp | apply Kd.qx | apply Kd.qw)); exact Kd.qH HO192.out (fun _ hk => hk.2)⟩, ⟨by (with_reducible repeat (first | apply Kd.qp | apply Kd.qx | apply Kd.qw)); exact Kd.qH HO195.out (fun _ hk => hk.2)⟩, ⟨bq HB⟩⟩
     case round =>
      clear H'
      try clear c1
      try clear p1
      try clear q1
      try clear hx1
      try clear c2
      try clear p2
      try clear c4
      try clear c4b0
      try clear c4b1
      try clear c5
      try clear c5b0
      try clear c5b1
      try clear c6
      try clear p6
      try clear c7
      try clear c7b0
      try clear c8
      try clear c8b0
      try clear c9
      try clear c9b0
      try clear c10
      try clear c10b0
      try clear c10b1
      try clear c11
      try clear c11b0
      try clear c13
      try clear c13b0
      try clear c14
      try clear c14b0
      try clear c15
      try clear c15b0
      try clear c18
      try clear p18
      try clear q18
      try clear hx18
      try clear c19
      try clear c24
      try clear c24b0
      try clear c24b1
      try clear hcz17_0
      try clear hcz17_1
      try clear hcz19_0
      try clear hcz19_1
      try clear hcz21_0
      try clear hcz21_1
      try clear hcz23_0
      try clear hcz23_1
      try clear hfz17_0
      try clear hfz17_1
      try clear hfz19_0
      try clear hfz19_1
      try clear hfz21_0
      try clear hfz21_1
      try clear hfz23_0
      try clear hfz23_1
      try clear hx187_0
      try clear hx187_1
      try clear hx189_0
      try clear hx189_1
      try clear p187
      try clear p189
      try clear p2
      try clear q187
      try clear q189
      obtain ⟨x8_3, x9_3, x59_3, rfl, HA, HK3, HO_8, HO_9, HB⟩ := hrel
      cases gk with
      | zero => exact absurd HA.out (by simp [qo.l1])
      | succ k3 =>
       have H := HA.out
       clear HA
       simp only [qo.l1] at H
       by_cases c29 : x59_3 < (l1.length : Int)
       case neg =>
        rw [if_neg c29] at H
        have c29b0 : decide (x59_3 < (l1.length : Int)) = false := decide_eq_false c29
        clear c29
        obtain ⟨y196, hy196⟩ : ∃ y_ : List Int, y_ = (([0, 1, 0, 0] : List Int)) := ⟨_, rfl⟩
        replace H : (if a0 = 2 then ((some (([79, 84, 84, 79] : List Int) : List Int)).bind fun y199 => ((qy.f k3 (([(l1.length : Int), 0, 0, 0] : List Int))).bind fun t205 => (if y199.length + t205.length < 140737488355328 then ((some (y199 ++ t205 : List Int)).bind fun y208 => (if y208.length + x9_3.length < 140737488355328 then ((some (y208 ++ x9_3 : List Int)).bind fun y211 => (if y211.length + x8_3.length < 140737488355328 then (some ((y211 ++ x8_3), 0)) else (none))) else (none))) else (none)))) else ((qy.f k3 (([(l1.length : Int), 0, 0, 0] : List Int))).bind fun t220 => (if y196.length + t220.length < 140737488355328 then ((some (y196 ++ t220 : List Int)).bind fun y223 => (if y223.length + x9_3.length < 140737488355328 then ((some (y223 ++ x9_3 : List Int)).bind fun y226 => (if y226.length + x8_3.length < 140737488355328 then (some ((y226 ++ x8_3), 0)) else (none))) else (none))) else (none)))) = some (r1, r2) := by first | (rw [hy196]; with_reducible exact H) | (have H2_ := (Option.bind_some _ _).symm.trans H; rw [hy196]; with_reducible exact H2_) | (have H2_ := (Option.bind_some _ _).symm.trans H; with_reducible exact H2_) | with_reducible exact H | (rw [hy196]; exact H) | exact H
        have Ny196 := qa.mk hy196
        clear hy196
        by_cases c65 : a0 = 2
        case neg =>
         rw [if_neg c65] at H
         have c65b0 : (a0 == 2) = false := beq_eq_false_iff_ne.mpr c65
         have c65b1 : (a0 != 2) = true := bne_iff_ne.mpr c65
         obtain ⟨y217, hy217⟩ : ∃ y_ : List Int, y_ = (([(l1.length : Int), 0, 0, 0] : List Int)) := ⟨_, rfl⟩
         replace H : ((qy.f k3 y217).bind fun t220 => (if y196.length + t220.length < 140737488355328 then ((some (y196 ++ t220 : List Int)).bind fun y223 => (if y223.length + x9_3.length < 140737488355328 then ((some (y223 ++ x9_3 : List Int)).bind fun y226 => (if y226.length + x8_3.length < 140737488355328 then (some ((y226 ++ x8_3), 0)) else (none))) else (none))) else (none))) = some (r1, r2) := by first | (rw [hy217]; with_reducible exact H) | (have H2_ := (Option.bind_some _ _).symm.trans H; rw [hy217]; with_reducible exact H2_) | (have H2_ := (Option.bind_some _ _).symm.trans H; with_reducible exact H2_) | with_reducible exact H | (rw [hy217]; exact H) | exact H
         have Ny217 := qa.mk hy217
         clear hy217
         replace H := Option.bind_eq_some_iff.mp H
         obtain ⟨t220, A840, H⟩ := H
         replace H : (if y196.length + t220.length < 140737488355328 then ((some (y196 ++ t220 : List Int)).bind fun y223 => (if y223.length + x9_3.length < 140737488355328 then ((some (y223 ++ x9_3 : List Int)).bind fun y226 => (if y226.length + x8_3.length < 140737488355328 then (some ((y226 ++ x8_3), 0)) else (none))) else (none))) else (none)) = some (r1, r2) := H
         have A84 := qa.mk A840
         clear A840
         by_cases c85 : y196.length + t220.length < 140737488355328
         case neg =>
          rw [if_neg c85] at H
          exact absurd H (by simp)
         rw [if_pos c85] at H
         have LMc85 := qa.mk c85
         clear c85
         obtain ⟨y223, hy223⟩ : ∃ y_ : List Int, y_ = (y196 ++ t220) := ⟨_, rfl⟩
         replace H : (if y223.length + x9_3.length < 140737488355328 then ((some (y223 ++ x9_3 : List Int)).bind fun y226 => (if y226.length + x8_3.length < 140737488355328 then (some ((y226 ++ x8_3), 0)) else (none))) else (none)) = some (r1, r2) := by first | (rw [hy223]; with_reducible exact H) | (have H2_ := (Option.bind_some _ _).symm.trans H; rw [hy223]; with_reducible exact H2_) | (have H2_ := (Option.bind_some _ _).symm.trans H; with_reducible exact H2_) | with_reducible exact H | (rw [hy223]; exact H) | exact H
         have Ny223 := qa.mk hy223
         clear hy223
         by_cases c86 : y223.length + x9_3.length < 140737488355328
         case neg =>
          rw [if_neg c86] at H
          exact absurd H (by simp)
         rw [if_pos c86] at H
         have LMc86 := qa.mk c86
         clear c86
         obtain ⟨y226, hy226⟩ : ∃ y_ : List Int, y_ = (y223 ++ x9_3) := ⟨_, rfl⟩
         replace H : (if y226.length + x8_3.length < 140737488355328 then (some ((y226 ++ x8_3), 0)) else (none)) = some (r1, r2) := by first | (rw [hy226]; with_reducible exact H) | (have H2_ := (Option.bind_some _ _).symm.trans H; rw [hy226]; with_reducible exact H2_) | (have H2_ := (Option.bind_some _ _).symm.trans H; with_reducible exact H2_) | with_reducible exact H | (rw [hy226]; exact H) | exact H
         have Ny226 := qa.mk hy226
         clear hy226
         by_cases c87 : y226.length + x8_3.length < 140737488355328
         case neg =>
          rw [if_neg c87] at H
          exact absurd H (by simp)
         rw [if_pos c87] at H
         have LMc87 := qa.mk c87
         clear c87
         obtain ⟨y229, hy229⟩ : ∃ y_ : List Int, y_ = (y226 ++ x8_3) := ⟨_, rfl⟩
         replace H : (some (y229, 0)) = some (r1, r2) := by first | (rw [hy229]; with_reducible exact H) | (have H2_ := (Option.bind_some _ _).symm.trans H; rw [hy229]; with_reducible exact H2_) | (have H2_ := (Option.bind_some _ _).symm.trans H; with_reducible exact H2_) | with_reducible exact H | (rw [hy229]; exact H) | exact H
         have Ny229 := qa.mk hy229
         clear hy229
         simp only [Option.some.injEq, Prod.mk.injEq] at H
         obtain ⟨rfl, rfl⟩ := H
         have kc := fun (w : World) (C : Array Value) (n c : Nat) => Lib.run_convert_bytes_const (P := Try.prog) w 23 5 C n c Try.underlying23 Try.underlying5
         have hz1 : ∀ (w : World) (o : Obj), (w.alloc o).heap.size = w.heap.size + 1 := fun w o => Array.size_push ..
         have kc2 := fun (w : World) (o : Obj) (C : Array Value) (n c : Nat) => Lib.run_convert_bytes_const (P := Try.prog) (w.alloc o) 23 5 C n c Try.underlying23 Try.underlying5
         simp only [hz1] at kc2
         go_upto_region 29 with fail
         obtain ⟨wz, g, hW, eg, kg, lW⟩ : ∃ wz g, wz = wr.alloc (Obj.cells #[.int .u8 0, .int .u8 1, .int .u8 0, .int .u8 0] 5 (4, 5)) ∧ wr.heap.size = g ∧ wz.heap[g]? = some (Obj.cells #[.int .u8 0, .int .u8 1, .int .u8 0, .int .u8 0] 5 (4, 5)) ∧ Below wr.heap.size wr wz := ⟨_, _, rfl, rfl, zk _ _, qF (Below.refl _ _) _⟩
         rw [← hW, eg]
         have n0_ := qa.mk (Kd.qM HO_8.out lW)
         have n1_ := qa.mk (Kd.qM HO_9.out lW)
         have n2_ := qa.mk (qc HB.out lW)
         have FG : qa (Kd.C (Kd.int .u8) wz (some ⟨g, 0, none⟩) y196.length y196) := ⟨by rw [Ny196.out]; exact C_row (k := .u8) kg (by decide)⟩
         have LY : qa (y196.length = 4) := ⟨by rw [Ny196.out]; rfl⟩
         have NE : qa (t220 ≠ []) := ⟨two_ne A84.out (by rw [Ny217.out]; exact Nat.succ_pos _)⟩
         clear HO_8 HO_9 HB hW eg kg lW kc kc2 hz1
         have HO_8 := n0_
         have HO_9 := n1_
         have HB := n2_
         clear n0_ n1_ n2_
         go_wp2_with (first | ((with_reducible refine qX (N := 118) rfl ?_); (try (refine qU (by rfl) ?_; dsimp only)); refine Kd.jQ (Kd.int .i64) _ 3 ?hg (N := 118) ?hd (xs := ([(l1.length : Int), 0, 0, 0] : List Int)) (inner := [.int .i64 (l1.length : Int), .int .i64 0, .int .i64 0, .int .i64 0]) (ok := fun _ => True) (okp := fun _ => True) ?hr ?hp (fun _ hk => hk) trivial (Below.refl _ _) (Nat.le_refl _) (by simp) ?_; (case hd => rfl); (case hg => rfl); (case hr => first | (go_simp; done) | (go_simp; rfl)); (case hp => exact (qY.one (show Kd.M (Kd.int .i64) _ _ _ (l1.length : Int) [.int .i64 (l1.length : Int)] from rfl) (qY.one (show Kd.M (Kd.int .i64) _ _ _ 0 [.int .i64 0] from rfl) (qY.one (show Kd.M (Kd.int .i64) _ _ _ 0 [.int .i64 0] from rfl) (qY.one (show Kd.M (Kd.int .i64) _ _ _ 0 [.int .i64 0] from rfl) (qY.none _ _)))))); intro v203 w74 ho75 hb hg_ hnew_; clear hg_ hnew_; (first | rw [← Ny217.out] at ho75 | (simp only [Int.reduceToNat] at ho75; rw [← Ny217.out] at ho75)); have n0_ := qa.mk (Kd.qM (rq HO_8) hb); have n1_ := qa.mk (Kd.qM (rq HO_9) hb); have n2_ := qa.mk (Kd.qO FG.out hb); have n4_ := qa.mk ho75; have n5_ := qa.mk (qc (bq HB) hb); clear HO_8; clear HO_9; clear FG; clear HB; have HO_8 := n0_; have HO_9 := n1_; have FG := n2_; have HO204 := n4_; have HB := n5_; clear n0_ n1_ n2_ n4_ n5_; clear hb ho75; obtain ⟨Ao76, co76, eo76⟩ := Kd.qN HO204.out; subst eo76) | (go_at_call 49; (with_reducible refine (qy.calls k3 _ _ y217 t220 _ ?side1 ?side2 A84.out).mono ?_); (case side1 => exact (Kd.qJ HO204.out).2.2); (case side2 => exact (Kd.qJ HO204.out).2.1); rintro e w77 ⟨v206, rfl, ho0, hb⟩; have n0_ := qa.mk (Kd.qM (rq HO_8) hb); have n1_ := qa.mk (Kd.qM (rq HO_9) hb); have n2_ := qa.mk (Kd.qO FG.out hb); have n5_ := qa.mk ho0; have n6_ := qa.mk (qc (bq HB) hb); clear HO_8; clear HO_9; clear FG; clear HB; have HO_8 := n0_; have HO_9 := n1_; have FG := n2_; have HO207 := n5_; have HB := n6_; clear n0_ n1_ n2_ n5_ n6_; clear hb ho0; obtain ⟨Ao79, co79, eo79⟩ := Kd.qN HO207.out; subst eo79; go_simp) | ((with_reducible refine qG (b := .append) (xs := #[.tmp 124, .tmp 125]) rfl ?_); (try (refine qU (by rfl) ?_; dsimp only)); at_builtin; refine Kd.zh (Kd.int .u8) (w0 := w) w.heap.size rfl (.tmp 124) (.tmp 125) 23 5 (.int .u8 0) 1 rfl Try.underlying23 info5 rfl (by decide) (by omega) v212 y226 x8_3 _ _ _ (fun k_ => True ) (fun _ => False) rfl rfl ?aO ?aR (fun _ _ h => h) (fun _ h => h.elim) ?aF ?aB ?aS ?aL ?_; (case aR => exact (Kd.qJ HO_8.out).2.2); (case aB => exact (bq HB)); (case aF => exact (fun k_ hk => trivial)); (case aO => exact Kd.qH HO213.out (fun _ _ => trivial)); (case aS => exact (qi (bq HB))); (case aL => have := LMc87.out; omega); intro v215 w82 ho hb hg hat; rw [← Ny229.out] at ho; have HO216 := qa.mk ho; have n5_ := qa.mk hb; clear HB; have HB := n5_; clear n5_; clear ho hb hg hat HO_8 HO213) | ((with_reducible refine qG (b := .append) (xs := #[.tmp 121, .tmp 122]) rfl ?_); (try (refine qU (by rfl) ?_; dsimp only)); at_builtin; refine Kd.zh (Kd.int .u8) (w0 := w) w.heap.size rfl (.tmp 121) (.tmp 122) 23 5 (.int .u8 0) 1 rfl Try.underlying23 info5 rfl (by decide) (by omega) v209 y223 x9_3 _ _ _ (fun k_ => (True ∧ some k_ ≠ (u8 : Value).ownBlock) ∧ some k_ ≠ (.slice Ao81 x9_3.length co81 : Value).ownBlock) (fun _ => False) rfl rfl ?aO ?aR (fun _ _ h => h) (fun _ h => h.elim) ?aF ?aB ?aS ?aL ?_; (case aR => exact (Kd.qJ HO_9.out).2.2); (case aB => exact (bq HB)); (case aF => exact (fun k_ hk => ⟨⟨trivial, Kd.fresh' (Kd.za (rq HO_8)) k_ hk⟩, Kd.fresh' (Kd.za (rq HO_9)) k_ hk⟩)); (case aO => exact HO210.out); (case aS => exact (qi (bq HB))); (case aL => have := LMc86.out; omega); intro v212 w80 ho hb hg hat; rw [← Ny226.out] at ho; have n0_ := qa.mk (Kd.zb (rq HO_8) hg hat); have n5_ := qa.mk hb; have n6_ := qa.mk ho; clear HO_8; clear HO_9; clear HB; clear HO210; have HO_8 := n0_; have HB := n5_; have HO213 := n6_; clear n0_ n5_ n6_; clear ho hb hg hat; obtain ⟨Ao83, co83, eo83⟩ := Kd.qN HO_8.out; subst eo83) | ((with_reducible refine qG (b := .append) (xs := #[.tmp 115, .tmp 119]) rfl ?_); (try (refine qU (by rfl) ?_; dsimp only)); at_builtin; refine QG rfl (.tmp 115) (.tmp 119) 23 5 rfl Try.underlying23 (by rfl) g y196 t220 Ao79 co79 ?hs rfl FG.out (Kd.qJ HO207.out).2.2 ?hx NE.out ?hl ?_; (case hs => rw [LY.out]; rfl); (case hx => (intro z; have := LY.out; rw [z] at this; cases this)); (case hl => have := LMc85.out; omega); intro v209 w78 ho hb; rw [← Ny223.out] at ho; have n0_ := qa.mk (Kd.zo (rq HO_8) (Kd.qZ ho) hb); have n1_ := qa.mk (Kd.zo (rq HO_9) (Kd.qZ ho) hb); have n2_ := qa.mk (Kd.zI (Kd.zF (Kd.zF ho (Kd.za (rq HO_8))) (Kd.za (rq HO_9))) (qi (bq HB))); have n5_ := qa.mk (qc (bq HB) hb); clear HO_8; clear HO_9; clear HB; have HO_8 := n0_; have HO_9 := n1_; have HO210 := n2_; have HB := n5_; clear n0_ n1_ n2_ n5_; clear hb ho HO207 HO204 FG; obtain ⟨Ao81, co81, eo81⟩ := Kd.qN HO_9.out; subst eo81))
         repeat (go_quiet (first | ((with_reducible refine qX (N := 118) rfl ?_); (try (refine qU (by rfl) ?_; dsimp only)); refine Kd.jQ (Kd.int .i64) _ 3 ?hg (N := 118) ?hd (xs := ([(l1.length : Int), 0, 0, 0] : List Int)) (inner := [.int .i64 (l1.length : Int), .int .i64 0, .int .i64 0, .int .i64 0]) (ok := fun _ => True) (okp := fun _ => True) ?hr ?hp (fun _ hk => hk) trivial (Below.refl _ _) (Nat.le_refl _) (by simp) ?_; (case hd => rfl); (case hg => rfl); (case hr => first | (go_simp; done) | (go_simp; rfl)); (case hp => exact (qY.one (show Kd.M (Kd.int .i64) _ _ _ (l1.length : Int) [.int .i64 (l1.length : Int)] from rfl) (qY.one (show Kd.M (Kd.int .i64) _ _ _ 0 [.int .i64 0] from rfl) (qY.one (show Kd.M (Kd.int .i64) _ _ _ 0 [.int .i64 0] from rfl) (qY.one (show Kd.M (Kd.int .i64) _ _ _ 0 [.int .i64 0] from rfl) (qY.none _ _)))))); intro v203 w74 ho75 hb hg_ hnew_; clear hg_ hnew_; (first | rw [← Ny217.out] at ho75 | (simp only [Int.reduceToNat] at ho75; rw [← Ny217.out] at ho75)); have n0_ := qa.mk (Kd.qM (rq HO_8) hb); have n1_ := qa.mk (Kd.qM (rq HO_9) hb); have n2_ := qa.mk (Kd.qO FG.out hb); have n4_ := qa.mk ho75; have n5_ := qa.mk (qc (bq HB) hb); clear HO_8; clear HO_9; clear FG; clear HB; have HO_8 := n0_; have HO_9 := n1_; have FG := n2_; have HO204 := n4_; have HB := n5_; clear n0_ n1_ n2_ n4_ n5_; clear hb ho75; obtain ⟨Ao76, co76, eo76⟩ := Kd.qN HO204.out; subst eo76) | (go_at_call 49; (with_reducible refine (qy.calls k3 _ _ y217 t220 _ ?side1 ?side2 A84.out).mono ?_); (case side1 => exact (Kd.qJ HO204.out).2.2); (case side2 => exact (Kd.qJ HO204.out).2.1); rintro e w77 ⟨v206, rfl, ho0, hb⟩; have n0_ := qa.mk (Kd.qM (rq HO_8) hb); have n1_ := qa.mk (Kd.qM (rq HO_9) hb); have n2_ := qa.mk (Kd.qO FG.out hb); have n5_ := qa.mk ho0; have n6_ := qa.mk (qc (bq HB) hb); clear HO_8; clear HO_9; clear FG; clear HB; have HO_8 := n0_; have HO_9 := n1_; have FG := n2_; have HO207 := n5_; have HB := n6_; clear n0_ n1_ n2_ n5_ n6_; clear hb ho0; obtain ⟨Ao79, co79, eo79⟩ := Kd.qN HO207.out; subst eo79; go_simp) | ((with_reducible refine qG (b := .append) (xs := #[.tmp 124, .tmp 125]) rfl ?_); (try (refine qU (by rfl) ?_; dsimp only)); at_builtin; refine Kd.zh (Kd.int .u8) (w0 := w) w.heap.size rfl (.tmp 124) (.tmp 125) 23 5 (.int .u8 0) 1 rfl Try.underlying23 info5 rfl (by decide) (by omega) v212 y226 x8_3 _ _ _ (fun k_ => True ) (fun _ => False) rfl rfl ?aO ?aR (fun _ _ h => h) (fun _ h => h.elim) ?aF ?aB ?aS ?aL ?_; (case aR => exact (Kd.qJ HO_8.out).2.2); (case aB => exact (bq HB)); (case aF => exact (fun k_ hk => trivial)); (case aO => exact Kd.qH HO213.out (fun _ _ => trivial)); (case aS => exact (qi (bq HB))); (case aL => have := LMc87.out; omega); intro v215 w82 ho hb hg hat; rw [← Ny229.out] at ho; have HO216 := qa.mk ho; have n5_ := qa.mk hb; clear HB; have HB := n5_; clear n5_; clear ho hb hg hat HO_8 HO213) | ((with_reducible refine qG (b := .append) (xs := #[.tmp 121, .tmp 122]) rfl ?_); (try (refine qU (by rfl) ?_; dsimp only)); at_builtin; refine Kd.zh (Kd.int .u8) (w0 := w) w.heap.size rfl (.tmp 121) (.tmp 122) 23 5 (.int .u8 0) 1 rfl Try.underlying23 info5 rfl (by decide) (by omega) v209 y223 x9_3 _ _ _ (fun k_ => (True ∧ some k_ ≠ (u8 : Value).ownBlock) ∧ some k_ ≠ (.slice Ao81 x9_3.length co81 : Value).ownBlock) (fun _ => False) rfl rfl ?aO ?aR (fun _ _ h => h) (fun _ h => h.elim) ?aF ?aB ?aS ?aL ?_; (case aR => exact (Kd.qJ HO_9.out).2.2); (case aB => exact (bq HB)); (case aF => exact (fun k_ hk => ⟨⟨trivial, Kd.fresh' (Kd.za (rq HO_8)) k_ hk⟩, Kd.fresh' (Kd.za (rq HO_9)) k_ hk⟩)); (case aO => exact HO210.out); (case aS => exact (qi (bq HB))); (case aL => have := LMc86.out; omega); intro v212 w80 ho hb hg hat; rw [← Ny226.out] at ho; have n0_ := qa.mk (Kd.zb (rq HO_8) hg hat); have n5_ := qa.mk hb; have n6_ := qa.mk ho; clear HO_8; clear HO_9; clear HB; clear HO210; have HO_8 := n0_; have HB := n5_; have HO213 := n6_; clear n0_ n5_ n6_; clear ho hb hg hat; obtain ⟨Ao83, co83, eo83⟩ := Kd.qN HO_8.out; subst eo83) | ((with_reducible refine qG (b := .append) (xs := #[.tmp 115, .tmp 119]) rfl ?_); (try (refine qU (by rfl) ?_; dsimp only)); at_builtin; refine QG rfl (.tmp 115) (.tmp 119) 23 5 rfl Try.underlying23 (by rfl) g y196 t220 Ao79 co79 ?hs rfl FG.out (Kd.qJ HO207.out).2.2 ?hx NE.out ?hl ?_; (case hs => rw [LY.out]; rfl); (case hx => (intro z; have := LY.out; rw [z] at this; cases this)); (case hl => have := LMc85.out; omega); intro v209 w78 ho hb; rw [← Ny223.out] at ho; have n0_ := qa.mk (Kd.zo (rq HO_8) (Kd.qZ ho) hb); have n1_ := qa.mk (Kd.zo (rq HO_9) (Kd.qZ ho) hb); have n2_ := qa.mk (Kd.zI (Kd.zF (Kd.zF ho (Kd.za (rq HO_8))) (Kd.za (rq HO_9))) (qi (bq HB))); have n5_ := qa.mk (qc (bq HB) hb); clear HO_8; clear HO_9; clear HB; have HO_8 := n0_; have HO_9 := n1_; have HO210 := n2_; have HB := n5_; clear n0_ n1_ n2_ n5_; clear hb ho HO207 HO204 FG; obtain ⟨Ao81, co81, eo81⟩ := Kd.qN HO_9.out; subst eo81)))
         go_ret2
         exact ⟨_, by first | rfl | (simp [qW, qV] <;> rfl) | (simp [*, qW, qV] <;> rfl), Kd.qH HO216.out (fun _ hk => trivial), bq HB⟩
        rw [if_pos c65] at H
        have c65b0 : (a0 == 2) = true := beq_iff_eq.mpr c65
        have c65b1 : (a0 != 2) = false := bne_eq_false_iff_eq.mpr c65
        clear c65
        obtain ⟨y199, hy199⟩ : ∃ y_ : List Int, y_ = (([79, 84, 84, 79] : List Int)) := ⟨_, rfl⟩
        replace H : ((qy.f k3 (([(l1.length : Int), 0, 0, 0] : List Int))).bind fun t205 => (if y199.length + t205.length < 140737488355328 then ((some (y199 ++ t205 : List Int)).bind fun y208 => (if y208.length + x9_3.length < 140737488355328 then ((some (y208 ++ x9_3 : List Int)).bind fun y211 => (if y211.length + x8_3.length < 140737488355328 then (some ((y211 ++ x8_3), 0)) else (none))) else (none))) else (none))) = some (r1, r2) := by first | (rw [hy199]; with_reducible exact H) | (have H2_ := (Option.bind_some _ _).symm.trans H; rw [hy199]; with_reducible exact H2_) | (have H2_ := (Option.bind_some _ _).symm.trans H; with_reducible exact H2_) | with_reducible exact H | (rw [hy199]; exact H) | exact H
        have Ny199 := qa.mk hy199
        clear hy199
        obtain ⟨y202, hy202⟩ : ∃ y_ : List Int, y_ = (([(l1.length : Int), 0, 0, 0] : List Int)) := ⟨_, rfl⟩
        replace H : ((qy.f k3 y202).bind fun t205 => (if y199.length + t205.length < 140737488355328 then ((some (y199 ++ t205 : List Int)).bind fun y208 => (if y208.length + x9_3.length < 140737488355328 then ((some (y208 ++ x9_3 : List Int)).bind fun y211 => (if y211.length + x8_3.length < 140737488355328 then (some ((y211 ++ x8_3), 0)) else (none))) else (none))) else (none))) = some (r1, r2) := by first | (rw [hy202]; with_reducible exact H) | (have H2_ := (Option.bind_some _ _).symm.trans H; rw [hy202]; with_reducible exact H2_) | (have H2_ := (Option.bind_some _ _).symm.trans H; with_reducible exact H2_) | with_reducible exact H | (rw [hy202]; exact H) | exact H
        have Ny202 := qa.mk hy202
        clear hy202
        replace H := Option.bind_eq_some_iff.mp H
        obtain ⟨t205, A660, H⟩ := H
        replace H : (if y199.length + t205.length < 140737488355328 then ((some (y199 ++ t205 : List Int)).bind fun y208 => (if y208.length + x9_3.length < 140737488355328 then ((some (y208 ++ x9_3 : List Int)).bind fun y211 => (if y211.length + x8_3.length < 140737488355328 then (some ((y211 ++ x8_3), 0)) else (none))) else (none))) else (none)) = some (r1, r2) := H
        have A66 := qa.mk A660
        clear A660
        by_cases c67 : y199.length + t205.length < 140737488355328
        case neg =>
         rw [if_neg c67] at H
         exact absurd H (by simp)
        rw [if_pos c67] at H
        have LMc67 := qa.mk c67
        clear c67
        obtain ⟨y208, hy208⟩ : ∃ y_ : List Int, y_ = (y199 ++ t205) := ⟨_, rfl⟩
        replace H : (if y208.length + x9_3.length < 140737488355328 then ((some (y208 ++ x9_3 : List Int)).bind fun y211 => (if y211.length + x8_3.length < 140737488355328 then (some ((y211 ++ x8_3), 0)) else (none))) else (none)) = some (r1, r2) := by first | (rw [hy208]; with_reducible exact H) | (have H2_ := (Option.bind_some _ _).symm.trans H; rw [hy208]; with_reducible exact H2_) | (have H2_ := (Option.bind_some _ _).symm.trans H; with_reducible exact H2_) | with_reducible exact H | (rw [hy208]; exact H) | exact H
        have Ny208 := qa.mk hy208
        clear hy208
        by_cases c68 : y208.length + x9_3.length < 140737488355328
        case neg =>
         rw [if_neg c68] at H
         exact absurd H (by simp)
        rw [if_pos c68] at H
        have LMc68 := qa.mk c68
        clear c68
        obtain ⟨y211, hy211⟩ : ∃ y_ : List Int, y_ = (y208 ++ x9_3) := ⟨_, rfl⟩
        replace H : (if y211.length + x8_3.length < 140737488355328 then (some ((y211 ++ x8_3), 0)) else (none)) = some (r1, r2) := by first | (rw [hy211]; with_reducible exact H) | (have H2_ := (Option.bind_some _ _).symm.trans H; rw [hy211]; with_reducible exact H2_) | (have H2_ := (Option.bind_some _ _).symm.trans H; with_reducible exact H2_) | with_reducible exact H | (rw [hy211]; exact H) | exact H
        have Ny211 := qa.mk hy211
        clear hy211
        by_cases c69 : y211.length + x8_3.length < 140737488355328
        case neg =>
         rw [if_neg c69] at H
         exact absurd H (by simp)
        rw [if_pos c69] at H
        have LMc69 := qa.mk c69
        clear c69
        obtain ⟨y214, hy214⟩ : ∃ y_ : List Int, y_ = (y211 ++ x8_3) := ⟨_, rfl⟩
        replace H : (some (y214, 0)) = some (r1, r2) := by first | (rw [hy214]; with_reducible exact H) | (have H2_ := (Option.bind_some _ _).symm.trans H; rw [hy214]; with_reducible exact H2_) | (have H2_ := (Option.bind_some _ _).symm.trans H; with_reducible exact H2_) | with_reducible exact H | (rw [hy214]; exact H) | exact H
        have Ny214 := qa.mk hy214
        clear hy214
        simp only [Option.some.injEq, Prod.mk.injEq] at H
        obtain ⟨rfl, rfl⟩ := H
        have kc := fun (w : World) (C : Array Value) (n c : Nat) => Lib.run_convert_bytes_const (P := Try.prog) w 23 5 C n c Try.underlying23 Try.underlying5
        have hz1 : ∀ (w : World) (o : Obj), (w.alloc o).heap.size = w.heap.size + 1 := fun w o => Array.size_push ..
        have kc2 := fun (w : World) (o : Obj) (C : Array Value) (n c : Nat) => Lib.run_convert_bytes_const (P := Try.prog) (w.alloc o) 23 5 C n c Try.underlying23 Try.underlying5
        simp only [hz1] at kc2
        go_upto_region 29 with fail
        obtain ⟨wz, g, hW, eg, kg, lW⟩ : ∃ wz g, wz = (wr.alloc (Obj.cells #[.int .u8 0, .int .u8 1, .int .u8 0, .int .u8 0] 5 (4, 5))).alloc (Obj.cells #[.int .u8 79, .int .u8 84, .int .u8 84, .int .u8 79] 5 (4, 5)) ∧ wr.heap.size + 1 = g ∧ wz.heap[g]? = some (Obj.cells #[.int .u8 79, .int .u8 84, .int .u8 84, .int .u8 79] 5 (4, 5)) ∧ Below wr.heap.size wr wz := ⟨_, _, rfl, rfl, by first | exact zk _ _ | (have z := zk (wr.alloc (Obj.cells #[.int .u8 0, .int .u8 1, .int .u8 0, .int .u8 0] 5 (4, 5))) (Obj.cells #[.int .u8 79, .int .u8 84, .int .u8 84, .int .u8 79] 5 (4, 5)); simpa [hz1] using z), qF (qF (Below.refl _ _) _) _⟩
        rw [← hW, eg]
        have n0_ := qa.mk (Kd.qM HO_8.out lW)
        have n1_ := qa.mk (Kd.qM HO_9.out lW)
        have n2_ := qa.mk (qc HB.out lW)
        have FG : qa (Kd.C (Kd.int .u8) wz (some ⟨g, 0, none⟩) y199.length y199) := ⟨by rw [Ny199.out]; exact C_row (k := .u8) kg (by decide)⟩
        have LY : qa (y199.length = 4) := ⟨by rw [Ny199.out]; rfl⟩
        have NE : qa (t205 ≠ []) := ⟨two_ne A66.out (by rw [Ny202.out]; exact Nat.succ_pos _)⟩
        clear HO_8 HO_9 HB hW eg kg lW kc kc2 hz1
        have HO_8 := n0_
        have HO_9 := n1_
        have HB := n2_
        clear n0_ n1_ n2_
        go_wp2_with (first | ((with_reducible refine qX (N := 118) rfl ?_); (try (refine qU (by rfl) ?_; dsimp only)); refine Kd.jQ (Kd.int .i64) _ 3 ?hg (N := 118) ?hd (xs := ([(l1.length : Int), 0, 0, 0] : List Int)) (inner := [.int .i64 (l1.length : Int), .int .i64 0, .int .i64 0, .int .i64 0]) (ok := fun _ => True) (okp := fun _ => True) ?hr ?hp (fun _ hk => hk) trivial (Below.refl _ _) (Nat.le_refl _) (by simp) ?_; (case hd => rfl); (case hg => rfl); (case hr => first | (go_simp; done) | (go_simp; rfl)); (case hp => exact (qY.one (show Kd.M (Kd.int .i64) _ _ _ (l1.length : Int) [.int .i64 (l1.length : Int)] from rfl) (qY.one (show Kd.M (Kd.int .i64) _ _ _ 0 [.int .i64 0] from rfl) (qY.one (show Kd.M (Kd.int .i64) _ _ _ 0 [.int .i64 0] from rfl) (qY.one (show Kd.M (Kd.int .i64) _ _ _ 0 [.int .i64 0] from rfl) (qY.none _ _)))))); intro v203 w74 ho75 hb hg_ hnew_; clear hg_ hnew_; (first | rw [← Ny202.out] at ho75 | (simp only [Int.reduceToNat] at ho75; rw [← Ny202.out] at ho75)); have n0_ := qa.mk (Kd.qM (rq HO_8) hb); have n1_ := qa.mk (Kd.qM (rq HO_9) hb); have n2_ := qa.mk (Kd.qO FG.out hb); have n4_ := qa.mk ho75; have n5_ := qa.mk (qc (bq HB) hb); clear HO_8; clear HO_9; clear FG; clear HB; have HO_8 := n0_; have HO_9 := n1_; have FG := n2_; have HO204 := n4_; have HB := n5_; clear n0_ n1_ n2_ n4_ n5_; clear hb ho75; obtain ⟨Ao76, co76, eo76⟩ := Kd.qN HO204.out; subst eo76) | (go_at_call 49; (with_reducible refine (qy.calls k3 _ _ y202 t205 _ ?side1 ?side2 A66.out).mono ?_); (case side1 => exact (Kd.qJ HO204.out).2.2); (case side2 => exact (Kd.qJ HO204.out).2.1); rintro e w77 ⟨v206, rfl, ho0, hb⟩; have n0_ := qa.mk (Kd.qM (rq HO_8) hb); have n1_ := qa.mk (Kd.qM (rq HO_9) hb); have n2_ := qa.mk (Kd.qO FG.out hb); have n5_ := qa.mk ho0; have n6_ := qa.mk (qc (bq HB) hb); clear HO_8; clear HO_9; clear FG; clear HB; have HO_8 := n0_; have HO_9 := n1_; have FG := n2_; have HO207 := n5_; have HB := n6_; clear n0_ n1_ n2_ n5_ n6_; clear hb ho0; obtain ⟨Ao79, co79, eo79⟩ := Kd.qN HO207.out; subst eo79; go_simp) | ((with_reducible refine qG (b := .append) (xs := #[.tmp 124, .tmp 125]) rfl ?_); (try (refine qU (by rfl) ?_; dsimp only)); at_builtin; refine Kd.zh (Kd.int .u8) (w0 := w) w.heap.size rfl (.tmp 124) (.tmp 125) 23 5 (.int .u8 0) 1 rfl Try.underlying23 info5 rfl (by decide) (by omega) v212 y211 x8_3 _ _ _ (fun k_ => True ) (fun _ => False) rfl rfl ?aO ?aR (fun _ _ h => h) (fun _ h => h.elim) ?aF ?aB ?aS ?aL ?_; (case aR => exact (Kd.qJ HO_8.out).2.2); (case aB => exact (bq HB)); (case aF => exact (fun k_ hk => trivial)); (case aO => exact Kd.qH HO213.out (fun _ _ => trivial)); (case aS => exact (qi (bq HB))); (case aL => have := LMc69.out; omega); intro v215 w82 ho hb hg hat; rw [← Ny214.out] at ho; have HO216 := qa.mk ho; have n5_ := qa.mk hb; clear HB; have HB := n5_; clear n5_; clear ho hb hg hat HO_8 HO213) | ((with_reducible refine qG (b := .append) (xs := #[.tmp 121, .tmp 122]) rfl ?_); (try (refine qU (by rfl) ?_; dsimp only)); at_builtin; refine Kd.zh (Kd.int .u8) (w0 := w) w.heap.size rfl (.tmp 121) (.tmp 122) 23 5 (.int .u8 0) 1 rfl Try.underlying23 info5 rfl (by decide) (by omega) v209 y208 x9_3 _ _ _ (fun k_ => (True ∧ some k_ ≠ (u8 : Value).ownBlock) ∧ some k_ ≠ (.slice Ao81 x9_3.length co81 : Value).ownBlock) (fun _ => False) rfl rfl ?aO ?aR (fun _ _ h => h) (fun _ h => h.elim) ?aF ?aB ?aS ?aL ?_; (case aR => exact (Kd.qJ HO_9.out).2.2); (case aB => exact (bq HB)); (case aF => exact (fun k_ hk => ⟨⟨trivial, Kd.fresh' (Kd.za (rq HO_8)) k_ hk⟩, Kd.fresh' (Kd.za (rq HO_9)) k_ hk⟩)); (case aO => exact HO210.out); (case aS => exact (qi (bq HB))); (case aL => have := LMc68.out; omega); intro v212 w80 ho hb hg hat; rw [← Ny211.out] at ho; have n0_ := qa.mk (Kd.zb (rq HO_8) hg hat); have n5_ := qa.mk hb; have n6_ := qa.mk ho; clear HO_8; clear HO_9; clear HB; clear HO210; have HO_8 := n0_; have HB := n5_; have HO213 := n6_; clear n0_ n5_ n6_; clear ho hb hg hat; obtain ⟨Ao83, co83, eo83⟩ := Kd.qN HO_8.out; subst eo83) | ((with_reducible refine qG (b := .append) (xs := #[.tmp 115, .tmp 119]) rfl ?_); (try (refine qU (by rfl) ?_; dsimp only)); at_builtin; refine QG rfl (.tmp 115) (.tmp 119) 23 5 rfl Try.underlying23 (by rfl) g y199 t205 Ao79 co79 ?hs rfl FG.out (Kd.qJ HO207.out).2.2 ?hx NE.out ?hl ?_; (case hs => rw [LY.out]; rfl); (case hx => (intro z; have := LY.out; rw [z] at this; cases this)); (case hl => have := LMc67.out; omega); intro v209 w78 ho hb; rw [← Ny208.out] at ho; have n0_ := qa.mk (Kd.zo (rq HO_8) (Kd.qZ ho) hb); have n1_ := qa.mk (Kd.zo (rq HO_9) (Kd.qZ ho) hb); have n2_ := qa.mk (Kd.zI (Kd.zF (Kd.zF ho (Kd.za (rq HO_8))) (Kd.za (rq HO_9))) (qi (bq HB))); have n5_ := qa.mk (qc (bq HB) hb); clear HO_8; clear HO_9; clear HB; have HO_8 := n0_; have HO_9 := n1_; have HO210 := n2_; have HB := n5_; clear n0_ n1_ n2_ n5_; clear hb ho HO207 HO204 FG; obtain ⟨Ao81, co81, eo81⟩ := Kd.qN HO_9.out; subst eo81))
        repeat (go_quiet (first | ((with_reducible refine qX (N := 118) rfl ?_); (try (refine qU (by rfl) ?_; dsimp only)); refine Kd.jQ (Kd.int .i64) _ 3 ?hg (N := 118) ?hd (xs := ([(l1.length : Int), 0, 0, 0] : List Int)) (inner := [.int .i64 (l1.length : Int), .int .i64 0, .int .i64 0, .int .i64 0]) (ok := fun _ => True) (okp := fun _ => True) ?hr ?hp (fun _ hk => hk) trivial (Below.refl _ _) (Nat.le_refl _) (by simp) ?_; (case hd => rfl); (case hg => rfl); (case hr => first | (go_simp; done) | (go_simp; rfl)); (case hp => exact (qY.one (show Kd.M (Kd.int .i64) _ _ _ (l1.length : Int) [.int .i64 (l1.length : Int)] from rfl) (qY.one (show Kd.M (Kd.int .i64) _ _ _ 0 [.int .i64 0] from rfl) (qY.one (show Kd.M (Kd.int .i64) _ _ _ 0 [.int .i64 0] from rfl) (qY.one (show Kd.M (Kd.int .i64) _ _ _ 0 [.int .i64 0] from rfl) (qY.none _ _)))))); intro v203 w74 ho75 hb hg_ hnew_; clear hg_ hnew_; (first | rw [← Ny202.out] at ho75 | (simp only [Int.reduceToNat] at ho75; rw [← Ny202.out] at ho75)); have n0_ := qa.mk (Kd.qM (rq HO_8) hb); have n1_ := qa.mk (Kd.qM (rq HO_9) hb); have n2_ := qa.mk (Kd.qO FG.out hb); have n4_ := qa.mk ho75; have n5_ := qa.mk (qc (bq HB) hb); clear HO_8; clear HO_9; clear FG; clear HB; have HO_8 := n0_; have HO_9 := n1_; have FG := n2_; have HO204 := n4_; have HB := n5_; clear n0_ n1_ n2_ n4_ n5_; clear hb ho75; obtain ⟨Ao76, co76, eo76⟩ := Kd.qN HO204.out; subst eo76) | (go_at_call 49; (with_reducible refine (qy.calls k3 _ _ y202 t205 _ ?side1 ?side2 A66.out).mono ?_); (case side1 => exact (Kd.qJ HO204.out).2.2); (case side2 => exact (Kd.qJ HO204.out).2.1); rintro e w77 ⟨v206, rfl, ho0, hb⟩; have n0_ := qa.mk (Kd.qM (rq HO_8) hb); have n1_ := qa.mk (Kd.qM (rq HO_9) hb); have n2_ := qa.mk (Kd.qO FG.out hb); have n5_ := qa.mk ho0; have n6_ := qa.mk (qc (bq HB) hb); clear HO_8; clear HO_9; clear FG; clear HB; have HO_8 := n0_; have HO_9 := n1_; have FG := n2_; have HO207 := n5_; have HB := n6_; clear n0_ n1_ n2_ n5_ n6_; clear hb ho0; obtain ⟨Ao79, co79, eo79⟩ := Kd.qN HO207.out; subst eo79; go_simp) | ((with_reducible refine qG (b := .append) (xs := #[.tmp 124, .tmp 125]) rfl ?_); (try (refine qU (by rfl) ?_; dsimp only)); at_builtin; refine Kd.zh (Kd.int .u8) (w0 := w) w.heap.size rfl (.tmp 124) (.tmp 125) 23 5 (.int .u8 0) 1 rfl Try.underlying23 info5 rfl (by decide) (by omega) v212 y211 x8_3 _ _ _ (fun k_ => True ) (fun _ => False) rfl rfl ?aO ?aR (fun _ _ h => h) (fun _ h => h.elim) ?aF ?aB ?aS ?aL ?_; (case aR => exact (Kd.qJ HO_8.out).2.2); (case aB => exact (bq HB)); (case aF => exact (fun k_ hk => trivial)); (case aO => exact Kd.qH HO213.out (fun _ _ => trivial)); (case aS => exact (qi (bq HB))); (case aL => have := LMc69.out; omega); intro v215 w82 ho hb hg hat; rw [← Ny214.out] at ho; have HO216 := qa.mk ho; have n5_ := qa.mk hb; clear HB; have HB := n5_; clear n5_; clear ho hb hg hat HO_8 HO213) | ((with_reducible refine qG (b := .append) (xs := #[.tmp 121, .tmp 122]) rfl ?_); (try (refine qU (by rfl) ?_; dsimp only)); at_builtin; refine Kd.zh (Kd.int .u8) (w0 := w) w.heap.size rfl (.tmp 121) (.tmp 122) 23 5 (.int .u8 0) 1 rfl Try.underlying23 info5 rfl (by decide) (by omega) v209 y208 x9_3 _ _ _ (fun k_ => (True ∧ some k_ ≠ (u8 : Value).ownBlock) ∧ some k_ ≠ (.slice Ao81 x9_3.length co81 : Value).ownBlock) (fun _ => False) rfl rfl ?aO ?aR (fun _ _ h => h) (fun _ h => h.elim) ?aF ?aB ?aS ?aL ?_; (case aR => exact (Kd.qJ HO_9.out).2.2); (case aB => exact (bq HB)); (case aF => exact (fun k_ hk => ⟨⟨trivial, Kd.fresh' (Kd.za (rq HO_8)) k_ hk⟩, Kd.fresh' (Kd.za (rq HO_9)) k_ hk⟩)); (case aO => exact HO210.out); (case aS => exact (qi (bq HB))); (case aL => have := LMc68.out; omega); intro v212 w80 ho hb hg hat; rw [← Ny211.out] at ho; have n0_ := qa.mk (Kd.zb (rq HO_8) hg hat); have n5_ := qa.mk hb; have n6_ := qa.mk ho; clear HO_8; clear HO_9; clear HB; clear HO210; have HO_8 := n0_; have HB := n5_; have HO213 := n6_; clear n0_ n5_ n6_; clear ho hb hg hat; obtain ⟨Ao83, co83, eo83⟩ := Kd.qN HO_8.out; subst eo83) | ((with_reducible refine qG (b := .append) (xs := #[.tmp 115, .tmp 119]) rfl ?_); (try (refine qU (by rfl) ?_; dsimp only)); at_builtin; refine QG rfl (.tmp 115) (.tmp 119) 23 5 rfl Try.underlying23 (by rfl) g y199 t205 Ao79 co79 ?hs rfl FG.out (Kd.qJ HO207.out).2.2 ?hx NE.out ?hl ?_; (case hs => rw [LY.out]; rfl); (case hx => (intro z; have := LY.out; rw [z] at this; cases this)); (case hl => have := LMc67.out; omega); intro v209 w78 ho hb; rw [← Ny208.out] at ho; have n0_ := qa.mk (Kd.zo (rq HO_8) (Kd.qZ ho) hb); have n1_ := qa.mk (Kd.zo (rq HO_9) (Kd.qZ ho) hb); have n2_ := qa.mk (Kd.zI (Kd.zF (Kd.zF ho (Kd.za (rq HO_8))) (Kd.za (rq HO_9))) (qi (bq HB))); have n5_ := qa.mk (qc (bq HB) hb); clear HO_8; clear HO_9; clear HB; have HO_8 := n0_; have HO_9 := n1_; have HO210 := n2_; have HB := n5_; clear n0_ n1_ n2_ n5_; clear hb ho HO207 HO204 FG; obtain ⟨Ao81, co81, eo81⟩ := Kd.qN HO_9.out; subst eo81)))
        go_ret2
        exact ⟨_, by first | rfl | (simp [qW, qV] <;> rfl) | (simp [*, qW, qV] <;> rfl), Kd.qH HO216.out (fun _ hk => trivial), bq HB⟩
       rw [if_pos c29] at H
       have c29b0 : decide (x59_3 < (l1.length : Int)) = true := decide_eq_true c29
       clear c29
       by_cases c30 : 0 ≤ x59_3
       case neg =>
        rw [if_neg c30] at H
        exact absurd H (by simp)
       rw [if_pos c30] at H
       have c30b0 : decide (0 ≤ x59_3) = true := decide_eq_true c30
       clear c30
       by_cases c31 : x59_3 < (l1.length : Int)
       case neg =>
        rw [if_neg c31] at H
        exact absurd H (by simp)
       rw [if_pos c31] at H
       have c31b0 : decide (x59_3 < (l1.length : Int)) = true := decide_eq_true c31
       clear c31
       by_cases c32 : x9_3.length + ((ql l1 x59_3).f0).size < 140737488355328
       case neg =>
        rw [if_neg c32] at H
        exact absurd H (by simp)
       rw [if_pos c32] at H
       have LMc32 := qa.mk c32
       clear c32
       obtain ⟨y234, hy234⟩ : ∃ y_ : List Int, y_ = (x9_3 ++ bytesOf ((ql l1 x59_3).f0)) := ⟨_, rfl⟩
       replace H : ((qB.f k3 ((ql l1 x59_3).f1)).bind fun t237 => ((qm.f k3 t237 4).bind fun t238 => (if y234.length + t238.length < 140737488355328 then ((some (y234 ++ t238 : List Int)).bind fun y241 => ((qm.f k3 (wrap64 ((wrap64 (12 + (wrap64 (16 * (l1.length : Int))))) + (x8_3.length : Int))) 4).bind fun t244 => (if y241.length + t244.length < 140737488355328 then ((some (y241 ++ t244 : List Int)).bind fun y247 => ((qm.f k3 (((ql l1 x59_3).f1).length : Int) 4).bind fun t250 => (if y247.length + t250.length < 140737488355328 then (if x8_3.length + ((ql l1 x59_3).f1).length < 140737488355328 then (qo.l2 k3 a0 l1 (x8_3 ++ ((ql l1 x59_3).f1)) (y247 ++ t250) l1 (l1.length : Int) x59_3) else (none)) else (none)))) else (none)))) else (none)))) = some (r1, r2) := by first | (rw [hy234]; with_reducible exact H) | (have H2_ := (Option.bind_some _ _).symm.trans H; rw [hy234]; with_reducible exact H2_) | (have H2_ := (Option.bind_some _ _).symm.trans H; with_reducible exact H2_) | with_reducible exact H | (rw [hy234]; exact H) | exact H
       have Ny234 := qa.mk hy234
       clear hy234
       replace H := Option.bind_eq_some_iff.mp H
       obtain ⟨t237, A330, H⟩ := H
       replace H : ((qm.f k3 t237 4).bind fun t238 => (if y234.length + t238.length < 140737488355328 then ((some (y234 ++ t238 : List Int)).bind fun y241 => ((qm.f k3 (wrap64 ((wrap64 (12 + (wrap64 (16 * (l1.length : Int))))) + (x8_3.length : Int))) 4).bind fun t244 => (if y241.length + t244.length < 140737488355328 then ((some (y241 ++ t244 : List Int)).bind fun y247 => ((qm.f k3 (((ql l1 x59_3).f1).length : Int) 4).bind fun t250 => (if y247.length + t250.length < 140737488355328 then (if x8_3.length + ((ql l1 x59_3).f1).length < 140737488355328 then (qo.l2 k3 a0 l1 (x8_3 ++ ((ql l1 x59_3).f1)) (y247 ++ t250) l1 (l1.length : Int) x59_3) else (none)) else (none)))) else (none)))) else (none))) = some (r1, r2) := H
       have A33 := qa.mk A330
       clear A330
       replace H := Option.bind_eq_some_iff.mp H
       obtain ⟨t238, A340, H⟩ := H
       replace H : (if y234.length + t238.length < 140737488355328 then ((some (y234 ++ t238 : List Int)).bind fun y241 => ((qm.f k3 (wrap64 ((wrap64 (12 + (wrap64 (16 * (l1.length : Int))))) + (x8_3.length : Int))) 4).bind fun t244 => (if y241.length + t244.length < 140737488355328 then ((some (y241 ++ t244 : List Int)).bind fun y247 => ((qm.f k3 (((ql l1 x59_3).f1).length : Int) 4).bind fun t250 => (if y247.length + t250.length < 140737488355328 then (if x8_3.length + ((ql l1 x59_3).f1).length < 140737488355328 then (qo.l2 k3 a0 l1 (x8_3 ++ ((ql l1 x59_3).f1)) (y247 ++ t250) l1 (l1.length : Int) x59_3) else (none)) else (none)))) else (none)))) else (none)) = some (r1, r2) := H
       have A34 := qa.mk A340
       clear A340
       by_cases c35 : y234.length + t238.length < 140737488355328
       case neg =>
        rw [if_neg c35] at H
        exact absurd H (by simp)
       rw [if_pos c35] at H
       have LMc35 := qa.mk c35
       clear c35
       obtain ⟨y241, hy241⟩ : ∃ y_ : List Int, y_ = (y234 ++ t238) := ⟨_, rfl⟩
       replace H : ((qm.f k3 (wrap64 ((wrap64 (12 + (wrap64 (16 * (l1.length : Int))))) + (x8_3.length : Int))) 4).bind fun t244 => (if y241.length + t244.length < 140737488355328 then ((some (y241 ++ t244 : List Int)).bind fun y247 => ((qm.f k3 (((ql l1 x59_3).f1).length : Int) 4).bind fun t250 => (if y247.length + t250.length < 140737488355328 then (if x8_3.length + ((ql l1 x59_3).f1).length < 140737488355328 then (qo.l2 k3 a0 l1 (x8_3 ++ ((ql l1 x59_3).f1)) (y247 ++ t250) l1 (l1.length : Int) x59_3) else (none)) else (none)))) else (none))) = some (r1, r2) := by first | (rw [hy241]; with_reducible exact H) | (have H2_ := (Option.bind_some _ _).symm.trans H; rw [hy241]; with_reducible exact H2_) | (have H2_ := (Option.bind_some _ _).symm.trans H; with_reducible exact H2_) | with_reducible exact H | (rw [hy241]; exact H) | exact H
       have Ny241 := qa.mk hy241
       clear hy241
       replace H := Option.bind_eq_some_iff.mp H
       obtain ⟨t244, A360, H⟩ := H
       replace H : (if y241.length + t244.length < 140737488355328 then ((some (y241 ++ t244 : List Int)).bind fun y247 => ((qm.f k3 (((ql l1 x59_3).f1).length : Int) 4).bind fun t250 => (if y247.length + t250.length < 140737488355328 then (if x8_3.length + ((ql l1 x59_3).f1).length < 140737488355328 then (qo.l2 k3 a0 l1 (x8_3 ++ ((ql l1 x59_3).f1)) (y247 ++ t250) l1 (l1.length : Int) x59_3) else (none)) else (none)))) else (none)) = some (r1, r2) := H
       have A36 := qa.mk A360
       clear A360
       by_cases c37 : y241.length + t244.length < 140737488355328
       case neg =>
        rw [if_neg c37] at H
        exact absurd H (by simp)
       rw [if_pos c37] at H
       have LMc37 := qa.mk c37
       clear c37
       obtain ⟨y247, hy247⟩ : ∃ y_ : List Int, y_ = (y241 ++ t244) := ⟨_, rfl⟩
       replace H : ((qm.f k3 (((ql l1 x59_3).f1).length : Int) 4).bind fun t250 => (if y247.length + t250.length < 140737488355328 then (if x8_3.length + ((ql l1 x59_3).f1).length < 140737488355328 then (qo.l2 k3 a0 l1 (x8_3 ++ ((ql l1 x59_3).f1)) (y247 ++ t250) l1 (l1.length : Int) x59_3) else (none)) else (none))) = some (r1, r2) := by first | (rw [hy247]; with_reducible exact H) | (have H2_ := (Option.bind_some _ _).symm.trans H; rw [hy247]; with_reducible exact H2_) | (have H2_ := (Option.bind_some _ _).symm.trans H; with_reducible exact H2_) | with_reducible exact H | (rw [hy247]; exact H) | exact H
       have Ny247 := qa.mk hy247
       clear hy247
       replace H := Option.bind_eq_some_iff.mp H
       obtain ⟨t250, A380, H⟩ := H
       replace H : (if y247.length + t250.length < 140737488355328 then (if x8_3.length + ((ql l1 x59_3).f1).length < 140737488355328 then (qo.l2 k3 a0 l1 (x8_3 ++ ((ql l1 x59_3).f1)) (y247 ++ t250) l1 (l1.length : Int) x59_3) else (none)) else (none)) = some (r1, r2) := H
       have A38 := qa.mk A380
       clear A380
       by_cases c39 : y247.length + t250.length < 140737488355328
       case neg =>
        rw [if_neg c39] at H
        exact absurd H (by simp)
       rw [if_pos c39] at H
       have LMc39 := qa.mk c39
       clear c39
       obtain ⟨y253, hy253⟩ : ∃ y_ : List Int, y_ = (y247 ++ t250) := ⟨_, rfl⟩
       replace H : (if x8_3.length + ((ql l1 x59_3).f1).length < 140737488355328 then (qo.l2 k3 a0 l1 (x8_3 ++ ((ql l1 x59_3).f1)) y253 l1 (l1.length : Int) x59_3) else (none)) = some (r1, r2) := by first | (rw [hy253]; with_reducible exact H) | (have H2_ := (Option.bind_some _ _).symm.trans H; rw [hy253]; with_reducible exact H2_) | (have H2_ := (Option.bind_some _ _).symm.trans H; with_reducible exact H2_) | with_reducible exact H | (rw [hy253]; exact H) | exact H
       have Ny253 := qa.mk hy253
       clear hy253
       by_cases c40 : x8_3.length + ((ql l1 x59_3).f1).length < 140737488355328
       case neg =>
        rw [if_neg c40] at H
        exact absurd H (by simp)
       rw [if_pos c40] at H
       have LMc40 := qa.mk c40
       clear c40
       obtain ⟨y256, hy256⟩ : ∃ y_ : List Int, y_ = (x8_3 ++ ((ql l1 x59_3).f1)) := ⟨_, rfl⟩
       replace H : (qo.l2 k3 a0 l1 y256 y253 l1 (l1.length : Int) x59_3) = some (r1, r2) := by first | (rw [hy256]; with_reducible exact H) | (have H2_ := (Option.bind_some _ _).symm.trans H; rw [hy256]; with_reducible exact H2_) | (have H2_ := (Option.bind_some _ _).symm.trans H; with_reducible exact H2_) | with_reducible exact H | (rw [hy256]; exact H) | exact H
       have Ny256 := qa.mk hy256
       clear hy256
       have H' := qa.mk H
       clear H
       have p232 : 0 ≤ (x59_3 : Int) := odt
       have q232 : x59_3 < (l1.length : Int) := odt
       obtain ⟨ad232, A232_1, c232_1, e232, hx232_0, hx232_1, hl232_1, hi232_1⟩ := QB HR1.out x59_3 p232 q232
       cases e232
       replace hx232_0 := (HB.out.cell (World.block_lt_of_cell? w _ hx232_0)).trans hx232_0
       replace hx232_1 := (HB.out.cell (World.block_lt_of_cell? w _ hx232_1)).trans hx232_1
       have HR232_1 := qa.mk hi232_1
       have HC232_1 := qa.mk hl232_1
       clear hi232_1 hl232_1
       replace p232 := eq_true p232
       replace q232 := eq_true q232
       go_wp2_with (first | ((with_reducible refine qX (N := 11) rfl ?_); (try (refine qU (by rfl) ?_; dsimp only)); refine zt ?hg (N := 11) ?hd (cs := #[.string (⟨#[]⟩ : ByteArray), .slice none 0 0]) (t := 50) ?hr ?_; (case hd => rfl); (case hg => rfl); (case hr => first | (go_simp; done) | (go_simp; rfl)); intro gb233 hg w41 hbox hb; have n0_ := qa.mk (Kd.qM (rq HO_8) hb); have n1_ := qa.mk (Kd.qM (rq HO_9) hb); have n2_ := qa.mk (qc (bq HB) hb); have n3_ := qa.mk (hbox); have n4_ := qa.mk ((by rw [hg]; exact (qi (bq HB)) : w.heap.size ≤ gb233)); have n5_ := qa.mk ((by rw [hg]; exact (qi (bq HB)) : w.heap.size ≤ gb233)); clear HO_8; clear HO_9; clear HB; have HO_8 := n0_; have HO_9 := n1_; have HB := n2_; have BK233 := n3_; have GW233 := n4_; have GE233 := n5_; clear n0_ n1_ n2_ n3_ n4_ n5_; clear hb hbox hg; have hcz42_0 : w41.cell? ⟨gb233, 0, none⟩ = some (.string (⟨#[]⟩ : ByteArray)) := (qb BK233.out 0).trans rfl; have hcz42_1 : w41.cell? ⟨gb233, 1, none⟩ = some (.slice none 0 0) := (qb BK233.out 1).trans rfl; have hfz42_0 := qd BK233.out 0; have hfz42_1 := qd BK233.out 1) | (at_builtin; refine Zu (w0 := w) w.heap.size rfl (.tmp 63) _ 23 9 5 rfl Try.underlying23 Try.underlying9 info5 u9 x9_3 ((ql l1 x59_3).f0) (fun k_ => some k_ ≠ (u8 : Value).ownBlock) rfl rfl ?aF ?aO ?aB ?aS ?aL ?_; (case aB => exact (bs HB GE233)); (case aF => exact (fun k_ hk => Kd.fresh' (Kd.za (by (with_reducible repeat (first | apply Kd.qp | apply Kd.qx | apply Kd.qw)); exact (Kd.qH (Kd.jZ (p := ⟨gb233, 1, none⟩) (Kd.jZ (p := ⟨gb233, 0, none⟩) (Kd.Qr HO_8.out BK233.out (by decide)) (fun _ hk => hk.2) (.string ((ql l1 x59_3).f0))) (fun _ hk => hk.2) (.slice A232_1 ((ql l1 x59_3).f1).length c232_1)) (fun _ h_ => h_.1)))) k_ hk)); (case aO => exact (by (with_reducible repeat (first | apply Kd.qp | apply Kd.qx | apply Kd.qw)); exact Kd.qH (Kd.jZ (p := ⟨gb233, 1, none⟩) (Kd.jZ (p := ⟨gb233, 0, none⟩) (Kd.Qr HO_9.out BK233.out (by decide)) (fun _ hk => hk.2) (.string ((ql l1 x59_3).f0))) (fun _ hk => hk.2) (.slice A232_1 ((ql l1 x59_3).f1).length c232_1)) (fun _ hk => hk.1))); (case aS => exact (qi (bs HB GE233))); (case aL => have := LMc32.out; omega); intro v235 w43 ho hb hg hat; rw [← Ny234.out] at ho; have n0_ := qa.mk (Kd.zb (ok := (fun _ => True)) (by (with_reducible repeat (first | apply Kd.qp | apply Kd.qx | apply Kd.qw)); exact Kd.qH (Kd.jZ (p := ⟨gb233, 1, none⟩) (Kd.jZ (p := ⟨gb233, 0, none⟩) (Kd.Qr HO_8.out BK233.out (by decide)) (fun _ hk => hk.2) (.string ((ql l1 x59_3).f0))) (fun _ hk => hk.2) (.slice A232_1 ((ql l1 x59_3).f1).length c232_1)) (fun _ hk => ⟨trivial, hk.1⟩)) hg hat); have n1_ := qa.mk (zg (g := gb233) (o := .cells #[.string ((ql l1 x59_3).f0), .slice A232_1 ((ql l1 x59_3).f1).length c232_1] 50 (0, 0)) (by (with_reducible repeat (first | refine zx ?_ _ | refine qQ ?_ | refine zn ?_ _)); refine qR (cs := #[.string ((ql l1 x59_3).f0), .slice none 0 0]) ?_ 1 _ rfl; refine qR (cs := #[.string (⟨#[]⟩ : ByteArray), .slice none 0 0]) ?_ 0 _ rfl; exact kq BK233) hg (Kd.Qi HO_9.out BK233.out (by decide))); have n2_ := qa.mk (hb); have n3_ := qa.mk (ho); clear HO_8; clear BK233; clear HB; clear HO_9; have HO_8 := n0_; have BK233 := n1_; have HB := n2_; have HO236 := n3_; clear n0_ n1_ n2_ n3_; clear ho hb hg hat; have hcz44_0 : w43.cell? ⟨gb233, 0, none⟩ = some (.string ((ql l1 x59_3).f0)) := (qb BK233.out 0).trans rfl; have hcz44_1 : w43.cell? ⟨gb233, 1, none⟩ = some (.slice A232_1 ((ql l1 x59_3).f1).length c232_1) := (qb BK233.out 1).trans rfl; have hfz44_0 := qd BK233.out 0; have hfz44_1 := qd BK233.out 1) | (go_at_call 12; (with_reducible refine (qB.calls k3 _ _ ((ql l1 x59_3).f1) t237 _ ?side1 ?side2 A33.out).mono ?_); (case side1 => repeat (first | exact (Kd.qO HR232_1.out HB.out) | (with_reducible refine Kd.zD ?_ _) | (with_reducible refine Kd.zG ?_ _) | (with_reducible refine Kd.zN ?_))); (case side2 => exact HC232_1.out); rintro e w' ⟨rfl, ⟨nd, rfl⟩⟩; (try first | exact ⟨rfl, _, World.drewN_drewN _ _ _⟩ | exact ⟨rfl, _, Eq.trans (World.drewN_drewN _ _ _) (congrArg (World.drewN _) (Nat.add_assoc _ _ _))⟩)) | (go_at_call 48; (with_reducible refine (qm.calls k3 t237 4 t238 _ A34.out).mono ?_); rintro e w45 ⟨v239, rfl, ho0, hb⟩; have n0_ := qa.mk (Kd.zo (rq HO_8) (Kd.qZ ho0) hb); have n1_ := qa.mk (Kd.zo (rq HO236) (Kd.qZ ho0) hb); have n2_ := qa.mk (Kd.zI (Kd.zF (Kd.zF ho0 (Kd.za (rq HO_8))) (Kd.za (rq HO236))) (qi (bs HB GE233))); have n3_ := qa.mk (jc (g := gb233) (o := .cells #[.string ((ql l1 x59_3).f0), .slice A232_1 ((ql l1 x59_3).f1).length c232_1] 50 (0, 0)) (kq BK233) hb); have n4_ := qa.mk (qc (bs HB GE233) hb); clear HO_8; clear HO236; clear BK233; clear HB; have HO_8 := n0_; have HO236 := n1_; have HO240 := n2_; have BK233 := n3_; have HB := n4_; clear n0_ n1_ n2_ n3_ n4_; (try clear hb); (try clear hb2); (try clear hk); (try clear hi); (try clear ho0); obtain ⟨Ao47, co47, eo47⟩ := Kd.qN HO240.out; subst eo47) | ((with_reducible refine qG (b := .append) (xs := #[.tmp 67, .tmp 71]) rfl ?_); (try (refine qU (by rfl) ?_; dsimp only)); at_builtin; refine Kd.zh (Kd.int .u8) (w0 := w) w.heap.size rfl (.tmp 67) (.tmp 71) 23 5 (.int .u8 0) 1 rfl Try.underlying23 info5 rfl (by decide) (by omega) v235 y234 t238 _ _ _ (fun k_ => some k_ ≠ (u8 : Value).ownBlock ∧ some k_ ≠ (.slice Ao47 t238.length co47 : Value).ownBlock) (fun _ => False) rfl rfl ?aO ?aR (fun _ _ h => h) (fun _ h => h.elim) ?aF ?aB ?aS ?aL ?_; (case aR => repeat (first | exact (Kd.qJ HO240.out).2.2 | (with_reducible refine Kd.zD ?_ _) | (with_reducible refine Kd.zG ?_ _) | (with_reducible refine Kd.zN ?_))); (case aB => exact (bs HB GE233)); (case aF => exact (fun k_ hk => ⟨Kd.fresh' (Kd.za (rq HO_8)) k_ hk, Kd.fresh' (Kd.za (rq HO240)) k_ hk⟩)); (case aO => exact (rq HO236)); (case aS => exact (qi (bs HB GE233))); (case aL => have := LMc35.out; omega); intro v242 w46 ho hb hg hat; rw [← Ny241.out] at ho; have n0_ := qa.mk (Kd.zb (ok := (fun k_ => some k_ ≠ (.slice Ao47 t238.length co47 : Value).ownBlock)) (by (with_reducible repeat (first | apply Kd.qp | apply Kd.qx | apply Kd.qw)); exact Kd.qH HO_8.out (fun _ hk => ⟨hk.2, hk.1.2⟩)) hg hat); have n1_ := qa.mk (zg (g := gb233) (o := .cells #[.string ((ql l1 x59_3).f0), .slice A232_1 ((ql l1 x59_3).f1).length c232_1] 50 (0, 0)) (kq BK233) hg (Kd.Qi HO236.out BK233.out (by decide))); have n2_ := qa.mk (Kd.zb (ok := (fun k_ => some k_ ≠ (u8 : Value).ownBlock)) (by (with_reducible repeat (first | apply Kd.qp | apply Kd.qx | apply Kd.qw)); exact Kd.qH HO240.out (fun _ hk => ⟨hk.1.2, hk.2⟩)) hg hat); have n3_ := qa.mk (hb); have n4_ := qa.mk (ho); clear HO_8; clear BK233; clear HO240; clear HB; clear HO236; have HO_8 := n0_; have BK233 := n1_; have HO240 := n2_; have HB := n3_; have HO243 := n4_; clear n0_ n1_ n2_ n3_ n4_; clear ho hb hg hat; obtain ⟨Ao48, co48, eo48⟩ := Kd.qN HO_8.out; subst eo48) | (go_at_call 48; (with_reducible refine (qm.calls k3 (wrap64 ((wrap64 (12 + (wrap64 (16 * (l1.length : Int))))) + (x8_3.length : Int))) 4 t244 _ A36.out).mono ?_); rintro e w49 ⟨v245, rfl, ho0, hb⟩; have n0_ := qa.mk (Kd.zo (rq HO_8) (Kd.qZ ho0) hb); have n1_ := qa.mk (Kd.zo (rq HO240) (Kd.qZ ho0) hb); have n2_ := qa.mk (Kd.zo (rq HO243) (Kd.qZ ho0) hb); have n3_ := qa.mk (Kd.zI (Kd.zF (Kd.zF (Kd.zF ho0 (Kd.za (rq HO_8))) (Kd.za (rq HO240))) (Kd.za (rq HO243))) (qi (bs HB GE233))); have n4_ := qa.mk (jc (g := gb233) (o := .cells #[.string ((ql l1 x59_3).f0), .slice A232_1 ((ql l1 x59_3).f1).length c232_1] 50 (0, 0)) (kq BK233) hb); have n5_ := qa.mk (qc (bs HB GE233) hb); clear HO_8; clear HO240; clear HO243; clear BK233; clear HB; have HO_8 := n0_; have HO240 := n1_; have HO243 := n2_; have HO246 := n3_; have BK233 := n4_; have HB := n5_; clear n0_ n1_ n2_ n3_ n4_ n5_; (try clear hb); (try clear hb2); (try clear hk); (try clear hi); (try clear ho0); obtain ⟨Ao51, co51, eo51⟩ := Kd.qN HO246.out; subst eo51) | ((with_reducible refine qG (b := .append) (xs := #[.tmp 73, .tmp 81]) rfl ?_); (try (refine qU (by rfl) ?_; dsimp only)); at_builtin; refine Kd.zh (Kd.int .u8) (w0 := w) w.heap.size rfl (.tmp 73) (.tmp 81) 23 5 (.int .u8 0) 1 rfl Try.underlying23 info5 rfl (by decide) (by omega) v242 y241 t244 _ _ _ (fun k_ => some k_ ≠ (.slice Ao48 x8_3.length co48 : Value).ownBlock ∧ some k_ ≠ (.slice Ao47 t238.length co47 : Value).ownBlock ∧ some k_ ≠ (.slice Ao51 t244.length co51 : Value).ownBlock) (fun _ => False) rfl rfl ?aO ?aR (fun _ _ h => h) (fun _ h => h.elim) ?aF ?aB ?aS ?aL ?_; (case aR => repeat (first | exact (Kd.qJ HO246.out).2.2 | (with_reducible refine Kd.zD ?_ _) | (with_reducible refine Kd.zG ?_ _) | (with_reducible refine Kd.zN ?_))); (case aB => exact (bs HB GE233)); (case aF => exact (fun k_ hk => ⟨Kd.fresh' (Kd.za (rq HO_8)) k_ hk, Kd.fresh' (Kd.za (rq HO240)) k_ hk, Kd.fresh' (Kd.za (rq HO246)) k_ hk⟩)); (case aO => exact (by (with_reducible repeat (first | apply Kd.qp | apply Kd.qx | apply Kd.qw)); exact Kd.qH HO243.out (fun _ hk => ⟨hk.1.1, ⟨hk.1.2, hk.2⟩⟩))); (case aS => exact (qi (bs HB GE233))); (case aL => have := LMc37.out; omega); intro v248 w50 ho hb hg hat; rw [← Ny247.out] at ho; have n0_ := qa.mk (Kd.zb (ok := (fun k_ => some k_ ≠ (.slice Ao47 t238.length co47 : Value).ownBlock ∧ some k_ ≠ (.slice Ao51 t244.length co51 : Value).ownBlock)) (by (with_reducible repeat (first | apply Kd.qp | apply Kd.qx | apply Kd.qw)); exact Kd.qH HO_8.out (fun _ hk => ⟨⟨hk.1.1, hk.2⟩, hk.1.2⟩)) hg hat); have n1_ := qa.mk (zg (g := gb233) (o := .cells #[.string ((ql l1 x59_3).f0), .slice A232_1 ((ql l1 x59_3).f1).length c232_1] 50 (0, 0)) (kq BK233) hg (Kd.Qi HO243.out BK233.out (by decide))); have n2_ := qa.mk (Kd.zb (ok := (fun k_ => some k_ ≠ (.slice Ao48 x8_3.length co48 : Value).ownBlock ∧ some k_ ≠ (.slice Ao51 t244.length co51 : Value).ownBlock)) (by (with_reducible repeat (first | apply Kd.qp | apply Kd.qx | apply Kd.qw)); exact Kd.qH HO240.out (fun _ hk => ⟨⟨hk.1.1, hk.2⟩, hk.1.2⟩)) hg hat); have n3_ := qa.mk (Kd.zb (ok := (fun k_ => some k_ ≠ (.slice Ao48 x8_3.length co48 : Value).ownBlock ∧ some k_ ≠ (.slice Ao47 t238.length co47 : Value).ownBlock)) (by (with_reducible repeat (first | apply Kd.qp | apply Kd.qx | apply Kd.qw)); exact Kd.qH HO246.out (fun _ hk => ⟨⟨hk.1.1.2, hk.1.2⟩, hk.2⟩)) hg hat); have n4_ := qa.mk (hb); have n5_ := qa.mk (ho); clear HO_8; clear BK233; clear HO240; clear HO246; clear HB; clear HO243; have HO_8 := n0_; have BK233 := n1_; have HO240 := n2_; have HO246 := n3_; have HB := n4_; have HO249 := n5_; clear n0_ n1_ n2_ n3_ n4_ n5_; clear ho hb hg hat; have hcz52_0 : w50.cell? ⟨gb233, 0, none⟩ = some (.string ((ql l1 x59_3).f0)) := (qb BK233.out 0).trans rfl; have hcz52_1 : w50.cell? ⟨gb233, 1, none⟩ = some (.slice A232_1 ((ql l1 x59_3).f1).length c232_1) := (qb BK233.out 1).trans rfl; have hfz52_0 := qd BK233.out 0; have hfz52_1 := qd BK233.out 1) | (go_at_call 48; (with_reducible refine (qm.calls k3 (((ql l1 x59_3).f1).length : Int) 4 t250 _ A38.out).mono ?_); rintro e w53 ⟨v251, rfl, ho0, hb⟩; have n0_ := qa.mk (Kd.zo (rq HO_8) (Kd.qZ ho0) hb); have n1_ := qa.mk (Kd.zo (rq HO240) (Kd.qZ ho0) hb); have n2_ := qa.mk (Kd.zo (rq HO246) (Kd.qZ ho0) hb); have n3_ := qa.mk (Kd.zo (rq HO249) (Kd.qZ ho0) hb); have n4_ := qa.mk (Kd.zI (Kd.zF (Kd.zF (Kd.zF (Kd.zF ho0 (Kd.za (rq HO_8))) (Kd.za (rq HO240))) (Kd.za (rq HO246))) (Kd.za (rq HO249))) (qi (bs HB GE233))); have n5_ := qa.mk (jc (g := gb233) (o := .cells #[.string ((ql l1 x59_3).f0), .slice A232_1 ((ql l1 x59_3).f1).length c232_1] 50 (0, 0)) (kq BK233) hb); have n6_ := qa.mk (qc (bs HB GE233) hb); clear HO_8; clear HO240; clear HO246; clear HO249; clear BK233; clear HB; have HO_8 := n0_; have HO240 := n1_; have HO246 := n2_; have HO249 := n3_; have HO252 := n4_; have BK233 := n5_; have HB := n6_; clear n0_ n1_ n2_ n3_ n4_ n5_ n6_; (try clear hb); (try clear hb2); (try clear hk); (try clear hi); (try clear ho0); obtain ⟨Ao55, co55, eo55⟩ := Kd.qN HO252.out; subst eo55) | ((with_reducible refine qG (b := .append) (xs := #[.tmp 83, .tmp 87]) rfl ?_); (try (refine qU (by rfl) ?_; dsimp only)); at_builtin; refine Kd.zh (Kd.int .u8) (w0 := w) w.heap.size rfl (.tmp 83) (.tmp 87) 23 5 (.int .u8 0) 1 rfl Try.underlying23 info5 rfl (by decide) (by omega) v248 y247 t250 _ _ _ (fun k_ => some k_ ≠ (.slice Ao48 x8_3.length co48 : Value).ownBlock ∧ some k_ ≠ (.slice Ao47 t238.length co47 : Value).ownBlock ∧ some k_ ≠ (.slice Ao51 t244.length co51 : Value).ownBlock ∧ some k_ ≠ (.slice Ao55 t250.length co55 : Value).ownBlock) (fun _ => False) rfl rfl ?aO ?aR (fun _ _ h => h) (fun _ h => h.elim) ?aF ?aB ?aS ?aL ?_; (case aR => repeat (first | exact (Kd.qJ HO252.out).2.2 | (with_reducible refine Kd.zD ?_ _) | (with_reducible refine Kd.zG ?_ _) | (with_reducible refine Kd.zN ?_))); (case aB => exact (bs HB GE233)); (case aF => exact (fun k_ hk => ⟨Kd.fresh' (Kd.za (rq HO_8)) k_ hk, Kd.fresh' (Kd.za (rq HO240)) k_ hk, Kd.fresh' (Kd.za (rq HO246)) k_ hk, Kd.fresh' (Kd.za (rq HO252)) k_ hk⟩)); (case aO => exact (by (with_reducible repeat (first | apply Kd.qp | apply Kd.qx | apply Kd.qw)); exact Kd.qH HO249.out (fun _ hk => ⟨hk.1.1, ⟨hk.1.2.1, ⟨hk.1.2.2, hk.2⟩⟩⟩))); (case aS => exact (qi (bs HB GE233))); (case aL => have := LMc39.out; omega); intro v254 w54 ho hb hg hat; rw [← Ny253.out] at ho; have n0_ := qa.mk (Kd.zb (ok := (fun k_ => some k_ ≠ (.slice Ao47 t238.length co47 : Value).ownBlock ∧ some k_ ≠ (.slice Ao51 t244.length co51 : Value).ownBlock ∧ some k_ ≠ (.slice Ao55 t250.length co55 : Value).ownBlock)) (by (with_reducible repeat (first | apply Kd.qp | apply Kd.qx | apply Kd.qw)); exact Kd.qH HO_8.out (fun _ hk => ⟨⟨hk.1.1.1, ⟨hk.1.1.2, hk.2⟩⟩, hk.1.2⟩)) hg hat); have n1_ := qa.mk (zg (g := gb233) (o := .cells #[.string ((ql l1 x59_3).f0), .slice A232_1 ((ql l1 x59_3).f1).length c232_1] 50 (0, 0)) (kq BK233) hg (Kd.Qi HO249.out BK233.out (by decide))); have n2_ := qa.mk (Kd.zb (ok := (fun k_ => some k_ ≠ (.slice Ao48 x8_3.length co48 : Value).ownBlock ∧ some k_ ≠ (.slice Ao51 t244.length co51 : Value).ownBlock ∧ some k_ ≠ (.slice Ao55 t250.length co55 : Value).ownBlock)) (by (with_reducible repeat (first | apply Kd.qp | apply Kd.qx | apply Kd.qw)); exact Kd.qH HO240.out (fun _ hk => ⟨⟨hk.1.1.1, ⟨hk.1.1.2, hk.2⟩⟩, hk.1.2⟩)) hg hat); have n3_ := qa.mk (Kd.zb (ok := (fun k_ => some k_ ≠ (.slice Ao48 x8_3.length co48 : Value).ownBlock ∧ some k_ ≠ (.slice Ao47 t238.length co47 : Value).ownBlock ∧ some k_ ≠ (.slice Ao55 t250.length co55 : Value).ownBlock)) (by (with_reducible repeat (first | apply Kd.qp | apply Kd.qx | apply Kd.qw)); exact Kd.qH HO246.out (fun _ hk => ⟨⟨hk.1.1.1, ⟨hk.1.1.2, hk.2⟩⟩, hk.1.2⟩)) hg hat); have n4_ := qa.mk (Kd.zb (ok := (fun k_ => some k_ ≠ (.slice Ao48 x8_3.length co48 : Value).ownBlock ∧ some k_ ≠ (.slice Ao47 t238.length co47 : Value).ownBlock ∧ some k_ ≠ (.slice Ao51 t244.length co51 : Value).ownBlock)) (by (with_reducible repeat (first | apply Kd.qp | apply Kd.qx | apply Kd.qw)); exact Kd.qH HO252.out (fun _ hk => ⟨⟨hk.1.1.1.2, ⟨hk.1.1.2, hk.1.2⟩⟩, hk.2⟩)) hg hat); have n5_ := qa.mk (hb); have n6_ := qa.mk (ho); clear HO_8; clear BK233; clear HO240; clear HO246; clear HO252; clear HB; clear HO249; have HO_8 := n0_; have BK233 := n1_; have HO240 := n2_; have HO246 := n3_; have HO252 := n4_; have HB := n5_; have HO255 := n6_; clear n0_ n1_ n2_ n3_ n4_ n5_ n6_; clear ho hb hg hat; have hcz56_0 : w54.cell? ⟨gb233, 0, none⟩ = some (.string ((ql l1 x59_3).f0)) := (qb BK233.out 0).trans rfl; have hcz56_1 : w54.cell? ⟨gb233, 1, none⟩ = some (.slice A232_1 ((ql l1 x59_3).f1).length c232_1) := (qb BK233.out 1).trans rfl; have hfz56_0 := qd BK233.out 0; have hfz56_1 := qd BK233.out 1) | ((with_reducible refine qG (b := .append) (xs := #[.tmp 89, .tmp 91]) rfl ?_); (try (refine qU (by rfl) ?_; dsimp only)); at_builtin; refine Kd.zh (Kd.int .u8) (w0 := w) w.heap.size rfl (.tmp 89) (.tmp 91) 23 5 (.int .u8 0) 1 rfl Try.underlying23 info5 rfl (by decide) (by omega) (.slice Ao48 x8_3.length co48) x8_3 ((ql l1 x59_3).f1) _ _ _ (fun k_ => some k_ ≠ (.slice Ao47 t238.length co47 : Value).ownBlock ∧ some k_ ≠ (.slice Ao51 t244.length co51 : Value).ownBlock ∧ some k_ ≠ (.slice Ao55 t250.length co55 : Value).ownBlock ∧ some k_ ≠ (v254 : Value).ownBlock) (fun _ => False) rfl rfl ?aO ?aR (fun _ _ h => h) (fun _ h => h.elim) ?aF ?aB ?aS ?aL ?_; (case aR => repeat (first | exact (Kd.qO HR232_1.out HB.out) | (with_reducible refine Kd.zD ?_ _) | (with_reducible refine Kd.zG ?_ _) | (with_reducible refine Kd.zN ?_))); (case aB => exact (bs HB GE233)); (case aF => exact (fun k_ hk => ⟨Kd.fresh' (Kd.za (rq HO240)) k_ hk, Kd.fresh' (Kd.za (rq HO246)) k_ hk, Kd.fresh' (Kd.za (rq HO252)) k_ hk, Kd.fresh' (Kd.za (rq HO255)) k_ hk⟩)); (case aO => exact (by (with_reducible repeat (first | apply Kd.qp | apply Kd.qx | apply Kd.qw)); exact Kd.qH HO_8.out (fun _ hk => ⟨hk.1.1, ⟨hk.1.2.1, ⟨hk.1.2.2, hk.2⟩⟩⟩))); (case aS => exact (qi (bs HB GE233))); (case aL => have := LMc40.out; omega); intro v257 w57 ho hb hg hat; rw [← Ny256.out] at ho; have n0_ := qa.mk (zg (g := gb233) (o := .cells #[.string ((ql l1 x59_3).f0), .slice A232_1 ((ql l1 x59_3).f1).length c232_1] 50 (0, 0)) (kq BK233) hg (Kd.Qi HO_8.out BK233.out (by decide))); have n1_ := qa.mk (Kd.zb (ok := (fun k_ => some k_ ≠ (.slice Ao51 t244.length co51 : Value).ownBlock ∧ some k_ ≠ (.slice Ao55 t250.length co55 : Value).ownBlock ∧ some k_ ≠ (v254 : Value).ownBlock)) (by (with_reducible repeat (first | apply Kd.qp | apply Kd.qx | apply Kd.qw)); exact Kd.qH HO240.out (fun _ hk => ⟨⟨hk.1.2.1, ⟨hk.1.2.2, hk.2⟩⟩, hk.1.1⟩)) hg hat); have n2_ := qa.mk (Kd.zb (ok := (fun k_ => some k_ ≠ (.slice Ao47 t238.length co47 : Value).ownBlock ∧ some k_ ≠ (.slice Ao55 t250.length co55 : Value).ownBlock ∧ some k_ ≠ (v254 : Value).ownBlock)) (by (with_reducible repeat (first | apply Kd.qp | apply Kd.qx | apply Kd.qw)); exact Kd.qH HO246.out (fun _ hk => ⟨⟨hk.1.2.1, ⟨hk.1.2.2, hk.2⟩⟩, hk.1.1⟩)) hg hat); have n3_ := qa.mk (Kd.zb (ok := (fun k_ => some k_ ≠ (.slice Ao47 t238.length co47 : Value).ownBlock ∧ some k_ ≠ (.slice Ao51 t244.length co51 : Value).ownBlock ∧ some k_ ≠ (v254 : Value).ownBlock)) (by (with_reducible repeat (first | apply Kd.qp | apply Kd.qx | apply Kd.qw)); exact Kd.qH HO252.out (fun _ hk => ⟨⟨hk.1.2.1, ⟨hk.1.2.2, hk.2⟩⟩, hk.1.1⟩)) hg hat); have n4_ := qa.mk (Kd.zb (ok := (fun k_ => some k_ ≠ (.slice Ao47 t238.length co47 : Value).ownBlock ∧ some k_ ≠ (.slice Ao51 t244.length co51 : Value).ownBlock ∧ some k_ ≠ (.slice Ao55 t250.length co55 : Value).ownBlock)) (by (with_reducible repeat (first | apply Kd.qp | apply Kd.qx | apply Kd.qw)); exact Kd.qH HO255.out (fun _ hk => ⟨⟨hk.2.1, ⟨hk.2.2.1, hk.2.2.2⟩⟩, hk.1⟩)) hg hat); have n5_ := qa.mk (hb); have n6_ := qa.mk (ho); clear BK233; clear HO240; clear HO246; clear HO252; clear HO255; clear HB; clear HO_8; have BK233 := n0_; have HO240 := n1_; have HO246 := n2_; have HO252 := n3_; have HO255 := n4_; have HB := n5_; have HO258 := n6_; clear n0_ n1_ n2_ n3_ n4_ n5_ n6_; clear ho hb hg hat))
       repeat (go_quiet (first | ((with_reducible refine qX (N := 11) rfl ?_); (try (refine qU (by rfl) ?_; dsimp only)); refine zt ?hg (N := 11) ?hd (cs := #[.string (⟨#[]⟩ : ByteArray), .slice none 0 0]) (t := 50) ?hr ?_; (case hd => rfl); (case hg => rfl); (case hr => first | (go_simp; done) | (go_simp; rfl)); intro gb233 hg w41 hbox hb; have n0_ := qa.mk (Kd.qM (rq HO_8) hb); have n1_ := qa.mk (Kd.qM (rq HO_9) hb); have n2_ := qa.mk (qc (bq HB) hb); have n3_ := qa.mk (hbox); have n4_ := qa.mk ((by rw [hg]; exact (qi (bq HB)) : w.heap.size ≤ gb233)); have n5_ := qa.mk ((by rw [hg]; exact (qi (bq HB)) : w.heap.size ≤ gb233)); clear HO_8; clear HO_9; clear HB; have HO_8 := n0_; have HO_9 := n1_; have HB := n2_; have BK233 := n3_; have GW233 := n4_; have GE233 := n5_; clear n0_ n1_ n2_ n3_ n4_ n5_; clear hb hbox hg; have hcz42_0 : w41.cell? ⟨gb233, 0, none⟩ = some (.string (⟨#[]⟩ : ByteArray)) := (qb BK233.out 0).trans rfl; have hcz42_1 : w41.cell? ⟨gb233, 1, none⟩ = some (.slice none 0 0) := (qb BK233.out 1).trans rfl; have hfz42_0 := qd BK233.out 0; have hfz42_1 := qd BK233.out 1) | (at_builtin; refine Zu (w0 := w) w.heap.size rfl (.tmp 63) _ 23 9 5 rfl Try.underlying23 Try.underlying9 info5 u9 x9_3 ((ql l1 x59_3).f0) (fun k_ => some k_ ≠ (u8 : Value).ownBlock) rfl rfl ?aF ?aO ?aB ?aS ?aL ?_; (case aB => exact (bs HB GE233)); (case aF => exact (fun k_ hk => Kd.fresh' (Kd.za (by (with_reducible repeat (first | apply Kd.qp | apply Kd.qx | apply Kd.qw)); exact (Kd.qH (Kd.jZ (p := ⟨gb233, 1, none⟩) (Kd.jZ (p := ⟨gb233, 0, none⟩) (Kd.Qr HO_8.out BK233.out (by decide)) (fun _ hk => hk.2) (.string ((ql l1 x59_3).f0))) (fun _ hk => hk.2) (.slice A232_1 ((ql l1 x59_3).f1).length c232_1)) (fun _ h_ => h_.1)))) k_ hk)); (case aO => exact (by (with_reducible repeat (first | apply Kd.qp | apply Kd.qx | apply Kd.qw)); exact Kd.qH (Kd.jZ (p := ⟨gb233, 1, none⟩) (Kd.jZ (p := ⟨gb233, 0, none⟩) (Kd.Qr HO_9.out BK233.out (by decide)) (fun _ hk => hk.2) (.string ((ql l1 x59_3).f0))) (fun _ hk => hk.2) (.slice A232_1 ((ql l1 x59_3).f1).length c232_1)) (fun _ hk => hk.1))); (case aS => exact (qi (bs HB GE233))); (case aL => have := LMc32.out; omega); intro v235 w43 ho hb hg hat; rw [← Ny234.out] at ho; have n0_ := qa.mk (Kd.zb (ok := (fun _ => True)) (by (with_reducible repeat (first | apply Kd.qp | apply Kd.qx | apply Kd.qw)); exact Kd.qH (Kd.jZ (p := ⟨gb233, 1, none⟩) (Kd.jZ (p := ⟨gb233, 0, none⟩) (Kd.Qr HO_8.out BK233.out (by decide)) (fun _ hk => hk.2) (.string ((ql l1 x59_3).f0))) (fun _ hk => hk.2) (.slice A232_1 ((ql l1 x59_3).f1).length c232_1)) (fun _ hk => ⟨trivial, hk.1⟩)) hg hat); have n1_ := qa.mk (zg (g := gb233) (o := .cells #[.string ((ql l1 x59_3).f0), .slice A232_1 ((ql l1 x59_3).f1).length c232_1] 50 (0, 0)) (by (with_reducible repeat (first | refine zx ?_ _ | refine qQ ?_ | refine zn ?_ _)); refine qR (cs := #[.string ((ql l1 x59_3).f0), .slice none 0 0]) ?_ 1 _ rfl; refine qR (cs := #[.string (⟨#[]⟩ : ByteArray), .slice none 0 0]) ?_ 0 _ rfl; exact kq BK233) hg (Kd.Qi HO_9.out BK233.out (by decide))); have n2_ := qa.mk (hb); have n3_ := qa.mk (ho); clear HO_8; clear BK233; clear HB; clear HO_9; have HO_8 := n0_; have BK233 := n1_; have HB := n2_; have HO236 := n3_; clear n0_ n1_ n2_ n3_; clear ho hb hg hat; have hcz44_0 : w43.cell? ⟨gb233, 0, none⟩ = some (.string ((ql l1 x59_3).f0)) := (qb BK233.out 0).trans rfl; have hcz44_1 : w43.cell? ⟨gb233, 1, none⟩ = some (.slice A232_1 ((ql l1 x59_3).f1).length c232_1) := (qb BK233.out 1).trans rfl; have hfz44_0 := qd BK233.out 0; have hfz44_1 := qd BK233.out 1) | (go_at_call 12; (with_reducible refine (qB.calls k3 _ _ ((ql l1 x59_3).f1) t237 _ ?side1 ?side2 A33.out).mono ?_); (case side1 => repeat (first | exact (Kd.qO HR232_1.out HB.out) | (with_reducible refine Kd.zD ?_ _) | (with_reducible refine Kd.zG ?_ _) | (with_reducible refine Kd.zN ?_))); (case side2 => exact HC232_1.out); rintro e w' ⟨rfl, ⟨nd, rfl⟩⟩; (try first | exact ⟨rfl, _, World.drewN_drewN _ _ _⟩ | exact ⟨rfl, _, Eq.trans (World.drewN_drewN _ _ _) (congrArg (World.drewN _) (Nat.add_assoc _ _ _))⟩)) | (go_at_call 48; (with_reducible refine (qm.calls k3 t237 4 t238 _ A34.out).mono ?_); rintro e w45 ⟨v239, rfl, ho0, hb⟩; have n0_ := qa.mk (Kd.zo (rq HO_8) (Kd.qZ ho0) hb); have n1_ := qa.mk (Kd.zo (rq HO236) (Kd.qZ ho0) hb); have n2_ := qa.mk (Kd.zI (Kd.zF (Kd.zF ho0 (Kd.za (rq HO_8))) (Kd.za (rq HO236))) (qi (bs HB GE233))); have n3_ := qa.mk (jc (g := gb233) (o := .cells #[.string ((ql l1 x59_3).f0), .slice A232_1 ((ql l1 x59_3).f1).length c232_1] 50 (0, 0)) (kq BK233) hb); have n4_ := qa.mk (qc (bs HB GE233) hb); clear HO_8; clear HO236; clear BK233; clear HB; have HO_8 := n0_; have HO236 := n1_; have HO240 := n2_; have BK233 := n3_; have HB := n4_; clear n0_ n1_ n2_ n3_ n4_; (try clear hb); (try clear hb2); (try clear hk); (try clear hi); (try clear ho0); obtain ⟨Ao47, co47, eo47⟩ := Kd.qN HO240.out; subst eo47) | ((with_reducible refine qG (b := .append) (xs := #[.tmp 67, .tmp 71]) rfl ?_); (try (refine qU (by rfl) ?_; dsimp only)); at_builtin; refine Kd.zh (Kd.int .u8) (w0 := w) w.heap.size rfl (.tmp 67) (.tmp 71) 23 5 (.int .u8 0) 1 rfl Try.underlying23 info5 rfl (by decide) (by omega) v235 y234 t238 _ _ _ (fun k_ => some k_ ≠ (u8 : Value).ownBlock ∧ some k_ ≠ (.slice Ao47 t238.length co47 : Value).ownBlock) (fun _ => False) rfl rfl ?aO ?aR (fun _ _ h => h) (fun _ h => h.elim) ?aF ?aB ?aS ?aL ?_; (case aR => repeat (first | exact (Kd.qJ HO240.out).2.2 | (with_reducible refine Kd.zD ?_ _) | (with_reducible refine Kd.zG ?_ _) | (with_reducible refine Kd.zN ?_))); (case aB => exact (bs HB GE233)); (case aF => exact (fun k_ hk => ⟨Kd.fresh' (Kd.za (rq HO_8)) k_ hk, Kd.fresh' (Kd.za (rq HO240)) k_ hk⟩)); (case aO => exact (rq HO236)); (case aS => exact (qi (bs HB GE233))); (case aL => have := LMc35.out; omega); intro v242 w46 ho hb hg hat; rw [← Ny241.out] at ho; have n0_ := qa.mk (Kd.zb (ok := (fun k_ => some k_ ≠ (.slice Ao47 t238.length co47 : Value).ownBlock)) (by (with_reducible repeat (first | apply Kd.qp | apply Kd.qx | apply Kd.qw)); exact Kd.qH HO_8.out (fun _ hk => ⟨hk.2, hk.1.2⟩)) hg hat); have n1_ := qa.mk (zg (g := gb233) (o := .cells #[.string ((ql l1 x59_3).f0), .slice A232_1 ((ql l1 x59_3).f1).length c232_1] 50 (0, 0)) (kq BK233) hg (Kd.Qi HO236.out BK233.out (by decide))); have n2_ := qa.mk (Kd.zb (ok := (fun k_ => some k_ ≠ (u8 : Value).ownBlock)) (by (with_reducible repeat (first | apply Kd.qp | apply Kd.qx | apply Kd.qw)); exact Kd.qH HO240.out (fun _ hk => ⟨hk.1.2, hk.2⟩)) hg hat); have n3_ := qa.mk (hb); have n4_ := qa.mk (ho); clear HO_8; clear BK233; clear HO240; clear HB; clear HO236; have HO_8 := n0_; have BK233 := n1_; have HO240 := n2_; have HB := n3_; have HO243 := n4_; clear n0_ n1_ n2_ n3_ n4_; clear ho hb hg hat; obtain ⟨Ao48, co48, eo48⟩ := Kd.qN HO_8.out; subst eo48) | (go_at_call 48; (with_reducible refine (qm.calls k3 (wrap64 ((wrap64 (12 + (wrap64 (16 * (l1.length : Int))))) + (x8_3.length : Int))) 4 t244 _ A36.out).mono ?_); rintro e w49 ⟨v245, rfl, ho0, hb⟩; have n0_ := qa.mk (Kd.zo (rq HO_8) (Kd.qZ ho0) hb); have n1_ := qa.mk (Kd.zo (rq HO240) (Kd.qZ ho0) hb); have n2_ := qa.mk (Kd.zo (rq HO243) (Kd.qZ ho0) hb); have n3_ := qa.mk (Kd.zI (Kd.zF (Kd.zF (Kd.zF ho0 (Kd.za (rq HO_8))) (Kd.za (rq HO240))) (Kd.za (rq HO243))) (qi (bs HB GE233))); have n4_ := qa.mk (jc (g := gb233) (o := .cells #[.string ((ql l1 x59_3).f0), .slice A232_1 ((ql l1 x59_3).f1).length c232_1] 50 (0, 0)) (kq BK233) hb); have n5_ := qa.mk (qc (bs HB GE233) hb); clear HO_8; clear HO240; clear HO243; clear BK233; clear HB; have HO_8 := n0_; have HO240 := n1_; have HO243 := n2_; have HO246 := n3_; have BK233 := n4_; have HB := n5_; clear n0_ n1_ n2_ n3_ n4_ n5_; (try clear hb); (try clear hb2); (try clear hk); (try clear hi); (try clear ho0); obtain ⟨Ao51, co51, eo51⟩ := Kd.qN HO246.out; subst eo51) | ((with_reducible refine qG (b := .append) (xs := #[.tmp 73, .tmp 81]) rfl ?_); (try (refine qU (by rfl) ?_; dsimp only)); at_builtin; refine Kd.zh (Kd.int .u8) (w0 := w) w.heap.size rfl (.tmp 73) (.tmp 81) 23 5 (.int .u8 0) 1 rfl Try.underlying23 info5 rfl (by decide) (by omega) v242 y241 t244 _ _ _ (fun k_ => some k_ ≠ (.slice Ao48 x8_3.length co48 : Value).ownBlock ∧ some k_ ≠ (.slice Ao47 t238.length co47 : Value).ownBlock ∧ some k_ ≠ (.slice Ao51 t244.length co51 : Value).ownBlock) (fun _ => False) rfl rfl ?aO ?aR (fun _ _ h => h) (fun _ h => h.elim) ?aF ?aB ?aS ?aL ?_; (case aR => repeat (first | exact (Kd.qJ HO246.out).2.2 | (with_reducible refine Kd.zD ?_ _) | (with_reducible refine Kd.zG ?_ _) | (with_reducible refine Kd.zN ?_))); (case aB => exact (bs HB GE233)); (case aF => exact (fun k_ hk => ⟨Kd.fresh' (Kd.za (rq HO_8)) k_ hk, Kd.fresh' (Kd.za (rq HO240)) k_ hk, Kd.fresh' (Kd.za (rq HO246)) k_ hk⟩)); (case aO => exact (by (with_reducible repeat (first | apply Kd.qp | apply Kd.qx | apply Kd.qw)); exact Kd.qH HO243.out (fun _ hk => ⟨hk.1.1, ⟨hk.1.2, hk.2⟩⟩))); (case aS => exact (qi (bs HB GE233))); (case aL => have := LMc37.out; omega); intro v248 w50 ho hb hg hat; rw [← Ny247.out] at ho; have n0_ := qa.mk (Kd.zb (ok := (fun k_ => some k_ ≠ (.slice Ao47 t238.length co47 : Value).ownBlock ∧ some k_ ≠ (.slice Ao51 t244.length co51 : Value).ownBlock)) (by (with_reducible repeat (first | apply Kd.qp | apply Kd.qx | apply Kd.qw)); exact Kd.qH HO_8.out (fun _ hk => ⟨⟨hk.1.1, hk.2⟩, hk.1.2⟩)) hg hat); have n1_ := qa.mk (zg (g := gb233) (o := .cells #[.string ((ql l1 x59_3).f0), .slice A232_1 ((ql l1 x59_3).f1).length c232_1] 50 (0, 0)) (kq BK233) hg (Kd.Qi HO243.out BK233.out (by decide))); have n2_ := qa.mk (Kd.zb (ok := (fun k_ => some k_ ≠ (.slice Ao48 x8_3.length co48 : Value).ownBlock ∧ some k_ ≠ (.slice Ao51 t244.length co51 : Value).ownBlock)) (by (with_reducible repeat (first | apply Kd.qp | apply Kd.qx | apply Kd.qw)); exact Kd.qH HO240.out (fun _ hk => ⟨⟨hk.1.1, hk.2⟩, hk.1.2⟩)) hg hat); have n3_ := qa.mk (Kd.zb (ok := (fun k_ => some k_ ≠ (.slice Ao48 x8_3.length co48 : Value).ownBlock ∧ some k_ ≠ (.slice Ao47 t238.length co47 : Value).ownBlock)) (by (with_reducible repeat (first | apply Kd.qp | apply Kd.qx | apply Kd.qw)); exact Kd.qH HO246.out (fun _ hk => ⟨⟨hk.1.1.2, hk.1.2⟩, hk.2⟩)) hg hat); have n4_ := qa.mk (hb); have n5_ := qa.mk (ho); clear HO_8; clear BK233; clear HO240; clear HO246; clear HB; clear HO243; have HO_8 := n0_; have BK233 := n1_; have HO240 := n2_; have HO246 := n3_; have HB := n4_; have HO249 := n5_; clear n0_ n1_ n2_ n3_ n4_ n5_; clear ho hb hg hat; have hcz52_0 : w50.cell? ⟨gb233, 0, none⟩ = some (.string ((ql l1 x59_3).f0)) := (qb BK233.out 0).trans rfl; have hcz52_1 : w50.cell? ⟨gb233, 1, none⟩ = some (.slice A232_1 ((ql l1 x59_3).f1).length c232_1) := (qb BK233.out 1).trans rfl; have hfz52_0 := qd BK233.out 0; have hfz52_1 := qd BK233.out 1) | (go_at_call 48; (with_reducible refine (qm.calls k3 (((ql l1 x59_3).f1).length : Int) 4 t250 _ A38.out).mono ?_); rintro e w53 ⟨v251, rfl, ho0, hb⟩; have n0_ := qa.mk (Kd.zo (rq HO_8) (Kd.qZ ho0) hb); have n1_ := qa.mk (Kd.zo (rq HO240) (Kd.qZ ho0) hb); have n2_ := qa.mk (Kd.zo (rq HO246) (Kd.qZ ho0) hb); have n3_ := qa.mk (Kd.zo (rq HO249) (Kd.qZ ho0) hb); have n4_ := qa.mk (Kd.zI (Kd.zF (Kd.zF (Kd.zF (Kd.zF ho0 (Kd.za (rq HO_8))) (Kd.za (rq HO240))) (Kd.za (rq HO246))) (Kd.za (rq HO249))) (qi (bs HB GE233))); have n5_ := qa.mk (jc (g := gb233) (o := .cells #[.string ((ql l1 x59_3).f0), .slice A232_1 ((ql l1 x59_3).f1).length c232_1] 50 (0, 0)) (kq BK233) hb); have n6_ := qa.mk (qc (bs HB GE233) hb); clear HO_8; clear HO240; clear HO246; clear HO249; clear BK233; clear HB; have HO_8 := n0_; have HO240 := n1_; have HO246 := n2_; have HO249 := n3_; have HO252 := n4_; have BK233 := n5_; have HB := n6_; clear n0_ n1_ n2_ n3_ n4_ n5_ n6_; (try clear hb); (try clear hb2); (try clear hk); (try clear hi); (try clear ho0); obtain ⟨Ao55, co55, eo55⟩ := Kd.qN HO252.out; subst eo55) | ((with_reducible refine qG (b := .append) (xs := #[.tmp 83, .tmp 87]) rfl ?_); (try (refine qU (by rfl) ?_; dsimp only)); at_builtin; refine Kd.zh (Kd.int .u8) (w0 := w) w.heap.size rfl (.tmp 83) (.tmp 87) 23 5 (.int .u8 0) 1 rfl Try.underlying23 info5 rfl (by decide) (by omega) v248 y247 t250 _ _ _ (fun k_ => some k_ ≠ (.slice Ao48 x8_3.length co48 : Value).ownBlock ∧ some k_ ≠ (.slice Ao47 t238.length co47 : Value).ownBlock ∧ some k_ ≠ (.slice Ao51 t244.length co51 : Value).ownBlock ∧ some k_ ≠ (.slice Ao55 t250.length co55 : Value).ownBlock) (fun _ => False) rfl rfl ?aO ?aR (fun _ _ h => h) (fun _ h => h.elim) ?aF ?aB ?aS ?aL ?_; (case aR => repeat (first | exact (Kd.qJ HO252.out).2.2 | (with_reducible refine Kd.zD ?_ _) | (with_reducible refine Kd.zG ?_ _) | (with_reducible refine Kd.zN ?_))); (case aB => exact (bs HB GE233)); (case aF => exact (fun k_ hk => ⟨Kd.fresh' (Kd.za (rq HO_8)) k_ hk, Kd.fresh' (Kd.za (rq HO240)) k_ hk, Kd.fresh' (Kd.za (rq HO246)) k_ hk, Kd.fresh' (Kd.za (rq HO252)) k_ hk⟩)); (case aO => exact (by (with_reducible repeat (first | apply Kd.qp | apply Kd.qx | apply Kd.qw)); exact Kd.qH HO249.out (fun _ hk => ⟨hk.1.1, ⟨hk.1.2.1, ⟨hk.1.2.2, hk.2⟩⟩⟩))); (case aS => exact (qi (bs HB GE233))); (case aL => have := LMc39.out; omega); intro v254 w54 ho hb hg hat; rw [← Ny253.out] at ho; have n0_ := qa.mk (Kd.zb (ok := (fun k_ => some k_ ≠ (.slice Ao47 t238.length co47 : Value).ownBlock ∧ some k_ ≠ (.slice Ao51 t244.length co51 : Value).ownBlock ∧ some k_ ≠ (.slice Ao55 t250.length co55 : Value).ownBlock)) (by (with_reducible repeat (first | apply Kd.qp | apply Kd.qx | apply Kd.qw)); exact Kd.qH HO_8.out (fun _ hk => ⟨⟨hk.1.1.1, ⟨hk.1.1.2, hk.2⟩⟩, hk.1.2⟩)) hg hat); have n1_ := qa.mk (zg (g := gb233) (o := .cells #[.string ((ql l1 x59_3).f0), .slice A232_1 ((ql l1 x59_3).f1).length c232_1] 50 (0, 0)) (kq BK233) hg (Kd.Qi HO249.out BK233.out (by decide))); have n2_ := qa.mk (Kd.zb (ok := (fun k_ => some k_ ≠ (.slice Ao48 x8_3.length co48 : Value).ownBlock ∧ some k_ ≠ (.slice Ao51 t244.length co51 : Value).ownBlock ∧ some k_ ≠ (.slice Ao55 t250.length co55 : Value).ownBlock)) (by (with_reducible repeat (first | apply Kd.qp | apply Kd.qx | apply Kd.qw)); exact Kd.qH HO240.out (fun _ hk => ⟨⟨hk.1.1.1, ⟨hk.1.1.2, hk.2⟩⟩, hk.1.2⟩)) hg hat); have n3_ := qa.mk (Kd.zb (ok := (fun k_ => some k_ ≠ (.slice Ao48 x8_3.length co48 : Value).ownBlock ∧ some k_ ≠ (.slice Ao47 t238.length co47 : Value).ownBlock ∧ some k_ ≠ (.slice Ao55 t250.length co55 : Value).ownBlock)) (by (with_reducible repeat (first | apply Kd.qp | apply Kd.qx | apply Kd.qw)); exact Kd.qH HO246.out (fun _ hk => ⟨⟨hk.1.1.1, ⟨hk.1.1.2, hk.2⟩⟩, hk.1.2⟩)) hg hat); have n4_ := qa.mk (Kd.zb (ok := (fun k_ => some k_ ≠ (.slice Ao48 x8_3.length co48 : Value).ownBlock ∧ some k_ ≠ (.slice Ao47 t238.length co47 : Value).ownBlock ∧ some k_ ≠ (.slice Ao51 t244.length co51 : Value).ownBlock)) (by (with_reducible repeat (first | apply Kd.qp | apply Kd.qx | apply Kd.qw)); exact Kd.qH HO252.out (fun _ hk => ⟨⟨hk.1.1.1.2, ⟨hk.1.1.2, hk.1.2⟩⟩, hk.2⟩)) hg hat); have n5_ := qa.mk (hb); have n6_ := qa.mk (ho); clear HO_8; clear BK233; clear HO240; clear HO246; clear HO252; clear HB; clear HO249; have HO_8 := n0_; have BK233 := n1_; have HO240 := n2_; have HO246 := n3_; have HO252 := n4_; have HB := n5_; have HO255 := n6_; clear n0_ n1_ n2_ n3_ n4_ n5_ n6_; clear ho hb hg hat; have hcz56_0 : w54.cell? ⟨gb233, 0, none⟩ = some (.string ((ql l1 x59_3).f0)) := (qb BK233.out 0).trans rfl; have hcz56_1 : w54.cell? ⟨gb233, 1, none⟩ = some (.slice A232_1 ((ql l1 x59_3).f1).length c232_1) := (qb BK233.out 1).trans rfl; have hfz56_0 := qd BK233.out 0; have hfz56_1 := qd BK233.out 1) | ((with_reducible refine qG (b := .append) (xs := #[.tmp 89, .tmp 91]) rfl ?_); (try (refine qU (by rfl) ?_; dsimp only)); at_builtin; refine Kd.zh (Kd.int .u8) (w0 := w) w.heap.size rfl (.tmp 89) (.tmp 91) 23 5 (.int .u8 0) 1 rfl Try.underlying23 info5 rfl (by decide) (by omega) (.slice Ao48 x8_3.length co48) x8_3 ((ql l1 x59_3).f1) _ _ _ (fun k_ => some k_ ≠ (.slice Ao47 t238.length co47 : Value).ownBlock ∧ some k_ ≠ (.slice Ao51 t244.length co51 : Value).ownBlock ∧ some k_ ≠ (.slice Ao55 t250.length co55 : Value).ownBlock ∧ some k_ ≠ (v254 : Value).ownBlock) (fun _ => False) rfl rfl ?aO ?aR (fun _ _ h => h) (fun _ h => h.elim) ?aF ?aB ?aS ?aL ?_; (case aR => repeat (first | exact (Kd.qO HR232_1.out HB.out) | (with_reducible refine Kd.zD ?_ _) | (with_reducible refine Kd.zG ?_ _) | (with_reducible refine Kd.zN ?_))); (case aB => exact (bs HB GE233)); (case aF => exact (fun k_ hk => ⟨Kd.fresh' (Kd.za (rq HO240)) k_ hk, Kd.fresh' (Kd.za (rq HO246)) k_ hk, Kd.fresh' (Kd.za (rq HO252)) k_ hk, Kd.fresh' (Kd.za (rq HO255)) k_ hk⟩)); (case aO => exact (by (with_reducible repeat (first | apply Kd.qp | apply Kd.qx | apply Kd.qw)); exact Kd.qH HO_8.out (fun _ hk => ⟨hk.1.1, ⟨hk.1.2.1, ⟨hk.1.2.2, hk.2⟩⟩⟩))); (case aS => exact (qi (bs HB GE233))); (case aL => have := LMc40.out; omega); intro v257 w57 ho hb hg hat; rw [← Ny256.out] at ho; have n0_ := qa.mk (zg (g := gb233) (o := .cells #[.string ((ql l1 x59_3).f0), .slice A232_1 ((ql l1 x59_3).f1).length c232_1] 50 (0, 0)) (kq BK233) hg (Kd.Qi HO_8.out BK233.out (by decide))); have n1_ := qa.mk (Kd.zb (ok := (fun k_ => some k_ ≠ (.slice Ao51 t244.length co51 : Value).ownBlock ∧ some k_ ≠ (.slice Ao55 t250.length co55 : Value).ownBlock ∧ some k_ ≠ (v254 : Value).ownBlock)) (by (with_reducible repeat (first | apply Kd.qp | apply Kd.qx | apply Kd.qw)); exact Kd.qH HO240.out (fun _ hk => ⟨⟨hk.1.2.1, ⟨hk.1.2.2, hk.2⟩⟩, hk.1.1⟩)) hg hat); have n2_ := qa.mk (Kd.zb (ok := (fun k_ => some k_ ≠ (.slice Ao47 t238.length co47 : Value).ownBlock ∧ some k_ ≠ (.slice Ao55 t250.length co55 : Value).ownBlock ∧ some k_ ≠ (v254 : Value).ownBlock)) (by (with_reducible repeat (first | apply Kd.qp | apply Kd.qx | apply Kd.qw)); exact Kd.qH HO246.out (fun _ hk => ⟨⟨hk.1.2.1, ⟨hk.1.2.2, hk.2⟩⟩, hk.1.1⟩)) hg hat); have n3_ := qa.mk (Kd.zb (ok := (fun k_ => some k_ ≠ (.slice Ao47 t238.length co47 : Value).ownBlock ∧ some k_ ≠ (.slice Ao51 t244.length co51 : Value).ownBlock ∧ some k_ ≠ (v254 : Value).ownBlock)) (by (with_reducible repeat (first | apply Kd.qp | apply Kd.qx | apply Kd.qw)); exact Kd.qH HO252.out (fun _ hk => ⟨⟨hk.1.2.1, ⟨hk.1.2.2, hk.2⟩⟩, hk.1.1⟩)) hg hat); have n4_ := qa.mk (Kd.zb (ok := (fun k_ => some k_ ≠ (.slice Ao47 t238.length co47 : Value).ownBlock ∧ some k_ ≠ (.slice Ao51 t244.length co51 : Value).ownBlock ∧ some k_ ≠ (.slice Ao55 t250.length co55 : Value).ownBlock)) (by (with_reducible repeat (first | apply Kd.qp | apply Kd.qx | apply Kd.qw)); exact Kd.qH HO255.out (fun _ hk => ⟨⟨hk.2.1, ⟨hk.2.2.1, hk.2.2.2⟩⟩, hk.1⟩)) hg hat); have n5_ := qa.mk (hb); have n6_ := qa.mk (ho); clear BK233; clear HO240; clear HO246; clear HO252; clear HO255; clear HB; clear HO_8; have BK233 := n0_; have HO240 := n1_; have HO246 := n2_; have HO252 := n3_; have HO255 := n4_; have HB := n5_; have HO258 := n6_; clear n0_ n1_ n2_ n3_ n4_ n5_ n6_; clear ho hb hg hat)); try go_wp2_with (first | ((with_reducible refine qX (N := 11) rfl ?_); (try (refine qU (by rfl) ?_; dsimp only)); refine zt ?hg (N := 11) ?hd (cs := #[.string (⟨#[]⟩ : ByteArray), .slice none 0 0]) (t := 50) ?hr ?_; (case hd => rfl); (case hg => rfl); (case hr => first | (go_simp; done) | (go_simp; rfl)); intro gb233 hg w41 hbox hb; have n0_ := qa.mk (Kd.qM (rq HO_8) hb); have n1_ := qa.mk (Kd.qM (rq HO_9) hb); have n2_ := qa.mk (qc (bq HB) hb); have n3_ := qa.mk (hbox); have n4_ := qa.mk ((by rw [hg]; exact (qi (bq HB)) : w.heap.size ≤ gb233)); have n5_ := qa.mk ((by rw [hg]; exact (qi (bq HB)) : w.heap.size ≤ gb233)); clear HO_8; clear HO_9; clear HB; have HO_8 := n0_; have HO_9 := n1_; have HB := n2_; have BK233 := n3_; have GW233 := n4_; have GE233 := n5_; clear n0_ n1_ n2_ n3_ n4_ n5_; clear hb hbox hg; have hcz42_0 : w41.cell? ⟨gb233, 0, none⟩ = some (.string (⟨#[]⟩ : ByteArray)) := (qb BK233.out 0).trans rfl; have hcz42_1 : w41.cell? ⟨gb233, 1, none⟩ = some (.slice none 0 0) := (qb BK233.out 1).trans rfl; have hfz42_0 := qd BK233.out 0; have hfz42_1 := qd BK233.out 1) | (at_builtin; refine Zu (w0 := w) w.heap.size rfl (.tmp 63) _ 23 9 5 rfl Try.underlying23 Try.underlying9 info5 u9 x9_3 ((ql l1 x59_3).f0) (fun k_ => some k_ ≠ (u8 : Value).ownBlock) rfl rfl ?aF ?aO ?aB ?aS ?aL ?_; (case aB => exact (bs HB GE233)); (case aF => exact (fun k_ hk => Kd.fresh' (Kd.za (by (with_reducible repeat (first | apply Kd.qp | apply Kd.qx | apply Kd.qw)); exact (Kd.qH (Kd.jZ (p := ⟨gb233, 1, none⟩) (Kd.jZ (p := ⟨gb233, 0, none⟩) (Kd.Qr HO_8.out BK233.out (by decide)) (fun _ hk => hk.2) (.string ((ql l1 x59_3).f0))) (fun _ hk => hk.2) (.slice A232_1 ((ql l1 x59_3).f1).length c232_1)) (fun _ h_ => h_.1)))) k_ hk)); (case aO => exact (by (with_reducible repeat (first | apply Kd.qp | apply Kd.qx | apply Kd.qw)); exact Kd.qH (Kd.jZ (p := ⟨gb233, 1, none⟩) (Kd.jZ (p := ⟨gb233, 0, none⟩) (Kd.Qr HO_9.out BK233.out (by decide)) (fun _ hk => hk.2) (.string ((ql l1 x59_3).f0))) (fun _ hk => hk.2) (.slice A232_1 ((ql l1 x59_3).f1).length c232_1)) (fun _ hk => hk.1))); (case aS => exact (qi (bs HB GE233))); (case aL => have := LMc32.out; omega); intro v235 w43 ho hb hg hat; rw [← Ny234.out] at ho; have n0_ := qa.mk (Kd.zb (ok := (fun _ => True)) (by (with_reducible repeat (first | apply Kd.qp | apply Kd.qx | apply Kd.qw)); exact Kd.qH (Kd.jZ (p := ⟨gb233, 1, none⟩) (Kd.jZ (p := ⟨gb233, 0, none⟩) (Kd.Qr HO_8.out BK233.out (by decide)) (fun _ hk => hk.2) (.string ((ql l1 x59_3).f0))) (fun _ hk => hk.2) (.slice A232_1 ((ql l1 x59_3).f1).length c232_1)) (fun _ hk => ⟨trivial, hk.1⟩)) hg hat); have n1_ := qa.mk (zg (g := gb233) (o := .cells #[.string ((ql l1 x59_3).f0), .slice A232_1 ((ql l1 x59_3).f1).length c232_1] 50 (0, 0)) (by (with_reducible repeat (first | refine zx ?_ _ | refine qQ ?_ | refine zn ?_ _)); refine qR (cs := #[.string ((ql l1 x59_3).f0), .slice none 0 0]) ?_ 1 _ rfl; refine qR (cs := #[.string (⟨#[]⟩ : ByteArray), .slice none 0 0]) ?_ 0 _ rfl; exact kq BK233) hg (Kd.Qi HO_9.out BK233.out (by decide))); have n2_ := qa.mk (hb); have n3_ := qa.mk (ho); clear HO_8; clear BK233; clear HB; clear HO_9; have HO_8 := n0_; have BK233 := n1_; have HB := n2_; have HO236 := n3_; clear n0_ n1_ n2_ n3_; clear ho hb hg hat; have hcz44_0 : w43.cell? ⟨gb233, 0, none⟩ = some (.string ((ql l1 x59_3).f0)) := (qb BK233.out 0).trans rfl; have hcz44_1 : w43.cell? ⟨gb233, 1, none⟩ = some (.slice A232_1 ((ql l1 x59_3).f1).length c232_1) := (qb BK233.out 1).trans rfl; have hfz44_0 := qd BK233.out 0; have hfz44_1 := qd BK233.out 1) | (go_at_call 12; (with_reducible refine (qB.calls k3 _ _ ((ql l1 x59_3).f1) t237 _ ?side1 ?side2 A33.out).mono ?_); (case side1 => repeat (first | exact (Kd.qO HR232_1.out HB.out) | (with_reducible refine Kd.zD ?_ _) | (with_reducible refine Kd.zG ?_ _) | (with_reducible refine Kd.zN ?_))); (case side2 => exact HC232_1.out); rintro e w' ⟨rfl, ⟨nd, rfl⟩⟩; (try first | exact ⟨rfl, _, World.drewN_drewN _ _ _⟩ | exact ⟨rfl, _, Eq.trans (World.drewN_drewN _ _ _) (congrArg (World.drewN _) (Nat.add_assoc _ _ _))⟩)) | (go_at_call 48; (with_reducible refine (qm.calls k3 t237 4 t238 _ A34.out).mono ?_); rintro e w45 ⟨v239, rfl, ho0, hb⟩; have n0_ := qa.mk (Kd.zo (rq HO_8) (Kd.qZ ho0) hb); have n1_ := qa.mk (Kd.zo (rq HO236) (Kd.qZ ho0) hb); have n2_ := qa.mk (Kd.zI (Kd.zF (Kd.zF ho0 (Kd.za (rq HO_8))) (Kd.za (rq HO236))) (qi (bs HB GE233))); have n3_ := qa.mk (jc (g := gb233) (o := .cells #[.string ((ql l1 x59_3).f0), .slice A232_1 ((ql l1 x59_3).f1).length c232_1] 50 (0, 0)) (kq BK233) hb); have n4_ := qa.mk (qc (bs HB GE233) hb); clear HO_8; clear HO236; clear BK233; clear HB; have HO_8 := n0_; have HO236 := n1_; have HO240 := n2_; have BK233 := n3_; have HB := n4_; clear n0_ n1_ n2_ n3_ n4_; (try clear hb); (try clear hb2); (try clear hk); (try clear hi); (try clear ho0); obtain ⟨Ao47, co47, eo47⟩ := Kd.qN HO240.out; subst eo47) | ((with_reducible refine qG (b := .append) (xs := #[.tmp 67, .tmp 71]) rfl ?_); (try (refine qU (by rfl) ?_; dsimp only)); at_builtin; refine Kd.zh (Kd.int .u8) (w0 := w) w.heap.size rfl (.tmp 67) (.tmp 71) 23 5 (.int .u8 0) 1 rfl Try.underlying23 info5 rfl (by decide) (by omega) v235 y234 t238 _ _ _ (fun k_ => some k_ ≠ (u8 : Value).ownBlock ∧ some k_ ≠ (.slice Ao47 t238.length co47 : Value).ownBlock) (fun _ => False) rfl rfl ?aO ?aR (fun _ _ h => h) (fun _ h => h.elim) ?aF ?aB ?aS ?aL ?_; (case aR => repeat (first | exact (Kd.qJ HO240.out).2.2 | (with_reducible refine Kd.zD ?_ _) | (with_reducible refine Kd.zG ?_ _) | (with_reducible refine Kd.zN ?_))); (case aB => exact (bs HB GE233)); (case aF => exact (fun k_ hk => ⟨Kd.fresh' (Kd.za (rq HO_8)) k_ hk, Kd.fresh' (Kd.za (rq HO240)) k_ hk⟩)); (case aO => exact (rq HO236)); (case aS => exact (qi (bs HB GE233))); (case aL => have := LMc35.out; omega); intro v242 w46 ho hb hg hat; rw [← Ny241.out] at ho; have n0_ := qa.mk (Kd.zb (ok := (fun k_ => some k_ ≠ (.slice Ao47 t238.length co47 : Value).ownBlock)) (by (with_reducible repeat (first | apply Kd.qp | apply Kd.qx | apply Kd.qw)); exact Kd.qH HO_8.out (fun _ hk => ⟨hk.2, hk.1.2⟩)) hg hat); have n1_ := qa.mk (zg (g := gb233) (o := .cells #[.string ((ql l1 x59_3).f0), .slice A232_1 ((ql l1 x59_3).f1).length c232_1] 50 (0, 0)) (kq BK233) hg (Kd.Qi HO236.out BK233.out (by decide))); have n2_ := qa.mk (Kd.zb (ok := (fun k_ => some k_ ≠ (u8 : Value).ownBlock)) (by (with_reducible repeat (first | apply Kd.qp | apply Kd.qx | apply Kd.qw)); exact Kd.qH HO240.out (fun _ hk => ⟨hk.1.2, hk.2⟩)) hg hat); have n3_ := qa.mk (hb); have n4_ := qa.mk (ho); clear HO_8; clear BK233; clear HO240; clear HB; clear HO236; have HO_8 := n0_; have BK233 := n1_; have HO240 := n2_; have HB := n3_; have HO243 := n4_; clear n0_ n1_ n2_ n3_ n4_; clear ho hb hg hat; obtain ⟨Ao48, co48, eo48⟩ := Kd.qN HO_8.out; subst eo48) | (go_at_call 48; (with_reducible refine (qm.calls k3 (wrap64 ((wrap64 (12 + (wrap64 (16 * (l1.length : Int))))) + (x8_3.length : Int))) 4 t244 _ A36.out).mono ?_); rintro e w49 ⟨v245, rfl, ho0, hb⟩; have n0_ := qa.mk (Kd.zo (rq HO_8) (Kd.qZ ho0) hb); have n1_ := qa.mk (Kd.zo (rq HO240) (Kd.qZ ho0) hb); have n2_ := qa.mk (Kd.zo (rq HO243) (Kd.qZ ho0) hb); have n3_ := qa.mk (Kd.zI (Kd.zF (Kd.zF (Kd.zF ho0 (Kd.za (rq HO_8))) (Kd.za (rq HO240))) (Kd.za (rq HO243))) (qi (bs HB GE233))); have n4_ := qa.mk (jc (g := gb233) (o := .cells #[.string ((ql l1 x59_3).f0), .slice A232_1 ((ql l1 x59_3).f1).length c232_1] 50 (0, 0)) (kq BK233) hb); have n5_ := qa.mk (qc (bs HB GE233) hb); clear HO_8; clear HO240; clear HO243; clear BK233; clear HB; have HO_8 := n0_; have HO240 := n1_; have HO243 := n2_; have HO246 := n3_; have BK233 := n4_; have HB := n5_; clear n0_ n1_ n2_ n3_ n4_ n5_; (try clear hb); (try clear hb2); (try clear hk); (try clear hi); (try clear ho0); obtain ⟨Ao51, co51, eo51⟩ := Kd.qN HO246.out; subst eo51) | ((with_reducible refine qG (b := .append) (xs := #[.tmp 73, .tmp 81]) rfl ?_); (try (refine qU (by rfl) ?_; dsimp only)); at_builtin; refine Kd.zh (Kd.int .u8) (w0 := w) w.heap.size rfl (.tmp 73) (.tmp 81) 23 5 (.int .u8 0) 1 rfl Try.underlying23 info5 rfl (by decide) (by omega) v242 y241 t244 _ _ _ (fun k_ => some k_ ≠ (.slice Ao48 x8_3.length co48 : Value).ownBlock ∧ some k_ ≠ (.slice Ao47 t238.length co47 : Value).ownBlock ∧ some k_ ≠ (.slice Ao51 t244.length co51 : Value).ownBlock) (fun _ => False) rfl rfl ?aO ?aR (fun _ _ h => h) (fun _ h => h.elim) ?aF ?aB ?aS ?aL ?_; (case aR => repeat (first | exact (Kd.qJ HO246.out).2.2 | (with_reducible refine Kd.zD ?_ _) | (with_reducible refine Kd.zG ?_ _) | (with_reducible refine Kd.zN ?_))); (case aB => exact (bs HB GE233)); (case aF => exact (fun k_ hk => ⟨Kd.fresh' (Kd.za (rq HO_8)) k_ hk, Kd.fresh' (Kd.za (rq HO240)) k_ hk, Kd.fresh' (Kd.za (rq HO246)) k_ hk⟩)); (case aO => exact (by (with_reducible repeat (first | apply Kd.qp | apply Kd.qx | apply Kd.qw)); exact Kd.qH HO243.out (fun _ hk => ⟨hk.1.1, ⟨hk.1.2, hk.2⟩⟩))); (case aS => exact (qi (bs HB GE233))); (case aL => have := LMc37.out; omega); intro v248 w50 ho hb hg hat; rw [← Ny247.out] at ho; have n0_ := qa.mk (Kd.zb (ok := (fun k_ => some k_ ≠ (.slice Ao47 t238.length co47 : Value).ownBlock ∧ some k_ ≠ (.slice Ao51 t244.length co51 : Value).ownBlock)) (by (with_reducible repeat (first | apply Kd.qp | apply Kd.qx | apply Kd.qw)); exact Kd.qH HO_8.out (fun _ hk => ⟨⟨hk.1.1, hk.2⟩, hk.1.2⟩)) hg hat); have n1_ := qa.mk (zg (g := gb233) (o := .cells #[.string ((ql l1 x59_3).f0), .slice A232_1 ((ql l1 x59_3).f1).length c232_1] 50 (0, 0)) (kq BK233) hg (Kd.Qi HO243.out BK233.out (by decide))); have n2_ := qa.mk (Kd.zb (ok := (fun k_ => some k_ ≠ (.slice Ao48 x8_3.length co48 : Value).ownBlock ∧ some k_ ≠ (.slice Ao51 t244.length co51 : Value).ownBlock)) (by (with_reducible repeat (first | apply Kd.qp | apply Kd.qx | apply Kd.qw)); exact Kd.qH HO240.out (fun _ hk => ⟨⟨hk.1.1, hk.2⟩, hk.1.2⟩)) hg hat); have n3_ := qa.mk (Kd.zb (ok := (fun k_ => some k_ ≠ (.slice Ao48 x8_3.length co48 : Value).ownBlock ∧ some k_ ≠ (.slice Ao47 t238.length co47 : Value).ownBlock)) (by (with_reducible repeat (first | apply Kd.qp | apply Kd.qx | apply Kd.qw)); exact Kd.qH HO246.out (fun _ hk => ⟨⟨hk.1.1.2, hk.1.2⟩, hk.2⟩)) hg hat); have n4_ := qa.mk (hb); have n5_ := qa.mk (ho); clear HO_8; clear BK233; clear HO240; clear HO246; clear HB; clear HO243; have HO_8 := n0_; have BK233 := n1_; have HO240 := n2_; have HO246 := n3_; have HB := n4_; have HO249 := n5_; clear n0_ n1_ n2_ n3_ n4_ n5_; clear ho hb hg hat; have hcz52_0 : w50.cell? ⟨gb233, 0, none⟩ = some (.string ((ql l1 x59_3).f0)) := (qb BK233.out 0).trans rfl; have hcz52_1 : w50.cell? ⟨gb233, 1, none⟩ = some (.slice A232_1 ((ql l1 x59_3).f1).length c232_1) := (qb BK233.out 1).trans rfl; have hfz52_0 := qd BK233.out 0; have hfz52_1 := qd BK233.out 1) | (go_at_call 48; (with_reducible refine (qm.calls k3 (((ql l1 x59_3).f1).length : Int) 4 t250 _ A38.out).mono ?_); rintro e w53 ⟨v251, rfl, ho0, hb⟩; have n0_ := qa.mk (Kd.zo (rq HO_8) (Kd.qZ ho0) hb); have n1_ := qa.mk (Kd.zo (rq HO240) (Kd.qZ ho0) hb); have n2_ := qa.mk (Kd.zo (rq HO246) (Kd.qZ ho0) hb); have n3_ := qa.mk (Kd.zo (rq HO249) (Kd.qZ ho0) hb); have n4_ := qa.mk (Kd.zI (Kd.zF (Kd.zF (Kd.zF (Kd.zF ho0 (Kd.za (rq HO_8))) (Kd.za (rq HO240))) (Kd.za (rq HO246))) (Kd.za (rq HO249))) (qi (bs HB GE233))); have n5_ := qa.mk (jc (g := gb233) (o := .cells #[.string ((ql l1 x59_3).f0), .slice A232_1 ((ql l1 x59_3).f1).length c232_1] 50 (0, 0)) (kq BK233) hb); have n6_ := qa.mk (qc (bs HB GE233) hb); clear HO_8; clear HO240; clear HO246; clear HO249; clear BK233; clear HB; have HO_8 := n0_; have HO240 := n1_; have HO246 := n2_; have HO249 := n3_; have HO252 := n4_; have BK233 := n5_; have HB := n6_; clear n0_ n1_ n2_ n3_ n4_ n5_ n6_; (try clear hb); (try clear hb2); (try clear hk); (try clear hi); (try clear ho0); obtain ⟨Ao55, co55, eo55⟩ := Kd.qN HO252.out; subst eo55) | ((with_reducible refine qG (b := .append) (xs := #[.tmp 83, .tmp 87]) rfl ?_); (try (refine qU (by rfl) ?_; dsimp only)); at_builtin; refine Kd.zh (Kd.int .u8) (w0 := w) w.heap.size rfl (.tmp 83) (.tmp 87) 23 5 (.int .u8 0) 1 rfl Try.underlying23 info5 rfl (by decide) (by omega) v248 y247 t250 _ _ _ (fun k_ => some k_ ≠ (.slice Ao48 x8_3.length co48 : Value).ownBlock ∧ some k_ ≠ (.slice Ao47 t238.length co47 : Value).ownBlock ∧ some k_ ≠ (.slice Ao51 t244.length co51 : Value).ownBlock ∧ some k_ ≠ (.slice Ao55 t250.length co55 : Value).ownBlock) (fun _ => False) rfl rfl ?aO ?aR (fun _ _ h => h) (fun _ h => h.elim) ?aF ?aB ?aS ?aL ?_; (case aR => repeat (first | exact (Kd.qJ HO252.out).2.2 | (with_reducible refine Kd.zD ?_ _) | (with_reducible refine Kd.zG ?_ _) | (with_reducible refine Kd.zN ?_))); (case aB => exact (bs HB GE233)); (case aF => exact (fun k_ hk => ⟨Kd.fresh' (Kd.za (rq HO_8)) k_ hk, Kd.fresh' (Kd.za (rq HO240)) k_ hk, Kd.fresh' (Kd.za (rq HO246)) k_ hk, Kd.fresh' (Kd.za (rq HO252)) k_ hk⟩)); (case aO => exact (by (with_reducible repeat (first | apply Kd.qp | apply Kd.qx | apply Kd.qw)); exact Kd.qH HO249.out (fun _ hk => ⟨hk.1.1, ⟨hk.1.2.1, ⟨hk.1.2.2, hk.2⟩⟩⟩))); (case aS => exact (qi (bs HB GE233))); (case aL => have := LMc39.out; omega); intro v254 w54 ho hb hg hat; rw [← Ny253.out] at ho; have n0_ := qa.mk (Kd.zb (ok := (fun k_ => some k_ ≠ (.slice Ao47 t238.length co47 : Value).ownBlock ∧ some k_ ≠ (.slice Ao51 t244.length co51 : Value).ownBlock ∧ some k_ ≠ (.slice Ao55 t250.length co55 : Value).ownBlock)) (by (with_reducible repeat (first | apply Kd.qp | apply Kd.qx | apply Kd.qw)); exact Kd.qH HO_8.out (fun _ hk => ⟨⟨hk.1.1.1, ⟨hk.1.1.2, hk.2⟩⟩, hk.1.2⟩)) hg hat); have n1_ := qa.mk (zg (g := gb233) (o := .cells #[.string ((ql l1 x59_3).f0), .slice A232_1 ((ql l1 x59_3).f1).length c232_1] 50 (0, 0)) (kq BK233) hg (Kd.Qi HO249.out BK233.out (by decide))); have n2_ := qa.mk (Kd.zb (ok := (fun k_ => some k_ ≠ (.slice Ao48 x8_3.length co48 : Value).ownBlock ∧ some k_ ≠ (.slice Ao51 t244.length co51 : Value).ownBlock ∧ some k_ ≠ (.slice Ao55 t250.length co55 : Value).ownBlock)) (by (with_reducible repeat (first | apply Kd.qp | apply Kd.qx | apply Kd.qw)); exact Kd.qH HO240.out (fun _ hk => ⟨⟨hk.1.1.1, ⟨hk.1.1.2, hk.2⟩⟩, hk.1.2⟩)) hg hat); have n3_ := qa.mk (Kd.zb (ok := (fun k_ => some k_ ≠ (.slice Ao48 x8_3.length co48 : Value).ownBlock ∧ some k_ ≠ (.slice Ao47 t238.length co47 : Value).ownBlock ∧ some k_ ≠ (.slice Ao55 t250.length co55 : Value).ownBlock)) (by (with_reducible repeat (first | apply Kd.qp | apply Kd.qx | apply Kd.qw)); exact Kd.qH HO246.out (fun _ hk => ⟨⟨hk.1.1.1, ⟨hk.1.1.2, hk.2⟩⟩, hk.1.2⟩)) hg hat); have n4_ := qa.mk (Kd.zb (ok := (fun k_ => some k_ ≠ (.slice Ao48 x8_3.length co48 : Value).ownBlock ∧ some k_ ≠ (.slice Ao47 t238.length co47 : Value).ownBlock ∧ some k_ ≠ (.slice Ao51 t244.length co51 : Value).ownBlock)) (by (with_reducible repeat (first | apply Kd.qp | apply Kd.qx | apply Kd.qw)); exact Kd.qH HO252.out (fun _ hk => ⟨⟨hk.1.1.1.2, ⟨hk.1.1.2, hk.1.2⟩⟩, hk.2⟩)) hg hat); have n5_ := qa.mk (hb); have n6_ := qa.mk (ho); clear HO_8; clear BK233; clear HO240; clear HO246; clear HO252; clear HB; clear HO249; have HO_8 := n0_; have BK233 := n1_; have HO240 := n2_; have HO246 := n3_; have HO252 := n4_; have HB := n5_; have HO255 := n6_; clear n0_ n1_ n2_ n3_ n4_ n5_ n6_; clear ho hb hg hat; have hcz56_0 : w54.cell? ⟨gb233, 0, none⟩ = some (.string ((ql l1 x59_3).f0)) := (qb BK233.out 0).trans rfl; have hcz56_1 : w54.cell? ⟨gb233, 1, none⟩ = some (.slice A232_1 ((ql l1 x59_3).f1).length c232_1) := (qb BK233.out 1).trans rfl; have hfz56_0 := qd BK233.out 0; have hfz56_1 := qd BK233.out 1) | ((with_reducible refine qG (b := .append) (xs := #[.tmp 89, .tmp 91]) rfl ?_); (try (refine qU (by rfl) ?_; dsimp only)); at_builtin; refine Kd.zh (Kd.int .u8) (w0 := w) w.heap.size rfl (.tmp 89) (.tmp 91) 23 5 (.int .u8 0) 1 rfl Try.underlying23 info5 rfl (by decide) (by omega) (.slice Ao48 x8_3.length co48) x8_3 ((ql l1 x59_3).f1) _ _ _ (fun k_ => some k_ ≠ (.slice Ao47 t238.length co47 : Value).ownBlock ∧ some k_ ≠ (.slice Ao51 t244.length co51 : Value).ownBlock ∧ some k_ ≠ (.slice Ao55 t250.length co55 : Value).ownBlock ∧ some k_ ≠ (v254 : Value).ownBlock) (fun _ => False) rfl rfl ?aO ?aR (fun _ _ h => h) (fun _ h => h.elim) ?aF ?aB ?aS ?aL ?_; (case aR => repeat (first | exact (Kd.qO HR232_1.out HB.out) | (with_reducible refine Kd.zD ?_ _) | (with_reducible refine Kd.zG ?_ _) | (with_reducible refine Kd.zN ?_))); (case aB => exact (bs HB GE233)); (case aF => exact (fun k_ hk => ⟨Kd.fresh' (Kd.za (rq HO240)) k_ hk, Kd.fresh' (Kd.za (rq HO246)) k_ hk, Kd.fresh' (Kd.za (rq HO252)) k_ hk, Kd.fresh' (Kd.za (rq HO255)) k_ hk⟩)); (case aO => exact (by (with_reducible repeat (first | apply Kd.qp | apply Kd.qx | apply Kd.qw)); exact Kd.qH HO_8.out (fun _ hk => ⟨hk.1.1, ⟨hk.1.2.1, ⟨hk.1.2.2, hk.2⟩⟩⟩))); (case aS => exact (qi (bs HB GE233))); (case aL => have := LMc40.out; omega); intro v257 w57 ho hb hg hat; rw [← Ny256.out] at ho; have n0_ := qa.mk (zg (g := gb233) (o := .cells #[.string ((ql l1 x59_3).f0), .slice A232_1 ((ql l1 x59_3).f1).length c232_1] 50 (0, 0)) (kq BK233) hg (Kd.Qi HO_8.out BK233.out (by decide))); have n1_ := qa.mk (Kd.zb (ok := (fun k_ => some k_ ≠ (.slice Ao51 t244.length co51 : Value).ownBlock ∧ some k_ ≠ (.slice Ao55 t250.length co55 : Value).ownBlock ∧ some k_ ≠ (v254 : Value).ownBlock)) (by (with_reducible repeat (first | apply Kd.qp | apply Kd.qx | apply Kd.qw)); exact Kd.qH HO240.out (fun _ hk => ⟨⟨hk.1.2.1, ⟨hk.1.2.2, hk.2⟩⟩, hk.1.1⟩)) hg hat); have n2_ := qa.mk (Kd.zb (ok := (fun k_ => some k_ ≠ (.slice Ao47 t238.length co47 : Value).ownBlock ∧ some k_ ≠ (.slice Ao55 t250.length co55 : Value).ownBlock ∧ some k_ ≠ (v254 : Value).ownBlock)) (by (with_reducible repeat (first | apply Kd.qp | apply Kd.qx | apply Kd.qw)); exact Kd.qH HO246.out (fun _ hk => ⟨⟨hk.1.2.1, ⟨hk.1.2.2, hk.2⟩⟩, hk.1.1⟩)) hg hat); have n3_ := qa.mk (Kd.zb (ok := (fun k_ => some k_ ≠ (.slice Ao47 t238.length co47 : Value).ownBlock ∧ some k_ ≠ (.slice Ao51 t244.length co51 : Value).ownBlock ∧ some k_ ≠ (v254 : Value).ownBlock)) (by (with_reducible repeat (first | apply Kd.qp | apply Kd.qx | apply Kd.qw)); exact Kd.qH HO252.out (fun _ hk => ⟨⟨hk.1.2.1, ⟨hk.1.2.2, hk.2⟩⟩, hk.1.1⟩)) hg hat); have n4_ := qa.mk (Kd.zb (ok := (fun k_ => some k_ ≠ (.slice Ao47 t238.length co47 : Value).ownBlock ∧ some k_ ≠ (.slice Ao51 t244.length co51 : Value).ownBlock ∧ some k_ ≠ (.slice Ao55 t250.length co55 : Value).ownBlock)) (by (with_reducible repeat (first | apply Kd.qp | apply Kd.qx | apply Kd.qw)); exact Kd.qH HO255.out (fun _ hk => ⟨⟨hk.2.1, ⟨hk.2.2.1, hk.2.2.2⟩⟩, hk.1⟩)) hg hat); have n5_ := qa.mk (hb); have n6_ := qa.mk (ho); clear BK233; clear HO240; clear HO246; clear HO252; clear HO255; clear HB; clear HO_8; have BK233 := n0_; have HO240 := n1_; have HO246 := n2_; have HO252 := n3_; have HO255 := n4_; have HB := n5_; have HO258 := n6_; clear n0_ n1_ n2_ n3_ n4_ n5_ n6_; clear ho hb hg hat)))
       go_loopg [8] k3 (fun kq v8 w' => ∃ (x8_4 : List Int), qa (qo.l2 kq a0 l1 x8_4 y253 l1 (l1.length : Int) x59_3 = some (r1, r2)) ∧ qa (kq ≤ k3) ∧ qa (Kd.R (Kd.int .u8) 5 w' w.heap.size (fun k_ => some k_ ≠ (v254 : Value).ownBlock) v8 x8_4) ∧ qa (Kd.R (Kd.int .u8) 5 w' w.heap.size (fun k_ => some k_ ≠ (v8 : Value).ownBlock) v254 y253) ∧ qa (w'.heap[gb233]? = some (.cells #[.string ((ql l1 x59_3).f0), (.slice A232_1 ((ql l1 x59_3).f1).length c232_1)] 50 (0, 0))) ∧ qa (Below w.heap.size w w'))
       case atStart => exact ⟨(y256), H', ⟨Nat.le_refl _⟩, ⟨by (with_reducible repeat (first | apply Kd.qp | apply Kd.qx | apply Kd.qw)); exact Kd.qH HO258.out (fun _ hk => hk.2.2.2)⟩, ⟨by (with_reducible repeat (first | apply Kd.qp | apply Kd.qx | apply Kd.qw)); exact Kd.qH HO255.out (fun _ hk => hk.2)⟩, ⟨kq BK233⟩, ⟨bs HB GE233⟩⟩
       case round =>
        clear H'
        try clear c1
        try clear p1
        try clear q1
        try clear hx1
        try clear c2
        try clear p2
        try clear q2
        try clear hx2
        try clear c3
        try clear c4
        try clear c4b0
        try clear c4b1
        try clear c5
        try clear c5b0
        try clear c5b1
        try clear c6
        try clear p6
        try clear c7
        try clear c7b0
        try clear c8
        try clear c8b0
        try clear c9
        try clear c9b0
        try clear c10
        try clear c10b0
        try clear c10b1
        try clear c11
        try clear c11b0
        try clear c13
        try clear c13b0
        try clear c14
        try clear c14b0
        try clear c15
        try clear c15b0
        try clear c18
        try clear p18
        try clear q18
        try clear hx18
        try clear c19
        try clear c23
        try clear p23
        try clear q23
        try clear hx23
        try clear c24
        try clear c24b0
        try clear c24b1
        try clear c29
        try clear c29b0
        try clear c30
        try clear c30b0
        try clear c31
        try clear c31b0
        try clear c32
        try clear c35
        try clear c37
        try clear c39
        try clear c40
        try clear hcz17_0
        try clear hcz17_1
        try clear hcz19_0
        try clear hcz19_1
        try clear hcz21_0
        try clear hcz21_1
        try clear hcz23_0
        try clear hcz23_1
        try clear hcz42_0
        try clear hcz42_1
        try clear hcz44_0
        try clear hcz44_1
        try clear hcz52_0
        try clear hcz52_1
        try clear hcz56_0
        try clear hcz56_1
        try clear hfz17_0
        try clear hfz17_1
        try clear hfz19_0
        try clear hfz19_1
        try clear hfz21_0
        try clear hfz21_1
        try clear hfz23_0
        try clear hfz23_1
        try clear hfz42_0
        try clear hfz42_1
        try clear hfz44_0
        try clear hfz44_1
        try clear hfz52_0
        try clear hfz52_1
        try clear hfz56_0
        try clear hfz56_1
        try clear hx187_0
        try clear hx187_1
        try clear hx189_0
        try clear hx189_1
        try clear hx232_0
        try clear hx232_1
        try clear p1
        try clear p18
        try clear p187
        try clear p189
        try clear p2
        try clear p232
        try clear p6
        try clear q1
        try clear q18
        try clear q187
        try clear q189
        try clear q232
        obtain ⟨x8_4, HA, HK4, HO_8, HO_9, BK233, HB⟩ := hrel
        cases gk with
        | zero => exact absurd HA.out (by simp [qo.l2])
        | succ k4 =>
         have H := HA.out
         clear HA
         simp only [qo.l2] at H
         by_cases c58 : ((x8_4.length : Int) % 4) = 0
         ·rw [if_pos c58] at H
          have c58b0 : (((x8_4.length : Int) % 4) == 0) = true := beq_iff_eq.mpr c58
          have c58b1 : (((x8_4.length : Int) % 4) != 0) = false := bne_eq_false_iff_eq.mpr c58
          clear c58
          by_cases c59 : (wrap64 ((wrap64 (12 + (wrap64 (16 * (l1.length : Int))))) + (x8_4.length : Int))) > 1048576
          ·rw [if_pos c59] at H
           have c59b0 : decide (1048576 < (wrap64 ((wrap64 (12 + (wrap64 (16 * (l1.length : Int))))) + (x8_4.length : Int)))) = true := decide_eq_true c59
           clear c59
           simp only [Option.some.injEq, Prod.mk.injEq] at H
           obtain ⟨rfl, rfl⟩ := H
           obtain ⟨Ao60, co60, eo60⟩ := Kd.qN HO_8.out
           subst eo60
           go_wp2
           repeat (go_quiet (fail); try go_wp2)
           go_ret2
           exact ⟨_, by first | rfl | (simp [qW, qV] <;> rfl) | (simp [*, qW, qV] <;> rfl), by first | exact Kd.jE _ _ _ _ _ | exact Kd.N_nil _ _ _ _ _ | exact Kd.V_nil _ _ _ _ _ | exact Kd.Q_nil _ _ _ _ _ | exact Kd.S_nil _ _ _ _ _, bs HB GE233⟩
          rw [if_neg c59] at H
          have c59b0 : decide (1048576 < (wrap64 ((wrap64 (12 + (wrap64 (16 * (l1.length : Int))))) + (x8_4.length : Int)))) = false := decide_eq_false c59
          clear c59
          have H' := qa.mk H
          clear H
          obtain ⟨Ao61, co61, eo61⟩ := Kd.qN HO_8.out
          subst eo61
          go_wp2
          repeat (go_quiet (fail); try go_wp2)
          go_roundg k4
          case measure => have := HJ2.out; have := HK2.out; have := HK3.out; have := HK4.out; omega
          case rel => exact ⟨(x8_4), (y253), (wrap64 (x59_3 + 1)), (by first | rfl | (simp; done) | (simp [*]; done)), H', ⟨by have := HJ2.out; have := HK2.out; have := HK3.out; have := HK4.out; omega⟩, ⟨rq HO_8⟩, ⟨rq HO_9⟩, ⟨bs HB GE233⟩⟩
         rw [if_neg c58] at H
         have c58b0 : (((x8_4.length : Int) % 4) == 0) = false := beq_eq_false_iff_ne.mpr c58
         have c58b1 : (((x8_4.length : Int) % 4) != 0) = true := bne_iff_ne.mpr c58
         by_cases c62 : x8_4.length < 140737488355328
         case neg =>
          rw [if_neg c62] at H
          exact absurd H (by simp)
         rw [if_pos c62] at H
         have LMc62 := qa.mk c62
         clear c62
         obtain ⟨y259, hy259⟩ : ∃ y_ : List Int, y_ = (x8_4 ++ [0]) := ⟨_, rfl⟩
         replace H : (qo.l2 k4 a0 l1 y259 y253 l1 (l1.length : Int) x59_3) = some (r1, r2) := by first | (rw [hy259]; with_reducible exact H) | (have H2_ := (Option.bind_some _ _).symm.trans H; rw [hy259]; with_reducible exact H2_) | (have H2_ := (Option.bind_some _ _).symm.trans H; with_reducible exact H2_) | with_reducible exact H | (rw [hy259]; exact H) | exact H
         have Ny259 := qa.mk hy259
         clear hy259
         have H' := qa.mk H
         clear H
         obtain ⟨Ao63, co63, eo63⟩ := Kd.qN HO_8.out
         subst eo63
         go_wp2_with (first | ((with_reducible refine qG (b := .append) (xs := #[.tmp 97, .tmp 98]) rfl ?_); (try (refine qU (by rfl) ?_; dsimp only)); at_builtin; refine Kd.zM (Kd.int .u8) (w0 := w) w.heap.size rfl (.tmp 97) (.tmp 98) 23 5 (.int .u8 0) 1 rfl Try.underlying23 info5 rfl (by decide) (by omega) (.slice Ao63 x8_4.length co63) x8_4 0 [.int .u8 0] (fun k_ => some k_ ≠ (v254 : Value).ownBlock) (fun _ => False) rfl rfl ?aP (fun _ hk => hk.elim) ?aF ?aO ?aB ?aS ?aL ?_; (case aP => exact rfl); (case aB => exact (bs HB GE233)); (case aF => exact (fun k_ hk => Kd.fresh' (Kd.za (rq HO_9)) k_ hk)); (case aO => exact (rq HO_8)); (case aS => exact (qi (bs HB GE233))); (case aL => have := LMc62.out; omega); intro v260 w64 ho hb hg hat; rw [← Ny259.out] at ho; have n0_ := qa.mk (Kd.zb (ok := (fun _ => True)) (by (with_reducible repeat (first | apply Kd.qp | apply Kd.qx | apply Kd.qw)); exact Kd.qH HO_9.out (fun _ hk => ⟨trivial, hk⟩)) hg hat); have n1_ := qa.mk (zg (g := gb233) (o := .cells #[.string ((ql l1 x59_3).f0), .slice A232_1 ((ql l1 x59_3).f1).length c232_1] 50 (0, 0)) (kq BK233) hg (Kd.Qi HO_8.out BK233.out (by decide))); have n2_ := qa.mk (hb); have n3_ := qa.mk (ho); clear HO_9; clear BK233; clear HB; clear HO_8; have HO_9 := n0_; have BK233 := n1_; have HB := n2_; have HO261 := n3_; clear n0_ n1_ n2_ n3_; clear ho hb hg hat))
         repeat (go_quiet (first | ((with_reducible refine qG (b := .append) (xs := #[.tmp 97, .tmp 98]) rfl ?_); (try (refine qU (by rfl) ?_; dsimp only)); at_builtin; refine Kd.zM (Kd.int .u8) (w0 := w) w.heap.size rfl (.tmp 97) (.tmp 98) 23 5 (.int .u8 0) 1 rfl Try.underlying23 info5 rfl (by decide) (by omega) (.slice Ao63 x8_4.length co63) x8_4 0 [.int .u8 0] (fun k_ => some k_ ≠ (v254 : Value).ownBlock) (fun _ => False) rfl rfl ?aP (fun _ hk => hk.elim) ?aF ?aO ?aB ?aS ?aL ?_; (case aP => exact rfl); (case aB => exact (bs HB GE233)); (case aF => exact (fun k_ hk => Kd.fresh' (Kd.za (rq HO_9)) k_ hk)); (case aO => exact (rq HO_8)); (case aS => exact (qi (bs HB GE233))); (case aL => have := LMc62.out; omega); intro v260 w64 ho hb hg hat; rw [← Ny259.out] at ho; have n0_ := qa.mk (Kd.zb (ok := (fun _ => True)) (by (with_reducible repeat (first | apply Kd.qp | apply Kd.qx | apply Kd.qw)); exact Kd.qH HO_9.out (fun _ hk => ⟨trivial, hk⟩)) hg hat); have n1_ := qa.mk (zg (g := gb233) (o := .cells #[.string ((ql l1 x59_3).f0), .slice A232_1 ((ql l1 x59_3).f1).length c232_1] 50 (0, 0)) (kq BK233) hg (Kd.Qi HO_8.out BK233.out (by decide))); have n2_ := qa.mk (hb); have n3_ := qa.mk (ho); clear HO_9; clear BK233; clear HB; clear HO_8; have HO_9 := n0_; have BK233 := n1_; have HB := n2_; have HO261 := n3_; clear n0_ n1_ n2_ n3_; clear ho hb hg hat)); try go_wp2_with (first | ((with_reducible refine qG (b := .append) (xs := #[.tmp 97, .tmp 98]) rfl ?_); (try (refine qU (by rfl) ?_; dsimp only)); at_builtin; refine Kd.zM (Kd.int .u8) (w0 := w) w.heap.size rfl (.tmp 97) (.tmp 98) 23 5 (.int .u8 0) 1 rfl Try.underlying23 info5 rfl (by decide) (by omega) (.slice Ao63 x8_4.length co63) x8_4 0 [.int .u8 0] (fun k_ => some k_ ≠ (v254 : Value).ownBlock) (fun _ => False) rfl rfl ?aP (fun _ hk => hk.elim) ?aF ?aO ?aB ?aS ?aL ?_; (case aP => exact rfl); (case aB => exact (bs HB GE233)); (case aF => exact (fun k_ hk => Kd.fresh' (Kd.za (rq HO_9)) k_ hk)); (case aO => exact (rq HO_8)); (case aS => exact (qi (bs HB GE233))); (case aL => have := LMc62.out; omega); intro v260 w64 ho hb hg hat; rw [← Ny259.out] at ho; have n0_ := qa.mk (Kd.zb (ok := (fun _ => True)) (by (with_reducible repeat (first | apply Kd.qp | apply Kd.qx | apply Kd.qw)); exact Kd.qH HO_9.out (fun _ hk => ⟨trivial, hk⟩)) hg hat); have n1_ := qa.mk (zg (g := gb233) (o := .cells #[.string ((ql l1 x59_3).f0), .slice A232_1 ((ql l1 x59_3).f1).length c232_1] 50 (0, 0)) (kq BK233) hg (Kd.Qi HO_8.out BK233.out (by decide))); have n2_ := qa.mk (hb); have n3_ := qa.mk (ho); clear HO_9; clear BK233; clear HB; clear HO_8; have HO_9 := n0_; have BK233 := n1_; have HB := n2_; have HO261 := n3_; clear n0_ n1_ n2_ n3_; clear ho hb hg hat)))
         go_roundg k4
         case measure => have := HJ2.out; have := HK2.out; have := HK3.out; have := HK4.out; omega
         case rel => exact ⟨(y259), H', ⟨by have := HJ2.out; have := HK2.out; have := HK3.out; have := HK4.out; omega⟩, ⟨rq HO261⟩, ⟨by (with_reducible repeat (first | apply Kd.qp | apply Kd.qx | apply Kd.qw)); exact Kd.qH HO_9.out (fun _ hk => hk.2)⟩, ⟨kq BK233⟩, ⟨bs HB GE233⟩⟩
end Go.Proofs.Ytonljpciadeafaa.S
