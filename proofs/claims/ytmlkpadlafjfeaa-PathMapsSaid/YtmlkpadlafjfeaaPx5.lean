import Derived.Test.YtmlkpadlafjfeaaPx90
namespace Go.Proofs.Ytmlkpadlafjfeaa.P
open Go.RowKit Go.Proofs.YtmlkpadlafjfeaaW.PrintWords Go.Proofs.YtmlkpadlafjfeaaW.PrintLast Go.Proofs.YtmlkpadlafjfeaaW.PrintMore
attribute [local go_sem] zH zK zU zT zB zC zJ zI
set_option linter.unusedVariables false
set_option linter.unusedSimpArgs false
mutual
def qN.l0 : Nat → List (List (S40)) → Int → Bool → Bool → List (List (S40)) → Int → Int → Option (Int)
 | 0, _, _, _, _, _, _, _ => none
 | k + 1, x0, x3, x4, x5, x10, x11, x12 => if x12 < x11 then (if 0 ≤ x12 then (if x12 < (x10.length : Int) then (if (wrap64 (x3 + ((qp x10 x12).length : Int))) > 4096 then (some 63) else (qN.l1 k x0 (wrap64 (x3 + ((qp x10 x12).length : Int))) x4 x5 x10 x11 x12 (qp x10 x12) ((qp x10 x12).length : Int) 0)) else (none)) else (none)) else (if (x0.length : Int) > 256 then (some 63) else (if x4 = true then (some 61) else (if x5 = true then (some 64) else (some 0))))
def qN.l1 : Nat → List (List (S40)) → Int → Bool → Bool → List (List (S40)) → Int → Int → List (S40) → Int → Int → Option (Int)
 | 0, _, _, _, _, _, _, _, _, _, _ => none
 | k + 1, x0, x3, x4, x5, x10, x11, x12, x22, x23, x24 => if x24 < x23 then (if 0 ≤ x24 then (if x24 < (x22.length : Int) then (if x4 = true then (if x5 = true then (qN.l1 k x0 x3 true true x10 x11 x12 x22 x23 (wrap64 (x24 + 1))) else ((zm.f ((ql x22 x24).f0)).bind fun t104 => (if t104 = 0 then ((zm.f ((ql x22 x24).f1)).bind fun t105 => (qN.l1 k x0 x3 true (t105 != 0) x10 x11 x12 x22 x23 (wrap64 (x24 + 1)))) else (qN.l1 k x0 x3 true true x10 x11 x12 x22 x23 (wrap64 (x24 + 1)))))) else (if ((ql x22 x24).f2) < 1 then (if x5 = true then (qN.l1 k x0 x3 true true x10 x11 x12 x22 x23 (wrap64 (x24 + 1))) else ((zm.f ((ql x22 x24).f0)).bind fun t106 => (if t106 = 0 then ((zm.f ((ql x22 x24).f1)).bind fun t107 => (qN.l1 k x0 x3 true (t107 != 0) x10 x11 x12 x22 x23 (wrap64 (x24 + 1)))) else (qN.l1 k x0 x3 true true x10 x11 x12 x22 x23 (wrap64 (x24 + 1)))))) else (if x5 = true then (qN.l1 k x0 x3 (decide (((ql x22 x24).f2) > 3)) true x10 x11 x12 x22 x23 (wrap64 (x24 + 1))) else ((zm.f ((ql x22 x24).f0)).bind fun t108 => (if t108 = 0 then ((zm.f ((ql x22 x24).f1)).bind fun t109 => (qN.l1 k x0 x3 (decide (((ql x22 x24).f2) > 3)) (t109 != 0) x10 x11 x12 x22 x23 (wrap64 (x24 + 1)))) else (qN.l1 k x0 x3 (decide (((ql x22 x24).f2) > 3)) true x10 x11 x12 x22 x23 (wrap64 (x24 + 1)))))))) else (none)) else (none)) else (qN.l0 k x0 x3 x4 x5 x10 x11 (wrap64 (x12 + 1)))
end
def qN.f (k : Nat) (l0 : List (List (S40))) : Option (Int) := qN.l0 k l0 0 false false l0 (l0.length : Int) 0
theorem qN.zW : ∀ k, (∀ y0 y1 y2 y3 y4 y5 y6, LeO (qN.l0 k y0 y1 y2 y3 y4 y5 y6) (qN.l0 (k + 1) y0 y1 y2 y3 y4 y5 y6)) ∧ (∀ y0 y1 y2 y3 y4 y5 y6 y7 y8 y9, LeO (qN.l1 k y0 y1 y2 y3 y4 y5 y6 y7 y8 y9) (qN.l1 (k + 1) y0 y1 y2 y3 y4 y5 y6 y7 y8 y9))
 | 0 => ⟨fun _ _ _ _ _ _ _ r h => by simp [qN.l0] at h, fun _ _ _ _ _ _ _ _ _ _ r h => by simp [qN.l1] at h⟩
 | k + 1 => by
  obtain ⟨ih0, ih1⟩ := qN.zW k
  refine ⟨?_, ?_⟩
  ·intro y0 y1 y2 y3 y4 y5 y6
   unfold qN.l0
   repeat' first
   | (with_reducible exact ih0 _ _ _ _ _ _ _)
   | (with_reducible exact ih1 _ _ _ _ _ _ _ _ _ _)
   | (with_reducible exact LeO.refl _)
   | (with_reducible exact LeO.none _)
   | (with_reducible refine LeO.ite ?_ ?_)
   | (with_reducible refine LeO.bind ?_ (fun _ => ?_))
   | exact ih0 _ _ _ _ _ _ _
   | exact ih1 _ _ _ _ _ _ _ _ _ _
   | exact LeO.none _
   | refine LeO.ite ?_ ?_
   | refine LeO.bind ?_ (fun _ => ?_)
  ·intro y0 y1 y2 y3 y4 y5 y6 y7 y8 y9
   unfold qN.l1
   repeat' first
   | (with_reducible exact ih0 _ _ _ _ _ _ _)
   | (with_reducible exact ih1 _ _ _ _ _ _ _ _ _ _)
   | (with_reducible exact LeO.refl _)
   | (with_reducible exact LeO.none _)
   | (with_reducible refine LeO.ite ?_ ?_)
   | (with_reducible refine LeO.bind ?_ (fun _ => ?_))
   | exact ih0 _ _ _ _ _ _ _
   | exact ih1 _ _ _ _ _ _ _ _ _ _
   | exact LeO.none _
   | refine LeO.ite ?_ ?_
   | refine LeO.bind ?_ (fun _ => ?_)
theorem qN.mono : ∀ a0 k, LeO (qN.f k a0) (qN.f (k + 1) a0) := by
 intro a0 k
 obtain ⟨ih0, ih1⟩ := qN.zW k
 unfold qN.f
 repeat' first
   | (with_reducible exact ih0 _ _ _ _ _ _ _)
   | (with_reducible exact ih1 _ _ _ _ _ _ _ _ _ _)
   | (with_reducible exact LeO.refl _)
   | (with_reducible exact LeO.none _)
   | (with_reducible refine LeO.ite ?_ ?_)
   | (with_reducible refine LeO.bind ?_ (fun _ => ?_))
   | exact ih0 _ _ _ _ _ _ _
   | exact ih1 _ _ _ _ _ _ _ _ _ _
   | exact LeO.none _
   | refine LeO.ite ?_ ?_
   | refine LeO.bind ?_ (fun _ => ?_)
set_option maxHeartbeats 8000000 in
set_option maxRecDepth 100000 in
theorem qN.calls (k : Nat) (A0 : Option Addr) (c0 : Nat) (l0 : List (List (S40))) (r : Int) (w : World) (hr0 : Kd.C (Kd.slice 40 k40) w A0 l0.length l0) (hc0 : l0.length ≤ c0) (h : qN.f k l0 = some r) :
  Calls Try.prog 28 #[.slice A0 l0.length c0] w fun e w' => e = .returned (.int .i64 r) ∧ Below w.heap.size w w' := by
 have hu40 := Try.underlying40
 have HR0 := qa.mk hr0
 have HC0 := qa.mk hc0
 clear hr0 hc0
 have HB := qa.mk (Below.refl w.heap.size w)
 have H : (qN.l0 k l0 0 false false l0 (l0.length : Int) 0) = some r := h
 clear h
 have H' := qa.mk H
 clear H
 go_enter Try.func28, Try.ntmps28
 go_wp2
 go_loopg [3, 4, 5, 12] k (fun kq v3 v4 v5 v12 w' => ∃ (x3_1 : Int) (x4_1 : Bool) (x5_1 : Bool) (x12_1 : Int), v3 = .int .i64 x3_1 ∧ v4 = .bool x4_1 ∧ v5 = .bool x5_1 ∧ v12 = .int .i64 x12_1 ∧ qa (qN.l0 kq l0 x3_1 x4_1 x5_1 l0 (l0.length : Int) x12_1 = some r) ∧ qa (kq ≤ k) ∧ qa (Below w.heap.size w w'))
 case atStart => exact ⟨(0), (false), (false), (0), (by first | rfl | (simp; done) | (simp [*]; done)), (by first | rfl | (simp; done) | (simp [*]; done)), (by first | rfl | (simp; done) | (simp [*]; done)), (by first | rfl | (simp; done) | (simp [*]; done)), H', ⟨Nat.le_refl _⟩, ⟨bq HB⟩⟩
 case round =>
  clear H'
  obtain ⟨x3_1, x4_1, x5_1, x12_1, rfl, rfl, rfl, rfl, HA, HK1, HB⟩ := hrel
  cases gk with
  | zero => exact absurd HA.out (by simp [qN.l0])
  | succ k1 =>
   have H := HA.out
   clear HA
   simp only [qN.l0] at H
   by_cases c2 : x12_1 < (l0.length : Int)
   case neg =>
    rw [if_neg c2] at H
    have c2b0 : decide (x12_1 < (l0.length : Int)) = false := decide_eq_false c2
    clear c2
    by_cases c41 : (l0.length : Int) > 256
    ·rw [if_pos c41] at H
     have c41b0 : decide (256 < (l0.length : Int)) = true := decide_eq_true c41
     have c41b1 : decide (256 < l0.length) = true := decide_eq_true (by omega)
     clear c41
     obtain rfl := Option.some.inj H
     go_wp2
     go_ret
     exact ⟨by first | rfl | (simp [qR, qU] <;> rfl) | (simp [*, qR, qU] <;> rfl), bq HB⟩
    rw [if_neg c41] at H
    have c41b0 : decide (256 < (l0.length : Int)) = false := decide_eq_false c41
    have c41b1 : decide (256 < l0.length) = false := decide_eq_false (by omega)
    clear c41
    by_cases c42 : x4_1 = true
    ·subst c42
     have H1 : (some 61) = some r := by rw [if_pos rfl] at H; exact H
     clear H
     have H := H1
     clear H1
     obtain rfl := Option.some.inj H
     go_wp2
     go_ret
     exact ⟨by first | rfl | (simp [qR, qU] <;> rfl) | (simp [*, qR, qU] <;> rfl), bq HB⟩
    replace c42 := Bool.eq_false_iff.mpr c42
    subst c42
    have H1 : (if x5_1 = true then (some 64) else (some 0)) = some r := by rw [if_neg (show ¬ (false = true) by decide)] at H; exact H
    clear H
    have H := H1
    clear H1
    by_cases c43 : x5_1 = true
    ·subst c43
     have H1 : (some 64) = some r := by rw [if_pos rfl] at H; exact H
     clear H
     have H := H1
     clear H1
     obtain rfl := Option.some.inj H
     go_wp2
     go_ret
     exact ⟨by first | rfl | (simp [qR, qU] <;> rfl) | (simp [*, qR, qU] <;> rfl), bq HB⟩
    replace c43 := Bool.eq_false_iff.mpr c43
    subst c43
    have H1 : (some 0) = some r := by rw [if_neg (show ¬ (false = true) by decide)] at H; exact H
    clear H
    have H := H1
    clear H1
    obtain rfl := Option.some.inj H
    go_wp2
    go_ret
    exact ⟨by first | rfl | (simp [qR, qU] <;> rfl) | (simp [*, qR, qU] <;> rfl), bq HB⟩
   rw [if_pos c2] at H
   have c2b0 : decide (x12_1 < (l0.length : Int)) = true := decide_eq_true c2
   clear c2
   by_cases c3 : 0 ≤ x12_1
   case neg =>
    rw [if_neg c3] at H
    exact absurd H (by simp)
   rw [if_pos c3] at H
   have c3b0 : decide (0 ≤ x12_1) = true := decide_eq_true c3
   clear c3
   by_cases c4 : x12_1 < (l0.length : Int)
   case neg =>
    rw [if_neg c4] at H
    exact absurd H (by simp)
   rw [if_pos c4] at H
   have c4b0 : decide (x12_1 < (l0.length : Int)) = true := decide_eq_true c4
   clear c4
   by_cases c5 : (wrap64 (x3_1 + ((qp l0 x12_1).length : Int))) > 4096
   ·rw [if_pos c5] at H
    have c5b0 : decide (4096 < (wrap64 (x3_1 + ((qp l0 x12_1).length : Int)))) = true := decide_eq_true c5
    clear c5
    obtain rfl := Option.some.inj H
    have p101 : 0 ≤ (x12_1 : Int) := odt
    have q101 : x12_1 < (l0.length : Int) := odt
    obtain ⟨ad101, A101_0, c101_0, e101, hx101_0, hl101_0, hi101_0⟩ := Qm HR0.out x12_1 p101 q101
    cases e101
    replace hx101_0 := (HB.out.cell (World.block_lt_of_cell? w _ hx101_0)).trans hx101_0
    have HR101_0 := qa.mk hi101_0
    have HC101_0 := qa.mk hl101_0
    clear hi101_0 hl101_0
    replace p101 := eq_true p101
    replace q101 := eq_true q101
    go_wp2
    go_ret
    exact ⟨by first | rfl | (simp [qR, qU] <;> rfl) | (simp [*, qR, qU] <;> rfl), bq HB⟩
   rw [if_neg c5] at H
   have c5b0 : decide (4096 < (wrap64 (x3_1 + ((qp l0 x12_1).length : Int)))) = false := decide_eq_false c5
   clear c5
   have H' := qa.mk H
   clear H
   have p101 : 0 ≤ (x12_1 : Int) := odt
   have q101 : x12_1 < (l0.length : Int) := odt
   obtain ⟨ad101, A101_0, c101_0, e101, hx101_0, hl101_0, hi101_0⟩ := Qm HR0.out x12_1 p101 q101
   cases e101
   replace hx101_0 := (HB.out.cell (World.block_lt_of_cell? w _ hx101_0)).trans hx101_0
   have HR101_0 := qa.mk hi101_0
   have HC101_0 := qa.mk hl101_0
   clear hi101_0 hl101_0
   replace p101 := eq_true p101
   replace q101 := eq_true q101
   go_wp2
   go_loopg [4, 5, 24] k1 (fun kq v4 v5 v24 w' => ∃ (x4_2 : Bool) (x5_2 : Bool) (x24_2 : Int), v4 = .bool x4_2 ∧ v5 = .bool x5_2 ∧ v24 = .int .i64 x24_2 ∧ qa (qN.l1 kq l0 (wrap64 (x3_1 + ((qp l0 x12_1).length : Int))) x4_2 x5_2 l0 (l0.length : Int) x12_1 (qp l0 x12_1) ((qp l0 x12_1).length : Int) x24_2 = some r) ∧ qa (kq ≤ k1) ∧ qa (Below w.heap.size w w'))
   case atStart => exact ⟨(x4_1), (x5_1), (0), (by first | rfl | (simp; done) | (simp [*]; done)), (by first | rfl | (simp; done) | (simp [*]; done)), (by first | rfl | (simp; done) | (simp [*]; done)), H', ⟨Nat.le_refl _⟩, ⟨bq HB⟩⟩
   case round =>
    clear H'
    try clear c1
    try clear p1
    try clear q1
    try clear hx1
    try clear c2
    try clear c2b0
    try clear p2
    try clear c3
    try clear c3b0
    try clear c4
    try clear c4b0
    try clear c5
    try clear c5b0
    try clear hx101_0
    try clear p101
    try clear q101
    obtain ⟨x4_2, x5_2, x24_2, rfl, rfl, rfl, HA, HK2, HB⟩ := hrel
    cases gk with
    | zero => exact absurd HA.out (by simp [qN.l1])
    | succ k2 =>
     have H := HA.out
     clear HA
     simp only [qN.l1] at H
     by_cases c6 : x24_2 < ((qp l0 x12_1).length : Int)
     case neg =>
      rw [if_neg c6] at H
      have c6b0 : decide (x24_2 < ((qp l0 x12_1).length : Int)) = false := decide_eq_false c6
      clear c6
      have H' := qa.mk H
      clear H
      go_wp2
      go_roundg k2
      case measure => have := HK1.out; have := HK2.out; omega
      case rel => exact ⟨((wrap64 (x3_1 + ((qp l0 x12_1).length : Int)))), (x4_2), (x5_2), (wrap64 (x12_1 + 1)), (by first | rfl | (simp; done) | (simp [*]; done)), (by first | rfl | (simp; done) | (simp [*]; done)), (by first | rfl | (simp; done) | (simp [*]; done)), (by first | rfl | (simp; done) | (simp [*]; done)), H', ⟨by have := HK1.out; have := HK2.out; omega⟩, ⟨bq HB⟩⟩
     rw [if_pos c6] at H
     have c6b0 : decide (x24_2 < ((qp l0 x12_1).length : Int)) = true := decide_eq_true c6
     clear c6
     by_cases c7 : 0 ≤ x24_2
     case neg =>
      rw [if_neg c7] at H
      exact absurd H (by simp)
     rw [if_pos c7] at H
     have c7b0 : decide (0 ≤ x24_2) = true := decide_eq_true c7
     clear c7
     by_cases c8 : x24_2 < ((qp l0 x12_1).length : Int)
     case neg =>
      rw [if_neg c8] at H
      exact absurd H (by simp)
     rw [if_pos c8] at H
     have c8b0 : decide (x24_2 < ((qp l0 x12_1).length : Int)) = true := decide_eq_true c8
     clear c8
     by_cases c9 : x4_2 = true
     ·subst c9
      have H1 : (if x5_2 = true then (qN.l1 k2 l0 (wrap64 (x3_1 + ((qp l0 x12_1).length : Int))) true true l0 (l0.length : Int) x12_1 (qp l0 x12_1) ((qp l0 x12_1).length : Int) (wrap64 (x24_2 + 1))) else ((zm.f ((ql (qp l0 x12_1) x24_2).f0)).bind fun t104 => (if t104 = 0 then ((zm.f ((ql (qp l0 x12_1) x24_2).f1)).bind fun t105 => (qN.l1 k2 l0 (wrap64 (x3_1 + ((qp l0 x12_1).length : Int))) true (t105 != 0) l0 (l0.length : Int) x12_1 (qp l0 x12_1) ((qp l0 x12_1).length : Int) (wrap64 (x24_2 + 1)))) else (qN.l1 k2 l0 (wrap64 (x3_1 + ((qp l0 x12_1).length : Int))) true true l0 (l0.length : Int) x12_1 (qp l0 x12_1) ((qp l0 x12_1).length : Int) (wrap64 (x24_2 + 1)))))) = some r := by rw [if_pos rfl] at H; exact H
      clear H
      have H := H1
      clear H1
      by_cases c10 : x5_2 = true
      ·subst c10
       have H1 : (qN.l1 k2 l0 (wrap64 (x3_1 + ((qp l0 x12_1).length : Int))) true true l0 (l0.length : Int) x12_1 (qp l0 x12_1) ((qp l0 x12_1).length : Int) (wrap64 (x24_2 + 1))) = some r := by rw [if_pos rfl] at H; exact H
       clear H
       have H := H1
       clear H1
       have H' := qa.mk H
       clear H
       have p102 : 0 ≤ (x24_2 : Int) := odt
       have q102 : x24_2 < ((qp l0 x12_1).length : Int) := odt
       obtain ⟨ad102, e102, hx102_0, hx102_1, hx102_2⟩ := jh HR101_0.out x24_2 p102 q102
       cases e102
       replace hx102_0 := (HB.out.cell (World.block_lt_of_cell? w _ hx102_0)).trans hx102_0
       replace hx102_1 := (HB.out.cell (World.block_lt_of_cell? w _ hx102_1)).trans hx102_1
       replace hx102_2 := (HB.out.cell (World.block_lt_of_cell? w _ hx102_2)).trans hx102_2
       replace p102 := eq_true p102
       replace q102 := eq_true q102
       go_wp2_with (first | ((with_reducible refine zl (N := 9) rfl ?_); refine zF ?hg (N := 9) ?hd (cs := #[.int .i64 0, .int .i64 0, .int .i64 0]) (t := 40) ?hr ?_; (case hd => rfl); (case hg => rfl); (case hr => first | (go_simp; done) | (go_simp; rfl)); intro gb103 hg w11 hbox hb; have n0_ := qa.mk (qh (bq HB) hb); have n1_ := qa.mk (hbox); have n2_ := qa.mk ((by rw [hg]; exact (qx (bq HB)) : w.heap.size ≤ gb103)); have n3_ := qa.mk ((by rw [hg]; exact (qx (bq HB)) : w.heap.size ≤ gb103)); clear HB; have HB := n0_; have BK103 := n1_; have GW103 := n2_; have GE103 := n3_; clear n0_ n1_ n2_ n3_; clear hb hbox hg; have hcz12_0 : w11.cell? ⟨gb103, 0, none⟩ = some (.int .i64 0) := (qb BK103.out 0).trans rfl; have hcz12_1 : w11.cell? ⟨gb103, 1, none⟩ = some (.int .i64 0) := (qb BK103.out 1).trans rfl; have hcz12_2 : w11.cell? ⟨gb103, 2, none⟩ = some (.int .i64 0) := (qb BK103.out 2).trans rfl; have hfz12_0 := qo BK103.out 0; have hfz12_1 := qo BK103.out 1; have hfz12_2 := qo BK103.out 2))
       go_roundg k2
       case measure => have := HK1.out; have := HK2.out; omega
       case rel => exact ⟨(true), (true), (wrap64 (x24_2 + 1)), (by first | rfl | (simp; done) | (simp [*]; done)), (by first | rfl | (simp; done) | (simp [*]; done)), (by first | rfl | (simp; done) | (simp [*]; done)), H', ⟨by have := HK1.out; have := HK2.out; omega⟩, ⟨bs HB GE103⟩⟩
      replace c10 := Bool.eq_false_iff.mpr c10
      subst c10
      have H1 : ((zm.f ((ql (qp l0 x12_1) x24_2).f0)).bind fun t104 => (if t104 = 0 then ((zm.f ((ql (qp l0 x12_1) x24_2).f1)).bind fun t105 => (qN.l1 k2 l0 (wrap64 (x3_1 + ((qp l0 x12_1).length : Int))) true (t105 != 0) l0 (l0.length : Int) x12_1 (qp l0 x12_1) ((qp l0 x12_1).length : Int) (wrap64 (x24_2 + 1)))) else (qN.l1 k2 l0 (wrap64 (x3_1 + ((qp l0 x12_1).length : Int))) true true l0 (l0.length : Int) x12_1 (qp l0 x12_1) ((qp l0 x12_1).length : Int) (wrap64 (x24_2 + 1))))) = some r := by rw [if_neg (show ¬ (false = true) by decide)] at H; exact H
      clear H
      have H := H1
      clear H1
      replace H := Option.bind_eq_some_iff.mp H
      obtain ⟨t104, A130, H⟩ := H
      replace H : (if t104 = 0 then ((zm.f ((ql (qp l0 x12_1) x24_2).f1)).bind fun t105 => (qN.l1 k2 l0 (wrap64 (x3_1 + ((qp l0 x12_1).length : Int))) true (t105 != 0) l0 (l0.length : Int) x12_1 (qp l0 x12_1) ((qp l0 x12_1).length : Int) (wrap64 (x24_2 + 1)))) else (qN.l1 k2 l0 (wrap64 (x3_1 + ((qp l0 x12_1).length : Int))) true true l0 (l0.length : Int) x12_1 (qp l0 x12_1) ((qp l0 x12_1).length : Int) (wrap64 (x24_2 + 1)))) = some r := H
      have A13 := qa.mk A130
      clear A130
      by_cases c14 : t104 = 0
      case neg =>
       rw [if_neg c14] at H
       have c14b0 : (t104 == 0) = false := beq_eq_false_iff_ne.mpr c14
       have c14b1 : (t104 != 0) = true := bne_iff_ne.mpr c14
       have H' := qa.mk H
       clear H
       have p102 : 0 ≤ (x24_2 : Int) := odt
       have q102 : x24_2 < ((qp l0 x12_1).length : Int) := odt
       obtain ⟨ad102, e102, hx102_0, hx102_1, hx102_2⟩ := jh HR101_0.out x24_2 p102 q102
       cases e102
       replace hx102_0 := (HB.out.cell (World.block_lt_of_cell? w _ hx102_0)).trans hx102_0
       replace hx102_1 := (HB.out.cell (World.block_lt_of_cell? w _ hx102_1)).trans hx102_1
       replace hx102_2 := (HB.out.cell (World.block_lt_of_cell? w _ hx102_2)).trans hx102_2
       replace p102 := eq_true p102
       replace q102 := eq_true q102
       go_wp2_with (first | ((with_reducible refine zl (N := 9) rfl ?_); refine zF ?hg (N := 9) ?hd (cs := #[.int .i64 0, .int .i64 0, .int .i64 0]) (t := 40) ?hr ?_; (case hd => rfl); (case hg => rfl); (case hr => first | (go_simp; done) | (go_simp; rfl)); intro gb103 hg w18 hbox hb; have n0_ := qa.mk (qh (bq HB) hb); have n1_ := qa.mk (hbox); have n2_ := qa.mk ((by rw [hg]; exact (qx (bq HB)) : w.heap.size ≤ gb103)); have n3_ := qa.mk ((by rw [hg]; exact (qx (bq HB)) : w.heap.size ≤ gb103)); clear HB; have HB := n0_; have BK103 := n1_; have GW103 := n2_; have GE103 := n3_; clear n0_ n1_ n2_ n3_; clear hb hbox hg; have hcz19_0 : w18.cell? ⟨gb103, 0, none⟩ = some (.int .i64 0) := (qb BK103.out 0).trans rfl; have hcz19_1 : w18.cell? ⟨gb103, 1, none⟩ = some (.int .i64 0) := (qb BK103.out 1).trans rfl; have hcz19_2 : w18.cell? ⟨gb103, 2, none⟩ = some (.int .i64 0) := (qb BK103.out 2).trans rfl; have hfz19_0 := qo BK103.out 0; have hfz19_1 := qo BK103.out 1; have hfz19_2 := qo BK103.out 2) | (go_at_call 45; (with_reducible refine (zm.calls ((ql (qp l0 x12_1) x24_2).f0) t104 _ A13.out).mono ?_); rintro e w' ⟨rfl, ⟨nd, rfl⟩⟩))
       go_roundg k2
       case measure => have := HK1.out; have := HK2.out; omega
       case rel => exact ⟨(true), (true), (wrap64 (x24_2 + 1)), (by first | rfl | (simp; done) | (simp [*]; done)), (by first | rfl | (simp; done) | (simp [*]; done)), (by first | rfl | (simp; done) | (simp [*]; done)), H', ⟨by have := HK1.out; have := HK2.out; omega⟩, ⟨bs HB GE103⟩⟩
      rw [if_pos c14] at H
      have c14b0 : (t104 == 0) = true := beq_iff_eq.mpr c14
      have c14b1 : (t104 != 0) = false := bne_eq_false_iff_eq.mpr c14
      clear c14
      replace H := Option.bind_eq_some_iff.mp H
      obtain ⟨t105, A150, H⟩ := H
      replace H : (qN.l1 k2 l0 (wrap64 (x3_1 + ((qp l0 x12_1).length : Int))) true (t105 != 0) l0 (l0.length : Int) x12_1 (qp l0 x12_1) ((qp l0 x12_1).length : Int) (wrap64 (x24_2 + 1))) = some r := H
      have A15 := qa.mk A150
      clear A150
      have H' := qa.mk H
      clear H
      have p102 : 0 ≤ (x24_2 : Int) := odt
      have q102 : x24_2 < ((qp l0 x12_1).length : Int) := odt
      obtain ⟨ad102, e102, hx102_0, hx102_1, hx102_2⟩ := jh HR101_0.out x24_2 p102 q102
      cases e102
      replace hx102_0 := (HB.out.cell (World.block_lt_of_cell? w _ hx102_0)).trans hx102_0
      replace hx102_1 := (HB.out.cell (World.block_lt_of_cell? w _ hx102_1)).trans hx102_1
      replace hx102_2 := (HB.out.cell (World.block_lt_of_cell? w _ hx102_2)).trans hx102_2
      replace p102 := eq_true p102
      replace q102 := eq_true q102
      go_wp2_with (first | ((with_reducible refine zl (N := 9) rfl ?_); refine zF ?hg (N := 9) ?hd (cs := #[.int .i64 0, .int .i64 0, .int .i64 0]) (t := 40) ?hr ?_; (case hd => rfl); (case hg => rfl); (case hr => first | (go_simp; done) | (go_simp; rfl)); intro gb103 hg w16 hbox hb; have n0_ := qa.mk (qh (bq HB) hb); have n1_ := qa.mk (hbox); have n2_ := qa.mk ((by rw [hg]; exact (qx (bq HB)) : w.heap.size ≤ gb103)); have n3_ := qa.mk ((by rw [hg]; exact (qx (bq HB)) : w.heap.size ≤ gb103)); clear HB; have HB := n0_; have BK103 := n1_; have GW103 := n2_; have GE103 := n3_; clear n0_ n1_ n2_ n3_; clear hb hbox hg; have hcz17_0 : w16.cell? ⟨gb103, 0, none⟩ = some (.int .i64 0) := (qb BK103.out 0).trans rfl; have hcz17_1 : w16.cell? ⟨gb103, 1, none⟩ = some (.int .i64 0) := (qb BK103.out 1).trans rfl; have hcz17_2 : w16.cell? ⟨gb103, 2, none⟩ = some (.int .i64 0) := (qb BK103.out 2).trans rfl; have hfz17_0 := qo BK103.out 0; have hfz17_1 := qo BK103.out 1; have hfz17_2 := qo BK103.out 2) | (go_at_call 45; (with_reducible refine (zm.calls ((ql (qp l0 x12_1) x24_2).f0) t104 _ A13.out).mono ?_); rintro e w' ⟨rfl, ⟨nd, rfl⟩⟩) | (go_at_call 45; (with_reducible refine (zm.calls ((ql (qp l0 x12_1) x24_2).f1) t105 _ A15.out).mono ?_); rintro e w' ⟨rfl, ⟨nd, rfl⟩⟩))
      go_roundg k2
      case measure => have := HK1.out; have := HK2.out; omega
      case rel => exact ⟨(true), ((t105 != 0)), (wrap64 (x24_2 + 1)), (by first | rfl | (simp; done) | (simp [*]; done)), (by first | rfl | (simp; done) | (simp [*]; done)), (by first | rfl | (simp; done) | (simp [*]; done)), H', ⟨by have := HK1.out; have := HK2.out; omega⟩, ⟨bs HB GE103⟩⟩
     replace c9 := Bool.eq_false_iff.mpr c9
     subst c9
     have H1 : (if ((ql (qp l0 x12_1) x24_2).f2) < 1 then (if x5_2 = true then (qN.l1 k2 l0 (wrap64 (x3_1 + ((qp l0 x12_1).length : Int))) true true l0 (l0.length : Int) x12_1 (qp l0 x12_1) ((qp l0 x12_1).length : Int) (wrap64 (x24_2 + 1))) else ((zm.f ((ql (qp l0 x12_1) x24_2).f0)).bind fun t106 => (if t106 = 0 then ((zm.f ((ql (qp l0 x12_1) x24_2).f1)).bind fun t107 => (qN.l1 k2 l0 (wrap64 (x3_1 + ((qp l0 x12_1).length : Int))) true (t107 != 0) l0 (l0.length : Int) x12_1 (qp l0 x12_1) ((qp l0 x12_1).length : Int) (wrap64 (x24_2 + 1)))) else (qN.l1 k2 l0 (wrap64 (x3_1 + ((qp l0 x12_1).length : Int))) true true l0 (l0.length : Int) x12_1 (qp l0 x12_1) ((qp l0 x12_1).length : Int) (wrap64 (x24_2 + 1)))))) else (if x5_2 = true then (qN.l1 k2 l0 (wrap64 (x3_1 + ((qp l0 x12_1).length : Int))) (decide (((ql (qp l0 x12_1) x24_2).f2) > 3)) true l0 (l0.length : Int) x12_1 (qp l0 x12_1) ((qp l0 x12_1).length : Int) (wrap64 (x24_2 + 1))) else ((zm.f ((ql (qp l0 x12_1) x24_2).f0)).bind fun t108 => (if t108 = 0 then ((zm.f ((ql (qp l0 x12_1) x24_2).f1)).bind fun t109 => (qN.l1 k2 l0 (wrap64 (x3_1 + ((qp l0 x12_1).length : Int))) (decide (((ql (qp l0 x12_1) x24_2).f2) > 3)) (t109 != 0) l0 (l0.length : Int) x12_1 (qp l0 x12_1) ((qp l0 x12_1).length : Int) (wrap64 (x24_2 + 1)))) else (qN.l1 k2 l0 (wrap64 (x3_1 + ((qp l0 x12_1).length : Int))) (decide (((ql (qp l0 x12_1) x24_2).f2) > 3)) true l0 (l0.length : Int) x12_1 (qp l0 x12_1) ((qp l0 x12_1).length : Int) (wrap64 (x24_2 + 1))))))) = some r := by rw [if_neg (show ¬ (false = true) by decide)] at H; exact H
     clear H
     have H := H1
     clear H1
     by_cases c20 : ((ql (qp l0 x12_1) x24_2).f2) < 1
     ·rw [if_pos c20] at H
      have c20b0 : decide (((ql (qp l0 x12_1) x24_2).f2) < 1) = true := decide_eq_true c20
      clear c20
      by_cases c21 : x5_2 = true
      ·subst c21
       have H1 : (qN.l1 k2 l0 (wrap64 (x3_1 + ((qp l0 x12_1).length : Int))) true true l0 (l0.length : Int) x12_1 (qp l0 x12_1) ((qp l0 x12_1).length : Int) (wrap64 (x24_2 + 1))) = some r := by rw [if_pos rfl] at H; exact H
       clear H
       have H := H1
       clear H1
       have H' := qa.mk H
       clear H
       have p102 : 0 ≤ (x24_2 : Int) := odt
       have q102 : x24_2 < ((qp l0 x12_1).length : Int) := odt
       obtain ⟨ad102, e102, hx102_0, hx102_1, hx102_2⟩ := jh HR101_0.out x24_2 p102 q102
       cases e102
       replace hx102_0 := (HB.out.cell (World.block_lt_of_cell? w _ hx102_0)).trans hx102_0
       replace hx102_1 := (HB.out.cell (World.block_lt_of_cell? w _ hx102_1)).trans hx102_1
       replace hx102_2 := (HB.out.cell (World.block_lt_of_cell? w _ hx102_2)).trans hx102_2
       replace p102 := eq_true p102
       replace q102 := eq_true q102
       go_wp2_with (first | ((with_reducible refine zl (N := 9) rfl ?_); refine zF ?hg (N := 9) ?hd (cs := #[.int .i64 0, .int .i64 0, .int .i64 0]) (t := 40) ?hr ?_; (case hd => rfl); (case hg => rfl); (case hr => first | (go_simp; done) | (go_simp; rfl)); intro gb103 hg w22 hbox hb; have n0_ := qa.mk (qh (bq HB) hb); have n1_ := qa.mk (hbox); have n2_ := qa.mk ((by rw [hg]; exact (qx (bq HB)) : w.heap.size ≤ gb103)); have n3_ := qa.mk ((by rw [hg]; exact (qx (bq HB)) : w.heap.size ≤ gb103)); clear HB; have HB := n0_; have BK103 := n1_; have GW103 := n2_; have GE103 := n3_; clear n0_ n1_ n2_ n3_; clear hb hbox hg; have hcz23_0 : w22.cell? ⟨gb103, 0, none⟩ = some (.int .i64 0) := (qb BK103.out 0).trans rfl; have hcz23_1 : w22.cell? ⟨gb103, 1, none⟩ = some (.int .i64 0) := (qb BK103.out 1).trans rfl; have hcz23_2 : w22.cell? ⟨gb103, 2, none⟩ = some (.int .i64 0) := (qb BK103.out 2).trans rfl; have hfz23_0 := qo BK103.out 0; have hfz23_1 := qo BK103.out 1; have hfz23_2 := qo BK103.out 2))
       go_roundg k2
       case measure => have := HK1.out; have := HK2.out; omega
       case rel => exact ⟨(true), (true), (wrap64 (x24_2 + 1)), (by first | rfl | (simp; done) | (simp [*]; done)), (by first | rfl | (simp; done) | (simp [*]; done)), (by first | rfl | (simp; done) | (simp [*]; done)), H', ⟨by have := HK1.out; have := HK2.out; omega⟩, ⟨bs HB GE103⟩⟩
      replace c21 := Bool.eq_false_iff.mpr c21
      subst c21
      have H1 : ((zm.f ((ql (qp l0 x12_1) x24_2).f0)).bind fun t106 => (if t106 = 0 then ((zm.f ((ql (qp l0 x12_1) x24_2).f1)).bind fun t107 => (qN.l1 k2 l0 (wrap64 (x3_1 + ((qp l0 x12_1).length : Int))) true (t107 != 0) l0 (l0.length : Int) x12_1 (qp l0 x12_1) ((qp l0 x12_1).length : Int) (wrap64 (x24_2 + 1)))) else (qN.l1 k2 l0 (wrap64 (x3_1 + ((qp l0 x12_1).length : Int))) true true l0 (l0.length : Int) x12_1 (qp l0 x12_1) ((qp l0 x12_1).length : Int) (wrap64 (x24_2 + 1))))) = some r := by rw [if_neg (show ¬ (false = true) by decide)] at H; exact H
      clear H
      have H := H1
      clear H1
      replace H := Option.bind_eq_some_iff.mp H
      obtain ⟨t106, A240, H⟩ := H
      replace H : (if t106 = 0 then ((zm.f ((ql (qp l0 x12_1) x24_2).f1)).bind fun t107 => (qN.l1 k2 l0 (wrap64 (x3_1 + ((qp l0 x12_1).length : Int))) true (t107 != 0) l0 (l0.length : Int) x12_1 (qp l0 x12_1) ((qp l0 x12_1).length : Int) (wrap64 (x24_2 + 1)))) else (qN.l1 k2 l0 (wrap64 (x3_1 + ((qp l0 x12_1).length : Int))) true true l0 (l0.length : Int) x12_1 (qp l0 x12_1) ((qp l0 x12_1).length : Int) (wrap64 (x24_2 + 1)))) = some r := H
      have A24 := qa.mk A240
      clear A240
      by_cases c25 : t106 = 0
      case neg =>
       rw [if_neg c25] at H
       have c25b0 : (t106 == 0) = false := beq_eq_false_iff_ne.mpr c25
       have c25b1 : (t106 != 0) = true := bne_iff_ne.mpr c25
       have H' := qa.mk H
       clear H
       have p102 : 0 ≤ (x24_2 : Int) := odt
       have q102 : x24_2 < ((qp l0 x12_1).length : Int) := odt
       obtain ⟨ad102, e102, hx102_0, hx102_1, hx102_2⟩ := jh HR101_0.out x24_2 p102 q102
       cases e102
       replace hx102_0 := (HB.out.cell (World.block_lt_of_cell? w _ hx102_0)).trans hx102_0
       replace hx102_1 := (HB.out.cell (World.block_lt_of_cell? w _ hx102_1)).trans hx102_1
       replace hx102_2 := (HB.out.cell (World.block_lt_of_cell? w _ hx102_2)).trans hx102_2
       replace p102 := eq_true p102
       replace q102 := eq_true q102
       go_wp2_with (first | ((with_reducible refine zl (N := 9) rfl ?_); refine zF ?hg (N := 9) ?hd (cs := #[.int .i64 0, .int .i64 0, .int .i64 0]) (t := 40) ?hr ?_; (case hd => rfl); (case hg => rfl); (case hr => first | (go_simp; done) | (go_simp; rfl)); intro gb103 hg w29 hbox hb; have n0_ := qa.mk (qh (bq HB) hb); have n1_ := qa.mk (hbox); have n2_ := qa.mk ((by rw [hg]; exact (qx (bq HB)) : w.heap.size ≤ gb103)); have n3_ := qa.mk ((by rw [hg]; exact (qx (bq HB)) : w.heap.size ≤ gb103)); clear HB; have HB := n0_; have BK103 := n1_; have GW103 := n2_; have GE103 := n3_; clear n0_ n1_ n2_ n3_; clear hb hbox hg; have hcz30_0 : w29.cell? ⟨gb103, 0, none⟩ = some (.int .i64 0) := (qb BK103.out 0).trans rfl; have hcz30_1 : w29.cell? ⟨gb103, 1, none⟩ = some (.int .i64 0) := (qb BK103.out 1).trans rfl; have hcz30_2 : w29.cell? ⟨gb103, 2, none⟩ = some (.int .i64 0) := (qb BK103.out 2).trans rfl; have hfz30_0 := qo BK103.out 0; have hfz30_1 := qo BK103.out 1; have hfz30_2 := qo BK103.out 2) | (go_at_call 45; (with_reducible refine (zm.calls ((ql (qp l0 x12_1) x24_2).f0) t106 _ A24.out).mono ?_); rintro e w' ⟨rfl, ⟨nd, rfl⟩⟩))
       go_roundg k2
       case measure => have := HK1.out; have := HK2.out; omega
       case rel => exact ⟨(true), (true), (wrap64 (x24_2 + 1)), (by first | rfl | (simp; done) | (simp [*]; done)), (by first | rfl | (simp; done) | (simp [*]; done)), (by first | rfl | (simp; done) | (simp [*]; done)), H', ⟨by have := HK1.out; have := HK2.out; omega⟩, ⟨bs HB GE103⟩⟩
      rw [if_pos c25] at H
      have c25b0 : (t106 == 0) = true := beq_iff_eq.mpr c25
      have c25b1 : (t106 != 0) = false := bne_eq_false_iff_eq.mpr c25
      clear c25
      replace H := Option.bind_eq_some_iff.mp H
      obtain ⟨t107, A260, H⟩ := H
      replace H : (qN.l1 k2 l0 (wrap64 (x3_1 + ((qp l0 x12_1).length : Int))) true (t107 != 0) l0 (l0.length : Int) x12_1 (qp l0 x12_1) ((qp l0 x12_1).length : Int) (wrap64 (x24_2 + 1))) = some r := H
      have A26 := qa.mk A260
      clear A260
      have H' := qa.mk H
      clear H
      have p102 : 0 ≤ (x24_2 : Int) := odt
      have q102 : x24_2 < ((qp l0 x12_1).length : Int) := odt
      obtain ⟨ad102, e102, hx102_0, hx102_1, hx102_2⟩ := jh HR101_0.out x24_2 p102 q102
      cases e102
      replace hx102_0 := (HB.out.cell (World.block_lt_of_cell? w _ hx102_0)).trans hx102_0
      replace hx102_1 := (HB.out.cell (World.block_lt_of_cell? w _ hx102_1)).trans hx102_1
      replace hx102_2 := (HB.out.cell (World.block_lt_of_cell? w _ hx102_2)).trans hx102_2
      replace p102 := eq_true p102
      replace q102 := eq_true q102
      go_wp2_with (first | ((with_reducible refine zl (N := 9) rfl ?_); refine zF ?hg (N := 9) ?hd (cs := #[.int .i64 0, .int .i64 0, .int .i64 0]) (t := 40) ?hr ?_; (case hd => rfl); (case hg => rfl); (case hr => first | (go_simp; done) | (go_simp; rfl)); intro gb103 hg w27 hbox hb; have n0_ := qa.mk (qh (bq HB) hb); have n1_ := qa.mk (hbox); have n2_ := qa.mk ((by rw [hg]; exact (qx (bq HB)) : w.heap.size ≤ gb103)); have n3_ := qa.mk ((by rw [hg]; exact (qx (bq HB)) : w.heap.size ≤ gb103)); clear HB; have HB := n0_; have BK103 := n1_; have GW103 := n2_; have GE103 := n3_; clear n0_ n1_ n2_ n3_; clear hb hbox hg; have hcz28_0 : w27.cell? ⟨gb103, 0, none⟩ = some (.int .i64 0) := (qb BK103.out 0).trans rfl; have hcz28_1 : w27.cell? ⟨gb103, 1, none⟩ = some (.int .i64 0) := (qb BK103.out 1).trans rfl; have hcz28_2 : w27.cell? ⟨gb103, 2, none⟩ = some (.int .i64 0) := (qb BK103.out 2).trans rfl; have hfz28_0 := qo BK103.out 0; have hfz28_1 := qo BK103.out 1; have hfz28_2 := qo BK103.out 2) | (go_at_call 45; (with_reducible refine (zm.calls ((ql (qp l0 x12_1) x24_2).f0) t106 _ A24.out).mono ?_); rintro e w' ⟨rfl, ⟨nd, rfl⟩⟩) | (go_at_call 45; (with_reducible refine (zm.calls ((ql (qp l0 x12_1) x24_2).f1) t107 _ A26.out).mono ?_); rintro e w' ⟨rfl, ⟨nd, rfl⟩⟩))
      go_roundg k2
      case measure => have := HK1.out; have := HK2.out; omega
      case rel => exact ⟨(true), ((t107 != 0)), (wrap64 (x24_2 + 1)), (by first | rfl | (simp; done) | (simp [*]; done)), (by first | rfl | (simp; done) | (simp [*]; done)), (by first | rfl | (simp; done) | (simp [*]; done)), H', ⟨by have := HK1.out; have := HK2.out; omega⟩, ⟨bs HB GE103⟩⟩
     rw [if_neg c20] at H
     have c20b0 : decide (((ql (qp l0 x12_1) x24_2).f2) < 1) = false := decide_eq_false c20
     clear c20
     by_cases c31 : x5_2 = true
     ·subst c31
      have H1 : (qN.l1 k2 l0 (wrap64 (x3_1 + ((qp l0 x12_1).length : Int))) (decide (((ql (qp l0 x12_1) x24_2).f2) > 3)) true l0 (l0.length : Int) x12_1 (qp l0 x12_1) ((qp l0 x12_1).length : Int) (wrap64 (x24_2 + 1))) = some r := by rw [if_pos rfl] at H; exact H
      clear H
      have H := H1
      clear H1
      have H' := qa.mk H
      clear H
      have p102 : 0 ≤ (x24_2 : Int) := odt
      have q102 : x24_2 < ((qp l0 x12_1).length : Int) := odt
      obtain ⟨ad102, e102, hx102_0, hx102_1, hx102_2⟩ := jh HR101_0.out x24_2 p102 q102
      cases e102
      replace hx102_0 := (HB.out.cell (World.block_lt_of_cell? w _ hx102_0)).trans hx102_0
      replace hx102_1 := (HB.out.cell (World.block_lt_of_cell? w _ hx102_1)).trans hx102_1
      replace hx102_2 := (HB.out.cell (World.block_lt_of_cell? w _ hx102_2)).trans hx102_2
      replace p102 := eq_true p102
      replace q102 := eq_true q102
      go_wp2_with (first | ((with_reducible refine zl (N := 9) rfl ?_); refine zF ?hg (N := 9) ?hd (cs := #[.int .i64 0, .int .i64 0, .int .i64 0]) (t := 40) ?hr ?_; (case hd => rfl); (case hg => rfl); (case hr => first | (go_simp; done) | (go_simp; rfl)); intro gb103 hg w32 hbox hb; have n0_ := qa.mk (qh (bq HB) hb); have n1_ := qa.mk (hbox); have n2_ := qa.mk ((by rw [hg]; exact (qx (bq HB)) : w.heap.size ≤ gb103)); have n3_ := qa.mk ((by rw [hg]; exact (qx (bq HB)) : w.heap.size ≤ gb103)); clear HB; have HB := n0_; have BK103 := n1_; have GW103 := n2_; have GE103 := n3_; clear n0_ n1_ n2_ n3_; clear hb hbox hg; have hcz33_0 : w32.cell? ⟨gb103, 0, none⟩ = some (.int .i64 0) := (qb BK103.out 0).trans rfl; have hcz33_1 : w32.cell? ⟨gb103, 1, none⟩ = some (.int .i64 0) := (qb BK103.out 1).trans rfl; have hcz33_2 : w32.cell? ⟨gb103, 2, none⟩ = some (.int .i64 0) := (qb BK103.out 2).trans rfl; have hfz33_0 := qo BK103.out 0; have hfz33_1 := qo BK103.out 1; have hfz33_2 := qo BK103.out 2))
      go_roundg k2
      case measure => have := HK1.out; have := HK2.out; omega
      case rel => exact ⟨(decide (((ql (qp l0 x12_1) x24_2).f2) > 3)), (true), (wrap64 (x24_2 + 1)), (by first | rfl | (simp; done) | (simp [*]; done)), (by first | rfl | (simp; done) | (simp [*]; done)), (by first | rfl | (simp; done) | (simp [*]; done)), H', ⟨by have := HK1.out; have := HK2.out; omega⟩, ⟨bs HB GE103⟩⟩
     replace c31 := Bool.eq_false_iff.mpr c31
     subst c31
     have H1 : ((zm.f ((ql (qp l0 x12_1) x24_2).f0)).bind fun t108 => (if t108 = 0 then ((zm.f ((ql (qp l0 x12_1) x24_2).f1)).bind fun t109 => (qN.l1 k2 l0 (wrap64 (x3_1 + ((qp l0 x12_1).length : Int))) (decide (((ql (qp l0 x12_1) x24_2).f2) > 3)) (t109 != 0) l0 (l0.length : Int) x12_1 (qp l0 x12_1) ((qp l0 x12_1).length : Int) (wrap64 (x24_2 + 1)))) else (qN.l1 k2 l0 (wrap64 (x3_1 + ((qp l0 x12_1).length : Int))) (decide (((ql (qp l0 x12_1) x24_2).f2) > 3)) true l0 (l0.length : Int) x12_1 (qp l0 x12_1) ((qp l0 x12_1).length : Int) (wrap64 (x24_2 + 1))))) = some r := by rw [if_neg (show ¬ (false = true) by decide)] at H; exact H
     clear H
     have H := H1
     clear H1
     replace H := Option.bind_eq_some_iff.mp H
     obtain ⟨t108, A340, H⟩ := H
     replace H : (if t108 = 0 then ((zm.f ((ql (qp l0 x12_1) x24_2).f1)).bind fun t109 => (qN.l1 k2 l0 (wrap64 (x3_1 + ((qp l0 x12_1).length : Int))) (decide (((ql (qp l0 x12_1) x24_2).f2) > 3)) (t109 != 0) l0 (l0.length : Int) x12_1 (qp l0 x12_1) ((qp l0 x12_1).length : Int) (wrap64 (x24_2 + 1)))) else (qN.l1 k2 l0 (wrap64 (x3_1 + ((qp l0 x12_1).length : Int))) (decide (((ql (qp l0 x12_1) x24_2).f2) > 3)) true l0 (l0.length : Int) x12_1 (qp l0 x12_1) ((qp l0 x12_1).length : Int) (wrap64 (x24_2 + 1)))) = some r := H
     have A34 := qa.mk A340
     clear A340
     by_cases c35 : t108 = 0
     case neg =>
      rw [if_neg c35] at H
      have c35b0 : (t108 == 0) = false := beq_eq_false_iff_ne.mpr c35
      have c35b1 : (t108 != 0) = true := bne_iff_ne.mpr c35
      have H' := qa.mk H
      clear H
      have p102 : 0 ≤ (x24_2 : Int) := odt
      have q102 : x24_2 < ((qp l0 x12_1).length : Int) := odt
      obtain ⟨ad102, e102, hx102_0, hx102_1, hx102_2⟩ := jh HR101_0.out x24_2 p102 q102
      cases e102
      replace hx102_0 := (HB.out.cell (World.block_lt_of_cell? w _ hx102_0)).trans hx102_0
      replace hx102_1 := (HB.out.cell (World.block_lt_of_cell? w _ hx102_1)).trans hx102_1
      replace hx102_2 := (HB.out.cell (World.block_lt_of_cell? w _ hx102_2)).trans hx102_2
      replace p102 := eq_true p102
      replace q102 := eq_true q102
      go_wp2_with (first | ((with_reducible refine zl (N := 9) rfl ?_); refine zF ?hg (N := 9) ?hd (cs := #[.int .i64 0, .int .i64 0, .int .i64 0]) (t := 40) ?hr ?_; (case hd => rfl); (case hg => rfl); (case hr => first | (go_simp; done) | (go_simp; rfl)); intro gb103 hg w39 hbox hb; have n0_ := qa.mk (qh (bq HB) hb); have n1_ := qa.mk (hbox); have n2_ := qa.mk ((by rw [hg]; exact (qx (bq HB)) : w.heap.size ≤ gb103)); have n3_ := qa.mk ((by rw [hg]; exact (qx (bq HB)) : w.heap.size ≤ gb103)); clear HB; have HB := n0_; have BK103 := n1_; have GW103 := n2_; have GE103 := n3_; clear n0_ n1_ n2_ n3_; clear hb hbox hg; have hcz40_0 : w39.cell? ⟨gb103, 0, none⟩ = some (.int .i64 0) := (qb BK103.out 0).trans rfl; have hcz40_1 : w39.cell? ⟨gb103, 1, none⟩ = some (.int .i64 0) := (qb BK103.out 1).trans rfl; have hcz40_2 : w39.cell? ⟨gb103, 2, none⟩ = some (.int .i64 0) := (qb BK103.out 2).trans rfl; have hfz40_0 := qo BK103.out 0; have hfz40_1 := qo BK103.out 1; have hfz40_2 := qo BK103.out 2) | (go_at_call 45; (with_reducible refine (zm.calls ((ql (qp l0 x12_1) x24_2).f0) t108 _ A34.out).mono ?_); rintro e w' ⟨rfl, ⟨nd, rfl⟩⟩))
      go_roundg k2
      case measure => have := HK1.out; have := HK2.out; omega
      case rel => exact ⟨(decide (((ql (qp l0 x12_1) x24_2).f2) > 3)), (true), (wrap64 (x24_2 + 1)), (by first | rfl | (simp; done) | (simp [*]; done)), (by first | rfl | (simp; done) | (simp [*]; done)), (by first | rfl | (simp; done) | (simp [*]; done)), H', ⟨by have := HK1.out; have := HK2.out; omega⟩, ⟨bs HB GE103⟩⟩
     rw [if_pos c35] at H
     have c35b0 : (t108 == 0) = true := beq_iff_eq.mpr c35
     have c35b1 : (t108 != 0) = false := bne_eq_false_iff_eq.mpr c35
     clear c35
     replace H := Option.bind_eq_some_iff.mp H
     obtain ⟨t109, A360, H⟩ := H
     replace H : (qN.l1 k2 l0 (wrap64 (x3_1 + ((qp l0 x12_1).length : Int))) (decide (((ql (qp l0 x12_1) x24_2).f2) > 3)) (t109 != 0) l0 (l0.length : Int) x12_1 (qp l0 x12_1) ((qp l0 x12_1).length : Int) (wrap64 (x24_2 + 1))) = some r := H
     have A36 := qa.mk A360
     clear A360
     have H' := qa.mk H
     clear H
     have p102 : 0 ≤ (x24_2 : Int) := odt
     have q102 : x24_2 < ((qp l0 x12_1).length : Int) := odt
     obtain ⟨ad102, e102, hx102_0, hx102_1, hx102_2⟩ := jh HR101_0.out x24_2 p102 q102
     cases e102
     replace hx102_0 := (HB.out.cell (World.block_lt_of_cell? w _ hx102_0)).trans hx102_0
     replace hx102_1 := (HB.out.cell (World.block_lt_of_cell? w _ hx102_1)).trans hx102_1
     replace hx102_2 := (HB.out.cell (World.block_lt_of_cell? w _ hx102_2)).trans hx102_2
     replace p102 := eq_true p102
     replace q102 := eq_true q102
     go_wp2_with (first | ((with_reducible refine zl (N := 9) rfl ?_); refine zF ?hg (N := 9) ?hd (cs := #[.int .i64 0, .int .i64 0, .int .i64 0]) (t := 40) ?hr ?_; (case hd => rfl); (case hg => rfl); (case hr => first | (go_simp; done) | (go_simp; rfl)); intro gb103 hg w37 hbox hb; have n0_ := qa.mk (qh (bq HB) hb); have n1_ := qa.mk (hbox); have n2_ := qa.mk ((by rw [hg]; exact (qx (bq HB)) : w.heap.size ≤ gb103)); have n3_ := qa.mk ((by rw [hg]; exact (qx (bq HB)) : w.heap.size ≤ gb103)); clear HB; have HB := n0_; have BK103 := n1_; have GW103 := n2_; have GE103 := n3_; clear n0_ n1_ n2_ n3_; clear hb hbox hg; have hcz38_0 : w37.cell? ⟨gb103, 0, none⟩ = some (.int .i64 0) := (qb BK103.out 0).trans rfl; have hcz38_1 : w37.cell? ⟨gb103, 1, none⟩ = some (.int .i64 0) := (qb BK103.out 1).trans rfl; have hcz38_2 : w37.cell? ⟨gb103, 2, none⟩ = some (.int .i64 0) := (qb BK103.out 2).trans rfl; have hfz38_0 := qo BK103.out 0; have hfz38_1 := qo BK103.out 1; have hfz38_2 := qo BK103.out 2) | (go_at_call 45; (with_reducible refine (zm.calls ((ql (qp l0 x12_1) x24_2).f0) t108 _ A34.out).mono ?_); rintro e w' ⟨rfl, ⟨nd, rfl⟩⟩) | (go_at_call 45; (with_reducible refine (zm.calls ((ql (qp l0 x12_1) x24_2).f1) t109 _ A36.out).mono ?_); rintro e w' ⟨rfl, ⟨nd, rfl⟩⟩))
     go_roundg k2
     case measure => have := HK1.out; have := HK2.out; omega
     case rel => exact ⟨(decide (((ql (qp l0 x12_1) x24_2).f2) > 3)), ((t109 != 0)), (wrap64 (x24_2 + 1)), (by first | rfl | (simp; done) | (simp [*]; done)), (by first | rfl | (simp; done) | (simp [*]; done)), (by first | rfl | (simp; done) | (simp [*]; done)), H', ⟨by have := HK1.out; have := HK2.out; omega⟩, ⟨bs HB GE103⟩⟩
end Go.Proofs.Ytmlkpadlafjfeaa.P
