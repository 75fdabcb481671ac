import Derived.Test.YtonljpciadeafaaSx0
import Derived.Test.YtonljpciadeafaaSx49
namespace Go.Proofs.Ytonljpciadeafaa.S
open Go.RowKit Go.Proofs.YtonljpciadeafaaW.PrintWords Go.Proofs.YtonljpciadeafaaW.PrintLast Go.Proofs.YtonljpciadeafaaW.PrintMore
attribute [local go_sem] zX zZ ji jk zR zQ zW zY
set_option linter.unusedVariables false
set_option linter.unusedSimpArgs false
def zu.j0 : Nat → Int → Int → Bool → Int → Int → Int → Int → Int → Int → List Int → List Int → List Int → Option (Int × Int)
 | 0, _, _, _, _, _, _, _, _, _, _, _, _ => none
 | k + 1, x1, x2, x25, x301000, x301001, x301002, x301003, x301004, x301005, x301006, x301007, x301008 => if x25 = true then (some (0, 45)) else ((qK.f k x1 x2 x301001).bind fun bt301 => (if bt301.2 = 0 then (some (bt301.1, 0)) else (some (0, 44))))
def zu.f (k : Nat) (a0_0 : Int) (a0_1 : Int) (a0_2 : Int) (a0_3 : Int) (a0_4 : Int) (a0_5 : Int) (l0_6 : List Int) (l0_7 : List Int) (l0_8 : List Int) (a1 : Int) (a2 : Int) : Option (Int × Int) := if a0_1 < 16 then (zu.j0 k a1 a2 true a0_0 a0_1 a0_2 a0_3 a0_4 a0_5 l0_6 l0_7 l0_8) else (if a0_1 > 16384 then (zu.j0 k a1 a2 true a0_0 a0_1 a0_2 a0_3 a0_4 a0_5 l0_6 l0_7 l0_8) else (if a2 < 1 then (zu.j0 k a1 a2 true a0_0 a0_1 a0_2 a0_3 a0_4 a0_5 l0_6 l0_7 l0_8) else (zu.j0 k a1 a2 (decide (a2 > 65536)) a0_0 a0_1 a0_2 a0_3 a0_4 a0_5 l0_6 l0_7 l0_8)))
theorem zu.zP : ∀ k, (∀ y0 y1 y2 y3 y4 y5 y6 y7 y8 y9 y10 y11, LeO (zu.j0 k y0 y1 y2 y3 y4 y5 y6 y7 y8 y9 y10 y11) (zu.j0 (k + 1) y0 y1 y2 y3 y4 y5 y6 y7 y8 y9 y10 y11))
 | 0 => fun _ _ _ _ _ _ _ _ _ _ _ _ r h => by simp [zu.j0] at h
 | k + 1 => by
  have ih0 := zu.zP k
  ·intro y0 y1 y2 y3 y4 y5 y6 y7 y8 y9 y10 y11
   unfold zu.j0
   repeat' first
   | (with_reducible exact ih0 _ _ _ _ _ _ _ _ _ _ _ _)
   | (with_reducible exact qK.mono _ _ _ _)
   | (with_reducible exact LeO.refl _)
   | (with_reducible exact LeO.none _)
   | (with_reducible refine LeO.ite ?_ ?_)
   | (with_reducible refine LeO.bind ?_ (fun _ => ?_))
   | exact ih0 _ _ _ _ _ _ _ _ _ _ _ _
   | exact qK.mono _ _ _ _
   | exact LeO.none _
   | refine LeO.ite ?_ ?_
   | refine LeO.bind ?_ (fun _ => ?_)
theorem zu.mono : ∀ a0 a1 a2 a3 a4 a5 a6 a7 a8 a9 a10 k, LeO (zu.f k a0 a1 a2 a3 a4 a5 a6 a7 a8 a9 a10) (zu.f (k + 1) a0 a1 a2 a3 a4 a5 a6 a7 a8 a9 a10) := by
 intro a0 a1 a2 a3 a4 a5 a6 a7 a8 a9 a10 k
 have ih0 := zu.zP k
 unfold zu.f
 repeat' first
   | (with_reducible exact ih0 _ _ _ _ _ _ _ _ _ _ _ _)
   | (with_reducible exact qK.mono _ _ _ _)
   | (with_reducible exact LeO.refl _)
   | (with_reducible exact LeO.none _)
   | (with_reducible refine LeO.ite ?_ ?_)
   | (with_reducible refine LeO.bind ?_ (fun _ => ?_))
   | exact ih0 _ _ _ _ _ _ _ _ _ _ _ _
   | exact qK.mono _ _ _ _
   | exact LeO.none _
   | refine LeO.ite ?_ ?_
   | refine LeO.bind ?_ (fun _ => ?_)
set_option maxHeartbeats 8000000 in
set_option maxRecDepth 100000 in
theorem zu.calls (k : Nat) (a0_0 : Int) (a0_1 : Int) (a0_2 : Int) (a0_3 : Int) (a0_4 : Int) (a0_5 : Int) (A0_6 : Option Addr) (c0_6 : Nat) (l0_6 : List Int) (A0_7 : Option Addr) (c0_7 : Nat) (l0_7 : List Int) (A0_8 : Option Addr) (c0_8 : Nat) (l0_8 : List Int) (a1 : Int) (a2 : Int) (r1 : Int) (r2 : Int) (w : World) (hr0_6 : Kd.C (Kd.int .i64) w A0_6 l0_6.length l0_6) (hc0_6 : l0_6.length ≤ c0_6) (hr0_7 : Kd.C (Kd.int .i64) w A0_7 l0_7.length l0_7) (hc0_7 : l0_7.length ≤ c0_7) (hr0_8 : Kd.C (Kd.int .i64) w A0_8 l0_8.length l0_8) (hc0_8 : l0_8.length ≤ c0_8) (h : zu.f k a0_0 a0_1 a0_2 a0_3 a0_4 a0_5 l0_6 l0_7 l0_8 a1 a2 = some (r1, r2)) :
  Calls Try.prog 28 #[.agg #[.int .i64 a0_0, .int .i64 a0_1, .int .i64 a0_2, .int .i64 a0_3, .int .i64 a0_4, .int .i64 a0_5, .slice A0_6 l0_6.length c0_6, .slice A0_7 l0_7.length c0_7, .slice A0_8 l0_8.length c0_8], .int .i64 a1, .int .i64 a2] w fun e w' => e = .returned (.tuple #[.int .i64 r1, .int .i64 r2]) ∧ Below w.heap.size w w' := by
 have hu37 := Try.underlying37
 have HR0_6 := qa.mk hr0_6
 have HC0_6 := qa.mk hc0_6
 clear hr0_6 hc0_6
 have HR0_7 := qa.mk hr0_7
 have HC0_7 := qa.mk hc0_7
 clear hr0_7 hc0_7
 have HR0_8 := qa.mk hr0_8
 have HC0_8 := qa.mk hc0_8
 clear hr0_8 hc0_8
 have HB := qa.mk (Below.refl w.heap.size w)
 have H : (if a0_1 < 16 then (zu.j0 k a1 a2 true a0_0 a0_1 a0_2 a0_3 a0_4 a0_5 l0_6 l0_7 l0_8) else (if a0_1 > 16384 then (zu.j0 k a1 a2 true a0_0 a0_1 a0_2 a0_3 a0_4 a0_5 l0_6 l0_7 l0_8) else (if a2 < 1 then (zu.j0 k a1 a2 true a0_0 a0_1 a0_2 a0_3 a0_4 a0_5 l0_6 l0_7 l0_8) else (zu.j0 k a1 a2 (decide (a2 > 65536)) a0_0 a0_1 a0_2 a0_3 a0_4 a0_5 l0_6 l0_7 l0_8)))) = some (r1, r2) := h
 clear h
 have HC4 := qa.mk H
 clear H
 go_enter Try.func28, Try.ntmps28
 go_upto_region 1 with (first | ((with_reducible refine qX (N := 3) rfl ?_); refine zt ?hg (N := 3) ?hd (cs := #[.int .i64 a0_0, .int .i64 a0_1, .int .i64 a0_2, .int .i64 a0_3, .int .i64 a0_4, .int .i64 a0_5, .slice A0_6 l0_6.length c0_6, .slice A0_7 l0_7.length c0_7, .slice A0_8 l0_8.length c0_8]) (t := 37) ?hr ?_; (case hd => rfl); (case hg => rfl); (case hr => first | (go_simp; done) | (go_simp; rfl)); intro gb300 hg w5 hbox hb; have n0_ := qa.mk (qc (bq HB) hb); have n1_ := qa.mk (hbox); have n2_ := qa.mk ((by rw [hg]; exact (qi (bq HB)) : w.heap.size ≤ gb300)); have n3_ := qa.mk ((by rw [hg]; exact (qi (bq HB)) : w.heap.size ≤ gb300)); clear HB; have HB := n0_; have BK300 := n1_; have GW300 := n2_; have GE300 := n3_; clear n0_ n1_ n2_ n3_; clear hb hbox hg))
 (try simp only [Act.put, List.setIfInBounds_toArray, List.set_cons_zero, List.set_cons_succ])
 go_cut [25] (fun v25 wc => ∃ (kq : Nat) (x25_3 : Bool), v25 = .bool x25_3 ∧ qa (zu.j0 kq a1 a2 x25_3 a0_0 a0_1 a0_2 a0_3 a0_4 a0_5 l0_6 l0_7 l0_8 = some (r1, r2)) ∧ qa (kq ≤ k) ∧ qa (wc.heap[gb300]? = some (.cells #[.int .i64 a0_0, .int .i64 a0_1, .int .i64 a0_2, .int .i64 a0_3, .int .i64 a0_4, .int .i64 a0_5, (.slice A0_6 l0_6.length c0_6), (.slice A0_7 l0_7.length c0_7), (.slice A0_8 l0_8.length c0_8)] 37 (0, 0))) ∧ qa (Below w.heap.size w wc))
 case first =>
  have H := HC4.out
  clear HC4
  by_cases c6 : a0_1 < 16
  ·rw [if_pos c6] at H
   have c6b0 : decide (a0_1 < 16) = true := decide_eq_true c6
   clear c6
   (first | rw [c6b0] | (simp only [qg, qh]; rw [c6b0]) | skip)
   have H' := qa.mk H
   clear H
   have hcz7_0 : w5.cell? ⟨gb300, 0, none⟩ = some (.int .i64 a0_0) := (qb BK300.out 0).trans rfl
   have hcz7_1 : w5.cell? ⟨gb300, 1, none⟩ = some (.int .i64 a0_1) := (qb BK300.out 1).trans rfl
   have hcz7_2 : w5.cell? ⟨gb300, 2, none⟩ = some (.int .i64 a0_2) := (qb BK300.out 2).trans rfl
   have hcz7_3 : w5.cell? ⟨gb300, 3, none⟩ = some (.int .i64 a0_3) := (qb BK300.out 3).trans rfl
   have hcz7_4 : w5.cell? ⟨gb300, 4, none⟩ = some (.int .i64 a0_4) := (qb BK300.out 4).trans rfl
   have hcz7_5 : w5.cell? ⟨gb300, 5, none⟩ = some (.int .i64 a0_5) := (qb BK300.out 5).trans rfl
   have hcz7_6 : w5.cell? ⟨gb300, 6, none⟩ = some (.slice A0_6 l0_6.length c0_6) := (qb BK300.out 6).trans rfl
   have hcz7_7 : w5.cell? ⟨gb300, 7, none⟩ = some (.slice A0_7 l0_7.length c0_7) := (qb BK300.out 7).trans rfl
   have hcz7_8 : w5.cell? ⟨gb300, 8, none⟩ = some (.slice A0_8 l0_8.length c0_8) := (qb BK300.out 8).trans rfl
   have hfz7_0 := qd BK300.out 0
   have hfz7_1 := qd BK300.out 1
   have hfz7_2 := qd BK300.out 2
   have hfz7_3 := qd BK300.out 3
   have hfz7_4 := qd BK300.out 4
   have hfz7_5 := qd BK300.out 5
   have hfz7_6 := qd BK300.out 6
   have hfz7_7 := qd BK300.out 7
   have hfz7_8 := qd BK300.out 8
   go_wp2
   go_meet
   case rel => exact ⟨_, (true), (by first | rfl | (simp; done) | (simp [*]; done)), H', ⟨by first | omega | exact Nat.le_refl _⟩, ⟨kq BK300⟩, ⟨bs HB GE300⟩⟩
  rw [if_neg c6] at H
  have c6b0 : decide (a0_1 < 16) = false := decide_eq_false c6
  clear c6
  (first | rw [c6b0] | (simp only [qg, qh]; rw [c6b0]) | skip)
  by_cases c8 : a0_1 > 16384
  ·rw [if_pos c8] at H
   have c8b0 : decide (16384 < a0_1) = true := decide_eq_true c8
   clear c8
   have H' := qa.mk H
   clear H
   have hcz9_0 : w5.cell? ⟨gb300, 0, none⟩ = some (.int .i64 a0_0) := (qb BK300.out 0).trans rfl
   have hcz9_1 : w5.cell? ⟨gb300, 1, none⟩ = some (.int .i64 a0_1) := (qb BK300.out 1).trans rfl
   have hcz9_2 : w5.cell? ⟨gb300, 2, none⟩ = some (.int .i64 a0_2) := (qb BK300.out 2).trans rfl
   have hcz9_3 : w5.cell? ⟨gb300, 3, none⟩ = some (.int .i64 a0_3) := (qb BK300.out 3).trans rfl
   have hcz9_4 : w5.cell? ⟨gb300, 4, none⟩ = some (.int .i64 a0_4) := (qb BK300.out 4).trans rfl
   have hcz9_5 : w5.cell? ⟨gb300, 5, none⟩ = some (.int .i64 a0_5) := (qb BK300.out 5).trans rfl
   have hcz9_6 : w5.cell? ⟨gb300, 6, none⟩ = some (.slice A0_6 l0_6.length c0_6) := (qb BK300.out 6).trans rfl
   have hcz9_7 : w5.cell? ⟨gb300, 7, none⟩ = some (.slice A0_7 l0_7.length c0_7) := (qb BK300.out 7).trans rfl
   have hcz9_8 : w5.cell? ⟨gb300, 8, none⟩ = some (.slice A0_8 l0_8.length c0_8) := (qb BK300.out 8).trans rfl
   have hfz9_0 := qd BK300.out 0
   have hfz9_1 := qd BK300.out 1
   have hfz9_2 := qd BK300.out 2
   have hfz9_3 := qd BK300.out 3
   have hfz9_4 := qd BK300.out 4
   have hfz9_5 := qd BK300.out 5
   have hfz9_6 := qd BK300.out 6
   have hfz9_7 := qd BK300.out 7
   have hfz9_8 := qd BK300.out 8
   go_wp2
   go_meet
   case rel => exact ⟨_, (true), (by first | rfl | (simp; done) | (simp [*]; done)), H', ⟨by first | omega | exact Nat.le_refl _⟩, ⟨kq BK300⟩, ⟨bs HB GE300⟩⟩
  rw [if_neg c8] at H
  have c8b0 : decide (16384 < a0_1) = false := decide_eq_false c8
  clear c8
  by_cases c10 : a2 < 1
  ·rw [if_pos c10] at H
   have c10b0 : decide (a2 < 1) = true := decide_eq_true c10
   clear c10
   have H' := qa.mk H
   clear H
   have hcz11_0 : w5.cell? ⟨gb300, 0, none⟩ = some (.int .i64 a0_0) := (qb BK300.out 0).trans rfl
   have hcz11_1 : w5.cell? ⟨gb300, 1, none⟩ = some (.int .i64 a0_1) := (qb BK300.out 1).trans rfl
   have hcz11_2 : w5.cell? ⟨gb300, 2, none⟩ = some (.int .i64 a0_2) := (qb BK300.out 2).trans rfl
   have hcz11_3 : w5.cell? ⟨gb300, 3, none⟩ = some (.int .i64 a0_3) := (qb BK300.out 3).trans rfl
   have hcz11_4 : w5.cell? ⟨gb300, 4, none⟩ = some (.int .i64 a0_4) := (qb BK300.out 4).trans rfl
   have hcz11_5 : w5.cell? ⟨gb300, 5, none⟩ = some (.int .i64 a0_5) := (qb BK300.out 5).trans rfl
   have hcz11_6 : w5.cell? ⟨gb300, 6, none⟩ = some (.slice A0_6 l0_6.length c0_6) := (qb BK300.out 6).trans rfl
   have hcz11_7 : w5.cell? ⟨gb300, 7, none⟩ = some (.slice A0_7 l0_7.length c0_7) := (qb BK300.out 7).trans rfl
   have hcz11_8 : w5.cell? ⟨gb300, 8, none⟩ = some (.slice A0_8 l0_8.length c0_8) := (qb BK300.out 8).trans rfl
   have hfz11_0 := qd BK300.out 0
   have hfz11_1 := qd BK300.out 1
   have hfz11_2 := qd BK300.out 2
   have hfz11_3 := qd BK300.out 3
   have hfz11_4 := qd BK300.out 4
   have hfz11_5 := qd BK300.out 5
   have hfz11_6 := qd BK300.out 6
   have hfz11_7 := qd BK300.out 7
   have hfz11_8 := qd BK300.out 8
   go_wp2
   go_meet
   case rel => exact ⟨_, (true), (by first | rfl | (simp; done) | (simp [*]; done)), H', ⟨by first | omega | exact Nat.le_refl _⟩, ⟨kq BK300⟩, ⟨bs HB GE300⟩⟩
  rw [if_neg c10] at H
  have c10b0 : decide (a2 < 1) = false := decide_eq_false c10
  clear c10
  have H' := qa.mk H
  clear H
  have hcz12_0 : w5.cell? ⟨gb300, 0, none⟩ = some (.int .i64 a0_0) := (qb BK300.out 0).trans rfl
  have hcz12_1 : w5.cell? ⟨gb300, 1, none⟩ = some (.int .i64 a0_1) := (qb BK300.out 1).trans rfl
  have hcz12_2 : w5.cell? ⟨gb300, 2, none⟩ = some (.int .i64 a0_2) := (qb BK300.out 2).trans rfl
  have hcz12_3 : w5.cell? ⟨gb300, 3, none⟩ = some (.int .i64 a0_3) := (qb BK300.out 3).trans rfl
  have hcz12_4 : w5.cell? ⟨gb300, 4, none⟩ = some (.int .i64 a0_4) := (qb BK300.out 4).trans rfl
  have hcz12_5 : w5.cell? ⟨gb300, 5, none⟩ = some (.int .i64 a0_5) := (qb BK300.out 5).trans rfl
  have hcz12_6 : w5.cell? ⟨gb300, 6, none⟩ = some (.slice A0_6 l0_6.length c0_6) := (qb BK300.out 6).trans rfl
  have hcz12_7 : w5.cell? ⟨gb300, 7, none⟩ = some (.slice A0_7 l0_7.length c0_7) := (qb BK300.out 7).trans rfl
  have hcz12_8 : w5.cell? ⟨gb300, 8, none⟩ = some (.slice A0_8 l0_8.length c0_8) := (qb BK300.out 8).trans rfl
  have hfz12_0 := qd BK300.out 0
  have hfz12_1 := qd BK300.out 1
  have hfz12_2 := qd BK300.out 2
  have hfz12_3 := qd BK300.out 3
  have hfz12_4 := qd BK300.out 4
  have hfz12_5 := qd BK300.out 5
  have hfz12_6 := qd BK300.out 6
  have hfz12_7 := qd BK300.out 7
  have hfz12_8 := qd BK300.out 8
  go_wp2
  go_meet
  case rel => exact ⟨_, (decide (a2 > 65536)), (by first | rfl | (simp; done) | (simp [*]; done)), H', ⟨by first | omega | exact Nat.le_refl _⟩, ⟨kq BK300⟩, ⟨bs HB GE300⟩⟩
 case rest =>
  clear HC4
  try clear c1
  try clear c2
  try clear p2
  try clear c6
  try clear c6b0
  try clear c8
  try clear c8b0
  try clear c10
  try clear c10b0
  try clear hcz11_0
  try clear hcz11_1
  try clear hcz11_2
  try clear hcz11_3
  try clear hcz11_4
  try clear hcz11_5
  try clear hcz11_6
  try clear hcz11_7
  try clear hcz11_8
  try clear hcz12_0
  try clear hcz12_1
  try clear hcz12_2
  try clear hcz12_3
  try clear hcz12_4
  try clear hcz12_5
  try clear hcz12_6
  try clear hcz12_7
  try clear hcz12_8
  try clear hcz7_0
  try clear hcz7_1
  try clear hcz7_2
  try clear hcz7_3
  try clear hcz7_4
  try clear hcz7_5
  try clear hcz7_6
  try clear hcz7_7
  try clear hcz7_8
  try clear hcz9_0
  try clear hcz9_1
  try clear hcz9_2
  try clear hcz9_3
  try clear hcz9_4
  try clear hcz9_5
  try clear hcz9_6
  try clear hcz9_7
  try clear hcz9_8
  try clear hfz11_0
  try clear hfz11_1
  try clear hfz11_2
  try clear hfz11_3
  try clear hfz11_4
  try clear hfz11_5
  try clear hfz11_6
  try clear hfz11_7
  try clear hfz11_8
  try clear hfz12_0
  try clear hfz12_1
  try clear hfz12_2
  try clear hfz12_3
  try clear hfz12_4
  try clear hfz12_5
  try clear hfz12_6
  try clear hfz12_7
  try clear hfz12_8
  try clear hfz7_0
  try clear hfz7_1
  try clear hfz7_2
  try clear hfz7_3
  try clear hfz7_4
  try clear hfz7_5
  try clear hfz7_6
  try clear hfz7_7
  try clear hfz7_8
  try clear hfz9_0
  try clear hfz9_1
  try clear hfz9_2
  try clear hfz9_3
  try clear hfz9_4
  try clear hfz9_5
  try clear hfz9_6
  try clear hfz9_7
  try clear hfz9_8
  obtain ⟨kq, x25_3, rfl, HA, HJ3, BK300, HB⟩ := hcut
  cases kq with
  | zero => exact absurd HA.out (by simp [zu.j0])
  | succ kj3 =>
   have H := HA.out
   clear HA
   simp only [zu.j0] at H
   by_cases c13 : x25_3 = true
   ·subst c13
    have H1 : (some (0, 45)) = some (r1, r2) := by rw [if_pos rfl] at H; exact H
    clear H
    have H := H1
    clear H1
    simp only [Option.some.injEq, Prod.mk.injEq] at H
    obtain ⟨rfl, rfl⟩ := H
    go_wp2
    go_ret2
    exact ⟨by first | rfl | (simp [qW, qV] <;> rfl) | (simp [*, qW, qV] <;> rfl), bs HB GE300⟩
   replace c13 := Bool.eq_false_iff.mpr c13
   subst c13
   have H1 : ((qK.f kj3 a1 a2 a0_1).bind fun bt301 => (if bt301.2 = 0 then (some (bt301.1, 0)) else (some (0, 44)))) = some (r1, r2) := by rw [if_neg (show ¬ (false = true) by decide)] at H; exact H
   clear H
   have H := H1
   clear H1
   replace H := Option.bind_eq_some_iff.mp H
   obtain ⟨⟨t301, t302⟩, A140, H⟩ := H
   replace H : (if t302 = 0 then (some (t301, 0)) else (some (0, 44))) = some (r1, r2) := H
   have A14 := qa.mk A140
   clear A140
   by_cases c15 : t302 = 0
   case neg =>
    rw [if_neg c15] at H
    have c15b0 : (t302 == 0) = false := beq_eq_false_iff_ne.mpr c15
    have c15b1 : (t302 != 0) = true := bne_iff_ne.mpr c15
    simp only [Option.some.injEq, Prod.mk.injEq] at H
    obtain ⟨rfl, rfl⟩ := H
    have hcz18_0 : wc.cell? ⟨gb300, 0, none⟩ = some (.int .i64 a0_0) := (qb BK300.out 0).trans rfl
    have hcz18_1 : wc.cell? ⟨gb300, 1, none⟩ = some (.int .i64 a0_1) := (qb BK300.out 1).trans rfl
    have hcz18_2 : wc.cell? ⟨gb300, 2, none⟩ = some (.int .i64 a0_2) := (qb BK300.out 2).trans rfl
    have hcz18_3 : wc.cell? ⟨gb300, 3, none⟩ = some (.int .i64 a0_3) := (qb BK300.out 3).trans rfl
    have hcz18_4 : wc.cell? ⟨gb300, 4, none⟩ = some (.int .i64 a0_4) := (qb BK300.out 4).trans rfl
    have hcz18_5 : wc.cell? ⟨gb300, 5, none⟩ = some (.int .i64 a0_5) := (qb BK300.out 5).trans rfl
    have hcz18_6 : wc.cell? ⟨gb300, 6, none⟩ = some (.slice A0_6 l0_6.length c0_6) := (qb BK300.out 6).trans rfl
    have hcz18_7 : wc.cell? ⟨gb300, 7, none⟩ = some (.slice A0_7 l0_7.length c0_7) := (qb BK300.out 7).trans rfl
    have hcz18_8 : wc.cell? ⟨gb300, 8, none⟩ = some (.slice A0_8 l0_8.length c0_8) := (qb BK300.out 8).trans rfl
    have hfz18_0 := qd BK300.out 0
    have hfz18_1 := qd BK300.out 1
    have hfz18_2 := qd BK300.out 2
    have hfz18_3 := qd BK300.out 3
    have hfz18_4 := qd BK300.out 4
    have hfz18_5 := qd BK300.out 5
    have hfz18_6 := qd BK300.out 6
    have hfz18_7 := qd BK300.out 7
    have hfz18_8 := qd BK300.out 8
    go_wp2_with (first | ((with_reducible refine zV (f := 53) rfl ?_); refine j5 (some 31) rfl rfl Try.func53 (by kernel_rfl) rfl #[.int .i64 a1, .int .i64 a2, .int .i64 a0_1] rfl (by (try simp only [List.map_toArray, List.map_cons, List.map_nil]); first | done | rfl | (simp only [List.length_drop, List.length_take]; rfl)) ?_; (with_reducible refine (qK.calls kj3 a1 a2 a0_1 t301 t302 _ A14.out).mono ?_); rintro e w19 ⟨rfl, hb⟩; refine ⟨_, rfl, ?_⟩; have n0_ := qa.mk (jc (g := gb300) (o := .cells #[.int .i64 a0_0, .int .i64 a0_1, .int .i64 a0_2, .int .i64 a0_3, .int .i64 a0_4, .int .i64 a0_5, .slice A0_6 l0_6.length c0_6, .slice A0_7 l0_7.length c0_7, .slice A0_8 l0_8.length c0_8] 37 (0, 0)) (kq BK300) hb); have n1_ := qa.mk (qc (bs HB GE300) hb); clear BK300; clear HB; have BK300 := n0_; have HB := n1_; clear n0_ n1_; (try clear hb); (try clear hb2); (try clear hk); (try clear hi)))
    go_ret2
    exact ⟨by first | rfl | (simp [qW, qV] <;> rfl) | (simp [*, qW, qV] <;> rfl), bs HB GE300⟩
   rw [if_pos c15] at H
   have c15b0 : (t302 == 0) = true := beq_iff_eq.mpr c15
   have c15b1 : (t302 != 0) = false := bne_eq_false_iff_eq.mpr c15
   clear c15
   simp only [Option.some.injEq, Prod.mk.injEq] at H
   obtain ⟨rfl, rfl⟩ := H
   have hcz16_0 : wc.cell? ⟨gb300, 0, none⟩ = some (.int .i64 a0_0) := (qb BK300.out 0).trans rfl
   have hcz16_1 : wc.cell? ⟨gb300, 1, none⟩ = some (.int .i64 a0_1) := (qb BK300.out 1).trans rfl
   have hcz16_2 : wc.cell? ⟨gb300, 2, none⟩ = some (.int .i64 a0_2) := (qb BK300.out 2).trans rfl
   have hcz16_3 : wc.cell? ⟨gb300, 3, none⟩ = some (.int .i64 a0_3) := (qb BK300.out 3).trans rfl
   have hcz16_4 : wc.cell? ⟨gb300, 4, none⟩ = some (.int .i64 a0_4) := (qb BK300.out 4).trans rfl
   have hcz16_5 : wc.cell? ⟨gb300, 5, none⟩ = some (.int .i64 a0_5) := (qb BK300.out 5).trans rfl
   have hcz16_6 : wc.cell? ⟨gb300, 6, none⟩ = some (.slice A0_6 l0_6.length c0_6) := (qb BK300.out 6).trans rfl
   have hcz16_7 : wc.cell? ⟨gb300, 7, none⟩ = some (.slice A0_7 l0_7.length c0_7) := (qb BK300.out 7).trans rfl
   have hcz16_8 : wc.cell? ⟨gb300, 8, none⟩ = some (.slice A0_8 l0_8.length c0_8) := (qb BK300.out 8).trans rfl
   have hfz16_0 := qd BK300.out 0
   have hfz16_1 := qd BK300.out 1
   have hfz16_2 := qd BK300.out 2
   have hfz16_3 := qd BK300.out 3
   have hfz16_4 := qd BK300.out 4
   have hfz16_5 := qd BK300.out 5
   have hfz16_6 := qd BK300.out 6
   have hfz16_7 := qd BK300.out 7
   have hfz16_8 := qd BK300.out 8
   go_wp2_with (first | ((with_reducible refine zV (f := 53) rfl ?_); refine j5 (some 31) rfl rfl Try.func53 (by kernel_rfl) rfl #[.int .i64 a1, .int .i64 a2, .int .i64 a0_1] rfl (by (try simp only [List.map_toArray, List.map_cons, List.map_nil]); first | done | rfl | (simp only [List.length_drop, List.length_take]; rfl)) ?_; (with_reducible refine (qK.calls kj3 a1 a2 a0_1 t301 t302 _ A14.out).mono ?_); rintro e w17 ⟨rfl, hb⟩; refine ⟨_, rfl, ?_⟩; have n0_ := qa.mk (jc (g := gb300) (o := .cells #[.int .i64 a0_0, .int .i64 a0_1, .int .i64 a0_2, .int .i64 a0_3, .int .i64 a0_4, .int .i64 a0_5, .slice A0_6 l0_6.length c0_6, .slice A0_7 l0_7.length c0_7, .slice A0_8 l0_8.length c0_8] 37 (0, 0)) (kq BK300) hb); have n1_ := qa.mk (qc (bs HB GE300) hb); clear BK300; clear HB; have BK300 := n0_; have HB := n1_; clear n0_ n1_; (try clear hb); (try clear hb2); (try clear hk); (try clear hi)))
   go_ret2
   exact ⟨by first | rfl | (simp [qW, qV] <;> rfl) | (simp [*, qW, qV] <;> rfl), bs HB GE300⟩
end Go.Proofs.Ytonljpciadeafaa.S
