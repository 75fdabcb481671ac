import Derived.Test.YtmlkpadlafjfeaaPx0
import Derived.Test.YtmlkpadlafjfeaaPx90
namespace Go.Proofs.Ytmlkpadlafjfeaa.P
open Go.RowKit Go.Proofs.YtmlkpadlafjfeaaW.PrintWords Go.Proofs.YtmlkpadlafjfeaaW.PrintLast Go.Proofs.YtmlkpadlafjfeaaW.PrintMore
attribute [local go_sem] zU zW jf je zJ zK zS zV
set_option linter.unusedVariables false
set_option linter.unusedSimpArgs false
mutual
def qi.l0 : Nat → List (S40) → Int → Int → Int → Option (Int × Int × (List (S64)) × Bool × Bool)
 | 0, _, _, _, _ => none
 | k + 1, x0, x6, x7, x8 => if x8 ≥ 0 then (if 0 ≤ x8 then (if x8 < (x0.length : Int) then (if ((qb x0 x8).f2) = 1 then (qi.l0 k x0 x6 x8 (wrap64 (x8 - 1))) else (qi.l0 k x0 x6 x7 (wrap64 (x8 - 1)))) else (none)) else (none)) else ((some (([] : List (S40)) : List (S40))).bind fun y257 => (if x7 < 0 then (if 0 < (x0.length : Int) then (if ((qb x0 0).f2) = 3 then (some (0, 0, ([] : List (S64)), false, false)) else (if 0 ≤ (wrap64 (x6 - 1)) then (if (wrap64 (x6 - 1)) < (x0.length : Int) then ((ze.f k ((qb x0 (wrap64 (x6 - 1))).f0) ((qb x0 (wrap64 (x6 - 1))).f1) ((qb x0 (wrap64 (x6 - 1))).f2) ((qb x0 0).f0) ((qb x0 0).f1) ((qb x0 0).f2)).bind fun bt263 => (if y257.length + x0.length < 5864062014805 then (qi.j2 k (y257 ++ x0) bt263.1 bt263.2) else (none))) else (none)) else (none))) else (none)) else (if 0 ≤ x7 then (if x7 < (x0.length : Int) then (qi.l1 k x0 x6 x7 y257 1 ((qb x0 x7).f0) ((qb x0 x7).f1)) else (none)) else (none))))
def qi.j2 : Nat → List (S40) → Int → Int → Option (Int × Int × (List (S64)) × Bool × Bool)
 | 0, _, _, _ => none
 | k + 1, x10, x257000, x257001 => qi.l2 k x10 (([] : List (S64))) x257000 x257001
def qi.l2 : Nat → List (S40) → List (S64) → Int → Int → Option (Int × Int × (List (S64)) × Bool × Bool)
 | 0, _, _, _, _ => none
 | k + 1, x10, x12, x257000, x257001 => if (x10.length : Int) > 0 then (if 0 < (x10.length : Int) then (if 1 ≤ (x10.length : Int) then ((some (x10.drop (1 : Int).toNat : List (S40))).bind fun y280 => (if ((qb x10 0).f2) = 1 then (if x12.length < 3518437208883 then (qi.l2 k y280 (x12 ++ [(⟨([] : List (S35)), (⟨(qb x10 0).f0, (qb x10 0).f1⟩ : S35)⟩ : S64)]) x257000 x257001) else (none)) else ((some (([(⟨(qb x10 0).f0, (qb x10 0).f1⟩ : S35)] : List (S35)) : List (S35))).bind fun y286 => (if ((qb x10 0).f2) = 3 then (if (y280.length : Int) = 0 then (some (x257000, x257001, ([] : List (S64)), false, false)) else (if 0 < (y280.length : Int) then (if ((qb y280 0).f2) = 3 then (if y286.length < 8796093022208 then (if 1 ≤ (y280.length : Int) then (qi.j4 k (y280.drop (1 : Int).toNat) x12 x257000 x257001 ((qb x10 0).f0) ((qb x10 0).f1) ((qb x10 0).f2) (y286 ++ [(⟨(qb y280 0).f0, (qb y280 0).f1⟩ : S35)]) 0 0) else (none)) else (none)) else (some (x257000, x257001, ([] : List (S64)), false, false))) else (none))) else (qi.j4 k y280 x12 x257000 x257001 ((qb x10 0).f0) ((qb x10 0).f1) ((qb x10 0).f2) y286 0 0))))) else (none)) else (none)) else (some (x257000, x257001, x12, false, true))
def qi.j4 : Nat → List (S40) → List (S64) → Int → Int → Int → Int → Int → List (S35) → Int → Int → Option (Int × Int × (List (S64)) × Bool × Bool)
 | 0, _, _, _, _, _, _, _, _, _, _ => none
 | k + 1, x10, x12, x257000, x257001, x279000, x279001, x279002, x290000, x290001, x290002 => if (x10.length : Int) = 0 then (if x12.length < 3518437208883 then (some (x257000, x257001, (x12 ++ [(⟨x290000, (⟨x257000, x257001⟩ : S35)⟩ : S64)]), true, true)) else (none)) else (if 0 < (x10.length : Int) then (if ((qb x10 0).f2) = 1 then (if 1 ≤ (x10.length : Int) then (if x12.length < 3518437208883 then (qi.l2 k (x10.drop (1 : Int).toNat) (x12 ++ [(⟨x290000, (⟨(qb x10 0).f0, (qb x10 0).f1⟩ : S35)⟩ : S64)]) x257000 x257001) else (none)) else (none)) else (if x279002 = 2 then (if ((qb x10 0).f2) = 2 then ((ze.f k x279000 x279001 x279002 ((qb x10 0).f0) ((qb x10 0).f1) ((qb x10 0).f2)).bind fun bt313 => (if x12.length < 3518437208883 then (qi.l2 k x10 (x12 ++ [(⟨x290000, (⟨bt313.1, bt313.2⟩ : S35)⟩ : S64)]) x257000 x257001) else (none))) else (some (x257000, x257001, ([] : List (S64)), false, false))) else (some (x257000, x257001, ([] : List (S64)), false, false)))) else (none))
def qi.l1 : Nat → List (S40) → Int → Int → List (S40) → Int → Int → Int → Option (Int × Int × (List (S64)) × Bool × Bool)
 | 0, _, _, _, _, _, _, _ => none
 | k + 1, x0, x6, x7, x10, x11, x257000, x257001 => if x11 < x6 then (if x6 = 0 then (none) else (if 0 ≤ (Int.tmod (wrap64 (x7 + x11)) x6) then (if (Int.tmod (wrap64 (x7 + x11)) x6) < (x0.length : Int) then (if x10.length < 5864062014805 then (qi.l1 k x0 x6 x7 (x10 ++ [(⟨(qb x0 (Int.tmod (wrap64 (x7 + x11)) x6)).f0, (qb x0 (Int.tmod (wrap64 (x7 + x11)) x6)).f1, (qb x0 (Int.tmod (wrap64 (x7 + x11)) x6)).f2⟩ : S40)]) (wrap64 (x11 + 1)) x257000 x257001) else (none)) else (none)) else (none))) else (qi.j2 k x10 x257000 x257001)
end
def qi.f (k : Nat) (l0 : List (S40)) : Option (Int × Int × (List (S64)) × Bool × Bool) := qi.l0 k l0 (l0.length : Int) (-1) (wrap64 ((l0.length : Int) - 1))
theorem qi.zT : ∀ k, (∀ y0 y1 y2 y3, LeO (qi.l0 k y0 y1 y2 y3) (qi.l0 (k + 1) y0 y1 y2 y3)) ∧ (∀ y0 y1 y2, LeO (qi.j2 k y0 y1 y2) (qi.j2 (k + 1) y0 y1 y2)) ∧ (∀ y0 y1 y2 y3, LeO (qi.l2 k y0 y1 y2 y3) (qi.l2 (k + 1) y0 y1 y2 y3)) ∧ (∀ y0 y1 y2 y3 y4 y5 y6 y7 y8 y9, LeO (qi.j4 k y0 y1 y2 y3 y4 y5 y6 y7 y8 y9) (qi.j4 (k + 1) y0 y1 y2 y3 y4 y5 y6 y7 y8 y9)) ∧ (∀ y0 y1 y2 y3 y4 y5 y6, LeO (qi.l1 k y0 y1 y2 y3 y4 y5 y6) (qi.l1 (k + 1) y0 y1 y2 y3 y4 y5 y6))
 | 0 => ⟨fun _ _ _ _ r h => by simp [qi.l0] at h, fun _ _ _ r h => by simp [qi.j2] at h, fun _ _ _ _ r h => by simp [qi.l2] at h, fun _ _ _ _ _ _ _ _ _ _ r h => by simp [qi.j4] at h, fun _ _ _ _ _ _ _ r h => by simp [qi.l1] at h⟩
 | k + 1 => by
  obtain ⟨ih0, ih1, ih2, ih3, ih4⟩ := qi.zT k
  refine ⟨?_, ?_, ?_, ?_, ?_⟩
  ·intro y0 y1 y2 y3
   unfold qi.l0
   repeat' first
   | (with_reducible exact ih0 _ _ _ _)
   | (with_reducible exact ih1 _ _ _)
   | (with_reducible exact ih2 _ _ _ _)
   | (with_reducible exact ih3 _ _ _ _ _ _ _ _ _ _)
   | (with_reducible exact ih4 _ _ _ _ _ _ _)
   | (with_reducible exact ze.mono _ _ _ _ _ _ _)
   | (with_reducible exact LeO.refl _)
   | (with_reducible exact LeO.none _)
   | (with_reducible refine LeO.ite ?_ ?_)
   | (with_reducible refine LeO.bind ?_ (fun _ => ?_))
   | exact ih0 _ _ _ _
   | exact ih1 _ _ _
   | exact ih2 _ _ _ _
   | exact ih3 _ _ _ _ _ _ _ _ _ _
   | exact ih4 _ _ _ _ _ _ _
   | exact ze.mono _ _ _ _ _ _ _
   | exact LeO.none _
   | refine LeO.ite ?_ ?_
   | refine LeO.bind ?_ (fun _ => ?_)
  ·intro y0 y1 y2
   unfold qi.j2
   repeat' first
   | (with_reducible exact ih0 _ _ _ _)
   | (with_reducible exact ih1 _ _ _)
   | (with_reducible exact ih2 _ _ _ _)
   | (with_reducible exact ih3 _ _ _ _ _ _ _ _ _ _)
   | (with_reducible exact ih4 _ _ _ _ _ _ _)
   | (with_reducible exact ze.mono _ _ _ _ _ _ _)
   | (with_reducible exact LeO.refl _)
   | (with_reducible exact LeO.none _)
   | (with_reducible refine LeO.ite ?_ ?_)
   | (with_reducible refine LeO.bind ?_ (fun _ => ?_))
   | exact ih0 _ _ _ _
   | exact ih1 _ _ _
   | exact ih2 _ _ _ _
   | exact ih3 _ _ _ _ _ _ _ _ _ _
   | exact ih4 _ _ _ _ _ _ _
   | exact ze.mono _ _ _ _ _ _ _
   | exact LeO.none _
   | refine LeO.ite ?_ ?_
   | refine LeO.bind ?_ (fun _ => ?_)
  ·intro y0 y1 y2 y3
   unfold qi.l2
   repeat' first
   | (with_reducible exact ih0 _ _ _ _)
   | (with_reducible exact ih1 _ _ _)
   | (with_reducible exact ih2 _ _ _ _)
   | (with_reducible exact ih3 _ _ _ _ _ _ _ _ _ _)
   | (with_reducible exact ih4 _ _ _ _ _ _ _)
   | (with_reducible exact ze.mono _ _ _ _ _ _ _)
   | (with_reducible exact LeO.refl _)
   | (with_reducible exact LeO.none _)
   | (with_reducible refine LeO.ite ?_ ?_)
   | (with_reducible refine LeO.bind ?_ (fun _ => ?_))
   | exact ih0 _ _ _ _
   | exact ih1 _ _ _
   | exact ih2 _ _ _ _
   | exact ih3 _ _ _ _ _ _ _ _ _ _
   | exact ih4 _ _ _ _ _ _ _
   | exact ze.mono _ _ _ _ _ _ _
   | exact LeO.none _
   | refine LeO.ite ?_ ?_
   | refine LeO.bind ?_ (fun _ => ?_)
  ·intro y0 y1 y2 y3 y4 y5 y6 y7 y8 y9
   unfold qi.j4
   repeat' first
   | (with_reducible exact ih0 _ _ _ _)
   | (with_reducible exact ih1 _ _ _)
   | (with_reducible exact ih2 _ _ _ _)
   | (with_reducible exact ih3 _ _ _ _ _ _ _ _ _ _)
   | (with_reducible exact ih4 _ _ _ _ _ _ _)
   | (with_reducible exact ze.mono _ _ _ _ _ _ _)
   | (with_reducible exact LeO.refl _)
   | (with_reducible exact LeO.none _)
   | (with_reducible refine LeO.ite ?_ ?_)
   | (with_reducible refine LeO.bind ?_ (fun _ => ?_))
   | exact ih0 _ _ _ _
   | exact ih1 _ _ _
   | exact ih2 _ _ _ _
   | exact ih3 _ _ _ _ _ _ _ _ _ _
   | exact ih4 _ _ _ _ _ _ _
   | exact ze.mono _ _ _ _ _ _ _
   | exact LeO.none _
   | refine LeO.ite ?_ ?_
   | refine LeO.bind ?_ (fun _ => ?_)
  ·intro y0 y1 y2 y3 y4 y5 y6
   unfold qi.l1
   repeat' first
   | (with_reducible exact ih0 _ _ _ _)
   | (with_reducible exact ih1 _ _ _)
   | (with_reducible exact ih2 _ _ _ _)
   | (with_reducible exact ih3 _ _ _ _ _ _ _ _ _ _)
   | (with_reducible exact ih4 _ _ _ _ _ _ _)
   | (with_reducible exact ze.mono _ _ _ _ _ _ _)
   | (with_reducible exact LeO.refl _)
   | (with_reducible exact LeO.none _)
   | (with_reducible refine LeO.ite ?_ ?_)
   | (with_reducible refine LeO.bind ?_ (fun _ => ?_))
   | exact ih0 _ _ _ _
   | exact ih1 _ _ _
   | exact ih2 _ _ _ _
   | exact ih3 _ _ _ _ _ _ _ _ _ _
   | exact ih4 _ _ _ _ _ _ _
   | exact ze.mono _ _ _ _ _ _ _
   | exact LeO.none _
   | refine LeO.ite ?_ ?_
   | refine LeO.bind ?_ (fun _ => ?_)
theorem qi.mono : ∀ a0 k, LeO (qi.f k a0) (qi.f (k + 1) a0) := by
 intro a0 k
 obtain ⟨ih0, ih1, ih2, ih3, ih4⟩ := qi.zT k
 unfold qi.f
 repeat' first
   | (with_reducible exact ih0 _ _ _ _)
   | (with_reducible exact ih1 _ _ _)
   | (with_reducible exact ih2 _ _ _ _)
   | (with_reducible exact ih3 _ _ _ _ _ _ _ _ _ _)
   | (with_reducible exact ih4 _ _ _ _ _ _ _)
   | (with_reducible exact ze.mono _ _ _ _ _ _ _)
   | (with_reducible exact LeO.refl _)
   | (with_reducible exact LeO.none _)
   | (with_reducible refine LeO.ite ?_ ?_)
   | (with_reducible refine LeO.bind ?_ (fun _ => ?_))
   | exact ih0 _ _ _ _
   | exact ih1 _ _ _
   | exact ih2 _ _ _ _
   | exact ih3 _ _ _ _ _ _ _ _ _ _
   | exact ih4 _ _ _ _ _ _ _
   | exact ze.mono _ _ _ _ _ _ _
   | exact LeO.none _
   | refine LeO.ite ?_ ?_
   | refine LeO.bind ?_ (fun _ => ?_)
def qi.T13 : Bool × List (List Nat × List Nat) := (true, [([], []), ([], []), ([1], [1]), ([0, 2], [0, 2]), ([3], [3]), ([], []), ([5], [5]), ([6], [6]), ([4, 7], [4, 7]), ([8, 8, 0, 1, 2, 3, 4, 5, 6, 7, 8], [8])])
def qi.B13 : List Nat := [0, 0, 2, 7, 15, 0, 32, 96, 255, 511]
theorem qi.tab13 : rtab .any (opsOf Try.f26 13) = qi.T13 := by kernel_rfl
theorem qi.bits13 : Qn qi.T13.2 qi.B13 = true := by kernel_rfl
def qi.T15 : Bool × List (List Nat × List Nat) := (true, [([], []), ([], []), ([0, 1], [0, 1]), ([2], [2]), ([3], [3]), ([], []), ([], []), ([5, 6], [5, 6]), ([7], [7]), ([8], [8]), ([4, 9], [4, 9]), ([10, 0, 1, 2, 3, 4, 5, 6, 7, 8, 9, 10], [10])])
def qi.B15 : List Nat := [0, 0, 3, 7, 15, 0, 0, 96, 224, 480, 1023, 2047]
theorem qi.tab15 : rtab .any (opsOf Try.f26 15) = qi.T15 := by kernel_rfl
theorem qi.bits15 : Qn qi.T15.2 qi.B15 = true := by kernel_rfl
def qi.T31 : Bool × List (List Nat × List Nat) := (true, [([], []), ([0], [0]), ([], []), ([2], [2]), ([3], [3]), ([4], [4]), ([], []), ([6], [6]), ([7], [7]), ([8], [8]), ([5, 9], [5, 9]), ([10], [10]), ([1, 11], [1, 11]), ([0, 1, 2, 3, 4, 5, 6, 7, 8, 9, 10, 11, 12], []), ([13, 12, 12, 0, 1, 2, 3, 4, 5, 6, 7, 8, 9, 10, 11, 12], [12, 13])])
def qi.B31 : List Nat := [0, 1, 0, 4, 12, 28, 0, 64, 192, 448, 1020, 2044, 4095, 8191, 16383]
theorem qi.tab31 : rtab .any (opsOf Try.f26 31) = qi.T31 := by kernel_rfl
theorem qi.bits31 : Qn qi.T31.2 qi.B31 = true := by kernel_rfl
def qi.T35 : Bool × List (List Nat × List Nat) := (true, [([], []), ([], []), ([], []), ([2], [2]), ([1, 3], [1, 3]), ([0, 4, 0], [0]), ([4, 5, 0, 1, 2, 3, 4, 5], [4]), ([6, 0, 1, 2, 3, 4, 5, 6], []), ([7, 0, 1, 2, 3, 4, 5, 6, 7], [])])
def qi.B35 : List Nat := [0, 0, 0, 4, 14, 31, 63, 127, 255]
theorem qi.tab35 : rtab .any (opsOf Try.f26 35) = qi.T35 := by kernel_rfl
theorem qi.bits35 : Qn qi.T35.2 qi.B35 = true := by kernel_rfl
def qi.T37 : Bool × List (List Nat × List Nat) := (true, [([], []), ([0], [0]), ([1], [1]), ([2], [2]), ([], []), ([4], [4]), ([5], [5]), ([6], [6]), ([3, 7], [3, 7]), ([0, 1, 2, 3, 4, 5, 6, 7, 8], []), ([9, 8, 0, 1, 2, 3, 4, 5, 6, 7, 8], [8, 9])])
def qi.B37 : List Nat := [0, 1, 3, 7, 0, 16, 48, 112, 255, 511, 1023]
theorem qi.tab37 : rtab .any (opsOf Try.f26 37) = qi.T37 := by kernel_rfl
theorem qi.bits37 : Qn qi.T37.2 qi.B37 = true := by kernel_rfl
set_option maxHeartbeats 8000000 in
set_option maxRecDepth 100000 in
theorem qi.calls (k : Nat) (A0 : Option Addr) (c0 : Nat) (l0 : List (S40)) (r1 : Int) (r2 : Int) (r3 : List (S64)) (r4 : Bool) (r5 : Bool) (w : World) (hr0 : Kd.C k40 w A0 l0.length l0) (hc0 : l0.length ≤ c0) (h : qi.f k l0 = some (r1, r2, r3, r4, r5)) :
  Calls Try.prog 26 #[.slice A0 l0.length c0] w fun e w' => ∃ v2_ : Value, e = .returned (.tuple #[.agg #[.int .i64 r1, .int .i64 r2], v2_, .bool r4, .bool r5]) ∧ Kd.S k64 64 w' w.heap.size (fun _ => True) v2_ r3 ∧ Below w.heap.size w w' := by
 have hu35 := Try.underlying35
 have hu40 := Try.underlying40
 have hu64 := Try.underlying64
 have HR0 := qa.mk hr0
 have HC0 := qa.mk hc0
 clear hr0 hc0
 have HB := qa.mk (Below.refl w.heap.size w)
 have H : (qi.l0 k l0 (l0.length : Int) (-1) (wrap64 ((l0.length : Int) - 1))) = some (r1, r2, r3, r4, r5) := h
 clear h
 have H' := qa.mk H
 clear H
 go_enter Try.func26, Try.ntmps26
 go_wp2_with (first | ((with_reducible refine zf (N := 2) rfl ?_); refine zm ?hg (N := 2) ?hd (cs := #[.int .i64 0, .int .i64 0]) (t := 35) ?hr ?_; (case hd => rfl); (case hg => rfl); (case hr => first | (go_simp; done) | (go_simp; rfl)); intro gb254 hg w2 hbox hb; have n0_ := qa.mk (qE (bq HB) hb); have n1_ := qa.mk (hbox); have n2_ := qa.mk ((by rw [hg]; exact (qy (bq HB)) : w.heap.size ≤ gb254)); have n3_ := qa.mk ((by rw [hg]; exact (qy (bq HB)) : w.heap.size ≤ gb254)); clear HB; have HB := n0_; have BK254 := n1_; have GW254 := n2_; have GE254 := n3_; clear n0_ n1_ n2_ n3_; clear hb hbox hg))
 go_loopg [7, 8] k (fun kq v7 v8 w' => ∃ (x7_1 : Int) (x8_1 : Int), v7 = .int .i64 x7_1 ∧ v8 = .int .i64 x8_1 ∧ qa (qi.l0 kq l0 (l0.length : Int) x7_1 x8_1 = some (r1, r2, r3, r4, r5)) ∧ qa (kq ≤ k) ∧ qa (w'.heap[gb254]? = some (.cells #[.int .i64 0, .int .i64 0] 35 (0, 0))) ∧ qa (Below w.heap.size w w'))
 case atStart => exact ⟨((-1)), (wrap64 ((l0.length : Int) - 1)), (by first | rfl | (simp; done) | (simp [*]; done)), (by first | rfl | (simp; done) | (simp [*]; done)), H', ⟨Nat.le_refl _⟩, ⟨kq BK254⟩, ⟨bs HB GE254⟩⟩
 case round =>
  clear H'
  try clear c2
  try clear p2
  obtain ⟨x7_1, x8_1, rfl, rfl, HA, HK1, BK254, HB⟩ := hrel
  cases gk with
  | zero => exact absurd HA.out (by simp [qi.l0])
  | succ k1 =>
   have H := HA.out
   clear HA
   simp only [qi.l0] at H
   by_cases c3 : x8_1 ≥ 0
   ·rw [if_pos c3] at H
    have c3b0 : decide (0 ≤ x8_1) = true := decide_eq_true c3
    clear c3
    by_cases c4 : 0 ≤ x8_1
    case neg =>
     rw [if_neg c4] at H
     exact absurd H (by simp)
    rw [if_pos c4] at H
    have c4b0 : decide (0 ≤ x8_1) = true := decide_eq_true c4
    clear c4
    by_cases c5 : x8_1 < (l0.length : Int)
    case neg =>
     rw [if_neg c5] at H
     exact absurd H (by simp)
    rw [if_pos c5] at H
    have c5b0 : decide (x8_1 < (l0.length : Int)) = true := decide_eq_true c5
    clear c5
    by_cases c6 : ((qb l0 x8_1).f2) = 1
    case neg =>
     rw [if_neg c6] at H
     have c6b0 : (((qb l0 x8_1).f2) == 1) = false := beq_eq_false_iff_ne.mpr c6
     have c6b1 : (((qb l0 x8_1).f2) != 1) = true := bne_iff_ne.mpr c6
     have H' := qa.mk H
     clear H
     have p255 : 0 ≤ (x8_1 : Int) := odt
     have q255 : x8_1 < (l0.length : Int) := odt
     obtain ⟨ad255, e255, hx255_0, hx255_1, hx255_2⟩ := zH HR0.out x8_1 p255 q255
     cases e255
     replace hx255_0 := (HB.out.cell (World.block_lt_of_cell? w _ hx255_0)).trans hx255_0
     replace hx255_1 := (HB.out.cell (World.block_lt_of_cell? w _ hx255_1)).trans hx255_1
     replace hx255_2 := (HB.out.cell (World.block_lt_of_cell? w _ hx255_2)).trans hx255_2
     replace p255 := eq_true p255
     replace q255 := eq_true q255
     go_wp2
     go_roundg k1
     case measure => have := HK1.out; omega
     case rel => exact ⟨(x7_1), (wrap64 (x8_1 - 1)), (by first | rfl | (simp; done) | (simp [*]; done)), (by first | rfl | (simp; done) | (simp [*]; done)), H', ⟨by have := HK1.out; omega⟩, ⟨kq BK254⟩, ⟨bs HB GE254⟩⟩
    rw [if_pos c6] at H
    have c6b0 : (((qb l0 x8_1).f2) == 1) = true := beq_iff_eq.mpr c6
    have c6b1 : (((qb l0 x8_1).f2) != 1) = false := bne_eq_false_iff_eq.mpr c6
    clear c6
    have H' := qa.mk H
    clear H
    have p255 : 0 ≤ (x8_1 : Int) := odt
    have q255 : x8_1 < (l0.length : Int) := odt
    obtain ⟨ad255, e255, hx255_0, hx255_1, hx255_2⟩ := zH HR0.out x8_1 p255 q255
    cases e255
    replace hx255_0 := (HB.out.cell (World.block_lt_of_cell? w _ hx255_0)).trans hx255_0
    replace hx255_1 := (HB.out.cell (World.block_lt_of_cell? w _ hx255_1)).trans hx255_1
    replace hx255_2 := (HB.out.cell (World.block_lt_of_cell? w _ hx255_2)).trans hx255_2
    replace p255 := eq_true p255
    replace q255 := eq_true q255
    go_wp2
    go_roundg k1
    case measure => have := HK1.out; omega
    case rel => exact ⟨(x8_1), (wrap64 (x8_1 - 1)), (by first | rfl | (simp; done) | (simp [*]; done)), (by first | rfl | (simp; done) | (simp [*]; done)), H', ⟨by have := HK1.out; omega⟩, ⟨kq BK254⟩, ⟨bs HB GE254⟩⟩
   rw [if_neg c3] at H
   have c3b0 : decide (0 ≤ x8_1) = false := decide_eq_false c3
   clear c3
   obtain ⟨y257, hy257⟩ : ∃ y_ : List (S40), y_ = (([] : List (S40))) := ⟨_, rfl⟩
   replace H : (if x7_1 < 0 then (if 0 < (l0.length : Int) then (if ((qb l0 0).f2) = 3 then (some (0, 0, ([] : List (S64)), false, false)) else (if 0 ≤ (wrap64 ((l0.length : Int) - 1)) then (if (wrap64 ((l0.length : Int) - 1)) < (l0.length : Int) then ((ze.f k1 ((qb l0 (wrap64 ((l0.length : Int) - 1))).f0) ((qb l0 (wrap64 ((l0.length : Int) - 1))).f1) ((qb l0 (wrap64 ((l0.length : Int) - 1))).f2) ((qb l0 0).f0) ((qb l0 0).f1) ((qb l0 0).f2)).bind fun bt263 => (if y257.length + l0.length < 5864062014805 then (qi.j2 k1 (y257 ++ l0) bt263.1 bt263.2) else (none))) else (none)) else (none))) else (none)) else (if 0 ≤ x7_1 then (if x7_1 < (l0.length : Int) then (qi.l1 k1 l0 (l0.length : Int) x7_1 y257 1 ((qb l0 x7_1).f0) ((qb l0 x7_1).f1)) else (none)) else (none))) = some (r1, r2, r3, r4, r5) := by first | (rw [hy257]; with_reducible exact H) | (have H2_ := (Option.bind_some _ _).symm.trans H; rw [hy257]; with_reducible exact H2_) | (have H2_ := (Option.bind_some _ _).symm.trans H; with_reducible exact H2_) | with_reducible exact H | (rw [hy257]; exact H) | exact H
   have Ny257 := qa.mk hy257
   clear hy257
   have HC7 := qa.mk H
   clear H
   go_upto_if 34 with (first | ((with_reducible refine zf (N := 9) rfl ?_); refine zm ?hg (N := 9) ?hd (cs := #[.int .i64 0, .int .i64 0]) (t := 35) ?hr ?_; (case hd => rfl); (case hg => rfl); (case hr => first | (go_simp; done) | (go_simp; rfl)); intro gb256 hg w8 hbox hb; have n0_ := qa.mk (qN (g := gb254) (o := .cells #[.int .i64 0, .int .i64 0] 35 (0, 0)) (kq BK254) hb); have n1_ := qa.mk (qE (bs HB GE254) hb); have n2_ := qa.mk (hbox); have n3_ := qa.mk ((by rw [hg]; exact (qy (bs HB GE254)) : w.heap.size ≤ gb256)); have n4_ := qa.mk ((by rw [hg]; exact (qy (bs HB GE254)) : w.heap.size ≤ gb256)); have n5_ := qa.mk ((by rw [hg]; exact Nat.ne_of_lt (qD (g := gb254) (o := .cells #[.int .i64 0, .int .i64 0] 35 (0, 0)) (kq BK254)) : gb254 ≠ gb256)); have n6_ := qa.mk ((by rw [hg]; exact Nat.ne_of_gt (qD (g := gb254) (o := .cells #[.int .i64 0, .int .i64 0] 35 (0, 0)) (kq BK254)) : gb256 ≠ gb254)); clear BK254; clear HB; have BK254 := n0_; have HB := n1_; have BK256 := n2_; have GW256 := n3_; have GE256 := n4_; have NB254_256 := n5_; have NB256_254 := n6_; clear n0_ n1_ n2_ n3_ n4_ n5_ n6_; clear hb hbox hg; have hnb9 := NB256_254.out; have hnc9 := NB254_256.out; have hcz10_0 : w8.cell? ⟨gb256, 0, none⟩ = some (.int .i64 0) := (qf BK256.out 0).trans rfl; have hcz10_1 : w8.cell? ⟨gb256, 1, none⟩ = some (.int .i64 0) := (qf BK256.out 1).trans rfl; have hfz10_0 := qj BK256.out 0; have hfz10_1 := qj BK256.out 1) | ((with_reducible refine zf (N := 32) rfl ?_); refine Kd.Zr k40 _ 40 ?hg (N := 32) ?hd (xs := ([] : List (S40))) (inner := []) (ok := fun _ => True) (okp := fun _ => True) ?hr ?hp (fun _ hk => hk) trivial (Below.refl _ _) (Nat.le_refl _) (by simp) ?_; (case hd => rfl); (case hg => rfl); (case hr => first | (go_simp; done) | (go_simp; rfl)); (case hp => exact (zx.none _ _)); intro v258 w11 ho12 hb hg_ hnew_; clear hg_ hnew_; (first | rw [← Ny257.out] at ho12 | (simp only [Int.reduceToNat] at ho12; rw [← Ny257.out] at ho12)); have n0_ := qa.mk (Kd.jZ ho12 (qy (by repeat (first | (with_reducible first | exact HB.out | apply qp | apply qo | apply qz | refine qg ?_ GE254.out | refine qg ?_ GE256.out) | exact HB.out)))); have n1_ := qa.mk (qN (g := gb254) (o := .cells #[.int .i64 0, .int .i64 0] 35 (0, 0)) (by (with_reducible repeat (first | refine qh ?_ _ | refine qc ?_ | refine qd ?_ _)); refine qJ ?_ NB254_256.out _; refine qJ ?_ NB254_256.out _; exact kq BK254) hb); have n2_ := qa.mk (qN (g := gb256) (o := .cells #[.int .i64 0, .int .i64 0] 35 (0, 0)) (by (with_reducible repeat (first | refine qh ?_ _ | refine qc ?_ | refine qd ?_ _)); refine zb (cs := #[.int .i64 0, .int .i64 0]) ?_ 1 _ rfl; refine zb (cs := #[.int .i64 0, .int .i64 0]) ?_ 0 _ rfl; exact kq BK256) hb); have n3_ := qa.mk (qE (by repeat (first | (with_reducible first | exact HB.out | apply qp | apply qo | apply qz | refine qg ?_ GE254.out | refine qg ?_ GE256.out) | exact HB.out)) hb); clear BK254; clear BK256; clear HB; have HO259 := n0_; have BK254 := n1_; have BK256 := n2_; have HB := n3_; clear n0_ n1_ n2_ n3_; clear hb ho12))
   (try simp only [Act.put, List.setIfInBounds_toArray, List.set_cons_zero, List.set_cons_succ])
   go_cut [10] (fun v10 wc => ∃ (kq : Nat) (x10_6 : List (S40)) (x255000_6 : Int) (x255001_6 : Int) (x257000_6 : Int) (x257001_6 : Int), qa (qi.j2 kq x10_6 x257000_6 x257001_6 = some (r1, r2, r3, r4, r5)) ∧ qa (kq ≤ k1) ∧ qa (Kd.Q k40 40 wc w.heap.size (fun _ => True) v10 x10_6) ∧ qa (wc.heap[gb254]? = some (.cells #[.int .i64 x255000_6, .int .i64 x255001_6] 35 (0, 0))) ∧ qa (wc.heap[gb256]? = some (.cells #[.int .i64 x257000_6, .int .i64 x257001_6] 35 (0, 0))) ∧ qa (Below w.heap.size w wc))
   case first =>
    have H := HC7.out
    clear HC7
    by_cases c13 : x7_1 < 0
    case neg =>
     rw [if_neg c13] at H
     have c13b0 : decide (x7_1 < 0) = false := decide_eq_false c13
     clear c13
     (first | rw [c13b0] | (simp only [qA, qB]; rw [c13b0]) | skip)
     by_cases c29 : 0 ≤ x7_1
     case neg =>
      rw [if_neg c29] at H
      exact absurd H (by simp)
     rw [if_pos c29] at H
     have c29b0 : decide (0 ≤ x7_1) = true := decide_eq_true c29
     clear c29
     by_cases c30 : x7_1 < (l0.length : Int)
     case neg =>
      rw [if_neg c30] at H
      exact absurd H (by simp)
     rw [if_pos c30] at H
     have c30b0 : decide (x7_1 < (l0.length : Int)) = true := decide_eq_true c30
     clear c30
     have H' := qa.mk H
     clear H
     try go_wp2
     have n0_ := qa.mk (Kd.zR HO259.out)
     have n1_ := qa.mk (qc BK254.out)
     have n2_ := qa.mk (qc BK256.out)
     have n3_ := qa.mk (qz HB.out)
     clear HO259
     clear BK254
     clear BK256
     clear HB
     have HO259 := n0_
     have BK254 := n1_
     have BK256 := n2_
     have HB := n3_
     clear n0_ n1_ n2_ n3_
     have p268 : 0 ≤ (x7_1 : Int) := odt
     have q268 : x7_1 < (l0.length : Int) := odt
     obtain ⟨ad268, e268, hx268_0, hx268_1, hx268_2⟩ := zH HR0.out x7_1 p268 q268
     have hw268_2 := hx268_2
     have hw268_1 := hx268_1
     have hw268_0 := hx268_0
     cases e268
     replace hx268_0 := (HB.out.cell (World.block_lt_of_cell? w _ hx268_0)).trans hx268_0
     replace hx268_1 := (HB.out.cell (World.block_lt_of_cell? w _ hx268_1)).trans hx268_1
     replace hx268_2 := (HB.out.cell (World.block_lt_of_cell? w _ hx268_2)).trans hx268_2
     replace p268 := eq_true p268
     replace q268 := eq_true q268
     have p269 : 0 ≤ (x7_1 : Int) := odt
     have q269 : x7_1 < (l0.length : Int) := odt
     obtain ⟨ad269, e269, hx269_0, hx269_1, hx269_2⟩ := zH HR0.out x7_1 p269 q269
     have hw269_2 := hx269_2
     have hw269_1 := hx269_1
     have hw269_0 := hx269_0
     obtain rfl : ad268 = ad269 := (by injection e269)
     replace hx269_0 := (HB.out.cell (World.block_lt_of_cell? w _ hx269_0)).trans hx269_0
     replace hx269_1 := (HB.out.cell (World.block_lt_of_cell? w _ hx269_1)).trans hx269_1
     replace hx269_2 := (HB.out.cell (World.block_lt_of_cell? w _ hx269_2)).trans hx269_2
     replace p269 := eq_true p269
     replace q269 := eq_true q269
     refine j6 (n := 12) (S := fun w' => w'.cell? (ad268.add ((x7_1).toNat * 3)) = some (.int .i64 ((qb l0 x7_1).f0)) ∧ w'.cell? ⟨(ad268.add ((x7_1).toNat * 3)).block, (ad268.add ((x7_1).toNat * 3)).off + 1, none⟩ = some (.int .i64 ((qb l0 x7_1).f1)) ∧ w'.cell? ⟨(ad268.add ((x7_1).toNat * 3)).block, (ad268.add ((x7_1).toNat * 3)).off + 2, none⟩ = some (.int .i64 ((qb l0 x7_1).f2)) ∧ w'.cell? (ad268.add ((x7_1).toNat * 3)) = some (.int .i64 ((qb l0 x7_1).f0)) ∧ w'.cell? ⟨(ad268.add ((x7_1).toNat * 3)).block, (ad268.add ((x7_1).toNat * 3)).off + 1, none⟩ = some (.int .i64 ((qb l0 x7_1).f1)) ∧ w'.cell? ⟨(ad268.add ((x7_1).toNat * 3)).block, (ad268.add ((x7_1).toNat * 3)).off + 2, none⟩ = some (.int .i64 ((qb l0 x7_1).f2))) (ds := []) #[false, false, false, false, false, false, false, false, false, false, false, false] (by kernel_rfl) rfl rfl ⟨((HB.out.cell (World.block_lt_of_cell? w _ hw268_0)).trans hw268_0), ((HB.out.cell (World.block_lt_of_cell? w _ hw268_1)).trans hw268_1), ((HB.out.cell (World.block_lt_of_cell? w _ hw268_2)).trans hw268_2), ((HB.out.cell (World.block_lt_of_cell? w _ hw269_0)).trans hw269_0), ((HB.out.cell (World.block_lt_of_cell? w _ hw269_1)).trans hw269_1), ((HB.out.cell (World.block_lt_of_cell? w _ hw269_2)).trans hw269_2)⟩ (fun hHeld => ?_); refine Qv qi.tab15 qi.bits15 (fun HT_ HW_ => ?_)
     generalize w11.drew = w31 at HO259 BK254 BK256 HB hx268_0 hx268_1 hx268_2 hx269_0 hx269_1 hx269_2 hHeld ⊢
     refine qV (i := 0) (N := some 53) (v := ?_) (a' := ?_) #[true, false, false, false, false, false, false, false, false, false, false, false] rfl rfl (zh HT_.out (by kernel_rfl)) (fun _ _ _ h => h) (Or.inl ⟨by rfl, ?_⟩) ?_ ?_
     rotate_left
     ·intro w'
      go_simp
      with_reducible rfl
     rotate_left
     ·simp only [Act.put, List.setIfInBounds_toArray, List.set_cons_zero, List.set_cons_succ, qA, qB]
      rfl
     refine qV (i := 1) (N := some 54) (v := ?_) (a' := ?_) #[true, true, false, false, false, false, false, false, false, false, false, false] rfl rfl (zh HT_.out (by kernel_rfl)) (fun _ _ _ h => h) (Or.inl ⟨by rfl, ?_⟩) ?_ ?_
     rotate_left
     ·intro w'
      go_simp
      with_reducible rfl
     rotate_left
     ·simp only [Act.put, List.setIfInBounds_toArray, List.set_cons_zero, List.set_cons_succ, qA, qB]
      rfl
     refine qV (i := 2) (N := some 55) (v := ?_) (a' := ?_) #[true, true, true, false, false, false, false, false, false, false, false, false] rfl rfl (zh HT_.out (by kernel_rfl)) (fun _ _ _ h => h) (Or.inl ⟨by rfl, ?_⟩) ?_ ?_
     rotate_left
     ·intro w'
      go_simp
      with_reducible rfl
     rotate_left
     ·simp only [Act.put, List.setIfInBounds_toArray, List.set_cons_zero, List.set_cons_succ, qA, qB]
      rfl
     refine qV (i := 3) (N := some 56) (v := ?_) (a' := ?_) #[true, true, true, true, false, false, false, false, false, false, false, false] rfl rfl (zh HT_.out (by kernel_rfl)) (fun _ _ _ h => h) (Or.inl ⟨by rfl, ?_⟩) ?_ ?_
     rotate_left
     ·intro w'
      go_simp
      with_reducible rfl
     rotate_left
     ·simp only [Act.put, List.setIfInBounds_toArray, List.set_cons_zero, List.set_cons_succ, qA, qB]
      rfl
     refine qV (i := 5) (N := some 58) (v := ?_) (a' := ?_) #[true, true, true, true, false, true, false, false, false, false, false, false] rfl rfl (zh HT_.out (by kernel_rfl)) (fun _ _ _ h => h) (Or.inl ⟨by rfl, ?_⟩) ?_ ?_
     rotate_left
     ·intro w'
      go_simp
      with_reducible rfl
     rotate_left
     ·simp only [Act.put, List.setIfInBounds_toArray, List.set_cons_zero, List.set_cons_succ, qA, qB]
      rfl
     refine qV (i := 6) (N := some 59) (v := ?_) (a' := ?_) #[true, true, true, true, false, true, true, false, false, false, false, false] rfl rfl (zh HT_.out (by kernel_rfl)) (fun _ _ _ h => h) (Or.inl ⟨by rfl, ?_⟩) ?_ ?_
     rotate_left
     ·intro w'
      go_simp
      with_reducible rfl
     rotate_left
     ·simp only [Act.put, List.setIfInBounds_toArray, List.set_cons_zero, List.set_cons_succ, qA, qB]
      rfl
     refine qV (i := 7) (N := some 60) (v := ?_) (a' := ?_) #[true, true, true, true, false, true, true, true, false, false, false, false] rfl rfl (zh HT_.out (by kernel_rfl)) (fun _ _ _ h => h) (Or.inl ⟨by rfl, ?_⟩) ?_ ?_
     rotate_left
     ·intro w'
      go_simp
      with_reducible rfl
     rotate_left
     ·simp only [Act.put, List.setIfInBounds_toArray, List.set_cons_zero, List.set_cons_succ, qA, qB]
      rfl
     refine qV (i := 8) (N := some 61) (v := ?_) (a' := ?_) #[true, true, true, true, false, true, true, true, true, false, false, false] rfl rfl (zh HT_.out (by kernel_rfl)) (fun _ _ _ h => h) (Or.inl ⟨by rfl, ?_⟩) ?_ ?_
     rotate_left
     ·intro w'
      go_simp
      with_reducible rfl
     rotate_left
     ·simp only [Act.put, List.setIfInBounds_toArray, List.set_cons_zero, List.set_cons_succ, qA, qB]
      rfl
     refine zB (i := 4) (N := some 57) (v := ?_) (a' := ?_) #[true, true, true, true, true, true, true, true, true, false, false, false] rfl rfl (zP HT_.out HW_.out (by kernel_rfl)) (fun _ _ _ h => h) (Or.inl ⟨by rfl, ?_⟩) hHeld ?_ ?_
     rotate_left
     ·rintro w' ⟨s0, s1, s2, s3, s4, s5⟩
      go_simp
      with_reducible rfl
     rotate_left
     ·simp only [Act.put, List.setIfInBounds_toArray, List.set_cons_zero, List.set_cons_succ, qA, qB]
      rfl
     refine zB (i := 9) (N := some 62) (v := ?_) (a' := ?_) #[true, true, true, true, true, true, true, true, true, true, false, false] rfl rfl (zP HT_.out HW_.out (by kernel_rfl)) (fun _ _ _ h => h) (Or.inl ⟨by rfl, ?_⟩) hHeld ?_ ?_
     rotate_left
     ·rintro w' ⟨s0, s1, s2, s3, s4, s5⟩
      go_simp
      with_reducible rfl
     rotate_left
     ·simp only [Act.put, List.setIfInBounds_toArray, List.set_cons_zero, List.set_cons_succ, qA, qB]
      rfl
     refine qV (i := 10) (N := some 63) (v := ?_) (a' := ?_) #[true, true, true, true, true, true, true, true, true, true, true, false] rfl rfl (zh HT_.out (by kernel_rfl)) (fun _ _ _ h => h) (Or.inl ⟨by rfl, ?_⟩) ?_ ?_
     rotate_left
     ·intro w'
      go_simp
      with_reducible rfl
     rotate_left
     ·simp only [Act.put, List.setIfInBounds_toArray, List.set_cons_zero, List.set_cons_succ, qA, qB]
      rfl
     refine jE (i := 11) (N := none) #[true, true, true, true, true, true, true, true, true, true, true, true] rfl rfl (jT HT_.out (by kernel_rfl)) (by decide) (fun K hK => ?_)
     have hs32 : w31.cell? ⟨gb256, 0, none⟩ = some (.int .i64 0) := (qf BK256.out 0).trans rfl
     have hfs32 := qj BK256.out 0
     have hns32_0 := NB254_256.out
     have hms32_0 := NB256_254.out
     have hs33 : w31.cell? ⟨gb256, 1, none⟩ = some (.int .i64 0) := (qf BK256.out 1).trans rfl
     have hfs33 := qj BK256.out 1
     have hns33_0 := NB254_256.out
     have hms33_0 := NB256_254.out
     refine Zt (w1 := ?_) (by rfl) rfl ?_ ?_
     rotate_left
     ·go_simp
      rfl
     refine hK.out _ _ ⟨((cell_far (p := ⟨gb256, _, none⟩) (by first | exact Nat.ne_of_lt (Nat.lt_of_lt_of_le (by have := World.block_lt_of_cell? _ _ hw268_0; first | rwa [add_block] at this | exact this) GW256.out) | (rw [add_block]; exact Nat.ne_of_lt (Nat.lt_of_lt_of_le (by have := World.block_lt_of_cell? _ _ hw268_0; first | rwa [add_block] at this | exact this) GW256.out)) | (show (Addr.add _ _).block ≠ _; rw [add_block]; exact Nat.ne_of_lt (Nat.lt_of_lt_of_le (by have := World.block_lt_of_cell? _ _ hw268_0; first | rwa [add_block] at this | exact this) GW256.out)) | (dsimp only; exact Nat.ne_of_lt (Nat.lt_of_lt_of_le (by have := World.block_lt_of_cell? _ _ hw268_0; first | rwa [add_block] at this | exact this) GW256.out))) _).trans (((cell_far (p := ⟨gb256, _, none⟩) (by first | exact Nat.ne_of_lt (Nat.lt_of_lt_of_le (by have := World.block_lt_of_cell? _ _ hw268_0; first | rwa [add_block] at this | exact this) GW256.out) | (rw [add_block]; exact Nat.ne_of_lt (Nat.lt_of_lt_of_le (by have := World.block_lt_of_cell? _ _ hw268_0; first | rwa [add_block] at this | exact this) GW256.out)) | (show (Addr.add _ _).block ≠ _; rw [add_block]; exact Nat.ne_of_lt (Nat.lt_of_lt_of_le (by have := World.block_lt_of_cell? _ _ hw268_0; first | rwa [add_block] at this | exact this) GW256.out)) | (dsimp only; exact Nat.ne_of_lt (Nat.lt_of_lt_of_le (by have := World.block_lt_of_cell? _ _ hw268_0; first | rwa [add_block] at this | exact this) GW256.out))) _).trans (hHeld.1)))), ((cell_far (p := ⟨gb256, _, none⟩) (by first | exact Nat.ne_of_lt (Nat.lt_of_lt_of_le (by have := World.block_lt_of_cell? _ _ hw268_1; first | rwa [add_block] at this | exact this) GW256.out) | (rw [add_block]; exact Nat.ne_of_lt (Nat.lt_of_lt_of_le (by have := World.block_lt_of_cell? _ _ hw268_1; first | rwa [add_block] at this | exact this) GW256.out)) | (show (Addr.add _ _).block ≠ _; rw [add_block]; exact Nat.ne_of_lt (Nat.lt_of_lt_of_le (by have := World.block_lt_of_cell? _ _ hw268_1; first | rwa [add_block] at this | exact this) GW256.out)) | (dsimp only; exact Nat.ne_of_lt (Nat.lt_of_lt_of_le (by have := World.block_lt_of_cell? _ _ hw268_1; first | rwa [add_block] at this | exact this) GW256.out))) _).trans (((cell_far (p := ⟨gb256, _, none⟩) (by first | exact Nat.ne_of_lt (Nat.lt_of_lt_of_le (by have := World.block_lt_of_cell? _ _ hw268_1; first | rwa [add_block] at this | exact this) GW256.out) | (rw [add_block]; exact Nat.ne_of_lt (Nat.lt_of_lt_of_le (by have := World.block_lt_of_cell? _ _ hw268_1; first | rwa [add_block] at this | exact this) GW256.out)) | (show (Addr.add _ _).block ≠ _; rw [add_block]; exact Nat.ne_of_lt (Nat.lt_of_lt_of_le (by have := World.block_lt_of_cell? _ _ hw268_1; first | rwa [add_block] at this | exact this) GW256.out)) | (dsimp only; exact Nat.ne_of_lt (Nat.lt_of_lt_of_le (by have := World.block_lt_of_cell? _ _ hw268_1; first | rwa [add_block] at this | exact this) GW256.out))) _).trans (hHeld.2.1)))), ((cell_far (p := ⟨gb256, _, none⟩) (by first | exact Nat.ne_of_lt (Nat.lt_of_lt_of_le (by have := World.block_lt_of_cell? _ _ hw268_2; first | rwa [add_block] at this | exact this) GW256.out) | (rw [add_block]; exact Nat.ne_of_lt (Nat.lt_of_lt_of_le (by have := World.block_lt_of_cell? _ _ hw268_2; first | rwa [add_block] at this | exact this) GW256.out)) | (show (Addr.add _ _).block ≠ _; rw [add_block]; exact Nat.ne_of_lt (Nat.lt_of_lt_of_le (by have := World.block_lt_of_cell? _ _ hw268_2; first | rwa [add_block] at this | exact this) GW256.out)) | (dsimp only; exact Nat.ne_of_lt (Nat.lt_of_lt_of_le (by have := World.block_lt_of_cell? _ _ hw268_2; first | rwa [add_block] at this | exact this) GW256.out))) _).trans (((cell_far (p := ⟨gb256, _, none⟩) (by first | exact Nat.ne_of_lt (Nat.lt_of_lt_of_le (by have := World.block_lt_of_cell? _ _ hw268_2; first | rwa [add_block] at this | exact this) GW256.out) | (rw [add_block]; exact Nat.ne_of_lt (Nat.lt_of_lt_of_le (by have := World.block_lt_of_cell? _ _ hw268_2; first | rwa [add_block] at this | exact this) GW256.out)) | (show (Addr.add _ _).block ≠ _; rw [add_block]; exact Nat.ne_of_lt (Nat.lt_of_lt_of_le (by have := World.block_lt_of_cell? _ _ hw268_2; first | rwa [add_block] at this | exact this) GW256.out)) | (dsimp only; exact Nat.ne_of_lt (Nat.lt_of_lt_of_le (by have := World.block_lt_of_cell? _ _ hw268_2; first | rwa [add_block] at this | exact this) GW256.out))) _).trans (hHeld.2.2.1)))), ((cell_far (p := ⟨gb256, _, none⟩) (by first | exact Nat.ne_of_lt (Nat.lt_of_lt_of_le (by have := World.block_lt_of_cell? _ _ hw269_0; first | rwa [add_block] at this | exact this) GW256.out) | (rw [add_block]; exact Nat.ne_of_lt (Nat.lt_of_lt_of_le (by have := World.block_lt_of_cell? _ _ hw269_0; first | rwa [add_block] at this | exact this) GW256.out)) | (show (Addr.add _ _).block ≠ _; rw [add_block]; exact Nat.ne_of_lt (Nat.lt_of_lt_of_le (by have := World.block_lt_of_cell? _ _ hw269_0; first | rwa [add_block] at this | exact this) GW256.out)) | (dsimp only; exact Nat.ne_of_lt (Nat.lt_of_lt_of_le (by have := World.block_lt_of_cell? _ _ hw269_0; first | rwa [add_block] at this | exact this) GW256.out))) _).trans (((cell_far (p := ⟨gb256, _, none⟩) (by first | exact Nat.ne_of_lt (Nat.lt_of_lt_of_le (by have := World.block_lt_of_cell? _ _ hw269_0; first | rwa [add_block] at this | exact this) GW256.out) | (rw [add_block]; exact Nat.ne_of_lt (Nat.lt_of_lt_of_le (by have := World.block_lt_of_cell? _ _ hw269_0; first | rwa [add_block] at this | exact this) GW256.out)) | (show (Addr.add _ _).block ≠ _; rw [add_block]; exact Nat.ne_of_lt (Nat.lt_of_lt_of_le (by have := World.block_lt_of_cell? _ _ hw269_0; first | rwa [add_block] at this | exact this) GW256.out)) | (dsimp only; exact Nat.ne_of_lt (Nat.lt_of_lt_of_le (by have := World.block_lt_of_cell? _ _ hw269_0; first | rwa [add_block] at this | exact this) GW256.out))) _).trans (hHeld.2.2.2.1)))), ((cell_far (p := ⟨gb256, _, none⟩) (by first | exact Nat.ne_of_lt (Nat.lt_of_lt_of_le (by have := World.block_lt_of_cell? _ _ hw269_1; first | rwa [add_block] at this | exact this) GW256.out) | (rw [add_block]; exact Nat.ne_of_lt (Nat.lt_of_lt_of_le (by have := World.block_lt_of_cell? _ _ hw269_1; first | rwa [add_block] at this | exact this) GW256.out)) | (show (Addr.add _ _).block ≠ _; rw [add_block]; exact Nat.ne_of_lt (Nat.lt_of_lt_of_le (by have := World.block_lt_of_cell? _ _ hw269_1; first | rwa [add_block] at this | exact this) GW256.out)) | (dsimp only; exact Nat.ne_of_lt (Nat.lt_of_lt_of_le (by have := World.block_lt_of_cell? _ _ hw269_1; first | rwa [add_block] at this | exact this) GW256.out))) _).trans (((cell_far (p := ⟨gb256, _, none⟩) (by first | exact Nat.ne_of_lt (Nat.lt_of_lt_of_le (by have := World.block_lt_of_cell? _ _ hw269_1; first | rwa [add_block] at this | exact this) GW256.out) | (rw [add_block]; exact Nat.ne_of_lt (Nat.lt_of_lt_of_le (by have := World.block_lt_of_cell? _ _ hw269_1; first | rwa [add_block] at this | exact this) GW256.out)) | (show (Addr.add _ _).block ≠ _; rw [add_block]; exact Nat.ne_of_lt (Nat.lt_of_lt_of_le (by have := World.block_lt_of_cell? _ _ hw269_1; first | rwa [add_block] at this | exact this) GW256.out)) | (dsimp only; exact Nat.ne_of_lt (Nat.lt_of_lt_of_le (by have := World.block_lt_of_cell? _ _ hw269_1; first | rwa [add_block] at this | exact this) GW256.out))) _).trans (hHeld.2.2.2.2.1)))), ((cell_far (p := ⟨gb256, _, none⟩) (by first | exact Nat.ne_of_lt (Nat.lt_of_lt_of_le (by have := World.block_lt_of_cell? _ _ hw269_2; first | rwa [add_block] at this | exact this) GW256.out) | (rw [add_block]; exact Nat.ne_of_lt (Nat.lt_of_lt_of_le (by have := World.block_lt_of_cell? _ _ hw269_2; first | rwa [add_block] at this | exact this) GW256.out)) | (show (Addr.add _ _).block ≠ _; rw [add_block]; exact Nat.ne_of_lt (Nat.lt_of_lt_of_le (by have := World.block_lt_of_cell? _ _ hw269_2; first | rwa [add_block] at this | exact this) GW256.out)) | (dsimp only; exact Nat.ne_of_lt (Nat.lt_of_lt_of_le (by have := World.block_lt_of_cell? _ _ hw269_2; first | rwa [add_block] at this | exact this) GW256.out))) _).trans (((cell_far (p := ⟨gb256, _, none⟩) (by first | exact Nat.ne_of_lt (Nat.lt_of_lt_of_le (by have := World.block_lt_of_cell? _ _ hw269_2; first | rwa [add_block] at this | exact this) GW256.out) | (rw [add_block]; exact Nat.ne_of_lt (Nat.lt_of_lt_of_le (by have := World.block_lt_of_cell? _ _ hw269_2; first | rwa [add_block] at this | exact this) GW256.out)) | (show (Addr.add _ _).block ≠ _; rw [add_block]; exact Nat.ne_of_lt (Nat.lt_of_lt_of_le (by have := World.block_lt_of_cell? _ _ hw269_2; first | rwa [add_block] at this | exact this) GW256.out)) | (dsimp only; exact Nat.ne_of_lt (Nat.lt_of_lt_of_le (by have := World.block_lt_of_cell? _ _ hw269_2; first | rwa [add_block] at this | exact this) GW256.out))) _).trans (hHeld.2.2.2.2.2))))⟩ (fun hHeld => ?_)
     clear hK K
     refine Qk (QV HT_.out (by kernel_rfl)) ?_
     try go_wp2
     go_loopg [10, 11] k1 (fun kq v10 v11 w' => ∃ (x10_2 : List (S40)) (x11_2 : Int), v11 = .int .i64 x11_2 ∧ qa (qi.l1 kq l0 (l0.length : Int) x7_1 x10_2 x11_2 ((qb l0 x7_1).f0) ((qb l0 x7_1).f1) = some (r1, r2, r3, r4, r5)) ∧ qa (kq ≤ k1) ∧ qa (Kd.Q k40 40 w' w.heap.size (fun _ => True) v10 x10_2) ∧ qa (w'.heap[gb254]? = some (.cells #[.int .i64 0, .int .i64 0] 35 (0, 0))) ∧ qa (w'.heap[gb256]? = some (.cells #[.int .i64 ((qb l0 x7_1).f0), .int .i64 ((qb l0 x7_1).f1)] 35 (0, 0))) ∧ qa (Below w.heap.size w w'))
     case atStart => exact ⟨(y257), (1), (by first | rfl | (simp; done) | (simp [*]; done)), H', ⟨Nat.le_refl _⟩, ⟨Kd.Q_of_R (by (with_reducible repeat (first | apply Kd.zX | apply Kd.z8 | apply Kd.zR)); exact Kd.zq (Kd.jh (p := ⟨gb256, 1, none⟩) (Kd.jh (p := ⟨gb256, 0, none⟩) (Kd.jR HO259.out BK256.out (by decide)) (fun _ hk => hk.2) (.int .i64 ((qb l0 x7_1).f0))) (fun _ hk => hk.2) (.int .i64 ((qb l0 x7_1).f1))) (fun _ hk => trivial))⟩, ⟨by (with_reducible repeat (first | refine qh ?_ _ | refine qc ?_ | refine qd ?_ _)); refine qJ ?_ NB254_256.out _; refine qJ ?_ NB254_256.out _; exact kq BK254⟩, ⟨by (with_reducible repeat (first | refine qh ?_ _ | refine qc ?_ | refine qd ?_ _)); refine zb (cs := #[.int .i64 ((qb l0 x7_1).f0), .int .i64 0]) ?_ 1 _ rfl; refine zb (cs := #[.int .i64 0, .int .i64 0]) ?_ 0 _ rfl; exact kq BK256⟩, ⟨by repeat (first | (with_reducible first | exact HB.out | apply qp | apply qo | apply qz | refine qg ?_ GE254.out | refine qg ?_ GE256.out) | exact HB.out)⟩⟩
     case round =>
      clear H'
      try clear c1
      try clear c2
      try clear p2
      try clear q2
      try clear hx2
      try clear qi2
      try clear c3
      try clear c3b0
      try clear c4
      try clear c4b0
      try clear c5
      try clear c5b0
      try clear c6
      try clear c6b0
      try clear c6b1
      try clear p6
      try clear c9
      try clear c13
      try clear c13b0
      try clear c14
      try clear c14b0
      try clear c14b1
      try clear c15
      try clear c15b0
      try clear c15b1
      try clear c16
      try clear c20
      try clear c20b0
      try clear c21
      try clear c21b0
      try clear c23
      try clear p25
      try clear q25
      try clear hx25
      try clear c26
      try clear p26
      try clear q26
      try clear hx26
      try clear qi26
      try clear c29
      try clear c29b0
      try clear c30
      try clear c30b0
      try clear hcz10_0
      try clear hcz10_1
      try clear hcz17_0
      try clear hcz17_1
      try clear hcz18_0
      try clear hcz18_1
      try clear hfz10_0
      try clear hfz10_1
      try clear hfz17_0
      try clear hfz17_1
      try clear hfz18_0
      try clear hfz18_1
      try clear hx255_0
      try clear hx255_1
      try clear hx255_2
      try clear hx260_0
      try clear hx260_1
      try clear hx260_2
      try clear hx261_0
      try clear hx261_1
      try clear hx261_2
      try clear hx262_0
      try clear hx262_1
      try clear hx262_2
      try clear hx268_0
      try clear hx268_1
      try clear hx268_2
      try clear hx269_0
      try clear hx269_1
      try clear hx269_2
      try clear p2
      try clear p255
      try clear p260
      try clear p261
      try clear p262
      try clear p268
      try clear p269
      try clear q255
      try clear q260
      try clear q261
      try clear q262
      try clear q268
      try clear q269
      obtain ⟨x10_2, x11_2, rfl, HA, HK2, HO_10, BK254, BK256, HB⟩ := hrel
      cases gk with
      | zero => exact absurd HA.out (by simp [qi.l1])
      | succ k2 =>
       have H := HA.out
       clear HA
       simp only [qi.l1] at H
       by_cases c34 : x11_2 < (l0.length : Int)
       case neg =>
        rw [if_neg c34] at H
        have c34b0 : decide (x11_2 < (l0.length : Int)) = false := decide_eq_false c34
        clear c34
        have H' := qa.mk H
        clear H
        go_wp2
        go_meet
        case rel => exact ⟨_, (x10_2), (0), (0), (((qb l0 x7_1).f0)), (((qb l0 x7_1).f1)), H', ⟨by have := HK1.out; have := HK2.out; first | omega | exact Nat.le_refl _⟩, ⟨by (with_reducible repeat (first | apply Kd.jq | apply Kd.jr | apply Kd.jy)); exact HO_10.out⟩, ⟨kq BK254⟩, ⟨kq BK256⟩, ⟨by repeat (first | (with_reducible first | exact HB.out | apply qp | apply qo | apply qz | refine qg ?_ GE254.out | refine qg ?_ GE256.out) | exact HB.out)⟩⟩
       rw [if_pos c34] at H
       have c34b0 : decide (x11_2 < (l0.length : Int)) = true := decide_eq_true c34
       clear c34
       by_cases c35 : (l0.length : Int) = 0
       ·rw [if_pos c35] at H
        exact absurd H (by simp)
       rw [if_neg c35] at H
       have c35b0 : ((l0.length : Int) == 0) = false := beq_eq_false_iff_ne.mpr c35
       have c35b1 : ((l0.length : Int) != 0) = true := bne_iff_ne.mpr c35
       have c35b2 : ¬ (l0 = []) := fun h_ => c35 (by rw [h_]; rfl)
       obtain ⟨ji36, hji36⟩ : ∃ j_ : Int, (Int.tmod (wrap64 (x7_1 + x11_2)) (l0.length : Int)) = j_ := ⟨_, rfl⟩
       replace H : (if 0 ≤ (ji36) then (if (ji36) < (l0.length : Int) then (if x10_2.length < 5864062014805 then (qi.l1 k2 l0 (l0.length : Int) x7_1 (x10_2 ++ [(⟨(qb l0 (ji36)).f0, (qb l0 (ji36)).f1, (qb l0 (ji36)).f2⟩ : S40)]) (wrap64 (x11_2 + 1)) ((qb l0 x7_1).f0) ((qb l0 x7_1).f1)) else (none)) else (none)) else (none)) = some (r1, r2, r3, r4, r5) := by first | (rw [hji36] at H; exact H) | (simp only [hji36] at H ⊢; exact H)
       by_cases c37 : 0 ≤ (ji36)
       case neg =>
        rw [if_neg c37] at H
        exact absurd H (by simp)
       rw [if_pos c37] at H
       have c37b0 : decide (0 ≤ (ji36)) = true := decide_eq_true c37
       clear c37
       by_cases c38 : (ji36) < (l0.length : Int)
       case neg =>
        rw [if_neg c38] at H
        exact absurd H (by simp)
       rw [if_pos c38] at H
       have c38b0 : decide ((ji36) < (l0.length : Int)) = true := decide_eq_true c38
       clear c38
       by_cases c39 : x10_2.length < 5864062014805
       case neg =>
        rw [if_neg c39] at H
        exact absurd H (by simp)
       rw [if_pos c39] at H
       have LMc39 := qa.mk c39
       clear c39
       obtain ⟨y271, hy271⟩ : ∃ y_ : List (S40), y_ = (x10_2 ++ [(⟨(qb l0 (ji36)).f0, (qb l0 (ji36)).f1, (qb l0 (ji36)).f2⟩ : S40)]) := ⟨_, rfl⟩
       replace H : (qi.l1 k2 l0 (l0.length : Int) x7_1 y271 (wrap64 (x11_2 + 1)) ((qb l0 x7_1).f0) ((qb l0 x7_1).f1)) = some (r1, r2, r3, r4, r5) := by first | (rw [hy271]; with_reducible exact H) | (have H2_ := (Option.bind_some _ _).symm.trans H; rw [hy271]; with_reducible exact H2_) | (have H2_ := (Option.bind_some _ _).symm.trans H; with_reducible exact H2_) | with_reducible exact H | (rw [hy271]; exact H) | exact H
       have Ny271 := qa.mk hy271
       clear hy271
       have H' := qa.mk H
       clear H
       have p270 : 0 ≤ ((ji36) : Int) := odt
       have q270 : (ji36) < (l0.length : Int) := odt
       obtain ⟨ad270, e270, hx270_0, hx270_1, hx270_2⟩ := zH HR0.out (ji36) p270 q270
       obtain rfl : ad268 = ad270 := (by injection e270)
       replace hx270_0 := (HB.out.cell (World.block_lt_of_cell? w _ hx270_0)).trans hx270_0
       replace hx270_1 := (HB.out.cell (World.block_lt_of_cell? w _ hx270_1)).trans hx270_1
       replace hx270_2 := (HB.out.cell (World.block_lt_of_cell? w _ hx270_2)).trans hx270_2
       replace p270 := eq_true p270
       replace q270 := eq_true q270
       go_wp2_with (first | ((with_reducible refine jw (b := .append) (xs := #[.tmp 69, .tmp 78]) rfl ?_); at_builtin; refine Kd.Q_append k40 (w0 := w) w.heap.size rfl (.tmp 69) (.tmp 78) 37 40 (.agg #[(.int .i64 0), (.int .i64 0), (.int .i64 0)]) 24 rfl Try.underlying37 Zh rfl (by decide) (by omega) u10 x10_2 (⟨(qb l0 (ji36)).f0, (qb l0 (ji36)).f1, (qb l0 (ji36)).f2⟩ : S40) [.int .i64 ((qb l0 (ji36)).f0), .int .i64 ((qb l0 (ji36)).f1), .int .i64 ((qb l0 (ji36)).f2)] (fun _ => True) (fun _ => False) rfl rfl ?aP (fun _ hk => hk.elim) ?aF ?aO ?aB ?aS ?aL ?_; (case aP => exact ZQ _ _ _ (⟨(qb l0 (ji36)).f0, (qb l0 (ji36)).f1, (qb l0 (ji36)).f2⟩ : S40)); (case aB => exact (by repeat (first | (with_reducible first | exact HB.out | apply qp | apply qo | apply qz | refine qg ?_ GE254.out | refine qg ?_ GE256.out) | exact HB.out))); (case aF => exact (fun _ _ => trivial)); (case aO => exact (by (with_reducible repeat (first | apply Kd.jq | apply Kd.jr | apply Kd.jy)); exact HO_10.out)); (case aS => exact (qy (by repeat (first | (with_reducible first | exact HB.out | apply qp | apply qo | apply qz | refine qg ?_ GE254.out | refine qg ?_ GE256.out) | exact HB.out)))); (case aL => have := LMc39.out; omega); intro v272 w40 ho hb hg hat; rw [← Ny271.out] at ho; have n0_ := qa.mk (zy (g := gb254) (o := .cells #[.int .i64 0, .int .i64 0] 35 (0, 0)) (kq BK254) hg (Kd.JG HO_10.out BK254.out (by decide))); have n1_ := qa.mk (zy (g := gb256) (o := .cells #[.int .i64 ((qb l0 x7_1).f0), .int .i64 ((qb l0 x7_1).f1)] 35 (0, 0)) (kq BK256) hg (Kd.JG HO_10.out BK256.out (by decide))); have n2_ := qa.mk (hb); have n3_ := qa.mk (ho); clear BK254; clear BK256; clear HB; clear HO_10; have BK254 := n0_; have BK256 := n1_; have HB := n2_; have HO273 := n3_; clear n0_ n1_ n2_ n3_; clear ho hb hg hat))
       go_roundg k2
       case measure => have := HK1.out; have := HK2.out; omega
       case rel => exact ⟨(y271), (wrap64 (x11_2 + 1)), (by first | rfl | (simp; done) | (simp [*]; done)), H', ⟨by have := HK1.out; have := HK2.out; omega⟩, ⟨by (with_reducible repeat (first | apply Kd.jq | apply Kd.jr | apply Kd.jy)); exact HO273.out⟩, ⟨kq BK254⟩, ⟨kq BK256⟩, ⟨by repeat (first | (with_reducible first | exact HB.out | apply qp | apply qo | apply qz | refine qg ?_ GE254.out | refine qg ?_ GE256.out) | exact HB.out)⟩⟩
    rw [if_pos c13] at H
    have c13b0 : decide (x7_1 < 0) = true := decide_eq_true c13
    clear c13
    (first | rw [c13b0] | (simp only [qA, qB]; rw [c13b0]) | skip)
    by_cases c14 : 0 < (l0.length : Int)
    case neg =>
     rw [if_neg c14] at H
     exact absurd H (by simp)
    rw [if_pos c14] at H
    have c14b0 : decide (0 < (l0.length : Int)) = true := decide_eq_true c14
    have c14b1 : decide (0 < l0.length) = true := decide_eq_true (by omega)
    clear c14
    by_cases c15 : ((qb l0 0).f2) = 3
    ·rw [if_pos c15] at H
     have c15b0 : (((qb l0 0).f2) == 3) = true := beq_iff_eq.mpr c15
     have c15b1 : (((qb l0 0).f2) != 3) = false := bne_eq_false_iff_eq.mpr c15
     clear c15
     simp only [Option.some.injEq, Prod.mk.injEq] at H
     obtain ⟨rfl, rfl, rfl, rfl, rfl⟩ := H
     have p260 : 0 ≤ (0 : Int) := (by omega)
     have q260 : 0 < (l0.length : Int) := odt
     obtain ⟨ad260, e260, hx260_0, hx260_1, hx260_2⟩ := zH HR0.out 0 p260 q260
     cases e260
     have qi260 : (0 < l0.length) = True := eq_true (by omega)
     (try rw [show ((0 : Int)).toNat = 0 from rfl] at hx260_0)
     (try rw [show 0 * 3 = 0 from rfl] at hx260_0)
     (try rw [Addr.add_zero'] at hx260_0)
     (try rw [show ((0 : Int)).toNat = 0 from rfl] at hx260_1)
     (try rw [show 0 * 3 = 0 from rfl] at hx260_1)
     (try rw [Addr.add_zero'] at hx260_1)
     (try rw [show ((0 : Int)).toNat = 0 from rfl] at hx260_2)
     (try rw [show 0 * 3 = 0 from rfl] at hx260_2)
     (try rw [Addr.add_zero'] at hx260_2)
     replace hx260_0 := (HB.out.cell (World.block_lt_of_cell? w _ hx260_0)).trans hx260_0
     replace hx260_1 := (HB.out.cell (World.block_lt_of_cell? w _ hx260_1)).trans hx260_1
     replace hx260_2 := (HB.out.cell (World.block_lt_of_cell? w _ hx260_2)).trans hx260_2
     replace p260 := eq_true p260
     replace q260 := eq_true q260
     have hnb16 := NB256_254.out
     have hnc16 := NB254_256.out
     have hcz17_0 : w11.cell? ⟨gb256, 0, none⟩ = some (.int .i64 0) := (qf BK256.out 0).trans rfl
     have hcz17_1 : w11.cell? ⟨gb256, 1, none⟩ = some (.int .i64 0) := (qf BK256.out 1).trans rfl
     have hfz17_0 := qj BK256.out 0
     have hfz17_1 := qj BK256.out 1
     have hcz18_0 : w11.cell? ⟨gb254, 0, none⟩ = some (.int .i64 0) := (qf BK254.out 0).trans rfl
     have hcz18_1 : w11.cell? ⟨gb254, 1, none⟩ = some (.int .i64 0) := (qf BK254.out 1).trans rfl
     have hfz18_0 := qj BK254.out 0
     have hfz18_1 := qj BK254.out 1
     go_wp2
     refine bodyPost_ret (QD (rs := [.cell 2 35, .tmp 3, .tmp 4, .tmp 5]) rfl (by simp) (.cell gb254 35 #[.int .i64 0, .int .i64 0] (0, 0) _ rfl (by (with_reducible repeat (first | refine qh ?_ _ | refine qc ?_ | refine qd ?_ _)); refine zb (cs := #[.int .i64 0, .int .i64 0]) ?_ 1 _ rfl; refine zb (cs := #[.int .i64 0, .int .i64 0]) ?_ 0 _ rfl; exact kq BK254) Try.underlying35 rfl (by kernel_rfl) (.tmp (.tmp (.tmp .nil))))) rfl ?_
     exact ⟨_, by first | rfl | (simp [qR, qU] <;> rfl) | (simp [*, qR, qU] <;> rfl), by first | exact Kd.Jf _ _ _ _ _ | exact Kd.Jj _ _ _ _ _ | exact Kd.Jh _ _ _ _ _ | exact Kd.Jk _ _ _ _ _ | exact Kd.Ql _ _ _ _ _, by repeat (first | (with_reducible first | exact HB.out | apply qp | apply qo | apply qz | refine qg ?_ GE254.out | refine qg ?_ GE256.out) | exact HB.out)⟩
    rw [if_neg c15] at H
    have c15b0 : (((qb l0 0).f2) == 3) = false := beq_eq_false_iff_ne.mpr c15
    have c15b1 : (((qb l0 0).f2) != 3) = true := bne_iff_ne.mpr c15
    obtain ⟨ji19, hji19⟩ : ∃ j_ : Int, (wrap64 ((l0.length : Int) - 1)) = j_ := ⟨_, rfl⟩
    replace H : (if 0 ≤ (ji19) then (if (ji19) < (l0.length : Int) then ((ze.f k1 ((qb l0 (ji19)).f0) ((qb l0 (ji19)).f1) ((qb l0 (ji19)).f2) ((qb l0 0).f0) ((qb l0 0).f1) ((qb l0 0).f2)).bind fun bt263 => (if y257.length + l0.length < 5864062014805 then (qi.j2 k1 (y257 ++ l0) bt263.1 bt263.2) else (none))) else (none)) else (none)) = some (r1, r2, r3, r4, r5) := by first | (rw [hji19] at H; exact H) | (simp only [hji19] at H ⊢; exact H)
    have hji19w : (IntKind.i64.wrap ((l0.length : Int) - 1)) = ji19 := (qA _).trans hji19
    by_cases c20 : 0 ≤ (ji19)
    case neg =>
     rw [if_neg c20] at H
     exact absurd H (by simp)
    rw [if_pos c20] at H
    have c20b0 : decide (0 ≤ (ji19)) = true := decide_eq_true c20
    clear c20
    by_cases c21 : (ji19) < (l0.length : Int)
    case neg =>
     rw [if_neg c21] at H
     exact absurd H (by simp)
    rw [if_pos c21] at H
    have c21b0 : decide ((ji19) < (l0.length : Int)) = true := decide_eq_true c21
    clear c21
    replace H := Option.bind_eq_some_iff.mp H
    obtain ⟨⟨t263, t264⟩, A220, H⟩ := H
    replace H : (if y257.length + l0.length < 5864062014805 then (qi.j2 k1 (y257 ++ l0) t263 t264) else (none)) = some (r1, r2, r3, r4, r5) := H
    have A22 := qa.mk A220
    clear A220
    by_cases c23 : y257.length + l0.length < 5864062014805
    case neg =>
     rw [if_neg c23] at H
     exact absurd H (by simp)
    rw [if_pos c23] at H
    have LMc23 := qa.mk c23
    clear c23
    obtain ⟨y265, hy265⟩ : ∃ y_ : List (S40), y_ = (y257 ++ l0) := ⟨_, rfl⟩
    replace H : (qi.j2 k1 y265 t263 t264) = some (r1, r2, r3, r4, r5) := by first | (rw [hy265]; with_reducible exact H) | (have H2_ := (Option.bind_some _ _).symm.trans H; rw [hy265]; with_reducible exact H2_) | (have H2_ := (Option.bind_some _ _).symm.trans H; with_reducible exact H2_) | with_reducible exact H | (rw [hy265]; exact H) | exact H
    have Ny265 := qa.mk hy265
    clear hy265
    have H' := qa.mk H
    clear H
    have p260 : 0 ≤ (0 : Int) := (by omega)
    have q260 : 0 < (l0.length : Int) := odt
    obtain ⟨ad260, e260, hx260_0, hx260_1, hx260_2⟩ := zH HR0.out 0 p260 q260
    cases e260
    have qi260 : (0 < l0.length) = True := eq_true (by omega)
    (try rw [show ((0 : Int)).toNat = 0 from rfl] at hx260_0)
    (try rw [show 0 * 3 = 0 from rfl] at hx260_0)
    (try rw [Addr.add_zero'] at hx260_0)
    (try rw [show ((0 : Int)).toNat = 0 from rfl] at hx260_1)
    (try rw [show 0 * 3 = 0 from rfl] at hx260_1)
    (try rw [Addr.add_zero'] at hx260_1)
    (try rw [show ((0 : Int)).toNat = 0 from rfl] at hx260_2)
    (try rw [show 0 * 3 = 0 from rfl] at hx260_2)
    (try rw [Addr.add_zero'] at hx260_2)
    replace hx260_0 := (HB.out.cell (World.block_lt_of_cell? w _ hx260_0)).trans hx260_0
    replace hx260_1 := (HB.out.cell (World.block_lt_of_cell? w _ hx260_1)).trans hx260_1
    replace hx260_2 := (HB.out.cell (World.block_lt_of_cell? w _ hx260_2)).trans hx260_2
    replace p260 := eq_true p260
    replace q260 := eq_true q260
    try go_wp2
    have n0_ := qa.mk (Kd.zR HO259.out)
    have n1_ := qa.mk (qc BK254.out)
    have n2_ := qa.mk (qc BK256.out)
    have n3_ := qa.mk (qz HB.out)
    clear HO259
    clear BK254
    clear BK256
    clear HB
    have HO259 := n0_
    have BK254 := n1_
    have BK256 := n2_
    have HB := n3_
    clear n0_ n1_ n2_ n3_
    have p261 : 0 ≤ ((ji19) : Int) := odt
    have q261 : (ji19) < (l0.length : Int) := odt
    obtain ⟨ad261, e261, hx261_0, hx261_1, hx261_2⟩ := zH HR0.out (ji19) p261 q261
    have hw261_2 := hx261_2
    have hw261_1 := hx261_1
    have hw261_0 := hx261_0
    obtain rfl : ad260 = ad261 := (by injection e261)
    replace hx261_0 := (HB.out.cell (World.block_lt_of_cell? w _ hx261_0)).trans hx261_0
    replace hx261_1 := (HB.out.cell (World.block_lt_of_cell? w _ hx261_1)).trans hx261_1
    replace hx261_2 := (HB.out.cell (World.block_lt_of_cell? w _ hx261_2)).trans hx261_2
    replace p261 := eq_true p261
    replace q261 := eq_true q261
    have p262 : 0 ≤ (0 : Int) := (by omega)
    have q262 : 0 < (l0.length : Int) := odt
    obtain ⟨ad262, e262, hx262_0, hx262_1, hx262_2⟩ := zH HR0.out 0 p262 q262
    have hw262_2 := hx262_2
    (try rw [show ((0 : Int)).toNat = 0 from rfl] at hw262_2)
    (try rw [show 0 * 3 = 0 from rfl] at hw262_2)
    (try rw [Addr.add_zero'] at hw262_2)
    have hw262_1 := hx262_1
    (try rw [show ((0 : Int)).toNat = 0 from rfl] at hw262_1)
    (try rw [show 0 * 3 = 0 from rfl] at hw262_1)
    (try rw [Addr.add_zero'] at hw262_1)
    have hw262_0 := hx262_0
    (try rw [show ((0 : Int)).toNat = 0 from rfl] at hw262_0)
    (try rw [show 0 * 3 = 0 from rfl] at hw262_0)
    (try rw [Addr.add_zero'] at hw262_0)
    obtain rfl : ad260 = ad262 := (by injection e262)
    have qi262 : (0 < l0.length) = True := eq_true (by omega)
    (try rw [show ((0 : Int)).toNat = 0 from rfl] at hx262_0)
    (try rw [show 0 * 3 = 0 from rfl] at hx262_0)
    (try rw [Addr.add_zero'] at hx262_0)
    (try rw [show ((0 : Int)).toNat = 0 from rfl] at hx262_1)
    (try rw [show 0 * 3 = 0 from rfl] at hx262_1)
    (try rw [Addr.add_zero'] at hx262_1)
    (try rw [show ((0 : Int)).toNat = 0 from rfl] at hx262_2)
    (try rw [show 0 * 3 = 0 from rfl] at hx262_2)
    (try rw [Addr.add_zero'] at hx262_2)
    replace hx262_0 := (HB.out.cell (World.block_lt_of_cell? w _ hx262_0)).trans hx262_0
    replace hx262_1 := (HB.out.cell (World.block_lt_of_cell? w _ hx262_1)).trans hx262_1
    replace hx262_2 := (HB.out.cell (World.block_lt_of_cell? w _ hx262_2)).trans hx262_2
    replace p262 := eq_true p262
    replace q262 := eq_true q262
    refine j6 (n := 10) (S := fun w' => w'.cell? (ad260.add (((ji19)).toNat * 3)) = some (.int .i64 ((qb l0 (ji19)).f0)) ∧ w'.cell? ⟨(ad260.add (((ji19)).toNat * 3)).block, (ad260.add (((ji19)).toNat * 3)).off + 1, none⟩ = some (.int .i64 ((qb l0 (ji19)).f1)) ∧ w'.cell? ⟨(ad260.add (((ji19)).toNat * 3)).block, (ad260.add (((ji19)).toNat * 3)).off + 2, none⟩ = some (.int .i64 ((qb l0 (ji19)).f2)) ∧ w'.cell? ad260 = some (.int .i64 ((qb l0 0).f0)) ∧ w'.cell? ⟨ad260.block, ad260.off + 1, none⟩ = some (.int .i64 ((qb l0 0).f1)) ∧ w'.cell? ⟨ad260.block, ad260.off + 2, none⟩ = some (.int .i64 ((qb l0 0).f2))) (ds := []) #[false, false, false, false, false, false, false, false, false, false] (by kernel_rfl) rfl rfl ⟨((HB.out.cell (World.block_lt_of_cell? w _ hw261_0)).trans hw261_0), ((HB.out.cell (World.block_lt_of_cell? w _ hw261_1)).trans hw261_1), ((HB.out.cell (World.block_lt_of_cell? w _ hw261_2)).trans hw261_2), ((HB.out.cell (World.block_lt_of_cell? w _ hw262_0)).trans hw262_0), ((HB.out.cell (World.block_lt_of_cell? w _ hw262_1)).trans hw262_1), ((HB.out.cell (World.block_lt_of_cell? w _ hw262_2)).trans hw262_2)⟩ (fun hHeld => ?_); refine Qv qi.tab13 qi.bits13 (fun HT_ HW_ => ?_)
    generalize w11.drew = w24 at HO259 BK254 BK256 HB hx261_0 hx261_1 hx261_2 hx262_0 hx262_1 hx262_2 hHeld ⊢
    refine qV (i := 0) (N := some 41) (v := ?_) (a' := ?_) #[true, false, false, false, false, false, false, false, false, false] rfl rfl (zh HT_.out (by kernel_rfl)) (fun _ _ _ h => h) (Or.inl ⟨by rfl, ?_⟩) ?_ ?_
    rotate_left
    ·intro w'
     go_simp
     with_reducible rfl
    rotate_left
    ·simp only [Act.put, List.setIfInBounds_toArray, List.set_cons_zero, List.set_cons_succ, qA, qB]
     rfl
    refine qV (i := 1) (N := some 42) (v := ?_) (a' := ?_) #[true, true, false, false, false, false, false, false, false, false] rfl rfl (zh HT_.out (by kernel_rfl)) (fun _ _ _ h => h) (Or.inl ⟨by rfl, ?_⟩) ?_ ?_
    rotate_left
    ·intro w'
     go_simp
     with_reducible rfl
    rotate_left
    ·simp only [Act.put, List.setIfInBounds_toArray, List.set_cons_zero, List.set_cons_succ, qA, qB]
     rfl
    refine qV (i := 2) (N := some 43) (v := ?_) (a' := ?_) #[true, true, true, false, false, false, false, false, false, false] rfl rfl (zh HT_.out (by kernel_rfl)) (fun _ _ _ h => h) (Or.inl ⟨by rfl, ?_⟩) ?_ ?_
    rotate_left
    ·intro w'
     go_simp
     with_reducible rfl
    rotate_left
    ·simp only [Act.put, List.setIfInBounds_toArray, List.set_cons_zero, List.set_cons_succ, qA, qB]
     rfl
    refine qV (i := 3) (N := some 44) (v := ?_) (a' := ?_) #[true, true, true, true, false, false, false, false, false, false] rfl rfl (zh HT_.out (by kernel_rfl)) (fun _ _ _ h => h) (Or.inl ⟨by rfl, ?_⟩) ?_ ?_
    rotate_left
    ·intro w'
     go_simp
     with_reducible rfl
    rotate_left
    ·simp only [Act.put, List.setIfInBounds_toArray, List.set_cons_zero, List.set_cons_succ, qA, qB]
     rfl
    refine qV (i := 5) (N := some 46) (v := ?_) (a' := ?_) #[true, true, true, true, false, true, false, false, false, false] rfl rfl (zh HT_.out (by kernel_rfl)) (fun _ _ _ h => h) (Or.inl ⟨by rfl, ?_⟩) ?_ ?_
    rotate_left
    ·intro w'
     go_simp
     with_reducible rfl
    rotate_left
    ·simp only [Act.put, List.setIfInBounds_toArray, List.set_cons_zero, List.set_cons_succ, qA, qB]
     rfl
    refine qV (i := 6) (N := some 47) (v := ?_) (a' := ?_) #[true, true, true, true, false, true, true, false, false, false] rfl rfl (zh HT_.out (by kernel_rfl)) (fun _ _ _ h => h) (Or.inl ⟨by rfl, ?_⟩) ?_ ?_
    rotate_left
    ·intro w'
     go_simp
     with_reducible rfl
    rotate_left
    ·simp only [Act.put, List.setIfInBounds_toArray, List.set_cons_zero, List.set_cons_succ, qA, qB]
     rfl
    refine zB (i := 4) (N := some 45) (v := ?_) (a' := ?_) #[true, true, true, true, true, true, true, false, false, false] rfl rfl (zP HT_.out HW_.out (by kernel_rfl)) (fun _ _ _ h => h) (Or.inl ⟨by rfl, ?_⟩) hHeld ?_ ?_
    rotate_left
    ·rintro w' ⟨s0, s1, s2, s3, s4, s5⟩
     go_simp
     with_reducible rfl
    rotate_left
    ·simp only [Act.put, List.setIfInBounds_toArray, List.set_cons_zero, List.set_cons_succ, qA, qB]
     rfl
    refine zB (i := 7) (N := some 48) (v := ?_) (a' := ?_) #[true, true, true, true, true, true, true, true, false, false] rfl rfl (zP HT_.out HW_.out (by kernel_rfl)) (fun _ _ _ h => h) (Or.inl ⟨by rfl, ?_⟩) hHeld ?_ ?_
    rotate_left
    ·rintro w' ⟨s0, s1, s2, s3, s4, s5⟩
     go_simp
     with_reducible rfl
    rotate_left
    ·simp only [Act.put, List.setIfInBounds_toArray, List.set_cons_zero, List.set_cons_succ, qA, qB]
     rfl
    refine jE (i := 8) (N := some 49) #[true, true, true, true, true, true, true, true, true, false] rfl rfl (jT HT_.out (by kernel_rfl)) (by decide) (fun K hK => ?_)
    refine jG Try.func42 (by kernel_rfl) rfl #[.agg #[.int .i64 ((qb l0 (ji19)).f0), .int .i64 ((qb l0 (ji19)).f1), .int .i64 ((qb l0 (ji19)).f2)], .agg #[.int .i64 ((qb l0 0).f0), .int .i64 ((qb l0 0).f1), .int .i64 ((qb l0 0).f2)]] (by rfl) rfl rfl (by (try simp only [List.map_toArray, List.map_cons, List.map_nil]); first | done | (simp only [hji19]; rfl) | rfl | (simp only [List.length_drop, List.length_take]; rfl)) ?_
    with_reducible refine (ze.calls k1 ((qb l0 (ji19)).f0) ((qb l0 (ji19)).f1) ((qb l0 (ji19)).f2) ((qb l0 0).f0) ((qb l0 0).f1) ((qb l0 0).f2) t263 t264 _ A22.out).mono ?_
    rintro e w25 ⟨rfl, hb⟩
    refine ⟨_, rfl, ?_⟩
    have n0_ := qa.mk (Kd.QJ (rq HO259) hb)
    have n1_ := qa.mk (qN (g := gb254) (o := .cells #[.int .i64 0, .int .i64 0] 35 (0, 0)) (kq BK254) hb)
    have n2_ := qa.mk (qN (g := gb256) (o := .cells #[.int .i64 0, .int .i64 0] 35 (0, 0)) (kq BK256) hb)
    have n3_ := qa.mk (qE (by repeat (first | (with_reducible first | exact HB.out | apply qp | apply qo | apply qz | refine qg ?_ GE254.out | refine qg ?_ GE256.out) | exact HB.out)) hb)
    clear HO259
    clear BK254
    clear BK256
    clear HB
    have HO259 := n0_
    have BK254 := n1_
    have BK256 := n2_
    have HB := n3_
    clear n0_ n1_ n2_ n3_
    (try clear hb)
    (try clear hb2)
    (try clear hk)
    (try clear hi)
    refine hK.out _ _ ⟨((HB.out.cell (World.block_lt_of_cell? w _ hw261_0)).trans hw261_0), ((HB.out.cell (World.block_lt_of_cell? w _ hw261_1)).trans hw261_1), ((HB.out.cell (World.block_lt_of_cell? w _ hw261_2)).trans hw261_2), ((HB.out.cell (World.block_lt_of_cell? w _ hw262_0)).trans hw262_0), ((HB.out.cell (World.block_lt_of_cell? w _ hw262_1)).trans hw262_1), ((HB.out.cell (World.block_lt_of_cell? w _ hw262_2)).trans hw262_2)⟩ (fun hHeld => ?_)
    clear hK K
    refine zY (a' := ?_) ?_ ?_
    rotate_left
    ·show Act.put _ (some 49) _ = _
     simp only [Act.put, List.setIfInBounds_toArray, List.set_cons_zero, List.set_cons_succ, qA, qB]
     rfl
    refine jE (i := 9) (N := none) #[true, true, true, true, true, true, true, true, true, true] rfl rfl (jT HT_.out (by kernel_rfl)) (by decide) (fun K hK => ?_)
    have hs26 : w25.cell? ⟨gb256, 0, none⟩ = some (.int .i64 0) := (qf BK256.out 0).trans rfl
    have hfs26 := qj BK256.out 0
    have hns26_0 := NB254_256.out
    have hms26_0 := NB256_254.out
    have hs27 : w25.cell? ⟨gb256, 1, none⟩ = some (.int .i64 0) := (qf BK256.out 1).trans rfl
    have hfs27 := qj BK256.out 1
    have hns27_0 := NB254_256.out
    have hms27_0 := NB256_254.out
    refine Zt (w1 := ?_) (by rfl) rfl ?_ ?_
    rotate_left
    ·go_simp
     rfl
    refine hK.out _ _ ⟨((cell_far (p := ⟨gb256, _, none⟩) (by first | exact Nat.ne_of_lt (Nat.lt_of_lt_of_le (by have := World.block_lt_of_cell? _ _ hw261_0; first | rwa [add_block] at this | exact this) GW256.out) | (rw [add_block]; exact Nat.ne_of_lt (Nat.lt_of_lt_of_le (by have := World.block_lt_of_cell? _ _ hw261_0; first | rwa [add_block] at this | exact this) GW256.out)) | (show (Addr.add _ _).block ≠ _; rw [add_block]; exact Nat.ne_of_lt (Nat.lt_of_lt_of_le (by have := World.block_lt_of_cell? _ _ hw261_0; first | rwa [add_block] at this | exact this) GW256.out)) | (dsimp only; exact Nat.ne_of_lt (Nat.lt_of_lt_of_le (by have := World.block_lt_of_cell? _ _ hw261_0; first | rwa [add_block] at this | exact this) GW256.out))) _).trans (((cell_far (p := ⟨gb256, _, none⟩) (by first | exact Nat.ne_of_lt (Nat.lt_of_lt_of_le (by have := World.block_lt_of_cell? _ _ hw261_0; first | rwa [add_block] at this | exact this) GW256.out) | (rw [add_block]; exact Nat.ne_of_lt (Nat.lt_of_lt_of_le (by have := World.block_lt_of_cell? _ _ hw261_0; first | rwa [add_block] at this | exact this) GW256.out)) | (show (Addr.add _ _).block ≠ _; rw [add_block]; exact Nat.ne_of_lt (Nat.lt_of_lt_of_le (by have := World.block_lt_of_cell? _ _ hw261_0; first | rwa [add_block] at this | exact this) GW256.out)) | (dsimp only; exact Nat.ne_of_lt (Nat.lt_of_lt_of_le (by have := World.block_lt_of_cell? _ _ hw261_0; first | rwa [add_block] at this | exact this) GW256.out))) _).trans (hHeld.1)))), ((cell_far (p := ⟨gb256, _, none⟩) (by first | exact Nat.ne_of_lt (Nat.lt_of_lt_of_le (by have := World.block_lt_of_cell? _ _ hw261_1; first | rwa [add_block] at this | exact this) GW256.out) | (rw [add_block]; exact Nat.ne_of_lt (Nat.lt_of_lt_of_le (by have := World.block_lt_of_cell? _ _ hw261_1; first | rwa [add_block] at this | exact this) GW256.out)) | (show (Addr.add _ _).block ≠ _; rw [add_block]; exact Nat.ne_of_lt (Nat.lt_of_lt_of_le (by have := World.block_lt_of_cell? _ _ hw261_1; first | rwa [add_block] at this | exact this) GW256.out)) | (dsimp only; exact Nat.ne_of_lt (Nat.lt_of_lt_of_le (by have := World.block_lt_of_cell? _ _ hw261_1; first | rwa [add_block] at this | exact this) GW256.out))) _).trans (((cell_far (p := ⟨gb256, _, none⟩) (by first | exact Nat.ne_of_lt (Nat.lt_of_lt_of_le (by have := World.block_lt_of_cell? _ _ hw261_1; first | rwa [add_block] at this | exact this) GW256.out) | (rw [add_block]; exact Nat.ne_of_lt (Nat.lt_of_lt_of_le (by have := World.block_lt_of_cell? _ _ hw261_1; first | rwa [add_block] at this | exact this) GW256.out)) | (show (Addr.add _ _).block ≠ _; rw [add_block]; exact Nat.ne_of_lt (Nat.lt_of_lt_of_le (by have := World.block_lt_of_cell? _ _ hw261_1; first | rwa [add_block] at this | exact this) GW256.out)) | (dsimp only; exact Nat.ne_of_lt (Nat.lt_of_lt_of_le (by have := World.block_lt_of_cell? _ _ hw261_1; first | rwa [add_block] at this | exact this) GW256.out))) _).trans (hHeld.2.1)))), ((cell_far (p := ⟨gb256, _, none⟩) (by first | exact Nat.ne_of_lt (Nat.lt_of_lt_of_le (by have := World.block_lt_of_cell? _ _ hw261_2; first | rwa [add_block] at this | exact this) GW256.out) | (rw [add_block]; exact Nat.ne_of_lt (Nat.lt_of_lt_of_le (by have := World.block_lt_of_cell? _ _ hw261_2; first | rwa [add_block] at this | exact this) GW256.out)) | (show (Addr.add _ _).block ≠ _; rw [add_block]; exact Nat.ne_of_lt (Nat.lt_of_lt_of_le (by have := World.block_lt_of_cell? _ _ hw261_2; first | rwa [add_block] at this | exact this) GW256.out)) | (dsimp only; exact Nat.ne_of_lt (Nat.lt_of_lt_of_le (by have := World.block_lt_of_cell? _ _ hw261_2; first | rwa [add_block] at this | exact this) GW256.out))) _).trans (((cell_far (p := ⟨gb256, _, none⟩) (by first | exact Nat.ne_of_lt (Nat.lt_of_lt_of_le (by have := World.block_lt_of_cell? _ _ hw261_2; first | rwa [add_block] at this | exact this) GW256.out) | (rw [add_block]; exact Nat.ne_of_lt (Nat.lt_of_lt_of_le (by have := World.block_lt_of_cell? _ _ hw261_2; first | rwa [add_block] at this | exact this) GW256.out)) | (show (Addr.add _ _).block ≠ _; rw [add_block]; exact Nat.ne_of_lt (Nat.lt_of_lt_of_le (by have := World.block_lt_of_cell? _ _ hw261_2; first | rwa [add_block] at this | exact this) GW256.out)) | (dsimp only; exact Nat.ne_of_lt (Nat.lt_of_lt_of_le (by have := World.block_lt_of_cell? _ _ hw261_2; first | rwa [add_block] at this | exact this) GW256.out))) _).trans (hHeld.2.2.1)))), ((cell_far (p := ⟨gb256, _, none⟩) (by first | exact Nat.ne_of_lt (Nat.lt_of_lt_of_le (by have := World.block_lt_of_cell? _ _ hw262_0; first | rwa [add_block] at this | exact this) GW256.out) | (rw [add_block]; exact Nat.ne_of_lt (Nat.lt_of_lt_of_le (by have := World.block_lt_of_cell? _ _ hw262_0; first | rwa [add_block] at this | exact this) GW256.out)) | (show (Addr.add _ _).block ≠ _; rw [add_block]; exact Nat.ne_of_lt (Nat.lt_of_lt_of_le (by have := World.block_lt_of_cell? _ _ hw262_0; first | rwa [add_block] at this | exact this) GW256.out)) | (dsimp only; exact Nat.ne_of_lt (Nat.lt_of_lt_of_le (by have := World.block_lt_of_cell? _ _ hw262_0; first | rwa [add_block] at this | exact this) GW256.out))) _).trans (((cell_far (p := ⟨gb256, _, none⟩) (by first | exact Nat.ne_of_lt (Nat.lt_of_lt_of_le (by have := World.block_lt_of_cell? _ _ hw262_0; first | rwa [add_block] at this | exact this) GW256.out) | (rw [add_block]; exact Nat.ne_of_lt (Nat.lt_of_lt_of_le (by have := World.block_lt_of_cell? _ _ hw262_0; first | rwa [add_block] at this | exact this) GW256.out)) | (show (Addr.add _ _).block ≠ _; rw [add_block]; exact Nat.ne_of_lt (Nat.lt_of_lt_of_le (by have := World.block_lt_of_cell? _ _ hw262_0; first | rwa [add_block] at this | exact this) GW256.out)) | (dsimp only; exact Nat.ne_of_lt (Nat.lt_of_lt_of_le (by have := World.block_lt_of_cell? _ _ hw262_0; first | rwa [add_block] at this | exact this) GW256.out))) _).trans (hHeld.2.2.2.1)))), ((cell_far (p := ⟨gb256, _, none⟩) (by first | exact Nat.ne_of_lt (Nat.lt_of_lt_of_le (by have := World.block_lt_of_cell? _ _ hw262_1; first | rwa [add_block] at this | exact this) GW256.out) | (rw [add_block]; exact Nat.ne_of_lt (Nat.lt_of_lt_of_le (by have := World.block_lt_of_cell? _ _ hw262_1; first | rwa [add_block] at this | exact this) GW256.out)) | (show (Addr.add _ _).block ≠ _; rw [add_block]; exact Nat.ne_of_lt (Nat.lt_of_lt_of_le (by have := World.block_lt_of_cell? _ _ hw262_1; first | rwa [add_block] at this | exact this) GW256.out)) | (dsimp only; exact Nat.ne_of_lt (Nat.lt_of_lt_of_le (by have := World.block_lt_of_cell? _ _ hw262_1; first | rwa [add_block] at this | exact this) GW256.out))) _).trans (((cell_far (p := ⟨gb256, _, none⟩) (by first | exact Nat.ne_of_lt (Nat.lt_of_lt_of_le (by have := World.block_lt_of_cell? _ _ hw262_1; first | rwa [add_block] at this | exact this) GW256.out) | (rw [add_block]; exact Nat.ne_of_lt (Nat.lt_of_lt_of_le (by have := World.block_lt_of_cell? _ _ hw262_1; first | rwa [add_block] at this | exact this) GW256.out)) | (show (Addr.add _ _).block ≠ _; rw [add_block]; exact Nat.ne_of_lt (Nat.lt_of_lt_of_le (by have := World.block_lt_of_cell? _ _ hw262_1; first | rwa [add_block] at this | exact this) GW256.out)) | (dsimp only; exact Nat.ne_of_lt (Nat.lt_of_lt_of_le (by have := World.block_lt_of_cell? _ _ hw262_1; first | rwa [add_block] at this | exact this) GW256.out))) _).trans (hHeld.2.2.2.2.1)))), ((cell_far (p := ⟨gb256, _, none⟩) (by first | exact Nat.ne_of_lt (Nat.lt_of_lt_of_le (by have := World.block_lt_of_cell? _ _ hw262_2; first | rwa [add_block] at this | exact this) GW256.out) | (rw [add_block]; exact Nat.ne_of_lt (Nat.lt_of_lt_of_le (by have := World.block_lt_of_cell? _ _ hw262_2; first | rwa [add_block] at this | exact this) GW256.out)) | (show (Addr.add _ _).block ≠ _; rw [add_block]; exact Nat.ne_of_lt (Nat.lt_of_lt_of_le (by have := World.block_lt_of_cell? _ _ hw262_2; first | rwa [add_block] at this | exact this) GW256.out)) | (dsimp only; exact Nat.ne_of_lt (Nat.lt_of_lt_of_le (by have := World.block_lt_of_cell? _ _ hw262_2; first | rwa [add_block] at this | exact this) GW256.out))) _).trans (((cell_far (p := ⟨gb256, _, none⟩) (by first | exact Nat.ne_of_lt (Nat.lt_of_lt_of_le (by have := World.block_lt_of_cell? _ _ hw262_2; first | rwa [add_block] at this | exact this) GW256.out) | (rw [add_block]; exact Nat.ne_of_lt (Nat.lt_of_lt_of_le (by have := World.block_lt_of_cell? _ _ hw262_2; first | rwa [add_block] at this | exact this) GW256.out)) | (show (Addr.add _ _).block ≠ _; rw [add_block]; exact Nat.ne_of_lt (Nat.lt_of_lt_of_le (by have := World.block_lt_of_cell? _ _ hw262_2; first | rwa [add_block] at this | exact this) GW256.out)) | (dsimp only; exact Nat.ne_of_lt (Nat.lt_of_lt_of_le (by have := World.block_lt_of_cell? _ _ hw262_2; first | rwa [add_block] at this | exact this) GW256.out))) _).trans (hHeld.2.2.2.2.2))))⟩ (fun hHeld => ?_)
    clear hK K
    refine Qk (QV HT_.out (by kernel_rfl)) ?_
    try go_wp2_with (first | ((with_reducible refine jw (b := .append) (xs := #[.tmp 50, .tmp 51]) rfl ?_); at_builtin; refine Kd.ZA k40 (w0 := w) w.heap.size rfl (.tmp 50) (.tmp 51) 37 40 (.agg #[(.int .i64 0), (.int .i64 0), (.int .i64 0)]) 24 rfl Try.underlying37 Zh rfl (by decide) (by omega) v258 y257 l0 _ _ _ (fun _ => True) (fun _ => False) rfl rfl ?aO ?aR (fun _ _ h => h) (fun _ h => h.elim) ?aF ?aB ?aS ?aL ?_; (case aR => exact Kd.zZ HR0.out (by repeat (first | (with_reducible first | exact HB.out | apply qp | apply qo | apply qz | refine qg ?_ GE254.out | refine qg ?_ GE256.out) | exact HB.out))); (case aB => exact (by repeat (first | (with_reducible first | exact HB.out | apply qp | apply qo | apply qz | refine qg ?_ GE254.out | refine qg ?_ GE256.out) | exact HB.out))); (case aF => exact (fun _ _ => trivial)); (case aO => exact (by (with_reducible repeat (first | apply Kd.zX | apply Kd.z8 | apply Kd.zR)); exact Kd.zq (Kd.jh (p := ⟨gb256, 1, none⟩) (Kd.jh (p := ⟨gb256, 0, none⟩) (Kd.jR HO259.out BK256.out (by decide)) (fun _ hk => hk.2) (.int .i64 t263)) (fun _ hk => hk.2) (.int .i64 t264)) (fun _ hk => trivial))); (case aS => exact (qy (by repeat (first | (with_reducible first | exact HB.out | apply qp | apply qo | apply qz | refine qg ?_ GE254.out | refine qg ?_ GE256.out) | exact HB.out)))); (case aL => have := LMc23.out; omega); intro v266 w28 ho hb hg hat; rw [← Ny265.out] at ho; have n0_ := qa.mk (zy (g := gb254) (o := .cells #[.int .i64 0, .int .i64 0] 35 (0, 0)) (by (with_reducible repeat (first | refine qh ?_ _ | refine qc ?_ | refine qd ?_ _)); refine qJ ?_ NB254_256.out _; refine qJ ?_ NB254_256.out _; exact kq BK254) hg (Kd.JI HO259.out BK254.out (by decide))); have n1_ := qa.mk (zy (g := gb256) (o := .cells #[.int .i64 t263, .int .i64 t264] 35 (0, 0)) (by (with_reducible repeat (first | refine qh ?_ _ | refine qc ?_ | refine qd ?_ _)); refine zb (cs := #[.int .i64 t263, .int .i64 0]) ?_ 1 _ rfl; refine zb (cs := #[.int .i64 0, .int .i64 0]) ?_ 0 _ rfl; exact kq BK256) hg (Kd.JI HO259.out BK256.out (by decide))); have n2_ := qa.mk (hb); have n3_ := qa.mk (ho); clear BK254; clear BK256; clear HB; clear HO259; have BK254 := n0_; have BK256 := n1_; have HB := n2_; have HO267 := n3_; clear n0_ n1_ n2_ n3_; clear ho hb hg hat))
    go_meet
    case rel => exact ⟨_, (y265), (0), (0), (t263), (t264), H', ⟨by have := HK1.out; first | omega | exact Nat.le_refl _⟩, ⟨Kd.Q_of_R (rq HO267)⟩, ⟨kq BK254⟩, ⟨kq BK256⟩, ⟨by repeat (first | (with_reducible first | exact HB.out | apply qp | apply qo | apply qz | refine qg ?_ GE254.out | refine qg ?_ GE256.out) | exact HB.out)⟩⟩
   case rest =>
    clear HC7
    try clear c1
    try clear c2
    try clear p2
    try clear q2
    try clear hx2
    try clear qi2
    try clear c3
    try clear c3b0
    try clear c4
    try clear c4b0
    try clear c5
    try clear c5b0
    try clear c6
    try clear c6b0
    try clear c6b1
    try clear p6
    try clear c9
    try clear c13
    try clear c13b0
    try clear c14
    try clear c14b0
    try clear c14b1
    try clear c15
    try clear c15b0
    try clear c15b1
    try clear c16
    try clear c20
    try clear c20b0
    try clear c21
    try clear c21b0
    try clear c23
    try clear p25
    try clear q25
    try clear hx25
    try clear c26
    try clear p26
    try clear q26
    try clear hx26
    try clear qi26
    try clear p27
    try clear q27
    try clear hx27
    try clear c29
    try clear c29b0
    try clear c30
    try clear c30b0
    try clear c34
    try clear c34b0
    try clear c35
    try clear c35b0
    try clear c35b1
    try clear c35b2
    try clear c37
    try clear c37b0
    try clear c38
    try clear c38b0
    try clear c39
    try clear hcz10_0
    try clear hcz10_1
    try clear hcz17_0
    try clear hcz17_1
    try clear hcz18_0
    try clear hcz18_1
    try clear hfz10_0
    try clear hfz10_1
    try clear hfz17_0
    try clear hfz17_1
    try clear hfz18_0
    try clear hfz18_1
    try clear hx255_0
    try clear hx255_1
    try clear hx255_2
    try clear hx260_0
    try clear hx260_1
    try clear hx260_2
    try clear hx261_0
    try clear hx261_1
    try clear hx261_2
    try clear hx262_0
    try clear hx262_1
    try clear hx262_2
    try clear hx268_0
    try clear hx268_1
    try clear hx268_2
    try clear hx269_0
    try clear hx269_1
    try clear hx269_2
    try clear hx270_0
    try clear hx270_1
    try clear hx270_2
    try clear p2
    try clear p25
    try clear p255
    try clear p26
    try clear p260
    try clear p261
    try clear p262
    try clear p268
    try clear p269
    try clear p270
    try clear p6
    try clear q2
    try clear q25
    try clear q255
    try clear q26
    try clear q260
    try clear q261
    try clear q262
    try clear q268
    try clear q269
    try clear q270
    obtain ⟨kq, x10_6, x255000_6, x255001_6, x257000_6, x257001_6, HA, HJ6, HO_10, BK254, BK256, HB⟩ := hcut
    cases kq with
    | zero => exact absurd HA.out (by simp [qi.j2])
    | succ kj6 =>
     have H := HA.out
     clear HA
     simp only [qi.j2] at H
     obtain ⟨y274, hy274⟩ : ∃ y_ : List (S64), y_ = (([] : List (S64))) := ⟨_, rfl⟩
     replace H : (qi.l2 kj6 x10_6 y274 x257000_6 x257001_6) = some (r1, r2, r3, r4, r5) := by first | (rw [hy274]; with_reducible exact H) | (have H2_ := (Option.bind_some _ _).symm.trans H; rw [hy274]; with_reducible exact H2_) | (have H2_ := (Option.bind_some _ _).symm.trans H; with_reducible exact H2_) | with_reducible exact H | (rw [hy274]; exact H) | exact H
     have Ny274 := qa.mk hy274
     clear hy274
     have H' := qa.mk H
     clear H
     go_wp2_with (first | ((with_reducible refine zf (N := 80) rfl ?_); refine Kd.S_lit k64 _ 64 ?hg (N := 80) ?hd (xs := ([] : List (S64))) (inner := []) (ok := fun _ => True) (okp := fun _ => True) ?hr ?hp (fun _ hk => hk) trivial (Below.refl _ _) (Nat.le_refl _) (by simp) ?_; (case hd => rfl); (case hg => rfl); (case hr => first | (go_simp; done) | (go_simp; rfl)); (case hp => exact (zx.none _ _)); intro v275 w41 ho42 hb hg_ hnew_; clear hg_ hnew_; (first | rw [← Ny274.out] at ho42 | (simp only [Int.reduceToNat] at ho42; rw [← Ny274.out] at ho42)); have n0_ := qa.mk (Kd.QW (by (with_reducible repeat (first | apply Kd.jq | apply Kd.jr | apply Kd.jy)); exact HO_10.out) hb); have n1_ := qa.mk (Kd.Jo (Kd.S_newB (Kd.S_newB ho42 (g := gb254) (o := .cells #[.int .i64 x255000_6, .int .i64 x255001_6] 35 (0, 0)) (kq BK254)) (g := gb256) (o := .cells #[.int .i64 x257000_6, .int .i64 x257001_6] 35 (0, 0)) (kq BK256)) (qy (by repeat (first | (with_reducible first | exact HB.out | apply qp | apply qo | apply qz | refine qg ?_ GE254.out | refine qg ?_ GE256.out) | exact HB.out)))); have n2_ := qa.mk (qN (g := gb254) (o := .cells #[.int .i64 x255000_6, .int .i64 x255001_6] 35 (0, 0)) (kq BK254) hb); have n3_ := qa.mk (qN (g := gb256) (o := .cells #[.int .i64 x257000_6, .int .i64 x257001_6] 35 (0, 0)) (kq BK256) hb); have n4_ := qa.mk (qE (by repeat (first | (with_reducible first | exact HB.out | apply qp | apply qo | apply qz | refine qg ?_ GE254.out | refine qg ?_ GE256.out) | exact HB.out)) hb); clear HO_10; clear BK254; clear BK256; clear HB; have HO_10 := n0_; have HO276 := n1_; have BK254 := n2_; have BK256 := n3_; have HB := n4_; clear n0_ n1_ n2_ n3_ n4_; clear hb ho42))
     go_loopg [10, 12] kj6 (fun kq v10 v12 w' => ∃ (x10_3 : List (S40)) (x12_3 : List (S64)) (x255000_3 : Int) (x255001_3 : Int), qa (qi.l2 kq x10_3 x12_3 x257000_6 x257001_6 = some (r1, r2, r3, r4, r5)) ∧ qa (kq ≤ kj6) ∧ qa (Kd.Q k40 40 w' w.heap.size (fun _ => True) v10 x10_3) ∧ qa (Kd.S k64 64 w' w.heap.size (fun k_ => k_ ≠ gb254 ∧ k_ ≠ gb256) v12 x12_3) ∧ qa (w'.heap[gb254]? = some (.cells #[.int .i64 x255000_3, .int .i64 x255001_3] 35 (0, 0))) ∧ qa (w'.heap[gb256]? = some (.cells #[.int .i64 x257000_6, .int .i64 x257001_6] 35 (0, 0))) ∧ qa (Below w.heap.size w w'))
     case atStart => exact ⟨(x10_6), (y274), (x255000_6), (x255001_6), H', ⟨Nat.le_refl _⟩, ⟨by (with_reducible repeat (first | apply Kd.jq | apply Kd.jr | apply Kd.jy)); exact HO_10.out⟩, ⟨by (with_reducible repeat (first | apply Kd.zi | apply Kd.zk | apply Kd.zn)); exact Kd.zC HO276.out (fun _ hk => ⟨hk.1.2, hk.2⟩)⟩, ⟨kq BK254⟩, ⟨kq BK256⟩, ⟨by repeat (first | (with_reducible first | exact HB.out | apply qp | apply qo | apply qz | refine qg ?_ GE254.out | refine qg ?_ GE256.out) | exact HB.out)⟩⟩
     case round =>
      clear H'
      try clear c1
      try clear c2
      try clear p2
      try clear q2
      try clear hx2
      try clear qi2
      try clear c3
      try clear c3b0
      try clear c4
      try clear c4b0
      try clear c5
      try clear c5b0
      try clear c6
      try clear c6b0
      try clear c6b1
      try clear p6
      try clear c9
      try clear c13
      try clear c13b0
      try clear c14
      try clear c14b0
      try clear c14b1
      try clear c15
      try clear c15b0
      try clear c15b1
      try clear c16
      try clear c20
      try clear c20b0
      try clear c21
      try clear c21b0
      try clear c23
      try clear p25
      try clear q25
      try clear hx25
      try clear c26
      try clear p26
      try clear q26
      try clear hx26
      try clear qi26
      try clear p27
      try clear q27
      try clear hx27
      try clear c29
      try clear c29b0
      try clear c30
      try clear c30b0
      try clear c34
      try clear c34b0
      try clear c35
      try clear c35b0
      try clear c35b1
      try clear c35b2
      try clear c37
      try clear c37b0
      try clear c38
      try clear c38b0
      try clear c39
      try clear c42
      try clear hcz10_0
      try clear hcz10_1
      try clear hcz17_0
      try clear hcz17_1
      try clear hcz18_0
      try clear hcz18_1
      try clear hfz10_0
      try clear hfz10_1
      try clear hfz17_0
      try clear hfz17_1
      try clear hfz18_0
      try clear hfz18_1
      try clear hx255_0
      try clear hx255_1
      try clear hx255_2
      try clear hx260_0
      try clear hx260_1
      try clear hx260_2
      try clear hx261_0
      try clear hx261_1
      try clear hx261_2
      try clear hx262_0
      try clear hx262_1
      try clear hx262_2
      try clear hx268_0
      try clear hx268_1
      try clear hx268_2
      try clear hx269_0
      try clear hx269_1
      try clear hx269_2
      try clear hx270_0
      try clear hx270_1
      try clear hx270_2
      try clear p2
      try clear p25
      try clear p255
      try clear p26
      try clear p260
      try clear p261
      try clear p262
      try clear p268
      try clear p269
      try clear p27
      try clear p270
      try clear p6
      try clear q2
      try clear q25
      try clear q255
      try clear q26
      try clear q260
      try clear q261
      try clear q262
      try clear q268
      try clear q269
      try clear q27
      try clear q270
      obtain ⟨x10_3, x12_3, x255000_3, x255001_3, HA, HK3, HO_10, HO_12, BK254, BK256, HB⟩ := hrel
      cases gk with
      | zero => exact absurd HA.out (by simp [qi.l2])
      | succ k3 =>
       have H := HA.out
       clear HA
       simp only [qi.l2] at H
       by_cases c43 : (x10_3.length : Int) > 0
       case neg =>
        rw [if_neg c43] at H
        have c43b0 : decide (0 < (x10_3.length : Int)) = false := decide_eq_false c43
        have c43b1 : decide (0 < x10_3.length) = false := decide_eq_false (by omega)
        clear c43
        simp only [Option.some.injEq, Prod.mk.injEq] at H
        obtain ⟨rfl, rfl, rfl, rfl, rfl⟩ := H
        obtain ⟨Ao201, co201, eo201, _⟩ := Kd.ZL HO_10.out
        subst eo201
        have hnb202 := NB256_254.out
        have hnc202 := NB254_256.out
        have hcz203_0 : wr.cell? ⟨gb256, 0, none⟩ = some (.int .i64 x257000_6) := (qf BK256.out 0).trans rfl
        have hcz203_1 : wr.cell? ⟨gb256, 1, none⟩ = some (.int .i64 x257001_6) := (qf BK256.out 1).trans rfl
        have hfz203_0 := qj BK256.out 0
        have hfz203_1 := qj BK256.out 1
        have hcz204_0 : wr.cell? ⟨gb254, 0, none⟩ = some (.int .i64 x255000_3) := (qf BK254.out 0).trans rfl
        have hcz204_1 : wr.cell? ⟨gb254, 1, none⟩ = some (.int .i64 x255001_3) := (qf BK254.out 1).trans rfl
        have hfz204_0 := qj BK254.out 0
        have hfz204_1 := qj BK254.out 1
        go_wp2
        refine bodyPost_ret (QD (rs := [.cell 2 35, .tmp 3, .tmp 4, .tmp 5]) rfl (by simp) (.cell gb254 35 #[.int .i64 x257000_6, .int .i64 x257001_6] (0, 0) _ rfl (by (with_reducible repeat (first | refine qh ?_ _ | refine qc ?_ | refine qd ?_ _)); refine zb (cs := #[.int .i64 x257000_6, .int .i64 x255001_3]) ?_ 1 _ rfl; refine zb (cs := #[.int .i64 x255000_3, .int .i64 x255001_3]) ?_ 0 _ rfl; exact kq BK254) Try.underlying35 rfl (by kernel_rfl) (.tmp (.tmp (.tmp .nil))))) rfl ?_
        exact ⟨_, by first | rfl | (simp [qR, qU] <;> rfl) | (simp [*, qR, qU] <;> rfl), by (with_reducible repeat (first | apply Kd.zi | apply Kd.zk | apply Kd.zn)); exact Kd.zC (Kd.jo (p := ⟨gb254, 1, none⟩) (Kd.jo (p := ⟨gb254, 0, none⟩) (Kd.zC HO_12.out (fun k_ hk => (⟨hk, hk.1⟩ : _ ∧ k_ ≠ gb254))) (fun _ hk => hk.2) (.int .i64 x257000_6)) (fun _ hk => hk.2) (.int .i64 x257001_6)) (fun _ hk => trivial), by repeat (first | (with_reducible first | exact HB.out | apply qp | apply qo | apply qz | refine qg ?_ GE254.out | refine qg ?_ GE256.out) | exact HB.out)⟩
       rw [if_pos c43] at H
       have c43b0 : decide (0 < (x10_3.length : Int)) = true := decide_eq_true c43
       have c43b1 : decide (0 < x10_3.length) = true := decide_eq_true (by omega)
       clear c43
       by_cases c44 : 0 < (x10_3.length : Int)
       case neg =>
        rw [if_neg c44] at H
        exact absurd H (by simp)
       rw [if_pos c44] at H
       have c44b0 : decide (0 < (x10_3.length : Int)) = true := decide_eq_true c44
       have c44b1 : decide (0 < x10_3.length) = true := decide_eq_true (by omega)
       clear c44
       by_cases c45 : 1 ≤ (x10_3.length : Int)
       case neg =>
        rw [if_neg c45] at H
        exact absurd H (by simp)
       rw [if_pos c45] at H
       have c45b0 := eq_true c45
       have c45b1 : decide (1 ≤ (x10_3.length : Int)) = true := decide_eq_true c45
       clear c45
       obtain ⟨y280, hy280⟩ : ∃ y_ : List (S40), y_ = (x10_3.drop (1 : Int).toNat) := ⟨_, rfl⟩
       replace H : (if ((qb x10_3 0).f2) = 1 then (if x12_3.length < 3518437208883 then (qi.l2 k3 y280 (x12_3 ++ [(⟨([] : List (S35)), (⟨(qb x10_3 0).f0, (qb x10_3 0).f1⟩ : S35)⟩ : S64)]) x257000_6 x257001_6) else (none)) else ((some (([(⟨(qb x10_3 0).f0, (qb x10_3 0).f1⟩ : S35)] : List (S35)) : List (S35))).bind fun y286 => (if ((qb x10_3 0).f2) = 3 then (if (y280.length : Int) = 0 then (some (x257000_6, x257001_6, ([] : List (S64)), false, false)) else (if 0 < (y280.length : Int) then (if ((qb y280 0).f2) = 3 then (if y286.length < 8796093022208 then (if 1 ≤ (y280.length : Int) then (qi.j4 k3 (y280.drop (1 : Int).toNat) x12_3 x257000_6 x257001_6 ((qb x10_3 0).f0) ((qb x10_3 0).f1) ((qb x10_3 0).f2) (y286 ++ [(⟨(qb y280 0).f0, (qb y280 0).f1⟩ : S35)]) 0 0) else (none)) else (none)) else (some (x257000_6, x257001_6, ([] : List (S64)), false, false))) else (none))) else (qi.j4 k3 y280 x12_3 x257000_6 x257001_6 ((qb x10_3 0).f0) ((qb x10_3 0).f1) ((qb x10_3 0).f2) y286 0 0)))) = some (r1, r2, r3, r4, r5) := by first | (rw [hy280]; with_reducible exact H) | (have H2_ := (Option.bind_some _ _).symm.trans H; rw [hy280]; with_reducible exact H2_) | (have H2_ := (Option.bind_some _ _).symm.trans H; with_reducible exact H2_) | with_reducible exact H | (rw [hy280]; exact H) | exact H
       have Ny280 := qa.mk hy280
       clear hy280
       by_cases c46 : ((qb x10_3 0).f2) = 1
       ·rw [if_pos c46] at H
        have c46b0 : (((qb x10_3 0).f2) == 1) = true := beq_iff_eq.mpr c46
        have c46b1 : (((qb x10_3 0).f2) != 1) = false := bne_eq_false_iff_eq.mpr c46
        clear c46
        by_cases c47 : x12_3.length < 3518437208883
        case neg =>
         rw [if_neg c47] at H
         exact absurd H (by simp)
        rw [if_pos c47] at H
        have LMc47 := qa.mk c47
        clear c47
        obtain ⟨y283, hy283⟩ : ∃ y_ : List (S64), y_ = (x12_3 ++ [(⟨([] : List (S35)), (⟨(qb x10_3 0).f0, (qb x10_3 0).f1⟩ : S35)⟩ : S64)]) := ⟨_, rfl⟩
        replace H : (qi.l2 k3 y280 y283 x257000_6 x257001_6) = some (r1, r2, r3, r4, r5) := by first | (rw [hy283]; with_reducible exact H) | (have H2_ := (Option.bind_some _ _).symm.trans H; rw [hy283]; with_reducible exact H2_) | (have H2_ := (Option.bind_some _ _).symm.trans H; with_reducible exact H2_) | with_reducible exact H | (rw [hy283]; exact H) | exact H
        have Ny283 := qa.mk hy283
        clear hy283
        have H' := qa.mk H
        clear H
        obtain ⟨Ao48, co48, eo48, _⟩ := Kd.ZL HO_10.out
        subst eo48
        have p277 : 0 ≤ (0 : Int) := (by omega)
        have q277 : 0 < (x10_3.length : Int) := odt
        obtain ⟨ad277, e277, hx277_0, hx277_1, hx277_2⟩ := zH (Kd.Qb HO_10.out).2.2 0 p277 q277
        cases e277
        have qi277 : (0 < x10_3.length) = True := eq_true (by omega)
        (try rw [show ((0 : Int)).toNat = 0 from rfl] at hx277_0)
        (try rw [show 0 * 3 = 0 from rfl] at hx277_0)
        (try rw [Addr.add_zero'] at hx277_0)
        (try rw [show ((0 : Int)).toNat = 0 from rfl] at hx277_1)
        (try rw [show 0 * 3 = 0 from rfl] at hx277_1)
        (try rw [Addr.add_zero'] at hx277_1)
        (try rw [show ((0 : Int)).toNat = 0 from rfl] at hx277_2)
        (try rw [show 0 * 3 = 0 from rfl] at hx277_2)
        (try rw [Addr.add_zero'] at hx277_2)
        replace p277 := eq_true p277
        replace q277 := eq_true q277
        go_wp2_with (first | ((with_reducible refine zf (N := 13) rfl ?_); refine zm ?hg (N := 13) ?hd (cs := #[.int .i64 0, .int .i64 0, .int .i64 0]) (t := 40) ?hr ?_; (case hd => rfl); (case hg => rfl); (case hr => first | (go_simp; done) | (go_simp; rfl)); intro gb278 hg w49 hbox hb; have n0_ := qa.mk (Kd.QW (Kd.Q_elderB (by (with_reducible repeat (first | apply Kd.jq | apply Kd.jr | apply Kd.jy)); exact HO_10.out) gb278 (Nat.le_of_eq hg.symm)) hb); have n1_ := qa.mk (Kd.jA (by (with_reducible repeat (first | apply Kd.zi | apply Kd.zk | apply Kd.zn)); exact HO_12.out) hb); have n2_ := qa.mk (qN (g := gb254) (o := .cells #[.int .i64 x255000_3, .int .i64 x255001_3] 35 (0, 0)) (kq BK254) hb); have n3_ := qa.mk (qN (g := gb256) (o := .cells #[.int .i64 x257000_6, .int .i64 x257001_6] 35 (0, 0)) (kq BK256) hb); have n4_ := qa.mk (qE (by repeat (first | (with_reducible first | exact HB.out | apply qp | apply qo | apply qz | refine qg ?_ GE254.out | refine qg ?_ GE256.out) | exact HB.out)) hb); have n5_ := qa.mk (hbox); have n6_ := qa.mk ((by rw [hg]; exact (qy (by repeat (first | (with_reducible first | exact HB.out | apply qp | apply qo | apply qz | refine qg ?_ GE254.out | refine qg ?_ GE256.out) | exact HB.out))) : w.heap.size ≤ gb278)); have n7_ := qa.mk ((by rw [hg]; exact (qy (by repeat (first | (with_reducible first | exact HB.out | apply qp | apply qo | apply qz | refine qg ?_ GE254.out | refine qg ?_ GE256.out) | exact HB.out))) : w.heap.size ≤ gb278)); have n8_ := qa.mk ((by rw [hg]; exact Nat.ne_of_lt (qD (g := gb254) (o := .cells #[.int .i64 x255000_3, .int .i64 x255001_3] 35 (0, 0)) (kq BK254)) : gb254 ≠ gb278)); have n9_ := qa.mk ((by rw [hg]; exact Nat.ne_of_gt (qD (g := gb254) (o := .cells #[.int .i64 x255000_3, .int .i64 x255001_3] 35 (0, 0)) (kq BK254)) : gb278 ≠ gb254)); have n10_ := qa.mk ((by rw [hg]; exact Nat.ne_of_lt (qD (g := gb256) (o := .cells #[.int .i64 x257000_6, .int .i64 x257001_6] 35 (0, 0)) (kq BK256)) : gb256 ≠ gb278)); have n11_ := qa.mk ((by rw [hg]; exact Nat.ne_of_gt (qD (g := gb256) (o := .cells #[.int .i64 x257000_6, .int .i64 x257001_6] 35 (0, 0)) (kq BK256)) : gb278 ≠ gb256)); clear HO_10; clear HO_12; clear BK254; clear BK256; clear HB; have HO_10 := n0_; have HO_12 := n1_; have BK254 := n2_; have BK256 := n3_; have HB := n4_; have BK278 := n5_; have GW278 := n6_; have GE278 := n7_; have NB254_278 := n8_; have NB278_254 := n9_; have NB256_278 := n10_; have NB278_256 := n11_; clear n0_ n1_ n2_ n3_ n4_ n5_ n6_ n7_ n8_ n9_ n10_ n11_; clear hb hbox hg; have hnb50 := NB278_254.out; have hnc50 := NB254_278.out; have hnb51 := NB278_256.out; have hnc51 := NB256_278.out; have hcz52_0 : w49.cell? ⟨gb278, 0, none⟩ = some (.int .i64 0) := (qf BK278.out 0).trans rfl; have hcz52_1 : w49.cell? ⟨gb278, 1, none⟩ = some (.int .i64 0) := (qf BK278.out 1).trans rfl; have hcz52_2 : w49.cell? ⟨gb278, 2, none⟩ = some (.int .i64 0) := (qf BK278.out 2).trans rfl; have hfz52_0 := qj BK278.out 0; have hfz52_1 := qj BK278.out 1; have hfz52_2 := qj BK278.out 2) | ((with_reducible refine zf (N := 14) rfl ?_); refine zm ?hg (N := 14) ?hd (cs := #[.int .i64 0, .int .i64 0]) (t := 35) ?hr ?_; (case hd => rfl); (case hg => rfl); (case hr => first | (go_simp; done) | (go_simp; rfl)); intro gb279 hg w53 hbox hb; have n0_ := qa.mk (Kd.QW (by (with_reducible repeat (first | apply Kd.jq | apply Kd.jr | apply Kd.jy)); exact (Kd.Qh (Kd.Qf (p := ⟨gb278, 2, none⟩) (Kd.Qf (p := ⟨gb278, 1, none⟩) (Kd.Qf (p := ⟨gb278, 0, none⟩) (Kd.Qh HO_10.out (fun k_ hk => (⟨hk, hk.2⟩ : _ ∧ k_ ≠ gb278))) (fun _ hk => hk.2) (.int .i64 ((qb x10_3 0).f0))) (fun _ hk => hk.2) (.int .i64 ((qb x10_3 0).f1))) (fun _ hk => hk.2) (.int .i64 ((qb x10_3 0).f2))) (fun _ h_ => h_.1))) hb); have n1_ := qa.mk (Kd.jA (Kd.Zf (by (with_reducible repeat (first | apply Kd.zi | apply Kd.zk | apply Kd.zn)); exact (Kd.zC (Kd.jo (p := ⟨gb278, 2, none⟩) (Kd.jo (p := ⟨gb278, 1, none⟩) (Kd.jo (p := ⟨gb278, 0, none⟩) (Kd.S_types HO_12.out BK278.out (by decide)) (fun _ hk => hk.2) (.int .i64 ((qb x10_3 0).f0))) (fun _ hk => hk.2) (.int .i64 ((qb x10_3 0).f1))) (fun _ hk => hk.2) (.int .i64 ((qb x10_3 0).f2))) (fun _ h_ => h_.1))) gb279 (Nat.le_of_eq hg.symm)) hb); have n2_ := qa.mk (qN (g := gb254) (o := .cells #[.int .i64 x255000_3, .int .i64 x255001_3] 35 (0, 0)) (by (with_reducible repeat (first | refine qh ?_ _ | refine qc ?_ | refine qd ?_ _)); refine qJ ?_ NB254_278.out _; refine qJ ?_ NB254_278.out _; refine qJ ?_ NB254_278.out _; exact kq BK254) hb); have n3_ := qa.mk (qN (g := gb256) (o := .cells #[.int .i64 x257000_6, .int .i64 x257001_6] 35 (0, 0)) (by (with_reducible repeat (first | refine qh ?_ _ | refine qc ?_ | refine qd ?_ _)); refine qJ ?_ NB256_278.out _; refine qJ ?_ NB256_278.out _; refine qJ ?_ NB256_278.out _; exact kq BK256) hb); have n4_ := qa.mk (qN (g := gb278) (o := .cells #[.int .i64 ((qb x10_3 0).f0), .int .i64 ((qb x10_3 0).f1), .int .i64 ((qb x10_3 0).f2)] 40 (0, 0)) (by (with_reducible repeat (first | refine qh ?_ _ | refine qc ?_ | refine qd ?_ _)); refine zb (cs := #[.int .i64 ((qb x10_3 0).f0), .int .i64 ((qb x10_3 0).f1), .int .i64 0]) ?_ 2 _ rfl; refine zb (cs := #[.int .i64 ((qb x10_3 0).f0), .int .i64 0, .int .i64 0]) ?_ 1 _ rfl; refine zb (cs := #[.int .i64 0, .int .i64 0, .int .i64 0]) ?_ 0 _ rfl; exact kq BK278) hb); have n5_ := qa.mk (qE (by repeat (first | (with_reducible first | exact HB.out | apply qp | apply qo | apply qz | refine qg ?_ GE254.out | refine qg ?_ GE256.out | refine qg ?_ GE278.out) | exact HB.out)) hb); have n6_ := qa.mk (hbox); have n7_ := qa.mk ((by rw [hg]; exact (qy (by repeat (first | (with_reducible first | exact HB.out | apply qp | apply qo | apply qz | refine qg ?_ GE254.out | refine qg ?_ GE256.out | refine qg ?_ GE278.out) | exact HB.out))) : w.heap.size ≤ gb279)); have n8_ := qa.mk ((by rw [hg]; exact (qy (by repeat (first | (with_reducible first | exact HB.out | apply qp | apply qo | apply qz | refine qg ?_ GE254.out | refine qg ?_ GE256.out | refine qg ?_ GE278.out) | exact HB.out))) : w.heap.size ≤ gb279)); have n9_ := qa.mk ((by rw [hg]; exact Nat.ne_of_lt (qD (g := gb254) (o := .cells #[.int .i64 x255000_3, .int .i64 x255001_3] 35 (0, 0)) (by (with_reducible repeat (first | refine qh ?_ _ | refine qc ?_ | refine qd ?_ _)); refine qJ ?_ NB254_278.out _; refine qJ ?_ NB254_278.out _; refine qJ ?_ NB254_278.out _; exact kq BK254)) : gb254 ≠ gb279)); have n10_ := qa.mk ((by rw [hg]; exact Nat.ne_of_gt (qD (g := gb254) (o := .cells #[.int .i64 x255000_3, .int .i64 x255001_3] 35 (0, 0)) (by (with_reducible repeat (first | refine qh ?_ _ | refine qc ?_ | refine qd ?_ _)); refine qJ ?_ NB254_278.out _; refine qJ ?_ NB254_278.out _; refine qJ ?_ NB254_278.out _; exact kq BK254)) : gb279 ≠ gb254)); have n11_ := qa.mk ((by rw [hg]; exact Nat.ne_of_lt (qD (g := gb256) (o := .cells #[.int .i64 x257000_6, .int .i64 x257001_6] 35 (0, 0)) (by (with_reducible repeat (first | refine qh ?_ _ | refine qc ?_ | refine qd ?_ _)); refine qJ ?_ NB256_278.out _; refine qJ ?_ NB256_278.out _; refine qJ ?_ NB256_278.out _; exact kq BK256)) : gb256 ≠ gb279)); have n12_ := qa.mk ((by rw [hg]; exact Nat.ne_of_gt (qD (g := gb256) (o := .cells #[.int .i64 x257000_6, .int .i64 x257001_6] 35 (0, 0)) (by (with_reducible repeat (first | refine qh ?_ _ | refine qc ?_ | refine qd ?_ _)); refine qJ ?_ NB256_278.out _; refine qJ ?_ NB256_278.out _; refine qJ ?_ NB256_278.out _; exact kq BK256)) : gb279 ≠ gb256)); have n13_ := qa.mk ((by rw [hg]; exact Nat.ne_of_lt (qD (g := gb278) (o := .cells #[.int .i64 ((qb x10_3 0).f0), .int .i64 ((qb x10_3 0).f1), .int .i64 ((qb x10_3 0).f2)] 40 (0, 0)) (by (with_reducible repeat (first | refine qh ?_ _ | refine qc ?_ | refine qd ?_ _)); refine zb (cs := #[.int .i64 ((qb x10_3 0).f0), .int .i64 ((qb x10_3 0).f1), .int .i64 0]) ?_ 2 _ rfl; refine zb (cs := #[.int .i64 ((qb x10_3 0).f0), .int .i64 0, .int .i64 0]) ?_ 1 _ rfl; refine zb (cs := #[.int .i64 0, .int .i64 0, .int .i64 0]) ?_ 0 _ rfl; exact kq BK278)) : gb278 ≠ gb279)); have n14_ := qa.mk ((by rw [hg]; exact Nat.ne_of_gt (qD (g := gb278) (o := .cells #[.int .i64 ((qb x10_3 0).f0), .int .i64 ((qb x10_3 0).f1), .int .i64 ((qb x10_3 0).f2)] 40 (0, 0)) (by (with_reducible repeat (first | refine qh ?_ _ | refine qc ?_ | refine qd ?_ _)); refine zb (cs := #[.int .i64 ((qb x10_3 0).f0), .int .i64 ((qb x10_3 0).f1), .int .i64 0]) ?_ 2 _ rfl; refine zb (cs := #[.int .i64 ((qb x10_3 0).f0), .int .i64 0, .int .i64 0]) ?_ 1 _ rfl; refine zb (cs := #[.int .i64 0, .int .i64 0, .int .i64 0]) ?_ 0 _ rfl; exact kq BK278)) : gb279 ≠ gb278)); clear HO_10; clear HO_12; clear BK254; clear BK256; clear BK278; clear HB; have HO_10 := n0_; have HO_12 := n1_; have BK254 := n2_; have BK256 := n3_; have BK278 := n4_; have HB := n5_; have BK279 := n6_; have GW279 := n7_; have GE279 := n8_; have NB254_279 := n9_; have NB279_254 := n10_; have NB256_279 := n11_; have NB279_256 := n12_; have NB278_279 := n13_; have NB279_278 := n14_; clear n0_ n1_ n2_ n3_ n4_ n5_ n6_ n7_ n8_ n9_ n10_ n11_ n12_ n13_ n14_; clear hb hbox hg; have hnb54 := NB279_254.out; have hnc54 := NB254_279.out; have hnb55 := NB279_256.out; have hnc55 := NB256_279.out; have hnb56 := NB279_278.out; have hnc56 := NB278_279.out; have hcz57_0 : w53.cell? ⟨gb279, 0, none⟩ = some (.int .i64 0) := (qf BK279.out 0).trans rfl; have hcz57_1 : w53.cell? ⟨gb279, 1, none⟩ = some (.int .i64 0) := (qf BK279.out 1).trans rfl; have hfz57_0 := qj BK279.out 0; have hfz57_1 := qj BK279.out 1) | ((with_reducible refine qab (t := 35) (p := 14) rfl ?_); refine JH (t := 35) (p := 14) (v := ?vo_w58) (w1 := ((w53.setCell ⟨gb279, 0, none⟩ (.int .i64 ((qb x10_3 0).f0))).setCell ⟨gb279, 1, none⟩ (.int .i64 ((qb x10_3 0).f1)))) ?hg ?ho ?hn ?hr ?_; (case ho => rfl); (case hg => rfl); (case hn => rfl); (case hr => first | (go_simp; done) | (go_simp; rfl)); intro w58 hw; have n0_ : qa (Kd.Q k40 40 w58 w.heap.size (fun k_ => k_ ≠ gb278) (.slice (some ad277) x10_3.length co48) x10_3) := ⟨(by rw [hw]; exact (by (with_reducible repeat (first | apply Kd.jq | apply Kd.jr | apply Kd.jy)); exact Kd.Qh (Kd.Qf (p := ⟨gb279, 1, none⟩) (Kd.Qf (p := ⟨gb279, 0, none⟩) (Kd.ZI HO_10.out BK279.out (by decide)) (fun _ hk => hk.2) (.int .i64 ((qb x10_3 0).f0))) (fun _ hk => hk.2) (.int .i64 ((qb x10_3 0).f1))) (fun _ hk => hk.1.2)))⟩; have n1_ : qa (Kd.S k64 64 w58 w.heap.size (fun k_ => k_ ≠ gb254 ∧ k_ ≠ gb256 ∧ k_ ≠ gb279) u12 x12_3) := ⟨(by rw [hw]; exact (by (with_reducible repeat (first | apply Kd.zi | apply Kd.zk | apply Kd.zn)); exact Kd.zC (Kd.jo (p := ⟨gb279, 1, none⟩) (Kd.jo (p := ⟨gb279, 0, none⟩) (Kd.zC HO_12.out (fun k_ hk => (⟨hk, hk.2⟩ : _ ∧ k_ ≠ gb279))) (fun _ hk => hk.2) (.int .i64 ((qb x10_3 0).f0))) (fun _ hk => hk.2) (.int .i64 ((qb x10_3 0).f1))) (fun _ hk => ⟨hk.1.1.1, ⟨hk.1.1.2, hk.1.2⟩⟩)))⟩; have n2_ : qa (w58.heap[gb254]? = some (.cells #[.int .i64 x255000_3, .int .i64 x255001_3] 35 (0, 0))) := ⟨(by rw [hw]; exact (by (with_reducible repeat (first | refine qh ?_ _ | refine qc ?_ | refine qd ?_ _)); refine qJ ?_ NB254_279.out _; refine qJ ?_ NB254_279.out _; exact kq BK254))⟩; have n3_ : qa (w58.heap[gb256]? = some (.cells #[.int .i64 x257000_6, .int .i64 x257001_6] 35 (0, 0))) := ⟨(by rw [hw]; exact (by (with_reducible repeat (first | refine qh ?_ _ | refine qc ?_ | refine qd ?_ _)); refine qJ ?_ NB256_279.out _; refine qJ ?_ NB256_279.out _; exact kq BK256))⟩; have n4_ : qa (w58.heap[gb278]? = some (.cells #[.int .i64 ((qb x10_3 0).f0), .int .i64 ((qb x10_3 0).f1), .int .i64 ((qb x10_3 0).f2)] 40 (0, 0))) := ⟨(by rw [hw]; exact (by (with_reducible repeat (first | refine qh ?_ _ | refine qc ?_ | refine qd ?_ _)); refine qJ ?_ NB278_279.out _; refine qJ ?_ NB278_279.out _; exact kq BK278))⟩; have n5_ : qa (w58.heap[gb279]? = some (.cells #[.int .i64 ((qb x10_3 0).f0), .int .i64 ((qb x10_3 0).f1)] 35 (0, 0))) := ⟨(by rw [hw]; exact (by (with_reducible repeat (first | refine qh ?_ _ | refine qc ?_ | refine qd ?_ _)); refine zb (cs := #[.int .i64 ((qb x10_3 0).f0), .int .i64 0]) ?_ 1 _ rfl; refine zb (cs := #[.int .i64 0, .int .i64 0]) ?_ 0 _ rfl; exact kq BK279))⟩; have n6_ : qa (Below w.heap.size w w58) := ⟨(by rw [hw]; exact (by repeat (first | (with_reducible first | exact HB.out | apply qp | apply qo | apply qz | refine qg ?_ GE254.out | refine qg ?_ GE256.out | refine qg ?_ GE278.out | refine qg ?_ GE279.out) | exact HB.out)))⟩; clear hw; clear HO_10; clear HO_12; clear BK254; clear BK256; clear BK278; clear BK279; clear HB; have HO_10 := n0_; have HO_12 := n1_; have BK254 := n2_; have BK256 := n3_; have BK278 := n4_; have BK279 := n5_; have HB := n6_; clear n0_ n1_ n2_ n3_ n4_ n5_ n6_; have q59 : (1 : Int) ≤ ((x10_3.length : Int) : Int) := odt; obtain ⟨i059, hi059, _, hsz59, _⟩ := info_parts Zh; have hcut59 := Ju (P := Try.prog) 37 40 .i64 Try.underlying37 hi059 3 hsz59 (some ad277) x10_3.length co48 1 (by omega) q59; have hr59 := Kd.Q_drop (k := (1 : Int).toNat) HO_10.out (by omega); obtain ⟨A59, hA59⟩ : ∃ A1, A1 = (if co48 = (1 : Int).toNat then (some ad277) else ((some ad277) : Option Addr).map (·.add ((1 : Int).toNat * 3))) := ⟨_, rfl⟩; obtain ⟨c59, hc59⟩ : ∃ c1, c1 = co48 - (1 : Int).toNat := ⟨_, rfl⟩; have hy59 : y280.length = x10_3.length - (1 : Int).toNat := (by rw [Ny280.out, List.length_drop]); rw [← Ny280.out] at hr59; rw [← hy59, ← hA59, ← hc59] at hcut59; replace hr59 : Kd.Q k40 40 w58 w.heap.size (fun k_ => k_ ≠ gb278) (.slice A59 y280.length c59) y280 := (by rw [hA59, hc59, hy59]; exact hr59); have HE59 : qa ((Value.slice A59 y280.length c59).ownBlock = (.slice (some ad277) x10_3.length co48 : Value).ownBlock) := ⟨by rw [hA59]; split <;> (cases ((some ad277) : Option Addr) <;> rfl)⟩; clear hy59 hi059 hsz59 HO_10 hA59 hc59; have HO282 := qa.mk hr59; clear hr59; replace q59 := eq_true q59; have hcz60_0 : w58.cell? ⟨gb278, 0, none⟩ = some (.int .i64 ((qb x10_3 0).f0)) := (qf BK278.out 0).trans rfl; have hcz60_1 : w58.cell? ⟨gb278, 1, none⟩ = some (.int .i64 ((qb x10_3 0).f1)) := (qf BK278.out 1).trans rfl; have hcz60_2 : w58.cell? ⟨gb278, 2, none⟩ = some (.int .i64 ((qb x10_3 0).f2)) := (qf BK278.out 2).trans rfl; have hfz60_0 := qj BK278.out 0; have hfz60_1 := qj BK278.out 1; have hfz60_2 := qj BK278.out 2; have hcz61_0 : w58.cell? ⟨gb279, 0, none⟩ = some (.int .i64 ((qb x10_3 0).f0)) := (qf BK279.out 0).trans rfl; have hcz61_1 : w58.cell? ⟨gb279, 1, none⟩ = some (.int .i64 ((qb x10_3 0).f1)) := (qf BK279.out 1).trans rfl; have hfz61_0 := qj BK279.out 0; have hfz61_1 := qj BK279.out 1) | ((with_reducible refine jw (b := .append) (xs := #[.tmp 97, .tmp 100]) rfl ?_); at_builtin; refine Kd.Zo k64 (w0 := w) w.heap.size rfl (.tmp 97) (.tmp 100) 60 64 (.agg #[(.slice none 0 0), (.int .i64 0), (.int .i64 0)]) 40 rfl Try.underlying60 info64 rfl (by decide) (by omega) u12 x12_3 (⟨([] : List (S35)), (⟨(qb x10_3 0).f0, (qb x10_3 0).f1⟩ : S35)⟩ : S64) [.slice none 0 0, .int .i64 ((qb x10_3 0).f0), .int .i64 ((qb x10_3 0).f1)] (fun k_ => k_ ≠ gb254 ∧ k_ ≠ gb256 ∧ k_ ≠ gb279) (fun _ => False) rfl rfl ?aP (fun k_ hk_ => hk_.elim) ?aF ?aO ?aB ?aS ?aL ?_; (case aP => exact k64_mkM _ _ _ (⟨([] : List (S35)), (⟨(qb x10_3 0).f0, (qb x10_3 0).f1⟩ : S35)⟩ : S64) (Kd.Ql _ _ _ _ _)); (case aB => exact (by repeat (first | (with_reducible first | exact HB.out | apply qp | apply qo | apply qz | refine qg ?_ GE254.out | refine qg ?_ GE256.out | refine qg ?_ GE278.out | refine qg ?_ GE279.out) | exact HB.out))); (case aF => exact (fun k_ hk => ⟨Kd.jL (g := gb254) (o := .cells #[.int .i64 x255000_3, .int .i64 x255001_3] 35 (0, 0)) (kq BK254) k_ hk, Kd.jL (g := gb256) (o := .cells #[.int .i64 x257000_6, .int .i64 x257001_6] 35 (0, 0)) (kq BK256) k_ hk, Kd.jL (g := gb279) (o := .cells #[.int .i64 ((qb x10_3 0).f0), .int .i64 ((qb x10_3 0).f1)] 35 (0, 0)) (kq BK279) k_ hk⟩)); (case aO => exact (by (with_reducible repeat (first | apply Kd.zi | apply Kd.zk | apply Kd.zn)); exact Kd.zC HO_12.out (fun k_ hk => ⟨⟨hk.1, ⟨hk.2.1, hk.2.2⟩⟩, fun e_ => e_⟩))); (case aS => exact (qy (by repeat (first | (with_reducible first | exact HB.out | apply qp | apply qo | apply qz | refine qg ?_ GE254.out | refine qg ?_ GE256.out | refine qg ?_ GE278.out | refine qg ?_ GE279.out) | exact HB.out)))); (case aL => have := LMc47.out; omega); intro v284 w62 ho hb hg hat; rw [← Ny283.out] at ho; have n0_ := qa.mk (Kd.J4 (by (with_reducible repeat (first | apply Kd.jq | apply Kd.jr | apply Kd.jy)); exact HO282.out) (Kd.jN (by (with_reducible repeat (first | apply Kd.zi | apply Kd.zk | apply Kd.zn)); exact HO_12.out)) (by decide) hg); have n1_ := qa.mk (zy (g := gb254) (o := .cells #[.int .i64 x255000_3, .int .i64 x255001_3] 35 (0, 0)) (kq BK254) hg (Kd.QX HO_12.out BK254.out (by decide))); have n2_ := qa.mk (zy (g := gb256) (o := .cells #[.int .i64 x257000_6, .int .i64 x257001_6] 35 (0, 0)) (kq BK256) hg (Kd.QX HO_12.out BK256.out (by decide))); have n3_ := qa.mk (zy (g := gb278) (o := .cells #[.int .i64 ((qb x10_3 0).f0), .int .i64 ((qb x10_3 0).f1), .int .i64 ((qb x10_3 0).f2)] 40 (0, 0)) (kq BK278) hg (Kd.QX HO_12.out BK278.out (by decide))); have n4_ := qa.mk (zy (g := gb279) (o := .cells #[.int .i64 ((qb x10_3 0).f0), .int .i64 ((qb x10_3 0).f1)] 35 (0, 0)) (kq BK279) hg (Kd.QX HO_12.out BK279.out (by decide))); have n5_ := qa.mk (hb); have n6_ := qa.mk (ho); clear HO282; clear BK254; clear BK256; clear BK278; clear BK279; clear HB; clear HO_12; have HO282 := n0_; have BK254 := n1_; have BK256 := n2_; have BK278 := n3_; have BK279 := n4_; have HB := n5_; have HO285 := n6_; clear n0_ n1_ n2_ n3_ n4_ n5_ n6_; clear ho hb hg hat))
        go_roundg k3
        case measure => have := HK1.out; have := HJ6.out; have := HK3.out; omega
        case rel => exact ⟨(y280), (y283), (x255000_3), (x255001_3), H', ⟨by have := HK1.out; have := HJ6.out; have := HK3.out; omega⟩, ⟨by (with_reducible repeat (first | apply Kd.jq | apply Kd.jr | apply Kd.jy)); exact Kd.Qh HO282.out (fun _ hk => trivial)⟩, ⟨by (with_reducible repeat (first | apply Kd.zi | apply Kd.zk | apply Kd.zn)); exact Kd.zC HO285.out (fun _ hk => ⟨hk.1, hk.2.1⟩)⟩, ⟨kq BK254⟩, ⟨kq BK256⟩, ⟨by repeat (first | (with_reducible first | exact HB.out | apply qp | apply qo | apply qz | refine qg ?_ GE254.out | refine qg ?_ GE256.out | refine qg ?_ GE278.out | refine qg ?_ GE279.out) | exact HB.out)⟩⟩
       rw [if_neg c46] at H
       have c46b0 : (((qb x10_3 0).f2) == 1) = false := beq_eq_false_iff_ne.mpr c46
       have c46b1 : (((qb x10_3 0).f2) != 1) = true := bne_iff_ne.mpr c46
       obtain ⟨y286, hy286⟩ : ∃ y_ : List (S35), y_ = (([(⟨(qb x10_3 0).f0, (qb x10_3 0).f1⟩ : S35)] : List (S35))) := ⟨_, rfl⟩
       replace H : (if ((qb x10_3 0).f2) = 3 then (if (y280.length : Int) = 0 then (some (x257000_6, x257001_6, ([] : List (S64)), false, false)) else (if 0 < (y280.length : Int) then (if ((qb y280 0).f2) = 3 then (if y286.length < 8796093022208 then (if 1 ≤ (y280.length : Int) then (qi.j4 k3 (y280.drop (1 : Int).toNat) x12_3 x257000_6 x257001_6 ((qb x10_3 0).f0) ((qb x10_3 0).f1) ((qb x10_3 0).f2) (y286 ++ [(⟨(qb y280 0).f0, (qb y280 0).f1⟩ : S35)]) 0 0) else (none)) else (none)) else (some (x257000_6, x257001_6, ([] : List (S64)), false, false))) else (none))) else (qi.j4 k3 y280 x12_3 x257000_6 x257001_6 ((qb x10_3 0).f0) ((qb x10_3 0).f1) ((qb x10_3 0).f2) y286 0 0)) = some (r1, r2, r3, r4, r5) := by first | (rw [hy286]; with_reducible exact H) | (have H2_ := (Option.bind_some _ _).symm.trans H; rw [hy286]; with_reducible exact H2_) | (have H2_ := (Option.bind_some _ _).symm.trans H; with_reducible exact H2_) | with_reducible exact H | (rw [hy286]; exact H) | exact H
       have Ny286 := qa.mk hy286
       clear hy286
       have HC63 := qa.mk H
       clear H
       obtain ⟨Ao64, co64, eo64, _⟩ := Kd.ZL HO_10.out
       subst eo64
       have p277 : 0 ≤ (0 : Int) := (by omega)
       have q277 : 0 < (x10_3.length : Int) := odt
       obtain ⟨ad277, e277, hx277_0, hx277_1, hx277_2⟩ := zH (Kd.Qb HO_10.out).2.2 0 p277 q277
       cases e277
       have qi277 : (0 < x10_3.length) = True := eq_true (by omega)
       (try rw [show ((0 : Int)).toNat = 0 from rfl] at hx277_0)
       (try rw [show 0 * 3 = 0 from rfl] at hx277_0)
       (try rw [Addr.add_zero'] at hx277_0)
       (try rw [show ((0 : Int)).toNat = 0 from rfl] at hx277_1)
       (try rw [show 0 * 3 = 0 from rfl] at hx277_1)
       (try rw [Addr.add_zero'] at hx277_1)
       (try rw [show ((0 : Int)).toNat = 0 from rfl] at hx277_2)
       (try rw [show 0 * 3 = 0 from rfl] at hx277_2)
       (try rw [Addr.add_zero'] at hx277_2)
       replace p277 := eq_true p277
       replace q277 := eq_true q277
       go_upto_if 107 with (first | ((with_reducible refine zf (N := 13) rfl ?_); refine zm ?hg (N := 13) ?hd (cs := #[.int .i64 0, .int .i64 0, .int .i64 0]) (t := 40) ?hr ?_; (case hd => rfl); (case hg => rfl); (case hr => first | (go_simp; done) | (go_simp; rfl)); intro gb278 hg w65 hbox hb; have n0_ := qa.mk (Kd.QW (Kd.Q_elderB (by (with_reducible repeat (first | apply Kd.jq | apply Kd.jr | apply Kd.jy)); exact HO_10.out) gb278 (Nat.le_of_eq hg.symm)) hb); have n1_ := qa.mk (Kd.jA (by (with_reducible repeat (first | apply Kd.zi | apply Kd.zk | apply Kd.zn)); exact HO_12.out) hb); have n2_ := qa.mk (qN (g := gb254) (o := .cells #[.int .i64 x255000_3, .int .i64 x255001_3] 35 (0, 0)) (kq BK254) hb); have n3_ := qa.mk (qN (g := gb256) (o := .cells #[.int .i64 x257000_6, .int .i64 x257001_6] 35 (0, 0)) (kq BK256) hb); have n4_ := qa.mk (qE (by repeat (first | (with_reducible first | exact HB.out | apply qp | apply qo | apply qz | refine qg ?_ GE254.out | refine qg ?_ GE256.out) | exact HB.out)) hb); have n5_ := qa.mk (hbox); have n6_ := qa.mk ((by rw [hg]; exact (qy (by repeat (first | (with_reducible first | exact HB.out | apply qp | apply qo | apply qz | refine qg ?_ GE254.out | refine qg ?_ GE256.out) | exact HB.out))) : w.heap.size ≤ gb278)); have n7_ := qa.mk ((by rw [hg]; exact (qy (by repeat (first | (with_reducible first | exact HB.out | apply qp | apply qo | apply qz | refine qg ?_ GE254.out | refine qg ?_ GE256.out) | exact HB.out))) : w.heap.size ≤ gb278)); have n8_ := qa.mk ((by rw [hg]; exact Nat.ne_of_lt (qD (g := gb254) (o := .cells #[.int .i64 x255000_3, .int .i64 x255001_3] 35 (0, 0)) (kq BK254)) : gb254 ≠ gb278)); have n9_ := qa.mk ((by rw [hg]; exact Nat.ne_of_gt (qD (g := gb254) (o := .cells #[.int .i64 x255000_3, .int .i64 x255001_3] 35 (0, 0)) (kq BK254)) : gb278 ≠ gb254)); have n10_ := qa.mk ((by rw [hg]; exact Nat.ne_of_lt (qD (g := gb256) (o := .cells #[.int .i64 x257000_6, .int .i64 x257001_6] 35 (0, 0)) (kq BK256)) : gb256 ≠ gb278)); have n11_ := qa.mk ((by rw [hg]; exact Nat.ne_of_gt (qD (g := gb256) (o := .cells #[.int .i64 x257000_6, .int .i64 x257001_6] 35 (0, 0)) (kq BK256)) : gb278 ≠ gb256)); clear HO_10; clear HO_12; clear BK254; clear BK256; clear HB; have HO_10 := n0_; have HO_12 := n1_; have BK254 := n2_; have BK256 := n3_; have HB := n4_; have BK278 := n5_; have GW278 := n6_; have GE278 := n7_; have NB254_278 := n8_; have NB278_254 := n9_; have NB256_278 := n10_; have NB278_256 := n11_; clear n0_ n1_ n2_ n3_ n4_ n5_ n6_ n7_ n8_ n9_ n10_ n11_; clear hb hbox hg; have hnb66 := NB278_254.out; have hnc66 := NB254_278.out; have hnb67 := NB278_256.out; have hnc67 := NB256_278.out; have hcz68_0 : w65.cell? ⟨gb278, 0, none⟩ = some (.int .i64 0) := (qf BK278.out 0).trans rfl; have hcz68_1 : w65.cell? ⟨gb278, 1, none⟩ = some (.int .i64 0) := (qf BK278.out 1).trans rfl; have hcz68_2 : w65.cell? ⟨gb278, 2, none⟩ = some (.int .i64 0) := (qf BK278.out 2).trans rfl; have hfz68_0 := qj BK278.out 0; have hfz68_1 := qj BK278.out 1; have hfz68_2 := qj BK278.out 2) | ((with_reducible refine zf (N := 14) rfl ?_); refine zm ?hg (N := 14) ?hd (cs := #[.int .i64 0, .int .i64 0]) (t := 35) ?hr ?_; (case hd => rfl); (case hg => rfl); (case hr => first | (go_simp; done) | (go_simp; rfl)); intro gb279 hg w69 hbox hb; have n0_ := qa.mk (Kd.QW (by (with_reducible repeat (first | apply Kd.jq | apply Kd.jr | apply Kd.jy)); exact (Kd.Qh (Kd.Qf (p := ⟨gb278, 2, none⟩) (Kd.Qf (p := ⟨gb278, 1, none⟩) (Kd.Qf (p := ⟨gb278, 0, none⟩) (Kd.Qh HO_10.out (fun k_ hk => (⟨hk, hk.2⟩ : _ ∧ k_ ≠ gb278))) (fun _ hk => hk.2) (.int .i64 ((qb x10_3 0).f0))) (fun _ hk => hk.2) (.int .i64 ((qb x10_3 0).f1))) (fun _ hk => hk.2) (.int .i64 ((qb x10_3 0).f2))) (fun _ h_ => h_.1))) hb); have n1_ := qa.mk (Kd.jA (Kd.Zf (by (with_reducible repeat (first | apply Kd.zi | apply Kd.zk | apply Kd.zn)); exact (Kd.zC (Kd.jo (p := ⟨gb278, 2, none⟩) (Kd.jo (p := ⟨gb278, 1, none⟩) (Kd.jo (p := ⟨gb278, 0, none⟩) (Kd.S_types HO_12.out BK278.out (by decide)) (fun _ hk => hk.2) (.int .i64 ((qb x10_3 0).f0))) (fun _ hk => hk.2) (.int .i64 ((qb x10_3 0).f1))) (fun _ hk => hk.2) (.int .i64 ((qb x10_3 0).f2))) (fun _ h_ => h_.1))) gb279 (Nat.le_of_eq hg.symm)) hb); have n2_ := qa.mk (qN (g := gb254) (o := .cells #[.int .i64 x255000_3, .int .i64 x255001_3] 35 (0, 0)) (by (with_reducible repeat (first | refine qh ?_ _ | refine qc ?_ | refine qd ?_ _)); refine qJ ?_ NB254_278.out _; refine qJ ?_ NB254_278.out _; refine qJ ?_ NB254_278.out _; exact kq BK254) hb); have n3_ := qa.mk (qN (g := gb256) (o := .cells #[.int .i64 x257000_6, .int .i64 x257001_6] 35 (0, 0)) (by (with_reducible repeat (first | refine qh ?_ _ | refine qc ?_ | refine qd ?_ _)); refine qJ ?_ NB256_278.out _; refine qJ ?_ NB256_278.out _; refine qJ ?_ NB256_278.out _; exact kq BK256) hb); have n4_ := qa.mk (qN (g := gb278) (o := .cells #[.int .i64 ((qb x10_3 0).f0), .int .i64 ((qb x10_3 0).f1), .int .i64 ((qb x10_3 0).f2)] 40 (0, 0)) (by (with_reducible repeat (first | refine qh ?_ _ | refine qc ?_ | refine qd ?_ _)); refine zb (cs := #[.int .i64 ((qb x10_3 0).f0), .int .i64 ((qb x10_3 0).f1), .int .i64 0]) ?_ 2 _ rfl; refine zb (cs := #[.int .i64 ((qb x10_3 0).f0), .int .i64 0, .int .i64 0]) ?_ 1 _ rfl; refine zb (cs := #[.int .i64 0, .int .i64 0, .int .i64 0]) ?_ 0 _ rfl; exact kq BK278) hb); have n5_ := qa.mk (qE (by repeat (first | (with_reducible first | exact HB.out | apply qp | apply qo | apply qz | refine qg ?_ GE254.out | refine qg ?_ GE256.out | refine qg ?_ GE278.out) | exact HB.out)) hb); have n6_ := qa.mk (hbox); have n7_ := qa.mk ((by rw [hg]; exact (qy (by repeat (first | (with_reducible first | exact HB.out | apply qp | apply qo | apply qz | refine qg ?_ GE254.out | refine qg ?_ GE256.out | refine qg ?_ GE278.out) | exact HB.out))) : w.heap.size ≤ gb279)); have n8_ := qa.mk ((by rw [hg]; exact (qy (by repeat (first | (with_reducible first | exact HB.out | apply qp | apply qo | apply qz | refine qg ?_ GE254.out | refine qg ?_ GE256.out | refine qg ?_ GE278.out) | exact HB.out))) : w.heap.size ≤ gb279)); have n9_ := qa.mk ((by rw [hg]; exact Nat.ne_of_lt (qD (g := gb254) (o := .cells #[.int .i64 x255000_3, .int .i64 x255001_3] 35 (0, 0)) (by (with_reducible repeat (first | refine qh ?_ _ | refine qc ?_ | refine qd ?_ _)); refine qJ ?_ NB254_278.out _; refine qJ ?_ NB254_278.out _; refine qJ ?_ NB254_278.out _; exact kq BK254)) : gb254 ≠ gb279)); have n10_ := qa.mk ((by rw [hg]; exact Nat.ne_of_gt (qD (g := gb254) (o := .cells #[.int .i64 x255000_3, .int .i64 x255001_3] 35 (0, 0)) (by (with_reducible repeat (first | refine qh ?_ _ | refine qc ?_ | refine qd ?_ _)); refine qJ ?_ NB254_278.out _; refine qJ ?_ NB254_278.out _; refine qJ ?_ NB254_278.out _; exact kq BK254)) : gb279 ≠ gb254)); have n11_ := qa.mk ((by rw [hg]; exact Nat.ne_of_lt (qD (g := gb256) (o := .cells #[.int .i64 x257000_6, .int .i64 x257001_6] 35 (0, 0)) (by (with_reducible repeat (first | refine qh ?_ _ | refine qc ?_ | refine qd ?_ _)); refine qJ ?_ NB256_278.out _; refine qJ ?_ NB256_278.out _; refine qJ ?_ NB256_278.out _; exact kq BK256)) : gb256 ≠ gb279)); have n12_ := qa.mk ((by rw [hg]; exact Nat.ne_of_gt (qD (g := gb256) (o := .cells #[.int .i64 x257000_6, .int .i64 x257001_6] 35 (0, 0)) (by (with_reducible repeat (first | refine qh ?_ _ | refine qc ?_ | refine qd ?_ _)); refine qJ ?_ NB256_278.out _; refine qJ ?_ NB256_278.out _; refine qJ ?_ NB256_278.out _; exact kq BK256)) : gb279 ≠ gb256)); have n13_ := qa.mk ((by rw [hg]; exact Nat.ne_of_lt (qD (g := gb278) (o := .cells #[.int .i64 ((qb x10_3 0).f0), .int .i64 ((qb x10_3 0).f1), .int .i64 ((qb x10_3 0).f2)] 40 (0, 0)) (by (with_reducible repeat (first | refine qh ?_ _ | refine qc ?_ | refine qd ?_ _)); refine zb (cs := #[.int .i64 ((qb x10_3 0).f0), .int .i64 ((qb x10_3 0).f1), .int .i64 0]) ?_ 2 _ rfl; refine zb (cs := #[.int .i64 ((qb x10_3 0).f0), .int .i64 0, .int .i64 0]) ?_ 1 _ rfl; refine zb (cs := #[.int .i64 0, .int .i64 0, .int .i64 0]) ?_ 0 _ rfl; exact kq BK278)) : gb278 ≠ gb279)); have n14_ := qa.mk ((by rw [hg]; exact Nat.ne_of_gt (qD (g := gb278) (o := .cells #[.int .i64 ((qb x10_3 0).f0), .int .i64 ((qb x10_3 0).f1), .int .i64 ((qb x10_3 0).f2)] 40 (0, 0)) (by (with_reducible repeat (first | refine qh ?_ _ | refine qc ?_ | refine qd ?_ _)); refine zb (cs := #[.int .i64 ((qb x10_3 0).f0), .int .i64 ((qb x10_3 0).f1), .int .i64 0]) ?_ 2 _ rfl; refine zb (cs := #[.int .i64 ((qb x10_3 0).f0), .int .i64 0, .int .i64 0]) ?_ 1 _ rfl; refine zb (cs := #[.int .i64 0, .int .i64 0, .int .i64 0]) ?_ 0 _ rfl; exact kq BK278)) : gb279 ≠ gb278)); clear HO_10; clear HO_12; clear BK254; clear BK256; clear BK278; clear HB; have HO_10 := n0_; have HO_12 := n1_; have BK254 := n2_; have BK256 := n3_; have BK278 := n4_; have HB := n5_; have BK279 := n6_; have GW279 := n7_; have GE279 := n8_; have NB254_279 := n9_; have NB279_254 := n10_; have NB256_279 := n11_; have NB279_256 := n12_; have NB278_279 := n13_; have NB279_278 := n14_; clear n0_ n1_ n2_ n3_ n4_ n5_ n6_ n7_ n8_ n9_ n10_ n11_ n12_ n13_ n14_; clear hb hbox hg; have hnb70 := NB279_254.out; have hnc70 := NB254_279.out; have hnb71 := NB279_256.out; have hnc71 := NB256_279.out; have hnb72 := NB279_278.out; have hnc72 := NB278_279.out; have hcz73_0 : w69.cell? ⟨gb279, 0, none⟩ = some (.int .i64 0) := (qf BK279.out 0).trans rfl; have hcz73_1 : w69.cell? ⟨gb279, 1, none⟩ = some (.int .i64 0) := (qf BK279.out 1).trans rfl; have hfz73_0 := qj BK279.out 0; have hfz73_1 := qj BK279.out 1) | ((with_reducible refine qab (t := 35) (p := 14) rfl ?_); refine JH (t := 35) (p := 14) (v := ?vo_w74) (w1 := ((w69.setCell ⟨gb279, 0, none⟩ (.int .i64 ((qb x10_3 0).f0))).setCell ⟨gb279, 1, none⟩ (.int .i64 ((qb x10_3 0).f1)))) ?hg ?ho ?hn ?hr ?_; (case ho => rfl); (case hg => rfl); (case hn => rfl); (case hr => first | (go_simp; done) | (go_simp; rfl)); intro w74 hw; have n0_ : qa (Kd.Q k40 40 w74 w.heap.size (fun k_ => k_ ≠ gb278) (.slice (some ad277) x10_3.length co64) x10_3) := ⟨(by rw [hw]; exact (by (with_reducible repeat (first | apply Kd.jq | apply Kd.jr | apply Kd.jy)); exact Kd.Qh (Kd.Qf (p := ⟨gb279, 1, none⟩) (Kd.Qf (p := ⟨gb279, 0, none⟩) (Kd.ZI HO_10.out BK279.out (by decide)) (fun _ hk => hk.2) (.int .i64 ((qb x10_3 0).f0))) (fun _ hk => hk.2) (.int .i64 ((qb x10_3 0).f1))) (fun _ hk => hk.1.2)))⟩; have n1_ : qa (Kd.S k64 64 w74 w.heap.size (fun k_ => k_ ≠ gb254 ∧ k_ ≠ gb256 ∧ k_ ≠ gb279) u12 x12_3) := ⟨(by rw [hw]; exact (by (with_reducible repeat (first | apply Kd.zi | apply Kd.zk | apply Kd.zn)); exact Kd.zC (Kd.jo (p := ⟨gb279, 1, none⟩) (Kd.jo (p := ⟨gb279, 0, none⟩) (Kd.zC HO_12.out (fun k_ hk => (⟨hk, hk.2⟩ : _ ∧ k_ ≠ gb279))) (fun _ hk => hk.2) (.int .i64 ((qb x10_3 0).f0))) (fun _ hk => hk.2) (.int .i64 ((qb x10_3 0).f1))) (fun _ hk => ⟨hk.1.1.1, ⟨hk.1.1.2, hk.1.2⟩⟩)))⟩; have n2_ : qa (w74.heap[gb254]? = some (.cells #[.int .i64 x255000_3, .int .i64 x255001_3] 35 (0, 0))) := ⟨(by rw [hw]; exact (by (with_reducible repeat (first | refine qh ?_ _ | refine qc ?_ | refine qd ?_ _)); refine qJ ?_ NB254_279.out _; refine qJ ?_ NB254_279.out _; exact kq BK254))⟩; have n3_ : qa (w74.heap[gb256]? = some (.cells #[.int .i64 x257000_6, .int .i64 x257001_6] 35 (0, 0))) := ⟨(by rw [hw]; exact (by (with_reducible repeat (first | refine qh ?_ _ | refine qc ?_ | refine qd ?_ _)); refine qJ ?_ NB256_279.out _; refine qJ ?_ NB256_279.out _; exact kq BK256))⟩; have n4_ : qa (w74.heap[gb278]? = some (.cells #[.int .i64 ((qb x10_3 0).f0), .int .i64 ((qb x10_3 0).f1), .int .i64 ((qb x10_3 0).f2)] 40 (0, 0))) := ⟨(by rw [hw]; exact (by (with_reducible repeat (first | refine qh ?_ _ | refine qc ?_ | refine qd ?_ _)); refine qJ ?_ NB278_279.out _; refine qJ ?_ NB278_279.out _; exact kq BK278))⟩; have n5_ : qa (w74.heap[gb279]? = some (.cells #[.int .i64 ((qb x10_3 0).f0), .int .i64 ((qb x10_3 0).f1)] 35 (0, 0))) := ⟨(by rw [hw]; exact (by (with_reducible repeat (first | refine qh ?_ _ | refine qc ?_ | refine qd ?_ _)); refine zb (cs := #[.int .i64 ((qb x10_3 0).f0), .int .i64 0]) ?_ 1 _ rfl; refine zb (cs := #[.int .i64 0, .int .i64 0]) ?_ 0 _ rfl; exact kq BK279))⟩; have n6_ : qa (Below w.heap.size w w74) := ⟨(by rw [hw]; exact (by repeat (first | (with_reducible first | exact HB.out | apply qp | apply qo | apply qz | refine qg ?_ GE254.out | refine qg ?_ GE256.out | refine qg ?_ GE278.out | refine qg ?_ GE279.out) | exact HB.out)))⟩; clear hw; clear HO_10; clear HO_12; clear BK254; clear BK256; clear BK278; clear BK279; clear HB; have HO_10 := n0_; have HO_12 := n1_; have BK254 := n2_; have BK256 := n3_; have BK278 := n4_; have BK279 := n5_; have HB := n6_; clear n0_ n1_ n2_ n3_ n4_ n5_ n6_; have q75 : (1 : Int) ≤ ((x10_3.length : Int) : Int) := odt; obtain ⟨i075, hi075, _, hsz75, _⟩ := info_parts Zh; have hcut75 := Ju (P := Try.prog) 37 40 .i64 Try.underlying37 hi075 3 hsz75 (some ad277) x10_3.length co64 1 (by omega) q75; have hr75 := Kd.Q_drop (k := (1 : Int).toNat) HO_10.out (by omega); obtain ⟨A75, hA75⟩ : ∃ A1, A1 = (if co64 = (1 : Int).toNat then (some ad277) else ((some ad277) : Option Addr).map (·.add ((1 : Int).toNat * 3))) := ⟨_, rfl⟩; obtain ⟨c75, hc75⟩ : ∃ c1, c1 = co64 - (1 : Int).toNat := ⟨_, rfl⟩; have hy75 : y280.length = x10_3.length - (1 : Int).toNat := (by rw [Ny280.out, List.length_drop]); rw [← Ny280.out] at hr75; rw [← hy75, ← hA75, ← hc75] at hcut75; replace hr75 : Kd.Q k40 40 w74 w.heap.size (fun k_ => k_ ≠ gb278) (.slice A75 y280.length c75) y280 := (by rw [hA75, hc75, hy75]; exact hr75); have HE75 : qa ((Value.slice A75 y280.length c75).ownBlock = (.slice (some ad277) x10_3.length co64 : Value).ownBlock) := ⟨by rw [hA75]; split <;> (cases ((some ad277) : Option Addr) <;> rfl)⟩; clear hy75 hi075 hsz75 HO_10 hA75 hc75; have HO282 := qa.mk hr75; clear hr75; replace q75 := eq_true q75; have hcz76_0 : w74.cell? ⟨gb278, 0, none⟩ = some (.int .i64 ((qb x10_3 0).f0)) := (qf BK278.out 0).trans rfl; have hcz76_1 : w74.cell? ⟨gb278, 1, none⟩ = some (.int .i64 ((qb x10_3 0).f1)) := (qf BK278.out 1).trans rfl; have hcz76_2 : w74.cell? ⟨gb278, 2, none⟩ = some (.int .i64 ((qb x10_3 0).f2)) := (qf BK278.out 2).trans rfl; have hfz76_0 := qj BK278.out 0; have hfz76_1 := qj BK278.out 1; have hfz76_2 := qj BK278.out 2; have hcz77_0 : w74.cell? ⟨gb279, 0, none⟩ = some (.int .i64 ((qb x10_3 0).f0)) := (qf BK279.out 0).trans rfl; have hcz77_1 : w74.cell? ⟨gb279, 1, none⟩ = some (.int .i64 ((qb x10_3 0).f1)) := (qf BK279.out 1).trans rfl; have hfz77_0 := qj BK279.out 0; have hfz77_1 := qj BK279.out 1) | ((with_reducible refine zf (N := 103) rfl ?_); refine Kd.Zr k35 _ 35 ?hg (N := 103) ?hd (xs := ([(⟨(qb x10_3 0).f0, (qb x10_3 0).f1⟩ : S35)] : List (S35))) (inner := [.int .i64 ((qb x10_3 0).f0), .int .i64 ((qb x10_3 0).f1)]) (ok := fun _ => True) (okp := fun _ => True) ?hr ?hp (fun _ hk => hk) trivial (Below.refl _ _) (Nat.le_refl _) (by simp) ?_; (case hd => rfl); (case hg => rfl); (case hr => first | (go_simp; done) | (go_simp; rfl)); (case hp => exact (zx.c2 (show Kd.M k35 _ _ _ (⟨(qb x10_3 0).f0, (qb x10_3 0).f1⟩ : S35) [.int .i64 ((qb x10_3 0).f0), .int .i64 ((qb x10_3 0).f1)] from (QB _ _ _ (⟨(qb x10_3 0).f0, (qb x10_3 0).f1⟩ : S35) )) (zx.none _ _))); intro v287 w78 ho79 hb hg_ hnew_; clear hg_ hnew_; (first | rw [← Ny286.out] at ho79 | (simp only [Int.reduceToNat] at ho79; rw [← Ny286.out] at ho79)); have n0_ := qa.mk (Kd.QW (by (with_reducible repeat (first | apply Kd.jq | apply Kd.jr | apply Kd.jy)); exact HO282.out) hb); have n1_ := qa.mk (Kd.Zn (by (with_reducible repeat (first | apply Kd.zi | apply Kd.zk | apply Kd.zn)); exact HO_12.out) (Kd.QA ho79) hb); have n2_ := qa.mk (Kd.jZ (Kd.ZM (Kd.ZM (Kd.ZM ho79 (g := gb254) (o := .cells #[.int .i64 x255000_3, .int .i64 x255001_3] 35 (0, 0)) (kq BK254)) (g := gb256) (o := .cells #[.int .i64 x257000_6, .int .i64 x257001_6] 35 (0, 0)) (kq BK256)) (g := gb279) (o := .cells #[.int .i64 ((qb x10_3 0).f0), .int .i64 ((qb x10_3 0).f1)] 35 (0, 0)) (kq BK279)) (qy (by repeat (first | (with_reducible first | exact HB.out | apply qp | apply qo | apply qz | refine qg ?_ GE254.out | refine qg ?_ GE256.out | refine qg ?_ GE278.out | refine qg ?_ GE279.out) | exact HB.out)))); have n3_ := qa.mk (qN (g := gb254) (o := .cells #[.int .i64 x255000_3, .int .i64 x255001_3] 35 (0, 0)) (kq BK254) hb); have n4_ := qa.mk (qN (g := gb256) (o := .cells #[.int .i64 x257000_6, .int .i64 x257001_6] 35 (0, 0)) (kq BK256) hb); have n5_ := qa.mk (qN (g := gb278) (o := .cells #[.int .i64 ((qb x10_3 0).f0), .int .i64 ((qb x10_3 0).f1), .int .i64 ((qb x10_3 0).f2)] 40 (0, 0)) (kq BK278) hb); have n6_ := qa.mk (qN (g := gb279) (o := .cells #[.int .i64 ((qb x10_3 0).f0), .int .i64 ((qb x10_3 0).f1)] 35 (0, 0)) (kq BK279) hb); have n7_ := qa.mk (qE (by repeat (first | (with_reducible first | exact HB.out | apply qp | apply qo | apply qz | refine qg ?_ GE254.out | refine qg ?_ GE256.out | refine qg ?_ GE278.out | refine qg ?_ GE279.out) | exact HB.out)) hb); clear HO282; clear HO_12; clear BK254; clear BK256; clear BK278; clear BK279; clear HB; have HO282 := n0_; have HO_12 := n1_; have HO288 := n2_; have BK254 := n3_; have BK256 := n4_; have BK278 := n5_; have BK279 := n6_; have HB := n7_; clear n0_ n1_ n2_ n3_ n4_ n5_ n6_ n7_; clear hb ho79; obtain ⟨Ao80, co80, eo80⟩ := Kd.jJ HO288.out; subst eo80) | ((with_reducible refine zf (N := 15) rfl ?_); refine zm ?hg (N := 15) ?hd (cs := #[.slice none 0 0, .int .i64 0, .int .i64 0]) (t := 64) ?hr ?_; (case hd => rfl); (case hg => rfl); (case hr => first | (go_simp; done) | (go_simp; rfl)); intro gb289 hg w81 hbox hb; have n0_ := qa.mk (Kd.QW (by (with_reducible repeat (first | apply Kd.jq | apply Kd.jr | apply Kd.jy)); exact HO282.out) hb); have n1_ := qa.mk (Kd.jA (Kd.Zf (by (with_reducible repeat (first | apply Kd.zi | apply Kd.zk | apply Kd.zn)); exact HO_12.out) gb289 (Nat.le_of_eq hg.symm)) hb); have n2_ := qa.mk (Kd.QJ (rq HO288) hb); have n3_ := qa.mk (qN (g := gb254) (o := .cells #[.int .i64 x255000_3, .int .i64 x255001_3] 35 (0, 0)) (kq BK254) hb); have n4_ := qa.mk (qN (g := gb256) (o := .cells #[.int .i64 x257000_6, .int .i64 x257001_6] 35 (0, 0)) (kq BK256) hb); have n5_ := qa.mk (qN (g := gb278) (o := .cells #[.int .i64 ((qb x10_3 0).f0), .int .i64 ((qb x10_3 0).f1), .int .i64 ((qb x10_3 0).f2)] 40 (0, 0)) (kq BK278) hb); have n6_ := qa.mk (qN (g := gb279) (o := .cells #[.int .i64 ((qb x10_3 0).f0), .int .i64 ((qb x10_3 0).f1)] 35 (0, 0)) (kq BK279) hb); have n7_ := qa.mk (qE (by repeat (first | (with_reducible first | exact HB.out | apply qp | apply qo | apply qz | refine qg ?_ GE254.out | refine qg ?_ GE256.out | refine qg ?_ GE278.out | refine qg ?_ GE279.out) | exact HB.out)) hb); have n8_ := qa.mk (hbox); have n9_ := qa.mk ((by rw [hg]; exact (qy (by repeat (first | (with_reducible first | exact HB.out | apply qp | apply qo | apply qz | refine qg ?_ GE254.out | refine qg ?_ GE256.out | refine qg ?_ GE278.out | refine qg ?_ GE279.out) | exact HB.out))) : w.heap.size ≤ gb289)); have n10_ := qa.mk ((by rw [hg]; exact (qy (by repeat (first | (with_reducible first | exact HB.out | apply qp | apply qo | apply qz | refine qg ?_ GE254.out | refine qg ?_ GE256.out | refine qg ?_ GE278.out | refine qg ?_ GE279.out) | exact HB.out))) : w.heap.size ≤ gb289)); have n11_ := qa.mk ((by rw [hg]; exact Nat.ne_of_lt (qD (g := gb254) (o := .cells #[.int .i64 x255000_3, .int .i64 x255001_3] 35 (0, 0)) (kq BK254)) : gb254 ≠ gb289)); have n12_ := qa.mk ((by rw [hg]; exact Nat.ne_of_gt (qD (g := gb254) (o := .cells #[.int .i64 x255000_3, .int .i64 x255001_3] 35 (0, 0)) (kq BK254)) : gb289 ≠ gb254)); have n13_ := qa.mk ((by rw [hg]; exact Nat.ne_of_lt (qD (g := gb256) (o := .cells #[.int .i64 x257000_6, .int .i64 x257001_6] 35 (0, 0)) (kq BK256)) : gb256 ≠ gb289)); have n14_ := qa.mk ((by rw [hg]; exact Nat.ne_of_gt (qD (g := gb256) (o := .cells #[.int .i64 x257000_6, .int .i64 x257001_6] 35 (0, 0)) (kq BK256)) : gb289 ≠ gb256)); have n15_ := qa.mk ((by rw [hg]; exact Nat.ne_of_lt (qD (g := gb278) (o := .cells #[.int .i64 ((qb x10_3 0).f0), .int .i64 ((qb x10_3 0).f1), .int .i64 ((qb x10_3 0).f2)] 40 (0, 0)) (kq BK278)) : gb278 ≠ gb289)); have n16_ := qa.mk ((by rw [hg]; exact Nat.ne_of_gt (qD (g := gb278) (o := .cells #[.int .i64 ((qb x10_3 0).f0), .int .i64 ((qb x10_3 0).f1), .int .i64 ((qb x10_3 0).f2)] 40 (0, 0)) (kq BK278)) : gb289 ≠ gb278)); have n17_ := qa.mk ((by rw [hg]; exact Nat.ne_of_lt (qD (g := gb279) (o := .cells #[.int .i64 ((qb x10_3 0).f0), .int .i64 ((qb x10_3 0).f1)] 35 (0, 0)) (kq BK279)) : gb279 ≠ gb289)); have n18_ := qa.mk ((by rw [hg]; exact Nat.ne_of_gt (qD (g := gb279) (o := .cells #[.int .i64 ((qb x10_3 0).f0), .int .i64 ((qb x10_3 0).f1)] 35 (0, 0)) (kq BK279)) : gb289 ≠ gb279)); clear HO282; clear HO_12; clear HO288; clear BK254; clear BK256; clear BK278; clear BK279; clear HB; have HO282 := n0_; have HO_12 := n1_; have HO288 := n2_; have BK254 := n3_; have BK256 := n4_; have BK278 := n5_; have BK279 := n6_; have HB := n7_; have BK289 := n8_; have GW289 := n9_; have GE289 := n10_; have NB254_289 := n11_; have NB289_254 := n12_; have NB256_289 := n13_; have NB289_256 := n14_; have NB278_289 := n15_; have NB289_278 := n16_; have NB279_289 := n17_; have NB289_279 := n18_; clear n0_ n1_ n2_ n3_ n4_ n5_ n6_ n7_ n8_ n9_ n10_ n11_ n12_ n13_ n14_ n15_ n16_ n17_ n18_; clear hb hbox hg; have hnb82 := NB289_254.out; have hnc82 := NB254_289.out; have hnb83 := NB289_256.out; have hnc83 := NB256_289.out; have hnb84 := NB289_278.out; have hnc84 := NB278_289.out; have hnb85 := NB289_279.out; have hnc85 := NB279_289.out; have hcz86_0 : w81.cell? ⟨gb289, 0, none⟩ = some (.slice none 0 0) := (qf BK289.out 0).trans rfl; have hcz86_1 : w81.cell? ⟨gb289, 1, none⟩ = some (.int .i64 0) := (qf BK289.out 1).trans rfl; have hcz86_2 : w81.cell? ⟨gb289, 2, none⟩ = some (.int .i64 0) := (qf BK289.out 2).trans rfl; have hfz86_0 := qj BK289.out 0; have hfz86_1 := qj BK289.out 1; have hfz86_2 := qj BK289.out 2; have hcz87_0 : w81.cell? ⟨gb278, 0, none⟩ = some (.int .i64 ((qb x10_3 0).f0)) := (qf BK278.out 0).trans rfl; have hcz87_1 : w81.cell? ⟨gb278, 1, none⟩ = some (.int .i64 ((qb x10_3 0).f1)) := (qf BK278.out 1).trans rfl; have hcz87_2 : w81.cell? ⟨gb278, 2, none⟩ = some (.int .i64 ((qb x10_3 0).f2)) := (qf BK278.out 2).trans rfl; have hfz87_0 := qj BK278.out 0; have hfz87_1 := qj BK278.out 1; have hfz87_2 := qj BK278.out 2))
       (try simp only [Act.put, List.setIfInBounds_toArray, List.set_cons_zero, List.set_cons_succ])
       go_cut [10] (fun v10 wc => ∃ (kq : Nat) (x10_62 : List (S40)) (x255000_62 : Int) (x255001_62 : Int) (x290000_62 : List (S35)) (u290000 : Value), qa (qi.j4 kq x10_62 x12_3 x257000_6 x257001_6 ((qb x10_3 0).f0) ((qb x10_3 0).f1) ((qb x10_3 0).f2) x290000_62 0 0 = some (r1, r2, r3, r4, r5)) ∧ qa (kq ≤ k3) ∧ qa (Kd.Q k40 40 wc w.heap.size (fun k_ => k_ ≠ gb278) v10 x10_62) ∧ qa (Kd.S k64 64 wc w.heap.size (fun k_ => some k_ ≠ (u290000 : Value).ownBlock ∧ k_ ≠ gb254 ∧ k_ ≠ gb256 ∧ k_ ≠ gb279 ∧ k_ ≠ gb289) u12 x12_3) ∧ qa (Kd.R k35 35 wc w.heap.size (fun k_ => k_ ≠ gb254 ∧ k_ ≠ gb256 ∧ k_ ≠ gb279) u290000 x290000_62) ∧ qa (wc.heap[gb254]? = some (.cells #[.int .i64 x255000_62, .int .i64 x255001_62] 35 (0, 0))) ∧ qa (wc.heap[gb256]? = some (.cells #[.int .i64 x257000_6, .int .i64 x257001_6] 35 (0, 0))) ∧ qa (wc.heap[gb278]? = some (.cells #[.int .i64 ((qb x10_3 0).f0), .int .i64 ((qb x10_3 0).f1), .int .i64 ((qb x10_3 0).f2)] 40 (0, 0))) ∧ qa (wc.heap[gb279]? = some (.cells #[.int .i64 ((qb x10_3 0).f0), .int .i64 ((qb x10_3 0).f1)] 35 (0, 0))) ∧ qa (wc.heap[gb289]? = some (.cells #[u290000, .int .i64 0, .int .i64 0] 64 (0, 0))) ∧ qa (Below w.heap.size w wc))
       case first =>
        have H := HC63.out
        clear HC63
        by_cases c88 : ((qb x10_3 0).f2) = 3
        case neg =>
         rw [if_neg c88] at H
         have c88b0 : (((qb x10_3 0).f2) == 3) = false := beq_eq_false_iff_ne.mpr c88
         have c88b1 : (((qb x10_3 0).f2) != 3) = true := bne_iff_ne.mpr c88
         (first | rw [c88b0] | (simp only [qA, qB]; rw [c88b0]) | skip)
         have H' := qa.mk H
         clear H
         go_wp2
         go_meet
         case rel => exact ⟨_, (y280), (x255000_3), (x255001_3), (y286), (.slice Ao80 y286.length co80), H', ⟨by have := HK1.out; have := HJ6.out; have := HK3.out; first | omega | exact Nat.le_refl _⟩, ⟨by (with_reducible repeat (first | apply Kd.jq | apply Kd.jr | apply Kd.jy)); exact Kd.Qh (Kd.Qf (p := ⟨gb289, 2, none⟩) (Kd.Qf (p := ⟨gb289, 1, none⟩) (Kd.Qf (p := ⟨gb289, 0, none⟩) (Kd.ZI HO282.out BK289.out (by decide)) (fun _ hk => hk.2) (.slice Ao80 y286.length co80)) (fun _ hk => hk.2) (.int .i64 0)) (fun _ hk => hk.2) (.int .i64 0)) (fun _ hk => hk.1)⟩, ⟨by (with_reducible repeat (first | apply Kd.zi | apply Kd.zk | apply Kd.zn)); exact Kd.zC (Kd.jo (p := ⟨gb289, 2, none⟩) (Kd.jo (p := ⟨gb289, 1, none⟩) (Kd.jo (p := ⟨gb289, 0, none⟩) (Kd.zC HO_12.out (fun k_ hk => (⟨hk, hk.2⟩ : _ ∧ k_ ≠ gb289))) (fun _ hk => hk.2) (.slice Ao80 y286.length co80)) (fun _ hk => hk.2) (.int .i64 0)) (fun _ hk => hk.2) (.int .i64 0)) (fun _ hk => ⟨hk.1.1.2, ⟨hk.1.1.1.1, ⟨hk.1.1.1.2.1, ⟨hk.1.1.1.2.2, hk.1.2⟩⟩⟩⟩)⟩, ⟨by (with_reducible repeat (first | apply Kd.zX | apply Kd.z8 | apply Kd.zR)); exact Kd.zq (Kd.jh (p := ⟨gb289, 2, none⟩) (Kd.jh (p := ⟨gb289, 1, none⟩) (Kd.jh (p := ⟨gb289, 0, none⟩) (Kd.jR HO288.out BK289.out (by decide)) (fun _ hk => hk.2) (.slice Ao80 y286.length co80)) (fun _ hk => hk.2) (.int .i64 0)) (fun _ hk => hk.2) (.int .i64 0)) (fun _ hk => ⟨hk.1.1.1.2, ⟨hk.1.1.2, hk.1.2⟩⟩)⟩, ⟨by (with_reducible repeat (first | refine qh ?_ _ | refine qc ?_ | refine qd ?_ _)); refine qJ ?_ NB254_289.out _; refine qJ ?_ NB254_289.out _; refine qJ ?_ NB254_289.out _; exact kq BK254⟩, ⟨by (with_reducible repeat (first | refine qh ?_ _ | refine qc ?_ | refine qd ?_ _)); refine qJ ?_ NB256_289.out _; refine qJ ?_ NB256_289.out _; refine qJ ?_ NB256_289.out _; exact kq BK256⟩, ⟨by (with_reducible repeat (first | refine qh ?_ _ | refine qc ?_ | refine qd ?_ _)); refine qJ ?_ NB278_289.out _; refine qJ ?_ NB278_289.out _; refine qJ ?_ NB278_289.out _; exact kq BK278⟩, ⟨by (with_reducible repeat (first | refine qh ?_ _ | refine qc ?_ | refine qd ?_ _)); refine qJ ?_ NB279_289.out _; refine qJ ?_ NB279_289.out _; refine qJ ?_ NB279_289.out _; exact kq BK279⟩, ⟨by (with_reducible repeat (first | refine qh ?_ _ | refine qc ?_ | refine qd ?_ _)); refine zb (cs := #[.slice Ao80 y286.length co80, .int .i64 0, .int .i64 0]) ?_ 2 _ rfl; refine zb (cs := #[.slice Ao80 y286.length co80, .int .i64 0, .int .i64 0]) ?_ 1 _ rfl; refine zb (cs := #[.slice none 0 0, .int .i64 0, .int .i64 0]) ?_ 0 _ rfl; exact kq BK289⟩, ⟨by repeat (first | (with_reducible first | exact HB.out | apply qp | apply qo | apply qz | refine qg ?_ GE254.out | refine qg ?_ GE256.out | refine qg ?_ GE278.out | refine qg ?_ GE279.out | refine qg ?_ GE289.out) | exact HB.out)⟩⟩
        rw [if_pos c88] at H
        have c88b0 : (((qb x10_3 0).f2) == 3) = true := beq_iff_eq.mpr c88
        have c88b1 : (((qb x10_3 0).f2) != 3) = false := bne_eq_false_iff_eq.mpr c88
        clear c88
        (first | rw [c88b0] | (simp only [qA, qB]; rw [c88b0]) | skip)
        by_cases c89 : (y280.length : Int) = 0
        ·rw [if_pos c89] at H
         have c89b0 : ((y280.length : Int) == 0) = true := beq_iff_eq.mpr c89
         have c89b1 : ((y280.length : Int) != 0) = false := bne_eq_false_iff_eq.mpr c89
         clear c89
         simp only [Option.some.injEq, Prod.mk.injEq] at H
         obtain ⟨rfl, rfl, rfl, rfl, rfl⟩ := H
         have hnb90 := NB256_254.out
         have hnc90 := NB254_256.out
         have hnb91 := NB256_278.out
         have hnc91 := NB278_256.out
         have hnb92 := NB256_279.out
         have hnc92 := NB279_256.out
         have hnb93 := NB256_289.out
         have hnc93 := NB289_256.out
         have hcz94_0 : w81.cell? ⟨gb256, 0, none⟩ = some (.int .i64 x257000_6) := (qf BK256.out 0).trans rfl
         have hcz94_1 : w81.cell? ⟨gb256, 1, none⟩ = some (.int .i64 x257001_6) := (qf BK256.out 1).trans rfl
         have hfz94_0 := qj BK256.out 0
         have hfz94_1 := qj BK256.out 1
         have hnb95 := NB254_278.out
         have hnc95 := NB278_254.out
         have hnb96 := NB254_279.out
         have hnc96 := NB279_254.out
         have hnb97 := NB254_289.out
         have hnc97 := NB289_254.out
         have hcz98_0 : w81.cell? ⟨gb254, 0, none⟩ = some (.int .i64 x255000_3) := (qf BK254.out 0).trans rfl
         have hcz98_1 : w81.cell? ⟨gb254, 1, none⟩ = some (.int .i64 x255001_3) := (qf BK254.out 1).trans rfl
         have hfz98_0 := qj BK254.out 0
         have hfz98_1 := qj BK254.out 1
         go_wp2
         refine bodyPost_ret (QD (rs := [.cell 2 35, .tmp 3, .tmp 4, .tmp 5]) rfl (by simp) (.cell gb254 35 #[.int .i64 x257000_6, .int .i64 x257001_6] (0, 0) _ rfl (by (with_reducible repeat (first | refine qh ?_ _ | refine qc ?_ | refine qd ?_ _)); refine zb (cs := #[.int .i64 x257000_6, .int .i64 x255001_3]) ?_ 1 _ rfl; refine zb (cs := #[.int .i64 x255000_3, .int .i64 x255001_3]) ?_ 0 _ rfl; refine qJ ?_ NB254_289.out _; refine qJ ?_ NB254_289.out _; refine qJ ?_ NB254_289.out _; exact kq BK254) Try.underlying35 rfl (by kernel_rfl) (.tmp (.tmp (.tmp .nil))))) rfl ?_
         exact ⟨_, by first | rfl | (simp [qR, qU] <;> rfl) | (simp [*, qR, qU] <;> rfl), by first | exact Kd.Jf _ _ _ _ _ | exact Kd.Jj _ _ _ _ _ | exact Kd.Jh _ _ _ _ _ | exact Kd.Jk _ _ _ _ _ | exact Kd.Ql _ _ _ _ _, by repeat (first | (with_reducible first | exact HB.out | apply qp | apply qo | apply qz | refine qg ?_ GE254.out | refine qg ?_ GE256.out | refine qg ?_ GE278.out | refine qg ?_ GE279.out | refine qg ?_ GE289.out) | exact HB.out)⟩
        rw [if_neg c89] at H
        have c89b0 : ((y280.length : Int) == 0) = false := beq_eq_false_iff_ne.mpr c89
        have c89b1 : ((y280.length : Int) != 0) = true := bne_iff_ne.mpr c89
        have c89b2 : ¬ (y280 = []) := fun h_ => c89 (by rw [h_]; rfl)
        by_cases c99 : 0 < (y280.length : Int)
        case neg =>
         rw [if_neg c99] at H
         exact absurd H (by simp)
        rw [if_pos c99] at H
        have c99b0 : decide (0 < (y280.length : Int)) = true := decide_eq_true c99
        have c99b1 : decide (0 < y280.length) = true := decide_eq_true (by omega)
        clear c99
        by_cases c100 : ((qb y280 0).f2) = 3
        case neg =>
         rw [if_neg c100] at H
         have c100b0 : (((qb y280 0).f2) == 3) = false := beq_eq_false_iff_ne.mpr c100
         have c100b1 : (((qb y280 0).f2) != 3) = true := bne_iff_ne.mpr c100
         simp only [Option.some.injEq, Prod.mk.injEq] at H
         obtain ⟨rfl, rfl, rfl, rfl, rfl⟩ := H
         have p290 : 0 ≤ (0 : Int) := (by omega)
         have q290 : 0 < (y280.length : Int) := odt
         obtain ⟨ad290, e290, hx290_0, hx290_1, hx290_2⟩ := zH (Kd.Qb HO282.out).2.2 0 p290 q290
         cases e290
         have qi290 : (0 < y280.length) = True := eq_true (by omega)
         (try rw [show ((0 : Int)).toNat = 0 from rfl] at hx290_0)
         (try rw [show 0 * 3 = 0 from rfl] at hx290_0)
         (try rw [Addr.add_zero'] at hx290_0)
         (try rw [show ((0 : Int)).toNat = 0 from rfl] at hx290_1)
         (try rw [show 0 * 3 = 0 from rfl] at hx290_1)
         (try rw [Addr.add_zero'] at hx290_1)
         (try rw [show ((0 : Int)).toNat = 0 from rfl] at hx290_2)
         (try rw [show 0 * 3 = 0 from rfl] at hx290_2)
         (try rw [Addr.add_zero'] at hx290_2)
         have hn290_0 : ad290.block ≠ gb289 := Kd.zg (Kd.JG HO282.out BK289.out (by decide))
         have hn290_1 : ad290.block ≠ gb289 := Kd.zg (Kd.JG HO282.out BK289.out (by decide))
         have hn290_2 : ad290.block ≠ gb289 := Kd.zg (Kd.JG HO282.out BK289.out (by decide))
         replace hx290_0 := (cell_far (p := ⟨gb289, 0, none⟩) (by first | (rw [add_block]; exact hn290_0) | (show (Addr.add _ _).block ≠ _; rw [add_block]; exact hn290_0) | exact hn290_0) (.slice Ao80 y286.length co80)).trans hx290_0
         replace hx290_1 := (cell_far (p := ⟨gb289, 0, none⟩) (by first | (rw [add_block]; exact hn290_0) | (show (Addr.add _ _).block ≠ _; rw [add_block]; exact hn290_0) | exact hn290_0) (.slice Ao80 y286.length co80)).trans hx290_1
         replace hx290_2 := (cell_far (p := ⟨gb289, 0, none⟩) (by first | (rw [add_block]; exact hn290_0) | (show (Addr.add _ _).block ≠ _; rw [add_block]; exact hn290_0) | exact hn290_0) (.slice Ao80 y286.length co80)).trans hx290_2
         replace hx290_0 := (cell_far (p := ⟨gb289, 1, none⟩) (by first | (rw [add_block]; exact hn290_1) | (show (Addr.add _ _).block ≠ _; rw [add_block]; exact hn290_1) | exact hn290_1) (.int .i64 0)).trans hx290_0
         replace hx290_1 := (cell_far (p := ⟨gb289, 1, none⟩) (by first | (rw [add_block]; exact hn290_1) | (show (Addr.add _ _).block ≠ _; rw [add_block]; exact hn290_1) | exact hn290_1) (.int .i64 0)).trans hx290_1
         replace hx290_2 := (cell_far (p := ⟨gb289, 1, none⟩) (by first | (rw [add_block]; exact hn290_1) | (show (Addr.add _ _).block ≠ _; rw [add_block]; exact hn290_1) | exact hn290_1) (.int .i64 0)).trans hx290_2
         replace hx290_0 := (cell_far (p := ⟨gb289, 2, none⟩) (by first | (rw [add_block]; exact hn290_2) | (show (Addr.add _ _).block ≠ _; rw [add_block]; exact hn290_2) | exact hn290_2) (.int .i64 0)).trans hx290_0
         replace hx290_1 := (cell_far (p := ⟨gb289, 2, none⟩) (by first | (rw [add_block]; exact hn290_2) | (show (Addr.add _ _).block ≠ _; rw [add_block]; exact hn290_2) | exact hn290_2) (.int .i64 0)).trans hx290_1
         replace hx290_2 := (cell_far (p := ⟨gb289, 2, none⟩) (by first | (rw [add_block]; exact hn290_2) | (show (Addr.add _ _).block ≠ _; rw [add_block]; exact hn290_2) | exact hn290_2) (.int .i64 0)).trans hx290_2
         clear hn290_0
         clear hn290_1
         clear hn290_2
         replace p290 := eq_true p290
         replace q290 := eq_true q290
         have hnb110 := NB256_254.out
         have hnc110 := NB254_256.out
         have hnb111 := NB256_278.out
         have hnc111 := NB278_256.out
         have hnb112 := NB256_279.out
         have hnc112 := NB279_256.out
         have hnb113 := NB256_289.out
         have hnc113 := NB289_256.out
         have hcz114_0 : w81.cell? ⟨gb256, 0, none⟩ = some (.int .i64 x257000_6) := (qf BK256.out 0).trans rfl
         have hcz114_1 : w81.cell? ⟨gb256, 1, none⟩ = some (.int .i64 x257001_6) := (qf BK256.out 1).trans rfl
         have hfz114_0 := qj BK256.out 0
         have hfz114_1 := qj BK256.out 1
         have hnb115 := NB254_278.out
         have hnc115 := NB278_254.out
         have hnb116 := NB254_279.out
         have hnc116 := NB279_254.out
         have hnb117 := NB254_289.out
         have hnc117 := NB289_254.out
         have hcz118_0 : w81.cell? ⟨gb254, 0, none⟩ = some (.int .i64 x255000_3) := (qf BK254.out 0).trans rfl
         have hcz118_1 : w81.cell? ⟨gb254, 1, none⟩ = some (.int .i64 x255001_3) := (qf BK254.out 1).trans rfl
         have hfz118_0 := qj BK254.out 0
         have hfz118_1 := qj BK254.out 1
         go_wp2
         refine bodyPost_ret (QD (rs := [.cell 2 35, .tmp 3, .tmp 4, .tmp 5]) rfl (by simp) (.cell gb254 35 #[.int .i64 x257000_6, .int .i64 x257001_6] (0, 0) _ rfl (by (with_reducible repeat (first | refine qh ?_ _ | refine qc ?_ | refine qd ?_ _)); refine zb (cs := #[.int .i64 x257000_6, .int .i64 x255001_3]) ?_ 1 _ rfl; refine zb (cs := #[.int .i64 x255000_3, .int .i64 x255001_3]) ?_ 0 _ rfl; refine qJ ?_ NB254_289.out _; refine qJ ?_ NB254_289.out _; refine qJ ?_ NB254_289.out _; exact kq BK254) Try.underlying35 rfl (by kernel_rfl) (.tmp (.tmp (.tmp .nil))))) rfl ?_
         exact ⟨_, by first | rfl | (simp [qR, qU] <;> rfl) | (simp [*, qR, qU] <;> rfl), by first | exact Kd.Jf _ _ _ _ _ | exact Kd.Jj _ _ _ _ _ | exact Kd.Jh _ _ _ _ _ | exact Kd.Jk _ _ _ _ _ | exact Kd.Ql _ _ _ _ _, by repeat (first | (with_reducible first | exact HB.out | apply qp | apply qo | apply qz | refine qg ?_ GE254.out | refine qg ?_ GE256.out | refine qg ?_ GE278.out | refine qg ?_ GE279.out | refine qg ?_ GE289.out) | exact HB.out)⟩
        rw [if_pos c100] at H
        have c100b0 : (((qb y280 0).f2) == 3) = true := beq_iff_eq.mpr c100
        have c100b1 : (((qb y280 0).f2) != 3) = false := bne_eq_false_iff_eq.mpr c100
        clear c100
        by_cases c101 : y286.length < 8796093022208
        case neg =>
         rw [if_neg c101] at H
         exact absurd H (by simp)
        rw [if_pos c101] at H
        have LMc101 := qa.mk c101
        clear c101
        obtain ⟨y293, hy293⟩ : ∃ y_ : List (S35), y_ = (y286 ++ [(⟨(qb y280 0).f0, (qb y280 0).f1⟩ : S35)]) := ⟨_, rfl⟩
        replace H : (if 1 ≤ (y280.length : Int) then (qi.j4 k3 (y280.drop (1 : Int).toNat) x12_3 x257000_6 x257001_6 ((qb x10_3 0).f0) ((qb x10_3 0).f1) ((qb x10_3 0).f2) y293 0 0) else (none)) = some (r1, r2, r3, r4, r5) := by first | (rw [hy293]; with_reducible exact H) | (have H2_ := (Option.bind_some _ _).symm.trans H; rw [hy293]; with_reducible exact H2_) | (have H2_ := (Option.bind_some _ _).symm.trans H; with_reducible exact H2_) | with_reducible exact H | (rw [hy293]; exact H) | exact H
        have Ny293 := qa.mk hy293
        clear hy293
        by_cases c102 : 1 ≤ (y280.length : Int)
        case neg =>
         rw [if_neg c102] at H
         exact absurd H (by simp)
        rw [if_pos c102] at H
        have c102b0 := eq_true c102
        have c102b1 : decide (1 ≤ (y280.length : Int)) = true := decide_eq_true c102
        clear c102
        obtain ⟨y296, hy296⟩ : ∃ y_ : List (S40), y_ = (y280.drop (1 : Int).toNat) := ⟨_, rfl⟩
        replace H : (qi.j4 k3 y296 x12_3 x257000_6 x257001_6 ((qb x10_3 0).f0) ((qb x10_3 0).f1) ((qb x10_3 0).f2) y293 0 0) = some (r1, r2, r3, r4, r5) := by first | (rw [hy296]; with_reducible exact H) | (have H2_ := (Option.bind_some _ _).symm.trans H; rw [hy296]; with_reducible exact H2_) | (have H2_ := (Option.bind_some _ _).symm.trans H; with_reducible exact H2_) | with_reducible exact H | (rw [hy296]; exact H) | exact H
        have Ny296 := qa.mk hy296
        clear hy296
        have H' := qa.mk H
        clear H
        have p290 : 0 ≤ (0 : Int) := (by omega)
        have q290 : 0 < (y280.length : Int) := odt
        obtain ⟨ad290, e290, hx290_0, hx290_1, hx290_2⟩ := zH (Kd.Qb HO282.out).2.2 0 p290 q290
        cases e290
        have qi290 : (0 < y280.length) = True := eq_true (by omega)
        (try rw [show ((0 : Int)).toNat = 0 from rfl] at hx290_0)
        (try rw [show 0 * 3 = 0 from rfl] at hx290_0)
        (try rw [Addr.add_zero'] at hx290_0)
        (try rw [show ((0 : Int)).toNat = 0 from rfl] at hx290_1)
        (try rw [show 0 * 3 = 0 from rfl] at hx290_1)
        (try rw [Addr.add_zero'] at hx290_1)
        (try rw [show ((0 : Int)).toNat = 0 from rfl] at hx290_2)
        (try rw [show 0 * 3 = 0 from rfl] at hx290_2)
        (try rw [Addr.add_zero'] at hx290_2)
        have hn290_0 : ad290.block ≠ gb289 := Kd.zg (Kd.JG HO282.out BK289.out (by decide))
        have hn290_1 : ad290.block ≠ gb289 := Kd.zg (Kd.JG HO282.out BK289.out (by decide))
        have hn290_2 : ad290.block ≠ gb289 := Kd.zg (Kd.JG HO282.out BK289.out (by decide))
        replace hx290_0 := (cell_far (p := ⟨gb289, 0, none⟩) (by first | (rw [add_block]; exact hn290_0) | (show (Addr.add _ _).block ≠ _; rw [add_block]; exact hn290_0) | exact hn290_0) (.slice Ao80 y286.length co80)).trans hx290_0
        replace hx290_1 := (cell_far (p := ⟨gb289, 0, none⟩) (by first | (rw [add_block]; exact hn290_0) | (show (Addr.add _ _).block ≠ _; rw [add_block]; exact hn290_0) | exact hn290_0) (.slice Ao80 y286.length co80)).trans hx290_1
        replace hx290_2 := (cell_far (p := ⟨gb289, 0, none⟩) (by first | (rw [add_block]; exact hn290_0) | (show (Addr.add _ _).block ≠ _; rw [add_block]; exact hn290_0) | exact hn290_0) (.slice Ao80 y286.length co80)).trans hx290_2
        replace hx290_0 := (cell_far (p := ⟨gb289, 1, none⟩) (by first | (rw [add_block]; exact hn290_1) | (show (Addr.add _ _).block ≠ _; rw [add_block]; exact hn290_1) | exact hn290_1) (.int .i64 0)).trans hx290_0
        replace hx290_1 := (cell_far (p := ⟨gb289, 1, none⟩) (by first | (rw [add_block]; exact hn290_1) | (show (Addr.add _ _).block ≠ _; rw [add_block]; exact hn290_1) | exact hn290_1) (.int .i64 0)).trans hx290_1
        replace hx290_2 := (cell_far (p := ⟨gb289, 1, none⟩) (by first | (rw [add_block]; exact hn290_1) | (show (Addr.add _ _).block ≠ _; rw [add_block]; exact hn290_1) | exact hn290_1) (.int .i64 0)).trans hx290_2
        replace hx290_0 := (cell_far (p := ⟨gb289, 2, none⟩) (by first | (rw [add_block]; exact hn290_2) | (show (Addr.add _ _).block ≠ _; rw [add_block]; exact hn290_2) | exact hn290_2) (.int .i64 0)).trans hx290_0
        replace hx290_1 := (cell_far (p := ⟨gb289, 2, none⟩) (by first | (rw [add_block]; exact hn290_2) | (show (Addr.add _ _).block ≠ _; rw [add_block]; exact hn290_2) | exact hn290_2) (.int .i64 0)).trans hx290_1
        replace hx290_2 := (cell_far (p := ⟨gb289, 2, none⟩) (by first | (rw [add_block]; exact hn290_2) | (show (Addr.add _ _).block ≠ _; rw [add_block]; exact hn290_2) | exact hn290_2) (.int .i64 0)).trans hx290_2
        clear hn290_0
        clear hn290_1
        clear hn290_2
        replace p290 := eq_true p290
        replace q290 := eq_true q290
        try go_wp2
        have n0_ : qa (Kd.Q k40 40 (((w81.setCell ⟨gb289, 0, none⟩ (.slice Ao80 y286.length co80)).setCell ⟨gb289, 1, none⟩ (.int .i64 0)).setCell ⟨gb289, 2, none⟩ (.int .i64 0)) w.heap.size (fun k_ => k_ ≠ gb278) (.slice (some ad290) y280.length c75) y280) := ⟨by exact Kd.Qh (Kd.Qf (p := ⟨gb289, 2, none⟩) (Kd.Qf (p := ⟨gb289, 1, none⟩) (Kd.Qf (p := ⟨gb289, 0, none⟩) (Kd.ZI HO282.out BK289.out (by decide)) (fun _ hk => hk.2) (.slice Ao80 y286.length co80)) (fun _ hk => hk.2) (.int .i64 0)) (fun _ hk => hk.2) (.int .i64 0)) (fun _ hk => hk.1)⟩
        have n1_ : qa (Kd.S k64 64 (((w81.setCell ⟨gb289, 0, none⟩ (.slice Ao80 y286.length co80)).setCell ⟨gb289, 1, none⟩ (.int .i64 0)).setCell ⟨gb289, 2, none⟩ (.int .i64 0)) w.heap.size (fun k_ => some k_ ≠ (.slice Ao80 y286.length co80 : Value).ownBlock ∧ k_ ≠ gb254 ∧ k_ ≠ gb256 ∧ k_ ≠ gb279 ∧ k_ ≠ gb289) u12 x12_3) := ⟨by exact Kd.zC (Kd.jo (p := ⟨gb289, 2, none⟩) (Kd.jo (p := ⟨gb289, 1, none⟩) (Kd.jo (p := ⟨gb289, 0, none⟩) (Kd.zC HO_12.out (fun k_ hk => (⟨hk, hk.2⟩ : _ ∧ k_ ≠ gb289))) (fun _ hk => hk.2) (.slice Ao80 y286.length co80)) (fun _ hk => hk.2) (.int .i64 0)) (fun _ hk => hk.2) (.int .i64 0)) (fun _ hk => ⟨hk.1.1.2, ⟨hk.1.1.1.1, ⟨hk.1.1.1.2.1, ⟨hk.1.1.1.2.2, hk.1.2⟩⟩⟩⟩)⟩
        have n2_ : qa (Kd.R k35 35 (((w81.setCell ⟨gb289, 0, none⟩ (.slice Ao80 y286.length co80)).setCell ⟨gb289, 1, none⟩ (.int .i64 0)).setCell ⟨gb289, 2, none⟩ (.int .i64 0)) w.heap.size (fun k_ => k_ ≠ gb254 ∧ k_ ≠ gb256 ∧ k_ ≠ gb279) (.slice Ao80 y286.length co80) y286) := ⟨by exact Kd.zq (Kd.jh (p := ⟨gb289, 2, none⟩) (Kd.jh (p := ⟨gb289, 1, none⟩) (Kd.jh (p := ⟨gb289, 0, none⟩) (Kd.jR HO288.out BK289.out (by decide)) (fun _ hk => hk.2) (.slice Ao80 y286.length co80)) (fun _ hk => hk.2) (.int .i64 0)) (fun _ hk => hk.2) (.int .i64 0)) (fun _ hk => ⟨hk.1.1.1.2, ⟨hk.1.1.2, hk.1.2⟩⟩)⟩
        have n3_ : qa ((((w81.setCell ⟨gb289, 0, none⟩ (.slice Ao80 y286.length co80)).setCell ⟨gb289, 1, none⟩ (.int .i64 0)).setCell ⟨gb289, 2, none⟩ (.int .i64 0)).heap[gb254]? = some (.cells #[.int .i64 x255000_3, .int .i64 x255001_3] 35 (0, 0))) := ⟨by refine qJ ?_ NB254_289.out _; refine qJ ?_ NB254_289.out _; refine qJ ?_ NB254_289.out _; exact kq BK254⟩
        have n4_ : qa ((((w81.setCell ⟨gb289, 0, none⟩ (.slice Ao80 y286.length co80)).setCell ⟨gb289, 1, none⟩ (.int .i64 0)).setCell ⟨gb289, 2, none⟩ (.int .i64 0)).heap[gb256]? = some (.cells #[.int .i64 x257000_6, .int .i64 x257001_6] 35 (0, 0))) := ⟨by refine qJ ?_ NB256_289.out _; refine qJ ?_ NB256_289.out _; refine qJ ?_ NB256_289.out _; exact kq BK256⟩
        have n5_ : qa ((((w81.setCell ⟨gb289, 0, none⟩ (.slice Ao80 y286.length co80)).setCell ⟨gb289, 1, none⟩ (.int .i64 0)).setCell ⟨gb289, 2, none⟩ (.int .i64 0)).heap[gb278]? = some (.cells #[.int .i64 ((qb x10_3 0).f0), .int .i64 ((qb x10_3 0).f1), .int .i64 ((qb x10_3 0).f2)] 40 (0, 0))) := ⟨by refine qJ ?_ NB278_289.out _; refine qJ ?_ NB278_289.out _; refine qJ ?_ NB278_289.out _; exact kq BK278⟩
        have n6_ : qa ((((w81.setCell ⟨gb289, 0, none⟩ (.slice Ao80 y286.length co80)).setCell ⟨gb289, 1, none⟩ (.int .i64 0)).setCell ⟨gb289, 2, none⟩ (.int .i64 0)).heap[gb279]? = some (.cells #[.int .i64 ((qb x10_3 0).f0), .int .i64 ((qb x10_3 0).f1)] 35 (0, 0))) := ⟨by refine qJ ?_ NB279_289.out _; refine qJ ?_ NB279_289.out _; refine qJ ?_ NB279_289.out _; exact kq BK279⟩
        have n7_ : qa ((((w81.setCell ⟨gb289, 0, none⟩ (.slice Ao80 y286.length co80)).setCell ⟨gb289, 1, none⟩ (.int .i64 0)).setCell ⟨gb289, 2, none⟩ (.int .i64 0)).heap[gb289]? = some (.cells #[.slice Ao80 y286.length co80, .int .i64 0, .int .i64 0] 64 (0, 0))) := ⟨by refine zb (cs := #[.slice Ao80 y286.length co80, .int .i64 0, .int .i64 0]) ?_ 2 _ rfl; refine zb (cs := #[.slice Ao80 y286.length co80, .int .i64 0, .int .i64 0]) ?_ 1 _ rfl; refine zb (cs := #[.slice none 0 0, .int .i64 0, .int .i64 0]) ?_ 0 _ rfl; exact kq BK289⟩
        have n8_ : qa (Below w.heap.size w (((w81.setCell ⟨gb289, 0, none⟩ (.slice Ao80 y286.length co80)).setCell ⟨gb289, 1, none⟩ (.int .i64 0)).setCell ⟨gb289, 2, none⟩ (.int .i64 0))) := ⟨by repeat (first | (with_reducible first | exact HB.out | apply qp | apply qo | apply qz | refine qg ?_ GE254.out | refine qg ?_ GE256.out | refine qg ?_ GE278.out | refine qg ?_ GE279.out | refine qg ?_ GE289.out) | exact HB.out)⟩
        (try clear HO282)
        (try clear HO_12)
        (try clear HO288)
        (try clear BK254)
        (try clear BK256)
        (try clear BK278)
        (try clear BK279)
        (try clear BK289)
        (try clear HB)
        generalize (((w81.setCell ⟨gb289, 0, none⟩ (.slice Ao80 y286.length co80)).setCell ⟨gb289, 1, none⟩ (.int .i64 0)).setCell ⟨gb289, 2, none⟩ (.int .i64 0)) = w103 at n0_ n1_ n2_ n3_ n4_ n5_ n6_ n7_ n8_ ⊢
        have HO282 := n0_
        have HO_12 := n1_
        have HO288 := n2_
        have BK254 := n3_
        have BK256 := n4_
        have BK278 := n5_
        have BK279 := n6_
        have BK289 := n7_
        have HB := n8_
        clear n0_ n1_ n2_ n3_ n4_ n5_ n6_ n7_ n8_
        have n0_ := qa.mk (Kd.jy HO282.out)
        have n1_ := qa.mk (Kd.zn HO_12.out)
        have n2_ := qa.mk (Kd.zR HO288.out)
        have n3_ := qa.mk (qc BK254.out)
        have n4_ := qa.mk (qc BK256.out)
        have n5_ := qa.mk (qc BK278.out)
        have n6_ := qa.mk (qc BK279.out)
        have n7_ := qa.mk (qc BK289.out)
        have n8_ := qa.mk (qz HB.out)
        clear HO282
        clear HO_12
        clear HO288
        clear BK254
        clear BK256
        clear BK278
        clear BK279
        clear BK289
        clear HB
        have HO282 := n0_
        have HO_12 := n1_
        have HO288 := n2_
        have BK254 := n3_
        have BK256 := n4_
        have BK278 := n5_
        have BK279 := n6_
        have BK289 := n7_
        have HB := n8_
        clear n0_ n1_ n2_ n3_ n4_ n5_ n6_ n7_ n8_
        have p291 : 0 ≤ (0 : Int) := (by omega)
        have q291 : 0 < (y280.length : Int) := odt
        obtain ⟨ad291, e291, hx291_0, hx291_1, hx291_2⟩ := zH (Kd.Qb HO282.out).2.2 0 p291 q291
        obtain rfl : ad290 = ad291 := (by injection e291)
        have qi291 : (0 < y280.length) = True := eq_true (by omega)
        (try rw [show ((0 : Int)).toNat = 0 from rfl] at hx291_0)
        (try rw [show 0 * 3 = 0 from rfl] at hx291_0)
        (try rw [Addr.add_zero'] at hx291_0)
        (try rw [show ((0 : Int)).toNat = 0 from rfl] at hx291_1)
        (try rw [show 0 * 3 = 0 from rfl] at hx291_1)
        (try rw [Addr.add_zero'] at hx291_1)
        (try rw [show ((0 : Int)).toNat = 0 from rfl] at hx291_2)
        (try rw [show 0 * 3 = 0 from rfl] at hx291_2)
        (try rw [Addr.add_zero'] at hx291_2)
        replace p291 := eq_true p291
        replace q291 := eq_true q291
        have p292 : 0 ≤ (0 : Int) := (by omega)
        have q292 : 0 < (y280.length : Int) := odt
        obtain ⟨ad292, e292, hx292_0, hx292_1, hx292_2⟩ := zH (Kd.Qb HO282.out).2.2 0 p292 q292
        obtain rfl : ad290 = ad292 := (by injection e292)
        have qi292 : (0 < y280.length) = True := eq_true (by omega)
        (try rw [show ((0 : Int)).toNat = 0 from rfl] at hx292_0)
        (try rw [show 0 * 3 = 0 from rfl] at hx292_0)
        (try rw [Addr.add_zero'] at hx292_0)
        (try rw [show ((0 : Int)).toNat = 0 from rfl] at hx292_1)
        (try rw [show 0 * 3 = 0 from rfl] at hx292_1)
        (try rw [Addr.add_zero'] at hx292_1)
        (try rw [show ((0 : Int)).toNat = 0 from rfl] at hx292_2)
        (try rw [show 0 * 3 = 0 from rfl] at hx292_2)
        (try rw [Addr.add_zero'] at hx292_2)
        replace p292 := eq_true p292
        replace q292 := eq_true q292
        refine j6 (n := 15) (S := fun w' => w'.cell? ⟨gb289, 0, none⟩ = some (.slice Ao80 y286.length co80) ∧ w'.cell? ⟨gb289, 1, none⟩ = some (.int .i64 0) ∧ w'.cell? ⟨gb289, 2, none⟩ = some (.int .i64 0) ∧ w'.cell? ad290 = some (.int .i64 ((qb y280 0).f0)) ∧ w'.cell? ⟨ad290.block, ad290.off + 1, none⟩ = some (.int .i64 ((qb y280 0).f1)) ∧ w'.cell? ⟨ad290.block, ad290.off + 2, none⟩ = some (.int .i64 ((qb y280 0).f2)) ∧ w'.cell? ad290 = some (.int .i64 ((qb y280 0).f0)) ∧ w'.cell? ⟨ad290.block, ad290.off + 1, none⟩ = some (.int .i64 ((qb y280 0).f1)) ∧ w'.cell? ⟨ad290.block, ad290.off + 2, none⟩ = some (.int .i64 ((qb y280 0).f2))) (ds := [12, 14]) #[false, false, false, false, false, false, false, false, false, false, false, false, false, false, false] (by kernel_rfl) rfl rfl ⟨(qf BK289.out 0).trans rfl, (qf BK289.out 1).trans rfl, (qf BK289.out 2).trans rfl, hx291_0, hx291_1, hx291_2, hx292_0, hx292_1, hx292_2⟩ (fun hHeld => ?_); refine Qv qi.tab31 qi.bits31 (fun HT_ HW_ => ?_)
        generalize w103.drew = w104 at HO282 HO_12 HO288 BK254 BK256 BK278 BK279 BK289 HB hx291_0 hx291_1 hx291_2 hx292_0 hx292_1 hx292_2 hHeld ⊢
        refine qV (i := 0) (N := some 119) (v := ?_) (a' := ?_) #[true, false, false, false, false, false, false, false, false, false, false, false, false, false, false] rfl rfl (zh HT_.out (by kernel_rfl)) (fun _ _ _ h => h) (Or.inl ⟨by rfl, ?_⟩) ?_ ?_
        rotate_left
        ·intro w'
         go_simp
         with_reducible rfl
        rotate_left
        ·simp only [Act.put, List.setIfInBounds_toArray, List.set_cons_zero, List.set_cons_succ, qA, qB]
         rfl
        refine qV (i := 2) (N := some 121) (v := ?_) (a' := ?_) #[true, false, true, false, false, false, false, false, false, false, false, false, false, false, false] rfl rfl (zh HT_.out (by kernel_rfl)) (fun _ _ _ h => h) (Or.inl ⟨by rfl, ?_⟩) ?_ ?_
        rotate_left
        ·intro w'
         go_simp
         with_reducible rfl
        rotate_left
        ·simp only [Act.put, List.setIfInBounds_toArray, List.set_cons_zero, List.set_cons_succ, qA, qB]
         rfl
        refine qV (i := 3) (N := some 122) (v := ?_) (a' := ?_) #[true, false, true, true, false, false, false, false, false, false, false, false, false, false, false] rfl rfl (zh HT_.out (by kernel_rfl)) (fun _ _ _ h => h) (Or.inl ⟨by rfl, ?_⟩) ?_ ?_
        rotate_left
        ·intro w'
         go_simp
         with_reducible rfl
        rotate_left
        ·simp only [Act.put, List.setIfInBounds_toArray, List.set_cons_zero, List.set_cons_succ, qA, qB]
         rfl
        refine qV (i := 4) (N := some 123) (v := ?_) (a' := ?_) #[true, false, true, true, true, false, false, false, false, false, false, false, false, false, false] rfl rfl (zh HT_.out (by kernel_rfl)) (fun _ _ _ h => h) (Or.inl ⟨by rfl, ?_⟩) ?_ ?_
        rotate_left
        ·intro w'
         go_simp
         with_reducible rfl
        rotate_left
        ·simp only [Act.put, List.setIfInBounds_toArray, List.set_cons_zero, List.set_cons_succ, qA, qB]
         rfl
        refine qV (i := 6) (N := some 125) (v := ?_) (a' := ?_) #[true, false, true, true, true, false, true, false, false, false, false, false, false, false, false] rfl rfl (zh HT_.out (by kernel_rfl)) (fun _ _ _ h => h) (Or.inl ⟨by rfl, ?_⟩) ?_ ?_
        rotate_left
        ·intro w'
         go_simp
         with_reducible rfl
        rotate_left
        ·simp only [Act.put, List.setIfInBounds_toArray, List.set_cons_zero, List.set_cons_succ, qA, qB]
         rfl
        refine qV (i := 7) (N := some 126) (v := ?_) (a' := ?_) #[true, false, true, true, true, false, true, true, false, false, false, false, false, false, false] rfl rfl (zh HT_.out (by kernel_rfl)) (fun _ _ _ h => h) (Or.inl ⟨by rfl, ?_⟩) ?_ ?_
        rotate_left
        ·intro w'
         go_simp
         with_reducible rfl
        rotate_left
        ·simp only [Act.put, List.setIfInBounds_toArray, List.set_cons_zero, List.set_cons_succ, qA, qB]
         rfl
        refine qV (i := 8) (N := some 127) (v := ?_) (a' := ?_) #[true, false, true, true, true, false, true, true, true, false, false, false, false, false, false] rfl rfl (zh HT_.out (by kernel_rfl)) (fun _ _ _ h => h) (Or.inl ⟨by rfl, ?_⟩) ?_ ?_
        rotate_left
        ·intro w'
         go_simp
         with_reducible rfl
        rotate_left
        ·simp only [Act.put, List.setIfInBounds_toArray, List.set_cons_zero, List.set_cons_succ, qA, qB]
         rfl
        refine zB (i := 1) (N := some 120) (v := ?_) (a' := ?_) #[true, true, true, true, true, false, true, true, true, false, false, false, false, false, false] rfl rfl (zP HT_.out HW_.out (by kernel_rfl)) (fun _ _ _ h => h) (Or.inl ⟨by rfl, ?_⟩) hHeld ?_ ?_
        rotate_left
        ·rintro w' ⟨s0, s1, s2, s3, s4, s5, s6, s7, s8⟩
         go_simp
         with_reducible rfl
        rotate_left
        ·simp only [Act.put, List.setIfInBounds_toArray, List.set_cons_zero, List.set_cons_succ, qA, qB]
         rfl
        refine zB (i := 5) (N := some 124) (v := ?_) (a' := ?_) #[true, true, true, true, true, true, true, true, true, false, false, false, false, false, false] rfl rfl (zP HT_.out HW_.out (by kernel_rfl)) (fun _ _ _ h => h) (Or.inl ⟨by rfl, ?_⟩) hHeld ?_ ?_
        rotate_left
        ·rintro w' ⟨s0, s1, s2, s3, s4, s5, s6, s7, s8⟩
         go_simp
         with_reducible rfl
        rotate_left
        ·simp only [Act.put, List.setIfInBounds_toArray, List.set_cons_zero, List.set_cons_succ, qA, qB]
         rfl
        refine zB (i := 9) (N := some 128) (v := ?_) (a' := ?_) #[true, true, true, true, true, true, true, true, true, true, false, false, false, false, false] rfl rfl (zP HT_.out HW_.out (by kernel_rfl)) (fun _ _ _ h => h) (Or.inl ⟨by rfl, ?_⟩) hHeld ?_ ?_
        rotate_left
        ·rintro w' ⟨s0, s1, s2, s3, s4, s5, s6, s7, s8⟩
         go_simp
         with_reducible rfl
        rotate_left
        ·simp only [Act.put, List.setIfInBounds_toArray, List.set_cons_zero, List.set_cons_succ, qA, qB]
         rfl
        refine qV (i := 10) (N := some 129) (v := ?_) (a' := ?_) #[true, true, true, true, true, true, true, true, true, true, true, false, false, false, false] rfl rfl (zh HT_.out (by kernel_rfl)) (fun _ _ _ h => h) (Or.inl ⟨by rfl, ?_⟩) ?_ ?_
        rotate_left
        ·intro w'
         go_simp
         with_reducible rfl
        rotate_left
        ·simp only [Act.put, List.setIfInBounds_toArray, List.set_cons_zero, List.set_cons_succ, qA, qB]
         rfl
        refine jE (i := 11) (N := some 130) #[true, true, true, true, true, true, true, true, true, true, true, true, false, false, false] rfl rfl (jT HT_.out (by kernel_rfl)) (by decide) (fun K hK => ?_)
        refine Jv (w1 := ?_) (v := ?_) (by rfl) rfl ?_ ?_
        rotate_left 2
        ·go_simp
         constructor
         ·rfl
         rfl
        refine hK.out _ _ ⟨(qf (qd BK289.out _) 0).trans rfl, (qf (qd BK289.out _) 1).trans rfl, (qf (qd BK289.out _) 2).trans rfl, (World.cell?_alloc_lt _ _ _ (World.block_lt_of_cell? _ _ (hHeld.2.2.2.1))).trans (hHeld.2.2.2.1), (World.cell?_alloc_lt _ _ _ (World.block_lt_of_cell? _ _ (hHeld.2.2.2.2.1))).trans (hHeld.2.2.2.2.1), (World.cell?_alloc_lt _ _ _ (World.block_lt_of_cell? _ _ (hHeld.2.2.2.2.2.1))).trans (hHeld.2.2.2.2.2.1), (World.cell?_alloc_lt _ _ _ (World.block_lt_of_cell? _ _ (hHeld.2.2.2.2.2.2.1))).trans (hHeld.2.2.2.2.2.2.1), (World.cell?_alloc_lt _ _ _ (World.block_lt_of_cell? _ _ (hHeld.2.2.2.2.2.2.2.1))).trans (hHeld.2.2.2.2.2.2.2.1), (World.cell?_alloc_lt _ _ _ (World.block_lt_of_cell? _ _ (hHeld.2.2.2.2.2.2.2.2))).trans (hHeld.2.2.2.2.2.2.2.2)⟩ (fun hHeld => ?_)
        clear hK K
        refine zY (a' := ?_) ?_ ?_
        rotate_left
        ·show Act.put _ (some 130) _ = _
         simp only [Act.put, List.setIfInBounds_toArray, List.set_cons_zero, List.set_cons_succ, qA, qB]
         rfl
        refine ZB (i := 12) (N := some 131) #[true, true, true, true, true, true, true, true, true, true, true, true, true, false, false] rfl rfl (jT HT_.out (by kernel_rfl)) (by decide) (fun K hK => ?_)
        refine Kd.Ja k35 (w0 := w) w.heap.size (by rfl) (.tmp 120) (.tmp 130) 33 35 (.agg #[(.int .i64 0), (.int .i64 0)]) 16 rfl Try.underlying33 Jr rfl (by decide) (by omega) (.slice Ao80 y286.length co80) y286 (⟨(qb y280 0).f0, (qb y280 0).f1⟩ : S35) [.int .i64 ((qb y280 0).f0), .int .i64 ((qb y280 0).f1)] (fun k_ => k_ ≠ gb254 ∧ k_ ≠ gb256 ∧ k_ ≠ gb279) (fun _ => False) rfl rfl ?aP (fun _ hk => hk.elim) ?aF ?aO ?aB ?aS ?aL ?_
        (case aP => exact QB _ _ _ (⟨(qb y280 0).f0, (qb y280 0).f1⟩ : S35))
        (case aB => exact (by repeat (first | (with_reducible first | exact HB.out | apply qp | apply qo | apply qz | refine qg ?_ GE254.out | refine qg ?_ GE256.out | refine qg ?_ GE278.out | refine qg ?_ GE279.out | refine qg ?_ GE289.out) | exact HB.out)))
        (case aF => exact (fun k_ hk => ⟨Kd.jL (g := gb254) (o := .cells #[.int .i64 x255000_3, .int .i64 x255001_3] 35 (0, 0)) (kq BK254) k_ hk, Kd.jL (g := gb256) (o := .cells #[.int .i64 x257000_6, .int .i64 x257001_6] 35 (0, 0)) (kq BK256) k_ hk, Kd.jL (g := gb279) (o := .cells #[.int .i64 ((qb x10_3 0).f0), .int .i64 ((qb x10_3 0).f1)] 35 (0, 0)) (kq BK279) k_ hk⟩))
        (case aO => exact (rq HO288))
        (case aS => exact (qy (by repeat (first | (with_reducible first | exact HB.out | apply qp | apply qo | apply qz | refine qg ?_ GE254.out | refine qg ?_ GE256.out | refine qg ?_ GE278.out | refine qg ?_ GE279.out | refine qg ?_ GE289.out) | exact HB.out))))
        (case aL => have := LMc101.out; omega)
        intro v294 w105 ho hb hg hat
        rw [← Ny293.out] at ho
        have n0_ := qa.mk (Kd.J4 (by (with_reducible repeat (first | apply Kd.jq | apply Kd.jr | apply Kd.jy)); exact HO282.out) (Kd.R_typed (rq HO288)) (by decide) hg)
        have n1_ := qa.mk (Kd.S_after (ok := (fun k_ => k_ ≠ gb254 ∧ k_ ≠ gb256 ∧ k_ ≠ gb279 ∧ k_ ≠ gb289)) (by (with_reducible repeat (first | apply Kd.zi | apply Kd.zk | apply Kd.zn)); exact Kd.zC HO_12.out (fun _ hk => ⟨⟨hk.2.1, ⟨hk.2.2.1, ⟨hk.2.2.2.1, hk.2.2.2.2⟩⟩⟩, hk.1⟩)) hg hat)
        have n2_ := qa.mk (zy (g := gb254) (o := .cells #[.int .i64 x255000_3, .int .i64 x255001_3] 35 (0, 0)) (kq BK254) hg (Kd.Q0 HO288.out (fun _ hk => hk.1)))
        have n3_ := qa.mk (zy (g := gb256) (o := .cells #[.int .i64 x257000_6, .int .i64 x257001_6] 35 (0, 0)) (kq BK256) hg (Kd.Q0 HO288.out (fun _ hk => hk.2.1)))
        have n4_ := qa.mk (zy (g := gb278) (o := .cells #[.int .i64 ((qb x10_3 0).f0), .int .i64 ((qb x10_3 0).f1), .int .i64 ((qb x10_3 0).f2)] 40 (0, 0)) (kq BK278) hg (Kd.JI HO288.out BK278.out (by decide)))
        have n5_ := qa.mk (zy (g := gb279) (o := .cells #[.int .i64 ((qb x10_3 0).f0), .int .i64 ((qb x10_3 0).f1)] 35 (0, 0)) (kq BK279) hg (Kd.Q0 HO288.out (fun _ hk => hk.2.2)))
        have n6_ := qa.mk (zy (g := gb289) (o := .cells #[.slice Ao80 y286.length co80, .int .i64 0, .int .i64 0] 64 (0, 0)) (kq BK289) hg (Kd.JI HO288.out BK289.out (by decide)))
        have n7_ := qa.mk (hb)
        have n8_ := qa.mk (ho)
        clear HO282
        clear HO_12
        clear BK254
        clear BK256
        clear BK278
        clear BK279
        clear BK289
        clear HB
        clear HO288
        have HO282 := n0_
        have HO_12 := n1_
        have BK254 := n2_
        have BK256 := n3_
        have BK278 := n4_
        have BK279 := n5_
        have BK289 := n6_
        have HB := n7_
        have HO295 := n8_
        clear n0_ n1_ n2_ n3_ n4_ n5_ n6_ n7_ n8_
        clear ho hb hg hat
        obtain ⟨Ao106, co106, eo106⟩ := Kd.jJ HO295.out
        (first | subst eo106 | (injection eo106 with f1_ f2_ f3_; have f4_ := f1_.symm; have f5_ := f3_.symm; clear f1_ f2_ f3_; subst f4_; subst f5_))
        refine hK.out _ _ ?_
        clear hK K
        refine zY (a' := ?_) ?_ ?_
        rotate_left
        ·show Act.put _ (some 131) _ = _
         simp only [Act.put, List.setIfInBounds_toArray, List.set_cons_zero, List.set_cons_succ, qA, qB]
         rfl
        refine qV (i := 13) (N := some 132) (v := ?_) (a' := ?_) #[true, true, true, true, true, true, true, true, true, true, true, true, true, true, false] rfl rfl (zh HT_.out (by kernel_rfl)) (fun _ _ _ h => h) (Or.inl ⟨by rfl, ?_⟩) ?_ ?_
        rotate_left
        ·intro w'
         go_simp
         with_reducible rfl
        rotate_left
        ·simp only [Act.put, List.setIfInBounds_toArray, List.set_cons_zero, List.set_cons_succ, qA, qB]
         rfl
        refine ZB (i := 14) (N := none) #[true, true, true, true, true, true, true, true, true, true, true, true, true, true, true] rfl rfl (jT HT_.out (by kernel_rfl)) (by decide) (fun K hK => ?_)
        have hs107 : w105.cell? ⟨gb289, 0, none⟩ = some (.slice Ao80 y286.length co80) := (qf BK289.out 0).trans rfl
        have hfs107 := qj BK289.out 0
        have hns107_0 := NB254_289.out
        have hns107_1 := NB256_289.out
        have hns107_2 := NB278_289.out
        have hns107_3 := NB279_289.out
        have hms107_0 := NB289_254.out
        have hms107_1 := NB289_256.out
        have hms107_2 := NB289_278.out
        have hms107_3 := NB289_279.out
        refine Zt (w1 := ?_) (by rfl) rfl ?_ ?_
        rotate_left
        ·go_simp
         rfl
        refine hK.out _ _ ?_
        clear hK K
        refine Qk (QV HT_.out (by kernel_rfl)) ?_
        have n0_ : qa (Kd.Q k40 40 (w105.setCell ⟨gb289, 0, none⟩ (.slice Ao106 y293.length co106)) w.heap.size (fun k_ => k_ ≠ gb278) (.slice (some ad290) y280.length c75) y280) := ⟨by exact Kd.Qh (Kd.Qf (p := ⟨gb289, 0, none⟩) (Kd.ZI HO282.out BK289.out (by decide)) (fun _ hk => hk.2) (.slice Ao106 y293.length co106)) (fun _ hk => hk.1)⟩
        have n1_ : qa (Kd.S k64 64 (w105.setCell ⟨gb289, 0, none⟩ (.slice Ao106 y293.length co106)) w.heap.size (fun k_ => some k_ ≠ (.slice Ao106 y293.length co106 : Value).ownBlock ∧ k_ ≠ gb254 ∧ k_ ≠ gb256 ∧ k_ ≠ gb279 ∧ k_ ≠ gb289) u12 x12_3) := ⟨by exact Kd.zC (Kd.jo (p := ⟨gb289, 0, none⟩) (Kd.zC HO_12.out (fun k_ hk => (⟨hk, hk.1.2.2.2⟩ : _ ∧ k_ ≠ gb289))) (fun _ hk => hk.2) (.slice Ao106 y293.length co106)) (fun _ hk => ⟨hk.1.2, ⟨hk.1.1.1, ⟨hk.1.1.2.1, ⟨hk.1.1.2.2.1, hk.1.1.2.2.2⟩⟩⟩⟩)⟩
        have n2_ : qa (Kd.R k35 35 (w105.setCell ⟨gb289, 0, none⟩ (.slice Ao106 y293.length co106)) w.heap.size (fun k_ => k_ ≠ gb254 ∧ k_ ≠ gb256 ∧ k_ ≠ gb279) (.slice Ao106 y293.length co106) y293) := ⟨by exact Kd.zq (Kd.jh (p := ⟨gb289, 0, none⟩) (Kd.jR HO295.out BK289.out (by decide)) (fun _ hk => hk.2) (.slice Ao106 y293.length co106)) (fun _ hk => ⟨hk.1.1, ⟨hk.1.2.1, hk.1.2.2⟩⟩)⟩
        have n3_ : qa ((w105.setCell ⟨gb289, 0, none⟩ (.slice Ao106 y293.length co106)).heap[gb254]? = some (.cells #[.int .i64 x255000_3, .int .i64 x255001_3] 35 (0, 0))) := ⟨by refine qJ ?_ NB254_289.out _; exact kq BK254⟩
        have n4_ : qa ((w105.setCell ⟨gb289, 0, none⟩ (.slice Ao106 y293.length co106)).heap[gb256]? = some (.cells #[.int .i64 x257000_6, .int .i64 x257001_6] 35 (0, 0))) := ⟨by refine qJ ?_ NB256_289.out _; exact kq BK256⟩
        have n5_ : qa ((w105.setCell ⟨gb289, 0, none⟩ (.slice Ao106 y293.length co106)).heap[gb278]? = some (.cells #[.int .i64 ((qb x10_3 0).f0), .int .i64 ((qb x10_3 0).f1), .int .i64 ((qb x10_3 0).f2)] 40 (0, 0))) := ⟨by refine qJ ?_ NB278_289.out _; exact kq BK278⟩
        have n6_ : qa ((w105.setCell ⟨gb289, 0, none⟩ (.slice Ao106 y293.length co106)).heap[gb279]? = some (.cells #[.int .i64 ((qb x10_3 0).f0), .int .i64 ((qb x10_3 0).f1)] 35 (0, 0))) := ⟨by refine qJ ?_ NB279_289.out _; exact kq BK279⟩
        have n7_ : qa ((w105.setCell ⟨gb289, 0, none⟩ (.slice Ao106 y293.length co106)).heap[gb289]? = some (.cells #[.slice Ao106 y293.length co106, .int .i64 0, .int .i64 0] 64 (0, 0))) := ⟨by refine zb (cs := #[.slice Ao80 y286.length co80, .int .i64 0, .int .i64 0]) ?_ 0 _ rfl; exact kq BK289⟩
        have n8_ : qa (Below w.heap.size w (w105.setCell ⟨gb289, 0, none⟩ (.slice Ao106 y293.length co106))) := ⟨by repeat (first | (with_reducible first | exact HB.out | apply qp | apply qo | apply qz | refine qg ?_ GE254.out | refine qg ?_ GE256.out | refine qg ?_ GE278.out | refine qg ?_ GE279.out | refine qg ?_ GE289.out) | exact HB.out)⟩
        (try clear HO282)
        (try clear HO_12)
        (try clear HO295)
        (try clear BK254)
        (try clear BK256)
        (try clear BK278)
        (try clear BK279)
        (try clear BK289)
        (try clear HB)
        generalize (w105.setCell ⟨gb289, 0, none⟩ (.slice Ao106 y293.length co106)) = w108 at n0_ n1_ n2_ n3_ n4_ n5_ n6_ n7_ n8_ ⊢
        have HO282 := n0_
        have HO_12 := n1_
        have HO295 := n2_
        have BK254 := n3_
        have BK256 := n4_
        have BK278 := n5_
        have BK279 := n6_
        have BK289 := n7_
        have HB := n8_
        clear n0_ n1_ n2_ n3_ n4_ n5_ n6_ n7_ n8_
        have q109 : (1 : Int) ≤ ((y280.length : Int) : Int) := odt
        obtain ⟨i0109, hi0109, _, hsz109, _⟩ := info_parts Zh
        have hcut109 := Ju (P := Try.prog) 37 40 .i64 Try.underlying37 hi0109 3 hsz109 (some ad290) y280.length c75 1 (by omega) q109
        have hr109 := Kd.Q_drop (k := (1 : Int).toNat) HO282.out (by omega)
        obtain ⟨A109, hA109⟩ : ∃ A1, A1 = (if c75 = (1 : Int).toNat then (some ad290) else ((some ad290) : Option Addr).map (·.add ((1 : Int).toNat * 3))) := ⟨_, rfl⟩
        obtain ⟨c109, hc109⟩ : ∃ c1, c1 = c75 - (1 : Int).toNat := ⟨_, rfl⟩
        have hy109 : y296.length = y280.length - (1 : Int).toNat := (by rw [Ny296.out, List.length_drop])
        rw [← Ny296.out] at hr109
        rw [← hy109, ← hA109, ← hc109] at hcut109
        replace hr109 : Kd.Q k40 40 w108 w.heap.size (fun k_ => k_ ≠ gb278) (.slice A109 y296.length c109) y296 := (by rw [hA109, hc109, hy109]; exact hr109)
        have HE109 : qa ((Value.slice A109 y296.length c109).ownBlock = (.slice (some ad290) y280.length c75 : Value).ownBlock) := ⟨by rw [hA109]; split <;> (cases ((some ad290) : Option Addr) <;> rfl)⟩
        clear hy109 hi0109 hsz109 HO282 hA109 hc109
        have HO298 := qa.mk hr109
        clear hr109
        replace q109 := eq_true q109
        try go_wp2
        go_meet
        case rel => exact ⟨_, (y296), (x255000_3), (x255001_3), (y293), (.slice Ao106 y293.length co106), H', ⟨by have := HK1.out; have := HJ6.out; have := HK3.out; first | omega | exact Nat.le_refl _⟩, ⟨by (with_reducible repeat (first | apply Kd.jq | apply Kd.jr | apply Kd.jy)); exact HO298.out⟩, ⟨by (with_reducible repeat (first | apply Kd.zi | apply Kd.zk | apply Kd.zn)); exact HO_12.out⟩, ⟨rq HO295⟩, ⟨kq BK254⟩, ⟨kq BK256⟩, ⟨kq BK278⟩, ⟨kq BK279⟩, ⟨kq BK289⟩, ⟨by repeat (first | (with_reducible first | exact HB.out | apply qp | apply qo | apply qz | refine qg ?_ GE254.out | refine qg ?_ GE256.out | refine qg ?_ GE278.out | refine qg ?_ GE279.out | refine qg ?_ GE289.out) | exact HB.out)⟩⟩
       case rest =>
        clear HC63
        try clear c1
        try clear q1
        try clear c2
        try clear p2
        try clear q2
        try clear hx2
        try clear qi2
        try clear c4
        try clear c5
        try clear q5
        try clear c6
        try clear c7
        try clear q7
        try clear c8
        try clear c9
        try clear c10
        try clear q10
        try clear c11
        try clear q26
        try clear p27
        try clear q27
        try clear hx27
        try clear qi27
        try clear p29
        try clear q29
        try clear hx29
        try clear qi29
        try clear c43
        try clear c43b0
        try clear c43b1
        try clear c44
        try clear c44b0
        try clear c44b1
        try clear c45
        try clear c45b0
        try clear c45b1
        try clear c46
        try clear c46b0
        try clear c46b1
        try clear c47
        try clear c50
        try clear c51
        try clear c54
        try clear c55
        try clear c56
        try clear c59
        try clear q59
        try clear c66
        try clear c67
        try clear c70
        try clear c71
        try clear c72
        try clear c75
        try clear q75
        try clear c82
        try clear c83
        try clear c84
        try clear c85
        try clear c88
        try clear c88b0
        try clear c88b1
        try clear c89
        try clear c89b0
        try clear c89b1
        try clear c89b2
        try clear c90
        try clear c91
        try clear c92
        try clear c93
        try clear c95
        try clear c96
        try clear c97
        try clear c99
        try clear c99b0
        try clear c99b1
        try clear c100
        try clear c100b0
        try clear c100b1
        try clear c101
        try clear c102
        try clear c102b0
        try clear c102b1
        try clear c109
        try clear q109
        try clear c110
        try clear c111
        try clear c112
        try clear c113
        try clear c115
        try clear c116
        try clear c117
        try clear hcz114_0
        try clear hcz114_1
        try clear hcz118_0
        try clear hcz118_1
        try clear hcz52_0
        try clear hcz52_1
        try clear hcz52_2
        try clear hcz57_0
        try clear hcz57_1
        try clear hcz60_0
        try clear hcz60_1
        try clear hcz60_2
        try clear hcz61_0
        try clear hcz61_1
        try clear hcz68_0
        try clear hcz68_1
        try clear hcz68_2
        try clear hcz73_0
        try clear hcz73_1
        try clear hcz76_0
        try clear hcz76_1
        try clear hcz76_2
        try clear hcz77_0
        try clear hcz77_1
        try clear hcz86_0
        try clear hcz86_1
        try clear hcz86_2
        try clear hcz87_0
        try clear hcz87_1
        try clear hcz87_2
        try clear hcz94_0
        try clear hcz94_1
        try clear hcz98_0
        try clear hcz98_1
        try clear hfz114_0
        try clear hfz114_1
        try clear hfz118_0
        try clear hfz118_1
        try clear hfz52_0
        try clear hfz52_1
        try clear hfz52_2
        try clear hfz57_0
        try clear hfz57_1
        try clear hfz60_0
        try clear hfz60_1
        try clear hfz60_2
        try clear hfz61_0
        try clear hfz61_1
        try clear hfz68_0
        try clear hfz68_1
        try clear hfz68_2
        try clear hfz73_0
        try clear hfz73_1
        try clear hfz76_0
        try clear hfz76_1
        try clear hfz76_2
        try clear hfz77_0
        try clear hfz77_1
        try clear hfz86_0
        try clear hfz86_1
        try clear hfz86_2
        try clear hfz87_0
        try clear hfz87_1
        try clear hfz87_2
        try clear hfz94_0
        try clear hfz94_1
        try clear hfz98_0
        try clear hfz98_1
        try clear hx277_0
        try clear hx277_1
        try clear hx277_2
        try clear hx290_0
        try clear hx290_1
        try clear hx290_2
        try clear hx291_0
        try clear hx291_1
        try clear hx291_2
        try clear hx292_0
        try clear hx292_1
        try clear hx292_2
        try clear p277
        try clear p290
        try clear p291
        try clear p292
        try clear q109
        try clear q260
        try clear q261
        try clear q262
        try clear q268
        try clear q269
        try clear q27
        try clear q270
        try clear q277
        try clear q290
        try clear q291
        try clear q292
        try clear q59
        try clear q75
        obtain ⟨kq, x10_62, x255000_62, x255001_62, x290000_62, u290000, HA, HJ62, HO_10, HO_12, HO_290000, BK254, BK256, BK278, BK279, BK289, HB⟩ := hcut
        cases kq with
        | zero => exact absurd HA.out (by simp [qi.j4])
        | succ kj62 =>
         have H := HA.out
         clear HA
         simp only [qi.j4] at H
         by_cases c119 : (x10_62.length : Int) = 0
         ·rw [if_pos c119] at H
          have c119b0 : ((x10_62.length : Int) == 0) = true := beq_iff_eq.mpr c119
          have c119b1 : ((x10_62.length : Int) != 0) = false := bne_eq_false_iff_eq.mpr c119
          clear c119
          by_cases c120 : x12_3.length < 3518437208883
          case neg =>
           rw [if_neg c120] at H
           exact absurd H (by simp)
          rw [if_pos c120] at H
          have LMc120 := qa.mk c120
          clear c120
          obtain ⟨y299, hy299⟩ : ∃ y_ : List (S64), y_ = (x12_3 ++ [(⟨x290000_62, (⟨x257000_6, x257001_6⟩ : S35)⟩ : S64)]) := ⟨_, rfl⟩
          replace H : (some (x257000_6, x257001_6, y299, true, true)) = some (r1, r2, r3, r4, r5) := by first | (rw [hy299]; with_reducible exact H) | (have H2_ := (Option.bind_some _ _).symm.trans H; rw [hy299]; with_reducible exact H2_) | (have H2_ := (Option.bind_some _ _).symm.trans H; with_reducible exact H2_) | with_reducible exact H | (rw [hy299]; exact H) | exact H
          have Ny299 := qa.mk hy299
          clear hy299
          simp only [Option.some.injEq, Prod.mk.injEq] at H
          obtain ⟨rfl, rfl, rfl, rfl, rfl⟩ := H
          obtain ⟨Ao121, co121, eo121, _⟩ := Kd.ZL HO_10.out
          subst eo121
          have hnb122 := NB256_254.out
          have hnc122 := NB254_256.out
          have hnb123 := NB256_278.out
          have hnc123 := NB278_256.out
          have hnb124 := NB256_279.out
          have hnc124 := NB279_256.out
          have hnb125 := NB256_289.out
          have hnc125 := NB289_256.out
          have hcz126_0 : wc.cell? ⟨gb256, 0, none⟩ = some (.int .i64 x257000_6) := (qf BK256.out 0).trans rfl
          have hcz126_1 : wc.cell? ⟨gb256, 1, none⟩ = some (.int .i64 x257001_6) := (qf BK256.out 1).trans rfl
          have hfz126_0 := qj BK256.out 0
          have hfz126_1 := qj BK256.out 1
          have hnb127 := NB289_254.out
          have hnc127 := NB254_289.out
          have hnb128 := NB289_278.out
          have hnc128 := NB278_289.out
          have hnb129 := NB289_279.out
          have hnc129 := NB279_289.out
          have hcz130_0 : wc.cell? ⟨gb289, 0, none⟩ = some (u290000) := (qf BK289.out 0).trans rfl
          have hcz130_1 : wc.cell? ⟨gb289, 1, none⟩ = some (.int .i64 0) := (qf BK289.out 1).trans rfl
          have hcz130_2 : wc.cell? ⟨gb289, 2, none⟩ = some (.int .i64 0) := (qf BK289.out 2).trans rfl
          have hfz130_0 := qj BK289.out 0
          have hfz130_1 := qj BK289.out 1
          have hfz130_2 := qj BK289.out 2
          try go_wp2
          have n0_ : qa (Kd.Q k40 40 ((wc.setCell ⟨gb289, 1, none⟩ (.int .i64 x257000_6)).setCell ⟨gb289, 2, none⟩ (.int .i64 x257001_6)) w.heap.size (fun k_ => k_ ≠ gb278) (.slice Ao121 x10_62.length co121) x10_62) := ⟨by exact Kd.Qh (Kd.Qf (p := ⟨gb289, 2, none⟩) (Kd.Qf (p := ⟨gb289, 1, none⟩) (Kd.ZI HO_10.out BK289.out (by decide)) (fun _ hk => hk.2) (.int .i64 x257000_6)) (fun _ hk => hk.2) (.int .i64 x257001_6)) (fun _ hk => hk.1)⟩
          have n1_ : qa (Kd.S k64 64 ((wc.setCell ⟨gb289, 1, none⟩ (.int .i64 x257000_6)).setCell ⟨gb289, 2, none⟩ (.int .i64 x257001_6)) w.heap.size (fun k_ => some k_ ≠ (u290000 : Value).ownBlock ∧ k_ ≠ gb254 ∧ k_ ≠ gb256 ∧ k_ ≠ gb279 ∧ k_ ≠ gb289) u12 x12_3) := ⟨by exact Kd.zC (Kd.jo (p := ⟨gb289, 2, none⟩) (Kd.jo (p := ⟨gb289, 1, none⟩) (Kd.zC HO_12.out (fun k_ hk => (⟨hk, hk.2.2.2.2⟩ : _ ∧ k_ ≠ gb289))) (fun _ hk => hk.2) (.int .i64 x257000_6)) (fun _ hk => hk.2) (.int .i64 x257001_6)) (fun _ hk => ⟨hk.1.1, ⟨hk.1.2.1, ⟨hk.1.2.2.1, ⟨hk.1.2.2.2.1, hk.1.2.2.2.2⟩⟩⟩⟩)⟩
          have n2_ : qa (Kd.R k35 35 ((wc.setCell ⟨gb289, 1, none⟩ (.int .i64 x257000_6)).setCell ⟨gb289, 2, none⟩ (.int .i64 x257001_6)) w.heap.size (fun k_ => k_ ≠ gb254 ∧ k_ ≠ gb256 ∧ k_ ≠ gb279) u290000 x290000_62) := ⟨by exact Kd.zq (Kd.jh (p := ⟨gb289, 2, none⟩) (Kd.jh (p := ⟨gb289, 1, none⟩) (Kd.jR HO_290000.out BK289.out (by decide)) (fun _ hk => hk.2) (.int .i64 x257000_6)) (fun _ hk => hk.2) (.int .i64 x257001_6)) (fun _ hk => ⟨hk.1.1, ⟨hk.1.2.1, hk.1.2.2⟩⟩)⟩
          have n3_ : qa (((wc.setCell ⟨gb289, 1, none⟩ (.int .i64 x257000_6)).setCell ⟨gb289, 2, none⟩ (.int .i64 x257001_6)).heap[gb254]? = some (.cells #[.int .i64 x255000_62, .int .i64 x255001_62] 35 (0, 0))) := ⟨by refine qJ ?_ NB254_289.out _; refine qJ ?_ NB254_289.out _; exact kq BK254⟩
          have n4_ : qa (((wc.setCell ⟨gb289, 1, none⟩ (.int .i64 x257000_6)).setCell ⟨gb289, 2, none⟩ (.int .i64 x257001_6)).heap[gb256]? = some (.cells #[.int .i64 x257000_6, .int .i64 x257001_6] 35 (0, 0))) := ⟨by refine qJ ?_ NB256_289.out _; refine qJ ?_ NB256_289.out _; exact kq BK256⟩
          have n5_ : qa (((wc.setCell ⟨gb289, 1, none⟩ (.int .i64 x257000_6)).setCell ⟨gb289, 2, none⟩ (.int .i64 x257001_6)).heap[gb278]? = some (.cells #[.int .i64 ((qb x10_3 0).f0), .int .i64 ((qb x10_3 0).f1), .int .i64 ((qb x10_3 0).f2)] 40 (0, 0))) := ⟨by refine qJ ?_ NB278_289.out _; refine qJ ?_ NB278_289.out _; exact kq BK278⟩
          have n6_ : qa (((wc.setCell ⟨gb289, 1, none⟩ (.int .i64 x257000_6)).setCell ⟨gb289, 2, none⟩ (.int .i64 x257001_6)).heap[gb279]? = some (.cells #[.int .i64 ((qb x10_3 0).f0), .int .i64 ((qb x10_3 0).f1)] 35 (0, 0))) := ⟨by refine qJ ?_ NB279_289.out _; refine qJ ?_ NB279_289.out _; exact kq BK279⟩
          have n7_ : qa (((wc.setCell ⟨gb289, 1, none⟩ (.int .i64 x257000_6)).setCell ⟨gb289, 2, none⟩ (.int .i64 x257001_6)).heap[gb289]? = some (.cells #[u290000, .int .i64 x257000_6, .int .i64 x257001_6] 64 (0, 0))) := ⟨by refine zb (cs := #[u290000, .int .i64 x257000_6, .int .i64 0]) ?_ 2 _ rfl; refine zb (cs := #[u290000, .int .i64 0, .int .i64 0]) ?_ 1 _ rfl; exact kq BK289⟩
          have n8_ : qa (Below w.heap.size w ((wc.setCell ⟨gb289, 1, none⟩ (.int .i64 x257000_6)).setCell ⟨gb289, 2, none⟩ (.int .i64 x257001_6))) := ⟨by repeat (first | (with_reducible first | exact HB.out | apply qp | apply qo | apply qz | refine qg ?_ GE254.out | refine qg ?_ GE256.out | refine qg ?_ GE278.out | refine qg ?_ GE279.out | refine qg ?_ GE289.out) | exact HB.out)⟩
          (try clear HO_10)
          (try clear HO_12)
          (try clear HO_290000)
          (try clear BK254)
          (try clear BK256)
          (try clear BK278)
          (try clear BK279)
          (try clear BK289)
          (try clear HB)
          generalize ((wc.setCell ⟨gb289, 1, none⟩ (.int .i64 x257000_6)).setCell ⟨gb289, 2, none⟩ (.int .i64 x257001_6)) = w131 at n0_ n1_ n2_ n3_ n4_ n5_ n6_ n7_ n8_ ⊢
          have HO_10 := n0_
          have HO_12 := n1_
          have HO_290000 := n2_
          have BK254 := n3_
          have BK256 := n4_
          have BK278 := n5_
          have BK279 := n6_
          have BK289 := n7_
          have HB := n8_
          clear n0_ n1_ n2_ n3_ n4_ n5_ n6_ n7_ n8_
          have n0_ := qa.mk (Kd.jy HO_10.out)
          have n1_ := qa.mk (Kd.zn HO_12.out)
          have n2_ := qa.mk (Kd.zR HO_290000.out)
          have n3_ := qa.mk (qc BK254.out)
          have n4_ := qa.mk (qc BK256.out)
          have n5_ := qa.mk (qc BK278.out)
          have n6_ := qa.mk (qc BK279.out)
          have n7_ := qa.mk (qc BK289.out)
          have n8_ := qa.mk (qz HB.out)
          clear HO_10
          clear HO_12
          clear HO_290000
          clear BK254
          clear BK256
          clear BK278
          clear BK279
          clear BK289
          clear HB
          have HO_10 := n0_
          have HO_12 := n1_
          have HO_290000 := n2_
          have BK254 := n3_
          have BK256 := n4_
          have BK278 := n5_
          have BK279 := n6_
          have BK289 := n7_
          have HB := n8_
          clear n0_ n1_ n2_ n3_ n4_ n5_ n6_ n7_ n8_
          obtain ⟨Ao134, co134, eo134⟩ := Kd.jJ HO_290000.out
          (first | subst eo134 | (injection eo134 with f1_ f2_ f3_; have f4_ := f1_.symm; have f5_ := f3_.symm; clear f1_ f2_ f3_; subst f4_; subst f5_))
          refine j6 (n := 9) (S := fun w' => w'.cell? ⟨gb256, 0, none⟩ = some (.int .i64 x257000_6) ∧ w'.cell? ⟨gb256, 1, none⟩ = some (.int .i64 x257001_6) ∧ w'.cell? ⟨gb289, 0, none⟩ = some (.slice Ao134 x290000_62.length co134) ∧ w'.cell? ⟨gb289, 1, none⟩ = some (.int .i64 x257000_6) ∧ w'.cell? ⟨gb289, 2, none⟩ = some (.int .i64 x257001_6)) (ds := []) #[false, false, false, false, false, false, false, false, false] (by kernel_rfl) rfl rfl ⟨(qf BK256.out 0).trans rfl, (qf BK256.out 1).trans rfl, (qf BK289.out 0).trans rfl, (qf BK289.out 1).trans rfl, (qf BK289.out 2).trans rfl⟩ (fun hHeld => ?_); refine Qv qi.tab35 qi.bits35 (fun HT_ HW_ => ?_)
          generalize w131.drew = w132 at HO_10 HO_12 HO_290000 BK254 BK256 BK278 BK279 BK289 HB hHeld ⊢
          refine qV (i := 1) (N := some 141) (v := ?_) (a' := ?_) #[false, true, false, false, false, false, false, false, false] rfl rfl (zh HT_.out (by kernel_rfl)) (fun _ _ _ h => h) (Or.inl ⟨by rfl, ?_⟩) ?_ ?_
          rotate_left
          ·intro w'
           go_simp
           with_reducible rfl
          rotate_left
          ·simp only [Act.put, List.setIfInBounds_toArray, List.set_cons_zero, List.set_cons_succ, qA, qB]
           rfl
          refine zB (i := 0) (N := some 140) (v := ?_) (a' := ?_) #[true, true, false, false, false, false, false, false, false] rfl rfl (zP HT_.out HW_.out (by kernel_rfl)) (fun _ _ _ h => h) (Or.inl ⟨by rfl, ?_⟩) hHeld ?_ ?_
          rotate_left
          ·rintro w' ⟨s0, s1, s2, s3, s4⟩
           go_simp
           with_reducible rfl
          rotate_left
          ·simp only [Act.put, List.setIfInBounds_toArray, List.set_cons_zero, List.set_cons_succ, qA, qB]
           rfl
          refine zB (i := 2) (N := some 142) (v := ?_) (a' := ?_) #[true, true, true, false, false, false, false, false, false] rfl rfl (zP HT_.out HW_.out (by kernel_rfl)) (fun _ _ _ h => h) (Or.inl ⟨by rfl, ?_⟩) hHeld ?_ ?_
          rotate_left
          ·rintro w' ⟨s0, s1, s2, s3, s4⟩
           go_simp
           with_reducible rfl
          rotate_left
          ·simp only [Act.put, List.setIfInBounds_toArray, List.set_cons_zero, List.set_cons_succ, qA, qB]
           rfl
          refine jE (i := 3) (N := some 143) #[true, true, true, true, false, false, false, false, false] rfl rfl (jT HT_.out (by kernel_rfl)) (by decide) (fun K hK => ?_)
          refine Jv (w1 := ?_) (v := ?_) (by rfl) rfl ?_ ?_
          rotate_left 2
          ·go_simp
           constructor
           ·rfl
           rfl
          refine hK.out _ _ ⟨(qf (qd BK256.out _) 0).trans rfl, (qf (qd BK256.out _) 1).trans rfl, (qf (qd BK289.out _) 0).trans rfl, (qf (qd BK289.out _) 1).trans rfl, (qf (qd BK289.out _) 2).trans rfl⟩ (fun hHeld => ?_)
          clear hK K
          refine zY (a' := ?_) ?_ ?_
          rotate_left
          ·show Act.put _ (some 143) _ = _
           simp only [Act.put, List.setIfInBounds_toArray, List.set_cons_zero, List.set_cons_succ, qA, qB]
           rfl
          refine jE (i := 4) (N := some 144) #[true, true, true, true, true, false, false, false, false] rfl rfl (jT HT_.out (by kernel_rfl)) (by decide) (fun K hK => ?_)
          refine Kd.S_append_step k64 (w0 := w) w.heap.size (by rfl) (.tmp 141) (.tmp 143) 60 64 (.agg #[(.slice none 0 0), (.int .i64 0), (.int .i64 0)]) 40 rfl Try.underlying60 info64 rfl (by decide) (by omega) u12 x12_3 (⟨x290000_62, (⟨x257000_6, x257001_6⟩ : S35)⟩ : S64) [.slice Ao134 x290000_62.length co134, .int .i64 x257000_6, .int .i64 x257001_6] (fun k_ => k_ ≠ gb254 ∧ k_ ≠ gb256 ∧ k_ ≠ gb279 ∧ k_ ≠ gb289) (fun k_ => some k_ = (.slice Ao134 x290000_62.length co134 : Value).ownBlock) rfl rfl ?aP (fun k_ hk_ => ((Kd.zq (ok' := fun k_ => ((fun k_ => k_ ≠ gb254 ∧ k_ ≠ gb256 ∧ k_ ≠ gb279 ∧ k_ ≠ gb289)) k_ ∧ some k_ ≠ (u12 : Value).ownBlock) (Kd.jR (Kd.jP (HO_290000.out) (Kd.jN HO_12.out) (by decide)) BK289.out (by decide)) (fun k_ hk => ⟨⟨hk.1.1.1, ⟨hk.1.1.2.1, ⟨hk.1.1.2.2, hk.2⟩⟩⟩, hk.1.2⟩))).1 k_ hk_.symm) ?aF ?aO ?aB ?aS ?aL ?_
          (case aP => exact k64_mkM _ _ _ (⟨x290000_62, (⟨x257000_6, x257001_6⟩ : S35)⟩ : S64) (Kd.zq (Kd.Zq rfl (Kd.zq (ok' := fun k_ => ((fun k_ => k_ ≠ gb254 ∧ k_ ≠ gb256 ∧ k_ ≠ gb279 ∧ k_ ≠ gb289)) k_ ∧ some k_ ≠ (u12 : Value).ownBlock) (Kd.jR (Kd.jP (HO_290000.out) (Kd.jN HO_12.out) (by decide)) BK289.out (by decide)) (fun k_ hk => ⟨⟨hk.1.1.1, ⟨hk.1.1.2.1, ⟨hk.1.1.2.2, hk.2⟩⟩⟩, hk.1.2⟩))) (fun _ h_ => h_)))
          (case aB => exact (by repeat (first | (with_reducible first | exact HB.out | apply qp | apply qo | apply qz | refine qg ?_ GE254.out | refine qg ?_ GE256.out | refine qg ?_ GE278.out | refine qg ?_ GE279.out | refine qg ?_ GE289.out) | exact HB.out)))
          (case aF => exact (fun k_ hk => ⟨Kd.jL (g := gb254) (o := .cells #[.int .i64 x255000_62, .int .i64 x255001_62] 35 (0, 0)) (kq BK254) k_ hk, Kd.jL (g := gb256) (o := .cells #[.int .i64 x257000_6, .int .i64 x257001_6] 35 (0, 0)) (kq BK256) k_ hk, Kd.jL (g := gb279) (o := .cells #[.int .i64 ((qb x10_3 0).f0), .int .i64 ((qb x10_3 0).f1)] 35 (0, 0)) (kq BK279) k_ hk, Kd.jL (g := gb289) (o := .cells #[.slice Ao134 x290000_62.length co134, .int .i64 x257000_6, .int .i64 x257001_6] 64 (0, 0)) (kq BK289) k_ hk⟩))
          (case aO => exact (by (with_reducible repeat (first | apply Kd.zi | apply Kd.zk | apply Kd.zn)); exact Kd.zC HO_12.out (fun k_ hk => ⟨⟨hk.2.1, ⟨hk.2.2.1, ⟨hk.2.2.2.1, hk.2.2.2.2⟩⟩⟩, fun e_ => hk.1 e_⟩)))
          (case aS => exact (qy (by repeat (first | (with_reducible first | exact HB.out | apply qp | apply qo | apply qz | refine qg ?_ GE254.out | refine qg ?_ GE256.out | refine qg ?_ GE278.out | refine qg ?_ GE279.out | refine qg ?_ GE289.out) | exact HB.out))))
          (case aL => have := LMc120.out; omega)
          intro v300 w133 ho hb hg hat
          rw [← Ny299.out] at ho
          have n0_ := qa.mk (Kd.J4 (by (with_reducible repeat (first | apply Kd.jq | apply Kd.jr | apply Kd.jy)); exact HO_10.out) (Kd.jN (by (with_reducible repeat (first | apply Kd.zi | apply Kd.zk | apply Kd.zn)); exact HO_12.out)) (by decide) hg)
          have n1_ := qa.mk (zy (g := gb254) (o := .cells #[.int .i64 x255000_62, .int .i64 x255001_62] 35 (0, 0)) (kq BK254) hg (Kd.QX HO_12.out BK254.out (by decide)))
          have n2_ := qa.mk (zy (g := gb256) (o := .cells #[.int .i64 x257000_6, .int .i64 x257001_6] 35 (0, 0)) (kq BK256) hg (Kd.QX HO_12.out BK256.out (by decide)))
          have n3_ := qa.mk (zy (g := gb278) (o := .cells #[.int .i64 ((qb x10_3 0).f0), .int .i64 ((qb x10_3 0).f1), .int .i64 ((qb x10_3 0).f2)] 40 (0, 0)) (kq BK278) hg (Kd.QX HO_12.out BK278.out (by decide)))
          have n4_ := qa.mk (zy (g := gb279) (o := .cells #[.int .i64 ((qb x10_3 0).f0), .int .i64 ((qb x10_3 0).f1)] 35 (0, 0)) (kq BK279) hg (Kd.QX HO_12.out BK279.out (by decide)))
          have n5_ := qa.mk (zy (g := gb289) (o := .cells #[.slice Ao134 x290000_62.length co134, .int .i64 x257000_6, .int .i64 x257001_6] 64 (0, 0)) (kq BK289) hg (Kd.S_away HO_12.out (fun _ hk => hk.2.2.2.2)))
          have n6_ := qa.mk (hb)
          have n7_ := qa.mk (ho)
          clear HO_10
          clear BK254
          clear BK256
          clear BK278
          clear BK279
          clear BK289
          clear HB
          clear HO_12
          clear HO_290000
          have HO_10 := n0_
          have BK254 := n1_
          have BK256 := n2_
          have BK278 := n3_
          have BK279 := n4_
          have BK289 := n5_
          have HB := n6_
          have HO301 := n7_
          clear n0_ n1_ n2_ n3_ n4_ n5_ n6_ n7_
          clear ho hb hg hat
          refine hK.out _ _ ⟨(qf BK256.out 0).trans rfl, (qf BK256.out 1).trans rfl, (qf BK289.out 0).trans rfl, (qf BK289.out 1).trans rfl, (qf BK289.out 2).trans rfl⟩ (fun hHeld => ?_)
          clear hK K
          refine zY (a' := ?_) ?_ ?_
          rotate_left
          ·show Act.put _ (some 144) _ = _
           simp only [Act.put, List.setIfInBounds_toArray, List.set_cons_zero, List.set_cons_succ, qA, qB]
           rfl
          refine jE (i := 5) (N := none) #[true, true, true, true, true, true, false, false, false] rfl rfl (jT HT_.out (by kernel_rfl)) (by decide) (fun K hK => ?_)
          have hs135 : w133.cell? ⟨gb254, 0, none⟩ = some (.int .i64 x255000_62) := (qf BK254.out 0).trans rfl
          have hfs135 := qj BK254.out 0
          have hns135_1 := NB256_254.out
          have hns135_2 := NB278_254.out
          have hns135_3 := NB279_254.out
          have hns135_4 := NB289_254.out
          have hms135_1 := NB254_256.out
          have hms135_2 := NB254_278.out
          have hms135_3 := NB254_279.out
          have hms135_4 := NB254_289.out
          have hs136 : w133.cell? ⟨gb254, 1, none⟩ = some (.int .i64 x255001_62) := (qf BK254.out 1).trans rfl
          have hfs136 := qj BK254.out 1
          have hns136_1 := NB256_254.out
          have hns136_2 := NB278_254.out
          have hns136_3 := NB279_254.out
          have hns136_4 := NB289_254.out
          have hms136_1 := NB254_256.out
          have hms136_2 := NB254_278.out
          have hms136_3 := NB254_279.out
          have hms136_4 := NB254_289.out
          refine Zt (w1 := ?_) (by rfl) rfl ?_ ?_
          rotate_left
          ·go_simp
           rfl
          refine hK.out _ _ ⟨((cell_far (p := ⟨gb254, _, none⟩) NB256_254.out _).trans (((cell_far (p := ⟨gb254, _, none⟩) NB256_254.out _).trans (hHeld.1)))), ((cell_far (p := ⟨gb254, _, none⟩) NB256_254.out _).trans (((cell_far (p := ⟨gb254, _, none⟩) NB256_254.out _).trans (hHeld.2.1)))), ((cell_far (p := ⟨gb254, _, none⟩) NB289_254.out _).trans (((cell_far (p := ⟨gb254, _, none⟩) NB289_254.out _).trans (hHeld.2.2.1)))), ((cell_far (p := ⟨gb254, _, none⟩) NB289_254.out _).trans (((cell_far (p := ⟨gb254, _, none⟩) NB289_254.out _).trans (hHeld.2.2.2.1)))), ((cell_far (p := ⟨gb254, _, none⟩) NB289_254.out _).trans (((cell_far (p := ⟨gb254, _, none⟩) NB289_254.out _).trans (hHeld.2.2.2.2))))⟩ (fun hHeld => ?_)
          clear hK K
          refine qV (i := 6) (N := some 3) (v := ?_) (a' := ?_) #[true, true, true, true, true, true, true, false, false] rfl rfl (zh HT_.out (by kernel_rfl)) (fun _ _ _ h => h) (Or.inl ⟨by rfl, ?_⟩) ?_ ?_
          rotate_left
          ·intro w'
           go_simp
           with_reducible rfl
          rotate_left
          ·simp only [Act.put, List.setIfInBounds_toArray, List.set_cons_zero, List.set_cons_succ, qA, qB]
           rfl
          refine qV (i := 7) (N := some 4) (v := ?_) (a' := ?_) #[true, true, true, true, true, true, true, true, false] rfl rfl (zh HT_.out (by kernel_rfl)) (fun _ _ _ h => h) (Or.inl ⟨by rfl, ?_⟩) ?_ ?_
          rotate_left
          ·intro w'
           go_simp
           with_reducible rfl
          rotate_left
          ·simp only [Act.put, List.setIfInBounds_toArray, List.set_cons_zero, List.set_cons_succ, qA, qB]
           rfl
          refine qV (i := 8) (N := some 5) (v := ?_) (a' := ?_) #[true, true, true, true, true, true, true, true, true] rfl rfl (zh HT_.out (by kernel_rfl)) (fun _ _ _ h => h) (Or.inl ⟨by rfl, ?_⟩) ?_ ?_
          rotate_left
          ·intro w'
           go_simp
           with_reducible rfl
          rotate_left
          ·simp only [Act.put, List.setIfInBounds_toArray, List.set_cons_zero, List.set_cons_succ, qA, qB]
           rfl
          refine Qk (QV HT_.out (by kernel_rfl)) ?_
          try go_wp2
          refine bodyPost_ret (QD (rs := [.cell 2 35, .tmp 3, .tmp 4, .tmp 5]) rfl (by simp) (.cell gb254 35 #[.int .i64 x257000_6, .int .i64 x257001_6] (0, 0) _ rfl (by (with_reducible repeat (first | refine qh ?_ _ | refine qc ?_ | refine qd ?_ _)); refine zb (cs := #[.int .i64 x257000_6, .int .i64 x255001_62]) ?_ 1 _ rfl; refine zb (cs := #[.int .i64 x255000_62, .int .i64 x255001_62]) ?_ 0 _ rfl; exact kq BK254) Try.underlying35 rfl (by kernel_rfl) (.tmp (.tmp (.tmp .nil))))) rfl ?_
          exact ⟨_, by first | rfl | (simp [qR, qU] <;> rfl) | (simp [*, qR, qU] <;> rfl), by (with_reducible repeat (first | apply Kd.zi | apply Kd.zk | apply Kd.zn)); exact Kd.zC (Kd.jo (p := ⟨gb254, 1, none⟩) (Kd.jo (p := ⟨gb254, 0, none⟩) (Kd.zC HO301.out (fun k_ hk => (⟨hk, hk.1⟩ : _ ∧ k_ ≠ gb254))) (fun _ hk => hk.2) (.int .i64 x257000_6)) (fun _ hk => hk.2) (.int .i64 x257001_6)) (fun _ hk => trivial), by repeat (first | (with_reducible first | exact HB.out | apply qp | apply qo | apply qz | refine qg ?_ GE254.out | refine qg ?_ GE256.out | refine qg ?_ GE278.out | refine qg ?_ GE279.out | refine qg ?_ GE289.out) | exact HB.out)⟩
         rw [if_neg c119] at H
         have c119b0 : ((x10_62.length : Int) == 0) = false := beq_eq_false_iff_ne.mpr c119
         have c119b1 : ((x10_62.length : Int) != 0) = true := bne_iff_ne.mpr c119
         have c119b2 : ¬ (x10_62 = []) := fun h_ => c119 (by rw [h_]; rfl)
         by_cases c137 : 0 < (x10_62.length : Int)
         case neg =>
          rw [if_neg c137] at H
          exact absurd H (by simp)
         rw [if_pos c137] at H
         have c137b0 : decide (0 < (x10_62.length : Int)) = true := decide_eq_true c137
         have c137b1 : decide (0 < x10_62.length) = true := decide_eq_true (by omega)
         clear c137
         by_cases c138 : ((qb x10_62 0).f2) = 1
         ·rw [if_pos c138] at H
          have c138b0 : (((qb x10_62 0).f2) == 1) = true := beq_iff_eq.mpr c138
          have c138b1 : (((qb x10_62 0).f2) != 1) = false := bne_eq_false_iff_eq.mpr c138
          clear c138
          by_cases c139 : 1 ≤ (x10_62.length : Int)
          case neg =>
           rw [if_neg c139] at H
           exact absurd H (by simp)
          rw [if_pos c139] at H
          have c139b0 := eq_true c139
          have c139b1 : decide (1 ≤ (x10_62.length : Int)) = true := decide_eq_true c139
          clear c139
          obtain ⟨y305, hy305⟩ : ∃ y_ : List (S40), y_ = (x10_62.drop (1 : Int).toNat) := ⟨_, rfl⟩
          replace H : (if x12_3.length < 3518437208883 then (qi.l2 kj62 y305 (x12_3 ++ [(⟨x290000_62, (⟨(qb x10_62 0).f0, (qb x10_62 0).f1⟩ : S35)⟩ : S64)]) x257000_6 x257001_6) else (none)) = some (r1, r2, r3, r4, r5) := by first | (rw [hy305]; with_reducible exact H) | (have H2_ := (Option.bind_some _ _).symm.trans H; rw [hy305]; with_reducible exact H2_) | (have H2_ := (Option.bind_some _ _).symm.trans H; with_reducible exact H2_) | with_reducible exact H | (rw [hy305]; exact H) | exact H
          have Ny305 := qa.mk hy305
          clear hy305
          by_cases c140 : x12_3.length < 3518437208883
          case neg =>
           rw [if_neg c140] at H
           exact absurd H (by simp)
          rw [if_pos c140] at H
          have LMc140 := qa.mk c140
          clear c140
          obtain ⟨y308, hy308⟩ : ∃ y_ : List (S64), y_ = (x12_3 ++ [(⟨x290000_62, (⟨(qb x10_62 0).f0, (qb x10_62 0).f1⟩ : S35)⟩ : S64)]) := ⟨_, rfl⟩
          replace H : (qi.l2 kj62 y305 y308 x257000_6 x257001_6) = some (r1, r2, r3, r4, r5) := by first | (rw [hy308]; with_reducible exact H) | (have H2_ := (Option.bind_some _ _).symm.trans H; rw [hy308]; with_reducible exact H2_) | (have H2_ := (Option.bind_some _ _).symm.trans H; with_reducible exact H2_) | with_reducible exact H | (rw [hy308]; exact H) | exact H
          have Ny308 := qa.mk hy308
          clear hy308
          have H' := qa.mk H
          clear H
          obtain ⟨Ao141, co141, eo141, _⟩ := Kd.ZL HO_10.out
          subst eo141
          have p302 : 0 ≤ (0 : Int) := (by omega)
          have q302 : 0 < (x10_62.length : Int) := odt
          obtain ⟨ad302, e302, hx302_0, hx302_1, hx302_2⟩ := zH (Kd.Qb HO_10.out).2.2 0 p302 q302
          cases e302
          have qi302 : (0 < x10_62.length) = True := eq_true (by omega)
          (try rw [show ((0 : Int)).toNat = 0 from rfl] at hx302_0)
          (try rw [show 0 * 3 = 0 from rfl] at hx302_0)
          (try rw [Addr.add_zero'] at hx302_0)
          (try rw [show ((0 : Int)).toNat = 0 from rfl] at hx302_1)
          (try rw [show 0 * 3 = 0 from rfl] at hx302_1)
          (try rw [Addr.add_zero'] at hx302_1)
          (try rw [show ((0 : Int)).toNat = 0 from rfl] at hx302_2)
          (try rw [show 0 * 3 = 0 from rfl] at hx302_2)
          (try rw [Addr.add_zero'] at hx302_2)
          replace p302 := eq_true p302
          replace q302 := eq_true q302
          try go_wp2
          have n0_ := qa.mk (Kd.jy HO_10.out)
          have n1_ := qa.mk (Kd.zn HO_12.out)
          have n2_ := qa.mk (Kd.zR HO_290000.out)
          have n3_ := qa.mk (qc BK254.out)
          have n4_ := qa.mk (qc BK256.out)
          have n5_ := qa.mk (qc BK278.out)
          have n6_ := qa.mk (qc BK279.out)
          have n7_ := qa.mk (qc BK289.out)
          have n8_ := qa.mk (qz HB.out)
          clear HO_10
          clear HO_12
          clear HO_290000
          clear BK254
          clear BK256
          clear BK278
          clear BK279
          clear BK289
          clear HB
          have HO_10 := n0_
          have HO_12 := n1_
          have HO_290000 := n2_
          have BK254 := n3_
          have BK256 := n4_
          have BK278 := n5_
          have BK279 := n6_
          have BK289 := n7_
          have HB := n8_
          clear n0_ n1_ n2_ n3_ n4_ n5_ n6_ n7_ n8_
          have p303 : 0 ≤ (0 : Int) := (by omega)
          have q303 : 0 < (x10_62.length : Int) := odt
          obtain ⟨ad303, e303, hx303_0, hx303_1, hx303_2⟩ := zH (Kd.Qb HO_10.out).2.2 0 p303 q303
          obtain rfl : ad302 = ad303 := (by injection e303)
          have qi303 : (0 < x10_62.length) = True := eq_true (by omega)
          (try rw [show ((0 : Int)).toNat = 0 from rfl] at hx303_0)
          (try rw [show 0 * 3 = 0 from rfl] at hx303_0)
          (try rw [Addr.add_zero'] at hx303_0)
          (try rw [show ((0 : Int)).toNat = 0 from rfl] at hx303_1)
          (try rw [show 0 * 3 = 0 from rfl] at hx303_1)
          (try rw [Addr.add_zero'] at hx303_1)
          (try rw [show ((0 : Int)).toNat = 0 from rfl] at hx303_2)
          (try rw [show 0 * 3 = 0 from rfl] at hx303_2)
          (try rw [Addr.add_zero'] at hx303_2)
          replace p303 := eq_true p303
          replace q303 := eq_true q303
          have p304 : 0 ≤ (0 : Int) := (by omega)
          have q304 : 0 < (x10_62.length : Int) := odt
          obtain ⟨ad304, e304, hx304_0, hx304_1, hx304_2⟩ := zH (Kd.Qb HO_10.out).2.2 0 p304 q304
          obtain rfl : ad302 = ad304 := (by injection e304)
          have qi304 : (0 < x10_62.length) = True := eq_true (by omega)
          (try rw [show ((0 : Int)).toNat = 0 from rfl] at hx304_0)
          (try rw [show 0 * 3 = 0 from rfl] at hx304_0)
          (try rw [Addr.add_zero'] at hx304_0)
          (try rw [show ((0 : Int)).toNat = 0 from rfl] at hx304_1)
          (try rw [show 0 * 3 = 0 from rfl] at hx304_1)
          (try rw [Addr.add_zero'] at hx304_1)
          (try rw [show ((0 : Int)).toNat = 0 from rfl] at hx304_2)
          (try rw [show 0 * 3 = 0 from rfl] at hx304_2)
          (try rw [Addr.add_zero'] at hx304_2)
          replace p304 := eq_true p304
          replace q304 := eq_true q304
          refine j6 (n := 11) (S := fun w' => w'.cell? ad302 = some (.int .i64 ((qb x10_62 0).f0)) ∧ w'.cell? ⟨ad302.block, ad302.off + 1, none⟩ = some (.int .i64 ((qb x10_62 0).f1)) ∧ w'.cell? ⟨ad302.block, ad302.off + 2, none⟩ = some (.int .i64 ((qb x10_62 0).f2)) ∧ w'.cell? ad302 = some (.int .i64 ((qb x10_62 0).f0)) ∧ w'.cell? ⟨ad302.block, ad302.off + 1, none⟩ = some (.int .i64 ((qb x10_62 0).f1)) ∧ w'.cell? ⟨ad302.block, ad302.off + 2, none⟩ = some (.int .i64 ((qb x10_62 0).f2))) (ds := []) #[false, false, false, false, false, false, false, false, false, false, false] (by kernel_rfl) rfl rfl ⟨hx303_0, hx303_1, hx303_2, hx304_0, hx304_1, hx304_2⟩ (fun hHeld => ?_); refine Qv qi.tab37 qi.bits37 (fun HT_ HW_ => ?_)
          generalize wc.drew = w142 at HO_10 HO_12 HO_290000 BK254 BK256 BK278 BK279 BK289 HB hx303_0 hx303_1 hx303_2 hx304_0 hx304_1 hx304_2 hHeld ⊢
          refine qV (i := 0) (N := some 150) (v := ?_) (a' := ?_) #[true, false, false, false, false, false, false, false, false, false, false] rfl rfl (zh HT_.out (by kernel_rfl)) (fun _ _ _ h => h) (Or.inl ⟨by rfl, ?_⟩) ?_ ?_
          rotate_left
          ·intro w'
           go_simp
           with_reducible rfl
          rotate_left
          ·simp only [Act.put, List.setIfInBounds_toArray, List.set_cons_zero, List.set_cons_succ, qA, qB]
           rfl
          refine qV (i := 1) (N := some 151) (v := ?_) (a' := ?_) #[true, true, false, false, false, false, false, false, false, false, false] rfl rfl (zh HT_.out (by kernel_rfl)) (fun _ _ _ h => h) (Or.inl ⟨by rfl, ?_⟩) ?_ ?_
          rotate_left
          ·intro w'
           go_simp
           with_reducible rfl
          rotate_left
          ·simp only [Act.put, List.setIfInBounds_toArray, List.set_cons_zero, List.set_cons_succ, qA, qB]
           rfl
          refine qV (i := 2) (N := some 152) (v := ?_) (a' := ?_) #[true, true, true, false, false, false, false, false, false, false, false] rfl rfl (zh HT_.out (by kernel_rfl)) (fun _ _ _ h => h) (Or.inl ⟨by rfl, ?_⟩) ?_ ?_
          rotate_left
          ·intro w'
           go_simp
           with_reducible rfl
          rotate_left
          ·simp only [Act.put, List.setIfInBounds_toArray, List.set_cons_zero, List.set_cons_succ, qA, qB]
           rfl
          refine qV (i := 4) (N := some 154) (v := ?_) (a' := ?_) #[true, true, true, false, true, false, false, false, false, false, false] rfl rfl (zh HT_.out (by kernel_rfl)) (fun _ _ _ h => h) (Or.inl ⟨by rfl, ?_⟩) ?_ ?_
          rotate_left
          ·intro w'
           go_simp
           with_reducible rfl
          rotate_left
          ·simp only [Act.put, List.setIfInBounds_toArray, List.set_cons_zero, List.set_cons_succ, qA, qB]
           rfl
          refine qV (i := 5) (N := some 155) (v := ?_) (a' := ?_) #[true, true, true, false, true, true, false, false, false, false, false] rfl rfl (zh HT_.out (by kernel_rfl)) (fun _ _ _ h => h) (Or.inl ⟨by rfl, ?_⟩) ?_ ?_
          rotate_left
          ·intro w'
           go_simp
           with_reducible rfl
          rotate_left
          ·simp only [Act.put, List.setIfInBounds_toArray, List.set_cons_zero, List.set_cons_succ, qA, qB]
           rfl
          refine qV (i := 6) (N := some 156) (v := ?_) (a' := ?_) #[true, true, true, false, true, true, true, false, false, false, false] rfl rfl (zh HT_.out (by kernel_rfl)) (fun _ _ _ h => h) (Or.inl ⟨by rfl, ?_⟩) ?_ ?_
          rotate_left
          ·intro w'
           go_simp
           with_reducible rfl
          rotate_left
          ·simp only [Act.put, List.setIfInBounds_toArray, List.set_cons_zero, List.set_cons_succ, qA, qB]
           rfl
          refine zB (i := 3) (N := some 153) (v := ?_) (a' := ?_) #[true, true, true, true, true, true, true, false, false, false, false] rfl rfl (zP HT_.out HW_.out (by kernel_rfl)) (fun _ _ _ h => h) (Or.inl ⟨by rfl, ?_⟩) hHeld ?_ ?_
          rotate_left
          ·rintro w' ⟨s0, s1, s2, s3, s4, s5⟩
           go_simp
           with_reducible rfl
          rotate_left
          ·simp only [Act.put, List.setIfInBounds_toArray, List.set_cons_zero, List.set_cons_succ, qA, qB]
           rfl
          refine zB (i := 7) (N := some 157) (v := ?_) (a' := ?_) #[true, true, true, true, true, true, true, true, false, false, false] rfl rfl (zP HT_.out HW_.out (by kernel_rfl)) (fun _ _ _ h => h) (Or.inl ⟨by rfl, ?_⟩) hHeld ?_ ?_
          rotate_left
          ·rintro w' ⟨s0, s1, s2, s3, s4, s5⟩
           go_simp
           with_reducible rfl
          rotate_left
          ·simp only [Act.put, List.setIfInBounds_toArray, List.set_cons_zero, List.set_cons_succ, qA, qB]
           rfl
          refine qV (i := 8) (N := some 158) (v := ?_) (a' := ?_) #[true, true, true, true, true, true, true, true, true, false, false] rfl rfl (zh HT_.out (by kernel_rfl)) (fun _ _ _ h => h) (Or.inl ⟨by rfl, ?_⟩) ?_ ?_
          rotate_left
          ·intro w'
           go_simp
           with_reducible rfl
          rotate_left
          ·simp only [Act.put, List.setIfInBounds_toArray, List.set_cons_zero, List.set_cons_succ, qA, qB]
           rfl
          refine qV (i := 9) (N := some 159) (v := ?_) (a' := ?_) #[true, true, true, true, true, true, true, true, true, true, false] rfl rfl (zh HT_.out (by kernel_rfl)) (fun _ _ _ h => h) (Or.inl ⟨by rfl, ?_⟩) ?_ ?_
          rotate_left
          ·intro w'
           go_simp
           with_reducible rfl
          rotate_left
          ·simp only [Act.put, List.setIfInBounds_toArray, List.set_cons_zero, List.set_cons_succ, qA, qB]
           rfl
          refine jE (i := 10) (N := none) #[true, true, true, true, true, true, true, true, true, true, true] rfl rfl (jT HT_.out (by kernel_rfl)) (by decide) (fun K hK => ?_)
          have hs143 : w142.cell? ⟨gb289, 1, none⟩ = some (.int .i64 0) := (qf BK289.out 1).trans rfl
          have hfs143 := qj BK289.out 1
          have hns143_0 := NB254_289.out
          have hns143_1 := NB256_289.out
          have hns143_2 := NB278_289.out
          have hns143_3 := NB279_289.out
          have hms143_0 := NB289_254.out
          have hms143_1 := NB289_256.out
          have hms143_2 := NB289_278.out
          have hms143_3 := NB289_279.out
          have hs144 : w142.cell? ⟨gb289, 2, none⟩ = some (.int .i64 0) := (qf BK289.out 2).trans rfl
          have hfs144 := qj BK289.out 2
          have hns144_0 := NB254_289.out
          have hns144_1 := NB256_289.out
          have hns144_2 := NB278_289.out
          have hns144_3 := NB279_289.out
          have hms144_0 := NB289_254.out
          have hms144_1 := NB289_256.out
          have hms144_2 := NB289_278.out
          have hms144_3 := NB289_279.out
          refine Zt (w1 := ?_) (by rfl) rfl ?_ ?_
          rotate_left
          ·go_simp
           rfl
          have hz0_ := Kd.zg (Kd.JG HO_10.out BK289.out (by decide))
          refine hK.out _ _ ⟨((cell_far (p := ⟨gb289, _, none⟩) (by exact hz0_) _).trans (((cell_far (p := ⟨gb289, _, none⟩) (by exact hz0_) _).trans (hHeld.1)))), ((cell_far (p := ⟨gb289, _, none⟩) (by exact hz0_) _).trans (((cell_far (p := ⟨gb289, _, none⟩) (by exact hz0_) _).trans (hHeld.2.1)))), ((cell_far (p := ⟨gb289, _, none⟩) (by exact hz0_) _).trans (((cell_far (p := ⟨gb289, _, none⟩) (by exact hz0_) _).trans (hHeld.2.2.1)))), ((cell_far (p := ⟨gb289, _, none⟩) (by exact hz0_) _).trans (((cell_far (p := ⟨gb289, _, none⟩) (by exact hz0_) _).trans (hHeld.2.2.2.1)))), ((cell_far (p := ⟨gb289, _, none⟩) (by exact hz0_) _).trans (((cell_far (p := ⟨gb289, _, none⟩) (by exact hz0_) _).trans (hHeld.2.2.2.2.1)))), ((cell_far (p := ⟨gb289, _, none⟩) (by exact hz0_) _).trans (((cell_far (p := ⟨gb289, _, none⟩) (by exact hz0_) _).trans (hHeld.2.2.2.2.2))))⟩ (fun hHeld => ?_)
          clear hK K
          refine Qk (QV HT_.out (by kernel_rfl)) ?_
          have n0_ : qa (Kd.Q k40 40 ((w142.setCell ⟨gb289, 1, none⟩ (.int .i64 ((qb x10_62 0).f0))).setCell ⟨gb289, 2, none⟩ (.int .i64 ((qb x10_62 0).f1))) w.heap.size (fun k_ => k_ ≠ gb278) (.slice (some ad302) x10_62.length co141) x10_62) := ⟨by exact Kd.Qh (Kd.Qf (p := ⟨gb289, 2, none⟩) (Kd.Qf (p := ⟨gb289, 1, none⟩) (Kd.ZI HO_10.out BK289.out (by decide)) (fun _ hk => hk.2) (.int .i64 ((qb x10_62 0).f0))) (fun _ hk => hk.2) (.int .i64 ((qb x10_62 0).f1))) (fun _ hk => hk.1)⟩
          have n1_ : qa (Kd.S k64 64 ((w142.setCell ⟨gb289, 1, none⟩ (.int .i64 ((qb x10_62 0).f0))).setCell ⟨gb289, 2, none⟩ (.int .i64 ((qb x10_62 0).f1))) w.heap.size (fun k_ => some k_ ≠ (u290000 : Value).ownBlock ∧ k_ ≠ gb254 ∧ k_ ≠ gb256 ∧ k_ ≠ gb279 ∧ k_ ≠ gb289) u12 x12_3) := ⟨by exact Kd.zC (Kd.jo (p := ⟨gb289, 2, none⟩) (Kd.jo (p := ⟨gb289, 1, none⟩) (Kd.zC HO_12.out (fun k_ hk => (⟨hk, hk.2.2.2.2⟩ : _ ∧ k_ ≠ gb289))) (fun _ hk => hk.2) (.int .i64 ((qb x10_62 0).f0))) (fun _ hk => hk.2) (.int .i64 ((qb x10_62 0).f1))) (fun _ hk => ⟨hk.1.1, ⟨hk.1.2.1, ⟨hk.1.2.2.1, ⟨hk.1.2.2.2.1, hk.1.2.2.2.2⟩⟩⟩⟩)⟩
          have n2_ : qa (Kd.R k35 35 ((w142.setCell ⟨gb289, 1, none⟩ (.int .i64 ((qb x10_62 0).f0))).setCell ⟨gb289, 2, none⟩ (.int .i64 ((qb x10_62 0).f1))) w.heap.size (fun k_ => k_ ≠ gb254 ∧ k_ ≠ gb256 ∧ k_ ≠ gb279) u290000 x290000_62) := ⟨by exact Kd.zq (Kd.jh (p := ⟨gb289, 2, none⟩) (Kd.jh (p := ⟨gb289, 1, none⟩) (Kd.jR HO_290000.out BK289.out (by decide)) (fun _ hk => hk.2) (.int .i64 ((qb x10_62 0).f0))) (fun _ hk => hk.2) (.int .i64 ((qb x10_62 0).f1))) (fun _ hk => ⟨hk.1.1, ⟨hk.1.2.1, hk.1.2.2⟩⟩)⟩
          have n3_ : qa (((w142.setCell ⟨gb289, 1, none⟩ (.int .i64 ((qb x10_62 0).f0))).setCell ⟨gb289, 2, none⟩ (.int .i64 ((qb x10_62 0).f1))).heap[gb254]? = some (.cells #[.int .i64 x255000_62, .int .i64 x255001_62] 35 (0, 0))) := ⟨by refine qJ ?_ NB254_289.out _; refine qJ ?_ NB254_289.out _; exact kq BK254⟩
          have n4_ : qa (((w142.setCell ⟨gb289, 1, none⟩ (.int .i64 ((qb x10_62 0).f0))).setCell ⟨gb289, 2, none⟩ (.int .i64 ((qb x10_62 0).f1))).heap[gb256]? = some (.cells #[.int .i64 x257000_6, .int .i64 x257001_6] 35 (0, 0))) := ⟨by refine qJ ?_ NB256_289.out _; refine qJ ?_ NB256_289.out _; exact kq BK256⟩
          have n5_ : qa (((w142.setCell ⟨gb289, 1, none⟩ (.int .i64 ((qb x10_62 0).f0))).setCell ⟨gb289, 2, none⟩ (.int .i64 ((qb x10_62 0).f1))).heap[gb278]? = some (.cells #[.int .i64 ((qb x10_3 0).f0), .int .i64 ((qb x10_3 0).f1), .int .i64 ((qb x10_3 0).f2)] 40 (0, 0))) := ⟨by refine qJ ?_ NB278_289.out _; refine qJ ?_ NB278_289.out _; exact kq BK278⟩
          have n6_ : qa (((w142.setCell ⟨gb289, 1, none⟩ (.int .i64 ((qb x10_62 0).f0))).setCell ⟨gb289, 2, none⟩ (.int .i64 ((qb x10_62 0).f1))).heap[gb279]? = some (.cells #[.int .i64 ((qb x10_3 0).f0), .int .i64 ((qb x10_3 0).f1)] 35 (0, 0))) := ⟨by refine qJ ?_ NB279_289.out _; refine qJ ?_ NB279_289.out _; exact kq BK279⟩
          have n7_ : qa (((w142.setCell ⟨gb289, 1, none⟩ (.int .i64 ((qb x10_62 0).f0))).setCell ⟨gb289, 2, none⟩ (.int .i64 ((qb x10_62 0).f1))).heap[gb289]? = some (.cells #[u290000, .int .i64 ((qb x10_62 0).f0), .int .i64 ((qb x10_62 0).f1)] 64 (0, 0))) := ⟨by refine zb (cs := #[u290000, .int .i64 ((qb x10_62 0).f0), .int .i64 0]) ?_ 2 _ rfl; refine zb (cs := #[u290000, .int .i64 0, .int .i64 0]) ?_ 1 _ rfl; exact kq BK289⟩
          have n8_ : qa (Below w.heap.size w ((w142.setCell ⟨gb289, 1, none⟩ (.int .i64 ((qb x10_62 0).f0))).setCell ⟨gb289, 2, none⟩ (.int .i64 ((qb x10_62 0).f1)))) := ⟨by repeat (first | (with_reducible first | exact HB.out | apply qp | apply qo | apply qz | refine qg ?_ GE254.out | refine qg ?_ GE256.out | refine qg ?_ GE278.out | refine qg ?_ GE279.out | refine qg ?_ GE289.out) | exact HB.out)⟩
          (try clear HO_10)
          (try clear HO_12)
          (try clear HO_290000)
          (try clear BK254)
          (try clear BK256)
          (try clear BK278)
          (try clear BK279)
          (try clear BK289)
          (try clear HB)
          generalize ((w142.setCell ⟨gb289, 1, none⟩ (.int .i64 ((qb x10_62 0).f0))).setCell ⟨gb289, 2, none⟩ (.int .i64 ((qb x10_62 0).f1))) = w145 at n0_ n1_ n2_ n3_ n4_ n5_ n6_ n7_ n8_ ⊢
          have HO_10 := n0_
          have HO_12 := n1_
          have HO_290000 := n2_
          have BK254 := n3_
          have BK256 := n4_
          have BK278 := n5_
          have BK279 := n6_
          have BK289 := n7_
          have HB := n8_
          clear n0_ n1_ n2_ n3_ n4_ n5_ n6_ n7_ n8_
          have q146 : (1 : Int) ≤ ((x10_62.length : Int) : Int) := odt
          obtain ⟨i0146, hi0146, _, hsz146, _⟩ := info_parts Zh
          have hcut146 := Ju (P := Try.prog) 37 40 .i64 Try.underlying37 hi0146 3 hsz146 (some ad302) x10_62.length co141 1 (by omega) q146
          have hr146 := Kd.Q_drop (k := (1 : Int).toNat) HO_10.out (by omega)
          obtain ⟨A146, hA146⟩ : ∃ A1, A1 = (if co141 = (1 : Int).toNat then (some ad302) else ((some ad302) : Option Addr).map (·.add ((1 : Int).toNat * 3))) := ⟨_, rfl⟩
          obtain ⟨c146, hc146⟩ : ∃ c1, c1 = co141 - (1 : Int).toNat := ⟨_, rfl⟩
          have hy146 : y305.length = x10_62.length - (1 : Int).toNat := (by rw [Ny305.out, List.length_drop])
          rw [← Ny305.out] at hr146
          rw [← hy146, ← hA146, ← hc146] at hcut146
          replace hr146 : Kd.Q k40 40 w145 w.heap.size (fun k_ => k_ ≠ gb278) (.slice A146 y305.length c146) y305 := (by rw [hA146, hc146, hy146]; exact hr146)
          have HE146 : qa ((Value.slice A146 y305.length c146).ownBlock = (.slice (some ad302) x10_62.length co141 : Value).ownBlock) := ⟨by rw [hA146]; split <;> (cases ((some ad302) : Option Addr) <;> rfl)⟩
          clear hy146 hi0146 hsz146 HO_10 hA146 hc146
          have HO307 := qa.mk hr146
          clear hr146
          replace q146 := eq_true q146
          have hnb147 := NB289_254.out
          have hnc147 := NB254_289.out
          have hnb148 := NB289_256.out
          have hnc148 := NB256_289.out
          have hnb149 := NB289_278.out
          have hnc149 := NB278_289.out
          have hnb150 := NB289_279.out
          have hnc150 := NB279_289.out
          have hcz151_0 : w145.cell? ⟨gb289, 0, none⟩ = some (u290000) := (qf BK289.out 0).trans rfl
          have hcz151_1 : w145.cell? ⟨gb289, 1, none⟩ = some (.int .i64 ((qb x10_62 0).f0)) := (qf BK289.out 1).trans rfl
          have hcz151_2 : w145.cell? ⟨gb289, 2, none⟩ = some (.int .i64 ((qb x10_62 0).f1)) := (qf BK289.out 2).trans rfl
          have hfz151_0 := qj BK289.out 0
          have hfz151_1 := qj BK289.out 1
          have hfz151_2 := qj BK289.out 2
          obtain ⟨Ao153, co153, eo153⟩ := Kd.jJ HO_290000.out
          subst eo153
          try go_wp2_with (first | ((with_reducible refine jw (b := .append) (xs := #[.tmp 179, .tmp 181]) rfl ?_); at_builtin; refine Kd.Zo k64 (w0 := w) w.heap.size rfl (.tmp 179) (.tmp 181) 60 64 (.agg #[(.slice none 0 0), (.int .i64 0), (.int .i64 0)]) 40 rfl Try.underlying60 info64 rfl (by decide) (by omega) u12 x12_3 (⟨x290000_62, (⟨(qb x10_62 0).f0, (qb x10_62 0).f1⟩ : S35)⟩ : S64) [.slice Ao153 x290000_62.length co153, .int .i64 ((qb x10_62 0).f0), .int .i64 ((qb x10_62 0).f1)] (fun k_ => k_ ≠ gb254 ∧ k_ ≠ gb256 ∧ k_ ≠ gb279 ∧ k_ ≠ gb289) (fun k_ => some k_ = (.slice Ao153 x290000_62.length co153 : Value).ownBlock) rfl rfl ?aP (fun k_ hk_ => ((Kd.zq (ok' := fun k_ => ((fun k_ => k_ ≠ gb254 ∧ k_ ≠ gb256 ∧ k_ ≠ gb279 ∧ k_ ≠ gb289)) k_ ∧ some k_ ≠ (u12 : Value).ownBlock) (Kd.jR (Kd.jP (HO_290000.out) (Kd.jN HO_12.out) (by decide)) BK289.out (by decide)) (fun k_ hk => ⟨⟨hk.1.1.1, ⟨hk.1.1.2.1, ⟨hk.1.1.2.2, hk.2⟩⟩⟩, hk.1.2⟩))).1 k_ hk_.symm) ?aF ?aO ?aB ?aS ?aL ?_; (case aP => exact k64_mkM _ _ _ (⟨x290000_62, (⟨(qb x10_62 0).f0, (qb x10_62 0).f1⟩ : S35)⟩ : S64) (Kd.zq (Kd.Zq rfl (Kd.zq (ok' := fun k_ => ((fun k_ => k_ ≠ gb254 ∧ k_ ≠ gb256 ∧ k_ ≠ gb279 ∧ k_ ≠ gb289)) k_ ∧ some k_ ≠ (u12 : Value).ownBlock) (Kd.jR (Kd.jP (HO_290000.out) (Kd.jN HO_12.out) (by decide)) BK289.out (by decide)) (fun k_ hk => ⟨⟨hk.1.1.1, ⟨hk.1.1.2.1, ⟨hk.1.1.2.2, hk.2⟩⟩⟩, hk.1.2⟩))) (fun _ h_ => h_))); (case aB => exact (by repeat (first | (with_reducible first | exact HB.out | apply qp | apply qo | apply qz | refine qg ?_ GE254.out | refine qg ?_ GE256.out | refine qg ?_ GE278.out | refine qg ?_ GE279.out | refine qg ?_ GE289.out) | exact HB.out))); (case aF => exact (fun k_ hk => ⟨Kd.jL (g := gb254) (o := .cells #[.int .i64 x255000_62, .int .i64 x255001_62] 35 (0, 0)) (kq BK254) k_ hk, Kd.jL (g := gb256) (o := .cells #[.int .i64 x257000_6, .int .i64 x257001_6] 35 (0, 0)) (kq BK256) k_ hk, Kd.jL (g := gb279) (o := .cells #[.int .i64 ((qb x10_3 0).f0), .int .i64 ((qb x10_3 0).f1)] 35 (0, 0)) (kq BK279) k_ hk, Kd.jL (g := gb289) (o := .cells #[.slice Ao153 x290000_62.length co153, .int .i64 ((qb x10_62 0).f0), .int .i64 ((qb x10_62 0).f1)] 64 (0, 0)) (kq BK289) k_ hk⟩)); (case aO => exact (by (with_reducible repeat (first | apply Kd.zi | apply Kd.zk | apply Kd.zn)); exact Kd.zC HO_12.out (fun k_ hk => ⟨⟨hk.2.1, ⟨hk.2.2.1, ⟨hk.2.2.2.1, hk.2.2.2.2⟩⟩⟩, fun e_ => hk.1 e_⟩))); (case aS => exact (qy (by repeat (first | (with_reducible first | exact HB.out | apply qp | apply qo | apply qz | refine qg ?_ GE254.out | refine qg ?_ GE256.out | refine qg ?_ GE278.out | refine qg ?_ GE279.out | refine qg ?_ GE289.out) | exact HB.out)))); (case aL => have := LMc140.out; omega); intro v309 w152 ho hb hg hat; rw [← Ny308.out] at ho; have n0_ := qa.mk (Kd.J4 (by (with_reducible repeat (first | apply Kd.jq | apply Kd.jr | apply Kd.jy)); exact HO307.out) (Kd.jN (by (with_reducible repeat (first | apply Kd.zi | apply Kd.zk | apply Kd.zn)); exact HO_12.out)) (by decide) hg); have n1_ := qa.mk (zy (g := gb254) (o := .cells #[.int .i64 x255000_62, .int .i64 x255001_62] 35 (0, 0)) (kq BK254) hg (Kd.QX HO_12.out BK254.out (by decide))); have n2_ := qa.mk (zy (g := gb256) (o := .cells #[.int .i64 x257000_6, .int .i64 x257001_6] 35 (0, 0)) (kq BK256) hg (Kd.QX HO_12.out BK256.out (by decide))); have n3_ := qa.mk (zy (g := gb278) (o := .cells #[.int .i64 ((qb x10_3 0).f0), .int .i64 ((qb x10_3 0).f1), .int .i64 ((qb x10_3 0).f2)] 40 (0, 0)) (kq BK278) hg (Kd.QX HO_12.out BK278.out (by decide))); have n4_ := qa.mk (zy (g := gb279) (o := .cells #[.int .i64 ((qb x10_3 0).f0), .int .i64 ((qb x10_3 0).f1)] 35 (0, 0)) (kq BK279) hg (Kd.QX HO_12.out BK279.out (by decide))); have n5_ := qa.mk (zy (g := gb289) (o := .cells #[.slice Ao153 x290000_62.length co153, .int .i64 ((qb x10_62 0).f0), .int .i64 ((qb x10_62 0).f1)] 64 (0, 0)) (kq BK289) hg (Kd.S_away HO_12.out (fun _ hk => hk.2.2.2.2))); have n6_ := qa.mk (hb); have n7_ := qa.mk (ho); clear HO307; clear BK254; clear BK256; clear BK278; clear BK279; clear BK289; clear HB; clear HO_12; clear HO_290000; have HO307 := n0_; have BK254 := n1_; have BK256 := n2_; have BK278 := n3_; have BK279 := n4_; have BK289 := n5_; have HB := n6_; have HO310 := n7_; clear n0_ n1_ n2_ n3_ n4_ n5_ n6_ n7_; clear ho hb hg hat))
          go_roundg kj62
          case measure => have := HK1.out; have := HJ6.out; have := HK3.out; have := HJ62.out; omega
          case rel => exact ⟨(y305), (y308), (x255000_62), (x255001_62), H', ⟨by have := HK1.out; have := HJ6.out; have := HK3.out; have := HJ62.out; omega⟩, ⟨by (with_reducible repeat (first | apply Kd.jq | apply Kd.jr | apply Kd.jy)); exact Kd.Qh HO307.out (fun _ hk => trivial)⟩, ⟨by (with_reducible repeat (first | apply Kd.zi | apply Kd.zk | apply Kd.zn)); exact Kd.zC HO310.out (fun _ hk => ⟨hk.1, hk.2.1⟩)⟩, ⟨kq BK254⟩, ⟨kq BK256⟩, ⟨by repeat (first | (with_reducible first | exact HB.out | apply qp | apply qo | apply qz | refine qg ?_ GE254.out | refine qg ?_ GE256.out | refine qg ?_ GE278.out | refine qg ?_ GE279.out | refine qg ?_ GE289.out) | exact HB.out)⟩⟩
         rw [if_neg c138] at H
         have c138b0 : (((qb x10_62 0).f2) == 1) = false := beq_eq_false_iff_ne.mpr c138
         have c138b1 : (((qb x10_62 0).f2) != 1) = true := bne_iff_ne.mpr c138
         by_cases c154 : ((qb x10_3 0).f2) = 2
         case neg =>
          rw [if_neg c154] at H
          have c154b0 : (((qb x10_3 0).f2) == 2) = false := beq_eq_false_iff_ne.mpr c154
          have c154b1 : (((qb x10_3 0).f2) != 2) = true := bne_iff_ne.mpr c154
          simp only [Option.some.injEq, Prod.mk.injEq] at H
          obtain ⟨rfl, rfl, rfl, rfl, rfl⟩ := H
          obtain ⟨Ao188, co188, eo188, _⟩ := Kd.ZL HO_10.out
          subst eo188
          have p302 : 0 ≤ (0 : Int) := (by omega)
          have q302 : 0 < (x10_62.length : Int) := odt
          obtain ⟨ad302, e302, hx302_0, hx302_1, hx302_2⟩ := zH (Kd.Qb HO_10.out).2.2 0 p302 q302
          cases e302
          have qi302 : (0 < x10_62.length) = True := eq_true (by omega)
          (try rw [show ((0 : Int)).toNat = 0 from rfl] at hx302_0)
          (try rw [show 0 * 3 = 0 from rfl] at hx302_0)
          (try rw [Addr.add_zero'] at hx302_0)
          (try rw [show ((0 : Int)).toNat = 0 from rfl] at hx302_1)
          (try rw [show 0 * 3 = 0 from rfl] at hx302_1)
          (try rw [Addr.add_zero'] at hx302_1)
          (try rw [show ((0 : Int)).toNat = 0 from rfl] at hx302_2)
          (try rw [show 0 * 3 = 0 from rfl] at hx302_2)
          (try rw [Addr.add_zero'] at hx302_2)
          replace p302 := eq_true p302
          replace q302 := eq_true q302
          have hnb189 := NB278_254.out
          have hnc189 := NB254_278.out
          have hnb190 := NB278_256.out
          have hnc190 := NB256_278.out
          have hnb191 := NB278_279.out
          have hnc191 := NB279_278.out
          have hnb192 := NB278_289.out
          have hnc192 := NB289_278.out
          have hcz193_0 : wc.cell? ⟨gb278, 0, none⟩ = some (.int .i64 ((qb x10_3 0).f0)) := (qf BK278.out 0).trans rfl
          have hcz193_1 : wc.cell? ⟨gb278, 1, none⟩ = some (.int .i64 ((qb x10_3 0).f1)) := (qf BK278.out 1).trans rfl
          have hcz193_2 : wc.cell? ⟨gb278, 2, none⟩ = some (.int .i64 ((qb x10_3 0).f2)) := (qf BK278.out 2).trans rfl
          have hfz193_0 := qj BK278.out 0
          have hfz193_1 := qj BK278.out 1
          have hfz193_2 := qj BK278.out 2
          have hnb194 := NB256_254.out
          have hnc194 := NB254_256.out
          have hnb195 := NB256_279.out
          have hnc195 := NB279_256.out
          have hnb196 := NB256_289.out
          have hnc196 := NB289_256.out
          have hcz197_0 : wc.cell? ⟨gb256, 0, none⟩ = some (.int .i64 x257000_6) := (qf BK256.out 0).trans rfl
          have hcz197_1 : wc.cell? ⟨gb256, 1, none⟩ = some (.int .i64 x257001_6) := (qf BK256.out 1).trans rfl
          have hfz197_0 := qj BK256.out 0
          have hfz197_1 := qj BK256.out 1
          have hnb198 := NB254_279.out
          have hnc198 := NB279_254.out
          have hnb199 := NB254_289.out
          have hnc199 := NB289_254.out
          have hcz200_0 : wc.cell? ⟨gb254, 0, none⟩ = some (.int .i64 x255000_62) := (qf BK254.out 0).trans rfl
          have hcz200_1 : wc.cell? ⟨gb254, 1, none⟩ = some (.int .i64 x255001_62) := (qf BK254.out 1).trans rfl
          have hfz200_0 := qj BK254.out 0
          have hfz200_1 := qj BK254.out 1
          go_wp2
          refine bodyPost_ret (QD (rs := [.cell 2 35, .tmp 3, .tmp 4, .tmp 5]) rfl (by simp) (.cell gb254 35 #[.int .i64 x257000_6, .int .i64 x257001_6] (0, 0) _ rfl (by (with_reducible repeat (first | refine qh ?_ _ | refine qc ?_ | refine qd ?_ _)); refine zb (cs := #[.int .i64 x257000_6, .int .i64 x255001_62]) ?_ 1 _ rfl; refine zb (cs := #[.int .i64 x255000_62, .int .i64 x255001_62]) ?_ 0 _ rfl; exact kq BK254) Try.underlying35 rfl (by kernel_rfl) (.tmp (.tmp (.tmp .nil))))) rfl ?_
          exact ⟨_, by first | rfl | (simp [qR, qU] <;> rfl) | (simp [*, qR, qU] <;> rfl), by first | exact Kd.Jf _ _ _ _ _ | exact Kd.Jj _ _ _ _ _ | exact Kd.Jh _ _ _ _ _ | exact Kd.Jk _ _ _ _ _ | exact Kd.Ql _ _ _ _ _, by repeat (first | (with_reducible first | exact HB.out | apply qp | apply qo | apply qz | refine qg ?_ GE254.out | refine qg ?_ GE256.out | refine qg ?_ GE278.out | refine qg ?_ GE279.out | refine qg ?_ GE289.out) | exact HB.out)⟩
         rw [if_pos c154] at H
         have c154b0 : (((qb x10_3 0).f2) == 2) = true := beq_iff_eq.mpr c154
         have c154b1 : (((qb x10_3 0).f2) != 2) = false := bne_eq_false_iff_eq.mpr c154
         clear c154
         by_cases c155 : ((qb x10_62 0).f2) = 2
         case neg =>
          rw [if_neg c155] at H
          have c155b0 : (((qb x10_62 0).f2) == 2) = false := beq_eq_false_iff_ne.mpr c155
          have c155b1 : (((qb x10_62 0).f2) != 2) = true := bne_iff_ne.mpr c155
          simp only [Option.some.injEq, Prod.mk.injEq] at H
          obtain ⟨rfl, rfl, rfl, rfl, rfl⟩ := H
          obtain ⟨Ao175, co175, eo175, _⟩ := Kd.ZL HO_10.out
          subst eo175
          have p302 : 0 ≤ (0 : Int) := (by omega)
          have q302 : 0 < (x10_62.length : Int) := odt
          obtain ⟨ad302, e302, hx302_0, hx302_1, hx302_2⟩ := zH (Kd.Qb HO_10.out).2.2 0 p302 q302
          cases e302
          have qi302 : (0 < x10_62.length) = True := eq_true (by omega)
          (try rw [show ((0 : Int)).toNat = 0 from rfl] at hx302_0)
          (try rw [show 0 * 3 = 0 from rfl] at hx302_0)
          (try rw [Addr.add_zero'] at hx302_0)
          (try rw [show ((0 : Int)).toNat = 0 from rfl] at hx302_1)
          (try rw [show 0 * 3 = 0 from rfl] at hx302_1)
          (try rw [Addr.add_zero'] at hx302_1)
          (try rw [show ((0 : Int)).toNat = 0 from rfl] at hx302_2)
          (try rw [show 0 * 3 = 0 from rfl] at hx302_2)
          (try rw [Addr.add_zero'] at hx302_2)
          replace p302 := eq_true p302
          replace q302 := eq_true q302
          have hnb176 := NB278_254.out
          have hnc176 := NB254_278.out
          have hnb177 := NB278_256.out
          have hnc177 := NB256_278.out
          have hnb178 := NB278_279.out
          have hnc178 := NB279_278.out
          have hnb179 := NB278_289.out
          have hnc179 := NB289_278.out
          have hcz180_0 : wc.cell? ⟨gb278, 0, none⟩ = some (.int .i64 ((qb x10_3 0).f0)) := (qf BK278.out 0).trans rfl
          have hcz180_1 : wc.cell? ⟨gb278, 1, none⟩ = some (.int .i64 ((qb x10_3 0).f1)) := (qf BK278.out 1).trans rfl
          have hcz180_2 : wc.cell? ⟨gb278, 2, none⟩ = some (.int .i64 ((qb x10_3 0).f2)) := (qf BK278.out 2).trans rfl
          have hfz180_0 := qj BK278.out 0
          have hfz180_1 := qj BK278.out 1
          have hfz180_2 := qj BK278.out 2
          have p311 : 0 ≤ (0 : Int) := (by omega)
          have q311 : 0 < (x10_62.length : Int) := odt
          obtain ⟨ad311, e311, hx311_0, hx311_1, hx311_2⟩ := zH (Kd.Qb HO_10.out).2.2 0 p311 q311
          obtain rfl : ad302 = ad311 := (by injection e311)
          have qi311 : (0 < x10_62.length) = True := eq_true (by omega)
          (try rw [show ((0 : Int)).toNat = 0 from rfl] at hx311_0)
          (try rw [show 0 * 3 = 0 from rfl] at hx311_0)
          (try rw [Addr.add_zero'] at hx311_0)
          (try rw [show ((0 : Int)).toNat = 0 from rfl] at hx311_1)
          (try rw [show 0 * 3 = 0 from rfl] at hx311_1)
          (try rw [Addr.add_zero'] at hx311_1)
          (try rw [show ((0 : Int)).toNat = 0 from rfl] at hx311_2)
          (try rw [show 0 * 3 = 0 from rfl] at hx311_2)
          (try rw [Addr.add_zero'] at hx311_2)
          replace p311 := eq_true p311
          replace q311 := eq_true q311
          have hnb181 := NB256_254.out
          have hnc181 := NB254_256.out
          have hnb182 := NB256_279.out
          have hnc182 := NB279_256.out
          have hnb183 := NB256_289.out
          have hnc183 := NB289_256.out
          have hcz184_0 : wc.cell? ⟨gb256, 0, none⟩ = some (.int .i64 x257000_6) := (qf BK256.out 0).trans rfl
          have hcz184_1 : wc.cell? ⟨gb256, 1, none⟩ = some (.int .i64 x257001_6) := (qf BK256.out 1).trans rfl
          have hfz184_0 := qj BK256.out 0
          have hfz184_1 := qj BK256.out 1
          have hnb185 := NB254_279.out
          have hnc185 := NB279_254.out
          have hnb186 := NB254_289.out
          have hnc186 := NB289_254.out
          have hcz187_0 : wc.cell? ⟨gb254, 0, none⟩ = some (.int .i64 x255000_62) := (qf BK254.out 0).trans rfl
          have hcz187_1 : wc.cell? ⟨gb254, 1, none⟩ = some (.int .i64 x255001_62) := (qf BK254.out 1).trans rfl
          have hfz187_0 := qj BK254.out 0
          have hfz187_1 := qj BK254.out 1
          go_wp2
          refine bodyPost_ret (QD (rs := [.cell 2 35, .tmp 3, .tmp 4, .tmp 5]) rfl (by simp) (.cell gb254 35 #[.int .i64 x257000_6, .int .i64 x257001_6] (0, 0) _ rfl (by (with_reducible repeat (first | refine qh ?_ _ | refine qc ?_ | refine qd ?_ _)); refine zb (cs := #[.int .i64 x257000_6, .int .i64 x255001_62]) ?_ 1 _ rfl; refine zb (cs := #[.int .i64 x255000_62, .int .i64 x255001_62]) ?_ 0 _ rfl; exact kq BK254) Try.underlying35 rfl (by kernel_rfl) (.tmp (.tmp (.tmp .nil))))) rfl ?_
          exact ⟨_, by first | rfl | (simp [qR, qU] <;> rfl) | (simp [*, qR, qU] <;> rfl), by first | exact Kd.Jf _ _ _ _ _ | exact Kd.Jj _ _ _ _ _ | exact Kd.Jh _ _ _ _ _ | exact Kd.Jk _ _ _ _ _ | exact Kd.Ql _ _ _ _ _, by repeat (first | (with_reducible first | exact HB.out | apply qp | apply qo | apply qz | refine qg ?_ GE254.out | refine qg ?_ GE256.out | refine qg ?_ GE278.out | refine qg ?_ GE279.out | refine qg ?_ GE289.out) | exact HB.out)⟩
         rw [if_pos c155] at H
         have c155b0 : (((qb x10_62 0).f2) == 2) = true := beq_iff_eq.mpr c155
         have c155b1 : (((qb x10_62 0).f2) != 2) = false := bne_eq_false_iff_eq.mpr c155
         clear c155
         replace H := Option.bind_eq_some_iff.mp H
         obtain ⟨⟨t313, t314⟩, A1560, H⟩ := H
         replace H : (if x12_3.length < 3518437208883 then (qi.l2 kj62 x10_62 (x12_3 ++ [(⟨x290000_62, (⟨t313, t314⟩ : S35)⟩ : S64)]) x257000_6 x257001_6) else (none)) = some (r1, r2, r3, r4, r5) := H
         have A156 := qa.mk A1560
         clear A1560
         by_cases c157 : x12_3.length < 3518437208883
         case neg =>
          rw [if_neg c157] at H
          exact absurd H (by simp)
         rw [if_pos c157] at H
         have LMc157 := qa.mk c157
         clear c157
         obtain ⟨y315, hy315⟩ : ∃ y_ : List (S64), y_ = (x12_3 ++ [(⟨x290000_62, (⟨t313, t314⟩ : S35)⟩ : S64)]) := ⟨_, rfl⟩
         replace H : (qi.l2 kj62 x10_62 y315 x257000_6 x257001_6) = some (r1, r2, r3, r4, r5) := by first | (rw [hy315]; with_reducible exact H) | (have H2_ := (Option.bind_some _ _).symm.trans H; rw [hy315]; with_reducible exact H2_) | (have H2_ := (Option.bind_some _ _).symm.trans H; with_reducible exact H2_) | with_reducible exact H | (rw [hy315]; exact H) | exact H
         have Ny315 := qa.mk hy315
         clear hy315
         have H' := qa.mk H
         clear H
         obtain ⟨Ao158, co158, eo158, _⟩ := Kd.ZL HO_10.out
         subst eo158
         have p302 : 0 ≤ (0 : Int) := (by omega)
         have q302 : 0 < (x10_62.length : Int) := odt
         obtain ⟨ad302, e302, hx302_0, hx302_1, hx302_2⟩ := zH (Kd.Qb HO_10.out).2.2 0 p302 q302
         cases e302
         have qi302 : (0 < x10_62.length) = True := eq_true (by omega)
         (try rw [show ((0 : Int)).toNat = 0 from rfl] at hx302_0)
         (try rw [show 0 * 3 = 0 from rfl] at hx302_0)
         (try rw [Addr.add_zero'] at hx302_0)
         (try rw [show ((0 : Int)).toNat = 0 from rfl] at hx302_1)
         (try rw [show 0 * 3 = 0 from rfl] at hx302_1)
         (try rw [Addr.add_zero'] at hx302_1)
         (try rw [show ((0 : Int)).toNat = 0 from rfl] at hx302_2)
         (try rw [show 0 * 3 = 0 from rfl] at hx302_2)
         (try rw [Addr.add_zero'] at hx302_2)
         replace p302 := eq_true p302
         replace q302 := eq_true q302
         have hnb159 := NB278_254.out
         have hnc159 := NB254_278.out
         have hnb160 := NB278_256.out
         have hnc160 := NB256_278.out
         have hnb161 := NB278_279.out
         have hnc161 := NB279_278.out
         have hnb162 := NB278_289.out
         have hnc162 := NB289_278.out
         have hcz163_0 : wc.cell? ⟨gb278, 0, none⟩ = some (.int .i64 ((qb x10_3 0).f0)) := (qf BK278.out 0).trans rfl
         have hcz163_1 : wc.cell? ⟨gb278, 1, none⟩ = some (.int .i64 ((qb x10_3 0).f1)) := (qf BK278.out 1).trans rfl
         have hcz163_2 : wc.cell? ⟨gb278, 2, none⟩ = some (.int .i64 ((qb x10_3 0).f2)) := (qf BK278.out 2).trans rfl
         have hfz163_0 := qj BK278.out 0
         have hfz163_1 := qj BK278.out 1
         have hfz163_2 := qj BK278.out 2
         have p311 : 0 ≤ (0 : Int) := (by omega)
         have q311 : 0 < (x10_62.length : Int) := odt
         obtain ⟨ad311, e311, hx311_0, hx311_1, hx311_2⟩ := zH (Kd.Qb HO_10.out).2.2 0 p311 q311
         obtain rfl : ad302 = ad311 := (by injection e311)
         have qi311 : (0 < x10_62.length) = True := eq_true (by omega)
         (try rw [show ((0 : Int)).toNat = 0 from rfl] at hx311_0)
         (try rw [show 0 * 3 = 0 from rfl] at hx311_0)
         (try rw [Addr.add_zero'] at hx311_0)
         (try rw [show ((0 : Int)).toNat = 0 from rfl] at hx311_1)
         (try rw [show 0 * 3 = 0 from rfl] at hx311_1)
         (try rw [Addr.add_zero'] at hx311_1)
         (try rw [show ((0 : Int)).toNat = 0 from rfl] at hx311_2)
         (try rw [show 0 * 3 = 0 from rfl] at hx311_2)
         (try rw [Addr.add_zero'] at hx311_2)
         replace p311 := eq_true p311
         replace q311 := eq_true q311
         try go_wp2
         have n0_ := qa.mk (Kd.jy HO_10.out)
         have n1_ := qa.mk (Kd.zn HO_12.out)
         have n2_ := qa.mk (Kd.zR HO_290000.out)
         have n3_ := qa.mk (qc BK254.out)
         have n4_ := qa.mk (qc BK256.out)
         have n5_ := qa.mk (qc BK278.out)
         have n6_ := qa.mk (qc BK279.out)
         have n7_ := qa.mk (qc BK289.out)
         have n8_ := qa.mk (qz HB.out)
         clear HO_10
         clear HO_12
         clear HO_290000
         clear BK254
         clear BK256
         clear BK278
         clear BK279
         clear BK289
         clear HB
         have HO_10 := n0_
         have HO_12 := n1_
         have HO_290000 := n2_
         have BK254 := n3_
         have BK256 := n4_
         have BK278 := n5_
         have BK279 := n6_
         have BK289 := n7_
         have HB := n8_
         clear n0_ n1_ n2_ n3_ n4_ n5_ n6_ n7_ n8_
         have p312 : 0 ≤ (0 : Int) := (by omega)
         have q312 : 0 < (x10_62.length : Int) := odt
         obtain ⟨ad312, e312, hx312_0, hx312_1, hx312_2⟩ := zH (Kd.Qb HO_10.out).2.2 0 p312 q312
         obtain rfl : ad302 = ad312 := (by injection e312)
         have qi312 : (0 < x10_62.length) = True := eq_true (by omega)
         (try rw [show ((0 : Int)).toNat = 0 from rfl] at hx312_0)
         (try rw [show 0 * 3 = 0 from rfl] at hx312_0)
         (try rw [Addr.add_zero'] at hx312_0)
         (try rw [show ((0 : Int)).toNat = 0 from rfl] at hx312_1)
         (try rw [show 0 * 3 = 0 from rfl] at hx312_1)
         (try rw [Addr.add_zero'] at hx312_1)
         (try rw [show ((0 : Int)).toNat = 0 from rfl] at hx312_2)
         (try rw [show 0 * 3 = 0 from rfl] at hx312_2)
         (try rw [Addr.add_zero'] at hx312_2)
         replace p312 := eq_true p312
         replace q312 := eq_true q312
         refine j6 (n := 7) (S := fun w' => w'.cell? ⟨gb278, 0, none⟩ = some (.int .i64 ((qb x10_3 0).f0)) ∧ w'.cell? ⟨gb278, 1, none⟩ = some (.int .i64 ((qb x10_3 0).f1)) ∧ w'.cell? ⟨gb278, 2, none⟩ = some (.int .i64 ((qb x10_3 0).f2)) ∧ w'.cell? ad302 = some (.int .i64 ((qb x10_62 0).f0)) ∧ w'.cell? ⟨ad302.block, ad302.off + 1, none⟩ = some (.int .i64 ((qb x10_62 0).f1)) ∧ w'.cell? ⟨ad302.block, ad302.off + 2, none⟩ = some (.int .i64 ((qb x10_62 0).f2))) (ds := []) #[false, false, false, false, false, false, false] (by kernel_rfl) rfl rfl ⟨(qf BK278.out 0).trans rfl, (qf BK278.out 1).trans rfl, (qf BK278.out 2).trans rfl, hx312_0, hx312_1, hx312_2⟩ (fun hHeld => ?_)
         generalize wc.drew = w164 at HO_10 HO_12 HO_290000 BK254 BK256 BK278 BK279 BK289 HB hx312_0 hx312_1 hx312_2 hHeld ⊢
         refine qV (i := 1) (N := some 173) (v := ?_) (a' := ?_) #[false, true, false, false, false, false, false] rfl rfl (by kernel_rfl) (fun _ _ _ h => h) (Or.inl ⟨by rfl, ?_⟩) ?_ ?_
         rotate_left
         ·intro w'
          go_simp
          with_reducible rfl
         rotate_left
         ·simp only [Act.put, List.setIfInBounds_toArray, List.set_cons_zero, List.set_cons_succ, qA, qB]
          rfl
         refine qV (i := 2) (N := some 174) (v := ?_) (a' := ?_) #[false, true, true, false, false, false, false] rfl rfl (by kernel_rfl) (fun _ _ _ h => h) (Or.inl ⟨by rfl, ?_⟩) ?_ ?_
         rotate_left
         ·intro w'
          go_simp
          with_reducible rfl
         rotate_left
         ·simp only [Act.put, List.setIfInBounds_toArray, List.set_cons_zero, List.set_cons_succ, qA, qB]
          rfl
         refine zB (i := 0) (N := some 172) (v := ?_) (a' := ?_) #[true, true, true, false, false, false, false] rfl rfl (by kernel_rfl) (fun _ _ _ h => h) (Or.inl ⟨by rfl, ?_⟩) hHeld ?_ ?_
         rotate_left
         ·rintro w' ⟨s0, s1, s2, s3, s4, s5⟩
          go_simp
          with_reducible rfl
         rotate_left
         ·simp only [Act.put, List.setIfInBounds_toArray, List.set_cons_zero, List.set_cons_succ, qA, qB]
          rfl
         refine zB (i := 3) (N := some 175) (v := ?_) (a' := ?_) #[true, true, true, true, false, false, false] rfl rfl (by kernel_rfl) (fun _ _ _ h => h) (Or.inl ⟨by rfl, ?_⟩) hHeld ?_ ?_
         rotate_left
         ·rintro w' ⟨s0, s1, s2, s3, s4, s5⟩
          go_simp
          with_reducible rfl
         rotate_left
         ·simp only [Act.put, List.setIfInBounds_toArray, List.set_cons_zero, List.set_cons_succ, qA, qB]
          rfl
         refine jE (i := 4) (N := some 176) #[true, true, true, true, true, false, false] rfl rfl (by kernel_rfl) (by decide) (fun K hK => ?_)
         refine jG Try.func42 (by kernel_rfl) rfl #[.agg #[.int .i64 ((qb x10_3 0).f0), .int .i64 ((qb x10_3 0).f1), .int .i64 ((qb x10_3 0).f2)], .agg #[.int .i64 ((qb x10_62 0).f0), .int .i64 ((qb x10_62 0).f1), .int .i64 ((qb x10_62 0).f2)]] (by rfl) rfl rfl (by (try simp only [List.map_toArray, List.map_cons, List.map_nil]); first | done | rfl | (simp only [List.length_drop, List.length_take]; rfl)) ?_
         with_reducible refine (ze.calls kj62 ((qb x10_3 0).f0) ((qb x10_3 0).f1) ((qb x10_3 0).f2) ((qb x10_62 0).f0) ((qb x10_62 0).f1) ((qb x10_62 0).f2) t313 t314 _ A156.out).mono ?_
         rintro e w165 ⟨rfl, hb⟩
         have HS3_ := (hb.cell (World.block_lt_of_cell? _ _ (hHeld.2.2.2.1))).trans (hHeld.2.2.2.1)
         have HS4_ := (hb.cell (World.block_lt_of_cell? _ _ (hHeld.2.2.2.2.1))).trans (hHeld.2.2.2.2.1)
         have HS5_ := (hb.cell (World.block_lt_of_cell? _ _ (hHeld.2.2.2.2.2))).trans (hHeld.2.2.2.2.2)
         refine ⟨_, rfl, ?_⟩
         have n0_ := qa.mk (Kd.QW (by (with_reducible repeat (first | apply Kd.jq | apply Kd.jr | apply Kd.jy)); exact HO_10.out) hb)
         have n1_ := qa.mk (Kd.jA (by (with_reducible repeat (first | apply Kd.zi | apply Kd.zk | apply Kd.zn)); exact HO_12.out) hb)
         have n2_ := qa.mk (Kd.QJ (rq HO_290000) hb)
         have n3_ := qa.mk (qN (g := gb254) (o := .cells #[.int .i64 x255000_62, .int .i64 x255001_62] 35 (0, 0)) (kq BK254) hb)
         have n4_ := qa.mk (qN (g := gb256) (o := .cells #[.int .i64 x257000_6, .int .i64 x257001_6] 35 (0, 0)) (kq BK256) hb)
         have n5_ := qa.mk (qN (g := gb278) (o := .cells #[.int .i64 ((qb x10_3 0).f0), .int .i64 ((qb x10_3 0).f1), .int .i64 ((qb x10_3 0).f2)] 40 (0, 0)) (kq BK278) hb)
         have n6_ := qa.mk (qN (g := gb279) (o := .cells #[.int .i64 ((qb x10_3 0).f0), .int .i64 ((qb x10_3 0).f1)] 35 (0, 0)) (kq BK279) hb)
         have n7_ := qa.mk (qN (g := gb289) (o := .cells #[u290000, .int .i64 0, .int .i64 0] 64 (0, 0)) (kq BK289) hb)
         have n8_ := qa.mk (qE (by repeat (first | (with_reducible first | exact HB.out | apply qp | apply qo | apply qz | refine qg ?_ GE254.out | refine qg ?_ GE256.out | refine qg ?_ GE278.out | refine qg ?_ GE279.out | refine qg ?_ GE289.out) | exact HB.out)) hb)
         clear HO_10
         clear HO_12
         clear HO_290000
         clear BK254
         clear BK256
         clear BK278
         clear BK279
         clear BK289
         clear HB
         have HO_10 := n0_
         have HO_12 := n1_
         have HO_290000 := n2_
         have BK254 := n3_
         have BK256 := n4_
         have BK278 := n5_
         have BK279 := n6_
         have BK289 := n7_
         have HB := n8_
         clear n0_ n1_ n2_ n3_ n4_ n5_ n6_ n7_ n8_
         (try clear hb)
         (try clear hb2)
         (try clear hk)
         (try clear hi)
         refine hK.out _ _ ⟨(qf BK278.out 0).trans rfl, (qf BK278.out 1).trans rfl, (qf BK278.out 2).trans rfl, HS3_, HS4_, HS5_⟩ (fun hHeld => ?_)
         clear hK K
         refine zY (a' := ?_) ?_ ?_
         rotate_left
         ·show Act.put _ (some 176) _ = _
          simp only [Act.put, List.setIfInBounds_toArray, List.set_cons_zero, List.set_cons_succ, qA, qB]
          rfl
         refine qV (i := 5) (N := some 177) (v := ?_) (a' := ?_) #[true, true, true, true, true, true, false] rfl rfl (by kernel_rfl) (fun _ _ _ h => h) (Or.inl ⟨by rfl, ?_⟩) ?_ ?_
         rotate_left
         ·intro w'
          go_simp
          with_reducible rfl
         rotate_left
         ·simp only [Act.put, List.setIfInBounds_toArray, List.set_cons_zero, List.set_cons_succ, qA, qB]
          rfl
         refine jE (i := 6) (N := none) #[true, true, true, true, true, true, true] rfl rfl (by kernel_rfl) (by decide) (fun K hK => ?_)
         have hs166 : w165.cell? ⟨gb289, 1, none⟩ = some (.int .i64 0) := (qf BK289.out 1).trans rfl
         have hfs166 := qj BK289.out 1
         have hns166_0 := NB254_289.out
         have hns166_1 := NB256_289.out
         have hns166_2 := NB278_289.out
         have hns166_3 := NB279_289.out
         have hms166_0 := NB289_254.out
         have hms166_1 := NB289_256.out
         have hms166_2 := NB289_278.out
         have hms166_3 := NB289_279.out
         have hs167 : w165.cell? ⟨gb289, 2, none⟩ = some (.int .i64 0) := (qf BK289.out 2).trans rfl
         have hfs167 := qj BK289.out 2
         have hns167_0 := NB254_289.out
         have hns167_1 := NB256_289.out
         have hns167_2 := NB278_289.out
         have hns167_3 := NB279_289.out
         have hms167_0 := NB289_254.out
         have hms167_1 := NB289_256.out
         have hms167_2 := NB289_278.out
         have hms167_3 := NB289_279.out
         refine Zt (w1 := ?_) (by rfl) rfl ?_ ?_
         rotate_left
         ·go_simp
          rfl
         have hz0_ := Kd.zg (Kd.JG HO_10.out BK289.out (by decide))
         refine hK.out _ _ ⟨((cell_far (p := ⟨gb289, _, none⟩) NB278_289.out _).trans (((cell_far (p := ⟨gb289, _, none⟩) NB278_289.out _).trans (hHeld.1)))), ((cell_far (p := ⟨gb289, _, none⟩) NB278_289.out _).trans (((cell_far (p := ⟨gb289, _, none⟩) NB278_289.out _).trans (hHeld.2.1)))), ((cell_far (p := ⟨gb289, _, none⟩) NB278_289.out _).trans (((cell_far (p := ⟨gb289, _, none⟩) NB278_289.out _).trans (hHeld.2.2.1)))), ((cell_far (p := ⟨gb289, _, none⟩) (by exact hz0_) _).trans (((cell_far (p := ⟨gb289, _, none⟩) (by exact hz0_) _).trans (hHeld.2.2.2.1)))), ((cell_far (p := ⟨gb289, _, none⟩) (by exact hz0_) _).trans (((cell_far (p := ⟨gb289, _, none⟩) (by exact hz0_) _).trans (hHeld.2.2.2.2.1)))), ((cell_far (p := ⟨gb289, _, none⟩) (by exact hz0_) _).trans (((cell_far (p := ⟨gb289, _, none⟩) (by exact hz0_) _).trans (hHeld.2.2.2.2.2))))⟩ (fun hHeld => ?_)
         clear hK K
         refine Qk (by kernel_rfl) ?_
         have n0_ : qa (Kd.Q k40 40 ((w165.setCell ⟨gb289, 1, none⟩ (.int .i64 t313)).setCell ⟨gb289, 2, none⟩ (.int .i64 t314)) w.heap.size (fun k_ => k_ ≠ gb278) (.slice (some ad302) x10_62.length co158) x10_62) := ⟨by exact Kd.Qh (Kd.Qf (p := ⟨gb289, 2, none⟩) (Kd.Qf (p := ⟨gb289, 1, none⟩) (Kd.ZI HO_10.out BK289.out (by decide)) (fun _ hk => hk.2) (.int .i64 t313)) (fun _ hk => hk.2) (.int .i64 t314)) (fun _ hk => hk.1)⟩
         have n1_ : qa (Kd.S k64 64 ((w165.setCell ⟨gb289, 1, none⟩ (.int .i64 t313)).setCell ⟨gb289, 2, none⟩ (.int .i64 t314)) w.heap.size (fun k_ => some k_ ≠ (u290000 : Value).ownBlock ∧ k_ ≠ gb254 ∧ k_ ≠ gb256 ∧ k_ ≠ gb279 ∧ k_ ≠ gb289) u12 x12_3) := ⟨by exact Kd.zC (Kd.jo (p := ⟨gb289, 2, none⟩) (Kd.jo (p := ⟨gb289, 1, none⟩) (Kd.zC HO_12.out (fun k_ hk => (⟨hk, hk.2.2.2.2⟩ : _ ∧ k_ ≠ gb289))) (fun _ hk => hk.2) (.int .i64 t313)) (fun _ hk => hk.2) (.int .i64 t314)) (fun _ hk => ⟨hk.1.1, ⟨hk.1.2.1, ⟨hk.1.2.2.1, ⟨hk.1.2.2.2.1, hk.1.2.2.2.2⟩⟩⟩⟩)⟩
         have n2_ : qa (Kd.R k35 35 ((w165.setCell ⟨gb289, 1, none⟩ (.int .i64 t313)).setCell ⟨gb289, 2, none⟩ (.int .i64 t314)) w.heap.size (fun k_ => k_ ≠ gb254 ∧ k_ ≠ gb256 ∧ k_ ≠ gb279) u290000 x290000_62) := ⟨by exact Kd.zq (Kd.jh (p := ⟨gb289, 2, none⟩) (Kd.jh (p := ⟨gb289, 1, none⟩) (Kd.jR HO_290000.out BK289.out (by decide)) (fun _ hk => hk.2) (.int .i64 t313)) (fun _ hk => hk.2) (.int .i64 t314)) (fun _ hk => ⟨hk.1.1, ⟨hk.1.2.1, hk.1.2.2⟩⟩)⟩
         have n3_ : qa (((w165.setCell ⟨gb289, 1, none⟩ (.int .i64 t313)).setCell ⟨gb289, 2, none⟩ (.int .i64 t314)).heap[gb254]? = some (.cells #[.int .i64 x255000_62, .int .i64 x255001_62] 35 (0, 0))) := ⟨by refine qJ ?_ NB254_289.out _; refine qJ ?_ NB254_289.out _; exact kq BK254⟩
         have n4_ : qa (((w165.setCell ⟨gb289, 1, none⟩ (.int .i64 t313)).setCell ⟨gb289, 2, none⟩ (.int .i64 t314)).heap[gb256]? = some (.cells #[.int .i64 x257000_6, .int .i64 x257001_6] 35 (0, 0))) := ⟨by refine qJ ?_ NB256_289.out _; refine qJ ?_ NB256_289.out _; exact kq BK256⟩
         have n5_ : qa (((w165.setCell ⟨gb289, 1, none⟩ (.int .i64 t313)).setCell ⟨gb289, 2, none⟩ (.int .i64 t314)).heap[gb278]? = some (.cells #[.int .i64 ((qb x10_3 0).f0), .int .i64 ((qb x10_3 0).f1), .int .i64 ((qb x10_3 0).f2)] 40 (0, 0))) := ⟨by refine qJ ?_ NB278_289.out _; refine qJ ?_ NB278_289.out _; exact kq BK278⟩
         have n6_ : qa (((w165.setCell ⟨gb289, 1, none⟩ (.int .i64 t313)).setCell ⟨gb289, 2, none⟩ (.int .i64 t314)).heap[gb279]? = some (.cells #[.int .i64 ((qb x10_3 0).f0), .int .i64 ((qb x10_3 0).f1)] 35 (0, 0))) := ⟨by refine qJ ?_ NB279_289.out _; refine qJ ?_ NB279_289.out _; exact kq BK279⟩
         have n7_ : qa (((w165.setCell ⟨gb289, 1, none⟩ (.int .i64 t313)).setCell ⟨gb289, 2, none⟩ (.int .i64 t314)).heap[gb289]? = some (.cells #[u290000, .int .i64 t313, .int .i64 t314] 64 (0, 0))) := ⟨by refine zb (cs := #[u290000, .int .i64 t313, .int .i64 0]) ?_ 2 _ rfl; refine zb (cs := #[u290000, .int .i64 0, .int .i64 0]) ?_ 1 _ rfl; exact kq BK289⟩
         have n8_ : qa (Below w.heap.size w ((w165.setCell ⟨gb289, 1, none⟩ (.int .i64 t313)).setCell ⟨gb289, 2, none⟩ (.int .i64 t314))) := ⟨by repeat (first | (with_reducible first | exact HB.out | apply qp | apply qo | apply qz | refine qg ?_ GE254.out | refine qg ?_ GE256.out | refine qg ?_ GE278.out | refine qg ?_ GE279.out | refine qg ?_ GE289.out) | exact HB.out)⟩
         (try clear HO_10)
         (try clear HO_12)
         (try clear HO_290000)
         (try clear BK254)
         (try clear BK256)
         (try clear BK278)
         (try clear BK279)
         (try clear BK289)
         (try clear HB)
         generalize ((w165.setCell ⟨gb289, 1, none⟩ (.int .i64 t313)).setCell ⟨gb289, 2, none⟩ (.int .i64 t314)) = w168 at n0_ n1_ n2_ n3_ n4_ n5_ n6_ n7_ n8_ ⊢
         have HO_10 := n0_
         have HO_12 := n1_
         have HO_290000 := n2_
         have BK254 := n3_
         have BK256 := n4_
         have BK278 := n5_
         have BK279 := n6_
         have BK289 := n7_
         have HB := n8_
         clear n0_ n1_ n2_ n3_ n4_ n5_ n6_ n7_ n8_
         have hnb169 := NB289_254.out
         have hnc169 := NB254_289.out
         have hnb170 := NB289_256.out
         have hnc170 := NB256_289.out
         have hnb171 := NB289_279.out
         have hnc171 := NB279_289.out
         have hcz172_0 : w168.cell? ⟨gb289, 0, none⟩ = some (u290000) := (qf BK289.out 0).trans rfl
         have hcz172_1 : w168.cell? ⟨gb289, 1, none⟩ = some (.int .i64 t313) := (qf BK289.out 1).trans rfl
         have hcz172_2 : w168.cell? ⟨gb289, 2, none⟩ = some (.int .i64 t314) := (qf BK289.out 2).trans rfl
         have hfz172_0 := qj BK289.out 0
         have hfz172_1 := qj BK289.out 1
         have hfz172_2 := qj BK289.out 2
         obtain ⟨Ao174, co174, eo174⟩ := Kd.jJ HO_290000.out
         subst eo174
         try go_wp2_with (first | ((with_reducible refine jw (b := .append) (xs := #[.tmp 179, .tmp 181]) rfl ?_); at_builtin; refine Kd.Zo k64 (w0 := w) w.heap.size rfl (.tmp 179) (.tmp 181) 60 64 (.agg #[(.slice none 0 0), (.int .i64 0), (.int .i64 0)]) 40 rfl Try.underlying60 info64 rfl (by decide) (by omega) u12 x12_3 (⟨x290000_62, (⟨t313, t314⟩ : S35)⟩ : S64) [.slice Ao174 x290000_62.length co174, .int .i64 t313, .int .i64 t314] (fun k_ => k_ ≠ gb254 ∧ k_ ≠ gb256 ∧ k_ ≠ gb279 ∧ k_ ≠ gb289) (fun k_ => some k_ = (.slice Ao174 x290000_62.length co174 : Value).ownBlock) rfl rfl ?aP (fun k_ hk_ => ((Kd.zq (ok' := fun k_ => ((fun k_ => k_ ≠ gb254 ∧ k_ ≠ gb256 ∧ k_ ≠ gb279 ∧ k_ ≠ gb289)) k_ ∧ some k_ ≠ (u12 : Value).ownBlock) (Kd.jR (Kd.jP (HO_290000.out) (Kd.jN HO_12.out) (by decide)) BK289.out (by decide)) (fun k_ hk => ⟨⟨hk.1.1.1, ⟨hk.1.1.2.1, ⟨hk.1.1.2.2, hk.2⟩⟩⟩, hk.1.2⟩))).1 k_ hk_.symm) ?aF ?aO ?aB ?aS ?aL ?_; (case aP => exact k64_mkM _ _ _ (⟨x290000_62, (⟨t313, t314⟩ : S35)⟩ : S64) (Kd.zq (Kd.Zq rfl (Kd.zq (ok' := fun k_ => ((fun k_ => k_ ≠ gb254 ∧ k_ ≠ gb256 ∧ k_ ≠ gb279 ∧ k_ ≠ gb289)) k_ ∧ some k_ ≠ (u12 : Value).ownBlock) (Kd.jR (Kd.jP (HO_290000.out) (Kd.jN HO_12.out) (by decide)) BK289.out (by decide)) (fun k_ hk => ⟨⟨hk.1.1.1, ⟨hk.1.1.2.1, ⟨hk.1.1.2.2, hk.2⟩⟩⟩, hk.1.2⟩))) (fun _ h_ => h_))); (case aB => exact (by repeat (first | (with_reducible first | exact HB.out | apply qp | apply qo | apply qz | refine qg ?_ GE254.out | refine qg ?_ GE256.out | refine qg ?_ GE278.out | refine qg ?_ GE279.out | refine qg ?_ GE289.out) | exact HB.out))); (case aF => exact (fun k_ hk => ⟨Kd.jL (g := gb254) (o := .cells #[.int .i64 x255000_62, .int .i64 x255001_62] 35 (0, 0)) (kq BK254) k_ hk, Kd.jL (g := gb256) (o := .cells #[.int .i64 x257000_6, .int .i64 x257001_6] 35 (0, 0)) (kq BK256) k_ hk, Kd.jL (g := gb279) (o := .cells #[.int .i64 ((qb x10_3 0).f0), .int .i64 ((qb x10_3 0).f1)] 35 (0, 0)) (kq BK279) k_ hk, Kd.jL (g := gb289) (o := .cells #[.slice Ao174 x290000_62.length co174, .int .i64 t313, .int .i64 t314] 64 (0, 0)) (kq BK289) k_ hk⟩)); (case aO => exact (by (with_reducible repeat (first | apply Kd.zi | apply Kd.zk | apply Kd.zn)); exact Kd.zC HO_12.out (fun k_ hk => ⟨⟨hk.2.1, ⟨hk.2.2.1, ⟨hk.2.2.2.1, hk.2.2.2.2⟩⟩⟩, fun e_ => hk.1 e_⟩))); (case aS => exact (qy (by repeat (first | (with_reducible first | exact HB.out | apply qp | apply qo | apply qz | refine qg ?_ GE254.out | refine qg ?_ GE256.out | refine qg ?_ GE278.out | refine qg ?_ GE279.out | refine qg ?_ GE289.out) | exact HB.out)))); (case aL => have := LMc157.out; omega); intro v316 w173 ho hb hg hat; rw [← Ny315.out] at ho; have n0_ := qa.mk (Kd.J4 (by (with_reducible repeat (first | apply Kd.jq | apply Kd.jr | apply Kd.jy)); exact HO_10.out) (Kd.jN (by (with_reducible repeat (first | apply Kd.zi | apply Kd.zk | apply Kd.zn)); exact HO_12.out)) (by decide) hg); have n1_ := qa.mk (zy (g := gb254) (o := .cells #[.int .i64 x255000_62, .int .i64 x255001_62] 35 (0, 0)) (kq BK254) hg (Kd.QX HO_12.out BK254.out (by decide))); have n2_ := qa.mk (zy (g := gb256) (o := .cells #[.int .i64 x257000_6, .int .i64 x257001_6] 35 (0, 0)) (kq BK256) hg (Kd.QX HO_12.out BK256.out (by decide))); have n3_ := qa.mk (zy (g := gb278) (o := .cells #[.int .i64 ((qb x10_3 0).f0), .int .i64 ((qb x10_3 0).f1), .int .i64 ((qb x10_3 0).f2)] 40 (0, 0)) (kq BK278) hg (Kd.QX HO_12.out BK278.out (by decide))); have n4_ := qa.mk (zy (g := gb279) (o := .cells #[.int .i64 ((qb x10_3 0).f0), .int .i64 ((qb x10_3 0).f1)] 35 (0, 0)) (kq BK279) hg (Kd.QX HO_12.out BK279.out (by decide))); have n5_ := qa.mk (zy (g := gb289) (o := .cells #[.slice Ao174 x290000_62.length co174, .int .i64 t313, .int .i64 t314] 64 (0, 0)) (kq BK289) hg (Kd.S_away HO_12.out (fun _ hk => hk.2.2.2.2))); have n6_ := qa.mk (hb); have n7_ := qa.mk (ho); clear HO_10; clear BK254; clear BK256; clear BK278; clear BK279; clear BK289; clear HB; clear HO_12; clear HO_290000; have HO_10 := n0_; have BK254 := n1_; have BK256 := n2_; have BK278 := n3_; have BK279 := n4_; have BK289 := n5_; have HB := n6_; have HO317 := n7_; clear n0_ n1_ n2_ n3_ n4_ n5_ n6_ n7_; clear ho hb hg hat))
         go_roundg kj62
         case measure => have := HK1.out; have := HJ6.out; have := HK3.out; have := HJ62.out; omega
         case rel => exact ⟨(x10_62), (y315), (x255000_62), (x255001_62), H', ⟨by have := HK1.out; have := HJ6.out; have := HK3.out; have := HJ62.out; omega⟩, ⟨by (with_reducible repeat (first | apply Kd.jq | apply Kd.jr | apply Kd.jy)); exact Kd.Qh HO_10.out (fun _ hk => trivial)⟩, ⟨by (with_reducible repeat (first | apply Kd.zi | apply Kd.zk | apply Kd.zn)); exact Kd.zC HO317.out (fun _ hk => ⟨hk.1, hk.2.1⟩)⟩, ⟨kq BK254⟩, ⟨kq BK256⟩, ⟨by repeat (first | (with_reducible first | exact HB.out | apply qp | apply qo | apply qz | refine qg ?_ GE254.out | refine qg ?_ GE256.out | refine qg ?_ GE278.out | refine qg ?_ GE279.out | refine qg ?_ GE289.out) | exact HB.out)⟩⟩
end Go.Proofs.Ytmlkpadlafjfeaa.P
