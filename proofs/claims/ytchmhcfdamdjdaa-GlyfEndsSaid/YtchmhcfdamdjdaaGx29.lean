-- written by a program of this session (wip/xprint.py) over the kit's print
import Derived.Test.YtchmhcfdamdjdaaGx0
import Derived.Test.YtchmhcfdamdjdaaGx27
import Derived.Test.YtchmhcfdamdjdaaGx28
namespace Go.Proofs.Ytchmhcfdamdjdaa.G
open Go.RowKit Go.Proofs.YtchmhcfdamdjdaaW.PrintWords Go.Proofs.YtchmhcfdamdjdaaW.PrintLast Go.Proofs.YtchmhcfdamdjdaaW.PrintMore
attribute [local go_sem] max2_int min2_int max_two min_two max_three min_three max_four min_four   -- for this text's walks alone
set_option linter.unusedVariables false
set_option linter.unusedSimpArgs false

/-! ### glyf_Encode: function 21 -/
mutual
def glyf_Encode.l0 : Nat → List Int → List Int → List Int → List Int → List Int → Int → Int → Int → Int → List (List (S46)) → Int → Int → Option (List Int × Int)
 | 0, _, _, _, _, _, _, _, _, _, _, _, _ => none
 | k + 1, x1, x6, x7, x8, x9, x10, x11, x12, x13, x23, x24, x25 => if x25 < x24 then (if 0 ≤ x25 then (if x25 < (x23.length : Int) then (glyf_Encode.l1 k x1 x6 x7 x8 x9 x10 x11 x12 x13 (rd_L3 x23 x25) x23 x24 x25 (rd_L3 x23 x25) ((rd_L3 x23 x25).length : Int) 0) else (none)) else (none)) else (if x11 > 256 then (glyf_Encode.j3 k x1 x6 x7 x8 x9 x11 true) else (if x10 > 4096 then (glyf_Encode.j3 k x1 x6 x7 x8 x9 x11 true) else (glyf_Encode.j3 k x1 x6 x7 x8 x9 x11 (decide ((x1.length : Int) > 65535)))))
def glyf_Encode.l1 : Nat → List Int → List Int → List Int → List Int → List Int → Int → Int → Int → Int → List (S46) → List (List (S46)) → Int → Int → List (S46) → Int → Int → Option (List Int × Int)
 | 0, _, _, _, _, _, _, _, _, _, _, _, _, _, _, _, _ => none
 | k + 1, x1, x6, x7, x8, x9, x10, x11, x12, x13, x15, x23, x24, x25, x29, x30, x31 => if x31 < x30 then (if 0 ≤ x31 then (if x31 < (x29.length : Int) then (if ((rd_T46 x29 x31).f2) = 1 then ((glyf_wide.f ((rd_T46 x29 x31).f0) x12).bind fun t142 => (if t142 = true then (glyf_Encode.j2 k x1 x6 x7 x8 x9 x10 x11 x15 (wrap64 (((rd_T46 x29 x31).f0) - x12)) (wrap64 (((rd_T46 x29 x31).f1) - x13)) x23 x24 x25 x29 x30 x31 true ((rd_T46 x29 x31).f0) ((rd_T46 x29 x31).f1) ((rd_T46 x29 x31).f2)) else ((glyf_wide.f ((rd_T46 x29 x31).f1) x13).bind fun t143 => (glyf_Encode.j2 k x1 x6 x7 x8 x9 x10 x11 x15 (wrap64 (((rd_T46 x29 x31).f0) - x12)) (wrap64 (((rd_T46 x29 x31).f1) - x13)) x23 x24 x25 x29 x30 x31 t143 ((rd_T46 x29 x31).f0) ((rd_T46 x29 x31).f1) ((rd_T46 x29 x31).f2))))) else (if ((rd_T46 x29 x31).f2) = 2 then ((glyf_wide.f ((rd_T46 x29 x31).f0) x12).bind fun t144 => (if t144 = true then (glyf_Encode.j2 k x1 x6 x7 x8 x9 x10 x11 x15 (wrap64 (((rd_T46 x29 x31).f0) - x12)) (wrap64 (((rd_T46 x29 x31).f1) - x13)) x23 x24 x25 x29 x30 x31 true ((rd_T46 x29 x31).f0) ((rd_T46 x29 x31).f1) ((rd_T46 x29 x31).f2)) else ((glyf_wide.f ((rd_T46 x29 x31).f1) x13).bind fun t145 => (glyf_Encode.j2 k x1 x6 x7 x8 x9 x10 x11 x15 (wrap64 (((rd_T46 x29 x31).f0) - x12)) (wrap64 (((rd_T46 x29 x31).f1) - x13)) x23 x24 x25 x29 x30 x31 t145 ((rd_T46 x29 x31).f0) ((rd_T46 x29 x31).f1) ((rd_T46 x29 x31).f2))))) else (glyf_Encode.j2 k x1 x6 x7 x8 x9 x10 x11 x15 (wrap64 (((rd_T46 x29 x31).f0) - x12)) (wrap64 (((rd_T46 x29 x31).f1) - x13)) x23 x24 x25 x29 x30 x31 true ((rd_T46 x29 x31).f0) ((rd_T46 x29 x31).f1) ((rd_T46 x29 x31).f2)))) else (none)) else (none)) else (if (x15.length : Int) > 0 then ((glyf_two.f k x6 (([wrap64 ((wrap64 (x10 + (x15.length : Int))) - 1)] : List Int))).bind fun t137 => (glyf_Encode.l0 k x1 t137 x7 x8 x9 (wrap64 (x10 + (x15.length : Int))) (wrap64 (x11 + 1)) x12 x13 x23 x24 (wrap64 (x25 + 1)))) else (glyf_Encode.l0 k x1 x6 x7 x8 x9 (wrap64 (x10 + (x15.length : Int))) x11 x12 x13 x23 x24 (wrap64 (x25 + 1))))
def glyf_Encode.j2 : Nat → List Int → List Int → List Int → List Int → List Int → Int → Int → List (S46) → Int → Int → List (List (S46)) → Int → Int → List (S46) → Int → Int → Bool → Int → Int → Int → Option (List Int × Int)
 | 0, _, _, _, _, _, _, _, _, _, _, _, _, _, _, _, _, _, _, _, _ => none
 | k + 1, x1, x6, x7, x8, x9, x10, x11, x15, x18, x19, x23, x24, x25, x29, x30, x31, x62, x142000, x142001, x142002 => if x62 = true then (some (([] : List Int), 75)) else (if x7.length < 140737488355328 then ((glyf_two.f k x8 (([x18] : List Int))).bind fun t152 => ((glyf_two.f k x9 (([x19] : List Int))).bind fun t158 => (glyf_Encode.l1 k x1 x6 (x7 ++ [(wrap64 (2 - x142002)) % 256]) t152 t158 x10 x11 x142000 x142001 x15 x23 x24 x25 x29 x30 (wrap64 (x31 + 1))))) else (none))
def glyf_Encode.j3 : Nat → List Int → List Int → List Int → List Int → List Int → Int → Bool → Option (List Int × Int)
 | 0, _, _, _, _, _, _, _ => none
 | k + 1, x1, x6, x7, x8, x9, x11, x108 => if x108 = true then (some (([] : List Int), 73)) else ((glyf_two.f k ([] : List Int) (([x11, 0, 0, 0, 0] : List Int))).bind fun t164 => (if t164.length + x6.length < 140737488355328 then ((glyf_two.f k (t164 ++ x6) (([(x1.length : Int)] : List Int))).bind fun t173 => ((some (([x1, x7, x8, x9] : List (List Int)) : List (List Int))).bind fun y176 => (glyf_Encode.l2 k t173 y176 (y176.length : Int) 0))) else (none)))
def glyf_Encode.l2 : Nat → List Int → List (List Int) → Int → Int → Option (List Int × Int)
 | 0, _, _, _, _ => none
 | k + 1, x20, x123, x124, x125 => if x125 < x124 then (if 0 ≤ x125 then (if x125 < (x123.length : Int) then (if x20.length + (rd_L4 x123 x125).length < 140737488355328 then (glyf_Encode.l2 k (x20 ++ (rd_L4 x123 x125)) x123 x124 (wrap64 (x125 + 1))) else (none)) else (none)) else (none)) else (some (x20, 0))
end
def glyf_Encode.f (k : Nat) (l0 : List (List (S46))) (l1 : List Int) : Option (List Int × Int) := glyf_Encode.l0 k l1 ([] : List Int) ([] : List Int) ([] : List Int) ([] : List Int) 0 0 0 0 l0 (l0.length : Int) 0
theorem glyf_Encode.mono_l : ∀ k, (∀ y0 y1 y2 y3 y4 y5 y6 y7 y8 y9 y10 y11, LeO (glyf_Encode.l0 k y0 y1 y2 y3 y4 y5 y6 y7 y8 y9 y10 y11) (glyf_Encode.l0 (k + 1) y0 y1 y2 y3 y4 y5 y6 y7 y8 y9 y10 y11)) ∧ (∀ y0 y1 y2 y3 y4 y5 y6 y7 y8 y9 y10 y11 y12 y13 y14 y15, LeO (glyf_Encode.l1 k y0 y1 y2 y3 y4 y5 y6 y7 y8 y9 y10 y11 y12 y13 y14 y15) (glyf_Encode.l1 (k + 1) y0 y1 y2 y3 y4 y5 y6 y7 y8 y9 y10 y11 y12 y13 y14 y15)) ∧ (∀ y0 y1 y2 y3 y4 y5 y6 y7 y8 y9 y10 y11 y12 y13 y14 y15 y16 y17 y18 y19, LeO (glyf_Encode.j2 k y0 y1 y2 y3 y4 y5 y6 y7 y8 y9 y10 y11 y12 y13 y14 y15 y16 y17 y18 y19) (glyf_Encode.j2 (k + 1) y0 y1 y2 y3 y4 y5 y6 y7 y8 y9 y10 y11 y12 y13 y14 y15 y16 y17 y18 y19)) ∧ (∀ y0 y1 y2 y3 y4 y5 y6, LeO (glyf_Encode.j3 k y0 y1 y2 y3 y4 y5 y6) (glyf_Encode.j3 (k + 1) y0 y1 y2 y3 y4 y5 y6)) ∧ (∀ y0 y1 y2 y3, LeO (glyf_Encode.l2 k y0 y1 y2 y3) (glyf_Encode.l2 (k + 1) y0 y1 y2 y3))
 | 0 => ⟨fun _ _ _ _ _ _ _ _ _ _ _ _ r h => by simp [glyf_Encode.l0] at h, fun _ _ _ _ _ _ _ _ _ _ _ _ _ _ _ _ r h => by simp [glyf_Encode.l1] at h, fun _ _ _ _ _ _ _ _ _ _ _ _ _ _ _ _ _ _ _ _ r h => by simp [glyf_Encode.j2] at h, fun _ _ _ _ _ _ _ r h => by simp [glyf_Encode.j3] at h, fun _ _ _ _ r h => by simp [glyf_Encode.l2] at h⟩
 | k + 1 => by
  obtain ⟨ih0, ih1, ih2, ih3, ih4⟩ := glyf_Encode.mono_l k
  refine ⟨?_, ?_, ?_, ?_, ?_⟩
  ·intro y0 y1 y2 y3 y4 y5 y6 y7 y8 y9 y10 y11
   unfold glyf_Encode.l0
   repeat' first
   | (with_reducible exact ih0 _ _ _ _ _ _ _ _ _ _ _ _)
   | (with_reducible exact ih1 _ _ _ _ _ _ _ _ _ _ _ _ _ _ _ _)
   | (with_reducible exact ih2 _ _ _ _ _ _ _ _ _ _ _ _ _ _ _ _ _ _ _ _)
   | (with_reducible exact ih3 _ _ _ _ _ _ _)
   | (with_reducible exact ih4 _ _ _ _)
   | (with_reducible exact glyf_two.mono _ _ _)
   | (with_reducible exact LeO.refl _)
   | (with_reducible exact LeO.none _)
   | (with_reducible refine LeO.ite ?_ ?_)
   | (with_reducible refine LeO.bind ?_ (fun _ => ?_))
   | exact ih0 _ _ _ _ _ _ _ _ _ _ _ _
   | exact ih1 _ _ _ _ _ _ _ _ _ _ _ _ _ _ _ _
   | exact ih2 _ _ _ _ _ _ _ _ _ _ _ _ _ _ _ _ _ _ _ _
   | exact ih3 _ _ _ _ _ _ _
   | exact ih4 _ _ _ _
   | exact glyf_two.mono _ _ _
   | exact LeO.none _
   | refine LeO.ite ?_ ?_
   | refine LeO.bind ?_ (fun _ => ?_)
  ·intro y0 y1 y2 y3 y4 y5 y6 y7 y8 y9 y10 y11 y12 y13 y14 y15
   unfold glyf_Encode.l1
   repeat' first
   | (with_reducible exact ih0 _ _ _ _ _ _ _ _ _ _ _ _)
   | (with_reducible exact ih1 _ _ _ _ _ _ _ _ _ _ _ _ _ _ _ _)
   | (with_reducible exact ih2 _ _ _ _ _ _ _ _ _ _ _ _ _ _ _ _ _ _ _ _)
   | (with_reducible exact ih3 _ _ _ _ _ _ _)
   | (with_reducible exact ih4 _ _ _ _)
   | (with_reducible exact glyf_two.mono _ _ _)
   | (with_reducible exact LeO.refl _)
   | (with_reducible exact LeO.none _)
   | (with_reducible refine LeO.ite ?_ ?_)
   | (with_reducible refine LeO.bind ?_ (fun _ => ?_))
   | exact ih0 _ _ _ _ _ _ _ _ _ _ _ _
   | exact ih1 _ _ _ _ _ _ _ _ _ _ _ _ _ _ _ _
   | exact ih2 _ _ _ _ _ _ _ _ _ _ _ _ _ _ _ _ _ _ _ _
   | exact ih3 _ _ _ _ _ _ _
   | exact ih4 _ _ _ _
   | exact glyf_two.mono _ _ _
   | exact LeO.none _
   | refine LeO.ite ?_ ?_
   | refine LeO.bind ?_ (fun _ => ?_)
  ·intro y0 y1 y2 y3 y4 y5 y6 y7 y8 y9 y10 y11 y12 y13 y14 y15 y16 y17 y18 y19
   unfold glyf_Encode.j2
   repeat' first
   | (with_reducible exact ih0 _ _ _ _ _ _ _ _ _ _ _ _)
   | (with_reducible exact ih1 _ _ _ _ _ _ _ _ _ _ _ _ _ _ _ _)
   | (with_reducible exact ih2 _ _ _ _ _ _ _ _ _ _ _ _ _ _ _ _ _ _ _ _)
   | (with_reducible exact ih3 _ _ _ _ _ _ _)
   | (with_reducible exact ih4 _ _ _ _)
   | (with_reducible exact glyf_two.mono _ _ _)
   | (with_reducible exact LeO.refl _)
   | (with_reducible exact LeO.none _)
   | (with_reducible refine LeO.ite ?_ ?_)
   | (with_reducible refine LeO.bind ?_ (fun _ => ?_))
   | exact ih0 _ _ _ _ _ _ _ _ _ _ _ _
   | exact ih1 _ _ _ _ _ _ _ _ _ _ _ _ _ _ _ _
   | exact ih2 _ _ _ _ _ _ _ _ _ _ _ _ _ _ _ _ _ _ _ _
   | exact ih3 _ _ _ _ _ _ _
   | exact ih4 _ _ _ _
   | exact glyf_two.mono _ _ _
   | exact LeO.none _
   | refine LeO.ite ?_ ?_
   | refine LeO.bind ?_ (fun _ => ?_)
  ·intro y0 y1 y2 y3 y4 y5 y6
   unfold glyf_Encode.j3
   repeat' first
   | (with_reducible exact ih0 _ _ _ _ _ _ _ _ _ _ _ _)
   | (with_reducible exact ih1 _ _ _ _ _ _ _ _ _ _ _ _ _ _ _ _)
   | (with_reducible exact ih2 _ _ _ _ _ _ _ _ _ _ _ _ _ _ _ _ _ _ _ _)
   | (with_reducible exact ih3 _ _ _ _ _ _ _)
   | (with_reducible exact ih4 _ _ _ _)
   | (with_reducible exact glyf_two.mono _ _ _)
   | (with_reducible exact LeO.refl _)
   | (with_reducible exact LeO.none _)
   | (with_reducible refine LeO.ite ?_ ?_)
   | (with_reducible refine LeO.bind ?_ (fun _ => ?_))
   | exact ih0 _ _ _ _ _ _ _ _ _ _ _ _
   | exact ih1 _ _ _ _ _ _ _ _ _ _ _ _ _ _ _ _
   | exact ih2 _ _ _ _ _ _ _ _ _ _ _ _ _ _ _ _ _ _ _ _
   | exact ih3 _ _ _ _ _ _ _
   | exact ih4 _ _ _ _
   | exact glyf_two.mono _ _ _
   | exact LeO.none _
   | refine LeO.ite ?_ ?_
   | refine LeO.bind ?_ (fun _ => ?_)
  ·intro y0 y1 y2 y3
   unfold glyf_Encode.l2
   repeat' first
   | (with_reducible exact ih0 _ _ _ _ _ _ _ _ _ _ _ _)
   | (with_reducible exact ih1 _ _ _ _ _ _ _ _ _ _ _ _ _ _ _ _)
   | (with_reducible exact ih2 _ _ _ _ _ _ _ _ _ _ _ _ _ _ _ _ _ _ _ _)
   | (with_reducible exact ih3 _ _ _ _ _ _ _)
   | (with_reducible exact ih4 _ _ _ _)
   | (with_reducible exact glyf_two.mono _ _ _)
   | (with_reducible exact LeO.refl _)
   | (with_reducible exact LeO.none _)
   | (with_reducible refine LeO.ite ?_ ?_)
   | (with_reducible refine LeO.bind ?_ (fun _ => ?_))
   | exact ih0 _ _ _ _ _ _ _ _ _ _ _ _
   | exact ih1 _ _ _ _ _ _ _ _ _ _ _ _ _ _ _ _
   | exact ih2 _ _ _ _ _ _ _ _ _ _ _ _ _ _ _ _ _ _ _ _
   | exact ih3 _ _ _ _ _ _ _
   | exact ih4 _ _ _ _
   | exact glyf_two.mono _ _ _
   | exact LeO.none _
   | refine LeO.ite ?_ ?_
   | refine LeO.bind ?_ (fun _ => ?_)
theorem glyf_Encode.mono : ∀ a0 a1 k, LeO (glyf_Encode.f k a0 a1) (glyf_Encode.f (k + 1) a0 a1) := by
 intro a0 a1 k
 obtain ⟨ih0, ih1, ih2, ih3, ih4⟩ := glyf_Encode.mono_l k
 unfold glyf_Encode.f
 repeat' first
   | (with_reducible exact ih0 _ _ _ _ _ _ _ _ _ _ _ _)
   | (with_reducible exact ih1 _ _ _ _ _ _ _ _ _ _ _ _ _ _ _ _)
   | (with_reducible exact ih2 _ _ _ _ _ _ _ _ _ _ _ _ _ _ _ _ _ _ _ _)
   | (with_reducible exact ih3 _ _ _ _ _ _ _)
   | (with_reducible exact ih4 _ _ _ _)
   | (with_reducible exact glyf_two.mono _ _ _)
   | (with_reducible exact LeO.refl _)
   | (with_reducible exact LeO.none _)
   | (with_reducible refine LeO.ite ?_ ?_)
   | (with_reducible refine LeO.bind ?_ (fun _ => ?_))
   | exact ih0 _ _ _ _ _ _ _ _ _ _ _ _
   | exact ih1 _ _ _ _ _ _ _ _ _ _ _ _ _ _ _ _
   | exact ih2 _ _ _ _ _ _ _ _ _ _ _ _ _ _ _ _ _ _ _ _
   | exact ih3 _ _ _ _ _ _ _
   | exact ih4 _ _ _ _
   | exact glyf_two.mono _ _ _
   | exact LeO.none _
   | refine LeO.ite ?_ ?_
   | refine LeO.bind ?_ (fun _ => ?_)
set_option maxHeartbeats 8000000 in
set_option maxRecDepth 100000 in
theorem glyf_Encode.calls (k : Nat) (A0 : Option Addr) (c0 : Nat) (l0 : List (List (S46))) (P1_ : Nat → Prop) (A1 : Option Addr) (c1 : Nat) (l1 : List Int) (r1 : List Int) (r2 : Int) (w : World) (hr0 : Kd.C (Kd.slice 46 k46) w A0 l0.length l0) (hc0 : l0.length ≤ c0) (hs1 : Kd.V (Kd.int .u8) 5 w w.heap.size (fun k_ => P1_ k_) (.slice A1 l1.length c1) l1) (h : glyf_Encode.f k l0 l1 = some (r1, r2)) :
  Calls Try.prog 21 #[.slice A0 l0.length c0, .slice A1 l1.length c1] w fun e w' => ∃ v0_ : Value, e = .returned (.tuple #[v0_, .int .i64 r2]) ∧ Kd.R (Kd.int .u8) 5 w' w.heap.size (fun k_ => (w.heap.size ≤ k_)) v0_ r1 ∧ Below w.heap.size w w' := by
 have hu46 := Try.underlying46
 have HR0 := Aside0.mk hr0
 have HC0 := Aside0.mk hc0
 clear hr0 hc0
 have HO1 := Aside0.mk (show Kd.V (Kd.int .u8) 5 w w.heap.size (fun k_ => (P1_ k_ ∨ w.heap.size ≤ k_)) (.slice A1 l1.length c1) l1 from Kd.V_mono hs1 (fun k_ hk => .inl hk))
 have HB := Aside0.mk (Below.refl w.heap.size w)
 have H : (glyf_Encode.l0 k l1 ([] : List Int) ([] : List Int) ([] : List Int) ([] : List Int) 0 0 0 0 l0 (l0.length : Int) 0) = some (r1, r2) := h
 clear h
 have H' := Aside0.mk H
 clear H
 go_enter Try.func21, Try.ntmps21
 go_wp2
 repeat (go_quiet (fail); try go_wp2)
 go_loopg [6, 7, 8, 9, 10, 11, 12, 13, 25] k (fun kq v6 v7 v8 v9 v10 v11 v12 v13 v25 w' => ∃ (x6_1 : List Int) (x7_1 : List Int) (x8_1 : List Int) (x9_1 : List Int) (x10_1 : Int) (x11_1 : Int) (x12_1 : Int) (x13_1 : Int) (x25_1 : Int), v10 = .int .i64 x10_1 ∧ v11 = .int .i64 x11_1 ∧ v12 = .int .i64 x12_1 ∧ v13 = .int .i64 x13_1 ∧ v25 = .int .i64 x25_1 ∧ Aside0 (glyf_Encode.l0 kq l1 x6_1 x7_1 x8_1 x9_1 x10_1 x11_1 x12_1 x13_1 l0 (l0.length : Int) x25_1 = some (r1, r2)) ∧ Aside0 (kq ≤ k) ∧ Aside0 (Kd.V (Kd.int .u8) 5 w' w.heap.size (fun k_ => (P1_ k_ ∨ w.heap.size ≤ k_) ∧ some k_ ≠ (v6 : Value).ownBlock ∧ some k_ ≠ (v7 : Value).ownBlock ∧ some k_ ≠ (v8 : Value).ownBlock ∧ some k_ ≠ (v9 : Value).ownBlock) (.slice A1 l1.length c1) l1) ∧ Aside0 (Kd.R (Kd.int .u8) 5 w' w.heap.size (fun k_ => (w.heap.size ≤ k_) ∧ some k_ ≠ (v7 : Value).ownBlock ∧ some k_ ≠ (v8 : Value).ownBlock ∧ some k_ ≠ (v9 : Value).ownBlock) v6 x6_1) ∧ Aside0 (Kd.R (Kd.int .u8) 5 w' w.heap.size (fun k_ => (w.heap.size ≤ k_) ∧ some k_ ≠ (v6 : Value).ownBlock ∧ some k_ ≠ (v8 : Value).ownBlock ∧ some k_ ≠ (v9 : Value).ownBlock) v7 x7_1) ∧ Aside0 (Kd.R (Kd.int .u8) 5 w' w.heap.size (fun k_ => (w.heap.size ≤ k_) ∧ some k_ ≠ (v6 : Value).ownBlock ∧ some k_ ≠ (v7 : Value).ownBlock ∧ some k_ ≠ (v9 : Value).ownBlock) v8 x8_1) ∧ Aside0 (Kd.R (Kd.int .u8) 5 w' w.heap.size (fun k_ => (w.heap.size ≤ k_) ∧ some k_ ≠ (v6 : Value).ownBlock ∧ some k_ ≠ (v7 : Value).ownBlock ∧ some k_ ≠ (v8 : Value).ownBlock) v9 x9_1) ∧ Aside0 (Below w.heap.size w w'))
 case atStart => exact ⟨(([] : List Int)), (([] : List Int)), (([] : List Int)), (([] : List Int)), (0), (0), (0), (0), (0), (by first | rfl | (simp; done) | (simp [*]; done)), (by first | rfl | (simp; done) | (simp [*]; done)), (by first | rfl | (simp; done) | (simp [*]; done)), (by first | rfl | (simp; done) | (simp [*]; done)), (by first | rfl | (simp; done) | (simp [*]; done)), H', ⟨Nat.le_refl _⟩, ⟨by (with_reducible repeat (first | apply Kd.V_alloc | apply Kd.V_drewN | apply Kd.V_drew)); exact Kd.V_mono HO1.out (fun _ hk => ⟨hk, ⟨(by simp [Value.ownBlock]), ⟨(by simp [Value.ownBlock]), ⟨(by simp [Value.ownBlock]), (by simp [Value.ownBlock])⟩⟩⟩⟩)⟩, ⟨by first | exact Kd.R_nil _ _ _ _ _ | exact Kd.N_nil _ _ _ _ _ | exact Kd.V_nil _ _ _ _ _ | exact Kd.Q_nil _ _ _ _ _ | exact Kd.S_nil _ _ _ _ _⟩, ⟨by first | exact Kd.R_nil _ _ _ _ _ | exact Kd.N_nil _ _ _ _ _ | exact Kd.V_nil _ _ _ _ _ | exact Kd.Q_nil _ _ _ _ _ | exact Kd.S_nil _ _ _ _ _⟩, ⟨by first | exact Kd.R_nil _ _ _ _ _ | exact Kd.N_nil _ _ _ _ _ | exact Kd.V_nil _ _ _ _ _ | exact Kd.Q_nil _ _ _ _ _ | exact Kd.S_nil _ _ _ _ _⟩, ⟨by first | exact Kd.R_nil _ _ _ _ _ | exact Kd.N_nil _ _ _ _ _ | exact Kd.V_nil _ _ _ _ _ | exact Kd.Q_nil _ _ _ _ _ | exact Kd.S_nil _ _ _ _ _⟩, ⟨bq HB⟩⟩
 case round =>
  clear H'
  try clear c1
  try clear c2
  try clear p2
  obtain ⟨x6_1, x7_1, x8_1, x9_1, x10_1, x11_1, x12_1, x13_1, x25_1, rfl, rfl, rfl, rfl, rfl, HA, HK1, HO_1, HO_6, HO_7, HO_8, HO_9, HB⟩ := hrel
  cases gk with
  | zero => exact absurd HA.out (by simp [glyf_Encode.l0])
  | succ k1 =>
   have H := HA.out
   clear HA
   simp only [glyf_Encode.l0] at H
   by_cases c3 : x25_1 < (l0.length : Int)
   ·rw [if_pos c3] at H
    have c3b0 : decide (x25_1 < (l0.length : Int)) = true := decide_eq_true c3
    clear c3
    by_cases c4 : 0 ≤ x25_1
    ·rw [if_pos c4] at H
     have c4b0 : decide (0 ≤ x25_1) = true := decide_eq_true c4
     clear c4
     by_cases c5 : x25_1 < (l0.length : Int)
     ·rw [if_pos c5] at H
      have c5b0 : decide (x25_1 < (l0.length : Int)) = true := decide_eq_true c5
      clear c5
      have H' := Aside0.mk H
      clear H
      have p133 : 0 ≤ (x25_1 : Int) := odt
      have q133 : x25_1 < (l0.length : Int) := odt
      obtain ⟨ad133, A133_0, c133_0, e133, hx133_0, hl133_0, hi133_0⟩ := at_L3 HR0.out x25_1 p133 q133
      cases e133
      replace hx133_0 := (HB.out.cell (World.block_lt_of_cell? w _ hx133_0)).trans hx133_0
      have HR133_0 := Aside0.mk hi133_0
      have HC133_0 := Aside0.mk hl133_0
      clear hi133_0 hl133_0
      replace p133 := eq_true p133
      replace q133 := eq_true q133
      go_wp2
      repeat (go_quiet (fail); try go_wp2)
      go_loopg [7, 8, 9, 12, 13, 31] k1 (fun kq v7 v8 v9 v12 v13 v31 w' => ∃ (x7_2 : List Int) (x8_2 : List Int) (x9_2 : List Int) (x12_2 : Int) (x13_2 : Int) (x31_2 : Int), v12 = .int .i64 x12_2 ∧ v13 = .int .i64 x13_2 ∧ v31 = .int .i64 x31_2 ∧ Aside0 (glyf_Encode.l1 kq l1 x6_1 x7_2 x8_2 x9_2 x10_1 x11_1 x12_2 x13_2 (rd_L3 l0 x25_1) l0 (l0.length : Int) x25_1 (rd_L3 l0 x25_1) ((rd_L3 l0 x25_1).length : Int) x31_2 = some (r1, r2)) ∧ Aside0 (kq ≤ k1) ∧ Aside0 (Kd.V (Kd.int .u8) 5 w' w.heap.size (fun k_ => (P1_ k_ ∨ w.heap.size ≤ k_) ∧ some k_ ≠ (u6 : Value).ownBlock ∧ some k_ ≠ (v7 : Value).ownBlock ∧ some k_ ≠ (v8 : Value).ownBlock ∧ some k_ ≠ (v9 : Value).ownBlock) (.slice A1 l1.length c1) l1) ∧ Aside0 (Kd.R (Kd.int .u8) 5 w' w.heap.size (fun k_ => (w.heap.size ≤ k_) ∧ some k_ ≠ (v7 : Value).ownBlock ∧ some k_ ≠ (v8 : Value).ownBlock ∧ some k_ ≠ (v9 : Value).ownBlock) u6 x6_1) ∧ Aside0 (Kd.R (Kd.int .u8) 5 w' w.heap.size (fun k_ => (w.heap.size ≤ k_) ∧ some k_ ≠ (u6 : Value).ownBlock ∧ some k_ ≠ (v8 : Value).ownBlock ∧ some k_ ≠ (v9 : Value).ownBlock) v7 x7_2) ∧ Aside0 (Kd.R (Kd.int .u8) 5 w' w.heap.size (fun k_ => (w.heap.size ≤ k_) ∧ some k_ ≠ (u6 : Value).ownBlock ∧ some k_ ≠ (v7 : Value).ownBlock ∧ some k_ ≠ (v9 : Value).ownBlock) v8 x8_2) ∧ Aside0 (Kd.R (Kd.int .u8) 5 w' w.heap.size (fun k_ => (w.heap.size ≤ k_) ∧ some k_ ≠ (u6 : Value).ownBlock ∧ some k_ ≠ (v7 : Value).ownBlock ∧ some k_ ≠ (v8 : Value).ownBlock) v9 x9_2) ∧ Aside0 (Below w.heap.size w w'))
      case atStart => exact ⟨(x7_1), (x8_1), (x9_1), (x12_1), (x13_1), (0), (by first | rfl | (simp; done) | (simp [*]; done)), (by first | rfl | (simp; done) | (simp [*]; done)), (by first | rfl | (simp; done) | (simp [*]; done)), H', ⟨Nat.le_refl _⟩, ⟨by (with_reducible repeat (first | apply Kd.V_alloc | apply Kd.V_drewN | apply Kd.V_drew)); exact HO_1.out⟩, ⟨by (with_reducible repeat (first | apply Kd.R_alloc | apply Kd.R_drewN | apply Kd.R_drew)); exact HO_6.out⟩, ⟨by (with_reducible repeat (first | apply Kd.R_alloc | apply Kd.R_drewN | apply Kd.R_drew)); exact HO_7.out⟩, ⟨by (with_reducible repeat (first | apply Kd.R_alloc | apply Kd.R_drewN | apply Kd.R_drew)); exact HO_8.out⟩, ⟨by (with_reducible repeat (first | apply Kd.R_alloc | apply Kd.R_drewN | apply Kd.R_drew)); exact HO_9.out⟩, ⟨bq HB⟩⟩
      case round =>
       clear H'
       try clear c1
       try clear p1
       try clear q1
       try clear hx1
       try clear c2
       try clear p2
       try clear c3
       try clear c3b0
       try clear c4
       try clear c4b0
       try clear c5
       try clear c5b0
       try clear hx133_0
       try clear p133
       try clear p2
       try clear q133
       obtain ⟨x7_2, x8_2, x9_2, x12_2, x13_2, x31_2, rfl, rfl, rfl, HA, HK2, HO_1, HO_6, HO_7, HO_8, HO_9, HB⟩ := hrel
       cases gk with
       | zero => exact absurd HA.out (by simp [glyf_Encode.l1])
       | succ k2 =>
        have H := HA.out
        clear HA
        simp only [glyf_Encode.l1] at H
        by_cases c6 : x31_2 < ((rd_L3 l0 x25_1).length : Int)
        ·rw [if_pos c6] at H
         have c6b0 : decide (x31_2 < ((rd_L3 l0 x25_1).length : Int)) = true := decide_eq_true c6
         clear c6
         by_cases c7 : 0 ≤ x31_2
         ·rw [if_pos c7] at H
          have c7b0 : decide (0 ≤ x31_2) = true := decide_eq_true c7
          clear c7
          by_cases c8 : x31_2 < ((rd_L3 l0 x25_1).length : Int)
          ·rw [if_pos c8] at H
           have c8b0 : decide (x31_2 < ((rd_L3 l0 x25_1).length : Int)) = true := decide_eq_true c8
           clear c8
           have HC9 := Aside0.mk H
           clear H
           have p140 : 0 ≤ (x31_2 : Int) := odt
           have q140 : x31_2 < ((rd_L3 l0 x25_1).length : Int) := odt
           obtain ⟨ad140, e140, hx140_0, hx140_1, hx140_2⟩ := at_T46 HR133_0.out x31_2 p140 q140
           cases e140
           replace hx140_0 := (HB.out.cell (World.block_lt_of_cell? w _ hx140_0)).trans hx140_0
           replace hx140_1 := (HB.out.cell (World.block_lt_of_cell? w _ hx140_1)).trans hx140_1
           replace hx140_2 := (HB.out.cell (World.block_lt_of_cell? w _ hx140_2)).trans hx140_2
           replace p140 := eq_true p140
           replace q140 := eq_true q140
           go_upto_region 10 with (first | ((with_reducible refine gate_dst (N := 17) rfl ?_); (try (refine gate_guard (by rfl) ?_; dsimp only)); refine box_event ?hg (N := 17) ?hd (cs := #[.int .i64 0, .int .i64 0, .int .i64 0]) (t := 46) ?hr ?_; (case hd => rfl); (case hg => rfl); (case hr => first | (go_simp; done) | (go_simp; rfl)); intro gb141 hg w10 hbox hb; have n0_ := Aside0.mk (Kd.V_below (Kd.V_elderB (by (with_reducible repeat (first | apply Kd.V_alloc | apply Kd.V_drewN | apply Kd.V_drew)); exact HO_1.out) gb141 (Nat.le_of_eq hg.symm)) hb); have n1_ := Aside0.mk (Kd.R_below (rq HO_6) hb); have n2_ := Aside0.mk (Kd.R_below (rq HO_7) hb); have n3_ := Aside0.mk (Kd.R_below (rq HO_8) hb); have n4_ := Aside0.mk (Kd.R_below (rq HO_9) hb); have n5_ := Aside0.mk (below_step (bq HB) hb); have n6_ := Aside0.mk (hbox); have n7_ := Aside0.mk ((by rw [hg]; exact (below_size (bq HB)) : w.heap.size ≤ gb141)); have n8_ := Aside0.mk ((by rw [hg]; exact (below_size (bq HB)) : w.heap.size ≤ gb141)); clear HO_1; clear HO_6; clear HO_7; clear HO_8; clear HO_9; clear HB; have HO_1 := n0_; have HO_6 := n1_; have HO_7 := n2_; have HO_8 := n3_; have HO_9 := n4_; have HB := n5_; have BK141 := n6_; have GW141 := n7_; have GE141 := n8_; clear n0_ n1_ n2_ n3_ n4_ n5_ n6_ n7_ n8_; clear hb hbox hg; have hcz11_0 : w10.cell? ⟨gb141, 0, none⟩ = some (.int .i64 0) := (blk_cell BK141.out 0).trans rfl; have hcz11_1 : w10.cell? ⟨gb141, 1, none⟩ = some (.int .i64 0) := (blk_cell BK141.out 1).trans rfl; have hcz11_2 : w10.cell? ⟨gb141, 2, none⟩ = some (.int .i64 0) := (blk_cell BK141.out 2).trans rfl; have hfz11_0 := blk_frozen BK141.out 0; have hfz11_1 := blk_frozen BK141.out 1; have hfz11_2 := blk_frozen BK141.out 2))
           repeat (go_quiet (first | ((with_reducible refine gate_dst (N := 17) rfl ?_); (try (refine gate_guard (by rfl) ?_; dsimp only)); refine box_event ?hg (N := 17) ?hd (cs := #[.int .i64 0, .int .i64 0, .int .i64 0]) (t := 46) ?hr ?_; (case hd => rfl); (case hg => rfl); (case hr => first | (go_simp; done) | (go_simp; rfl)); intro gb141 hg w10 hbox hb; have n0_ := Aside0.mk (Kd.V_below (Kd.V_elderB (by (with_reducible repeat (first | apply Kd.V_alloc | apply Kd.V_drewN | apply Kd.V_drew)); exact HO_1.out) gb141 (Nat.le_of_eq hg.symm)) hb); have n1_ := Aside0.mk (Kd.R_below (rq HO_6) hb); have n2_ := Aside0.mk (Kd.R_below (rq HO_7) hb); have n3_ := Aside0.mk (Kd.R_below (rq HO_8) hb); have n4_ := Aside0.mk (Kd.R_below (rq HO_9) hb); have n5_ := Aside0.mk (below_step (bq HB) hb); have n6_ := Aside0.mk (hbox); have n7_ := Aside0.mk ((by rw [hg]; exact (below_size (bq HB)) : w.heap.size ≤ gb141)); have n8_ := Aside0.mk ((by rw [hg]; exact (below_size (bq HB)) : w.heap.size ≤ gb141)); clear HO_1; clear HO_6; clear HO_7; clear HO_8; clear HO_9; clear HB; have HO_1 := n0_; have HO_6 := n1_; have HO_7 := n2_; have HO_8 := n3_; have HO_9 := n4_; have HB := n5_; have BK141 := n6_; have GW141 := n7_; have GE141 := n8_; clear n0_ n1_ n2_ n3_ n4_ n5_ n6_ n7_ n8_; clear hb hbox hg; have hcz11_0 : w10.cell? ⟨gb141, 0, none⟩ = some (.int .i64 0) := (blk_cell BK141.out 0).trans rfl; have hcz11_1 : w10.cell? ⟨gb141, 1, none⟩ = some (.int .i64 0) := (blk_cell BK141.out 1).trans rfl; have hcz11_2 : w10.cell? ⟨gb141, 2, none⟩ = some (.int .i64 0) := (blk_cell BK141.out 2).trans rfl; have hfz11_0 := blk_frozen BK141.out 0; have hfz11_1 := blk_frozen BK141.out 1; have hfz11_2 := blk_frozen BK141.out 2)); go_upto_region 10 with (first | ((with_reducible refine gate_dst (N := 17) rfl ?_); (try (refine gate_guard (by rfl) ?_; dsimp only)); refine box_event ?hg (N := 17) ?hd (cs := #[.int .i64 0, .int .i64 0, .int .i64 0]) (t := 46) ?hr ?_; (case hd => rfl); (case hg => rfl); (case hr => first | (go_simp; done) | (go_simp; rfl)); intro gb141 hg w10 hbox hb; have n0_ := Aside0.mk (Kd.V_below (Kd.V_elderB (by (with_reducible repeat (first | apply Kd.V_alloc | apply Kd.V_drewN | apply Kd.V_drew)); exact HO_1.out) gb141 (Nat.le_of_eq hg.symm)) hb); have n1_ := Aside0.mk (Kd.R_below (rq HO_6) hb); have n2_ := Aside0.mk (Kd.R_below (rq HO_7) hb); have n3_ := Aside0.mk (Kd.R_below (rq HO_8) hb); have n4_ := Aside0.mk (Kd.R_below (rq HO_9) hb); have n5_ := Aside0.mk (below_step (bq HB) hb); have n6_ := Aside0.mk (hbox); have n7_ := Aside0.mk ((by rw [hg]; exact (below_size (bq HB)) : w.heap.size ≤ gb141)); have n8_ := Aside0.mk ((by rw [hg]; exact (below_size (bq HB)) : w.heap.size ≤ gb141)); clear HO_1; clear HO_6; clear HO_7; clear HO_8; clear HO_9; clear HB; have HO_1 := n0_; have HO_6 := n1_; have HO_7 := n2_; have HO_8 := n3_; have HO_9 := n4_; have HB := n5_; have BK141 := n6_; have GW141 := n7_; have GE141 := n8_; clear n0_ n1_ n2_ n3_ n4_ n5_ n6_ n7_ n8_; clear hb hbox hg; have hcz11_0 : w10.cell? ⟨gb141, 0, none⟩ = some (.int .i64 0) := (blk_cell BK141.out 0).trans rfl; have hcz11_1 : w10.cell? ⟨gb141, 1, none⟩ = some (.int .i64 0) := (blk_cell BK141.out 1).trans rfl; have hcz11_2 : w10.cell? ⟨gb141, 2, none⟩ = some (.int .i64 0) := (blk_cell BK141.out 2).trans rfl; have hfz11_0 := blk_frozen BK141.out 0; have hfz11_1 := blk_frozen BK141.out 1; have hfz11_2 := blk_frozen BK141.out 2)))
           (try simp only [Act.put, List.setIfInBounds_toArray, List.set_cons_zero, List.set_cons_succ])
           go_cut [62] (fun v62 wc => ∃ (kq : Nat) (x62_8 : Bool), v62 = .bool x62_8 ∧ Aside0 (glyf_Encode.j2 kq l1 x6_1 x7_2 x8_2 x9_2 x10_1 x11_1 (rd_L3 l0 x25_1) (wrap64 (((rd_T46 (rd_L3 l0 x25_1) x31_2).f0) - x12_2)) (wrap64 (((rd_T46 (rd_L3 l0 x25_1) x31_2).f1) - x13_2)) l0 (l0.length : Int) x25_1 (rd_L3 l0 x25_1) ((rd_L3 l0 x25_1).length : Int) x31_2 x62_8 ((rd_T46 (rd_L3 l0 x25_1) x31_2).f0) ((rd_T46 (rd_L3 l0 x25_1) x31_2).f1) ((rd_T46 (rd_L3 l0 x25_1) x31_2).f2) = some (r1, r2)) ∧ Aside0 (kq ≤ k2) ∧ Aside0 (Kd.V (Kd.int .u8) 5 wc w.heap.size (fun k_ => (P1_ k_ ∨ w.heap.size ≤ k_) ∧ some k_ ≠ (u6 : Value).ownBlock ∧ some k_ ≠ (u7 : Value).ownBlock ∧ some k_ ≠ (u8 : Value).ownBlock ∧ some k_ ≠ (u9 : Value).ownBlock ∧ k_ ≠ gb141) (.slice A1 l1.length c1) l1) ∧ Aside0 (Kd.R (Kd.int .u8) 5 wc w.heap.size (fun k_ => (w.heap.size ≤ k_) ∧ some k_ ≠ (u7 : Value).ownBlock ∧ some k_ ≠ (u8 : Value).ownBlock ∧ some k_ ≠ (u9 : Value).ownBlock) u6 x6_1) ∧ Aside0 (Kd.R (Kd.int .u8) 5 wc w.heap.size (fun k_ => (w.heap.size ≤ k_) ∧ some k_ ≠ (u6 : Value).ownBlock ∧ some k_ ≠ (u8 : Value).ownBlock ∧ some k_ ≠ (u9 : Value).ownBlock) u7 x7_2) ∧ Aside0 (Kd.R (Kd.int .u8) 5 wc w.heap.size (fun k_ => (w.heap.size ≤ k_) ∧ some k_ ≠ (u6 : Value).ownBlock ∧ some k_ ≠ (u7 : Value).ownBlock ∧ some k_ ≠ (u9 : Value).ownBlock) u8 x8_2) ∧ Aside0 (Kd.R (Kd.int .u8) 5 wc w.heap.size (fun k_ => (w.heap.size ≤ k_) ∧ some k_ ≠ (u6 : Value).ownBlock ∧ some k_ ≠ (u7 : Value).ownBlock ∧ some k_ ≠ (u8 : Value).ownBlock) u9 x9_2) ∧ Aside0 (wc.heap[gb141]? = some (.cells #[.int .i64 ((rd_T46 (rd_L3 l0 x25_1) x31_2).f0), .int .i64 ((rd_T46 (rd_L3 l0 x25_1) x31_2).f1), .int .i64 ((rd_T46 (rd_L3 l0 x25_1) x31_2).f2)] 46 (0, 0))) ∧ Aside0 (Below w.heap.size w wc))
           case first =>
            have H := HC9.out
            clear HC9
            by_cases c12 : ((rd_T46 (rd_L3 l0 x25_1) x31_2).f2) = 1
            ·rw [if_pos c12] at H
             have c12b0 : (((rd_T46 (rd_L3 l0 x25_1) x31_2).f2) == 1) = true := beq_iff_eq.mpr c12
             have c12b1 : (((rd_T46 (rd_L3 l0 x25_1) x31_2).f2) != 1) = false := bne_eq_false_iff_eq.mpr c12
             clear c12
             (first | rw [c12b0] | (simp only [i64_w, i32_w]; rw [c12b0]) | skip)
             replace H := Option.bind_eq_some_iff.mp H
             obtain ⟨t142, A130, H⟩ := H
             replace H : (if t142 = true then (glyf_Encode.j2 k2 l1 x6_1 x7_2 x8_2 x9_2 x10_1 x11_1 (rd_L3 l0 x25_1) (wrap64 (((rd_T46 (rd_L3 l0 x25_1) x31_2).f0) - x12_2)) (wrap64 (((rd_T46 (rd_L3 l0 x25_1) x31_2).f1) - x13_2)) l0 (l0.length : Int) x25_1 (rd_L3 l0 x25_1) ((rd_L3 l0 x25_1).length : Int) x31_2 true ((rd_T46 (rd_L3 l0 x25_1) x31_2).f0) ((rd_T46 (rd_L3 l0 x25_1) x31_2).f1) ((rd_T46 (rd_L3 l0 x25_1) x31_2).f2)) else ((glyf_wide.f ((rd_T46 (rd_L3 l0 x25_1) x31_2).f1) x13_2).bind fun t143 => (glyf_Encode.j2 k2 l1 x6_1 x7_2 x8_2 x9_2 x10_1 x11_1 (rd_L3 l0 x25_1) (wrap64 (((rd_T46 (rd_L3 l0 x25_1) x31_2).f0) - x12_2)) (wrap64 (((rd_T46 (rd_L3 l0 x25_1) x31_2).f1) - x13_2)) l0 (l0.length : Int) x25_1 (rd_L3 l0 x25_1) ((rd_L3 l0 x25_1).length : Int) x31_2 t143 ((rd_T46 (rd_L3 l0 x25_1) x31_2).f0) ((rd_T46 (rd_L3 l0 x25_1) x31_2).f1) ((rd_T46 (rd_L3 l0 x25_1) x31_2).f2)))) = some (r1, r2) := H
             have A13 := Aside0.mk A130
             clear A130
             by_cases c14 : t142 = true
             ·subst c14
              have H1 : (glyf_Encode.j2 k2 l1 x6_1 x7_2 x8_2 x9_2 x10_1 x11_1 (rd_L3 l0 x25_1) (wrap64 (((rd_T46 (rd_L3 l0 x25_1) x31_2).f0) - x12_2)) (wrap64 (((rd_T46 (rd_L3 l0 x25_1) x31_2).f1) - x13_2)) l0 (l0.length : Int) x25_1 (rd_L3 l0 x25_1) ((rd_L3 l0 x25_1).length : Int) x31_2 true ((rd_T46 (rd_L3 l0 x25_1) x31_2).f0) ((rd_T46 (rd_L3 l0 x25_1) x31_2).f1) ((rd_T46 (rd_L3 l0 x25_1) x31_2).f2)) = some (r1, r2) := by rw [if_pos rfl] at H; exact H
              clear H
              have H := H1
              clear H1
              have H' := Aside0.mk H
              clear H
              have hcz15_0 : w10.cell? ⟨gb141, 0, none⟩ = some (.int .i64 0) := (blk_cell BK141.out 0).trans rfl
              have hcz15_1 : w10.cell? ⟨gb141, 1, none⟩ = some (.int .i64 0) := (blk_cell BK141.out 1).trans rfl
              have hcz15_2 : w10.cell? ⟨gb141, 2, none⟩ = some (.int .i64 0) := (blk_cell BK141.out 2).trans rfl
              have hfz15_0 := blk_frozen BK141.out 0
              have hfz15_1 := blk_frozen BK141.out 1
              have hfz15_2 := blk_frozen BK141.out 2
              go_wp2_with (first | (go_at_call 30; (with_reducible refine (glyf_wide.calls ((rd_T46 (rd_L3 l0 x25_1) x31_2).f0) x12_2 true _ A13.out).mono ?_); rintro e w' ⟨rfl, ⟨nd, rfl⟩⟩; (try first | exact ⟨rfl, _, World.drewN_drewN _ _ _⟩ | exact ⟨rfl, _, Eq.trans (World.drewN_drewN _ _ _) (congrArg (World.drewN _) (Nat.add_assoc _ _ _))⟩)))
              repeat (go_quiet (first | (go_at_call 30; (with_reducible refine (glyf_wide.calls ((rd_T46 (rd_L3 l0 x25_1) x31_2).f0) x12_2 true _ A13.out).mono ?_); rintro e w' ⟨rfl, ⟨nd, rfl⟩⟩; (try first | exact ⟨rfl, _, World.drewN_drewN _ _ _⟩ | exact ⟨rfl, _, Eq.trans (World.drewN_drewN _ _ _) (congrArg (World.drewN _) (Nat.add_assoc _ _ _))⟩))); try go_wp2_with (first | (go_at_call 30; (with_reducible refine (glyf_wide.calls ((rd_T46 (rd_L3 l0 x25_1) x31_2).f0) x12_2 true _ A13.out).mono ?_); rintro e w' ⟨rfl, ⟨nd, rfl⟩⟩; (try first | exact ⟨rfl, _, World.drewN_drewN _ _ _⟩ | exact ⟨rfl, _, Eq.trans (World.drewN_drewN _ _ _) (congrArg (World.drewN _) (Nat.add_assoc _ _ _))⟩))))
              go_meet
              case rel => exact ⟨_, (true), (by first | rfl | (simp; done) | (simp [*]; done)), H', ⟨by have := HK1.out; have := HK2.out; first | omega | exact Nat.le_refl _⟩, ⟨by (with_reducible repeat (first | apply Kd.V_alloc | apply Kd.V_drewN | apply Kd.V_drew)); exact Kd.V_mono (Kd.V_far (p := ⟨gb141, 2, none⟩) (Kd.V_far (p := ⟨gb141, 1, none⟩) (Kd.V_far (p := ⟨gb141, 0, none⟩) (Kd.V_mono HO_1.out (fun k_ hk => (⟨hk, hk.2⟩ : _ ∧ k_ ≠ gb141))) (fun _ hk => hk.2) (.int .i64 ((rd_T46 (rd_L3 l0 x25_1) x31_2).f0))) (fun _ hk => hk.2) (.int .i64 ((rd_T46 (rd_L3 l0 x25_1) x31_2).f1))) (fun _ hk => hk.2) (.int .i64 ((rd_T46 (rd_L3 l0 x25_1) x31_2).f2))) (fun _ hk => ⟨hk.1.1.1, ⟨hk.1.1.2.1, ⟨hk.1.1.2.2.1, ⟨hk.1.1.2.2.2.1, ⟨hk.1.1.2.2.2.2, hk.1.2⟩⟩⟩⟩⟩)⟩, ⟨by (with_reducible repeat (first | apply Kd.R_alloc | apply Kd.R_drewN | apply Kd.R_drew)); exact Kd.R_mono (Kd.R_far (p := ⟨gb141, 2, none⟩) (Kd.R_far (p := ⟨gb141, 1, none⟩) (Kd.R_far (p := ⟨gb141, 0, none⟩) (Kd.R_types HO_6.out BK141.out (by decide)) (fun _ hk => hk.2) (.int .i64 ((rd_T46 (rd_L3 l0 x25_1) x31_2).f0))) (fun _ hk => hk.2) (.int .i64 ((rd_T46 (rd_L3 l0 x25_1) x31_2).f1))) (fun _ hk => hk.2) (.int .i64 ((rd_T46 (rd_L3 l0 x25_1) x31_2).f2))) (fun _ hk => ⟨hk.1.1, ⟨hk.1.2.1, ⟨hk.1.2.2.1, hk.1.2.2.2⟩⟩⟩)⟩, ⟨by (with_reducible repeat (first | apply Kd.R_alloc | apply Kd.R_drewN | apply Kd.R_drew)); exact Kd.R_mono (Kd.R_far (p := ⟨gb141, 2, none⟩) (Kd.R_far (p := ⟨gb141, 1, none⟩) (Kd.R_far (p := ⟨gb141, 0, none⟩) (Kd.R_types HO_7.out BK141.out (by decide)) (fun _ hk => hk.2) (.int .i64 ((rd_T46 (rd_L3 l0 x25_1) x31_2).f0))) (fun _ hk => hk.2) (.int .i64 ((rd_T46 (rd_L3 l0 x25_1) x31_2).f1))) (fun _ hk => hk.2) (.int .i64 ((rd_T46 (rd_L3 l0 x25_1) x31_2).f2))) (fun _ hk => ⟨hk.1.1, ⟨hk.1.2.1, ⟨hk.1.2.2.1, hk.1.2.2.2⟩⟩⟩)⟩, ⟨by (with_reducible repeat (first | apply Kd.R_alloc | apply Kd.R_drewN | apply Kd.R_drew)); exact Kd.R_mono (Kd.R_far (p := ⟨gb141, 2, none⟩) (Kd.R_far (p := ⟨gb141, 1, none⟩) (Kd.R_far (p := ⟨gb141, 0, none⟩) (Kd.R_types HO_8.out BK141.out (by decide)) (fun _ hk => hk.2) (.int .i64 ((rd_T46 (rd_L3 l0 x25_1) x31_2).f0))) (fun _ hk => hk.2) (.int .i64 ((rd_T46 (rd_L3 l0 x25_1) x31_2).f1))) (fun _ hk => hk.2) (.int .i64 ((rd_T46 (rd_L3 l0 x25_1) x31_2).f2))) (fun _ hk => ⟨hk.1.1, ⟨hk.1.2.1, ⟨hk.1.2.2.1, hk.1.2.2.2⟩⟩⟩)⟩, ⟨by (with_reducible repeat (first | apply Kd.R_alloc | apply Kd.R_drewN | apply Kd.R_drew)); exact Kd.R_mono (Kd.R_far (p := ⟨gb141, 2, none⟩) (Kd.R_far (p := ⟨gb141, 1, none⟩) (Kd.R_far (p := ⟨gb141, 0, none⟩) (Kd.R_types HO_9.out BK141.out (by decide)) (fun _ hk => hk.2) (.int .i64 ((rd_T46 (rd_L3 l0 x25_1) x31_2).f0))) (fun _ hk => hk.2) (.int .i64 ((rd_T46 (rd_L3 l0 x25_1) x31_2).f1))) (fun _ hk => hk.2) (.int .i64 ((rd_T46 (rd_L3 l0 x25_1) x31_2).f2))) (fun _ hk => ⟨hk.1.1, ⟨hk.1.2.1, ⟨hk.1.2.2.1, hk.1.2.2.2⟩⟩⟩)⟩, ⟨by (with_reducible repeat (first | refine blk_drewN ?_ _ | refine blk_drew ?_ | refine blk_alloc ?_ _)); refine blk_put (cs := #[.int .i64 ((rd_T46 (rd_L3 l0 x25_1) x31_2).f0), .int .i64 ((rd_T46 (rd_L3 l0 x25_1) x31_2).f1), .int .i64 0]) ?_ 2 _ rfl; (with_reducible repeat (first | refine blk_drewN ?_ _ | refine blk_drew ?_ | refine blk_alloc ?_ _)); refine blk_put (cs := #[.int .i64 ((rd_T46 (rd_L3 l0 x25_1) x31_2).f0), .int .i64 0, .int .i64 0]) ?_ 1 _ rfl; (with_reducible repeat (first | refine blk_drewN ?_ _ | refine blk_drew ?_ | refine blk_alloc ?_ _)); refine blk_put (cs := #[.int .i64 0, .int .i64 0, .int .i64 0]) ?_ 0 _ rfl; (with_reducible repeat (first | refine blk_drewN ?_ _ | refine blk_drew ?_ | refine blk_alloc ?_ _)); exact BK141.out⟩, ⟨bs HB GE141⟩⟩
             ·replace c14 := Bool.eq_false_iff.mpr c14
              subst c14
              have H1 : ((glyf_wide.f ((rd_T46 (rd_L3 l0 x25_1) x31_2).f1) x13_2).bind fun t143 => (glyf_Encode.j2 k2 l1 x6_1 x7_2 x8_2 x9_2 x10_1 x11_1 (rd_L3 l0 x25_1) (wrap64 (((rd_T46 (rd_L3 l0 x25_1) x31_2).f0) - x12_2)) (wrap64 (((rd_T46 (rd_L3 l0 x25_1) x31_2).f1) - x13_2)) l0 (l0.length : Int) x25_1 (rd_L3 l0 x25_1) ((rd_L3 l0 x25_1).length : Int) x31_2 t143 ((rd_T46 (rd_L3 l0 x25_1) x31_2).f0) ((rd_T46 (rd_L3 l0 x25_1) x31_2).f1) ((rd_T46 (rd_L3 l0 x25_1) x31_2).f2))) = some (r1, r2) := by rw [if_neg (show ¬ (false = true) by decide)] at H; exact H
              clear H
              have H := H1
              clear H1
              replace H := Option.bind_eq_some_iff.mp H
              obtain ⟨t143, A160, H⟩ := H
              replace H : (glyf_Encode.j2 k2 l1 x6_1 x7_2 x8_2 x9_2 x10_1 x11_1 (rd_L3 l0 x25_1) (wrap64 (((rd_T46 (rd_L3 l0 x25_1) x31_2).f0) - x12_2)) (wrap64 (((rd_T46 (rd_L3 l0 x25_1) x31_2).f1) - x13_2)) l0 (l0.length : Int) x25_1 (rd_L3 l0 x25_1) ((rd_L3 l0 x25_1).length : Int) x31_2 t143 ((rd_T46 (rd_L3 l0 x25_1) x31_2).f0) ((rd_T46 (rd_L3 l0 x25_1) x31_2).f1) ((rd_T46 (rd_L3 l0 x25_1) x31_2).f2)) = some (r1, r2) := H
              have A16 := Aside0.mk A160
              clear A160
              have H' := Aside0.mk H
              clear H
              have hcz17_0 : w10.cell? ⟨gb141, 0, none⟩ = some (.int .i64 0) := (blk_cell BK141.out 0).trans rfl
              have hcz17_1 : w10.cell? ⟨gb141, 1, none⟩ = some (.int .i64 0) := (blk_cell BK141.out 1).trans rfl
              have hcz17_2 : w10.cell? ⟨gb141, 2, none⟩ = some (.int .i64 0) := (blk_cell BK141.out 2).trans rfl
              have hfz17_0 := blk_frozen BK141.out 0
              have hfz17_1 := blk_frozen BK141.out 1
              have hfz17_2 := blk_frozen BK141.out 2
              go_wp2_with (first | (go_at_call 30; (with_reducible refine (glyf_wide.calls ((rd_T46 (rd_L3 l0 x25_1) x31_2).f0) x12_2 false _ A13.out).mono ?_); rintro e w' ⟨rfl, ⟨nd, rfl⟩⟩; (try first | exact ⟨rfl, _, World.drewN_drewN _ _ _⟩ | exact ⟨rfl, _, Eq.trans (World.drewN_drewN _ _ _) (congrArg (World.drewN _) (Nat.add_assoc _ _ _))⟩)) | (go_at_call 30; (with_reducible refine (glyf_wide.calls ((rd_T46 (rd_L3 l0 x25_1) x31_2).f1) x13_2 t143 _ A16.out).mono ?_); rintro e w' ⟨rfl, ⟨nd, rfl⟩⟩; (try first | exact ⟨rfl, _, World.drewN_drewN _ _ _⟩ | exact ⟨rfl, _, Eq.trans (World.drewN_drewN _ _ _) (congrArg (World.drewN _) (Nat.add_assoc _ _ _))⟩)))
              repeat (go_quiet (first | (go_at_call 30; (with_reducible refine (glyf_wide.calls ((rd_T46 (rd_L3 l0 x25_1) x31_2).f0) x12_2 false _ A13.out).mono ?_); rintro e w' ⟨rfl, ⟨nd, rfl⟩⟩; (try first | exact ⟨rfl, _, World.drewN_drewN _ _ _⟩ | exact ⟨rfl, _, Eq.trans (World.drewN_drewN _ _ _) (congrArg (World.drewN _) (Nat.add_assoc _ _ _))⟩)) | (go_at_call 30; (with_reducible refine (glyf_wide.calls ((rd_T46 (rd_L3 l0 x25_1) x31_2).f1) x13_2 t143 _ A16.out).mono ?_); rintro e w' ⟨rfl, ⟨nd, rfl⟩⟩; (try first | exact ⟨rfl, _, World.drewN_drewN _ _ _⟩ | exact ⟨rfl, _, Eq.trans (World.drewN_drewN _ _ _) (congrArg (World.drewN _) (Nat.add_assoc _ _ _))⟩))); try go_wp2_with (first | (go_at_call 30; (with_reducible refine (glyf_wide.calls ((rd_T46 (rd_L3 l0 x25_1) x31_2).f0) x12_2 false _ A13.out).mono ?_); rintro e w' ⟨rfl, ⟨nd, rfl⟩⟩; (try first | exact ⟨rfl, _, World.drewN_drewN _ _ _⟩ | exact ⟨rfl, _, Eq.trans (World.drewN_drewN _ _ _) (congrArg (World.drewN _) (Nat.add_assoc _ _ _))⟩)) | (go_at_call 30; (with_reducible refine (glyf_wide.calls ((rd_T46 (rd_L3 l0 x25_1) x31_2).f1) x13_2 t143 _ A16.out).mono ?_); rintro e w' ⟨rfl, ⟨nd, rfl⟩⟩; (try first | exact ⟨rfl, _, World.drewN_drewN _ _ _⟩ | exact ⟨rfl, _, Eq.trans (World.drewN_drewN _ _ _) (congrArg (World.drewN _) (Nat.add_assoc _ _ _))⟩))))
              go_meet
              case rel => exact ⟨_, (t143), (by first | rfl | (simp; done) | (simp [*]; done)), H', ⟨by have := HK1.out; have := HK2.out; first | omega | exact Nat.le_refl _⟩, ⟨by (with_reducible repeat (first | apply Kd.V_alloc | apply Kd.V_drewN | apply Kd.V_drew)); exact Kd.V_mono (Kd.V_far (p := ⟨gb141, 2, none⟩) (Kd.V_far (p := ⟨gb141, 1, none⟩) (Kd.V_far (p := ⟨gb141, 0, none⟩) (Kd.V_mono HO_1.out (fun k_ hk => (⟨hk, hk.2⟩ : _ ∧ k_ ≠ gb141))) (fun _ hk => hk.2) (.int .i64 ((rd_T46 (rd_L3 l0 x25_1) x31_2).f0))) (fun _ hk => hk.2) (.int .i64 ((rd_T46 (rd_L3 l0 x25_1) x31_2).f1))) (fun _ hk => hk.2) (.int .i64 ((rd_T46 (rd_L3 l0 x25_1) x31_2).f2))) (fun _ hk => ⟨hk.1.1.1, ⟨hk.1.1.2.1, ⟨hk.1.1.2.2.1, ⟨hk.1.1.2.2.2.1, ⟨hk.1.1.2.2.2.2, hk.1.2⟩⟩⟩⟩⟩)⟩, ⟨by (with_reducible repeat (first | apply Kd.R_alloc | apply Kd.R_drewN | apply Kd.R_drew)); exact Kd.R_mono (Kd.R_far (p := ⟨gb141, 2, none⟩) (Kd.R_far (p := ⟨gb141, 1, none⟩) (Kd.R_far (p := ⟨gb141, 0, none⟩) (Kd.R_types HO_6.out BK141.out (by decide)) (fun _ hk => hk.2) (.int .i64 ((rd_T46 (rd_L3 l0 x25_1) x31_2).f0))) (fun _ hk => hk.2) (.int .i64 ((rd_T46 (rd_L3 l0 x25_1) x31_2).f1))) (fun _ hk => hk.2) (.int .i64 ((rd_T46 (rd_L3 l0 x25_1) x31_2).f2))) (fun _ hk => ⟨hk.1.1, ⟨hk.1.2.1, ⟨hk.1.2.2.1, hk.1.2.2.2⟩⟩⟩)⟩, ⟨by (with_reducible repeat (first | apply Kd.R_alloc | apply Kd.R_drewN | apply Kd.R_drew)); exact Kd.R_mono (Kd.R_far (p := ⟨gb141, 2, none⟩) (Kd.R_far (p := ⟨gb141, 1, none⟩) (Kd.R_far (p := ⟨gb141, 0, none⟩) (Kd.R_types HO_7.out BK141.out (by decide)) (fun _ hk => hk.2) (.int .i64 ((rd_T46 (rd_L3 l0 x25_1) x31_2).f0))) (fun _ hk => hk.2) (.int .i64 ((rd_T46 (rd_L3 l0 x25_1) x31_2).f1))) (fun _ hk => hk.2) (.int .i64 ((rd_T46 (rd_L3 l0 x25_1) x31_2).f2))) (fun _ hk => ⟨hk.1.1, ⟨hk.1.2.1, ⟨hk.1.2.2.1, hk.1.2.2.2⟩⟩⟩)⟩, ⟨by (with_reducible repeat (first | apply Kd.R_alloc | apply Kd.R_drewN | apply Kd.R_drew)); exact Kd.R_mono (Kd.R_far (p := ⟨gb141, 2, none⟩) (Kd.R_far (p := ⟨gb141, 1, none⟩) (Kd.R_far (p := ⟨gb141, 0, none⟩) (Kd.R_types HO_8.out BK141.out (by decide)) (fun _ hk => hk.2) (.int .i64 ((rd_T46 (rd_L3 l0 x25_1) x31_2).f0))) (fun _ hk => hk.2) (.int .i64 ((rd_T46 (rd_L3 l0 x25_1) x31_2).f1))) (fun _ hk => hk.2) (.int .i64 ((rd_T46 (rd_L3 l0 x25_1) x31_2).f2))) (fun _ hk => ⟨hk.1.1, ⟨hk.1.2.1, ⟨hk.1.2.2.1, hk.1.2.2.2⟩⟩⟩)⟩, ⟨by (with_reducible repeat (first | apply Kd.R_alloc | apply Kd.R_drewN | apply Kd.R_drew)); exact Kd.R_mono (Kd.R_far (p := ⟨gb141, 2, none⟩) (Kd.R_far (p := ⟨gb141, 1, none⟩) (Kd.R_far (p := ⟨gb141, 0, none⟩) (Kd.R_types HO_9.out BK141.out (by decide)) (fun _ hk => hk.2) (.int .i64 ((rd_T46 (rd_L3 l0 x25_1) x31_2).f0))) (fun _ hk => hk.2) (.int .i64 ((rd_T46 (rd_L3 l0 x25_1) x31_2).f1))) (fun _ hk => hk.2) (.int .i64 ((rd_T46 (rd_L3 l0 x25_1) x31_2).f2))) (fun _ hk => ⟨hk.1.1, ⟨hk.1.2.1, ⟨hk.1.2.2.1, hk.1.2.2.2⟩⟩⟩)⟩, ⟨by (with_reducible repeat (first | refine blk_drewN ?_ _ | refine blk_drew ?_ | refine blk_alloc ?_ _)); refine blk_put (cs := #[.int .i64 ((rd_T46 (rd_L3 l0 x25_1) x31_2).f0), .int .i64 ((rd_T46 (rd_L3 l0 x25_1) x31_2).f1), .int .i64 0]) ?_ 2 _ rfl; (with_reducible repeat (first | refine blk_drewN ?_ _ | refine blk_drew ?_ | refine blk_alloc ?_ _)); refine blk_put (cs := #[.int .i64 ((rd_T46 (rd_L3 l0 x25_1) x31_2).f0), .int .i64 0, .int .i64 0]) ?_ 1 _ rfl; (with_reducible repeat (first | refine blk_drewN ?_ _ | refine blk_drew ?_ | refine blk_alloc ?_ _)); refine blk_put (cs := #[.int .i64 0, .int .i64 0, .int .i64 0]) ?_ 0 _ rfl; (with_reducible repeat (first | refine blk_drewN ?_ _ | refine blk_drew ?_ | refine blk_alloc ?_ _)); exact BK141.out⟩, ⟨bs HB GE141⟩⟩
            ·rw [if_neg c12] at H
             have c12b0 : (((rd_T46 (rd_L3 l0 x25_1) x31_2).f2) == 1) = false := beq_eq_false_iff_ne.mpr c12
             have c12b1 : (((rd_T46 (rd_L3 l0 x25_1) x31_2).f2) != 1) = true := bne_iff_ne.mpr c12
             (first | rw [c12b0] | (simp only [i64_w, i32_w]; rw [c12b0]) | skip)
             by_cases c18 : ((rd_T46 (rd_L3 l0 x25_1) x31_2).f2) = 2
             ·rw [if_pos c18] at H
              have c18b0 : (((rd_T46 (rd_L3 l0 x25_1) x31_2).f2) == 2) = true := beq_iff_eq.mpr c18
              have c18b1 : (((rd_T46 (rd_L3 l0 x25_1) x31_2).f2) != 2) = false := bne_eq_false_iff_eq.mpr c18
              clear c18
              replace H := Option.bind_eq_some_iff.mp H
              obtain ⟨t144, A190, H⟩ := H
              replace H : (if t144 = true then (glyf_Encode.j2 k2 l1 x6_1 x7_2 x8_2 x9_2 x10_1 x11_1 (rd_L3 l0 x25_1) (wrap64 (((rd_T46 (rd_L3 l0 x25_1) x31_2).f0) - x12_2)) (wrap64 (((rd_T46 (rd_L3 l0 x25_1) x31_2).f1) - x13_2)) l0 (l0.length : Int) x25_1 (rd_L3 l0 x25_1) ((rd_L3 l0 x25_1).length : Int) x31_2 true ((rd_T46 (rd_L3 l0 x25_1) x31_2).f0) ((rd_T46 (rd_L3 l0 x25_1) x31_2).f1) ((rd_T46 (rd_L3 l0 x25_1) x31_2).f2)) else ((glyf_wide.f ((rd_T46 (rd_L3 l0 x25_1) x31_2).f1) x13_2).bind fun t145 => (glyf_Encode.j2 k2 l1 x6_1 x7_2 x8_2 x9_2 x10_1 x11_1 (rd_L3 l0 x25_1) (wrap64 (((rd_T46 (rd_L3 l0 x25_1) x31_2).f0) - x12_2)) (wrap64 (((rd_T46 (rd_L3 l0 x25_1) x31_2).f1) - x13_2)) l0 (l0.length : Int) x25_1 (rd_L3 l0 x25_1) ((rd_L3 l0 x25_1).length : Int) x31_2 t145 ((rd_T46 (rd_L3 l0 x25_1) x31_2).f0) ((rd_T46 (rd_L3 l0 x25_1) x31_2).f1) ((rd_T46 (rd_L3 l0 x25_1) x31_2).f2)))) = some (r1, r2) := H
              have A19 := Aside0.mk A190
              clear A190
              by_cases c20 : t144 = true
              ·subst c20
               have H1 : (glyf_Encode.j2 k2 l1 x6_1 x7_2 x8_2 x9_2 x10_1 x11_1 (rd_L3 l0 x25_1) (wrap64 (((rd_T46 (rd_L3 l0 x25_1) x31_2).f0) - x12_2)) (wrap64 (((rd_T46 (rd_L3 l0 x25_1) x31_2).f1) - x13_2)) l0 (l0.length : Int) x25_1 (rd_L3 l0 x25_1) ((rd_L3 l0 x25_1).length : Int) x31_2 true ((rd_T46 (rd_L3 l0 x25_1) x31_2).f0) ((rd_T46 (rd_L3 l0 x25_1) x31_2).f1) ((rd_T46 (rd_L3 l0 x25_1) x31_2).f2)) = some (r1, r2) := by rw [if_pos rfl] at H; exact H
               clear H
               have H := H1
               clear H1
               have H' := Aside0.mk H
               clear H
               have hcz21_0 : w10.cell? ⟨gb141, 0, none⟩ = some (.int .i64 0) := (blk_cell BK141.out 0).trans rfl
               have hcz21_1 : w10.cell? ⟨gb141, 1, none⟩ = some (.int .i64 0) := (blk_cell BK141.out 1).trans rfl
               have hcz21_2 : w10.cell? ⟨gb141, 2, none⟩ = some (.int .i64 0) := (blk_cell BK141.out 2).trans rfl
               have hfz21_0 := blk_frozen BK141.out 0
               have hfz21_1 := blk_frozen BK141.out 1
               have hfz21_2 := blk_frozen BK141.out 2
               go_wp2_with (first | (go_at_call 30; (with_reducible refine (glyf_wide.calls ((rd_T46 (rd_L3 l0 x25_1) x31_2).f0) x12_2 true _ A19.out).mono ?_); rintro e w' ⟨rfl, ⟨nd, rfl⟩⟩; (try first | exact ⟨rfl, _, World.drewN_drewN _ _ _⟩ | exact ⟨rfl, _, Eq.trans (World.drewN_drewN _ _ _) (congrArg (World.drewN _) (Nat.add_assoc _ _ _))⟩)))
               repeat (go_quiet (first | (go_at_call 30; (with_reducible refine (glyf_wide.calls ((rd_T46 (rd_L3 l0 x25_1) x31_2).f0) x12_2 true _ A19.out).mono ?_); rintro e w' ⟨rfl, ⟨nd, rfl⟩⟩; (try first | exact ⟨rfl, _, World.drewN_drewN _ _ _⟩ | exact ⟨rfl, _, Eq.trans (World.drewN_drewN _ _ _) (congrArg (World.drewN _) (Nat.add_assoc _ _ _))⟩))); try go_wp2_with (first | (go_at_call 30; (with_reducible refine (glyf_wide.calls ((rd_T46 (rd_L3 l0 x25_1) x31_2).f0) x12_2 true _ A19.out).mono ?_); rintro e w' ⟨rfl, ⟨nd, rfl⟩⟩; (try first | exact ⟨rfl, _, World.drewN_drewN _ _ _⟩ | exact ⟨rfl, _, Eq.trans (World.drewN_drewN _ _ _) (congrArg (World.drewN _) (Nat.add_assoc _ _ _))⟩))))
               go_meet
               case rel => exact ⟨_, (true), (by first | rfl | (simp; done) | (simp [*]; done)), H', ⟨by have := HK1.out; have := HK2.out; first | omega | exact Nat.le_refl _⟩, ⟨by (with_reducible repeat (first | apply Kd.V_alloc | apply Kd.V_drewN | apply Kd.V_drew)); exact Kd.V_mono (Kd.V_far (p := ⟨gb141, 2, none⟩) (Kd.V_far (p := ⟨gb141, 1, none⟩) (Kd.V_far (p := ⟨gb141, 0, none⟩) (Kd.V_mono HO_1.out (fun k_ hk => (⟨hk, hk.2⟩ : _ ∧ k_ ≠ gb141))) (fun _ hk => hk.2) (.int .i64 ((rd_T46 (rd_L3 l0 x25_1) x31_2).f0))) (fun _ hk => hk.2) (.int .i64 ((rd_T46 (rd_L3 l0 x25_1) x31_2).f1))) (fun _ hk => hk.2) (.int .i64 ((rd_T46 (rd_L3 l0 x25_1) x31_2).f2))) (fun _ hk => ⟨hk.1.1.1, ⟨hk.1.1.2.1, ⟨hk.1.1.2.2.1, ⟨hk.1.1.2.2.2.1, ⟨hk.1.1.2.2.2.2, hk.1.2⟩⟩⟩⟩⟩)⟩, ⟨by (with_reducible repeat (first | apply Kd.R_alloc | apply Kd.R_drewN | apply Kd.R_drew)); exact Kd.R_mono (Kd.R_far (p := ⟨gb141, 2, none⟩) (Kd.R_far (p := ⟨gb141, 1, none⟩) (Kd.R_far (p := ⟨gb141, 0, none⟩) (Kd.R_types HO_6.out BK141.out (by decide)) (fun _ hk => hk.2) (.int .i64 ((rd_T46 (rd_L3 l0 x25_1) x31_2).f0))) (fun _ hk => hk.2) (.int .i64 ((rd_T46 (rd_L3 l0 x25_1) x31_2).f1))) (fun _ hk => hk.2) (.int .i64 ((rd_T46 (rd_L3 l0 x25_1) x31_2).f2))) (fun _ hk => ⟨hk.1.1, ⟨hk.1.2.1, ⟨hk.1.2.2.1, hk.1.2.2.2⟩⟩⟩)⟩, ⟨by (with_reducible repeat (first | apply Kd.R_alloc | apply Kd.R_drewN | apply Kd.R_drew)); exact Kd.R_mono (Kd.R_far (p := ⟨gb141, 2, none⟩) (Kd.R_far (p := ⟨gb141, 1, none⟩) (Kd.R_far (p := ⟨gb141, 0, none⟩) (Kd.R_types HO_7.out BK141.out (by decide)) (fun _ hk => hk.2) (.int .i64 ((rd_T46 (rd_L3 l0 x25_1) x31_2).f0))) (fun _ hk => hk.2) (.int .i64 ((rd_T46 (rd_L3 l0 x25_1) x31_2).f1))) (fun _ hk => hk.2) (.int .i64 ((rd_T46 (rd_L3 l0 x25_1) x31_2).f2))) (fun _ hk => ⟨hk.1.1, ⟨hk.1.2.1, ⟨hk.1.2.2.1, hk.1.2.2.2⟩⟩⟩)⟩, ⟨by (with_reducible repeat (first | apply Kd.R_alloc | apply Kd.R_drewN | apply Kd.R_drew)); exact Kd.R_mono (Kd.R_far (p := ⟨gb141, 2, none⟩) (Kd.R_far (p := ⟨gb141, 1, none⟩) (Kd.R_far (p := ⟨gb141, 0, none⟩) (Kd.R_types HO_8.out BK141.out (by decide)) (fun _ hk => hk.2) (.int .i64 ((rd_T46 (rd_L3 l0 x25_1) x31_2).f0))) (fun _ hk => hk.2) (.int .i64 ((rd_T46 (rd_L3 l0 x25_1) x31_2).f1))) (fun _ hk => hk.2) (.int .i64 ((rd_T46 (rd_L3 l0 x25_1) x31_2).f2))) (fun _ hk => ⟨hk.1.1, ⟨hk.1.2.1, ⟨hk.1.2.2.1, hk.1.2.2.2⟩⟩⟩)⟩, ⟨by (with_reducible repeat (first | apply Kd.R_alloc | apply Kd.R_drewN | apply Kd.R_drew)); exact Kd.R_mono (Kd.R_far (p := ⟨gb141, 2, none⟩) (Kd.R_far (p := ⟨gb141, 1, none⟩) (Kd.R_far (p := ⟨gb141, 0, none⟩) (Kd.R_types HO_9.out BK141.out (by decide)) (fun _ hk => hk.2) (.int .i64 ((rd_T46 (rd_L3 l0 x25_1) x31_2).f0))) (fun _ hk => hk.2) (.int .i64 ((rd_T46 (rd_L3 l0 x25_1) x31_2).f1))) (fun _ hk => hk.2) (.int .i64 ((rd_T46 (rd_L3 l0 x25_1) x31_2).f2))) (fun _ hk => ⟨hk.1.1, ⟨hk.1.2.1, ⟨hk.1.2.2.1, hk.1.2.2.2⟩⟩⟩)⟩, ⟨by (with_reducible repeat (first | refine blk_drewN ?_ _ | refine blk_drew ?_ | refine blk_alloc ?_ _)); refine blk_put (cs := #[.int .i64 ((rd_T46 (rd_L3 l0 x25_1) x31_2).f0), .int .i64 ((rd_T46 (rd_L3 l0 x25_1) x31_2).f1), .int .i64 0]) ?_ 2 _ rfl; (with_reducible repeat (first | refine blk_drewN ?_ _ | refine blk_drew ?_ | refine blk_alloc ?_ _)); refine blk_put (cs := #[.int .i64 ((rd_T46 (rd_L3 l0 x25_1) x31_2).f0), .int .i64 0, .int .i64 0]) ?_ 1 _ rfl; (with_reducible repeat (first | refine blk_drewN ?_ _ | refine blk_drew ?_ | refine blk_alloc ?_ _)); refine blk_put (cs := #[.int .i64 0, .int .i64 0, .int .i64 0]) ?_ 0 _ rfl; (with_reducible repeat (first | refine blk_drewN ?_ _ | refine blk_drew ?_ | refine blk_alloc ?_ _)); exact BK141.out⟩, ⟨bs HB GE141⟩⟩
              ·replace c20 := Bool.eq_false_iff.mpr c20
               subst c20
               have H1 : ((glyf_wide.f ((rd_T46 (rd_L3 l0 x25_1) x31_2).f1) x13_2).bind fun t145 => (glyf_Encode.j2 k2 l1 x6_1 x7_2 x8_2 x9_2 x10_1 x11_1 (rd_L3 l0 x25_1) (wrap64 (((rd_T46 (rd_L3 l0 x25_1) x31_2).f0) - x12_2)) (wrap64 (((rd_T46 (rd_L3 l0 x25_1) x31_2).f1) - x13_2)) l0 (l0.length : Int) x25_1 (rd_L3 l0 x25_1) ((rd_L3 l0 x25_1).length : Int) x31_2 t145 ((rd_T46 (rd_L3 l0 x25_1) x31_2).f0) ((rd_T46 (rd_L3 l0 x25_1) x31_2).f1) ((rd_T46 (rd_L3 l0 x25_1) x31_2).f2))) = some (r1, r2) := by rw [if_neg (show ¬ (false = true) by decide)] at H; exact H
               clear H
               have H := H1
               clear H1
               replace H := Option.bind_eq_some_iff.mp H
               obtain ⟨t145, A220, H⟩ := H
               replace H : (glyf_Encode.j2 k2 l1 x6_1 x7_2 x8_2 x9_2 x10_1 x11_1 (rd_L3 l0 x25_1) (wrap64 (((rd_T46 (rd_L3 l0 x25_1) x31_2).f0) - x12_2)) (wrap64 (((rd_T46 (rd_L3 l0 x25_1) x31_2).f1) - x13_2)) l0 (l0.length : Int) x25_1 (rd_L3 l0 x25_1) ((rd_L3 l0 x25_1).length : Int) x31_2 t145 ((rd_T46 (rd_L3 l0 x25_1) x31_2).f0) ((rd_T46 (rd_L3 l0 x25_1) x31_2).f1) ((rd_T46 (rd_L3 l0 x25_1) x31_2).f2)) = some (r1, r2) := H
               have A22 := Aside0.mk A220
               clear A220
               have H' := Aside0.mk H
               clear H
               have hcz23_0 : w10.cell? ⟨gb141, 0, none⟩ = some (.int .i64 0) := (blk_cell BK141.out 0).trans rfl
               have hcz23_1 : w10.cell? ⟨gb141, 1, none⟩ = some (.int .i64 0) := (blk_cell BK141.out 1).trans rfl
               have hcz23_2 : w10.cell? ⟨gb141, 2, none⟩ = some (.int .i64 0) := (blk_cell BK141.out 2).trans rfl
               have hfz23_0 := blk_frozen BK141.out 0
               have hfz23_1 := blk_frozen BK141.out 1
               have hfz23_2 := blk_frozen BK141.out 2
               go_wp2_with (first | (go_at_call 30; (with_reducible refine (glyf_wide.calls ((rd_T46 (rd_L3 l0 x25_1) x31_2).f0) x12_2 false _ A19.out).mono ?_); rintro e w' ⟨rfl, ⟨nd, rfl⟩⟩; (try first | exact ⟨rfl, _, World.drewN_drewN _ _ _⟩ | exact ⟨rfl, _, Eq.trans (World.drewN_drewN _ _ _) (congrArg (World.drewN _) (Nat.add_assoc _ _ _))⟩)) | (go_at_call 30; (with_reducible refine (glyf_wide.calls ((rd_T46 (rd_L3 l0 x25_1) x31_2).f1) x13_2 t145 _ A22.out).mono ?_); rintro e w' ⟨rfl, ⟨nd, rfl⟩⟩; (try first | exact ⟨rfl, _, World.drewN_drewN _ _ _⟩ | exact ⟨rfl, _, Eq.trans (World.drewN_drewN _ _ _) (congrArg (World.drewN _) (Nat.add_assoc _ _ _))⟩)))
               repeat (go_quiet (first | (go_at_call 30; (with_reducible refine (glyf_wide.calls ((rd_T46 (rd_L3 l0 x25_1) x31_2).f0) x12_2 false _ A19.out).mono ?_); rintro e w' ⟨rfl, ⟨nd, rfl⟩⟩; (try first | exact ⟨rfl, _, World.drewN_drewN _ _ _⟩ | exact ⟨rfl, _, Eq.trans (World.drewN_drewN _ _ _) (congrArg (World.drewN _) (Nat.add_assoc _ _ _))⟩)) | (go_at_call 30; (with_reducible refine (glyf_wide.calls ((rd_T46 (rd_L3 l0 x25_1) x31_2).f1) x13_2 t145 _ A22.out).mono ?_); rintro e w' ⟨rfl, ⟨nd, rfl⟩⟩; (try first | exact ⟨rfl, _, World.drewN_drewN _ _ _⟩ | exact ⟨rfl, _, Eq.trans (World.drewN_drewN _ _ _) (congrArg (World.drewN _) (Nat.add_assoc _ _ _))⟩))); try go_wp2_with (first | (go_at_call 30; (with_reducible refine (glyf_wide.calls ((rd_T46 (rd_L3 l0 x25_1) x31_2).f0) x12_2 false _ A19.out).mono ?_); rintro e w' ⟨rfl, ⟨nd, rfl⟩⟩; (try first | exact ⟨rfl, _, World.drewN_drewN _ _ _⟩ | exact ⟨rfl, _, Eq.trans (World.drewN_drewN _ _ _) (congrArg (World.drewN _) (Nat.add_assoc _ _ _))⟩)) | (go_at_call 30; (with_reducible refine (glyf_wide.calls ((rd_T46 (rd_L3 l0 x25_1) x31_2).f1) x13_2 t145 _ A22.out).mono ?_); rintro e w' ⟨rfl, ⟨nd, rfl⟩⟩; (try first | exact ⟨rfl, _, World.drewN_drewN _ _ _⟩ | exact ⟨rfl, _, Eq.trans (World.drewN_drewN _ _ _) (congrArg (World.drewN _) (Nat.add_assoc _ _ _))⟩))))
               go_meet
               case rel => exact ⟨_, (t145), (by first | rfl | (simp; done) | (simp [*]; done)), H', ⟨by have := HK1.out; have := HK2.out; first | omega | exact Nat.le_refl _⟩, ⟨by (with_reducible repeat (first | apply Kd.V_alloc | apply Kd.V_drewN | apply Kd.V_drew)); exact Kd.V_mono (Kd.V_far (p := ⟨gb141, 2, none⟩) (Kd.V_far (p := ⟨gb141, 1, none⟩) (Kd.V_far (p := ⟨gb141, 0, none⟩) (Kd.V_mono HO_1.out (fun k_ hk => (⟨hk, hk.2⟩ : _ ∧ k_ ≠ gb141))) (fun _ hk => hk.2) (.int .i64 ((rd_T46 (rd_L3 l0 x25_1) x31_2).f0))) (fun _ hk => hk.2) (.int .i64 ((rd_T46 (rd_L3 l0 x25_1) x31_2).f1))) (fun _ hk => hk.2) (.int .i64 ((rd_T46 (rd_L3 l0 x25_1) x31_2).f2))) (fun _ hk => ⟨hk.1.1.1, ⟨hk.1.1.2.1, ⟨hk.1.1.2.2.1, ⟨hk.1.1.2.2.2.1, ⟨hk.1.1.2.2.2.2, hk.1.2⟩⟩⟩⟩⟩)⟩, ⟨by (with_reducible repeat (first | apply Kd.R_alloc | apply Kd.R_drewN | apply Kd.R_drew)); exact Kd.R_mono (Kd.R_far (p := ⟨gb141, 2, none⟩) (Kd.R_far (p := ⟨gb141, 1, none⟩) (Kd.R_far (p := ⟨gb141, 0, none⟩) (Kd.R_types HO_6.out BK141.out (by decide)) (fun _ hk => hk.2) (.int .i64 ((rd_T46 (rd_L3 l0 x25_1) x31_2).f0))) (fun _ hk => hk.2) (.int .i64 ((rd_T46 (rd_L3 l0 x25_1) x31_2).f1))) (fun _ hk => hk.2) (.int .i64 ((rd_T46 (rd_L3 l0 x25_1) x31_2).f2))) (fun _ hk => ⟨hk.1.1, ⟨hk.1.2.1, ⟨hk.1.2.2.1, hk.1.2.2.2⟩⟩⟩)⟩, ⟨by (with_reducible repeat (first | apply Kd.R_alloc | apply Kd.R_drewN | apply Kd.R_drew)); exact Kd.R_mono (Kd.R_far (p := ⟨gb141, 2, none⟩) (Kd.R_far (p := ⟨gb141, 1, none⟩) (Kd.R_far (p := ⟨gb141, 0, none⟩) (Kd.R_types HO_7.out BK141.out (by decide)) (fun _ hk => hk.2) (.int .i64 ((rd_T46 (rd_L3 l0 x25_1) x31_2).f0))) (fun _ hk => hk.2) (.int .i64 ((rd_T46 (rd_L3 l0 x25_1) x31_2).f1))) (fun _ hk => hk.2) (.int .i64 ((rd_T46 (rd_L3 l0 x25_1) x31_2).f2))) (fun _ hk => ⟨hk.1.1, ⟨hk.1.2.1, ⟨hk.1.2.2.1, hk.1.2.2.2⟩⟩⟩)⟩, ⟨by (with_reducible repeat (first | apply Kd.R_alloc | apply Kd.R_drewN | apply Kd.R_drew)); exact Kd.R_mono (Kd.R_far (p := ⟨gb141, 2, none⟩) (Kd.R_far (p := ⟨gb141, 1, none⟩) (Kd.R_far (p := ⟨gb141, 0, none⟩) (Kd.R_types HO_8.out BK141.out (by decide)) (fun _ hk => hk.2) (.int .i64 ((rd_T46 (rd_L3 l0 x25_1) x31_2).f0))) (fun _ hk => hk.2) (.int .i64 ((rd_T46 (rd_L3 l0 x25_1) x31_2).f1))) (fun _ hk => hk.2) (.int .i64 ((rd_T46 (rd_L3 l0 x25_1) x31_2).f2))) (fun _ hk => ⟨hk.1.1, ⟨hk.1.2.1, ⟨hk.1.2.2.1, hk.1.2.2.2⟩⟩⟩)⟩, ⟨by (with_reducible repeat (first | apply Kd.R_alloc | apply Kd.R_drewN | apply Kd.R_drew)); exact Kd.R_mono (Kd.R_far (p := ⟨gb141, 2, none⟩) (Kd.R_far (p := ⟨gb141, 1, none⟩) (Kd.R_far (p := ⟨gb141, 0, none⟩) (Kd.R_types HO_9.out BK141.out (by decide)) (fun _ hk => hk.2) (.int .i64 ((rd_T46 (rd_L3 l0 x25_1) x31_2).f0))) (fun _ hk => hk.2) (.int .i64 ((rd_T46 (rd_L3 l0 x25_1) x31_2).f1))) (fun _ hk => hk.2) (.int .i64 ((rd_T46 (rd_L3 l0 x25_1) x31_2).f2))) (fun _ hk => ⟨hk.1.1, ⟨hk.1.2.1, ⟨hk.1.2.2.1, hk.1.2.2.2⟩⟩⟩)⟩, ⟨by (with_reducible repeat (first | refine blk_drewN ?_ _ | refine blk_drew ?_ | refine blk_alloc ?_ _)); refine blk_put (cs := #[.int .i64 ((rd_T46 (rd_L3 l0 x25_1) x31_2).f0), .int .i64 ((rd_T46 (rd_L3 l0 x25_1) x31_2).f1), .int .i64 0]) ?_ 2 _ rfl; (with_reducible repeat (first | refine blk_drewN ?_ _ | refine blk_drew ?_ | refine blk_alloc ?_ _)); refine blk_put (cs := #[.int .i64 ((rd_T46 (rd_L3 l0 x25_1) x31_2).f0), .int .i64 0, .int .i64 0]) ?_ 1 _ rfl; (with_reducible repeat (first | refine blk_drewN ?_ _ | refine blk_drew ?_ | refine blk_alloc ?_ _)); refine blk_put (cs := #[.int .i64 0, .int .i64 0, .int .i64 0]) ?_ 0 _ rfl; (with_reducible repeat (first | refine blk_drewN ?_ _ | refine blk_drew ?_ | refine blk_alloc ?_ _)); exact BK141.out⟩, ⟨bs HB GE141⟩⟩
             ·rw [if_neg c18] at H
              have c18b0 : (((rd_T46 (rd_L3 l0 x25_1) x31_2).f2) == 2) = false := beq_eq_false_iff_ne.mpr c18
              have c18b1 : (((rd_T46 (rd_L3 l0 x25_1) x31_2).f2) != 2) = true := bne_iff_ne.mpr c18
              have H' := Aside0.mk H
              clear H
              have hcz24_0 : w10.cell? ⟨gb141, 0, none⟩ = some (.int .i64 0) := (blk_cell BK141.out 0).trans rfl
              have hcz24_1 : w10.cell? ⟨gb141, 1, none⟩ = some (.int .i64 0) := (blk_cell BK141.out 1).trans rfl
              have hcz24_2 : w10.cell? ⟨gb141, 2, none⟩ = some (.int .i64 0) := (blk_cell BK141.out 2).trans rfl
              have hfz24_0 := blk_frozen BK141.out 0
              have hfz24_1 := blk_frozen BK141.out 1
              have hfz24_2 := blk_frozen BK141.out 2
              go_wp2
              repeat (go_quiet (fail); try go_wp2)
              go_meet
              case rel => exact ⟨_, (true), (by first | rfl | (simp; done) | (simp [*]; done)), H', ⟨by have := HK1.out; have := HK2.out; first | omega | exact Nat.le_refl _⟩, ⟨by (with_reducible repeat (first | apply Kd.V_alloc | apply Kd.V_drewN | apply Kd.V_drew)); exact Kd.V_mono (Kd.V_far (p := ⟨gb141, 2, none⟩) (Kd.V_far (p := ⟨gb141, 1, none⟩) (Kd.V_far (p := ⟨gb141, 0, none⟩) (Kd.V_mono HO_1.out (fun k_ hk => (⟨hk, hk.2⟩ : _ ∧ k_ ≠ gb141))) (fun _ hk => hk.2) (.int .i64 ((rd_T46 (rd_L3 l0 x25_1) x31_2).f0))) (fun _ hk => hk.2) (.int .i64 ((rd_T46 (rd_L3 l0 x25_1) x31_2).f1))) (fun _ hk => hk.2) (.int .i64 ((rd_T46 (rd_L3 l0 x25_1) x31_2).f2))) (fun _ hk => ⟨hk.1.1.1, ⟨hk.1.1.2.1, ⟨hk.1.1.2.2.1, ⟨hk.1.1.2.2.2.1, ⟨hk.1.1.2.2.2.2, hk.1.2⟩⟩⟩⟩⟩)⟩, ⟨by (with_reducible repeat (first | apply Kd.R_alloc | apply Kd.R_drewN | apply Kd.R_drew)); exact Kd.R_mono (Kd.R_far (p := ⟨gb141, 2, none⟩) (Kd.R_far (p := ⟨gb141, 1, none⟩) (Kd.R_far (p := ⟨gb141, 0, none⟩) (Kd.R_types HO_6.out BK141.out (by decide)) (fun _ hk => hk.2) (.int .i64 ((rd_T46 (rd_L3 l0 x25_1) x31_2).f0))) (fun _ hk => hk.2) (.int .i64 ((rd_T46 (rd_L3 l0 x25_1) x31_2).f1))) (fun _ hk => hk.2) (.int .i64 ((rd_T46 (rd_L3 l0 x25_1) x31_2).f2))) (fun _ hk => ⟨hk.1.1, ⟨hk.1.2.1, ⟨hk.1.2.2.1, hk.1.2.2.2⟩⟩⟩)⟩, ⟨by (with_reducible repeat (first | apply Kd.R_alloc | apply Kd.R_drewN | apply Kd.R_drew)); exact Kd.R_mono (Kd.R_far (p := ⟨gb141, 2, none⟩) (Kd.R_far (p := ⟨gb141, 1, none⟩) (Kd.R_far (p := ⟨gb141, 0, none⟩) (Kd.R_types HO_7.out BK141.out (by decide)) (fun _ hk => hk.2) (.int .i64 ((rd_T46 (rd_L3 l0 x25_1) x31_2).f0))) (fun _ hk => hk.2) (.int .i64 ((rd_T46 (rd_L3 l0 x25_1) x31_2).f1))) (fun _ hk => hk.2) (.int .i64 ((rd_T46 (rd_L3 l0 x25_1) x31_2).f2))) (fun _ hk => ⟨hk.1.1, ⟨hk.1.2.1, ⟨hk.1.2.2.1, hk.1.2.2.2⟩⟩⟩)⟩, ⟨by (with_reducible repeat (first | apply Kd.R_alloc | apply Kd.R_drewN | apply Kd.R_drew)); exact Kd.R_mono (Kd.R_far (p := ⟨gb141, 2, none⟩) (Kd.R_far (p := ⟨gb141, 1, none⟩) (Kd.R_far (p := ⟨gb141, 0, none⟩) (Kd.R_types HO_8.out BK141.out (by decide)) (fun _ hk => hk.2) (.int .i64 ((rd_T46 (rd_L3 l0 x25_1) x31_2).f0))) (fun _ hk => hk.2) (.int .i64 ((rd_T46 (rd_L3 l0 x25_1) x31_2).f1))) (fun _ hk => hk.2) (.int .i64 ((rd_T46 (rd_L3 l0 x25_1) x31_2).f2))) (fun _ hk => ⟨hk.1.1, ⟨hk.1.2.1, ⟨hk.1.2.2.1, hk.1.2.2.2⟩⟩⟩)⟩, ⟨by (with_reducible repeat (first | apply Kd.R_alloc | apply Kd.R_drewN | apply Kd.R_drew)); exact Kd.R_mono (Kd.R_far (p := ⟨gb141, 2, none⟩) (Kd.R_far (p := ⟨gb141, 1, none⟩) (Kd.R_far (p := ⟨gb141, 0, none⟩) (Kd.R_types HO_9.out BK141.out (by decide)) (fun _ hk => hk.2) (.int .i64 ((rd_T46 (rd_L3 l0 x25_1) x31_2).f0))) (fun _ hk => hk.2) (.int .i64 ((rd_T46 (rd_L3 l0 x25_1) x31_2).f1))) (fun _ hk => hk.2) (.int .i64 ((rd_T46 (rd_L3 l0 x25_1) x31_2).f2))) (fun _ hk => ⟨hk.1.1, ⟨hk.1.2.1, ⟨hk.1.2.2.1, hk.1.2.2.2⟩⟩⟩)⟩, ⟨by (with_reducible repeat (first | refine blk_drewN ?_ _ | refine blk_drew ?_ | refine blk_alloc ?_ _)); refine blk_put (cs := #[.int .i64 ((rd_T46 (rd_L3 l0 x25_1) x31_2).f0), .int .i64 ((rd_T46 (rd_L3 l0 x25_1) x31_2).f1), .int .i64 0]) ?_ 2 _ rfl; (with_reducible repeat (first | refine blk_drewN ?_ _ | refine blk_drew ?_ | refine blk_alloc ?_ _)); refine blk_put (cs := #[.int .i64 ((rd_T46 (rd_L3 l0 x25_1) x31_2).f0), .int .i64 0, .int .i64 0]) ?_ 1 _ rfl; (with_reducible repeat (first | refine blk_drewN ?_ _ | refine blk_drew ?_ | refine blk_alloc ?_ _)); refine blk_put (cs := #[.int .i64 0, .int .i64 0, .int .i64 0]) ?_ 0 _ rfl; (with_reducible repeat (first | refine blk_drewN ?_ _ | refine blk_drew ?_ | refine blk_alloc ?_ _)); exact BK141.out⟩, ⟨bs HB GE141⟩⟩
           case rest =>
            clear HC9
            try clear c1
            try clear p1
            try clear q1
            try clear hx1
            try clear c2
            try clear p2
            try clear c3
            try clear c3b0
            try clear c4
            try clear c4b0
            try clear c5
            try clear c5b0
            try clear c6
            try clear c6b0
            try clear p6
            try clear c7
            try clear c7b0
            try clear c8
            try clear c8b0
            try clear c12
            try clear c12b0
            try clear c12b1
            try clear c13
            try clear p13
            try clear q13
            try clear hx13
            try clear c14
            try clear p14
            try clear q14
            try clear hx14
            try clear c18
            try clear c18b0
            try clear c18b1
            try clear c20
            try clear c21
            try clear hcz11_0
            try clear hcz11_1
            try clear hcz11_2
            try clear hcz15_0
            try clear hcz15_1
            try clear hcz15_2
            try clear hcz17_0
            try clear hcz17_1
            try clear hcz17_2
            try clear hcz21_0
            try clear hcz21_1
            try clear hcz21_2
            try clear hcz23_0
            try clear hcz23_1
            try clear hcz23_2
            try clear hcz24_0
            try clear hcz24_1
            try clear hcz24_2
            try clear hfz11_0
            try clear hfz11_1
            try clear hfz11_2
            try clear hfz15_0
            try clear hfz15_1
            try clear hfz15_2
            try clear hfz17_0
            try clear hfz17_1
            try clear hfz17_2
            try clear hfz21_0
            try clear hfz21_1
            try clear hfz21_2
            try clear hfz23_0
            try clear hfz23_1
            try clear hfz23_2
            try clear hfz24_0
            try clear hfz24_1
            try clear hfz24_2
            try clear hx133_0
            try clear hx140_0
            try clear hx140_1
            try clear hx140_2
            try clear p1
            try clear p133
            try clear p140
            try clear p2
            try clear q1
            try clear q133
            try clear q140
            obtain ⟨kq, x62_8, rfl, HA, HJ8, HO_1, HO_6, HO_7, HO_8, HO_9, BK141, HB⟩ := hcut
            cases kq with
            | zero => exact absurd HA.out (by simp [glyf_Encode.j2])
            | succ kj8 =>
             have H := HA.out
             clear HA
             simp only [glyf_Encode.j2] at H
             by_cases c25 : x62_8 = true
             ·subst c25
              have H1 : (some (([] : List Int), 75)) = some (r1, r2) := by rw [if_pos rfl] at H; exact H
              clear H
              have H := H1
              clear H1
              simp only [Option.some.injEq, Prod.mk.injEq] at H
              obtain ⟨rfl, rfl⟩ := H
              go_wp2
              repeat (go_quiet (fail); try go_wp2)
              go_ret2
              exact ⟨_, by first | rfl | (simp [errW_none, errW_some] <;> rfl) | (simp [*, errW_none, errW_some] <;> rfl), by first | exact Kd.R_nil _ _ _ _ _ | exact Kd.N_nil _ _ _ _ _ | exact Kd.V_nil _ _ _ _ _ | exact Kd.Q_nil _ _ _ _ _ | exact Kd.S_nil _ _ _ _ _, bs HB GE141⟩
             ·replace c25 := Bool.eq_false_iff.mpr c25
              subst c25
              have H1 : (if x7_2.length < 140737488355328 then ((glyf_two.f kj8 x8_2 (([(wrap64 (((rd_T46 (rd_L3 l0 x25_1) x31_2).f0) - x12_2))] : List Int))).bind fun t152 => ((glyf_two.f kj8 x9_2 (([(wrap64 (((rd_T46 (rd_L3 l0 x25_1) x31_2).f1) - x13_2))] : List Int))).bind fun t158 => (glyf_Encode.l1 kj8 l1 x6_1 (x7_2 ++ [(wrap64 (2 - ((rd_T46 (rd_L3 l0 x25_1) x31_2).f2))) % 256]) t152 t158 x10_1 x11_1 ((rd_T46 (rd_L3 l0 x25_1) x31_2).f0) ((rd_T46 (rd_L3 l0 x25_1) x31_2).f1) (rd_L3 l0 x25_1) l0 (l0.length : Int) x25_1 (rd_L3 l0 x25_1) ((rd_L3 l0 x25_1).length : Int) (wrap64 (x31_2 + 1))))) else (none)) = some (r1, r2) := by rw [if_neg (show ¬ (false = true) by decide)] at H; exact H
              clear H
              have H := H1
              clear H1
              by_cases c26 : x7_2.length < 140737488355328
              ·rw [if_pos c26] at H
               have LMc26 := Aside0.mk c26
               clear c26
               obtain ⟨y146, hy146⟩ : ∃ y_ : List Int, y_ = (x7_2 ++ [(wrap64 (2 - ((rd_T46 (rd_L3 l0 x25_1) x31_2).f2))) % 256]) := ⟨_, rfl⟩
               replace H : ((glyf_two.f kj8 x8_2 (([(wrap64 (((rd_T46 (rd_L3 l0 x25_1) x31_2).f0) - x12_2))] : List Int))).bind fun t152 => ((glyf_two.f kj8 x9_2 (([(wrap64 (((rd_T46 (rd_L3 l0 x25_1) x31_2).f1) - x13_2))] : List Int))).bind fun t158 => (glyf_Encode.l1 kj8 l1 x6_1 y146 t152 t158 x10_1 x11_1 ((rd_T46 (rd_L3 l0 x25_1) x31_2).f0) ((rd_T46 (rd_L3 l0 x25_1) x31_2).f1) (rd_L3 l0 x25_1) l0 (l0.length : Int) x25_1 (rd_L3 l0 x25_1) ((rd_L3 l0 x25_1).length : Int) (wrap64 (x31_2 + 1))))) = some (r1, r2) := by first | (rw [hy146]; with_reducible exact H) | (have H2_ := (Option.bind_some _ _).symm.trans H; rw [hy146]; with_reducible exact H2_) | (have H2_ := (Option.bind_some _ _).symm.trans H; with_reducible exact H2_) | with_reducible exact H | (rw [hy146]; exact H) | exact H
               have Ny146 := Aside0.mk hy146
               clear hy146
               obtain ⟨y149, hy149⟩ : ∃ y_ : List Int, y_ = (([(wrap64 (((rd_T46 (rd_L3 l0 x25_1) x31_2).f0) - x12_2))] : List Int)) := ⟨_, rfl⟩
               replace H : ((glyf_two.f kj8 x8_2 y149).bind fun t152 => ((glyf_two.f kj8 x9_2 (([(wrap64 (((rd_T46 (rd_L3 l0 x25_1) x31_2).f1) - x13_2))] : List Int))).bind fun t158 => (glyf_Encode.l1 kj8 l1 x6_1 y146 t152 t158 x10_1 x11_1 ((rd_T46 (rd_L3 l0 x25_1) x31_2).f0) ((rd_T46 (rd_L3 l0 x25_1) x31_2).f1) (rd_L3 l0 x25_1) l0 (l0.length : Int) x25_1 (rd_L3 l0 x25_1) ((rd_L3 l0 x25_1).length : Int) (wrap64 (x31_2 + 1))))) = some (r1, r2) := by first | (rw [hy149]; with_reducible exact H) | (have H2_ := (Option.bind_some _ _).symm.trans H; rw [hy149]; with_reducible exact H2_) | (have H2_ := (Option.bind_some _ _).symm.trans H; with_reducible exact H2_) | with_reducible exact H | (rw [hy149]; exact H) | exact H
               have Ny149 := Aside0.mk hy149
               clear hy149
               replace H := Option.bind_eq_some_iff.mp H
               obtain ⟨t152, A270, H⟩ := H
               replace H : ((glyf_two.f kj8 x9_2 (([(wrap64 (((rd_T46 (rd_L3 l0 x25_1) x31_2).f1) - x13_2))] : List Int))).bind fun t158 => (glyf_Encode.l1 kj8 l1 x6_1 y146 t152 t158 x10_1 x11_1 ((rd_T46 (rd_L3 l0 x25_1) x31_2).f0) ((rd_T46 (rd_L3 l0 x25_1) x31_2).f1) (rd_L3 l0 x25_1) l0 (l0.length : Int) x25_1 (rd_L3 l0 x25_1) ((rd_L3 l0 x25_1).length : Int) (wrap64 (x31_2 + 1)))) = some (r1, r2) := H
               have A27 := Aside0.mk A270
               clear A270
               obtain ⟨y155, hy155⟩ : ∃ y_ : List Int, y_ = (([(wrap64 (((rd_T46 (rd_L3 l0 x25_1) x31_2).f1) - x13_2))] : List Int)) := ⟨_, rfl⟩
               replace H : ((glyf_two.f kj8 x9_2 y155).bind fun t158 => (glyf_Encode.l1 kj8 l1 x6_1 y146 t152 t158 x10_1 x11_1 ((rd_T46 (rd_L3 l0 x25_1) x31_2).f0) ((rd_T46 (rd_L3 l0 x25_1) x31_2).f1) (rd_L3 l0 x25_1) l0 (l0.length : Int) x25_1 (rd_L3 l0 x25_1) ((rd_L3 l0 x25_1).length : Int) (wrap64 (x31_2 + 1)))) = some (r1, r2) := by first | (rw [hy155]; with_reducible exact H) | (have H2_ := (Option.bind_some _ _).symm.trans H; rw [hy155]; with_reducible exact H2_) | (have H2_ := (Option.bind_some _ _).symm.trans H; with_reducible exact H2_) | with_reducible exact H | (rw [hy155]; exact H) | exact H
               have Ny155 := Aside0.mk hy155
               clear hy155
               replace H := Option.bind_eq_some_iff.mp H
               obtain ⟨t158, A280, H⟩ := H
               replace H : (glyf_Encode.l1 kj8 l1 x6_1 y146 t152 t158 x10_1 x11_1 ((rd_T46 (rd_L3 l0 x25_1) x31_2).f0) ((rd_T46 (rd_L3 l0 x25_1) x31_2).f1) (rd_L3 l0 x25_1) l0 (l0.length : Int) x25_1 (rd_L3 l0 x25_1) ((rd_L3 l0 x25_1).length : Int) (wrap64 (x31_2 + 1))) = some (r1, r2) := H
               have A28 := Aside0.mk A280
               clear A280
               have H' := Aside0.mk H
               clear H
               have hcz29_0 : wc.cell? ⟨gb141, 0, none⟩ = some (.int .i64 ((rd_T46 (rd_L3 l0 x25_1) x31_2).f0)) := (blk_cell BK141.out 0).trans rfl
               have hcz29_1 : wc.cell? ⟨gb141, 1, none⟩ = some (.int .i64 ((rd_T46 (rd_L3 l0 x25_1) x31_2).f1)) := (blk_cell BK141.out 1).trans rfl
               have hcz29_2 : wc.cell? ⟨gb141, 2, none⟩ = some (.int .i64 ((rd_T46 (rd_L3 l0 x25_1) x31_2).f2)) := (blk_cell BK141.out 2).trans rfl
               have hfz29_0 := blk_frozen BK141.out 0
               have hfz29_1 := blk_frozen BK141.out 1
               have hfz29_2 := blk_frozen BK141.out 2
               go_wp2_with (first | ((with_reducible refine gate_builtin (b := .append) (xs := #[.tmp 63, .tmp 68]) rfl ?_); (try (refine gate_guard (by rfl) ?_; dsimp only)); at_builtin; refine Kd.R_append (Kd.int .u8) (w0 := w) w.heap.size rfl (.tmp 63) (.tmp 68) 23 5 (.int .u8 0) 1 rfl Try.underlying23 info5 rfl (by decide) (by omega) u7 x7_2 ((wrap64 (2 - ((rd_T46 (rd_L3 l0 x25_1) x31_2).f2))) % 256) [.int .u8 ((wrap64 (2 - ((rd_T46 (rd_L3 l0 x25_1) x31_2).f2))) % 256)] (fun k_ => (w.heap.size ≤ k_) ∧ some k_ ≠ (u6 : Value).ownBlock ∧ some k_ ≠ (u8 : Value).ownBlock ∧ some k_ ≠ (u9 : Value).ownBlock) (fun _ => False) rfl rfl ?aP (fun _ hk => hk.elim) ?aF ?aO ?aB ?aS ?aL ?_; (case aP => exact rfl); (case aB => exact (bs HB GE141)); (case aF => exact (fun k_ hk => ⟨(Nat.le_trans (below_size (bs HB GE141)) hk), Kd.fresh' (Kd.R_lt (rq HO_6)) k_ hk, Kd.fresh' (Kd.R_lt (rq HO_8)) k_ hk, Kd.fresh' (Kd.R_lt (rq HO_9)) k_ hk⟩)); (case aO => exact (rq HO_7)); (case aS => exact (below_size (bs HB GE141))); (case aL => have := LMc26.out; omega); intro v147 w30 ho hb hg hat; rw [← Ny146.out] at ho; have n0_ := Aside0.mk (Kd.V_afterv (ok := (fun k_ => (P1_ k_ ∨ w.heap.size ≤ k_) ∧ some k_ ≠ (u6 : Value).ownBlock ∧ some k_ ≠ (u8 : Value).ownBlock ∧ some k_ ≠ (u9 : Value).ownBlock ∧ k_ ≠ gb141)) (by (with_reducible repeat (first | apply Kd.V_alloc | apply Kd.V_drewN | apply Kd.V_drew)); exact Kd.V_mono HO_1.out (fun _ hk => ⟨⟨hk.1, ⟨hk.2.1, ⟨hk.2.2.2.1, ⟨hk.2.2.2.2.1, hk.2.2.2.2.2⟩⟩⟩⟩, hk.2.2.1⟩)) hg hat); have n1_ := Aside0.mk (Kd.R_after (ok := (fun k_ => (w.heap.size ≤ k_) ∧ some k_ ≠ (u8 : Value).ownBlock ∧ some k_ ≠ (u9 : Value).ownBlock)) (by (with_reducible repeat (first | apply Kd.R_alloc | apply Kd.R_drewN | apply Kd.R_drew)); exact Kd.R_mono HO_6.out (fun _ hk => ⟨⟨hk.1, ⟨hk.2.2.1, hk.2.2.2⟩⟩, hk.2.1⟩)) hg hat); have n2_ := Aside0.mk (Kd.R_after (ok := (fun k_ => (w.heap.size ≤ k_) ∧ some k_ ≠ (u6 : Value).ownBlock ∧ some k_ ≠ (u9 : Value).ownBlock)) (by (with_reducible repeat (first | apply Kd.R_alloc | apply Kd.R_drewN | apply Kd.R_drew)); exact Kd.R_mono HO_8.out (fun _ hk => ⟨⟨hk.1, ⟨hk.2.1, hk.2.2.2⟩⟩, hk.2.2.1⟩)) hg hat); have n3_ := Aside0.mk (Kd.R_after (ok := (fun k_ => (w.heap.size ≤ k_) ∧ some k_ ≠ (u6 : Value).ownBlock ∧ some k_ ≠ (u8 : Value).ownBlock)) (by (with_reducible repeat (first | apply Kd.R_alloc | apply Kd.R_drewN | apply Kd.R_drew)); exact Kd.R_mono HO_9.out (fun _ hk => ⟨⟨hk.1, ⟨hk.2.1, hk.2.2.2⟩⟩, hk.2.2.1⟩)) hg hat); have n4_ := Aside0.mk (blk_grown (g := gb141) (o := .cells #[.int .i64 ((rd_T46 (rd_L3 l0 x25_1) x31_2).f0), .int .i64 ((rd_T46 (rd_L3 l0 x25_1) x31_2).f1), .int .i64 ((rd_T46 (rd_L3 l0 x25_1) x31_2).f2)] 46 (0, 0)) (kq BK141) hg (Kd.R_ne HO_7.out BK141.out (by decide))); have n5_ := Aside0.mk (hb); have n6_ := Aside0.mk (ho); clear HO_1; clear HO_6; clear HO_8; clear HO_9; clear BK141; clear HB; clear HO_7; have HO_1 := n0_; have HO_6 := n1_; have HO_8 := n2_; have HO_9 := n3_; have BK141 := n4_; have HB := n5_; have HO148 := n6_; clear n0_ n1_ n2_ n3_ n4_ n5_ n6_; clear ho hb hg hat) | ((with_reducible refine gate_dst (N := 72) rfl ?_); (try (refine gate_guard (by rfl) ?_; dsimp only)); refine Kd.R_lit (Kd.int .i64) _ 3 ?hg (N := 72) ?hd (xs := ([(wrap64 (((rd_T46 (rd_L3 l0 x25_1) x31_2).f0) - x12_2))] : List Int)) (inner := [.int .i64 (wrap64 (((rd_T46 (rd_L3 l0 x25_1) x31_2).f0) - x12_2))]) (ok := fun _ => True) (okp := fun _ => True) ?hr ?hp (fun _ hk => hk) trivial (Below.refl _ _) (Nat.le_refl _) (by simp) ?_; (case hd => rfl); (case hg => rfl); (case hr => first | (go_simp; done) | (go_simp; rfl)); (case hp => exact (Reps.one (show Kd.M (Kd.int .i64) _ _ _ (wrap64 (((rd_T46 (rd_L3 l0 x25_1) x31_2).f0) - x12_2)) [.int .i64 (wrap64 (((rd_T46 (rd_L3 l0 x25_1) x31_2).f0) - x12_2))] from rfl) (Reps.none _ _))); intro v150 w31 ho32 hb hg_ hnew_; clear hg_ hnew_; (first | rw [← Ny149.out] at ho32 | (simp only [Int.reduceToNat] at ho32; rw [← Ny149.out] at ho32)); have n0_ := Aside0.mk (Kd.V_elder' (by (with_reducible repeat (first | apply Kd.V_alloc | apply Kd.V_drewN | apply Kd.V_drew)); exact HO_1.out) (Kd.R_base ho32) hb); have n1_ := Aside0.mk (Kd.R_below (rq HO_6) hb); have n2_ := Aside0.mk (Kd.R_below (rq HO_8) hb); have n3_ := Aside0.mk (Kd.R_below (rq HO_9) hb); have n4_ := Aside0.mk (Kd.R_below (by (with_reducible repeat (first | apply Kd.R_alloc | apply Kd.R_drewN | apply Kd.R_drew)); exact HO148.out) hb); have n5_ := Aside0.mk (Kd.R_lower (Kd.R_newM (M := fun k_ => (w.heap.size ≤ k_)) ho32 (below_size (bs HB GE141)) (fun k_ h_ => h_)) (below_size (bs HB GE141))); have n6_ := Aside0.mk (blk_below (g := gb141) (o := .cells #[.int .i64 ((rd_T46 (rd_L3 l0 x25_1) x31_2).f0), .int .i64 ((rd_T46 (rd_L3 l0 x25_1) x31_2).f1), .int .i64 ((rd_T46 (rd_L3 l0 x25_1) x31_2).f2)] 46 (0, 0)) (kq BK141) hb); have n7_ := Aside0.mk (below_step (bs HB GE141) hb); clear HO_1; clear HO_6; clear HO_8; clear HO_9; clear HO148; clear BK141; clear HB; have HO_1 := n0_; have HO_6 := n1_; have HO_8 := n2_; have HO_9 := n3_; have HO148 := n4_; have HO151 := n5_; have BK141 := n6_; have HB := n7_; clear n0_ n1_ n2_ n3_ n4_ n5_ n6_ n7_; clear hb ho32; obtain ⟨Ao33, co33, eo33⟩ := Kd.R_slice HO_8.out; subst eo33; obtain ⟨Ao34, co34, eo34⟩ := Kd.R_slice HO151.out; subst eo34) | (go_at_call 31; (with_reducible refine (glyf_two.calls kj8 (fun k_ => some k_ = (.slice Ao33 x8_2.length co33 : Value).ownBlock) (.slice Ao33 x8_2.length co33) x8_2 _ _ y149 t152 w _ ?side1 ?side2 ?side3 ?side4 A27.out).mono ?_); (case side1 => repeat (first | (with_reducible first | exact HB.out | apply below_alloc | apply pw_below_drewN | apply below_drew1 | refine below_set ?_ GE141.out) | exact HB.out)); (case side2 => exact Kd.R_tight rfl HO_8.out); (case side3 => exact Kd.C_kept_own ((Kd.R_apart' HO151.out (Kd.R_typed HO_8.out) (by decide))) (fun k_ hk_ hs_ => (hk_.2) hs_)); (case side4 => exact (Kd.R_reads' HO151.out).2.1); rintro e w35 ⟨v153, rfl, ho0, hb, hkp⟩; have n0_ := Aside0.mk (Kd.V_mono (ok' := fun k_ => (P1_ k_ ∨ w.heap.size ≤ k_) ∧ some k_ ≠ (u6 : Value).ownBlock ∧ some k_ ≠ (u9 : Value).ownBlock ∧ some k_ ≠ (v147 : Value).ownBlock ∧ some k_ ≠ (.slice Ao34 y149.length co34 : Value).ownBlock ∧ k_ ≠ gb141 ∧ some k_ ≠ (v153 : Value).ownBlock) (Kd.V_keptB (HO_1.out) hkp (fun k_ hk_ hs_ => (hk_.1.1.2.2.1) hs_)) (fun k_ hk_ => ⟨hk_.1.1.1.1, hk_.1.1.1.2.1, hk_.1.1.1.2.2.2.1, hk_.1.1.2, hk_.1.2, hk_.1.1.1.2.2.2.2, fun e_ => Or.elim (ho0.1 k_ e_.symm) (fun hs_ => hk_.2.1 hs_) (fun hn_ => Nat.not_le.2 hk_.2.2 hn_)⟩)); have n1_ := Aside0.mk (Kd.R_mono (ok' := fun k_ => (w.heap.size ≤ k_) ∧ some k_ ≠ (u9 : Value).ownBlock ∧ some k_ ≠ (v147 : Value).ownBlock ∧ some k_ ≠ (v153 : Value).ownBlock) (Kd.R_keptB (HO_6.out) hkp (fun k_ hk_ hs_ => (hk_.1.2.1) hs_)) (fun k_ hk_ => ⟨hk_.1.1.1, hk_.1.1.2.2, hk_.1.2, fun e_ => Or.elim (ho0.1 k_ e_.symm) (fun hs_ => hk_.2.1 hs_) (fun hn_ => Nat.not_le.2 hk_.2.2 hn_)⟩)); have n2_ := Aside0.mk (Kd.R_mono (ok' := fun k_ => (w.heap.size ≤ k_) ∧ some k_ ≠ (u6 : Value).ownBlock ∧ some k_ ≠ (v147 : Value).ownBlock ∧ some k_ ≠ (v153 : Value).ownBlock) (Kd.R_keptB (HO_9.out) hkp (fun k_ hk_ hs_ => (hk_.1.2.2) hs_)) (fun k_ hk_ => ⟨hk_.1.1.1, hk_.1.1.2.1, hk_.1.2, fun e_ => Or.elim (ho0.1 k_ e_.symm) (fun hs_ => hk_.2.1 hs_) (fun hn_ => Nat.not_le.2 hk_.2.2 hn_)⟩)); have n3_ := Aside0.mk (blk_kept (kq BK141) hkp (fun hs_ => (fun e_ => (Kd.R_ne HO_8.out BK141.out (by decide)) e_) hs_)); have n4_ := Aside0.mk (Kd.R_mono (ok' := fun k_ => (w.heap.size ≤ k_) ∧ some k_ ≠ (u6 : Value).ownBlock ∧ some k_ ≠ (u9 : Value).ownBlock ∧ some k_ ≠ (v153 : Value).ownBlock) (Kd.R_keptB (HO148.out) hkp (fun k_ hk_ hs_ => (hk_.2.2.1) hs_)) (fun k_ hk_ => ⟨hk_.1.1, hk_.1.2.1, hk_.1.2.2.2, fun e_ => Or.elim (ho0.1 k_ e_.symm) (fun hs_ => hk_.2.1 hs_) (fun hn_ => Nat.not_le.2 hk_.2.2 hn_)⟩)); have n5_ := Aside0.mk (Kd.R_mono (ok' := fun k_ => (w.heap.size ≤ k_)) (Kd.R_keptB ((Kd.R_apart' HO151.out (Kd.R_typed HO_8.out) (by decide))) hkp (fun k_ hk_ hs_ => (hk_.2) hs_)) (fun k_ hk_ => hk_.1.1.1)); have n6_ := Aside0.mk (Kd.R_mono (ok' := fun k_ => (w.heap.size ≤ k_) ∧ some k_ ≠ (u6 : Value).ownBlock ∧ some k_ ≠ (u9 : Value).ownBlock ∧ some k_ ≠ (v147 : Value).ownBlock) ho0 (fun k_ hk_ => ⟨Or.elim hk_ (fun hs_ => (HO_8.out.1 k_ (hs_).symm).1.1) (fun hn_ => (Nat.le_trans (below_size (bs HB GE141)) hn_)), Or.elim hk_ (fun hs_ => fun e_ => (((HO_6.out).1 k_ e_.symm).1.2.1) hs_) (fun hn_ => (Kd.fresh' (Kd.R_lt (rq HO_6)) k_ hn_)), Or.elim hk_ (fun hs_ => fun e_ => (((HO_9.out).1 k_ e_.symm).1.2.2) hs_) (fun hn_ => (Kd.fresh' (Kd.R_lt (rq HO_9)) k_ hn_)), Or.elim hk_ (fun hs_ => fun e_ => (((HO148.out).1 k_ e_.symm).2.2.1) hs_) (fun hn_ => (Kd.fresh' (Kd.R_lt (by (with_reducible repeat (first | apply Kd.R_alloc | apply Kd.R_drewN | apply Kd.R_drew)); exact HO148.out)) k_ hn_))⟩)); have n7_ := Aside0.mk (hb); clear HO_1; clear HO_6; clear HO_9; clear BK141; clear HO148; clear HO151; clear HB; clear HO_8; have HO_1 := n0_; have HO_6 := n1_; have HO_9 := n2_; have BK141 := n3_; have HO148 := n4_; have HO151 := n5_; have HO154 := n6_; have HB := n7_; clear n0_ n1_ n2_ n3_ n4_ n5_ n6_ n7_; (try clear hb); (try clear hkp); (try clear ho0)) | ((with_reducible refine gate_dst (N := 76) rfl ?_); (try (refine gate_guard (by rfl) ?_; dsimp only)); refine Kd.R_lit (Kd.int .i64) _ 3 ?hg (N := 76) ?hd (xs := ([(wrap64 (((rd_T46 (rd_L3 l0 x25_1) x31_2).f1) - x13_2))] : List Int)) (inner := [.int .i64 (wrap64 (((rd_T46 (rd_L3 l0 x25_1) x31_2).f1) - x13_2))]) (ok := fun _ => True) (okp := fun _ => True) ?hr ?hp (fun _ hk => hk) trivial (Below.refl _ _) (Nat.le_refl _) (by simp) ?_; (case hd => rfl); (case hg => rfl); (case hr => first | (go_simp; done) | (go_simp; rfl)); (case hp => exact (Reps.one (show Kd.M (Kd.int .i64) _ _ _ (wrap64 (((rd_T46 (rd_L3 l0 x25_1) x31_2).f1) - x13_2)) [.int .i64 (wrap64 (((rd_T46 (rd_L3 l0 x25_1) x31_2).f1) - x13_2))] from rfl) (Reps.none _ _))); intro v156 w36 ho37 hb hg_ hnew_; clear hg_ hnew_; (first | rw [← Ny155.out] at ho37 | (simp only [Int.reduceToNat] at ho37; rw [← Ny155.out] at ho37)); have n0_ := Aside0.mk (Kd.V_elder' (by (with_reducible repeat (first | apply Kd.V_alloc | apply Kd.V_drewN | apply Kd.V_drew)); exact HO_1.out) (Kd.R_base ho37) hb); have n1_ := Aside0.mk (Kd.R_below (rq HO_6) hb); have n2_ := Aside0.mk (Kd.R_below (rq HO_9) hb); have n3_ := Aside0.mk (Kd.R_below (by (with_reducible repeat (first | apply Kd.R_alloc | apply Kd.R_drewN | apply Kd.R_drew)); exact HO148.out) hb); have n4_ := Aside0.mk (Kd.R_elder' (by (with_reducible repeat (first | apply Kd.R_alloc | apply Kd.R_drewN | apply Kd.R_drew)); exact HO151.out) (Kd.R_base ho37) hb); have n5_ := Aside0.mk (Kd.R_below (by (with_reducible repeat (first | apply Kd.R_alloc | apply Kd.R_drewN | apply Kd.R_drew)); exact HO154.out) hb); have n6_ := Aside0.mk (Kd.R_lower (Kd.R_new' (Kd.R_newM (M := fun k_ => (w.heap.size ≤ k_)) ho37 (below_size (bs HB GE141)) (fun k_ h_ => h_)) (Kd.R_lt (by (with_reducible repeat (first | apply Kd.R_alloc | apply Kd.R_drewN | apply Kd.R_drew)); exact HO151.out))) (below_size (bs HB GE141))); have n7_ := Aside0.mk (blk_below (g := gb141) (o := .cells #[.int .i64 ((rd_T46 (rd_L3 l0 x25_1) x31_2).f0), .int .i64 ((rd_T46 (rd_L3 l0 x25_1) x31_2).f1), .int .i64 ((rd_T46 (rd_L3 l0 x25_1) x31_2).f2)] 46 (0, 0)) (kq BK141) hb); have n8_ := Aside0.mk (below_step (bs HB GE141) hb); clear HO_1; clear HO_6; clear HO_9; clear HO148; clear HO151; clear HO154; clear BK141; clear HB; have HO_1 := n0_; have HO_6 := n1_; have HO_9 := n2_; have HO148 := n3_; have HO151 := n4_; have HO154 := n5_; have HO157 := n6_; have BK141 := n7_; have HB := n8_; clear n0_ n1_ n2_ n3_ n4_ n5_ n6_ n7_ n8_; clear hb ho37; obtain ⟨Ao38, co38, eo38⟩ := Kd.R_slice HO_9.out; subst eo38; obtain ⟨Ao39, co39, eo39⟩ := Kd.R_slice HO157.out; subst eo39) | (go_at_call 31; (with_reducible refine (glyf_two.calls kj8 (fun k_ => some k_ = (.slice Ao38 x9_2.length co38 : Value).ownBlock) (.slice Ao38 x9_2.length co38) x9_2 _ _ y155 t158 w _ ?side1 ?side2 ?side3 ?side4 A28.out).mono ?_); (case side1 => repeat (first | (with_reducible first | exact HB.out | apply below_alloc | apply pw_below_drewN | apply below_drew1 | refine below_set ?_ GE141.out) | exact HB.out)); (case side2 => exact Kd.R_tight rfl HO_9.out); (case side3 => exact Kd.C_kept_own ((Kd.R_apart' HO157.out (Kd.R_typed HO_9.out) (by decide))) (fun k_ hk_ hs_ => (hk_.2) hs_)); (case side4 => exact (Kd.R_reads' HO157.out).2.1); rintro e w40 ⟨v159, rfl, ho0, hb, hkp⟩; have n0_ := Aside0.mk (Kd.V_mono (ok' := fun k_ => (P1_ k_ ∨ w.heap.size ≤ k_) ∧ some k_ ≠ (u6 : Value).ownBlock ∧ some k_ ≠ (v147 : Value).ownBlock ∧ some k_ ≠ (.slice Ao34 y149.length co34 : Value).ownBlock ∧ some k_ ≠ (v153 : Value).ownBlock ∧ some k_ ≠ (.slice Ao39 y155.length co39 : Value).ownBlock ∧ k_ ≠ gb141 ∧ some k_ ≠ (v159 : Value).ownBlock) (Kd.V_keptB (HO_1.out) hkp (fun k_ hk_ hs_ => (hk_.1.2.2.1) hs_)) (fun k_ hk_ => ⟨hk_.1.1.1, hk_.1.1.2.1, hk_.1.1.2.2.2.1, hk_.1.1.2.2.2.2.1, hk_.1.1.2.2.2.2.2.2, hk_.1.2, hk_.1.1.2.2.2.2.2.1, fun e_ => Or.elim (ho0.1 k_ e_.symm) (fun hs_ => hk_.2.1 hs_) (fun hn_ => Nat.not_le.2 hk_.2.2 hn_)⟩)); have n1_ := Aside0.mk (Kd.R_mono (ok' := fun k_ => (w.heap.size ≤ k_) ∧ some k_ ≠ (v147 : Value).ownBlock ∧ some k_ ≠ (v153 : Value).ownBlock ∧ some k_ ≠ (v159 : Value).ownBlock) (Kd.R_keptB (HO_6.out) hkp (fun k_ hk_ hs_ => (hk_.2.1) hs_)) (fun k_ hk_ => ⟨hk_.1.1, hk_.1.2.2.1, hk_.1.2.2.2, fun e_ => Or.elim (ho0.1 k_ e_.symm) (fun hs_ => hk_.2.1 hs_) (fun hn_ => Nat.not_le.2 hk_.2.2 hn_)⟩)); have n2_ := Aside0.mk (blk_kept (kq BK141) hkp (fun hs_ => (fun e_ => (Kd.R_ne HO_9.out BK141.out (by decide)) e_) hs_)); have n3_ := Aside0.mk (Kd.R_mono (ok' := fun k_ => (w.heap.size ≤ k_) ∧ some k_ ≠ (u6 : Value).ownBlock ∧ some k_ ≠ (v153 : Value).ownBlock ∧ some k_ ≠ (v159 : Value).ownBlock) (Kd.R_keptB (HO148.out) hkp (fun k_ hk_ hs_ => (hk_.2.2.1) hs_)) (fun k_ hk_ => ⟨hk_.1.1, hk_.1.2.1, hk_.1.2.2.2, fun e_ => Or.elim (ho0.1 k_ e_.symm) (fun hs_ => hk_.2.1 hs_) (fun hn_ => Nat.not_le.2 hk_.2.2 hn_)⟩)); have n4_ := Aside0.mk (Kd.R_mono (ok' := fun k_ => (w.heap.size ≤ k_) ∧ some k_ ≠ (.slice Ao39 y155.length co39 : Value).ownBlock) (Kd.R_keptB ((Kd.R_apart' HO151.out (Kd.R_typed HO_9.out) (by decide))) hkp (fun k_ hk_ hs_ => (hk_.2) hs_)) (fun k_ hk_ => ⟨hk_.1.1.1, hk_.1.1.2⟩)); have n5_ := Aside0.mk (Kd.R_mono (ok' := fun k_ => (w.heap.size ≤ k_) ∧ some k_ ≠ (u6 : Value).ownBlock ∧ some k_ ≠ (v147 : Value).ownBlock ∧ some k_ ≠ (v159 : Value).ownBlock) (Kd.R_keptB (HO154.out) hkp (fun k_ hk_ hs_ => (hk_.2.2.1) hs_)) (fun k_ hk_ => ⟨hk_.1.1, hk_.1.2.1, hk_.1.2.2.2, fun e_ => Or.elim (ho0.1 k_ e_.symm) (fun hs_ => hk_.2.1 hs_) (fun hn_ => Nat.not_le.2 hk_.2.2 hn_)⟩)); have n6_ := Aside0.mk (Kd.R_mono (ok' := fun k_ => (w.heap.size ≤ k_) ∧ some k_ ≠ (.slice Ao34 y149.length co34 : Value).ownBlock) (Kd.R_keptB ((Kd.R_apart' HO157.out (Kd.R_typed HO_9.out) (by decide))) hkp (fun k_ hk_ hs_ => (hk_.2) hs_)) (fun k_ hk_ => ⟨hk_.1.1.1.1, hk_.1.1.2⟩)); have n7_ := Aside0.mk (Kd.R_mono (ok' := fun k_ => (w.heap.size ≤ k_) ∧ some k_ ≠ (u6 : Value).ownBlock ∧ some k_ ≠ (v147 : Value).ownBlock ∧ some k_ ≠ (v153 : Value).ownBlock) ho0 (fun k_ hk_ => ⟨Or.elim hk_ (fun hs_ => (HO_9.out.1 k_ (hs_).symm).1) (fun hn_ => (Nat.le_trans (below_size (bs HB GE141)) hn_)), Or.elim hk_ (fun hs_ => fun e_ => (((HO_6.out).1 k_ e_.symm).2.1) hs_) (fun hn_ => (Kd.fresh' (Kd.R_lt (rq HO_6)) k_ hn_)), Or.elim hk_ (fun hs_ => fun e_ => (((HO148.out).1 k_ e_.symm).2.2.1) hs_) (fun hn_ => (Kd.fresh' (Kd.R_lt (by (with_reducible repeat (first | apply Kd.R_alloc | apply Kd.R_drewN | apply Kd.R_drew)); exact HO148.out)) k_ hn_)), Or.elim hk_ (fun hs_ => fun e_ => (((HO154.out).1 k_ e_.symm).2.2.1) hs_) (fun hn_ => (Kd.fresh' (Kd.R_lt (by (with_reducible repeat (first | apply Kd.R_alloc | apply Kd.R_drewN | apply Kd.R_drew)); exact HO154.out)) k_ hn_))⟩)); have n8_ := Aside0.mk (hb); clear HO_1; clear HO_6; clear BK141; clear HO148; clear HO151; clear HO154; clear HO157; clear HB; clear HO_9; have HO_1 := n0_; have HO_6 := n1_; have BK141 := n2_; have HO148 := n3_; have HO151 := n4_; have HO154 := n5_; have HO157 := n6_; have HO160 := n7_; have HB := n8_; clear n0_ n1_ n2_ n3_ n4_ n5_ n6_ n7_ n8_; (try clear hb); (try clear hkp); (try clear ho0); have hcz41_0 : w40.cell? ⟨gb141, 0, none⟩ = some (.int .i64 ((rd_T46 (rd_L3 l0 x25_1) x31_2).f0)) := (blk_cell BK141.out 0).trans rfl; have hcz41_1 : w40.cell? ⟨gb141, 1, none⟩ = some (.int .i64 ((rd_T46 (rd_L3 l0 x25_1) x31_2).f1)) := (blk_cell BK141.out 1).trans rfl; have hcz41_2 : w40.cell? ⟨gb141, 2, none⟩ = some (.int .i64 ((rd_T46 (rd_L3 l0 x25_1) x31_2).f2)) := (blk_cell BK141.out 2).trans rfl; have hfz41_0 := blk_frozen BK141.out 0; have hfz41_1 := blk_frozen BK141.out 1; have hfz41_2 := blk_frozen BK141.out 2))
               repeat (go_quiet (first | ((with_reducible refine gate_builtin (b := .append) (xs := #[.tmp 63, .tmp 68]) rfl ?_); (try (refine gate_guard (by rfl) ?_; dsimp only)); at_builtin; refine Kd.R_append (Kd.int .u8) (w0 := w) w.heap.size rfl (.tmp 63) (.tmp 68) 23 5 (.int .u8 0) 1 rfl Try.underlying23 info5 rfl (by decide) (by omega) u7 x7_2 ((wrap64 (2 - ((rd_T46 (rd_L3 l0 x25_1) x31_2).f2))) % 256) [.int .u8 ((wrap64 (2 - ((rd_T46 (rd_L3 l0 x25_1) x31_2).f2))) % 256)] (fun k_ => (w.heap.size ≤ k_) ∧ some k_ ≠ (u6 : Value).ownBlock ∧ some k_ ≠ (u8 : Value).ownBlock ∧ some k_ ≠ (u9 : Value).ownBlock) (fun _ => False) rfl rfl ?aP (fun _ hk => hk.elim) ?aF ?aO ?aB ?aS ?aL ?_; (case aP => exact rfl); (case aB => exact (bs HB GE141)); (case aF => exact (fun k_ hk => ⟨(Nat.le_trans (below_size (bs HB GE141)) hk), Kd.fresh' (Kd.R_lt (rq HO_6)) k_ hk, Kd.fresh' (Kd.R_lt (rq HO_8)) k_ hk, Kd.fresh' (Kd.R_lt (rq HO_9)) k_ hk⟩)); (case aO => exact (rq HO_7)); (case aS => exact (below_size (bs HB GE141))); (case aL => have := LMc26.out; omega); intro v147 w30 ho hb hg hat; rw [← Ny146.out] at ho; have n0_ := Aside0.mk (Kd.V_afterv (ok := (fun k_ => (P1_ k_ ∨ w.heap.size ≤ k_) ∧ some k_ ≠ (u6 : Value).ownBlock ∧ some k_ ≠ (u8 : Value).ownBlock ∧ some k_ ≠ (u9 : Value).ownBlock ∧ k_ ≠ gb141)) (by (with_reducible repeat (first | apply Kd.V_alloc | apply Kd.V_drewN | apply Kd.V_drew)); exact Kd.V_mono HO_1.out (fun _ hk => ⟨⟨hk.1, ⟨hk.2.1, ⟨hk.2.2.2.1, ⟨hk.2.2.2.2.1, hk.2.2.2.2.2⟩⟩⟩⟩, hk.2.2.1⟩)) hg hat); have n1_ := Aside0.mk (Kd.R_after (ok := (fun k_ => (w.heap.size ≤ k_) ∧ some k_ ≠ (u8 : Value).ownBlock ∧ some k_ ≠ (u9 : Value).ownBlock)) (by (with_reducible repeat (first | apply Kd.R_alloc | apply Kd.R_drewN | apply Kd.R_drew)); exact Kd.R_mono HO_6.out (fun _ hk => ⟨⟨hk.1, ⟨hk.2.2.1, hk.2.2.2⟩⟩, hk.2.1⟩)) hg hat); have n2_ := Aside0.mk (Kd.R_after (ok := (fun k_ => (w.heap.size ≤ k_) ∧ some k_ ≠ (u6 : Value).ownBlock ∧ some k_ ≠ (u9 : Value).ownBlock)) (by (with_reducible repeat (first | apply Kd.R_alloc | apply Kd.R_drewN | apply Kd.R_drew)); exact Kd.R_mono HO_8.out (fun _ hk => ⟨⟨hk.1, ⟨hk.2.1, hk.2.2.2⟩⟩, hk.2.2.1⟩)) hg hat); have n3_ := Aside0.mk (Kd.R_after (ok := (fun k_ => (w.heap.size ≤ k_) ∧ some k_ ≠ (u6 : Value).ownBlock ∧ some k_ ≠ (u8 : Value).ownBlock)) (by (with_reducible repeat (first | apply Kd.R_alloc | apply Kd.R_drewN | apply Kd.R_drew)); exact Kd.R_mono HO_9.out (fun _ hk => ⟨⟨hk.1, ⟨hk.2.1, hk.2.2.2⟩⟩, hk.2.2.1⟩)) hg hat); have n4_ := Aside0.mk (blk_grown (g := gb141) (o := .cells #[.int .i64 ((rd_T46 (rd_L3 l0 x25_1) x31_2).f0), .int .i64 ((rd_T46 (rd_L3 l0 x25_1) x31_2).f1), .int .i64 ((rd_T46 (rd_L3 l0 x25_1) x31_2).f2)] 46 (0, 0)) (kq BK141) hg (Kd.R_ne HO_7.out BK141.out (by decide))); have n5_ := Aside0.mk (hb); have n6_ := Aside0.mk (ho); clear HO_1; clear HO_6; clear HO_8; clear HO_9; clear BK141; clear HB; clear HO_7; have HO_1 := n0_; have HO_6 := n1_; have HO_8 := n2_; have HO_9 := n3_; have BK141 := n4_; have HB := n5_; have HO148 := n6_; clear n0_ n1_ n2_ n3_ n4_ n5_ n6_; clear ho hb hg hat) | ((with_reducible refine gate_dst (N := 72) rfl ?_); (try (refine gate_guard (by rfl) ?_; dsimp only)); refine Kd.R_lit (Kd.int .i64) _ 3 ?hg (N := 72) ?hd (xs := ([(wrap64 (((rd_T46 (rd_L3 l0 x25_1) x31_2).f0) - x12_2))] : List Int)) (inner := [.int .i64 (wrap64 (((rd_T46 (rd_L3 l0 x25_1) x31_2).f0) - x12_2))]) (ok := fun _ => True) (okp := fun _ => True) ?hr ?hp (fun _ hk => hk) trivial (Below.refl _ _) (Nat.le_refl _) (by simp) ?_; (case hd => rfl); (case hg => rfl); (case hr => first | (go_simp; done) | (go_simp; rfl)); (case hp => exact (Reps.one (show Kd.M (Kd.int .i64) _ _ _ (wrap64 (((rd_T46 (rd_L3 l0 x25_1) x31_2).f0) - x12_2)) [.int .i64 (wrap64 (((rd_T46 (rd_L3 l0 x25_1) x31_2).f0) - x12_2))] from rfl) (Reps.none _ _))); intro v150 w31 ho32 hb hg_ hnew_; clear hg_ hnew_; (first | rw [← Ny149.out] at ho32 | (simp only [Int.reduceToNat] at ho32; rw [← Ny149.out] at ho32)); have n0_ := Aside0.mk (Kd.V_elder' (by (with_reducible repeat (first | apply Kd.V_alloc | apply Kd.V_drewN | apply Kd.V_drew)); exact HO_1.out) (Kd.R_base ho32) hb); have n1_ := Aside0.mk (Kd.R_below (rq HO_6) hb); have n2_ := Aside0.mk (Kd.R_below (rq HO_8) hb); have n3_ := Aside0.mk (Kd.R_below (rq HO_9) hb); have n4_ := Aside0.mk (Kd.R_below (by (with_reducible repeat (first | apply Kd.R_alloc | apply Kd.R_drewN | apply Kd.R_drew)); exact HO148.out) hb); have n5_ := Aside0.mk (Kd.R_lower (Kd.R_newM (M := fun k_ => (w.heap.size ≤ k_)) ho32 (below_size (bs HB GE141)) (fun k_ h_ => h_)) (below_size (bs HB GE141))); have n6_ := Aside0.mk (blk_below (g := gb141) (o := .cells #[.int .i64 ((rd_T46 (rd_L3 l0 x25_1) x31_2).f0), .int .i64 ((rd_T46 (rd_L3 l0 x25_1) x31_2).f1), .int .i64 ((rd_T46 (rd_L3 l0 x25_1) x31_2).f2)] 46 (0, 0)) (kq BK141) hb); have n7_ := Aside0.mk (below_step (bs HB GE141) hb); clear HO_1; clear HO_6; clear HO_8; clear HO_9; clear HO148; clear BK141; clear HB; have HO_1 := n0_; have HO_6 := n1_; have HO_8 := n2_; have HO_9 := n3_; have HO148 := n4_; have HO151 := n5_; have BK141 := n6_; have HB := n7_; clear n0_ n1_ n2_ n3_ n4_ n5_ n6_ n7_; clear hb ho32; obtain ⟨Ao33, co33, eo33⟩ := Kd.R_slice HO_8.out; subst eo33; obtain ⟨Ao34, co34, eo34⟩ := Kd.R_slice HO151.out; subst eo34) | (go_at_call 31; (with_reducible refine (glyf_two.calls kj8 (fun k_ => some k_ = (.slice Ao33 x8_2.length co33 : Value).ownBlock) (.slice Ao33 x8_2.length co33) x8_2 _ _ y149 t152 w _ ?side1 ?side2 ?side3 ?side4 A27.out).mono ?_); (case side1 => repeat (first | (with_reducible first | exact HB.out | apply below_alloc | apply pw_below_drewN | apply below_drew1 | refine below_set ?_ GE141.out) | exact HB.out)); (case side2 => exact Kd.R_tight rfl HO_8.out); (case side3 => exact Kd.C_kept_own ((Kd.R_apart' HO151.out (Kd.R_typed HO_8.out) (by decide))) (fun k_ hk_ hs_ => (hk_.2) hs_)); (case side4 => exact (Kd.R_reads' HO151.out).2.1); rintro e w35 ⟨v153, rfl, ho0, hb, hkp⟩; have n0_ := Aside0.mk (Kd.V_mono (ok' := fun k_ => (P1_ k_ ∨ w.heap.size ≤ k_) ∧ some k_ ≠ (u6 : Value).ownBlock ∧ some k_ ≠ (u9 : Value).ownBlock ∧ some k_ ≠ (v147 : Value).ownBlock ∧ some k_ ≠ (.slice Ao34 y149.length co34 : Value).ownBlock ∧ k_ ≠ gb141 ∧ some k_ ≠ (v153 : Value).ownBlock) (Kd.V_keptB (HO_1.out) hkp (fun k_ hk_ hs_ => (hk_.1.1.2.2.1) hs_)) (fun k_ hk_ => ⟨hk_.1.1.1.1, hk_.1.1.1.2.1, hk_.1.1.1.2.2.2.1, hk_.1.1.2, hk_.1.2, hk_.1.1.1.2.2.2.2, fun e_ => Or.elim (ho0.1 k_ e_.symm) (fun hs_ => hk_.2.1 hs_) (fun hn_ => Nat.not_le.2 hk_.2.2 hn_)⟩)); have n1_ := Aside0.mk (Kd.R_mono (ok' := fun k_ => (w.heap.size ≤ k_) ∧ some k_ ≠ (u9 : Value).ownBlock ∧ some k_ ≠ (v147 : Value).ownBlock ∧ some k_ ≠ (v153 : Value).ownBlock) (Kd.R_keptB (HO_6.out) hkp (fun k_ hk_ hs_ => (hk_.1.2.1) hs_)) (fun k_ hk_ => ⟨hk_.1.1.1, hk_.1.1.2.2, hk_.1.2, fun e_ => Or.elim (ho0.1 k_ e_.symm) (fun hs_ => hk_.2.1 hs_) (fun hn_ => Nat.not_le.2 hk_.2.2 hn_)⟩)); have n2_ := Aside0.mk (Kd.R_mono (ok' := fun k_ => (w.heap.size ≤ k_) ∧ some k_ ≠ (u6 : Value).ownBlock ∧ some k_ ≠ (v147 : Value).ownBlock ∧ some k_ ≠ (v153 : Value).ownBlock) (Kd.R_keptB (HO_9.out) hkp (fun k_ hk_ hs_ => (hk_.1.2.2) hs_)) (fun k_ hk_ => ⟨hk_.1.1.1, hk_.1.1.2.1, hk_.1.2, fun e_ => Or.elim (ho0.1 k_ e_.symm) (fun hs_ => hk_.2.1 hs_) (fun hn_ => Nat.not_le.2 hk_.2.2 hn_)⟩)); have n3_ := Aside0.mk (blk_kept (kq BK141) hkp (fun hs_ => (fun e_ => (Kd.R_ne HO_8.out BK141.out (by decide)) e_) hs_)); have n4_ := Aside0.mk (Kd.R_mono (ok' := fun k_ => (w.heap.size ≤ k_) ∧ some k_ ≠ (u6 : Value).ownBlock ∧ some k_ ≠ (u9 : Value).ownBlock ∧ some k_ ≠ (v153 : Value).ownBlock) (Kd.R_keptB (HO148.out) hkp (fun k_ hk_ hs_ => (hk_.2.2.1) hs_)) (fun k_ hk_ => ⟨hk_.1.1, hk_.1.2.1, hk_.1.2.2.2, fun e_ => Or.elim (ho0.1 k_ e_.symm) (fun hs_ => hk_.2.1 hs_) (fun hn_ => Nat.not_le.2 hk_.2.2 hn_)⟩)); have n5_ := Aside0.mk (Kd.R_mono (ok' := fun k_ => (w.heap.size ≤ k_)) (Kd.R_keptB ((Kd.R_apart' HO151.out (Kd.R_typed HO_8.out) (by decide))) hkp (fun k_ hk_ hs_ => (hk_.2) hs_)) (fun k_ hk_ => hk_.1.1.1)); have n6_ := Aside0.mk (Kd.R_mono (ok' := fun k_ => (w.heap.size ≤ k_) ∧ some k_ ≠ (u6 : Value).ownBlock ∧ some k_ ≠ (u9 : Value).ownBlock ∧ some k_ ≠ (v147 : Value).ownBlock) ho0 (fun k_ hk_ => ⟨Or.elim hk_ (fun hs_ => (HO_8.out.1 k_ (hs_).symm).1.1) (fun hn_ => (Nat.le_trans (below_size (bs HB GE141)) hn_)), Or.elim hk_ (fun hs_ => fun e_ => (((HO_6.out).1 k_ e_.symm).1.2.1) hs_) (fun hn_ => (Kd.fresh' (Kd.R_lt (rq HO_6)) k_ hn_)), Or.elim hk_ (fun hs_ => fun e_ => (((HO_9.out).1 k_ e_.symm).1.2.2) hs_) (fun hn_ => (Kd.fresh' (Kd.R_lt (rq HO_9)) k_ hn_)), Or.elim hk_ (fun hs_ => fun e_ => (((HO148.out).1 k_ e_.symm).2.2.1) hs_) (fun hn_ => (Kd.fresh' (Kd.R_lt (by (with_reducible repeat (first | apply Kd.R_alloc | apply Kd.R_drewN | apply Kd.R_drew)); exact HO148.out)) k_ hn_))⟩)); have n7_ := Aside0.mk (hb); clear HO_1; clear HO_6; clear HO_9; clear BK141; clear HO148; clear HO151; clear HB; clear HO_8; have HO_1 := n0_; have HO_6 := n1_; have HO_9 := n2_; have BK141 := n3_; have HO148 := n4_; have HO151 := n5_; have HO154 := n6_; have HB := n7_; clear n0_ n1_ n2_ n3_ n4_ n5_ n6_ n7_; (try clear hb); (try clear hkp); (try clear ho0)) | ((with_reducible refine gate_dst (N := 76) rfl ?_); (try (refine gate_guard (by rfl) ?_; dsimp only)); refine Kd.R_lit (Kd.int .i64) _ 3 ?hg (N := 76) ?hd (xs := ([(wrap64 (((rd_T46 (rd_L3 l0 x25_1) x31_2).f1) - x13_2))] : List Int)) (inner := [.int .i64 (wrap64 (((rd_T46 (rd_L3 l0 x25_1) x31_2).f1) - x13_2))]) (ok := fun _ => True) (okp := fun _ => True) ?hr ?hp (fun _ hk => hk) trivial (Below.refl _ _) (Nat.le_refl _) (by simp) ?_; (case hd => rfl); (case hg => rfl); (case hr => first | (go_simp; done) | (go_simp; rfl)); (case hp => exact (Reps.one (show Kd.M (Kd.int .i64) _ _ _ (wrap64 (((rd_T46 (rd_L3 l0 x25_1) x31_2).f1) - x13_2)) [.int .i64 (wrap64 (((rd_T46 (rd_L3 l0 x25_1) x31_2).f1) - x13_2))] from rfl) (Reps.none _ _))); intro v156 w36 ho37 hb hg_ hnew_; clear hg_ hnew_; (first | rw [← Ny155.out] at ho37 | (simp only [Int.reduceToNat] at ho37; rw [← Ny155.out] at ho37)); have n0_ := Aside0.mk (Kd.V_elder' (by (with_reducible repeat (first | apply Kd.V_alloc | apply Kd.V_drewN | apply Kd.V_drew)); exact HO_1.out) (Kd.R_base ho37) hb); have n1_ := Aside0.mk (Kd.R_below (rq HO_6) hb); have n2_ := Aside0.mk (Kd.R_below (rq HO_9) hb); have n3_ := Aside0.mk (Kd.R_below (by (with_reducible repeat (first | apply Kd.R_alloc | apply Kd.R_drewN | apply Kd.R_drew)); exact HO148.out) hb); have n4_ := Aside0.mk (Kd.R_elder' (by (with_reducible repeat (first | apply Kd.R_alloc | apply Kd.R_drewN | apply Kd.R_drew)); exact HO151.out) (Kd.R_base ho37) hb); have n5_ := Aside0.mk (Kd.R_below (by (with_reducible repeat (first | apply Kd.R_alloc | apply Kd.R_drewN | apply Kd.R_drew)); exact HO154.out) hb); have n6_ := Aside0.mk (Kd.R_lower (Kd.R_new' (Kd.R_newM (M := fun k_ => (w.heap.size ≤ k_)) ho37 (below_size (bs HB GE141)) (fun k_ h_ => h_)) (Kd.R_lt (by (with_reducible repeat (first | apply Kd.R_alloc | apply Kd.R_drewN | apply Kd.R_drew)); exact HO151.out))) (below_size (bs HB GE141))); have n7_ := Aside0.mk (blk_below (g := gb141) (o := .cells #[.int .i64 ((rd_T46 (rd_L3 l0 x25_1) x31_2).f0), .int .i64 ((rd_T46 (rd_L3 l0 x25_1) x31_2).f1), .int .i64 ((rd_T46 (rd_L3 l0 x25_1) x31_2).f2)] 46 (0, 0)) (kq BK141) hb); have n8_ := Aside0.mk (below_step (bs HB GE141) hb); clear HO_1; clear HO_6; clear HO_9; clear HO148; clear HO151; clear HO154; clear BK141; clear HB; have HO_1 := n0_; have HO_6 := n1_; have HO_9 := n2_; have HO148 := n3_; have HO151 := n4_; have HO154 := n5_; have HO157 := n6_; have BK141 := n7_; have HB := n8_; clear n0_ n1_ n2_ n3_ n4_ n5_ n6_ n7_ n8_; clear hb ho37; obtain ⟨Ao38, co38, eo38⟩ := Kd.R_slice HO_9.out; subst eo38; obtain ⟨Ao39, co39, eo39⟩ := Kd.R_slice HO157.out; subst eo39) | (go_at_call 31; (with_reducible refine (glyf_two.calls kj8 (fun k_ => some k_ = (.slice Ao38 x9_2.length co38 : Value).ownBlock) (.slice Ao38 x9_2.length co38) x9_2 _ _ y155 t158 w _ ?side1 ?side2 ?side3 ?side4 A28.out).mono ?_); (case side1 => repeat (first | (with_reducible first | exact HB.out | apply below_alloc | apply pw_below_drewN | apply below_drew1 | refine below_set ?_ GE141.out) | exact HB.out)); (case side2 => exact Kd.R_tight rfl HO_9.out); (case side3 => exact Kd.C_kept_own ((Kd.R_apart' HO157.out (Kd.R_typed HO_9.out) (by decide))) (fun k_ hk_ hs_ => (hk_.2) hs_)); (case side4 => exact (Kd.R_reads' HO157.out).2.1); rintro e w40 ⟨v159, rfl, ho0, hb, hkp⟩; have n0_ := Aside0.mk (Kd.V_mono (ok' := fun k_ => (P1_ k_ ∨ w.heap.size ≤ k_) ∧ some k_ ≠ (u6 : Value).ownBlock ∧ some k_ ≠ (v147 : Value).ownBlock ∧ some k_ ≠ (.slice Ao34 y149.length co34 : Value).ownBlock ∧ some k_ ≠ (v153 : Value).ownBlock ∧ some k_ ≠ (.slice Ao39 y155.length co39 : Value).ownBlock ∧ k_ ≠ gb141 ∧ some k_ ≠ (v159 : Value).ownBlock) (Kd.V_keptB (HO_1.out) hkp (fun k_ hk_ hs_ => (hk_.1.2.2.1) hs_)) (fun k_ hk_ => ⟨hk_.1.1.1, hk_.1.1.2.1, hk_.1.1.2.2.2.1, hk_.1.1.2.2.2.2.1, hk_.1.1.2.2.2.2.2.2, hk_.1.2, hk_.1.1.2.2.2.2.2.1, fun e_ => Or.elim (ho0.1 k_ e_.symm) (fun hs_ => hk_.2.1 hs_) (fun hn_ => Nat.not_le.2 hk_.2.2 hn_)⟩)); have n1_ := Aside0.mk (Kd.R_mono (ok' := fun k_ => (w.heap.size ≤ k_) ∧ some k_ ≠ (v147 : Value).ownBlock ∧ some k_ ≠ (v153 : Value).ownBlock ∧ some k_ ≠ (v159 : Value).ownBlock) (Kd.R_keptB (HO_6.out) hkp (fun k_ hk_ hs_ => (hk_.2.1) hs_)) (fun k_ hk_ => ⟨hk_.1.1, hk_.1.2.2.1, hk_.1.2.2.2, fun e_ => Or.elim (ho0.1 k_ e_.symm) (fun hs_ => hk_.2.1 hs_) (fun hn_ => Nat.not_le.2 hk_.2.2 hn_)⟩)); have n2_ := Aside0.mk (blk_kept (kq BK141) hkp (fun hs_ => (fun e_ => (Kd.R_ne HO_9.out BK141.out (by decide)) e_) hs_)); have n3_ := Aside0.mk (Kd.R_mono (ok' := fun k_ => (w.heap.size ≤ k_) ∧ some k_ ≠ (u6 : Value).ownBlock ∧ some k_ ≠ (v153 : Value).ownBlock ∧ some k_ ≠ (v159 : Value).ownBlock) (Kd.R_keptB (HO148.out) hkp (fun k_ hk_ hs_ => (hk_.2.2.1) hs_)) (fun k_ hk_ => ⟨hk_.1.1, hk_.1.2.1, hk_.1.2.2.2, fun e_ => Or.elim (ho0.1 k_ e_.symm) (fun hs_ => hk_.2.1 hs_) (fun hn_ => Nat.not_le.2 hk_.2.2 hn_)⟩)); have n4_ := Aside0.mk (Kd.R_mono (ok' := fun k_ => (w.heap.size ≤ k_) ∧ some k_ ≠ (.slice Ao39 y155.length co39 : Value).ownBlock) (Kd.R_keptB ((Kd.R_apart' HO151.out (Kd.R_typed HO_9.out) (by decide))) hkp (fun k_ hk_ hs_ => (hk_.2) hs_)) (fun k_ hk_ => ⟨hk_.1.1.1, hk_.1.1.2⟩)); have n5_ := Aside0.mk (Kd.R_mono (ok' := fun k_ => (w.heap.size ≤ k_) ∧ some k_ ≠ (u6 : Value).ownBlock ∧ some k_ ≠ (v147 : Value).ownBlock ∧ some k_ ≠ (v159 : Value).ownBlock) (Kd.R_keptB (HO154.out) hkp (fun k_ hk_ hs_ => (hk_.2.2.1) hs_)) (fun k_ hk_ => ⟨hk_.1.1, hk_.1.2.1, hk_.1.2.2.2, fun e_ => Or.elim (ho0.1 k_ e_.symm) (fun hs_ => hk_.2.1 hs_) (fun hn_ => Nat.not_le.2 hk_.2.2 hn_)⟩)); have n6_ := Aside0.mk (Kd.R_mono (ok' := fun k_ => (w.heap.size ≤ k_) ∧ some k_ ≠ (.slice Ao34 y149.length co34 : Value).ownBlock) (Kd.R_keptB ((Kd.R_apart' HO157.out (Kd.R_typed HO_9.out) (by decide))) hkp (fun k_ hk_ hs_ => (hk_.2) hs_)) (fun k_ hk_ => ⟨hk_.1.1.1.1, hk_.1.1.2⟩)); have n7_ := Aside0.mk (Kd.R_mono (ok' := fun k_ => (w.heap.size ≤ k_) ∧ some k_ ≠ (u6 : Value).ownBlock ∧ some k_ ≠ (v147 : Value).ownBlock ∧ some k_ ≠ (v153 : Value).ownBlock) ho0 (fun k_ hk_ => ⟨Or.elim hk_ (fun hs_ => (HO_9.out.1 k_ (hs_).symm).1) (fun hn_ => (Nat.le_trans (below_size (bs HB GE141)) hn_)), Or.elim hk_ (fun hs_ => fun e_ => (((HO_6.out).1 k_ e_.symm).2.1) hs_) (fun hn_ => (Kd.fresh' (Kd.R_lt (rq HO_6)) k_ hn_)), Or.elim hk_ (fun hs_ => fun e_ => (((HO148.out).1 k_ e_.symm).2.2.1) hs_) (fun hn_ => (Kd.fresh' (Kd.R_lt (by (with_reducible repeat (first | apply Kd.R_alloc | apply Kd.R_drewN | apply Kd.R_drew)); exact HO148.out)) k_ hn_)), Or.elim hk_ (fun hs_ => fun e_ => (((HO154.out).1 k_ e_.symm).2.2.1) hs_) (fun hn_ => (Kd.fresh' (Kd.R_lt (by (with_reducible repeat (first | apply Kd.R_alloc | apply Kd.R_drewN | apply Kd.R_drew)); exact HO154.out)) k_ hn_))⟩)); have n8_ := Aside0.mk (hb); clear HO_1; clear HO_6; clear BK141; clear HO148; clear HO151; clear HO154; clear HO157; clear HB; clear HO_9; have HO_1 := n0_; have HO_6 := n1_; have BK141 := n2_; have HO148 := n3_; have HO151 := n4_; have HO154 := n5_; have HO157 := n6_; have HO160 := n7_; have HB := n8_; clear n0_ n1_ n2_ n3_ n4_ n5_ n6_ n7_ n8_; (try clear hb); (try clear hkp); (try clear ho0); have hcz41_0 : w40.cell? ⟨gb141, 0, none⟩ = some (.int .i64 ((rd_T46 (rd_L3 l0 x25_1) x31_2).f0)) := (blk_cell BK141.out 0).trans rfl; have hcz41_1 : w40.cell? ⟨gb141, 1, none⟩ = some (.int .i64 ((rd_T46 (rd_L3 l0 x25_1) x31_2).f1)) := (blk_cell BK141.out 1).trans rfl; have hcz41_2 : w40.cell? ⟨gb141, 2, none⟩ = some (.int .i64 ((rd_T46 (rd_L3 l0 x25_1) x31_2).f2)) := (blk_cell BK141.out 2).trans rfl; have hfz41_0 := blk_frozen BK141.out 0; have hfz41_1 := blk_frozen BK141.out 1; have hfz41_2 := blk_frozen BK141.out 2)); try go_wp2_with (first | ((with_reducible refine gate_builtin (b := .append) (xs := #[.tmp 63, .tmp 68]) rfl ?_); (try (refine gate_guard (by rfl) ?_; dsimp only)); at_builtin; refine Kd.R_append (Kd.int .u8) (w0 := w) w.heap.size rfl (.tmp 63) (.tmp 68) 23 5 (.int .u8 0) 1 rfl Try.underlying23 info5 rfl (by decide) (by omega) u7 x7_2 ((wrap64 (2 - ((rd_T46 (rd_L3 l0 x25_1) x31_2).f2))) % 256) [.int .u8 ((wrap64 (2 - ((rd_T46 (rd_L3 l0 x25_1) x31_2).f2))) % 256)] (fun k_ => (w.heap.size ≤ k_) ∧ some k_ ≠ (u6 : Value).ownBlock ∧ some k_ ≠ (u8 : Value).ownBlock ∧ some k_ ≠ (u9 : Value).ownBlock) (fun _ => False) rfl rfl ?aP (fun _ hk => hk.elim) ?aF ?aO ?aB ?aS ?aL ?_; (case aP => exact rfl); (case aB => exact (bs HB GE141)); (case aF => exact (fun k_ hk => ⟨(Nat.le_trans (below_size (bs HB GE141)) hk), Kd.fresh' (Kd.R_lt (rq HO_6)) k_ hk, Kd.fresh' (Kd.R_lt (rq HO_8)) k_ hk, Kd.fresh' (Kd.R_lt (rq HO_9)) k_ hk⟩)); (case aO => exact (rq HO_7)); (case aS => exact (below_size (bs HB GE141))); (case aL => have := LMc26.out; omega); intro v147 w30 ho hb hg hat; rw [← Ny146.out] at ho; have n0_ := Aside0.mk (Kd.V_afterv (ok := (fun k_ => (P1_ k_ ∨ w.heap.size ≤ k_) ∧ some k_ ≠ (u6 : Value).ownBlock ∧ some k_ ≠ (u8 : Value).ownBlock ∧ some k_ ≠ (u9 : Value).ownBlock ∧ k_ ≠ gb141)) (by (with_reducible repeat (first | apply Kd.V_alloc | apply Kd.V_drewN | apply Kd.V_drew)); exact Kd.V_mono HO_1.out (fun _ hk => ⟨⟨hk.1, ⟨hk.2.1, ⟨hk.2.2.2.1, ⟨hk.2.2.2.2.1, hk.2.2.2.2.2⟩⟩⟩⟩, hk.2.2.1⟩)) hg hat); have n1_ := Aside0.mk (Kd.R_after (ok := (fun k_ => (w.heap.size ≤ k_) ∧ some k_ ≠ (u8 : Value).ownBlock ∧ some k_ ≠ (u9 : Value).ownBlock)) (by (with_reducible repeat (first | apply Kd.R_alloc | apply Kd.R_drewN | apply Kd.R_drew)); exact Kd.R_mono HO_6.out (fun _ hk => ⟨⟨hk.1, ⟨hk.2.2.1, hk.2.2.2⟩⟩, hk.2.1⟩)) hg hat); have n2_ := Aside0.mk (Kd.R_after (ok := (fun k_ => (w.heap.size ≤ k_) ∧ some k_ ≠ (u6 : Value).ownBlock ∧ some k_ ≠ (u9 : Value).ownBlock)) (by (with_reducible repeat (first | apply Kd.R_alloc | apply Kd.R_drewN | apply Kd.R_drew)); exact Kd.R_mono HO_8.out (fun _ hk => ⟨⟨hk.1, ⟨hk.2.1, hk.2.2.2⟩⟩, hk.2.2.1⟩)) hg hat); have n3_ := Aside0.mk (Kd.R_after (ok := (fun k_ => (w.heap.size ≤ k_) ∧ some k_ ≠ (u6 : Value).ownBlock ∧ some k_ ≠ (u8 : Value).ownBlock)) (by (with_reducible repeat (first | apply Kd.R_alloc | apply Kd.R_drewN | apply Kd.R_drew)); exact Kd.R_mono HO_9.out (fun _ hk => ⟨⟨hk.1, ⟨hk.2.1, hk.2.2.2⟩⟩, hk.2.2.1⟩)) hg hat); have n4_ := Aside0.mk (blk_grown (g := gb141) (o := .cells #[.int .i64 ((rd_T46 (rd_L3 l0 x25_1) x31_2).f0), .int .i64 ((rd_T46 (rd_L3 l0 x25_1) x31_2).f1), .int .i64 ((rd_T46 (rd_L3 l0 x25_1) x31_2).f2)] 46 (0, 0)) (kq BK141) hg (Kd.R_ne HO_7.out BK141.out (by decide))); have n5_ := Aside0.mk (hb); have n6_ := Aside0.mk (ho); clear HO_1; clear HO_6; clear HO_8; clear HO_9; clear BK141; clear HB; clear HO_7; have HO_1 := n0_; have HO_6 := n1_; have HO_8 := n2_; have HO_9 := n3_; have BK141 := n4_; have HB := n5_; have HO148 := n6_; clear n0_ n1_ n2_ n3_ n4_ n5_ n6_; clear ho hb hg hat) | ((with_reducible refine gate_dst (N := 72) rfl ?_); (try (refine gate_guard (by rfl) ?_; dsimp only)); refine Kd.R_lit (Kd.int .i64) _ 3 ?hg (N := 72) ?hd (xs := ([(wrap64 (((rd_T46 (rd_L3 l0 x25_1) x31_2).f0) - x12_2))] : List Int)) (inner := [.int .i64 (wrap64 (((rd_T46 (rd_L3 l0 x25_1) x31_2).f0) - x12_2))]) (ok := fun _ => True) (okp := fun _ => True) ?hr ?hp (fun _ hk => hk) trivial (Below.refl _ _) (Nat.le_refl _) (by simp) ?_; (case hd => rfl); (case hg => rfl); (case hr => first | (go_simp; done) | (go_simp; rfl)); (case hp => exact (Reps.one (show Kd.M (Kd.int .i64) _ _ _ (wrap64 (((rd_T46 (rd_L3 l0 x25_1) x31_2).f0) - x12_2)) [.int .i64 (wrap64 (((rd_T46 (rd_L3 l0 x25_1) x31_2).f0) - x12_2))] from rfl) (Reps.none _ _))); intro v150 w31 ho32 hb hg_ hnew_; clear hg_ hnew_; (first | rw [← Ny149.out] at ho32 | (simp only [Int.reduceToNat] at ho32; rw [← Ny149.out] at ho32)); have n0_ := Aside0.mk (Kd.V_elder' (by (with_reducible repeat (first | apply Kd.V_alloc | apply Kd.V_drewN | apply Kd.V_drew)); exact HO_1.out) (Kd.R_base ho32) hb); have n1_ := Aside0.mk (Kd.R_below (rq HO_6) hb); have n2_ := Aside0.mk (Kd.R_below (rq HO_8) hb); have n3_ := Aside0.mk (Kd.R_below (rq HO_9) hb); have n4_ := Aside0.mk (Kd.R_below (by (with_reducible repeat (first | apply Kd.R_alloc | apply Kd.R_drewN | apply Kd.R_drew)); exact HO148.out) hb); have n5_ := Aside0.mk (Kd.R_lower (Kd.R_newM (M := fun k_ => (w.heap.size ≤ k_)) ho32 (below_size (bs HB GE141)) (fun k_ h_ => h_)) (below_size (bs HB GE141))); have n6_ := Aside0.mk (blk_below (g := gb141) (o := .cells #[.int .i64 ((rd_T46 (rd_L3 l0 x25_1) x31_2).f0), .int .i64 ((rd_T46 (rd_L3 l0 x25_1) x31_2).f1), .int .i64 ((rd_T46 (rd_L3 l0 x25_1) x31_2).f2)] 46 (0, 0)) (kq BK141) hb); have n7_ := Aside0.mk (below_step (bs HB GE141) hb); clear HO_1; clear HO_6; clear HO_8; clear HO_9; clear HO148; clear BK141; clear HB; have HO_1 := n0_; have HO_6 := n1_; have HO_8 := n2_; have HO_9 := n3_; have HO148 := n4_; have HO151 := n5_; have BK141 := n6_; have HB := n7_; clear n0_ n1_ n2_ n3_ n4_ n5_ n6_ n7_; clear hb ho32; obtain ⟨Ao33, co33, eo33⟩ := Kd.R_slice HO_8.out; subst eo33; obtain ⟨Ao34, co34, eo34⟩ := Kd.R_slice HO151.out; subst eo34) | (go_at_call 31; (with_reducible refine (glyf_two.calls kj8 (fun k_ => some k_ = (.slice Ao33 x8_2.length co33 : Value).ownBlock) (.slice Ao33 x8_2.length co33) x8_2 _ _ y149 t152 w _ ?side1 ?side2 ?side3 ?side4 A27.out).mono ?_); (case side1 => repeat (first | (with_reducible first | exact HB.out | apply below_alloc | apply pw_below_drewN | apply below_drew1 | refine below_set ?_ GE141.out) | exact HB.out)); (case side2 => exact Kd.R_tight rfl HO_8.out); (case side3 => exact Kd.C_kept_own ((Kd.R_apart' HO151.out (Kd.R_typed HO_8.out) (by decide))) (fun k_ hk_ hs_ => (hk_.2) hs_)); (case side4 => exact (Kd.R_reads' HO151.out).2.1); rintro e w35 ⟨v153, rfl, ho0, hb, hkp⟩; have n0_ := Aside0.mk (Kd.V_mono (ok' := fun k_ => (P1_ k_ ∨ w.heap.size ≤ k_) ∧ some k_ ≠ (u6 : Value).ownBlock ∧ some k_ ≠ (u9 : Value).ownBlock ∧ some k_ ≠ (v147 : Value).ownBlock ∧ some k_ ≠ (.slice Ao34 y149.length co34 : Value).ownBlock ∧ k_ ≠ gb141 ∧ some k_ ≠ (v153 : Value).ownBlock) (Kd.V_keptB (HO_1.out) hkp (fun k_ hk_ hs_ => (hk_.1.1.2.2.1) hs_)) (fun k_ hk_ => ⟨hk_.1.1.1.1, hk_.1.1.1.2.1, hk_.1.1.1.2.2.2.1, hk_.1.1.2, hk_.1.2, hk_.1.1.1.2.2.2.2, fun e_ => Or.elim (ho0.1 k_ e_.symm) (fun hs_ => hk_.2.1 hs_) (fun hn_ => Nat.not_le.2 hk_.2.2 hn_)⟩)); have n1_ := Aside0.mk (Kd.R_mono (ok' := fun k_ => (w.heap.size ≤ k_) ∧ some k_ ≠ (u9 : Value).ownBlock ∧ some k_ ≠ (v147 : Value).ownBlock ∧ some k_ ≠ (v153 : Value).ownBlock) (Kd.R_keptB (HO_6.out) hkp (fun k_ hk_ hs_ => (hk_.1.2.1) hs_)) (fun k_ hk_ => ⟨hk_.1.1.1, hk_.1.1.2.2, hk_.1.2, fun e_ => Or.elim (ho0.1 k_ e_.symm) (fun hs_ => hk_.2.1 hs_) (fun hn_ => Nat.not_le.2 hk_.2.2 hn_)⟩)); have n2_ := Aside0.mk (Kd.R_mono (ok' := fun k_ => (w.heap.size ≤ k_) ∧ some k_ ≠ (u6 : Value).ownBlock ∧ some k_ ≠ (v147 : Value).ownBlock ∧ some k_ ≠ (v153 : Value).ownBlock) (Kd.R_keptB (HO_9.out) hkp (fun k_ hk_ hs_ => (hk_.1.2.2) hs_)) (fun k_ hk_ => ⟨hk_.1.1.1, hk_.1.1.2.1, hk_.1.2, fun e_ => Or.elim (ho0.1 k_ e_.symm) (fun hs_ => hk_.2.1 hs_) (fun hn_ => Nat.not_le.2 hk_.2.2 hn_)⟩)); have n3_ := Aside0.mk (blk_kept (kq BK141) hkp (fun hs_ => (fun e_ => (Kd.R_ne HO_8.out BK141.out (by decide)) e_) hs_)); have n4_ := Aside0.mk (Kd.R_mono (ok' := fun k_ => (w.heap.size ≤ k_) ∧ some k_ ≠ (u6 : Value).ownBlock ∧ some k_ ≠ (u9 : Value).ownBlock ∧ some k_ ≠ (v153 : Value).ownBlock) (Kd.R_keptB (HO148.out) hkp (fun k_ hk_ hs_ => (hk_.2.2.1) hs_)) (fun k_ hk_ => ⟨hk_.1.1, hk_.1.2.1, hk_.1.2.2.2, fun e_ => Or.elim (ho0.1 k_ e_.symm) (fun hs_ => hk_.2.1 hs_) (fun hn_ => Nat.not_le.2 hk_.2.2 hn_)⟩)); have n5_ := Aside0.mk (Kd.R_mono (ok' := fun k_ => (w.heap.size ≤ k_)) (Kd.R_keptB ((Kd.R_apart' HO151.out (Kd.R_typed HO_8.out) (by decide))) hkp (fun k_ hk_ hs_ => (hk_.2) hs_)) (fun k_ hk_ => hk_.1.1.1)); have n6_ := Aside0.mk (Kd.R_mono (ok' := fun k_ => (w.heap.size ≤ k_) ∧ some k_ ≠ (u6 : Value).ownBlock ∧ some k_ ≠ (u9 : Value).ownBlock ∧ some k_ ≠ (v147 : Value).ownBlock) ho0 (fun k_ hk_ => ⟨Or.elim hk_ (fun hs_ => (HO_8.out.1 k_ (hs_).symm).1.1) (fun hn_ => (Nat.le_trans (below_size (bs HB GE141)) hn_)), Or.elim hk_ (fun hs_ => fun e_ => (((HO_6.out).1 k_ e_.symm).1.2.1) hs_) (fun hn_ => (Kd.fresh' (Kd.R_lt (rq HO_6)) k_ hn_)), Or.elim hk_ (fun hs_ => fun e_ => (((HO_9.out).1 k_ e_.symm).1.2.2) hs_) (fun hn_ => (Kd.fresh' (Kd.R_lt (rq HO_9)) k_ hn_)), Or.elim hk_ (fun hs_ => fun e_ => (((HO148.out).1 k_ e_.symm).2.2.1) hs_) (fun hn_ => (Kd.fresh' (Kd.R_lt (by (with_reducible repeat (first | apply Kd.R_alloc | apply Kd.R_drewN | apply Kd.R_drew)); exact HO148.out)) k_ hn_))⟩)); have n7_ := Aside0.mk (hb); clear HO_1; clear HO_6; clear HO_9; clear BK141; clear HO148; clear HO151; clear HB; clear HO_8; have HO_1 := n0_; have HO_6 := n1_; have HO_9 := n2_; have BK141 := n3_; have HO148 := n4_; have HO151 := n5_; have HO154 := n6_; have HB := n7_; clear n0_ n1_ n2_ n3_ n4_ n5_ n6_ n7_; (try clear hb); (try clear hkp); (try clear ho0)) | ((with_reducible refine gate_dst (N := 76) rfl ?_); (try (refine gate_guard (by rfl) ?_; dsimp only)); refine Kd.R_lit (Kd.int .i64) _ 3 ?hg (N := 76) ?hd (xs := ([(wrap64 (((rd_T46 (rd_L3 l0 x25_1) x31_2).f1) - x13_2))] : List Int)) (inner := [.int .i64 (wrap64 (((rd_T46 (rd_L3 l0 x25_1) x31_2).f1) - x13_2))]) (ok := fun _ => True) (okp := fun _ => True) ?hr ?hp (fun _ hk => hk) trivial (Below.refl _ _) (Nat.le_refl _) (by simp) ?_; (case hd => rfl); (case hg => rfl); (case hr => first | (go_simp; done) | (go_simp; rfl)); (case hp => exact (Reps.one (show Kd.M (Kd.int .i64) _ _ _ (wrap64 (((rd_T46 (rd_L3 l0 x25_1) x31_2).f1) - x13_2)) [.int .i64 (wrap64 (((rd_T46 (rd_L3 l0 x25_1) x31_2).f1) - x13_2))] from rfl) (Reps.none _ _))); intro v156 w36 ho37 hb hg_ hnew_; clear hg_ hnew_; (first | rw [← Ny155.out] at ho37 | (simp only [Int.reduceToNat] at ho37; rw [← Ny155.out] at ho37)); have n0_ := Aside0.mk (Kd.V_elder' (by (with_reducible repeat (first | apply Kd.V_alloc | apply Kd.V_drewN | apply Kd.V_drew)); exact HO_1.out) (Kd.R_base ho37) hb); have n1_ := Aside0.mk (Kd.R_below (rq HO_6) hb); have n2_ := Aside0.mk (Kd.R_below (rq HO_9) hb); have n3_ := Aside0.mk (Kd.R_below (by (with_reducible repeat (first | apply Kd.R_alloc | apply Kd.R_drewN | apply Kd.R_drew)); exact HO148.out) hb); have n4_ := Aside0.mk (Kd.R_elder' (by (with_reducible repeat (first | apply Kd.R_alloc | apply Kd.R_drewN | apply Kd.R_drew)); exact HO151.out) (Kd.R_base ho37) hb); have n5_ := Aside0.mk (Kd.R_below (by (with_reducible repeat (first | apply Kd.R_alloc | apply Kd.R_drewN | apply Kd.R_drew)); exact HO154.out) hb); have n6_ := Aside0.mk (Kd.R_lower (Kd.R_new' (Kd.R_newM (M := fun k_ => (w.heap.size ≤ k_)) ho37 (below_size (bs HB GE141)) (fun k_ h_ => h_)) (Kd.R_lt (by (with_reducible repeat (first | apply Kd.R_alloc | apply Kd.R_drewN | apply Kd.R_drew)); exact HO151.out))) (below_size (bs HB GE141))); have n7_ := Aside0.mk (blk_below (g := gb141) (o := .cells #[.int .i64 ((rd_T46 (rd_L3 l0 x25_1) x31_2).f0), .int .i64 ((rd_T46 (rd_L3 l0 x25_1) x31_2).f1), .int .i64 ((rd_T46 (rd_L3 l0 x25_1) x31_2).f2)] 46 (0, 0)) (kq BK141) hb); have n8_ := Aside0.mk (below_step (bs HB GE141) hb); clear HO_1; clear HO_6; clear HO_9; clear HO148; clear HO151; clear HO154; clear BK141; clear HB; have HO_1 := n0_; have HO_6 := n1_; have HO_9 := n2_; have HO148 := n3_; have HO151 := n4_; have HO154 := n5_; have HO157 := n6_; have BK141 := n7_; have HB := n8_; clear n0_ n1_ n2_ n3_ n4_ n5_ n6_ n7_ n8_; clear hb ho37; obtain ⟨Ao38, co38, eo38⟩ := Kd.R_slice HO_9.out; subst eo38; obtain ⟨Ao39, co39, eo39⟩ := Kd.R_slice HO157.out; subst eo39) | (go_at_call 31; (with_reducible refine (glyf_two.calls kj8 (fun k_ => some k_ = (.slice Ao38 x9_2.length co38 : Value).ownBlock) (.slice Ao38 x9_2.length co38) x9_2 _ _ y155 t158 w _ ?side1 ?side2 ?side3 ?side4 A28.out).mono ?_); (case side1 => repeat (first | (with_reducible first | exact HB.out | apply below_alloc | apply pw_below_drewN | apply below_drew1 | refine below_set ?_ GE141.out) | exact HB.out)); (case side2 => exact Kd.R_tight rfl HO_9.out); (case side3 => exact Kd.C_kept_own ((Kd.R_apart' HO157.out (Kd.R_typed HO_9.out) (by decide))) (fun k_ hk_ hs_ => (hk_.2) hs_)); (case side4 => exact (Kd.R_reads' HO157.out).2.1); rintro e w40 ⟨v159, rfl, ho0, hb, hkp⟩; have n0_ := Aside0.mk (Kd.V_mono (ok' := fun k_ => (P1_ k_ ∨ w.heap.size ≤ k_) ∧ some k_ ≠ (u6 : Value).ownBlock ∧ some k_ ≠ (v147 : Value).ownBlock ∧ some k_ ≠ (.slice Ao34 y149.length co34 : Value).ownBlock ∧ some k_ ≠ (v153 : Value).ownBlock ∧ some k_ ≠ (.slice Ao39 y155.length co39 : Value).ownBlock ∧ k_ ≠ gb141 ∧ some k_ ≠ (v159 : Value).ownBlock) (Kd.V_keptB (HO_1.out) hkp (fun k_ hk_ hs_ => (hk_.1.2.2.1) hs_)) (fun k_ hk_ => ⟨hk_.1.1.1, hk_.1.1.2.1, hk_.1.1.2.2.2.1, hk_.1.1.2.2.2.2.1, hk_.1.1.2.2.2.2.2.2, hk_.1.2, hk_.1.1.2.2.2.2.2.1, fun e_ => Or.elim (ho0.1 k_ e_.symm) (fun hs_ => hk_.2.1 hs_) (fun hn_ => Nat.not_le.2 hk_.2.2 hn_)⟩)); have n1_ := Aside0.mk (Kd.R_mono (ok' := fun k_ => (w.heap.size ≤ k_) ∧ some k_ ≠ (v147 : Value).ownBlock ∧ some k_ ≠ (v153 : Value).ownBlock ∧ some k_ ≠ (v159 : Value).ownBlock) (Kd.R_keptB (HO_6.out) hkp (fun k_ hk_ hs_ => (hk_.2.1) hs_)) (fun k_ hk_ => ⟨hk_.1.1, hk_.1.2.2.1, hk_.1.2.2.2, fun e_ => Or.elim (ho0.1 k_ e_.symm) (fun hs_ => hk_.2.1 hs_) (fun hn_ => Nat.not_le.2 hk_.2.2 hn_)⟩)); have n2_ := Aside0.mk (blk_kept (kq BK141) hkp (fun hs_ => (fun e_ => (Kd.R_ne HO_9.out BK141.out (by decide)) e_) hs_)); have n3_ := Aside0.mk (Kd.R_mono (ok' := fun k_ => (w.heap.size ≤ k_) ∧ some k_ ≠ (u6 : Value).ownBlock ∧ some k_ ≠ (v153 : Value).ownBlock ∧ some k_ ≠ (v159 : Value).ownBlock) (Kd.R_keptB (HO148.out) hkp (fun k_ hk_ hs_ => (hk_.2.2.1) hs_)) (fun k_ hk_ => ⟨hk_.1.1, hk_.1.2.1, hk_.1.2.2.2, fun e_ => Or.elim (ho0.1 k_ e_.symm) (fun hs_ => hk_.2.1 hs_) (fun hn_ => Nat.not_le.2 hk_.2.2 hn_)⟩)); have n4_ := Aside0.mk (Kd.R_mono (ok' := fun k_ => (w.heap.size ≤ k_) ∧ some k_ ≠ (.slice Ao39 y155.length co39 : Value).ownBlock) (Kd.R_keptB ((Kd.R_apart' HO151.out (Kd.R_typed HO_9.out) (by decide))) hkp (fun k_ hk_ hs_ => (hk_.2) hs_)) (fun k_ hk_ => ⟨hk_.1.1.1, hk_.1.1.2⟩)); have n5_ := Aside0.mk (Kd.R_mono (ok' := fun k_ => (w.heap.size ≤ k_) ∧ some k_ ≠ (u6 : Value).ownBlock ∧ some k_ ≠ (v147 : Value).ownBlock ∧ some k_ ≠ (v159 : Value).ownBlock) (Kd.R_keptB (HO154.out) hkp (fun k_ hk_ hs_ => (hk_.2.2.1) hs_)) (fun k_ hk_ => ⟨hk_.1.1, hk_.1.2.1, hk_.1.2.2.2, fun e_ => Or.elim (ho0.1 k_ e_.symm) (fun hs_ => hk_.2.1 hs_) (fun hn_ => Nat.not_le.2 hk_.2.2 hn_)⟩)); have n6_ := Aside0.mk (Kd.R_mono (ok' := fun k_ => (w.heap.size ≤ k_) ∧ some k_ ≠ (.slice Ao34 y149.length co34 : Value).ownBlock) (Kd.R_keptB ((Kd.R_apart' HO157.out (Kd.R_typed HO_9.out) (by decide))) hkp (fun k_ hk_ hs_ => (hk_.2) hs_)) (fun k_ hk_ => ⟨hk_.1.1.1.1, hk_.1.1.2⟩)); have n7_ := Aside0.mk (Kd.R_mono (ok' := fun k_ => (w.heap.size ≤ k_) ∧ some k_ ≠ (u6 : Value).ownBlock ∧ some k_ ≠ (v147 : Value).ownBlock ∧ some k_ ≠ (v153 : Value).ownBlock) ho0 (fun k_ hk_ => ⟨Or.elim hk_ (fun hs_ => (HO_9.out.1 k_ (hs_).symm).1) (fun hn_ => (Nat.le_trans (below_size (bs HB GE141)) hn_)), Or.elim hk_ (fun hs_ => fun e_ => (((HO_6.out).1 k_ e_.symm).2.1) hs_) (fun hn_ => (Kd.fresh' (Kd.R_lt (rq HO_6)) k_ hn_)), Or.elim hk_ (fun hs_ => fun e_ => (((HO148.out).1 k_ e_.symm).2.2.1) hs_) (fun hn_ => (Kd.fresh' (Kd.R_lt (by (with_reducible repeat (first | apply Kd.R_alloc | apply Kd.R_drewN | apply Kd.R_drew)); exact HO148.out)) k_ hn_)), Or.elim hk_ (fun hs_ => fun e_ => (((HO154.out).1 k_ e_.symm).2.2.1) hs_) (fun hn_ => (Kd.fresh' (Kd.R_lt (by (with_reducible repeat (first | apply Kd.R_alloc | apply Kd.R_drewN | apply Kd.R_drew)); exact HO154.out)) k_ hn_))⟩)); have n8_ := Aside0.mk (hb); clear HO_1; clear HO_6; clear BK141; clear HO148; clear HO151; clear HO154; clear HO157; clear HB; clear HO_9; have HO_1 := n0_; have HO_6 := n1_; have BK141 := n2_; have HO148 := n3_; have HO151 := n4_; have HO154 := n5_; have HO157 := n6_; have HO160 := n7_; have HB := n8_; clear n0_ n1_ n2_ n3_ n4_ n5_ n6_ n7_ n8_; (try clear hb); (try clear hkp); (try clear ho0); have hcz41_0 : w40.cell? ⟨gb141, 0, none⟩ = some (.int .i64 ((rd_T46 (rd_L3 l0 x25_1) x31_2).f0)) := (blk_cell BK141.out 0).trans rfl; have hcz41_1 : w40.cell? ⟨gb141, 1, none⟩ = some (.int .i64 ((rd_T46 (rd_L3 l0 x25_1) x31_2).f1)) := (blk_cell BK141.out 1).trans rfl; have hcz41_2 : w40.cell? ⟨gb141, 2, none⟩ = some (.int .i64 ((rd_T46 (rd_L3 l0 x25_1) x31_2).f2)) := (blk_cell BK141.out 2).trans rfl; have hfz41_0 := blk_frozen BK141.out 0; have hfz41_1 := blk_frozen BK141.out 1; have hfz41_2 := blk_frozen BK141.out 2)))
               go_roundg kj8
               case measure => have := HK1.out; have := HK2.out; have := HJ8.out; omega
               case rel => exact ⟨(y146), (t152), (t158), (((rd_T46 (rd_L3 l0 x25_1) x31_2).f0)), (((rd_T46 (rd_L3 l0 x25_1) x31_2).f1)), (wrap64 (x31_2 + 1)), (by first | rfl | (simp; done) | (simp [*]; done)), (by first | rfl | (simp; done) | (simp [*]; done)), (by first | rfl | (simp; done) | (simp [*]; done)), H', ⟨by have := HK1.out; have := HK2.out; have := HJ8.out; omega⟩, ⟨by (with_reducible repeat (first | apply Kd.V_alloc | apply Kd.V_drewN | apply Kd.V_drew)); exact Kd.V_mono HO_1.out (fun _ hk => ⟨hk.1, ⟨hk.2.1, ⟨hk.2.2.1, ⟨hk.2.2.2.2.1, hk.2.2.2.2.2.2.2⟩⟩⟩⟩)⟩, ⟨by (with_reducible repeat (first | apply Kd.R_alloc | apply Kd.R_drewN | apply Kd.R_drew)); exact HO_6.out⟩, ⟨by (with_reducible repeat (first | apply Kd.R_alloc | apply Kd.R_drewN | apply Kd.R_drew)); exact HO148.out⟩, ⟨by (with_reducible repeat (first | apply Kd.R_alloc | apply Kd.R_drewN | apply Kd.R_drew)); exact HO154.out⟩, ⟨by (with_reducible repeat (first | apply Kd.R_alloc | apply Kd.R_drewN | apply Kd.R_drew)); exact HO160.out⟩, ⟨bs HB GE141⟩⟩
              ·rw [if_neg c26] at H
               exact absurd H (by simp)
          ·rw [if_neg c8] at H
           exact absurd H (by simp)
         ·rw [if_neg c7] at H
          exact absurd H (by simp)
        ·rw [if_neg c6] at H
         have c6b0 : decide (x31_2 < ((rd_L3 l0 x25_1).length : Int)) = false := decide_eq_false c6
         clear c6
         by_cases c42 : ((rd_L3 l0 x25_1).length : Int) > 0
         ·rw [if_pos c42] at H
          have c42b0 : decide (0 < ((rd_L3 l0 x25_1).length : Int)) = true := decide_eq_true c42
          have c42b1 : decide (0 < (rd_L3 l0 x25_1).length) = true := decide_eq_true (by omega)
          clear c42
          obtain ⟨y134, hy134⟩ : ∃ y_ : List Int, y_ = (([wrap64 ((wrap64 (x10_1 + ((rd_L3 l0 x25_1).length : Int))) - 1)] : List Int)) := ⟨_, rfl⟩
          replace H : ((glyf_two.f k2 x6_1 y134).bind fun t137 => (glyf_Encode.l0 k2 l1 t137 x7_2 x8_2 x9_2 (wrap64 (x10_1 + ((rd_L3 l0 x25_1).length : Int))) (wrap64 (x11_1 + 1)) x12_2 x13_2 l0 (l0.length : Int) (wrap64 (x25_1 + 1)))) = some (r1, r2) := by first | (rw [hy134]; with_reducible exact H) | (have H2_ := (Option.bind_some _ _).symm.trans H; rw [hy134]; with_reducible exact H2_) | (have H2_ := (Option.bind_some _ _).symm.trans H; with_reducible exact H2_) | with_reducible exact H | (rw [hy134]; exact H) | exact H
          have Ny134 := Aside0.mk hy134
          clear hy134
          replace H := Option.bind_eq_some_iff.mp H
          obtain ⟨t137, A430, H⟩ := H
          replace H : (glyf_Encode.l0 k2 l1 t137 x7_2 x8_2 x9_2 (wrap64 (x10_1 + ((rd_L3 l0 x25_1).length : Int))) (wrap64 (x11_1 + 1)) x12_2 x13_2 l0 (l0.length : Int) (wrap64 (x25_1 + 1))) = some (r1, r2) := H
          have A43 := Aside0.mk A430
          clear A430
          have H' := Aside0.mk H
          clear H
          go_wp2_with (first | ((with_reducible refine gate_dst (N := 95) rfl ?_); (try (refine gate_guard (by rfl) ?_; dsimp only)); refine Kd.R_lit (Kd.int .i64) _ 3 ?hg (N := 95) ?hd (xs := ([wrap64 ((wrap64 (x10_1 + ((rd_L3 l0 x25_1).length : Int))) - 1)] : List Int)) (inner := [.int .i64 (wrap64 ((wrap64 (x10_1 + ((rd_L3 l0 x25_1).length : Int))) - 1))]) (ok := fun _ => True) (okp := fun _ => True) ?hr ?hp (fun _ hk => hk) trivial (Below.refl _ _) (Nat.le_refl _) (by simp) ?_; (case hd => rfl); (case hg => rfl); (case hr => first | (go_simp; done) | (go_simp; rfl)); (case hp => exact (Reps.one (show Kd.M (Kd.int .i64) _ _ _ (wrap64 ((wrap64 (x10_1 + ((rd_L3 l0 x25_1).length : Int))) - 1)) [.int .i64 (wrap64 ((wrap64 (x10_1 + ((rd_L3 l0 x25_1).length : Int))) - 1))] from rfl) (Reps.none _ _))); intro v135 w44 ho45 hb hg_ hnew_; clear hg_ hnew_; (first | rw [← Ny134.out] at ho45 | (simp only [Int.reduceToNat] at ho45; rw [← Ny134.out] at ho45)); have n0_ := Aside0.mk (Kd.V_elder' (by (with_reducible repeat (first | apply Kd.V_alloc | apply Kd.V_drewN | apply Kd.V_drew)); exact HO_1.out) (Kd.R_base ho45) hb); have n1_ := Aside0.mk (Kd.R_below (rq HO_6) hb); have n2_ := Aside0.mk (Kd.R_below (rq HO_7) hb); have n3_ := Aside0.mk (Kd.R_below (rq HO_8) hb); have n4_ := Aside0.mk (Kd.R_below (rq HO_9) hb); have n5_ := Aside0.mk (Kd.R_lower (Kd.R_newM (M := fun k_ => (w.heap.size ≤ k_)) ho45 (below_size (bq HB)) (fun k_ h_ => h_)) (below_size (bq HB))); have n6_ := Aside0.mk (below_step (bq HB) hb); clear HO_1; clear HO_6; clear HO_7; clear HO_8; clear HO_9; clear HB; have HO_1 := n0_; have HO_6 := n1_; have HO_7 := n2_; have HO_8 := n3_; have HO_9 := n4_; have HO136 := n5_; have HB := n6_; clear n0_ n1_ n2_ n3_ n4_ n5_ n6_; clear hb ho45; obtain ⟨Ao46, co46, eo46⟩ := Kd.R_slice HO_6.out; subst eo46; obtain ⟨Ao47, co47, eo47⟩ := Kd.R_slice HO136.out; subst eo47) | (go_at_call 31; (with_reducible refine (glyf_two.calls k2 (fun k_ => some k_ = (.slice Ao46 x6_1.length co46 : Value).ownBlock) (.slice Ao46 x6_1.length co46) x6_1 _ _ y134 t137 w _ ?side1 ?side2 ?side3 ?side4 A43.out).mono ?_); (case side1 => repeat (first | (with_reducible first | exact HB.out | apply below_alloc | apply pw_below_drewN | apply below_drew1) | exact HB.out)); (case side2 => exact Kd.R_tight rfl HO_6.out); (case side3 => exact Kd.C_kept_own ((Kd.R_apart' HO136.out (Kd.R_typed HO_6.out) (by decide))) (fun k_ hk_ hs_ => (hk_.2) hs_)); (case side4 => exact (Kd.R_reads' HO136.out).2.1); rintro e w48 ⟨v138, rfl, ho0, hb, hkp⟩; have n0_ := Aside0.mk (Kd.V_mono (ok' := fun k_ => (P1_ k_ ∨ w.heap.size ≤ k_) ∧ some k_ ≠ (u7 : Value).ownBlock ∧ some k_ ≠ (u8 : Value).ownBlock ∧ some k_ ≠ (u9 : Value).ownBlock ∧ some k_ ≠ (.slice Ao47 y134.length co47 : Value).ownBlock ∧ some k_ ≠ (v138 : Value).ownBlock) (Kd.V_keptB (HO_1.out) hkp (fun k_ hk_ hs_ => (hk_.1.2.1) hs_)) (fun k_ hk_ => ⟨hk_.1.1.1, hk_.1.1.2.2.1, hk_.1.1.2.2.2.1, hk_.1.1.2.2.2.2, hk_.1.2, fun e_ => Or.elim (ho0.1 k_ e_.symm) (fun hs_ => hk_.2.1 hs_) (fun hn_ => Nat.not_le.2 hk_.2.2 hn_)⟩)); have n1_ := Aside0.mk (Kd.R_mono (ok' := fun k_ => (w.heap.size ≤ k_) ∧ some k_ ≠ (u8 : Value).ownBlock ∧ some k_ ≠ (u9 : Value).ownBlock ∧ some k_ ≠ (v138 : Value).ownBlock) (Kd.R_keptB (HO_7.out) hkp (fun k_ hk_ hs_ => (hk_.2.1) hs_)) (fun k_ hk_ => ⟨hk_.1.1, hk_.1.2.2.1, hk_.1.2.2.2, fun e_ => Or.elim (ho0.1 k_ e_.symm) (fun hs_ => hk_.2.1 hs_) (fun hn_ => Nat.not_le.2 hk_.2.2 hn_)⟩)); have n2_ := Aside0.mk (Kd.R_mono (ok' := fun k_ => (w.heap.size ≤ k_) ∧ some k_ ≠ (u7 : Value).ownBlock ∧ some k_ ≠ (u9 : Value).ownBlock ∧ some k_ ≠ (v138 : Value).ownBlock) (Kd.R_keptB (HO_8.out) hkp (fun k_ hk_ hs_ => (hk_.2.1) hs_)) (fun k_ hk_ => ⟨hk_.1.1, hk_.1.2.2.1, hk_.1.2.2.2, fun e_ => Or.elim (ho0.1 k_ e_.symm) (fun hs_ => hk_.2.1 hs_) (fun hn_ => Nat.not_le.2 hk_.2.2 hn_)⟩)); have n3_ := Aside0.mk (Kd.R_mono (ok' := fun k_ => (w.heap.size ≤ k_) ∧ some k_ ≠ (u7 : Value).ownBlock ∧ some k_ ≠ (u8 : Value).ownBlock ∧ some k_ ≠ (v138 : Value).ownBlock) (Kd.R_keptB (HO_9.out) hkp (fun k_ hk_ hs_ => (hk_.2.1) hs_)) (fun k_ hk_ => ⟨hk_.1.1, hk_.1.2.2.1, hk_.1.2.2.2, fun e_ => Or.elim (ho0.1 k_ e_.symm) (fun hs_ => hk_.2.1 hs_) (fun hn_ => Nat.not_le.2 hk_.2.2 hn_)⟩)); have n4_ := Aside0.mk (Kd.R_mono (ok' := fun k_ => (w.heap.size ≤ k_)) (Kd.R_keptB ((Kd.R_apart' HO136.out (Kd.R_typed HO_6.out) (by decide))) hkp (fun k_ hk_ hs_ => (hk_.2) hs_)) (fun k_ hk_ => hk_.1.1.1)); have n5_ := Aside0.mk (Kd.R_mono (ok' := fun k_ => (w.heap.size ≤ k_) ∧ some k_ ≠ (u7 : Value).ownBlock ∧ some k_ ≠ (u8 : Value).ownBlock ∧ some k_ ≠ (u9 : Value).ownBlock) ho0 (fun k_ hk_ => ⟨Or.elim hk_ (fun hs_ => (HO_6.out.1 k_ (hs_).symm).1) (fun hn_ => (Nat.le_trans (below_size (bq HB)) hn_)), Or.elim hk_ (fun hs_ => fun e_ => (((HO_7.out).1 k_ e_.symm).2.1) hs_) (fun hn_ => (Kd.fresh' (Kd.R_lt (rq HO_7)) k_ hn_)), Or.elim hk_ (fun hs_ => fun e_ => (((HO_8.out).1 k_ e_.symm).2.1) hs_) (fun hn_ => (Kd.fresh' (Kd.R_lt (rq HO_8)) k_ hn_)), Or.elim hk_ (fun hs_ => fun e_ => (((HO_9.out).1 k_ e_.symm).2.1) hs_) (fun hn_ => (Kd.fresh' (Kd.R_lt (rq HO_9)) k_ hn_))⟩)); have n6_ := Aside0.mk (hb); clear HO_1; clear HO_7; clear HO_8; clear HO_9; clear HO136; clear HB; clear HO_6; have HO_1 := n0_; have HO_7 := n1_; have HO_8 := n2_; have HO_9 := n3_; have HO136 := n4_; have HO139 := n5_; have HB := n6_; clear n0_ n1_ n2_ n3_ n4_ n5_ n6_; (try clear hb); (try clear hkp); (try clear ho0)))
          repeat (go_quiet (first | ((with_reducible refine gate_dst (N := 95) rfl ?_); (try (refine gate_guard (by rfl) ?_; dsimp only)); refine Kd.R_lit (Kd.int .i64) _ 3 ?hg (N := 95) ?hd (xs := ([wrap64 ((wrap64 (x10_1 + ((rd_L3 l0 x25_1).length : Int))) - 1)] : List Int)) (inner := [.int .i64 (wrap64 ((wrap64 (x10_1 + ((rd_L3 l0 x25_1).length : Int))) - 1))]) (ok := fun _ => True) (okp := fun _ => True) ?hr ?hp (fun _ hk => hk) trivial (Below.refl _ _) (Nat.le_refl _) (by simp) ?_; (case hd => rfl); (case hg => rfl); (case hr => first | (go_simp; done) | (go_simp; rfl)); (case hp => exact (Reps.one (show Kd.M (Kd.int .i64) _ _ _ (wrap64 ((wrap64 (x10_1 + ((rd_L3 l0 x25_1).length : Int))) - 1)) [.int .i64 (wrap64 ((wrap64 (x10_1 + ((rd_L3 l0 x25_1).length : Int))) - 1))] from rfl) (Reps.none _ _))); intro v135 w44 ho45 hb hg_ hnew_; clear hg_ hnew_; (first | rw [← Ny134.out] at ho45 | (simp only [Int.reduceToNat] at ho45; rw [← Ny134.out] at ho45)); have n0_ := Aside0.mk (Kd.V_elder' (by (with_reducible repeat (first | apply Kd.V_alloc | apply Kd.V_drewN | apply Kd.V_drew)); exact HO_1.out) (Kd.R_base ho45) hb); have n1_ := Aside0.mk (Kd.R_below (rq HO_6) hb); have n2_ := Aside0.mk (Kd.R_below (rq HO_7) hb); have n3_ := Aside0.mk (Kd.R_below (rq HO_8) hb); have n4_ := Aside0.mk (Kd.R_below (rq HO_9) hb); have n5_ := Aside0.mk (Kd.R_lower (Kd.R_newM (M := fun k_ => (w.heap.size ≤ k_)) ho45 (below_size (bq HB)) (fun k_ h_ => h_)) (below_size (bq HB))); have n6_ := Aside0.mk (below_step (bq HB) hb); clear HO_1; clear HO_6; clear HO_7; clear HO_8; clear HO_9; clear HB; have HO_1 := n0_; have HO_6 := n1_; have HO_7 := n2_; have HO_8 := n3_; have HO_9 := n4_; have HO136 := n5_; have HB := n6_; clear n0_ n1_ n2_ n3_ n4_ n5_ n6_; clear hb ho45; obtain ⟨Ao46, co46, eo46⟩ := Kd.R_slice HO_6.out; subst eo46; obtain ⟨Ao47, co47, eo47⟩ := Kd.R_slice HO136.out; subst eo47) | (go_at_call 31; (with_reducible refine (glyf_two.calls k2 (fun k_ => some k_ = (.slice Ao46 x6_1.length co46 : Value).ownBlock) (.slice Ao46 x6_1.length co46) x6_1 _ _ y134 t137 w _ ?side1 ?side2 ?side3 ?side4 A43.out).mono ?_); (case side1 => repeat (first | (with_reducible first | exact HB.out | apply below_alloc | apply pw_below_drewN | apply below_drew1) | exact HB.out)); (case side2 => exact Kd.R_tight rfl HO_6.out); (case side3 => exact Kd.C_kept_own ((Kd.R_apart' HO136.out (Kd.R_typed HO_6.out) (by decide))) (fun k_ hk_ hs_ => (hk_.2) hs_)); (case side4 => exact (Kd.R_reads' HO136.out).2.1); rintro e w48 ⟨v138, rfl, ho0, hb, hkp⟩; have n0_ := Aside0.mk (Kd.V_mono (ok' := fun k_ => (P1_ k_ ∨ w.heap.size ≤ k_) ∧ some k_ ≠ (u7 : Value).ownBlock ∧ some k_ ≠ (u8 : Value).ownBlock ∧ some k_ ≠ (u9 : Value).ownBlock ∧ some k_ ≠ (.slice Ao47 y134.length co47 : Value).ownBlock ∧ some k_ ≠ (v138 : Value).ownBlock) (Kd.V_keptB (HO_1.out) hkp (fun k_ hk_ hs_ => (hk_.1.2.1) hs_)) (fun k_ hk_ => ⟨hk_.1.1.1, hk_.1.1.2.2.1, hk_.1.1.2.2.2.1, hk_.1.1.2.2.2.2, hk_.1.2, fun e_ => Or.elim (ho0.1 k_ e_.symm) (fun hs_ => hk_.2.1 hs_) (fun hn_ => Nat.not_le.2 hk_.2.2 hn_)⟩)); have n1_ := Aside0.mk (Kd.R_mono (ok' := fun k_ => (w.heap.size ≤ k_) ∧ some k_ ≠ (u8 : Value).ownBlock ∧ some k_ ≠ (u9 : Value).ownBlock ∧ some k_ ≠ (v138 : Value).ownBlock) (Kd.R_keptB (HO_7.out) hkp (fun k_ hk_ hs_ => (hk_.2.1) hs_)) (fun k_ hk_ => ⟨hk_.1.1, hk_.1.2.2.1, hk_.1.2.2.2, fun e_ => Or.elim (ho0.1 k_ e_.symm) (fun hs_ => hk_.2.1 hs_) (fun hn_ => Nat.not_le.2 hk_.2.2 hn_)⟩)); have n2_ := Aside0.mk (Kd.R_mono (ok' := fun k_ => (w.heap.size ≤ k_) ∧ some k_ ≠ (u7 : Value).ownBlock ∧ some k_ ≠ (u9 : Value).ownBlock ∧ some k_ ≠ (v138 : Value).ownBlock) (Kd.R_keptB (HO_8.out) hkp (fun k_ hk_ hs_ => (hk_.2.1) hs_)) (fun k_ hk_ => ⟨hk_.1.1, hk_.1.2.2.1, hk_.1.2.2.2, fun e_ => Or.elim (ho0.1 k_ e_.symm) (fun hs_ => hk_.2.1 hs_) (fun hn_ => Nat.not_le.2 hk_.2.2 hn_)⟩)); have n3_ := Aside0.mk (Kd.R_mono (ok' := fun k_ => (w.heap.size ≤ k_) ∧ some k_ ≠ (u7 : Value).ownBlock ∧ some k_ ≠ (u8 : Value).ownBlock ∧ some k_ ≠ (v138 : Value).ownBlock) (Kd.R_keptB (HO_9.out) hkp (fun k_ hk_ hs_ => (hk_.2.1) hs_)) (fun k_ hk_ => ⟨hk_.1.1, hk_.1.2.2.1, hk_.1.2.2.2, fun e_ => Or.elim (ho0.1 k_ e_.symm) (fun hs_ => hk_.2.1 hs_) (fun hn_ => Nat.not_le.2 hk_.2.2 hn_)⟩)); have n4_ := Aside0.mk (Kd.R_mono (ok' := fun k_ => (w.heap.size ≤ k_)) (Kd.R_keptB ((Kd.R_apart' HO136.out (Kd.R_typed HO_6.out) (by decide))) hkp (fun k_ hk_ hs_ => (hk_.2) hs_)) (fun k_ hk_ => hk_.1.1.1)); have n5_ := Aside0.mk (Kd.R_mono (ok' := fun k_ => (w.heap.size ≤ k_) ∧ some k_ ≠ (u7 : Value).ownBlock ∧ some k_ ≠ (u8 : Value).ownBlock ∧ some k_ ≠ (u9 : Value).ownBlock) ho0 (fun k_ hk_ => ⟨Or.elim hk_ (fun hs_ => (HO_6.out.1 k_ (hs_).symm).1) (fun hn_ => (Nat.le_trans (below_size (bq HB)) hn_)), Or.elim hk_ (fun hs_ => fun e_ => (((HO_7.out).1 k_ e_.symm).2.1) hs_) (fun hn_ => (Kd.fresh' (Kd.R_lt (rq HO_7)) k_ hn_)), Or.elim hk_ (fun hs_ => fun e_ => (((HO_8.out).1 k_ e_.symm).2.1) hs_) (fun hn_ => (Kd.fresh' (Kd.R_lt (rq HO_8)) k_ hn_)), Or.elim hk_ (fun hs_ => fun e_ => (((HO_9.out).1 k_ e_.symm).2.1) hs_) (fun hn_ => (Kd.fresh' (Kd.R_lt (rq HO_9)) k_ hn_))⟩)); have n6_ := Aside0.mk (hb); clear HO_1; clear HO_7; clear HO_8; clear HO_9; clear HO136; clear HB; clear HO_6; have HO_1 := n0_; have HO_7 := n1_; have HO_8 := n2_; have HO_9 := n3_; have HO136 := n4_; have HO139 := n5_; have HB := n6_; clear n0_ n1_ n2_ n3_ n4_ n5_ n6_; (try clear hb); (try clear hkp); (try clear ho0))); try go_wp2_with (first | ((with_reducible refine gate_dst (N := 95) rfl ?_); (try (refine gate_guard (by rfl) ?_; dsimp only)); refine Kd.R_lit (Kd.int .i64) _ 3 ?hg (N := 95) ?hd (xs := ([wrap64 ((wrap64 (x10_1 + ((rd_L3 l0 x25_1).length : Int))) - 1)] : List Int)) (inner := [.int .i64 (wrap64 ((wrap64 (x10_1 + ((rd_L3 l0 x25_1).length : Int))) - 1))]) (ok := fun _ => True) (okp := fun _ => True) ?hr ?hp (fun _ hk => hk) trivial (Below.refl _ _) (Nat.le_refl _) (by simp) ?_; (case hd => rfl); (case hg => rfl); (case hr => first | (go_simp; done) | (go_simp; rfl)); (case hp => exact (Reps.one (show Kd.M (Kd.int .i64) _ _ _ (wrap64 ((wrap64 (x10_1 + ((rd_L3 l0 x25_1).length : Int))) - 1)) [.int .i64 (wrap64 ((wrap64 (x10_1 + ((rd_L3 l0 x25_1).length : Int))) - 1))] from rfl) (Reps.none _ _))); intro v135 w44 ho45 hb hg_ hnew_; clear hg_ hnew_; (first | rw [← Ny134.out] at ho45 | (simp only [Int.reduceToNat] at ho45; rw [← Ny134.out] at ho45)); have n0_ := Aside0.mk (Kd.V_elder' (by (with_reducible repeat (first | apply Kd.V_alloc | apply Kd.V_drewN | apply Kd.V_drew)); exact HO_1.out) (Kd.R_base ho45) hb); have n1_ := Aside0.mk (Kd.R_below (rq HO_6) hb); have n2_ := Aside0.mk (Kd.R_below (rq HO_7) hb); have n3_ := Aside0.mk (Kd.R_below (rq HO_8) hb); have n4_ := Aside0.mk (Kd.R_below (rq HO_9) hb); have n5_ := Aside0.mk (Kd.R_lower (Kd.R_newM (M := fun k_ => (w.heap.size ≤ k_)) ho45 (below_size (bq HB)) (fun k_ h_ => h_)) (below_size (bq HB))); have n6_ := Aside0.mk (below_step (bq HB) hb); clear HO_1; clear HO_6; clear HO_7; clear HO_8; clear HO_9; clear HB; have HO_1 := n0_; have HO_6 := n1_; have HO_7 := n2_; have HO_8 := n3_; have HO_9 := n4_; have HO136 := n5_; have HB := n6_; clear n0_ n1_ n2_ n3_ n4_ n5_ n6_; clear hb ho45; obtain ⟨Ao46, co46, eo46⟩ := Kd.R_slice HO_6.out; subst eo46; obtain ⟨Ao47, co47, eo47⟩ := Kd.R_slice HO136.out; subst eo47) | (go_at_call 31; (with_reducible refine (glyf_two.calls k2 (fun k_ => some k_ = (.slice Ao46 x6_1.length co46 : Value).ownBlock) (.slice Ao46 x6_1.length co46) x6_1 _ _ y134 t137 w _ ?side1 ?side2 ?side3 ?side4 A43.out).mono ?_); (case side1 => repeat (first | (with_reducible first | exact HB.out | apply below_alloc | apply pw_below_drewN | apply below_drew1) | exact HB.out)); (case side2 => exact Kd.R_tight rfl HO_6.out); (case side3 => exact Kd.C_kept_own ((Kd.R_apart' HO136.out (Kd.R_typed HO_6.out) (by decide))) (fun k_ hk_ hs_ => (hk_.2) hs_)); (case side4 => exact (Kd.R_reads' HO136.out).2.1); rintro e w48 ⟨v138, rfl, ho0, hb, hkp⟩; have n0_ := Aside0.mk (Kd.V_mono (ok' := fun k_ => (P1_ k_ ∨ w.heap.size ≤ k_) ∧ some k_ ≠ (u7 : Value).ownBlock ∧ some k_ ≠ (u8 : Value).ownBlock ∧ some k_ ≠ (u9 : Value).ownBlock ∧ some k_ ≠ (.slice Ao47 y134.length co47 : Value).ownBlock ∧ some k_ ≠ (v138 : Value).ownBlock) (Kd.V_keptB (HO_1.out) hkp (fun k_ hk_ hs_ => (hk_.1.2.1) hs_)) (fun k_ hk_ => ⟨hk_.1.1.1, hk_.1.1.2.2.1, hk_.1.1.2.2.2.1, hk_.1.1.2.2.2.2, hk_.1.2, fun e_ => Or.elim (ho0.1 k_ e_.symm) (fun hs_ => hk_.2.1 hs_) (fun hn_ => Nat.not_le.2 hk_.2.2 hn_)⟩)); have n1_ := Aside0.mk (Kd.R_mono (ok' := fun k_ => (w.heap.size ≤ k_) ∧ some k_ ≠ (u8 : Value).ownBlock ∧ some k_ ≠ (u9 : Value).ownBlock ∧ some k_ ≠ (v138 : Value).ownBlock) (Kd.R_keptB (HO_7.out) hkp (fun k_ hk_ hs_ => (hk_.2.1) hs_)) (fun k_ hk_ => ⟨hk_.1.1, hk_.1.2.2.1, hk_.1.2.2.2, fun e_ => Or.elim (ho0.1 k_ e_.symm) (fun hs_ => hk_.2.1 hs_) (fun hn_ => Nat.not_le.2 hk_.2.2 hn_)⟩)); have n2_ := Aside0.mk (Kd.R_mono (ok' := fun k_ => (w.heap.size ≤ k_) ∧ some k_ ≠ (u7 : Value).ownBlock ∧ some k_ ≠ (u9 : Value).ownBlock ∧ some k_ ≠ (v138 : Value).ownBlock) (Kd.R_keptB (HO_8.out) hkp (fun k_ hk_ hs_ => (hk_.2.1) hs_)) (fun k_ hk_ => ⟨hk_.1.1, hk_.1.2.2.1, hk_.1.2.2.2, fun e_ => Or.elim (ho0.1 k_ e_.symm) (fun hs_ => hk_.2.1 hs_) (fun hn_ => Nat.not_le.2 hk_.2.2 hn_)⟩)); have n3_ := Aside0.mk (Kd.R_mono (ok' := fun k_ => (w.heap.size ≤ k_) ∧ some k_ ≠ (u7 : Value).ownBlock ∧ some k_ ≠ (u8 : Value).ownBlock ∧ some k_ ≠ (v138 : Value).ownBlock) (Kd.R_keptB (HO_9.out) hkp (fun k_ hk_ hs_ => (hk_.2.1) hs_)) (fun k_ hk_ => ⟨hk_.1.1, hk_.1.2.2.1, hk_.1.2.2.2, fun e_ => Or.elim (ho0.1 k_ e_.symm) (fun hs_ => hk_.2.1 hs_) (fun hn_ => Nat.not_le.2 hk_.2.2 hn_)⟩)); have n4_ := Aside0.mk (Kd.R_mono (ok' := fun k_ => (w.heap.size ≤ k_)) (Kd.R_keptB ((Kd.R_apart' HO136.out (Kd.R_typed HO_6.out) (by decide))) hkp (fun k_ hk_ hs_ => (hk_.2) hs_)) (fun k_ hk_ => hk_.1.1.1)); have n5_ := Aside0.mk (Kd.R_mono (ok' := fun k_ => (w.heap.size ≤ k_) ∧ some k_ ≠ (u7 : Value).ownBlock ∧ some k_ ≠ (u8 : Value).ownBlock ∧ some k_ ≠ (u9 : Value).ownBlock) ho0 (fun k_ hk_ => ⟨Or.elim hk_ (fun hs_ => (HO_6.out.1 k_ (hs_).symm).1) (fun hn_ => (Nat.le_trans (below_size (bq HB)) hn_)), Or.elim hk_ (fun hs_ => fun e_ => (((HO_7.out).1 k_ e_.symm).2.1) hs_) (fun hn_ => (Kd.fresh' (Kd.R_lt (rq HO_7)) k_ hn_)), Or.elim hk_ (fun hs_ => fun e_ => (((HO_8.out).1 k_ e_.symm).2.1) hs_) (fun hn_ => (Kd.fresh' (Kd.R_lt (rq HO_8)) k_ hn_)), Or.elim hk_ (fun hs_ => fun e_ => (((HO_9.out).1 k_ e_.symm).2.1) hs_) (fun hn_ => (Kd.fresh' (Kd.R_lt (rq HO_9)) k_ hn_))⟩)); have n6_ := Aside0.mk (hb); clear HO_1; clear HO_7; clear HO_8; clear HO_9; clear HO136; clear HB; clear HO_6; have HO_1 := n0_; have HO_7 := n1_; have HO_8 := n2_; have HO_9 := n3_; have HO136 := n4_; have HO139 := n5_; have HB := n6_; clear n0_ n1_ n2_ n3_ n4_ n5_ n6_; (try clear hb); (try clear hkp); (try clear ho0))))
          go_roundg k2
          case measure => have := HK1.out; have := HK2.out; omega
          case rel => exact ⟨(t137), (x7_2), (x8_2), (x9_2), (wrap64 (x10_1 + ((rd_L3 l0 x25_1).length : Int))), (wrap64 (x11_1 + 1)), (x12_2), (x13_2), (wrap64 (x25_1 + 1)), (by first | rfl | (simp; done) | (simp [*]; done)), (by first | rfl | (simp; done) | (simp [*]; done)), (by first | rfl | (simp; done) | (simp [*]; done)), (by first | rfl | (simp; done) | (simp [*]; done)), (by first | rfl | (simp; done) | (simp [*]; done)), H', ⟨by have := HK1.out; have := HK2.out; omega⟩, ⟨by (with_reducible repeat (first | apply Kd.V_alloc | apply Kd.V_drewN | apply Kd.V_drew)); exact Kd.V_mono HO_1.out (fun _ hk => ⟨hk.1, ⟨hk.2.2.2.2.2, ⟨hk.2.1, ⟨hk.2.2.1, hk.2.2.2.1⟩⟩⟩⟩)⟩, ⟨by (with_reducible repeat (first | apply Kd.R_alloc | apply Kd.R_drewN | apply Kd.R_drew)); exact HO139.out⟩, ⟨by (with_reducible repeat (first | apply Kd.R_alloc | apply Kd.R_drewN | apply Kd.R_drew)); exact Kd.R_mono HO_7.out (fun _ hk => ⟨hk.1, ⟨hk.2.2.2, ⟨hk.2.1, hk.2.2.1⟩⟩⟩)⟩, ⟨by (with_reducible repeat (first | apply Kd.R_alloc | apply Kd.R_drewN | apply Kd.R_drew)); exact Kd.R_mono HO_8.out (fun _ hk => ⟨hk.1, ⟨hk.2.2.2, ⟨hk.2.1, hk.2.2.1⟩⟩⟩)⟩, ⟨by (with_reducible repeat (first | apply Kd.R_alloc | apply Kd.R_drewN | apply Kd.R_drew)); exact Kd.R_mono HO_9.out (fun _ hk => ⟨hk.1, ⟨hk.2.2.2, ⟨hk.2.1, hk.2.2.1⟩⟩⟩)⟩, ⟨bq HB⟩⟩
         ·rw [if_neg c42] at H
          have c42b0 : decide (0 < ((rd_L3 l0 x25_1).length : Int)) = false := decide_eq_false c42
          have c42b1 : decide (0 < (rd_L3 l0 x25_1).length) = false := decide_eq_false (by omega)
          clear c42
          have H' := Aside0.mk H
          clear H
          go_wp2
          repeat (go_quiet (fail); try go_wp2)
          go_roundg k2
          case measure => have := HK1.out; have := HK2.out; omega
          case rel => exact ⟨(x6_1), (x7_2), (x8_2), (x9_2), (wrap64 (x10_1 + ((rd_L3 l0 x25_1).length : Int))), (x11_1), (x12_2), (x13_2), (wrap64 (x25_1 + 1)), (by first | rfl | (simp; done) | (simp [*]; done)), (by first | rfl | (simp; done) | (simp [*]; done)), (by first | rfl | (simp; done) | (simp [*]; done)), (by first | rfl | (simp; done) | (simp [*]; done)), (by first | rfl | (simp; done) | (simp [*]; done)), H', ⟨by have := HK1.out; have := HK2.out; omega⟩, ⟨by (with_reducible repeat (first | apply Kd.V_alloc | apply Kd.V_drewN | apply Kd.V_drew)); exact HO_1.out⟩, ⟨by (with_reducible repeat (first | apply Kd.R_alloc | apply Kd.R_drewN | apply Kd.R_drew)); exact HO_6.out⟩, ⟨by (with_reducible repeat (first | apply Kd.R_alloc | apply Kd.R_drewN | apply Kd.R_drew)); exact HO_7.out⟩, ⟨by (with_reducible repeat (first | apply Kd.R_alloc | apply Kd.R_drewN | apply Kd.R_drew)); exact HO_8.out⟩, ⟨by (with_reducible repeat (first | apply Kd.R_alloc | apply Kd.R_drewN | apply Kd.R_drew)); exact HO_9.out⟩, ⟨bq HB⟩⟩
     ·rw [if_neg c5] at H
      exact absurd H (by simp)
    ·rw [if_neg c4] at H
     exact absurd H (by simp)
   ·rw [if_neg c3] at H
    have c3b0 : decide (x25_1 < (l0.length : Int)) = false := decide_eq_false c3
    clear c3
    have HC49 := Aside0.mk H
    clear H
    go_upto_region 21 with (fail)
    repeat (go_quiet (fail); go_upto_region 21 with (fail))
    go_cut [108] (fun v108 wc => ∃ (kq : Nat) (x108_48 : Bool), v108 = .bool x108_48 ∧ Aside0 (glyf_Encode.j3 kq l1 x6_1 x7_1 x8_1 x9_1 x11_1 x108_48 = some (r1, r2)) ∧ Aside0 (kq ≤ k1) ∧ Aside0 (Kd.V (Kd.int .u8) 5 wc w.heap.size (fun k_ => (P1_ k_ ∨ w.heap.size ≤ k_) ∧ some k_ ≠ (u6 : Value).ownBlock ∧ some k_ ≠ (u7 : Value).ownBlock ∧ some k_ ≠ (u8 : Value).ownBlock ∧ some k_ ≠ (u9 : Value).ownBlock) (.slice A1 l1.length c1) l1) ∧ Aside0 (Kd.R (Kd.int .u8) 5 wc w.heap.size (fun k_ => (w.heap.size ≤ k_) ∧ some k_ ≠ (u7 : Value).ownBlock ∧ some k_ ≠ (u8 : Value).ownBlock ∧ some k_ ≠ (u9 : Value).ownBlock) u6 x6_1) ∧ Aside0 (Kd.R (Kd.int .u8) 5 wc w.heap.size (fun k_ => (w.heap.size ≤ k_) ∧ some k_ ≠ (u6 : Value).ownBlock ∧ some k_ ≠ (u8 : Value).ownBlock ∧ some k_ ≠ (u9 : Value).ownBlock) u7 x7_1) ∧ Aside0 (Kd.R (Kd.int .u8) 5 wc w.heap.size (fun k_ => (w.heap.size ≤ k_) ∧ some k_ ≠ (u6 : Value).ownBlock ∧ some k_ ≠ (u7 : Value).ownBlock ∧ some k_ ≠ (u9 : Value).ownBlock) u8 x8_1) ∧ Aside0 (Kd.R (Kd.int .u8) 5 wc w.heap.size (fun k_ => (w.heap.size ≤ k_) ∧ some k_ ≠ (u6 : Value).ownBlock ∧ some k_ ≠ (u7 : Value).ownBlock ∧ some k_ ≠ (u8 : Value).ownBlock) u9 x9_1) ∧ Aside0 (Below w.heap.size w wc))
    case first =>
     have H := HC49.out
     clear HC49
     by_cases c50 : x11_1 > 256
     ·rw [if_pos c50] at H
      have c50b0 : decide (256 < x11_1) = true := decide_eq_true c50
      clear c50
      (first | rw [c50b0] | (simp only [i64_w, i32_w]; rw [c50b0]) | skip)
      have H' := Aside0.mk H
      clear H
      go_wp2
      repeat (go_quiet (fail); try go_wp2)
      go_meet
      case rel => exact ⟨_, (true), (by first | rfl | (simp; done) | (simp [*]; done)), H', ⟨by have := HK1.out; first | omega | exact Nat.le_refl _⟩, ⟨by (with_reducible repeat (first | apply Kd.V_alloc | apply Kd.V_drewN | apply Kd.V_drew)); exact HO_1.out⟩, ⟨by (with_reducible repeat (first | apply Kd.R_alloc | apply Kd.R_drewN | apply Kd.R_drew)); exact HO_6.out⟩, ⟨by (with_reducible repeat (first | apply Kd.R_alloc | apply Kd.R_drewN | apply Kd.R_drew)); exact HO_7.out⟩, ⟨by (with_reducible repeat (first | apply Kd.R_alloc | apply Kd.R_drewN | apply Kd.R_drew)); exact HO_8.out⟩, ⟨by (with_reducible repeat (first | apply Kd.R_alloc | apply Kd.R_drewN | apply Kd.R_drew)); exact HO_9.out⟩, ⟨bq HB⟩⟩
     ·rw [if_neg c50] at H
      have c50b0 : decide (256 < x11_1) = false := decide_eq_false c50
      clear c50
      (first | rw [c50b0] | (simp only [i64_w, i32_w]; rw [c50b0]) | skip)
      by_cases c51 : x10_1 > 4096
      ·rw [if_pos c51] at H
       have c51b0 : decide (4096 < x10_1) = true := decide_eq_true c51
       clear c51
       have H' := Aside0.mk H
       clear H
       go_wp2
       repeat (go_quiet (fail); try go_wp2)
       go_meet
       case rel => exact ⟨_, (true), (by first | rfl | (simp; done) | (simp [*]; done)), H', ⟨by have := HK1.out; first | omega | exact Nat.le_refl _⟩, ⟨by (with_reducible repeat (first | apply Kd.V_alloc | apply Kd.V_drewN | apply Kd.V_drew)); exact HO_1.out⟩, ⟨by (with_reducible repeat (first | apply Kd.R_alloc | apply Kd.R_drewN | apply Kd.R_drew)); exact HO_6.out⟩, ⟨by (with_reducible repeat (first | apply Kd.R_alloc | apply Kd.R_drewN | apply Kd.R_drew)); exact HO_7.out⟩, ⟨by (with_reducible repeat (first | apply Kd.R_alloc | apply Kd.R_drewN | apply Kd.R_drew)); exact HO_8.out⟩, ⟨by (with_reducible repeat (first | apply Kd.R_alloc | apply Kd.R_drewN | apply Kd.R_drew)); exact HO_9.out⟩, ⟨bq HB⟩⟩
      ·rw [if_neg c51] at H
       have c51b0 : decide (4096 < x10_1) = false := decide_eq_false c51
       clear c51
       have H' := Aside0.mk H
       clear H
       go_wp2
       repeat (go_quiet (fail); try go_wp2)
       go_meet
       case rel => exact ⟨_, (decide ((l1.length : Int) > 65535)), (by first | rfl | (simp; done) | (simp [*]; done)), H', ⟨by have := HK1.out; first | omega | exact Nat.le_refl _⟩, ⟨by (with_reducible repeat (first | apply Kd.V_alloc | apply Kd.V_drewN | apply Kd.V_drew)); exact HO_1.out⟩, ⟨by (with_reducible repeat (first | apply Kd.R_alloc | apply Kd.R_drewN | apply Kd.R_drew)); exact HO_6.out⟩, ⟨by (with_reducible repeat (first | apply Kd.R_alloc | apply Kd.R_drewN | apply Kd.R_drew)); exact HO_7.out⟩, ⟨by (with_reducible repeat (first | apply Kd.R_alloc | apply Kd.R_drewN | apply Kd.R_drew)); exact HO_8.out⟩, ⟨by (with_reducible repeat (first | apply Kd.R_alloc | apply Kd.R_drewN | apply Kd.R_drew)); exact HO_9.out⟩, ⟨bq HB⟩⟩
    case rest =>
     clear HC49
     try clear c1
     try clear p1
     try clear q1
     try clear hx1
     try clear c2
     try clear p2
     try clear c3
     try clear c3b0
     try clear c4
     try clear c4b0
     try clear c5
     try clear c5b0
     try clear c6
     try clear c6b0
     try clear p6
     try clear c7
     try clear c7b0
     try clear c8
     try clear c8b0
     try clear c12
     try clear c12b0
     try clear c12b1
     try clear c13
     try clear p13
     try clear q13
     try clear hx13
     try clear c14
     try clear p14
     try clear q14
     try clear hx14
     try clear c18
     try clear c18b0
     try clear c18b1
     try clear c20
     try clear c21
     try clear c25
     try clear c26
     try clear c42
     try clear c42b0
     try clear c42b1
     try clear c50
     try clear c50b0
     try clear c51
     try clear c51b0
     try clear hcz11_0
     try clear hcz11_1
     try clear hcz11_2
     try clear hcz15_0
     try clear hcz15_1
     try clear hcz15_2
     try clear hcz17_0
     try clear hcz17_1
     try clear hcz17_2
     try clear hcz21_0
     try clear hcz21_1
     try clear hcz21_2
     try clear hcz23_0
     try clear hcz23_1
     try clear hcz23_2
     try clear hcz24_0
     try clear hcz24_1
     try clear hcz24_2
     try clear hcz29_0
     try clear hcz29_1
     try clear hcz29_2
     try clear hcz41_0
     try clear hcz41_1
     try clear hcz41_2
     try clear hfz11_0
     try clear hfz11_1
     try clear hfz11_2
     try clear hfz15_0
     try clear hfz15_1
     try clear hfz15_2
     try clear hfz17_0
     try clear hfz17_1
     try clear hfz17_2
     try clear hfz21_0
     try clear hfz21_1
     try clear hfz21_2
     try clear hfz23_0
     try clear hfz23_1
     try clear hfz23_2
     try clear hfz24_0
     try clear hfz24_1
     try clear hfz24_2
     try clear hfz29_0
     try clear hfz29_1
     try clear hfz29_2
     try clear hfz41_0
     try clear hfz41_1
     try clear hfz41_2
     try clear hx133_0
     try clear hx140_0
     try clear hx140_1
     try clear hx140_2
     try clear p1
     try clear p13
     try clear p133
     try clear p14
     try clear p140
     try clear p2
     try clear p6
     try clear q1
     try clear q13
     try clear q133
     try clear q14
     try clear q140
     obtain ⟨kq, x108_48, rfl, HA, HJ48, HO_1, HO_6, HO_7, HO_8, HO_9, HB⟩ := hcut
     cases kq with
     | zero => exact absurd HA.out (by simp [glyf_Encode.j3])
     | succ kj48 =>
      have H := HA.out
      clear HA
      simp only [glyf_Encode.j3] at H
      by_cases c52 : x108_48 = true
      ·subst c52
       have H1 : (some (([] : List Int), 73)) = some (r1, r2) := by rw [if_pos rfl] at H; exact H
       clear H
       have H := H1
       clear H1
       simp only [Option.some.injEq, Prod.mk.injEq] at H
       obtain ⟨rfl, rfl⟩ := H
       go_wp2
       repeat (go_quiet (fail); try go_wp2)
       go_ret2
       exact ⟨_, by first | rfl | (simp [errW_none, errW_some] <;> rfl) | (simp [*, errW_none, errW_some] <;> rfl), by first | exact Kd.R_nil _ _ _ _ _ | exact Kd.N_nil _ _ _ _ _ | exact Kd.V_nil _ _ _ _ _ | exact Kd.Q_nil _ _ _ _ _ | exact Kd.S_nil _ _ _ _ _, bq HB⟩
      ·replace c52 := Bool.eq_false_iff.mpr c52
       subst c52
       have H1 : ((glyf_two.f kj48 ([] : List Int) (([x11_1, 0, 0, 0, 0] : List Int))).bind fun t164 => (if t164.length + x6_1.length < 140737488355328 then ((glyf_two.f kj48 (t164 ++ x6_1) (([(l1.length : Int)] : List Int))).bind fun t173 => ((some (([l1, x7_1, x8_1, x9_1] : List (List Int)) : List (List Int))).bind fun y176 => (glyf_Encode.l2 kj48 t173 y176 (y176.length : Int) 0))) else (none))) = some (r1, r2) := by rw [if_neg (show ¬ (false = true) by decide)] at H; exact H
       clear H
       have H := H1
       clear H1
       obtain ⟨y161, hy161⟩ : ∃ y_ : List Int, y_ = (([x11_1, 0, 0, 0, 0] : List Int)) := ⟨_, rfl⟩
       replace H : ((glyf_two.f kj48 ([] : List Int) y161).bind fun t164 => (if t164.length + x6_1.length < 140737488355328 then ((glyf_two.f kj48 (t164 ++ x6_1) (([(l1.length : Int)] : List Int))).bind fun t173 => ((some (([l1, x7_1, x8_1, x9_1] : List (List Int)) : List (List Int))).bind fun y176 => (glyf_Encode.l2 kj48 t173 y176 (y176.length : Int) 0))) else (none))) = some (r1, r2) := by first | (rw [hy161]; with_reducible exact H) | (have H2_ := (Option.bind_some _ _).symm.trans H; rw [hy161]; with_reducible exact H2_) | (have H2_ := (Option.bind_some _ _).symm.trans H; with_reducible exact H2_) | with_reducible exact H | (rw [hy161]; exact H) | exact H
       have Ny161 := Aside0.mk hy161
       clear hy161
       replace H := Option.bind_eq_some_iff.mp H
       obtain ⟨t164, A530, H⟩ := H
       replace H : (if t164.length + x6_1.length < 140737488355328 then ((glyf_two.f kj48 (t164 ++ x6_1) (([(l1.length : Int)] : List Int))).bind fun t173 => ((some (([l1, x7_1, x8_1, x9_1] : List (List Int)) : List (List Int))).bind fun y176 => (glyf_Encode.l2 kj48 t173 y176 (y176.length : Int) 0))) else (none)) = some (r1, r2) := H
       have A53 := Aside0.mk A530
       clear A530
       by_cases c54 : t164.length + x6_1.length < 140737488355328
       ·rw [if_pos c54] at H
        have LMc54 := Aside0.mk c54
        clear c54
        obtain ⟨y167, hy167⟩ : ∃ y_ : List Int, y_ = (t164 ++ x6_1) := ⟨_, rfl⟩
        replace H : ((glyf_two.f kj48 y167 (([(l1.length : Int)] : List Int))).bind fun t173 => ((some (([l1, x7_1, x8_1, x9_1] : List (List Int)) : List (List Int))).bind fun y176 => (glyf_Encode.l2 kj48 t173 y176 (y176.length : Int) 0))) = some (r1, r2) := by first | (rw [hy167]; with_reducible exact H) | (have H2_ := (Option.bind_some _ _).symm.trans H; rw [hy167]; with_reducible exact H2_) | (have H2_ := (Option.bind_some _ _).symm.trans H; with_reducible exact H2_) | with_reducible exact H | (rw [hy167]; exact H) | exact H
        have Ny167 := Aside0.mk hy167
        clear hy167
        obtain ⟨y170, hy170⟩ : ∃ y_ : List Int, y_ = (([(l1.length : Int)] : List Int)) := ⟨_, rfl⟩
        replace H : ((glyf_two.f kj48 y167 y170).bind fun t173 => ((some (([l1, x7_1, x8_1, x9_1] : List (List Int)) : List (List Int))).bind fun y176 => (glyf_Encode.l2 kj48 t173 y176 (y176.length : Int) 0))) = some (r1, r2) := by first | (rw [hy170]; with_reducible exact H) | (have H2_ := (Option.bind_some _ _).symm.trans H; rw [hy170]; with_reducible exact H2_) | (have H2_ := (Option.bind_some _ _).symm.trans H; with_reducible exact H2_) | with_reducible exact H | (rw [hy170]; exact H) | exact H
        have Ny170 := Aside0.mk hy170
        clear hy170
        replace H := Option.bind_eq_some_iff.mp H
        obtain ⟨t173, A550, H⟩ := H
        replace H : ((some (([l1, x7_1, x8_1, x9_1] : List (List Int)) : List (List Int))).bind fun y176 => (glyf_Encode.l2 kj48 t173 y176 (y176.length : Int) 0)) = some (r1, r2) := H
        have A55 := Aside0.mk A550
        clear A550
        obtain ⟨y176, hy176⟩ : ∃ y_ : List (List Int), y_ = (([l1, x7_1, x8_1, x9_1] : List (List Int))) := ⟨_, rfl⟩
        replace H : (glyf_Encode.l2 kj48 t173 y176 (y176.length : Int) 0) = some (r1, r2) := by first | (rw [hy176]; with_reducible exact H) | (have H2_ := (Option.bind_some _ _).symm.trans H; rw [hy176]; with_reducible exact H2_) | (have H2_ := (Option.bind_some _ _).symm.trans H; with_reducible exact H2_) | with_reducible exact H | (rw [hy176]; exact H) | exact H
        have Ny176 := Aside0.mk hy176
        clear hy176
        have H' := Aside0.mk H
        clear H
        go_upto_region 24 with (first | ((with_reducible refine gate_dst (N := 110) rfl ?_); (try (refine gate_guard (by rfl) ?_; dsimp only)); refine Kd.R_lit (Kd.int .i64) _ 3 ?hg (N := 110) ?hd (xs := ([x11_1, 0, 0, 0, 0] : List Int)) (inner := [.int .i64 x11_1, .int .i64 0, .int .i64 0, .int .i64 0, .int .i64 0]) (ok := fun _ => True) (okp := fun _ => True) ?hr ?hp (fun _ hk => hk) trivial (Below.refl _ _) (Nat.le_refl _) (by simp) ?_; (case hd => rfl); (case hg => rfl); (case hr => first | (go_simp; done) | (go_simp; rfl)); (case hp => exact (Reps.one (show Kd.M (Kd.int .i64) _ _ _ x11_1 [.int .i64 x11_1] from rfl) (Reps.one (show Kd.M (Kd.int .i64) _ _ _ 0 [.int .i64 0] from rfl) (Reps.one (show Kd.M (Kd.int .i64) _ _ _ 0 [.int .i64 0] from rfl) (Reps.one (show Kd.M (Kd.int .i64) _ _ _ 0 [.int .i64 0] from rfl) (Reps.one (show Kd.M (Kd.int .i64) _ _ _ 0 [.int .i64 0] from rfl) (Reps.none _ _))))))); intro v162 w56 ho57 hb hg_ hnew_; clear hg_ hnew_; (first | rw [← Ny161.out] at ho57 | (simp only [Int.reduceToNat] at ho57; rw [← Ny161.out] at ho57)); have n0_ := Aside0.mk (Kd.V_elder' (by (with_reducible repeat (first | apply Kd.V_alloc | apply Kd.V_drewN | apply Kd.V_drew)); exact HO_1.out) (Kd.R_base ho57) hb); have n1_ := Aside0.mk (Kd.R_below (rq HO_6) hb); have n2_ := Aside0.mk (Kd.R_below (rq HO_7) hb); have n3_ := Aside0.mk (Kd.R_below (rq HO_8) hb); have n4_ := Aside0.mk (Kd.R_below (rq HO_9) hb); have n5_ := Aside0.mk (Kd.R_lower (Kd.R_newM (M := fun k_ => (w.heap.size ≤ k_)) ho57 (below_size (bq HB)) (fun k_ h_ => h_)) (below_size (bq HB))); have n6_ := Aside0.mk (below_step (bq HB) hb); clear HO_1; clear HO_6; clear HO_7; clear HO_8; clear HO_9; clear HB; have HO_1 := n0_; have HO_6 := n1_; have HO_7 := n2_; have HO_8 := n3_; have HO_9 := n4_; have HO163 := n5_; have HB := n6_; clear n0_ n1_ n2_ n3_ n4_ n5_ n6_; clear hb ho57; obtain ⟨Ao58, co58, eo58⟩ := Kd.R_slice HO163.out; subst eo58) | (go_at_call 31; (refine (glyf_two.calls kj48 (fun k_ => some k_ = (.slice none 0 0 : Value).ownBlock) (.slice none 0 0) ([] : List Int) _ _ y161 t164 w _ ?side1 ?side2 ?side3 ?side4 A53.out).mono ?_); (case side1 => repeat (first | (with_reducible first | exact HB.out | apply below_alloc | apply pw_below_drewN | apply below_drew1) | exact HB.out)); (case side2 => exact Kd.R_nil _ _ _ _ _); (case side3 => exact Kd.C_kept_own (HO163.out) (fun k_ hk_ hs_ => (fun e_ => by simp [Value.ownBlock] at e_) hs_)); (case side4 => exact (Kd.R_reads' HO163.out).2.1); rintro e w59 ⟨v165, rfl, ho0, hb, hkp⟩; have n0_ := Aside0.mk (Kd.V_mono (ok' := fun k_ => (P1_ k_ ∨ w.heap.size ≤ k_) ∧ some k_ ≠ (u6 : Value).ownBlock ∧ some k_ ≠ (u7 : Value).ownBlock ∧ some k_ ≠ (u8 : Value).ownBlock ∧ some k_ ≠ (u9 : Value).ownBlock ∧ some k_ ≠ (.slice Ao58 y161.length co58 : Value).ownBlock ∧ some k_ ≠ (v165 : Value).ownBlock) (Kd.V_keptB (HO_1.out) hkp (fun k_ hk_ hs_ => (fun e_ => by simp [Value.ownBlock] at e_) hs_)) (fun k_ hk_ => ⟨hk_.1.1.1, hk_.1.1.2.1, hk_.1.1.2.2.1, hk_.1.1.2.2.2.1, hk_.1.1.2.2.2.2, hk_.1.2, fun e_ => Or.elim (ho0.1 k_ e_.symm) (fun hs_ => hk_.2.1 hs_) (fun hn_ => Nat.not_le.2 hk_.2.2 hn_)⟩)); have n1_ := Aside0.mk (Kd.R_mono (ok' := fun k_ => (w.heap.size ≤ k_) ∧ some k_ ≠ (u7 : Value).ownBlock ∧ some k_ ≠ (u8 : Value).ownBlock ∧ some k_ ≠ (u9 : Value).ownBlock ∧ some k_ ≠ (v165 : Value).ownBlock) (Kd.R_keptB (HO_6.out) hkp (fun k_ hk_ hs_ => (fun e_ => by simp [Value.ownBlock] at e_) hs_)) (fun k_ hk_ => ⟨hk_.1.1, hk_.1.2.1, hk_.1.2.2.1, hk_.1.2.2.2, fun e_ => Or.elim (ho0.1 k_ e_.symm) (fun hs_ => hk_.2.1 hs_) (fun hn_ => Nat.not_le.2 hk_.2.2 hn_)⟩)); have n2_ := Aside0.mk (Kd.R_mono (ok' := fun k_ => (w.heap.size ≤ k_) ∧ some k_ ≠ (u6 : Value).ownBlock ∧ some k_ ≠ (u8 : Value).ownBlock ∧ some k_ ≠ (u9 : Value).ownBlock ∧ some k_ ≠ (v165 : Value).ownBlock) (Kd.R_keptB (HO_7.out) hkp (fun k_ hk_ hs_ => (fun e_ => by simp [Value.ownBlock] at e_) hs_)) (fun k_ hk_ => ⟨hk_.1.1, hk_.1.2.1, hk_.1.2.2.1, hk_.1.2.2.2, fun e_ => Or.elim (ho0.1 k_ e_.symm) (fun hs_ => hk_.2.1 hs_) (fun hn_ => Nat.not_le.2 hk_.2.2 hn_)⟩)); have n3_ := Aside0.mk (Kd.R_mono (ok' := fun k_ => (w.heap.size ≤ k_) ∧ some k_ ≠ (u6 : Value).ownBlock ∧ some k_ ≠ (u7 : Value).ownBlock ∧ some k_ ≠ (u9 : Value).ownBlock ∧ some k_ ≠ (v165 : Value).ownBlock) (Kd.R_keptB (HO_8.out) hkp (fun k_ hk_ hs_ => (fun e_ => by simp [Value.ownBlock] at e_) hs_)) (fun k_ hk_ => ⟨hk_.1.1, hk_.1.2.1, hk_.1.2.2.1, hk_.1.2.2.2, fun e_ => Or.elim (ho0.1 k_ e_.symm) (fun hs_ => hk_.2.1 hs_) (fun hn_ => Nat.not_le.2 hk_.2.2 hn_)⟩)); have n4_ := Aside0.mk (Kd.R_mono (ok' := fun k_ => (w.heap.size ≤ k_) ∧ some k_ ≠ (u6 : Value).ownBlock ∧ some k_ ≠ (u7 : Value).ownBlock ∧ some k_ ≠ (u8 : Value).ownBlock ∧ some k_ ≠ (v165 : Value).ownBlock) (Kd.R_keptB (HO_9.out) hkp (fun k_ hk_ hs_ => (fun e_ => by simp [Value.ownBlock] at e_) hs_)) (fun k_ hk_ => ⟨hk_.1.1, hk_.1.2.1, hk_.1.2.2.1, hk_.1.2.2.2, fun e_ => Or.elim (ho0.1 k_ e_.symm) (fun hs_ => hk_.2.1 hs_) (fun hn_ => Nat.not_le.2 hk_.2.2 hn_)⟩)); have n5_ := Aside0.mk (Kd.R_mono (ok' := fun k_ => (w.heap.size ≤ k_)) (Kd.R_keptB (HO163.out) hkp (fun k_ hk_ hs_ => (fun e_ => by simp [Value.ownBlock] at e_) hs_)) (fun k_ hk_ => hk_.1.1)); have n6_ := Aside0.mk (Kd.R_mono (ok' := fun k_ => (w.heap.size ≤ k_) ∧ some k_ ≠ (u6 : Value).ownBlock ∧ some k_ ≠ (u7 : Value).ownBlock ∧ some k_ ≠ (u8 : Value).ownBlock ∧ some k_ ≠ (u9 : Value).ownBlock) ho0 (fun k_ hk_ => ⟨Or.elim hk_ (fun hs_ => absurd hs_ (by simp [Value.ownBlock])) (fun hn_ => (Nat.le_trans (below_size (bq HB)) hn_)), Or.elim hk_ (fun hs_ => absurd hs_ (by simp [Value.ownBlock])) (fun hn_ => (Kd.fresh' (Kd.R_lt (rq HO_6)) k_ hn_)), Or.elim hk_ (fun hs_ => absurd hs_ (by simp [Value.ownBlock])) (fun hn_ => (Kd.fresh' (Kd.R_lt (rq HO_7)) k_ hn_)), Or.elim hk_ (fun hs_ => absurd hs_ (by simp [Value.ownBlock])) (fun hn_ => (Kd.fresh' (Kd.R_lt (rq HO_8)) k_ hn_)), Or.elim hk_ (fun hs_ => absurd hs_ (by simp [Value.ownBlock])) (fun hn_ => (Kd.fresh' (Kd.R_lt (rq HO_9)) k_ hn_))⟩)); have n7_ := Aside0.mk (hb); clear HO_1; clear HO_6; clear HO_7; clear HO_8; clear HO_9; clear HO163; clear HB; have HO_1 := n0_; have HO_6 := n1_; have HO_7 := n2_; have HO_8 := n3_; have HO_9 := n4_; have HO163 := n5_; have HO166 := n6_; have HB := n7_; clear n0_ n1_ n2_ n3_ n4_ n5_ n6_ n7_; (try clear hb); (try clear hkp); (try clear ho0); obtain ⟨Ao61, co61, eo61⟩ := Kd.R_slice HO_6.out; subst eo61))
        go_wp2_with (first | ((with_reducible refine gate_builtin (b := .append) (xs := #[.tmp 112, .tmp 113]) rfl ?_); (try (refine gate_guard (by rfl) ?_; dsimp only)); at_builtin; refine Kd.R_append_rows (Kd.int .u8) (w0 := w) w.heap.size rfl (.tmp 112) (.tmp 113) 23 5 (.int .u8 0) 1 rfl Try.underlying23 info5 rfl (by decide) (by omega) v165 t164 x6_1 _ _ _ (fun k_ => (w.heap.size ≤ k_) ∧ some k_ ≠ (.slice Ao61 x6_1.length co61 : Value).ownBlock ∧ some k_ ≠ (u7 : Value).ownBlock ∧ some k_ ≠ (u8 : Value).ownBlock ∧ some k_ ≠ (u9 : Value).ownBlock) (fun _ => False) rfl rfl ?aO ?aR (fun _ _ h => h) (fun _ h => h.elim) ?aF ?aB ?aS ?aL ?_; (case aR => repeat (first | exact (Kd.R_reads' HO_6.out).2.2 | (with_reducible refine Kd.C_alloc ?_ _) | (with_reducible refine Kd.C_drewN ?_ _) | (with_reducible refine Kd.C_drew ?_))); (case aB => exact (bq HB)); (case aF => exact (fun k_ hk => ⟨(Nat.le_trans (below_size (bq HB)) hk), Kd.fresh' (Kd.R_lt (rq HO_6)) k_ hk, Kd.fresh' (Kd.R_lt (rq HO_7)) k_ hk, Kd.fresh' (Kd.R_lt (rq HO_8)) k_ hk, Kd.fresh' (Kd.R_lt (rq HO_9)) k_ hk⟩)); (case aO => exact (by (with_reducible repeat (first | apply Kd.R_alloc | apply Kd.R_drewN | apply Kd.R_drew)); exact HO166.out)); (case aS => exact (below_size (bq HB))); (case aL => have := LMc54.out; omega); intro v168 w60 ho hb hg hat; rw [← Ny167.out] at ho; have n0_ := Aside0.mk (Kd.V_afterv (ok := (fun k_ => (P1_ k_ ∨ w.heap.size ≤ k_) ∧ some k_ ≠ (.slice Ao61 x6_1.length co61 : Value).ownBlock ∧ some k_ ≠ (u7 : Value).ownBlock ∧ some k_ ≠ (u8 : Value).ownBlock ∧ some k_ ≠ (u9 : Value).ownBlock ∧ some k_ ≠ (.slice Ao58 y161.length co58 : Value).ownBlock)) (by (with_reducible repeat (first | apply Kd.V_alloc | apply Kd.V_drewN | apply Kd.V_drew)); exact Kd.V_mono HO_1.out (fun _ hk => ⟨⟨hk.1, ⟨hk.2.1, ⟨hk.2.2.1, ⟨hk.2.2.2.1, ⟨hk.2.2.2.2.1, hk.2.2.2.2.2.1⟩⟩⟩⟩⟩, hk.2.2.2.2.2.2⟩)) hg hat); have n1_ := Aside0.mk (Kd.R_after (ok := (fun k_ => (w.heap.size ≤ k_) ∧ some k_ ≠ (u7 : Value).ownBlock ∧ some k_ ≠ (u8 : Value).ownBlock ∧ some k_ ≠ (u9 : Value).ownBlock)) (by (with_reducible repeat (first | apply Kd.R_alloc | apply Kd.R_drewN | apply Kd.R_drew)); exact Kd.R_mono HO_6.out (fun _ hk => ⟨⟨hk.1, ⟨hk.2.1, ⟨hk.2.2.1, hk.2.2.2.1⟩⟩⟩, hk.2.2.2.2⟩)) hg hat); have n2_ := Aside0.mk (Kd.R_after (ok := (fun k_ => (w.heap.size ≤ k_) ∧ some k_ ≠ (.slice Ao61 x6_1.length co61 : Value).ownBlock ∧ some k_ ≠ (u8 : Value).ownBlock ∧ some k_ ≠ (u9 : Value).ownBlock)) (by (with_reducible repeat (first | apply Kd.R_alloc | apply Kd.R_drewN | apply Kd.R_drew)); exact Kd.R_mono HO_7.out (fun _ hk => ⟨⟨hk.1, ⟨hk.2.1, ⟨hk.2.2.1, hk.2.2.2.1⟩⟩⟩, hk.2.2.2.2⟩)) hg hat); have n3_ := Aside0.mk (Kd.R_after (ok := (fun k_ => (w.heap.size ≤ k_) ∧ some k_ ≠ (.slice Ao61 x6_1.length co61 : Value).ownBlock ∧ some k_ ≠ (u7 : Value).ownBlock ∧ some k_ ≠ (u9 : Value).ownBlock)) (by (with_reducible repeat (first | apply Kd.R_alloc | apply Kd.R_drewN | apply Kd.R_drew)); exact Kd.R_mono HO_8.out (fun _ hk => ⟨⟨hk.1, ⟨hk.2.1, ⟨hk.2.2.1, hk.2.2.2.1⟩⟩⟩, hk.2.2.2.2⟩)) hg hat); have n4_ := Aside0.mk (Kd.R_after (ok := (fun k_ => (w.heap.size ≤ k_) ∧ some k_ ≠ (.slice Ao61 x6_1.length co61 : Value).ownBlock ∧ some k_ ≠ (u7 : Value).ownBlock ∧ some k_ ≠ (u8 : Value).ownBlock)) (by (with_reducible repeat (first | apply Kd.R_alloc | apply Kd.R_drewN | apply Kd.R_drew)); exact Kd.R_mono HO_9.out (fun _ hk => ⟨⟨hk.1, ⟨hk.2.1, ⟨hk.2.2.1, hk.2.2.2.1⟩⟩⟩, hk.2.2.2.2⟩)) hg hat); have n5_ := Aside0.mk (Kd.R_over' (by (with_reducible repeat (first | apply Kd.R_alloc | apply Kd.R_drewN | apply Kd.R_drew)); exact HO163.out) (Kd.R_typed (by (with_reducible repeat (first | apply Kd.R_alloc | apply Kd.R_drewN | apply Kd.R_drew)); exact HO166.out)) (by decide) hg); have n6_ := Aside0.mk (hb); have n7_ := Aside0.mk (ho); clear HO_1; clear HO_6; clear HO_7; clear HO_8; clear HO_9; clear HO163; clear HB; clear HO166; have HO_1 := n0_; have HO_6 := n1_; have HO_7 := n2_; have HO_8 := n3_; have HO_9 := n4_; have HO163 := n5_; have HB := n6_; have HO169 := n7_; clear n0_ n1_ n2_ n3_ n4_ n5_ n6_ n7_; clear ho hb hg hat) | ((with_reducible refine gate_dst (N := 117) rfl ?_); (try (refine gate_guard (by rfl) ?_; dsimp only)); refine Kd.R_lit (Kd.int .i64) _ 3 ?hg (N := 117) ?hd (xs := ([(l1.length : Int)] : List Int)) (inner := [.int .i64 (l1.length : Int)]) (ok := fun _ => True) (okp := fun _ => True) ?hr ?hp (fun _ hk => hk) trivial (Below.refl _ _) (Nat.le_refl _) (by simp) ?_; (case hd => rfl); (case hg => rfl); (case hr => first | (go_simp; done) | (go_simp; rfl)); (case hp => exact (Reps.one (show Kd.M (Kd.int .i64) _ _ _ (l1.length : Int) [.int .i64 (l1.length : Int)] from rfl) (Reps.none _ _))); intro v171 w62 ho63 hb hg_ hnew_; clear hg_ hnew_; (first | rw [← Ny170.out] at ho63 | (simp only [Int.reduceToNat] at ho63; rw [← Ny170.out] at ho63)); have n0_ := Aside0.mk (Kd.V_elder' (by (with_reducible repeat (first | apply Kd.V_alloc | apply Kd.V_drewN | apply Kd.V_drew)); exact HO_1.out) (Kd.R_base ho63) hb); have n1_ := Aside0.mk (Kd.R_below (rq HO_6) hb); have n2_ := Aside0.mk (Kd.R_below (rq HO_7) hb); have n3_ := Aside0.mk (Kd.R_below (rq HO_8) hb); have n4_ := Aside0.mk (Kd.R_below (rq HO_9) hb); have n5_ := Aside0.mk (Kd.R_elder' (by (with_reducible repeat (first | apply Kd.R_alloc | apply Kd.R_drewN | apply Kd.R_drew)); exact HO163.out) (Kd.R_base ho63) hb); have n6_ := Aside0.mk (Kd.R_below (by (with_reducible repeat (first | apply Kd.R_alloc | apply Kd.R_drewN | apply Kd.R_drew)); exact HO169.out) hb); have n7_ := Aside0.mk (Kd.R_lower (Kd.R_new' (Kd.R_newM (M := fun k_ => (w.heap.size ≤ k_)) ho63 (below_size (bq HB)) (fun k_ h_ => h_)) (Kd.R_lt (by (with_reducible repeat (first | apply Kd.R_alloc | apply Kd.R_drewN | apply Kd.R_drew)); exact HO163.out))) (below_size (bq HB))); have n8_ := Aside0.mk (below_step (bq HB) hb); clear HO_1; clear HO_6; clear HO_7; clear HO_8; clear HO_9; clear HO163; clear HO169; clear HB; have HO_1 := n0_; have HO_6 := n1_; have HO_7 := n2_; have HO_8 := n3_; have HO_9 := n4_; have HO163 := n5_; have HO169 := n6_; have HO172 := n7_; have HB := n8_; clear n0_ n1_ n2_ n3_ n4_ n5_ n6_ n7_ n8_; clear hb ho63; obtain ⟨Ao64, co64, eo64⟩ := Kd.R_slice HO169.out; subst eo64; obtain ⟨Ao65, co65, eo65⟩ := Kd.R_slice HO172.out; subst eo65) | (go_at_call 31; (with_reducible refine (glyf_two.calls kj48 (fun k_ => some k_ = (.slice Ao64 y167.length co64 : Value).ownBlock) (.slice Ao64 y167.length co64) y167 _ _ y170 t173 w _ ?side1 ?side2 ?side3 ?side4 A55.out).mono ?_); (case side1 => repeat (first | (with_reducible first | exact HB.out | apply below_alloc | apply pw_below_drewN | apply below_drew1) | exact HB.out)); (case side2 => exact Kd.R_tight rfl HO169.out); (case side3 => exact Kd.C_kept_own ((Kd.R_apart' HO172.out (Kd.R_typed HO169.out) (by decide))) (fun k_ hk_ hs_ => (hk_.2) hs_)); (case side4 => exact (Kd.R_reads' HO172.out).2.1); rintro e w66 ⟨v174, rfl, ho0, hb, hkp⟩; have n0_ := Aside0.mk (Kd.V_mono (ok' := fun k_ => (P1_ k_ ∨ w.heap.size ≤ k_) ∧ some k_ ≠ (.slice Ao61 x6_1.length co61 : Value).ownBlock ∧ some k_ ≠ (u7 : Value).ownBlock ∧ some k_ ≠ (u8 : Value).ownBlock ∧ some k_ ≠ (u9 : Value).ownBlock ∧ some k_ ≠ (.slice Ao58 y161.length co58 : Value).ownBlock ∧ some k_ ≠ (.slice Ao65 y170.length co65 : Value).ownBlock ∧ some k_ ≠ (v174 : Value).ownBlock) (Kd.V_keptB (HO_1.out) hkp (fun k_ hk_ hs_ => (hk_.1.2) hs_)) (fun k_ hk_ => ⟨hk_.1.1.1.1, hk_.1.1.1.2.1, hk_.1.1.1.2.2.1, hk_.1.1.1.2.2.2.1, hk_.1.1.1.2.2.2.2.1, hk_.1.1.1.2.2.2.2.2, hk_.1.2, fun e_ => Or.elim (ho0.1 k_ e_.symm) (fun hs_ => hk_.2.1 hs_) (fun hn_ => Nat.not_le.2 hk_.2.2 hn_)⟩)); have n1_ := Aside0.mk (Kd.R_mono (ok' := fun k_ => (w.heap.size ≤ k_) ∧ some k_ ≠ (u7 : Value).ownBlock ∧ some k_ ≠ (u8 : Value).ownBlock ∧ some k_ ≠ (u9 : Value).ownBlock ∧ some k_ ≠ (v174 : Value).ownBlock) (Kd.R_keptB (HO_6.out) hkp (fun k_ hk_ hs_ => (hk_.2) hs_)) (fun k_ hk_ => ⟨hk_.1.1.1, hk_.1.1.2.1, hk_.1.1.2.2.1, hk_.1.1.2.2.2, fun e_ => Or.elim (ho0.1 k_ e_.symm) (fun hs_ => hk_.2.1 hs_) (fun hn_ => Nat.not_le.2 hk_.2.2 hn_)⟩)); have n2_ := Aside0.mk (Kd.R_mono (ok' := fun k_ => (w.heap.size ≤ k_) ∧ some k_ ≠ (.slice Ao61 x6_1.length co61 : Value).ownBlock ∧ some k_ ≠ (u8 : Value).ownBlock ∧ some k_ ≠ (u9 : Value).ownBlock ∧ some k_ ≠ (v174 : Value).ownBlock) (Kd.R_keptB (HO_7.out) hkp (fun k_ hk_ hs_ => (hk_.2) hs_)) (fun k_ hk_ => ⟨hk_.1.1.1, hk_.1.1.2.1, hk_.1.1.2.2.1, hk_.1.1.2.2.2, fun e_ => Or.elim (ho0.1 k_ e_.symm) (fun hs_ => hk_.2.1 hs_) (fun hn_ => Nat.not_le.2 hk_.2.2 hn_)⟩)); have n3_ := Aside0.mk (Kd.R_mono (ok' := fun k_ => (w.heap.size ≤ k_) ∧ some k_ ≠ (.slice Ao61 x6_1.length co61 : Value).ownBlock ∧ some k_ ≠ (u7 : Value).ownBlock ∧ some k_ ≠ (u9 : Value).ownBlock ∧ some k_ ≠ (v174 : Value).ownBlock) (Kd.R_keptB (HO_8.out) hkp (fun k_ hk_ hs_ => (hk_.2) hs_)) (fun k_ hk_ => ⟨hk_.1.1.1, hk_.1.1.2.1, hk_.1.1.2.2.1, hk_.1.1.2.2.2, fun e_ => Or.elim (ho0.1 k_ e_.symm) (fun hs_ => hk_.2.1 hs_) (fun hn_ => Nat.not_le.2 hk_.2.2 hn_)⟩)); have n4_ := Aside0.mk (Kd.R_mono (ok' := fun k_ => (w.heap.size ≤ k_) ∧ some k_ ≠ (.slice Ao61 x6_1.length co61 : Value).ownBlock ∧ some k_ ≠ (u7 : Value).ownBlock ∧ some k_ ≠ (u8 : Value).ownBlock ∧ some k_ ≠ (v174 : Value).ownBlock) (Kd.R_keptB (HO_9.out) hkp (fun k_ hk_ hs_ => (hk_.2) hs_)) (fun k_ hk_ => ⟨hk_.1.1.1, hk_.1.1.2.1, hk_.1.1.2.2.1, hk_.1.1.2.2.2, fun e_ => Or.elim (ho0.1 k_ e_.symm) (fun hs_ => hk_.2.1 hs_) (fun hn_ => Nat.not_le.2 hk_.2.2 hn_)⟩)); have n5_ := Aside0.mk (Kd.R_mono (ok' := fun k_ => (w.heap.size ≤ k_) ∧ some k_ ≠ (.slice Ao65 y170.length co65 : Value).ownBlock) (Kd.R_keptB ((Kd.R_apart' HO163.out (Kd.R_typed HO169.out) (by decide))) hkp (fun k_ hk_ hs_ => (hk_.2) hs_)) (fun k_ hk_ => ⟨hk_.1.1.1, hk_.1.1.2⟩)); have n6_ := Aside0.mk (Kd.R_mono (ok' := fun k_ => (w.heap.size ≤ k_) ∧ some k_ ≠ (.slice Ao58 y161.length co58 : Value).ownBlock) (Kd.R_keptB ((Kd.R_apart' HO172.out (Kd.R_typed HO169.out) (by decide))) hkp (fun k_ hk_ hs_ => (hk_.2) hs_)) (fun k_ hk_ => ⟨hk_.1.1.1.1, hk_.1.1.2⟩)); have n7_ := Aside0.mk (Kd.R_mono (ok' := fun k_ => (w.heap.size ≤ k_) ∧ some k_ ≠ (.slice Ao61 x6_1.length co61 : Value).ownBlock ∧ some k_ ≠ (u7 : Value).ownBlock ∧ some k_ ≠ (u8 : Value).ownBlock ∧ some k_ ≠ (u9 : Value).ownBlock) ho0 (fun k_ hk_ => ⟨Or.elim hk_ (fun hs_ => (HO169.out.1 k_ (hs_).symm).1) (fun hn_ => (Nat.le_trans (below_size (bq HB)) hn_)), Or.elim hk_ (fun hs_ => fun e_ => (((HO_6.out).1 k_ e_.symm).2) hs_) (fun hn_ => (Kd.fresh' (Kd.R_lt (rq HO_6)) k_ hn_)), Or.elim hk_ (fun hs_ => fun e_ => (((HO_7.out).1 k_ e_.symm).2) hs_) (fun hn_ => (Kd.fresh' (Kd.R_lt (rq HO_7)) k_ hn_)), Or.elim hk_ (fun hs_ => fun e_ => (((HO_8.out).1 k_ e_.symm).2) hs_) (fun hn_ => (Kd.fresh' (Kd.R_lt (rq HO_8)) k_ hn_)), Or.elim hk_ (fun hs_ => fun e_ => (((HO_9.out).1 k_ e_.symm).2) hs_) (fun hn_ => (Kd.fresh' (Kd.R_lt (rq HO_9)) k_ hn_))⟩)); have n8_ := Aside0.mk (hb); clear HO_1; clear HO_6; clear HO_7; clear HO_8; clear HO_9; clear HO163; clear HO172; clear HB; clear HO169; have HO_1 := n0_; have HO_6 := n1_; have HO_7 := n2_; have HO_8 := n3_; have HO_9 := n4_; have HO163 := n5_; have HO172 := n6_; have HO175 := n7_; have HB := n8_; clear n0_ n1_ n2_ n3_ n4_ n5_ n6_ n7_ n8_; (try clear hb); (try clear hkp); (try clear ho0); obtain ⟨Ao67, co67, eo67⟩ := Kd.R_slice HO_7.out; subst eo67; obtain ⟨Ao68, co68, eo68⟩ := Kd.R_slice HO_8.out; subst eo68; obtain ⟨Ao69, co69, eo69⟩ := Kd.R_slice HO_9.out; subst eo69) | ((with_reducible refine gate_dst (N := 123) rfl ?_); (try (refine gate_guard (by rfl) ?_; dsimp only)); refine Kd.N_lit (Kd.slice 5 (Kd.int .u8)) _ 23 ?hg (N' := 123) ?hd (xs := ([l1, x7_1, x8_1, x9_1] : List (List Int))) (inner := [.slice A1 l1.length c1, .slice Ao67 x7_1.length co67, .slice Ao68 x8_1.length co68, .slice Ao69 x9_1.length co69]) (ok := (fun k_ => (P1_ k_ ∨ w.heap.size ≤ k_) ∧ some k_ ≠ (.slice Ao61 x6_1.length co61 : Value).ownBlock ∧ some k_ ≠ (.slice Ao58 y161.length co58 : Value).ownBlock ∧ some k_ ≠ (.slice Ao65 y170.length co65 : Value).ownBlock ∧ some k_ ≠ (v174 : Value).ownBlock)) (okp := (fun k_ => (P1_ k_ ∨ w.heap.size ≤ k_) ∧ some k_ ≠ (.slice Ao61 x6_1.length co61 : Value).ownBlock ∧ some k_ ≠ (.slice Ao58 y161.length co58 : Value).ownBlock ∧ some k_ ≠ (.slice Ao65 y170.length co65 : Value).ownBlock ∧ some k_ ≠ (v174 : Value).ownBlock)) ?hr ?hp (fun _ hk => hk) ((show ∀ k_, w66.heap.size ≤ k_ → (fun k_ => (P1_ k_ ∨ w.heap.size ≤ k_) ∧ some k_ ≠ (.slice Ao61 x6_1.length co61 : Value).ownBlock ∧ some k_ ≠ (.slice Ao58 y161.length co58 : Value).ownBlock ∧ some k_ ≠ (.slice Ao65 y170.length co65 : Value).ownBlock ∧ some k_ ≠ (v174 : Value).ownBlock) k_ from fun k_ hk => ⟨(.inr (Nat.le_trans (below_size (bq HB)) hk)), Kd.fresh' (Kd.R_lt (rq HO_6)) k_ hk, Kd.fresh' (Kd.R_lt (by (with_reducible repeat (first | apply Kd.R_alloc | apply Kd.R_drewN | apply Kd.R_drew)); exact HO163.out)) k_ hk, Kd.fresh' (Kd.R_lt (by (with_reducible repeat (first | apply Kd.R_alloc | apply Kd.R_drewN | apply Kd.R_drew)); exact HO172.out)) k_ hk, Kd.fresh' (Kd.R_lt (by (with_reducible repeat (first | apply Kd.R_alloc | apply Kd.R_drewN | apply Kd.R_drew)); exact HO175.out)) k_ hk⟩) _ (Nat.le_refl _)) (Below.refl _ _) (Nat.le_refl _) (by simp) ?_; (case hd => rfl); (case hg => rfl); (case hr => first | (go_simp; done) | (go_simp; rfl)); (case hp => exact (Reps.one (show Kd.FK (Kd.slice 5 (Kd.int .u8)) _ _ l1 [.slice A1 l1.length c1] from (Kd.FK_slice_mk (Kd.V_reads' (Kd.V_mono (ok' := (fun k_ => (P1_ k_ ∨ w.heap.size ≤ k_) ∧ some k_ ≠ (.slice Ao61 x6_1.length co61 : Value).ownBlock ∧ some k_ ≠ (.slice Ao58 y161.length co58 : Value).ownBlock ∧ some k_ ≠ (.slice Ao65 y170.length co65 : Value).ownBlock ∧ some k_ ≠ (v174 : Value).ownBlock)) (HO_1.out) (fun k_ hk => ⟨hk.1, ⟨hk.2.1, ⟨hk.2.2.2.2.2.1, ⟨hk.2.2.2.2.2.2.1, hk.2.2.2.2.2.2.2⟩⟩⟩⟩))).2.1 (Kd.V_F (Kd.V_mono (ok' := (fun k_ => (P1_ k_ ∨ w.heap.size ≤ k_) ∧ some k_ ≠ (.slice Ao61 x6_1.length co61 : Value).ownBlock ∧ some k_ ≠ (.slice Ao58 y161.length co58 : Value).ownBlock ∧ some k_ ≠ (.slice Ao65 y170.length co65 : Value).ownBlock ∧ some k_ ≠ (v174 : Value).ownBlock)) (HO_1.out) (fun k_ hk => ⟨hk.1, ⟨hk.2.1, ⟨hk.2.2.2.2.2.1, ⟨hk.2.2.2.2.2.2.1, hk.2.2.2.2.2.2.2⟩⟩⟩⟩))))) (Reps.one (show Kd.FK (Kd.slice 5 (Kd.int .u8)) _ _ x7_1 [.slice Ao67 x7_1.length co67] from (Kd.FK_slice_mk (Kd.R_reads' (Kd.R_mono (ok' := (fun k_ => (P1_ k_ ∨ w.heap.size ≤ k_) ∧ some k_ ≠ (.slice Ao61 x6_1.length co61 : Value).ownBlock ∧ some k_ ≠ (.slice Ao58 y161.length co58 : Value).ownBlock ∧ some k_ ≠ (.slice Ao65 y170.length co65 : Value).ownBlock ∧ some k_ ≠ (v174 : Value).ownBlock)) (Kd.R_apart' (Kd.R_apart' (HO_7.out) (Kd.R_typed HO163.out) (by decide)) (Kd.R_typed HO172.out) (by decide)) (fun k_ hk => ⟨(.inr (hk.1.1.1)), ⟨hk.1.1.2.1, ⟨hk.1.2, ⟨hk.2, hk.1.1.2.2.2.2⟩⟩⟩⟩))).2.1 (Kd.R_F (Kd.R_mono (ok' := (fun k_ => (P1_ k_ ∨ w.heap.size ≤ k_) ∧ some k_ ≠ (.slice Ao61 x6_1.length co61 : Value).ownBlock ∧ some k_ ≠ (.slice Ao58 y161.length co58 : Value).ownBlock ∧ some k_ ≠ (.slice Ao65 y170.length co65 : Value).ownBlock ∧ some k_ ≠ (v174 : Value).ownBlock)) (Kd.R_apart' (Kd.R_apart' (HO_7.out) (Kd.R_typed HO163.out) (by decide)) (Kd.R_typed HO172.out) (by decide)) (fun k_ hk => ⟨(.inr (hk.1.1.1)), ⟨hk.1.1.2.1, ⟨hk.1.2, ⟨hk.2, hk.1.1.2.2.2.2⟩⟩⟩⟩))))) (Reps.one (show Kd.FK (Kd.slice 5 (Kd.int .u8)) _ _ x8_1 [.slice Ao68 x8_1.length co68] from (Kd.FK_slice_mk (Kd.R_reads' (Kd.R_mono (ok' := (fun k_ => (P1_ k_ ∨ w.heap.size ≤ k_) ∧ some k_ ≠ (.slice Ao61 x6_1.length co61 : Value).ownBlock ∧ some k_ ≠ (.slice Ao58 y161.length co58 : Value).ownBlock ∧ some k_ ≠ (.slice Ao65 y170.length co65 : Value).ownBlock ∧ some k_ ≠ (v174 : Value).ownBlock)) (Kd.R_apart' (Kd.R_apart' (HO_8.out) (Kd.R_typed HO163.out) (by decide)) (Kd.R_typed HO172.out) (by decide)) (fun k_ hk => ⟨(.inr (hk.1.1.1)), ⟨hk.1.1.2.1, ⟨hk.1.2, ⟨hk.2, hk.1.1.2.2.2.2⟩⟩⟩⟩))).2.1 (Kd.R_F (Kd.R_mono (ok' := (fun k_ => (P1_ k_ ∨ w.heap.size ≤ k_) ∧ some k_ ≠ (.slice Ao61 x6_1.length co61 : Value).ownBlock ∧ some k_ ≠ (.slice Ao58 y161.length co58 : Value).ownBlock ∧ some k_ ≠ (.slice Ao65 y170.length co65 : Value).ownBlock ∧ some k_ ≠ (v174 : Value).ownBlock)) (Kd.R_apart' (Kd.R_apart' (HO_8.out) (Kd.R_typed HO163.out) (by decide)) (Kd.R_typed HO172.out) (by decide)) (fun k_ hk => ⟨(.inr (hk.1.1.1)), ⟨hk.1.1.2.1, ⟨hk.1.2, ⟨hk.2, hk.1.1.2.2.2.2⟩⟩⟩⟩))))) (Reps.one (show Kd.FK (Kd.slice 5 (Kd.int .u8)) _ _ x9_1 [.slice Ao69 x9_1.length co69] from (Kd.FK_slice_mk (Kd.R_reads' (Kd.R_mono (ok' := (fun k_ => (P1_ k_ ∨ w.heap.size ≤ k_) ∧ some k_ ≠ (.slice Ao61 x6_1.length co61 : Value).ownBlock ∧ some k_ ≠ (.slice Ao58 y161.length co58 : Value).ownBlock ∧ some k_ ≠ (.slice Ao65 y170.length co65 : Value).ownBlock ∧ some k_ ≠ (v174 : Value).ownBlock)) (Kd.R_apart' (Kd.R_apart' (HO_9.out) (Kd.R_typed HO163.out) (by decide)) (Kd.R_typed HO172.out) (by decide)) (fun k_ hk => ⟨(.inr (hk.1.1.1)), ⟨hk.1.1.2.1, ⟨hk.1.2, ⟨hk.2, hk.1.1.2.2.2.2⟩⟩⟩⟩))).2.1 (Kd.R_F (Kd.R_mono (ok' := (fun k_ => (P1_ k_ ∨ w.heap.size ≤ k_) ∧ some k_ ≠ (.slice Ao61 x6_1.length co61 : Value).ownBlock ∧ some k_ ≠ (.slice Ao58 y161.length co58 : Value).ownBlock ∧ some k_ ≠ (.slice Ao65 y170.length co65 : Value).ownBlock ∧ some k_ ≠ (v174 : Value).ownBlock)) (Kd.R_apart' (Kd.R_apart' (HO_9.out) (Kd.R_typed HO163.out) (by decide)) (Kd.R_typed HO172.out) (by decide)) (fun k_ hk => ⟨(.inr (hk.1.1.1)), ⟨hk.1.1.2.1, ⟨hk.1.2, ⟨hk.2, hk.1.1.2.2.2.2⟩⟩⟩⟩))))) (Reps.none _ _)))))); intro v177 w70 ho71 hb hg_ hnew_; clear hg_ hnew_; (first | rw [← Ny176.out] at ho71 | (simp only [Int.reduceToNat] at ho71; rw [← Ny176.out] at ho71)); have n0_ := Aside0.mk (Kd.V_elder' (by (with_reducible repeat (first | apply Kd.V_alloc | apply Kd.V_drewN | apply Kd.V_drew)); exact HO_1.out) (Kd.N_base ho71) hb); have n1_ := Aside0.mk (Kd.R_below (rq HO_6) hb); have n2_ := Aside0.mk (Kd.R_below (by (with_reducible repeat (first | apply Kd.R_alloc | apply Kd.R_drewN | apply Kd.R_drew)); exact HO163.out) hb); have n3_ := Aside0.mk (Kd.R_below (by (with_reducible repeat (first | apply Kd.R_alloc | apply Kd.R_drewN | apply Kd.R_drew)); exact HO172.out) hb); have n4_ := Aside0.mk (Kd.R_below (by (with_reducible repeat (first | apply Kd.R_alloc | apply Kd.R_drewN | apply Kd.R_drew)); exact HO175.out) hb); have n5_ := Aside0.mk (Kd.N_lower ho71 (below_size (bq HB))); have n6_ := Aside0.mk (below_step (bq HB) hb); clear HO_1; clear HO_6; clear HO163; clear HO172; clear HO175; clear HB; clear HO_7; clear HO_8; clear HO_9; have HO_1 := n0_; have HO_6 := n1_; have HO163 := n2_; have HO172 := n3_; have HO175 := n4_; have HO178 := n5_; have HB := n6_; clear n0_ n1_ n2_ n3_ n4_ n5_ n6_; clear hb ho71; obtain ⟨Ao72, co72, eo72⟩ := Kd.N_slice HO178.out; subst eo72))
        go_loopg [20, 125] kj48 (fun kq v20 v125 w' => ∃ (x20_3 : List Int) (x125_3 : Int), v125 = .int .i64 x125_3 ∧ Aside0 (glyf_Encode.l2 kq x20_3 y176 (y176.length : Int) x125_3 = some (r1, r2)) ∧ Aside0 (kq ≤ kj48) ∧ Aside0 (Kd.R (Kd.int .u8) 5 w' w.heap.size (fun k_ => (w.heap.size ≤ k_)) v20 x20_3) ∧ Aside0 (Kd.N (Kd.slice 5 (Kd.int .u8)) 23 w' w.heap.size (fun k_ => (P1_ k_ ∨ w.heap.size ≤ k_) ∧ some k_ ≠ (v20 : Value).ownBlock) (.slice Ao72 y176.length co72) y176) ∧ Aside0 (Below w.heap.size w w'))
        case atStart => exact ⟨(t173), (0), (by first | rfl | (simp; done) | (simp [*]; done)), H', ⟨Nat.le_refl _⟩, ⟨by (with_reducible repeat (first | apply Kd.R_alloc | apply Kd.R_drewN | apply Kd.R_drew)); exact Kd.R_mono HO175.out (fun _ hk => hk.1)⟩, ⟨by (with_reducible repeat (first | apply Kd.N_alloc | apply Kd.N_drewN | apply Kd.N_drew)); exact Kd.N_mono HO178.out (fun _ hk => ⟨hk.1, hk.2.2.2.2⟩)⟩, ⟨bq HB⟩⟩
        case round =>
         clear H'
         try clear c1
         try clear p1
         try clear q1
         try clear hx1
         try clear c2
         try clear p2
         try clear c3
         try clear c3b0
         try clear c4
         try clear c4b0
         try clear c5
         try clear c5b0
         try clear c6
         try clear c6b0
         try clear p6
         try clear c7
         try clear c7b0
         try clear c8
         try clear c8b0
         try clear c12
         try clear c12b0
         try clear c12b1
         try clear c13
         try clear p13
         try clear q13
         try clear hx13
         try clear c14
         try clear p14
         try clear q14
         try clear hx14
         try clear c18
         try clear c18b0
         try clear c18b1
         try clear c20
         try clear c21
         try clear c25
         try clear c26
         try clear c42
         try clear c42b0
         try clear c42b1
         try clear c50
         try clear c50b0
         try clear c51
         try clear c51b0
         try clear c52
         try clear c54
         try clear p64
         try clear hcz11_0
         try clear hcz11_1
         try clear hcz11_2
         try clear hcz15_0
         try clear hcz15_1
         try clear hcz15_2
         try clear hcz17_0
         try clear hcz17_1
         try clear hcz17_2
         try clear hcz21_0
         try clear hcz21_1
         try clear hcz21_2
         try clear hcz23_0
         try clear hcz23_1
         try clear hcz23_2
         try clear hcz24_0
         try clear hcz24_1
         try clear hcz24_2
         try clear hcz29_0
         try clear hcz29_1
         try clear hcz29_2
         try clear hcz41_0
         try clear hcz41_1
         try clear hcz41_2
         try clear hfz11_0
         try clear hfz11_1
         try clear hfz11_2
         try clear hfz15_0
         try clear hfz15_1
         try clear hfz15_2
         try clear hfz17_0
         try clear hfz17_1
         try clear hfz17_2
         try clear hfz21_0
         try clear hfz21_1
         try clear hfz21_2
         try clear hfz23_0
         try clear hfz23_1
         try clear hfz23_2
         try clear hfz24_0
         try clear hfz24_1
         try clear hfz24_2
         try clear hfz29_0
         try clear hfz29_1
         try clear hfz29_2
         try clear hfz41_0
         try clear hfz41_1
         try clear hfz41_2
         try clear hx133_0
         try clear hx140_0
         try clear hx140_1
         try clear hx140_2
         try clear p1
         try clear p13
         try clear p133
         try clear p14
         try clear p140
         try clear p2
         try clear p6
         try clear q1
         try clear q13
         try clear q133
         try clear q14
         try clear q140
         obtain ⟨x20_3, x125_3, rfl, HA, HK3, HO_20, HO_123, HB⟩ := hrel
         cases gk with
         | zero => exact absurd HA.out (by simp [glyf_Encode.l2])
         | succ k3 =>
          have H := HA.out
          clear HA
          simp only [glyf_Encode.l2] at H
          by_cases c73 : x125_3 < (y176.length : Int)
          ·rw [if_pos c73] at H
           have c73b0 : decide (x125_3 < (y176.length : Int)) = true := decide_eq_true c73
           clear c73
           by_cases c74 : 0 ≤ x125_3
           ·rw [if_pos c74] at H
            have c74b0 : decide (0 ≤ x125_3) = true := decide_eq_true c74
            clear c74
            by_cases c75 : x125_3 < (y176.length : Int)
            ·rw [if_pos c75] at H
             have c75b0 : decide (x125_3 < (y176.length : Int)) = true := decide_eq_true c75
             clear c75
             by_cases c76 : x20_3.length + (rd_L4 y176 x125_3).length < 140737488355328
             ·rw [if_pos c76] at H
              have LMc76 := Aside0.mk c76
              clear c76
              obtain ⟨y180, hy180⟩ : ∃ y_ : List Int, y_ = (x20_3 ++ (rd_L4 y176 x125_3)) := ⟨_, rfl⟩
              replace H : (glyf_Encode.l2 k3 y180 y176 (y176.length : Int) (wrap64 (x125_3 + 1))) = some (r1, r2) := by first | (rw [hy180]; with_reducible exact H) | (have H2_ := (Option.bind_some _ _).symm.trans H; rw [hy180]; with_reducible exact H2_) | (have H2_ := (Option.bind_some _ _).symm.trans H; with_reducible exact H2_) | with_reducible exact H | (rw [hy180]; exact H) | exact H
              have Ny180 := Aside0.mk hy180
              clear hy180
              have H' := Aside0.mk H
              clear H
              have p179 : 0 ≤ (x125_3 : Int) := odt
              have q179 : x125_3 < (y176.length : Int) := odt
              obtain ⟨ad179, A179_0, c179_0, e179, hx179_0, hl179_0, hi179_0⟩ := at_L4 (Kd.N_reads' HO_123.out).2.2 x125_3 p179 q179
              cases e179
              obtain ⟨ce179, hce179, hMe179, hcc179⟩ := Kd.N_get HO_123.out [] x125_3 p179 (by first | exact q179 | exact odt | (have e_ := (Kd.N_reads' HO_123.out).1; omega))
              obtain ⟨ua179_0, uc179_0, rfl, ul179_0, ge179_0⟩ := Kd.FK_slice_open hMe179
              have hv179_0 := hcc179 0 _ rfl
              rw [Nat.add_zero, show ((Kd.slice 5 (Kd.int .u8))).sz = 1 from rfl, Nat.mul_one] at hv179_0
              replace hv179_0 := Option.some.inj (hv179_0.symm.trans hx179_0)
              injection hv179_0 with hva_ hvn_ hvc_
              rw [hva_] at ge179_0
              rw [hvc_] at ul179_0
              have HL179_0 := Aside0.mk (show Kd.V (Kd.int .u8) 5 _ w.heap.size _ _ (rd_L4 y176 x125_3) from Kd.V_mk ul179_0 ge179_0)
              clear hva_ hvn_ hvc_ ge179_0 ul179_0
              clear hcc179 hce179
              have HR179_0 := Aside0.mk hi179_0
              have HC179_0 := Aside0.mk hl179_0
              clear hi179_0 hl179_0
              replace p179 := eq_true p179
              replace q179 := eq_true q179
              go_wp2_with (first | ((with_reducible refine gate_builtin (b := .append) (xs := #[.tmp 129, .tmp 130]) rfl ?_); (try (refine gate_guard (by rfl) ?_; dsimp only)); at_builtin; refine Kd.R_append_rows (Kd.int .u8) (w0 := w) w.heap.size rfl (.tmp 129) (.tmp 130) 23 5 (.int .u8 0) 1 rfl Try.underlying23 info5 rfl (by decide) (by omega) u20 x20_3 (rd_L4 y176 x125_3) _ _ _ (fun k_ => (w.heap.size ≤ k_)) (fun _ => False) rfl rfl ?aO ?aR (fun _ _ h => h) (fun _ h => h.elim) ?aF ?aB ?aS ?aL ?_; (case aR => repeat (first | exact (by repeat (first | (with_reducible exact HR179_0.out) | (with_reducible refine Kd.C_alloc ?_ _) | (with_reducible refine Kd.C_drewN ?_ _) | (with_reducible refine Kd.C_drew ?_) | exact HR179_0.out)) | (with_reducible refine Kd.C_alloc ?_ _) | (with_reducible refine Kd.C_drewN ?_ _) | (with_reducible refine Kd.C_drew ?_))); (case aB => exact (bq HB)); (case aF => exact (fun k_ hk => (Nat.le_trans (below_size (bq HB)) hk))); (case aO => exact (rq HO_20)); (case aS => exact (below_size (bq HB))); (case aL => have := LMc76.out; omega); intro v181 w77 ho hb hg hat; rw [← Ny180.out] at ho; have n0_ := Aside0.mk (Kd.N_afterv (ok := (fun k_ => (P1_ k_ ∨ w.heap.size ≤ k_))) (by (with_reducible repeat (first | apply Kd.N_alloc | apply Kd.N_drewN | apply Kd.N_drew)); exact HO_123.out) hg hat); have n1_ := Aside0.mk (Kd.V_afterv (ok := (fun k_ => (P1_ k_ ∨ w.heap.size ≤ k_) ∧ some k_ ≠ (.slice (some ad179) y176.length co72 : Value).ownBlock)) (by (with_reducible repeat (first | apply Kd.V_alloc | apply Kd.V_drewN | apply Kd.V_drew)); exact Kd.V_mono HL179_0.out (fun _ hk => ⟨⟨hk.1.1, hk.2⟩, hk.1.2⟩)) hg hat); have n2_ := Aside0.mk (hb); have n3_ := Aside0.mk (ho); clear HO_123; clear HL179_0; clear HB; clear HO_20; have HO_123 := n0_; have HL179_0 := n1_; have HB := n2_; have HO182 := n3_; clear n0_ n1_ n2_ n3_; clear ho hb hg hat))
              repeat (go_quiet (first | ((with_reducible refine gate_builtin (b := .append) (xs := #[.tmp 129, .tmp 130]) rfl ?_); (try (refine gate_guard (by rfl) ?_; dsimp only)); at_builtin; refine Kd.R_append_rows (Kd.int .u8) (w0 := w) w.heap.size rfl (.tmp 129) (.tmp 130) 23 5 (.int .u8 0) 1 rfl Try.underlying23 info5 rfl (by decide) (by omega) u20 x20_3 (rd_L4 y176 x125_3) _ _ _ (fun k_ => (w.heap.size ≤ k_)) (fun _ => False) rfl rfl ?aO ?aR (fun _ _ h => h) (fun _ h => h.elim) ?aF ?aB ?aS ?aL ?_; (case aR => repeat (first | exact (by repeat (first | (with_reducible exact HR179_0.out) | (with_reducible refine Kd.C_alloc ?_ _) | (with_reducible refine Kd.C_drewN ?_ _) | (with_reducible refine Kd.C_drew ?_) | exact HR179_0.out)) | (with_reducible refine Kd.C_alloc ?_ _) | (with_reducible refine Kd.C_drewN ?_ _) | (with_reducible refine Kd.C_drew ?_))); (case aB => exact (bq HB)); (case aF => exact (fun k_ hk => (Nat.le_trans (below_size (bq HB)) hk))); (case aO => exact (rq HO_20)); (case aS => exact (below_size (bq HB))); (case aL => have := LMc76.out; omega); intro v181 w77 ho hb hg hat; rw [← Ny180.out] at ho; have n0_ := Aside0.mk (Kd.N_afterv (ok := (fun k_ => (P1_ k_ ∨ w.heap.size ≤ k_))) (by (with_reducible repeat (first | apply Kd.N_alloc | apply Kd.N_drewN | apply Kd.N_drew)); exact HO_123.out) hg hat); have n1_ := Aside0.mk (Kd.V_afterv (ok := (fun k_ => (P1_ k_ ∨ w.heap.size ≤ k_) ∧ some k_ ≠ (.slice (some ad179) y176.length co72 : Value).ownBlock)) (by (with_reducible repeat (first | apply Kd.V_alloc | apply Kd.V_drewN | apply Kd.V_drew)); exact Kd.V_mono HL179_0.out (fun _ hk => ⟨⟨hk.1.1, hk.2⟩, hk.1.2⟩)) hg hat); have n2_ := Aside0.mk (hb); have n3_ := Aside0.mk (ho); clear HO_123; clear HL179_0; clear HB; clear HO_20; have HO_123 := n0_; have HL179_0 := n1_; have HB := n2_; have HO182 := n3_; clear n0_ n1_ n2_ n3_; clear ho hb hg hat)); try go_wp2_with (first | ((with_reducible refine gate_builtin (b := .append) (xs := #[.tmp 129, .tmp 130]) rfl ?_); (try (refine gate_guard (by rfl) ?_; dsimp only)); at_builtin; refine Kd.R_append_rows (Kd.int .u8) (w0 := w) w.heap.size rfl (.tmp 129) (.tmp 130) 23 5 (.int .u8 0) 1 rfl Try.underlying23 info5 rfl (by decide) (by omega) u20 x20_3 (rd_L4 y176 x125_3) _ _ _ (fun k_ => (w.heap.size ≤ k_)) (fun _ => False) rfl rfl ?aO ?aR (fun _ _ h => h) (fun _ h => h.elim) ?aF ?aB ?aS ?aL ?_; (case aR => repeat (first | exact (by repeat (first | (with_reducible exact HR179_0.out) | (with_reducible refine Kd.C_alloc ?_ _) | (with_reducible refine Kd.C_drewN ?_ _) | (with_reducible refine Kd.C_drew ?_) | exact HR179_0.out)) | (with_reducible refine Kd.C_alloc ?_ _) | (with_reducible refine Kd.C_drewN ?_ _) | (with_reducible refine Kd.C_drew ?_))); (case aB => exact (bq HB)); (case aF => exact (fun k_ hk => (Nat.le_trans (below_size (bq HB)) hk))); (case aO => exact (rq HO_20)); (case aS => exact (below_size (bq HB))); (case aL => have := LMc76.out; omega); intro v181 w77 ho hb hg hat; rw [← Ny180.out] at ho; have n0_ := Aside0.mk (Kd.N_afterv (ok := (fun k_ => (P1_ k_ ∨ w.heap.size ≤ k_))) (by (with_reducible repeat (first | apply Kd.N_alloc | apply Kd.N_drewN | apply Kd.N_drew)); exact HO_123.out) hg hat); have n1_ := Aside0.mk (Kd.V_afterv (ok := (fun k_ => (P1_ k_ ∨ w.heap.size ≤ k_) ∧ some k_ ≠ (.slice (some ad179) y176.length co72 : Value).ownBlock)) (by (with_reducible repeat (first | apply Kd.V_alloc | apply Kd.V_drewN | apply Kd.V_drew)); exact Kd.V_mono HL179_0.out (fun _ hk => ⟨⟨hk.1.1, hk.2⟩, hk.1.2⟩)) hg hat); have n2_ := Aside0.mk (hb); have n3_ := Aside0.mk (ho); clear HO_123; clear HL179_0; clear HB; clear HO_20; have HO_123 := n0_; have HL179_0 := n1_; have HB := n2_; have HO182 := n3_; clear n0_ n1_ n2_ n3_; clear ho hb hg hat)))
              go_roundg k3
              case measure => have := HK1.out; have := HJ48.out; have := HK3.out; omega
              case rel => exact ⟨(y180), (wrap64 (x125_3 + 1)), (by first | rfl | (simp; done) | (simp [*]; done)), H', ⟨by have := HK1.out; have := HJ48.out; have := HK3.out; omega⟩, ⟨by (with_reducible repeat (first | apply Kd.R_alloc | apply Kd.R_drewN | apply Kd.R_drew)); exact HO182.out⟩, ⟨by (with_reducible repeat (first | apply Kd.N_alloc | apply Kd.N_drewN | apply Kd.N_drew)); exact HO_123.out⟩, ⟨bq HB⟩⟩
             ·rw [if_neg c76] at H
              exact absurd H (by simp)
            ·rw [if_neg c75] at H
             exact absurd H (by simp)
           ·rw [if_neg c74] at H
            exact absurd H (by simp)
          ·rw [if_neg c73] at H
           have c73b0 : decide (x125_3 < (y176.length : Int)) = false := decide_eq_false c73
           clear c73
           simp only [Option.some.injEq, Prod.mk.injEq] at H
           obtain ⟨rfl, rfl⟩ := H
           go_wp2
           repeat (go_quiet (fail); try go_wp2)
           go_ret2
           exact ⟨_, by first | rfl | (simp [errW_none, errW_some] <;> rfl) | (simp [*, errW_none, errW_some] <;> rfl), by (with_reducible repeat (first | apply Kd.R_alloc | apply Kd.R_drewN | apply Kd.R_drew)); exact HO_20.out, bq HB⟩
       ·rw [if_neg c54] at H
        exact absurd H (by simp)

end Go.Proofs.Ytchmhcfdamdjdaa.G
