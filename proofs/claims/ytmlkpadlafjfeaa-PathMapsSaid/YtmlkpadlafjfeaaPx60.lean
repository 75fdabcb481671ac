import Derived.Test.YtmlkpadlafjfeaaPx90
import Derived.Test.YtmlkpadlafjfeaaPx53
import Derived.Test.YtmlkpadlafjfeaaPx59
namespace Go.Proofs.Ytmlkpadlafjfeaa.P
open Go.RowKit Go.Proofs.YtmlkpadlafjfeaaW.PrintWords Go.Proofs.YtmlkpadlafjfeaaW.PrintLast Go.Proofs.YtmlkpadlafjfeaaW.PrintMore
attribute [local go_sem] zH zK zU zT zB zC zJ zI
set_option linter.unusedVariables false
set_option linter.unusedSimpArgs false
def zz.f (k : Nat) (a0_0 : Int) (a0_1 : Int) (a0_2 : Int) (a1_0 : Int) (a1_1 : Int) (a1_2 : Int) (a1_3 : Int) (a1_4 : Int) : Option (Int × Int × Int × Bool) := if a1_0 = 1 then ((jJ.f a0_0 a1_1).bind fun bt685 => ((jJ.f a0_1 a1_2).bind fun bt687 => (if bt685.2 = 0 then (some (bt685.1, bt687.1, a0_2, (bt687.2 == 0))) else (some (bt685.1, bt687.1, a0_2, false))))) else (if a1_0 = 2 then ((qO.f k a1_1 a1_2 a0_0 a0_1).bind fun bt689 => ((qO.f k a1_3 a1_4 a0_0 a0_1).bind fun bt691 => (if bt689.2 = 0 then (some (bt689.1, bt691.1, a0_2, (bt691.2 == 0))) else (some (bt689.1, bt691.1, a0_2, false))))) else ((qW.f k a0_0 a1_1 a1_2).bind fun bt693 => ((qW.f k a0_1 a1_1 a1_2).bind fun bt695 => (if bt693.2 = 0 then (some (bt693.1, bt695.1, a0_2, (bt695.2 == 0))) else (some (bt693.1, bt695.1, a0_2, false))))))
theorem zz.mono : ∀ a0 a1 a2 a3 a4 a5 a6 a7 k, LeO (zz.f k a0 a1 a2 a3 a4 a5 a6 a7) (zz.f (k + 1) a0 a1 a2 a3 a4 a5 a6 a7) := by
 intro a0 a1 a2 a3 a4 a5 a6 a7 k
 unfold zz.f
 repeat' first
   | (with_reducible exact qO.mono _ _ _ _ _)
   | (with_reducible exact qW.mono _ _ _ _)
   | (with_reducible exact LeO.refl _)
   | (with_reducible exact LeO.none _)
   | (with_reducible refine LeO.ite ?_ ?_)
   | (with_reducible refine LeO.bind ?_ (fun _ => ?_))
   | exact qO.mono _ _ _ _ _
   | exact qW.mono _ _ _ _
   | exact LeO.none _
   | refine LeO.ite ?_ ?_
   | refine LeO.bind ?_ (fun _ => ?_)
set_option maxRecDepth 100000 in
set_option maxHeartbeats 4000000 in
theorem Qs {w w' : World} (h : qE w w') : Below w.heap.size w w' := by obtain ⟨q, rfl⟩ := h.out; exact qC (Below.refl _ _) q
theorem ZA (w : World) (o : Obj) : (w.alloc o).heap.size = w.heap.size + 1 := by show (w.heap.push o).size = _; exact Array.size_push _
set_option maxRecDepth 100000 in
set_option maxHeartbeats 4000000 in
theorem zz.calls (k : Nat) (a0_0 : Int) (a0_1 : Int) (a0_2 : Int) (a1_0 : Int) (a1_1 : Int) (a1_2 : Int) (a1_3 : Int) (a1_4 : Int) (r1 : Int) (r2 : Int) (r3 : Int) (r4 : Bool) (w : World) (h : zz.f k a0_0 a0_1 a0_2 a1_0 a1_1 a1_2 a1_3 a1_4 = some (r1, r2, r3, r4)) :
  Calls Try.prog 34 #[.agg #[.int .i64 a0_0, .int .i64 a0_1, .int .i64 a0_2], .agg #[.int .i64 a1_0, .int .i64 a1_1, .int .i64 a1_2, .int .i64 a1_3, .int .i64 a1_4]] w fun e w' => e = .returned (.tuple #[.agg #[.int .i64 r1, .int .i64 r2, .int .i64 r3], .bool r4]) ∧ Below w.heap.size w w' := by
  unfold zz.f at h
  go_enter Try.func34, Try.ntmps34
  go_upto_region 1 with fail
  obtain ⟨W, g2, g3, g4, hW, e2, e3, e4, b2, b3, b4, lW⟩ : ∃ W g2 g3 g4, W = ((w.alloc (Obj.cells #[.int .i64 a0_0, .int .i64 a0_1, .int .i64 a0_2] 40)).alloc (Obj.cells #[.int .i64 a1_0, .int .i64 a1_1, .int .i64 a1_2, .int .i64 a1_3, .int .i64 a1_4] 55)).alloc (Obj.cells #[.int .i64 0, .int .i64 0, .int .i64 0] 40) ∧ w.heap.size = g2 ∧ w.heap.size + 1 = g3 ∧ w.heap.size + 1 + 1 = g4 ∧ W.heap[g2]? = some (Obj.cells #[.int .i64 a0_0, .int .i64 a0_1, .int .i64 a0_2] 40 (0, 0)) ∧ W.heap[g3]? = some (Obj.cells #[.int .i64 a1_0, .int .i64 a1_1, .int .i64 a1_2, .int .i64 a1_3, .int .i64 a1_4] 55 (0, 0)) ∧ W.heap[g4]? = some (Obj.cells #[.int .i64 0, .int .i64 0, .int .i64 0] 40 (0, 0)) ∧ Below w.heap.size w W :=
    ⟨_, _, _, _, rfl, rfl, rfl, rfl, qg (qg (zu _ _) _) _, by rw [← ZA w (Obj.cells #[.int .i64 a0_0, .int .i64 a0_1, .int .i64 a0_2] 40)]; exact qg (zu _ _) _, by rw [← ZA w (Obj.cells #[.int .i64 a0_0, .int .i64 a0_1, .int .i64 a0_2] 40), ← ZA (w.alloc (Obj.cells #[.int .i64 a0_0, .int .i64 a0_1, .int .i64 a0_2] 40)) (Obj.cells #[.int .i64 a1_0, .int .i64 a1_1, .int .i64 a1_2, .int .i64 a1_3, .int .i64 a1_4] 55)]; exact zu _ _, qw (qw (qw (Below.refl _ _) _) _) _⟩
  have q4 : w.heap.size ≤ g4 := by omega
  try rw [ZA, ZA]
  try rw [ZA]
  rw [← hW, e4, e3, e2]
  have V2W := qa.mk b2
  have V3W := qa.mk b3
  have V4W := qa.mk b4
  have LW := qa.mk lW
  have Q4 := qa.mk q4
  have c0 : W.cell? ⟨g2, 0, none⟩ = some (.int .i64 a0_0) := (qb b2 0).trans rfl
  have c1 : W.cell? ⟨g2, 1, none⟩ = some (.int .i64 a0_1) := (qb b2 1).trans rfl
  have c2 : W.cell? ⟨g2, 2, none⟩ = some (.int .i64 a0_2) := (qb b2 2).trans rfl
  have d0 : W.cell? ⟨g3, 0, none⟩ = some (.int .i64 a1_0) := (qb b3 0).trans rfl
  have d1 : W.cell? ⟨g3, 1, none⟩ = some (.int .i64 a1_1) := (qb b3 1).trans rfl
  have d2 : W.cell? ⟨g3, 2, none⟩ = some (.int .i64 a1_2) := (qb b3 2).trans rfl
  have d3 : W.cell? ⟨g3, 3, none⟩ = some (.int .i64 a1_3) := (qb b3 3).trans rfl
  have d4 : W.cell? ⟨g3, 4, none⟩ = some (.int .i64 a1_4) := (qb b3 4).trans rfl
  clear hW e2 e3 e4 b2 b3 b4 lW q4
  by_cases k1 : a1_0 = 1
  · rw [if_pos k1] at h
    have kb : (a1_0 == 1) = true := beq_iff_eq.mpr k1
    clear k1
    obtain ⟨⟨x, e⟩, hx, h⟩ := Option.bind_eq_some_iff.mp h
    obtain ⟨⟨y, f⟩, hy, h⟩ := Option.bind_eq_some_iff.mp h
    dsimp only at h
    have HX := qa.mk hx
    have HY := qa.mk hy
    clear hx hy
    by_cases ce : e = 0
    · rw [if_pos ce] at h
      simp only [Option.some.injEq, Prod.mk.injEq] at h
      obtain ⟨rfl, rfl, rfl, rfl⟩ := h
      have eb : (e == 0) = true := beq_iff_eq.mpr ce
      clear ce
      go_upto_region 7 with (go_at_call 54; refine (jJ.calls a0_0 a1_1 x e W HX.out).mono ?_; rintro q w6 ⟨rfl, hb⟩; replace hb := Qs hb; have V26 := qa.mk ((hb.block _ (qy V2W.out)).trans V2W.out); have V36 := qa.mk ((hb.block _ (qy V3W.out)).trans V3W.out); have V46 := qa.mk ((hb.block _ (qy V4W.out)).trans V4W.out); have L6 := qa.mk (qh LW.out hb); have u0 : w6.cell? ⟨g2, 0, none⟩ = some (.int .i64 a0_0) := (qb V26.out 0).trans rfl; have u1 : w6.cell? ⟨g2, 1, none⟩ = some (.int .i64 a0_1) := (qb V26.out 1).trans rfl; have u2 : w6.cell? ⟨g2, 2, none⟩ = some (.int .i64 a0_2) := (qb V26.out 2).trans rfl; have v0 : w6.cell? ⟨g3, 0, none⟩ = some (.int .i64 a1_0) := (qb V36.out 0).trans rfl; have v1 : w6.cell? ⟨g3, 1, none⟩ = some (.int .i64 a1_1) := (qb V36.out 1).trans rfl; have v2 : w6.cell? ⟨g3, 2, none⟩ = some (.int .i64 a1_2) := (qb V36.out 2).trans rfl; have v3 : w6.cell? ⟨g3, 3, none⟩ = some (.int .i64 a1_3) := (qb V36.out 3).trans rfl; have v4 : w6.cell? ⟨g3, 4, none⟩ = some (.int .i64 a1_4) := (qb V36.out 4).trans rfl; clear hb)
      clear c0 c1 c2 d0 d1 d2 d3 d4 V2W V3W V4W LW
      go_wp2_with (go_at_call 54; refine (jJ.calls a0_1 a1_2 y f w6 HY.out).mono ?_; rintro q w7 ⟨rfl, hb⟩; replace hb := Qs hb; have V27 := qa.mk ((hb.block _ (qy V26.out)).trans V26.out); have V37 := qa.mk ((hb.block _ (qy V36.out)).trans V36.out); have V47 := qa.mk ((hb.block _ (qy V46.out)).trans V46.out); have L7 := qa.mk (qh L6.out hb); have c0 : w7.cell? ⟨g2, 0, none⟩ = some (.int .i64 a0_0) := (qb V27.out 0).trans rfl; have c1 : w7.cell? ⟨g2, 1, none⟩ = some (.int .i64 a0_1) := (qb V27.out 1).trans rfl; have c2 : w7.cell? ⟨g2, 2, none⟩ = some (.int .i64 a0_2) := (qb V27.out 2).trans rfl; have d0 : w7.cell? ⟨g3, 0, none⟩ = some (.int .i64 a1_0) := (qb V37.out 0).trans rfl; have d1 : w7.cell? ⟨g3, 1, none⟩ = some (.int .i64 a1_1) := (qb V37.out 1).trans rfl; have d2 : w7.cell? ⟨g3, 2, none⟩ = some (.int .i64 a1_2) := (qb V37.out 2).trans rfl; have d3 : w7.cell? ⟨g3, 3, none⟩ = some (.int .i64 a1_3) := (qb V37.out 3).trans rfl; have d4 : w7.cell? ⟨g3, 4, none⟩ = some (.int .i64 a1_4) := (qb V37.out 4).trans rfl; have y0 : w7.cell? ⟨g4, 0, none⟩ = some (.int .i64 0) := (qb V47.out 0).trans rfl; have f0 := qo V47.out 0; have y1 : w7.cell? ⟨g4, 1, none⟩ = some (.int .i64 0) := (qb V47.out 1).trans rfl; have f1 := qo V47.out 1; have y2 : w7.cell? ⟨g4, 2, none⟩ = some (.int .i64 0) := (qb V47.out 2).trans rfl; have f2 := qo V47.out 2; clear hb)
      refine bodyPost_ret (Zk rfl _ _ g4 40 #[.int .i64 x, .int .i64 y, .int .i64 a0_2] (0, 0) _ rfl ((jN (jN (jN V47.out 0 _) 1 _) 2 _).trans rfl) Try.underlying40 rfl (by kernel_rfl)) rfl ?_
      exact ⟨rfl, qf (qf (qf L7.out Q4.out) Q4.out) Q4.out⟩
    · rw [if_neg ce] at h
      simp only [Option.some.injEq, Prod.mk.injEq] at h
      obtain ⟨rfl, rfl, rfl, rfl⟩ := h
      have eb : (e == 0) = false := beq_eq_false_iff_ne.mpr ce
      clear ce
      go_upto_region 7 with (go_at_call 54; refine (jJ.calls a0_0 a1_1 x e W HX.out).mono ?_; rintro q w6 ⟨rfl, hb⟩; replace hb := Qs hb; have V26 := qa.mk ((hb.block _ (qy V2W.out)).trans V2W.out); have V36 := qa.mk ((hb.block _ (qy V3W.out)).trans V3W.out); have V46 := qa.mk ((hb.block _ (qy V4W.out)).trans V4W.out); have L6 := qa.mk (qh LW.out hb); have u0 : w6.cell? ⟨g2, 0, none⟩ = some (.int .i64 a0_0) := (qb V26.out 0).trans rfl; have u1 : w6.cell? ⟨g2, 1, none⟩ = some (.int .i64 a0_1) := (qb V26.out 1).trans rfl; have u2 : w6.cell? ⟨g2, 2, none⟩ = some (.int .i64 a0_2) := (qb V26.out 2).trans rfl; have v0 : w6.cell? ⟨g3, 0, none⟩ = some (.int .i64 a1_0) := (qb V36.out 0).trans rfl; have v1 : w6.cell? ⟨g3, 1, none⟩ = some (.int .i64 a1_1) := (qb V36.out 1).trans rfl; have v2 : w6.cell? ⟨g3, 2, none⟩ = some (.int .i64 a1_2) := (qb V36.out 2).trans rfl; have v3 : w6.cell? ⟨g3, 3, none⟩ = some (.int .i64 a1_3) := (qb V36.out 3).trans rfl; have v4 : w6.cell? ⟨g3, 4, none⟩ = some (.int .i64 a1_4) := (qb V36.out 4).trans rfl; clear hb)
      clear c0 c1 c2 d0 d1 d2 d3 d4 V2W V3W V4W LW
      go_wp2_with (go_at_call 54; refine (jJ.calls a0_1 a1_2 y f w6 HY.out).mono ?_; rintro q w7 ⟨rfl, hb⟩; replace hb := Qs hb; have V27 := qa.mk ((hb.block _ (qy V26.out)).trans V26.out); have V37 := qa.mk ((hb.block _ (qy V36.out)).trans V36.out); have V47 := qa.mk ((hb.block _ (qy V46.out)).trans V46.out); have L7 := qa.mk (qh L6.out hb); have c0 : w7.cell? ⟨g2, 0, none⟩ = some (.int .i64 a0_0) := (qb V27.out 0).trans rfl; have c1 : w7.cell? ⟨g2, 1, none⟩ = some (.int .i64 a0_1) := (qb V27.out 1).trans rfl; have c2 : w7.cell? ⟨g2, 2, none⟩ = some (.int .i64 a0_2) := (qb V27.out 2).trans rfl; have d0 : w7.cell? ⟨g3, 0, none⟩ = some (.int .i64 a1_0) := (qb V37.out 0).trans rfl; have d1 : w7.cell? ⟨g3, 1, none⟩ = some (.int .i64 a1_1) := (qb V37.out 1).trans rfl; have d2 : w7.cell? ⟨g3, 2, none⟩ = some (.int .i64 a1_2) := (qb V37.out 2).trans rfl; have d3 : w7.cell? ⟨g3, 3, none⟩ = some (.int .i64 a1_3) := (qb V37.out 3).trans rfl; have d4 : w7.cell? ⟨g3, 4, none⟩ = some (.int .i64 a1_4) := (qb V37.out 4).trans rfl; have y0 : w7.cell? ⟨g4, 0, none⟩ = some (.int .i64 0) := (qb V47.out 0).trans rfl; have f0 := qo V47.out 0; have y1 : w7.cell? ⟨g4, 1, none⟩ = some (.int .i64 0) := (qb V47.out 1).trans rfl; have f1 := qo V47.out 1; have y2 : w7.cell? ⟨g4, 2, none⟩ = some (.int .i64 0) := (qb V47.out 2).trans rfl; have f2 := qo V47.out 2; clear hb)
      refine bodyPost_ret (Zk rfl _ _ g4 40 #[.int .i64 x, .int .i64 y, .int .i64 a0_2] (0, 0) _ rfl ((jN (jN (jN V47.out 0 _) 1 _) 2 _).trans rfl) Try.underlying40 rfl (by kernel_rfl)) rfl ?_
      exact ⟨rfl, qf (qf (qf L7.out Q4.out) Q4.out) Q4.out⟩
  · rw [if_neg k1] at h
    have kb : (a1_0 == 1) = false := beq_eq_false_iff_ne.mpr k1
    clear k1
    by_cases k2 : a1_0 = 2
    · rw [if_pos k2] at h
      have kc : (a1_0 == 2) = true := beq_iff_eq.mpr k2
      clear k2
      obtain ⟨⟨x, e⟩, hx, h⟩ := Option.bind_eq_some_iff.mp h
      obtain ⟨⟨y, f⟩, hy, h⟩ := Option.bind_eq_some_iff.mp h
      dsimp only at h
      have HX := qa.mk hx
      have HY := qa.mk hy
      clear hx hy
      by_cases ce : e = 0
      · rw [if_pos ce] at h
        simp only [Option.some.injEq, Prod.mk.injEq] at h
        obtain ⟨rfl, rfl, rfl, rfl⟩ := h
        have eb : (e == 0) = true := beq_iff_eq.mpr ce
        clear ce
        go_upto_region 10 with (go_at_call 55; refine (qO.calls k a1_1 a1_2 a0_0 a0_1 x e W HX.out).mono ?_; rintro q w6 ⟨rfl, hb⟩; replace hb := Qs hb; have V26 := qa.mk ((hb.block _ (qy V2W.out)).trans V2W.out); have V36 := qa.mk ((hb.block _ (qy V3W.out)).trans V3W.out); have V46 := qa.mk ((hb.block _ (qy V4W.out)).trans V4W.out); have L6 := qa.mk (qh LW.out hb); have u0 : w6.cell? ⟨g2, 0, none⟩ = some (.int .i64 a0_0) := (qb V26.out 0).trans rfl; have u1 : w6.cell? ⟨g2, 1, none⟩ = some (.int .i64 a0_1) := (qb V26.out 1).trans rfl; have u2 : w6.cell? ⟨g2, 2, none⟩ = some (.int .i64 a0_2) := (qb V26.out 2).trans rfl; have v0 : w6.cell? ⟨g3, 0, none⟩ = some (.int .i64 a1_0) := (qb V36.out 0).trans rfl; have v1 : w6.cell? ⟨g3, 1, none⟩ = some (.int .i64 a1_1) := (qb V36.out 1).trans rfl; have v2 : w6.cell? ⟨g3, 2, none⟩ = some (.int .i64 a1_2) := (qb V36.out 2).trans rfl; have v3 : w6.cell? ⟨g3, 3, none⟩ = some (.int .i64 a1_3) := (qb V36.out 3).trans rfl; have v4 : w6.cell? ⟨g3, 4, none⟩ = some (.int .i64 a1_4) := (qb V36.out 4).trans rfl; clear hb)
        clear c0 c1 c2 d0 d1 d2 d3 d4 V2W V3W V4W LW
        go_wp2_with (go_at_call 55; refine (qO.calls k a1_3 a1_4 a0_0 a0_1 y f w6 HY.out).mono ?_; rintro q w7 ⟨rfl, hb⟩; replace hb := Qs hb; have V27 := qa.mk ((hb.block _ (qy V26.out)).trans V26.out); have V37 := qa.mk ((hb.block _ (qy V36.out)).trans V36.out); have V47 := qa.mk ((hb.block _ (qy V46.out)).trans V46.out); have L7 := qa.mk (qh L6.out hb); have c0 : w7.cell? ⟨g2, 0, none⟩ = some (.int .i64 a0_0) := (qb V27.out 0).trans rfl; have c1 : w7.cell? ⟨g2, 1, none⟩ = some (.int .i64 a0_1) := (qb V27.out 1).trans rfl; have c2 : w7.cell? ⟨g2, 2, none⟩ = some (.int .i64 a0_2) := (qb V27.out 2).trans rfl; have d0 : w7.cell? ⟨g3, 0, none⟩ = some (.int .i64 a1_0) := (qb V37.out 0).trans rfl; have d1 : w7.cell? ⟨g3, 1, none⟩ = some (.int .i64 a1_1) := (qb V37.out 1).trans rfl; have d2 : w7.cell? ⟨g3, 2, none⟩ = some (.int .i64 a1_2) := (qb V37.out 2).trans rfl; have d3 : w7.cell? ⟨g3, 3, none⟩ = some (.int .i64 a1_3) := (qb V37.out 3).trans rfl; have d4 : w7.cell? ⟨g3, 4, none⟩ = some (.int .i64 a1_4) := (qb V37.out 4).trans rfl; have y0 : w7.cell? ⟨g4, 0, none⟩ = some (.int .i64 0) := (qb V47.out 0).trans rfl; have f0 := qo V47.out 0; have y1 : w7.cell? ⟨g4, 1, none⟩ = some (.int .i64 0) := (qb V47.out 1).trans rfl; have f1 := qo V47.out 1; have y2 : w7.cell? ⟨g4, 2, none⟩ = some (.int .i64 0) := (qb V47.out 2).trans rfl; have f2 := qo V47.out 2; clear hb)
        refine bodyPost_ret (Zk rfl _ _ g4 40 #[.int .i64 x, .int .i64 y, .int .i64 a0_2] (0, 0) _ rfl ((jN (jN (jN V47.out 0 _) 1 _) 2 _).trans rfl) Try.underlying40 rfl (by kernel_rfl)) rfl ?_
        exact ⟨rfl, qf (qf (qf L7.out Q4.out) Q4.out) Q4.out⟩
      · rw [if_neg ce] at h
        simp only [Option.some.injEq, Prod.mk.injEq] at h
        obtain ⟨rfl, rfl, rfl, rfl⟩ := h
        have eb : (e == 0) = false := beq_eq_false_iff_ne.mpr ce
        clear ce
        go_upto_region 10 with (go_at_call 55; refine (qO.calls k a1_1 a1_2 a0_0 a0_1 x e W HX.out).mono ?_; rintro q w6 ⟨rfl, hb⟩; replace hb := Qs hb; have V26 := qa.mk ((hb.block _ (qy V2W.out)).trans V2W.out); have V36 := qa.mk ((hb.block _ (qy V3W.out)).trans V3W.out); have V46 := qa.mk ((hb.block _ (qy V4W.out)).trans V4W.out); have L6 := qa.mk (qh LW.out hb); have u0 : w6.cell? ⟨g2, 0, none⟩ = some (.int .i64 a0_0) := (qb V26.out 0).trans rfl; have u1 : w6.cell? ⟨g2, 1, none⟩ = some (.int .i64 a0_1) := (qb V26.out 1).trans rfl; have u2 : w6.cell? ⟨g2, 2, none⟩ = some (.int .i64 a0_2) := (qb V26.out 2).trans rfl; have v0 : w6.cell? ⟨g3, 0, none⟩ = some (.int .i64 a1_0) := (qb V36.out 0).trans rfl; have v1 : w6.cell? ⟨g3, 1, none⟩ = some (.int .i64 a1_1) := (qb V36.out 1).trans rfl; have v2 : w6.cell? ⟨g3, 2, none⟩ = some (.int .i64 a1_2) := (qb V36.out 2).trans rfl; have v3 : w6.cell? ⟨g3, 3, none⟩ = some (.int .i64 a1_3) := (qb V36.out 3).trans rfl; have v4 : w6.cell? ⟨g3, 4, none⟩ = some (.int .i64 a1_4) := (qb V36.out 4).trans rfl; clear hb)
        clear c0 c1 c2 d0 d1 d2 d3 d4 V2W V3W V4W LW
        go_wp2_with (go_at_call 55; refine (qO.calls k a1_3 a1_4 a0_0 a0_1 y f w6 HY.out).mono ?_; rintro q w7 ⟨rfl, hb⟩; replace hb := Qs hb; have V27 := qa.mk ((hb.block _ (qy V26.out)).trans V26.out); have V37 := qa.mk ((hb.block _ (qy V36.out)).trans V36.out); have V47 := qa.mk ((hb.block _ (qy V46.out)).trans V46.out); have L7 := qa.mk (qh L6.out hb); have c0 : w7.cell? ⟨g2, 0, none⟩ = some (.int .i64 a0_0) := (qb V27.out 0).trans rfl; have c1 : w7.cell? ⟨g2, 1, none⟩ = some (.int .i64 a0_1) := (qb V27.out 1).trans rfl; have c2 : w7.cell? ⟨g2, 2, none⟩ = some (.int .i64 a0_2) := (qb V27.out 2).trans rfl; have d0 : w7.cell? ⟨g3, 0, none⟩ = some (.int .i64 a1_0) := (qb V37.out 0).trans rfl; have d1 : w7.cell? ⟨g3, 1, none⟩ = some (.int .i64 a1_1) := (qb V37.out 1).trans rfl; have d2 : w7.cell? ⟨g3, 2, none⟩ = some (.int .i64 a1_2) := (qb V37.out 2).trans rfl; have d3 : w7.cell? ⟨g3, 3, none⟩ = some (.int .i64 a1_3) := (qb V37.out 3).trans rfl; have d4 : w7.cell? ⟨g3, 4, none⟩ = some (.int .i64 a1_4) := (qb V37.out 4).trans rfl; have y0 : w7.cell? ⟨g4, 0, none⟩ = some (.int .i64 0) := (qb V47.out 0).trans rfl; have f0 := qo V47.out 0; have y1 : w7.cell? ⟨g4, 1, none⟩ = some (.int .i64 0) := (qb V47.out 1).trans rfl; have f1 := qo V47.out 1; have y2 : w7.cell? ⟨g4, 2, none⟩ = some (.int .i64 0) := (qb V47.out 2).trans rfl; have f2 := qo V47.out 2; clear hb)
        refine bodyPost_ret (Zk rfl _ _ g4 40 #[.int .i64 x, .int .i64 y, .int .i64 a0_2] (0, 0) _ rfl ((jN (jN (jN V47.out 0 _) 1 _) 2 _).trans rfl) Try.underlying40 rfl (by kernel_rfl)) rfl ?_
        exact ⟨rfl, qf (qf (qf L7.out Q4.out) Q4.out) Q4.out⟩
    · rw [if_neg k2] at h
      have kc : (a1_0 == 2) = false := beq_eq_false_iff_ne.mpr k2
      clear k2
      obtain ⟨⟨x, e⟩, hx, h⟩ := Option.bind_eq_some_iff.mp h
      obtain ⟨⟨y, f⟩, hy, h⟩ := Option.bind_eq_some_iff.mp h
      dsimp only at h
      have HX := qa.mk hx
      have HY := qa.mk hy
      clear hx hy
      by_cases ce : e = 0
      · rw [if_pos ce] at h
        simp only [Option.some.injEq, Prod.mk.injEq] at h
        obtain ⟨rfl, rfl, rfl, rfl⟩ := h
        have eb : (e == 0) = true := beq_iff_eq.mpr ce
        clear ce
        go_upto_region 4 with (go_at_call 56; refine (qW.calls k a0_0 a1_1 a1_2 x e W HX.out).mono ?_; rintro q w6 ⟨rfl, hb⟩; have V26 := qa.mk ((hb.block _ (qy V2W.out)).trans V2W.out); have V36 := qa.mk ((hb.block _ (qy V3W.out)).trans V3W.out); have V46 := qa.mk ((hb.block _ (qy V4W.out)).trans V4W.out); have L6 := qa.mk (qh LW.out hb); have u0 : w6.cell? ⟨g2, 0, none⟩ = some (.int .i64 a0_0) := (qb V26.out 0).trans rfl; have u1 : w6.cell? ⟨g2, 1, none⟩ = some (.int .i64 a0_1) := (qb V26.out 1).trans rfl; have u2 : w6.cell? ⟨g2, 2, none⟩ = some (.int .i64 a0_2) := (qb V26.out 2).trans rfl; have v0 : w6.cell? ⟨g3, 0, none⟩ = some (.int .i64 a1_0) := (qb V36.out 0).trans rfl; have v1 : w6.cell? ⟨g3, 1, none⟩ = some (.int .i64 a1_1) := (qb V36.out 1).trans rfl; have v2 : w6.cell? ⟨g3, 2, none⟩ = some (.int .i64 a1_2) := (qb V36.out 2).trans rfl; have v3 : w6.cell? ⟨g3, 3, none⟩ = some (.int .i64 a1_3) := (qb V36.out 3).trans rfl; have v4 : w6.cell? ⟨g3, 4, none⟩ = some (.int .i64 a1_4) := (qb V36.out 4).trans rfl; clear hb)
        clear c0 c1 c2 d0 d1 d2 d3 d4 V2W V3W V4W LW
        go_wp2_with (go_at_call 56; refine (qW.calls k a0_1 a1_1 a1_2 y f w6 HY.out).mono ?_; rintro q w7 ⟨rfl, hb⟩; have V27 := qa.mk ((hb.block _ (qy V26.out)).trans V26.out); have V37 := qa.mk ((hb.block _ (qy V36.out)).trans V36.out); have V47 := qa.mk ((hb.block _ (qy V46.out)).trans V46.out); have L7 := qa.mk (qh L6.out hb); have c0 : w7.cell? ⟨g2, 0, none⟩ = some (.int .i64 a0_0) := (qb V27.out 0).trans rfl; have c1 : w7.cell? ⟨g2, 1, none⟩ = some (.int .i64 a0_1) := (qb V27.out 1).trans rfl; have c2 : w7.cell? ⟨g2, 2, none⟩ = some (.int .i64 a0_2) := (qb V27.out 2).trans rfl; have d0 : w7.cell? ⟨g3, 0, none⟩ = some (.int .i64 a1_0) := (qb V37.out 0).trans rfl; have d1 : w7.cell? ⟨g3, 1, none⟩ = some (.int .i64 a1_1) := (qb V37.out 1).trans rfl; have d2 : w7.cell? ⟨g3, 2, none⟩ = some (.int .i64 a1_2) := (qb V37.out 2).trans rfl; have d3 : w7.cell? ⟨g3, 3, none⟩ = some (.int .i64 a1_3) := (qb V37.out 3).trans rfl; have d4 : w7.cell? ⟨g3, 4, none⟩ = some (.int .i64 a1_4) := (qb V37.out 4).trans rfl; have y0 : w7.cell? ⟨g4, 0, none⟩ = some (.int .i64 0) := (qb V47.out 0).trans rfl; have f0 := qo V47.out 0; have y1 : w7.cell? ⟨g4, 1, none⟩ = some (.int .i64 0) := (qb V47.out 1).trans rfl; have f1 := qo V47.out 1; have y2 : w7.cell? ⟨g4, 2, none⟩ = some (.int .i64 0) := (qb V47.out 2).trans rfl; have f2 := qo V47.out 2; clear hb)
        refine bodyPost_ret (Zk rfl _ _ g4 40 #[.int .i64 x, .int .i64 y, .int .i64 a0_2] (0, 0) _ rfl ((jN (jN (jN V47.out 0 _) 1 _) 2 _).trans rfl) Try.underlying40 rfl (by kernel_rfl)) rfl ?_
        exact ⟨rfl, qf (qf (qf L7.out Q4.out) Q4.out) Q4.out⟩
      · rw [if_neg ce] at h
        simp only [Option.some.injEq, Prod.mk.injEq] at h
        obtain ⟨rfl, rfl, rfl, rfl⟩ := h
        have eb : (e == 0) = false := beq_eq_false_iff_ne.mpr ce
        clear ce
        go_upto_region 4 with (go_at_call 56; refine (qW.calls k a0_0 a1_1 a1_2 x e W HX.out).mono ?_; rintro q w6 ⟨rfl, hb⟩; have V26 := qa.mk ((hb.block _ (qy V2W.out)).trans V2W.out); have V36 := qa.mk ((hb.block _ (qy V3W.out)).trans V3W.out); have V46 := qa.mk ((hb.block _ (qy V4W.out)).trans V4W.out); have L6 := qa.mk (qh LW.out hb); have u0 : w6.cell? ⟨g2, 0, none⟩ = some (.int .i64 a0_0) := (qb V26.out 0).trans rfl; have u1 : w6.cell? ⟨g2, 1, none⟩ = some (.int .i64 a0_1) := (qb V26.out 1).trans rfl; have u2 : w6.cell? ⟨g2, 2, none⟩ = some (.int .i64 a0_2) := (qb V26.out 2).trans rfl; have v0 : w6.cell? ⟨g3, 0, none⟩ = some (.int .i64 a1_0) := (qb V36.out 0).trans rfl; have v1 : w6.cell? ⟨g3, 1, none⟩ = some (.int .i64 a1_1) := (qb V36.out 1).trans rfl; have v2 : w6.cell? ⟨g3, 2, none⟩ = some (.int .i64 a1_2) := (qb V36.out 2).trans rfl; have v3 : w6.cell? ⟨g3, 3, none⟩ = some (.int .i64 a1_3) := (qb V36.out 3).trans rfl; have v4 : w6.cell? ⟨g3, 4, none⟩ = some (.int .i64 a1_4) := (qb V36.out 4).trans rfl; clear hb)
        clear c0 c1 c2 d0 d1 d2 d3 d4 V2W V3W V4W LW
        go_wp2_with (go_at_call 56; refine (qW.calls k a0_1 a1_1 a1_2 y f w6 HY.out).mono ?_; rintro q w7 ⟨rfl, hb⟩; have V27 := qa.mk ((hb.block _ (qy V26.out)).trans V26.out); have V37 := qa.mk ((hb.block _ (qy V36.out)).trans V36.out); have V47 := qa.mk ((hb.block _ (qy V46.out)).trans V46.out); have L7 := qa.mk (qh L6.out hb); have c0 : w7.cell? ⟨g2, 0, none⟩ = some (.int .i64 a0_0) := (qb V27.out 0).trans rfl; have c1 : w7.cell? ⟨g2, 1, none⟩ = some (.int .i64 a0_1) := (qb V27.out 1).trans rfl; have c2 : w7.cell? ⟨g2, 2, none⟩ = some (.int .i64 a0_2) := (qb V27.out 2).trans rfl; have d0 : w7.cell? ⟨g3, 0, none⟩ = some (.int .i64 a1_0) := (qb V37.out 0).trans rfl; have d1 : w7.cell? ⟨g3, 1, none⟩ = some (.int .i64 a1_1) := (qb V37.out 1).trans rfl; have d2 : w7.cell? ⟨g3, 2, none⟩ = some (.int .i64 a1_2) := (qb V37.out 2).trans rfl; have d3 : w7.cell? ⟨g3, 3, none⟩ = some (.int .i64 a1_3) := (qb V37.out 3).trans rfl; have d4 : w7.cell? ⟨g3, 4, none⟩ = some (.int .i64 a1_4) := (qb V37.out 4).trans rfl; have y0 : w7.cell? ⟨g4, 0, none⟩ = some (.int .i64 0) := (qb V47.out 0).trans rfl; have f0 := qo V47.out 0; have y1 : w7.cell? ⟨g4, 1, none⟩ = some (.int .i64 0) := (qb V47.out 1).trans rfl; have f1 := qo V47.out 1; have y2 : w7.cell? ⟨g4, 2, none⟩ = some (.int .i64 0) := (qb V47.out 2).trans rfl; have f2 := qo V47.out 2; clear hb)
        refine bodyPost_ret (Zk rfl _ _ g4 40 #[.int .i64 x, .int .i64 y, .int .i64 a0_2] (0, 0) _ rfl ((jN (jN (jN V47.out 0 _) 1 _) 2 _).trans rfl) Try.underlying40 rfl (by kernel_rfl)) rfl ?_
        exact ⟨rfl, qf (qf (qf L7.out Q4.out) Q4.out) Q4.out⟩
end Go.Proofs.Ytmlkpadlafjfeaa.P
