import Derived.Test.YtmlkpadlafjfeaaPx90
namespace Go.Proofs.Ytmlkpadlafjfeaa.P
open Go.RowKit Go.Proofs.YtmlkpadlafjfeaaW.PrintWords Go.Proofs.YtmlkpadlafjfeaaW.PrintLast Go.Proofs.YtmlkpadlafjfeaaW.PrintMore
attribute [local go_sem] zH zK zU zT zB zC zJ zI
set_option linter.unusedVariables false
set_option linter.unusedSimpArgs false
section
attribute [local go_sem] Z8
set_option maxHeartbeats 8000000 in
set_option maxRecDepth 100000 in
theorem times_walk (a0_0 : Int) (a0_1 : Int) (a0_2 : Int) (a0_3 : Int) (a0_4 : Int) (a0_5 : Int) (a0_6 : Int) (a0_7 : Int) (a0_8 : Int) (a0_9 : Int) (a1_0 : Int) (a1_1 : Int) (a1_2 : Int) (a1_3 : Int) (a1_4 : Int) (a1_5 : Int) (a1_6 : Int) (a1_7 : Int) (a1_8 : Int) (a1_9 : Int) (d0_0 : qa (qK a0_0 = true)) (d0_1 : qa (qK a0_1 = true)) (d0_2 : qa (qK a0_2 = true)) (d0_3 : qa (qK a0_3 = true)) (d0_4 : qa (qK a0_4 = true)) (d1_0 : qa (qK a1_0 = true)) (d1_1 : qa (qK a1_1 = true)) (d1_2 : qa (qK a1_2 = true)) (d1_3 : qa (qK a1_3 = true)) (d1_4 : qa (qK a1_4 = true)) (w : World) :
  Calls Try.prog 69 #[.agg #[.int .i64 a0_0, .int .i64 a0_1, .int .i64 a0_2, .int .i64 a0_3, .int .i64 a0_4, .int .i64 a0_5, .int .i64 a0_6, .int .i64 a0_7, .int .i64 a0_8, .int .i64 a0_9], .agg #[.int .i64 a1_0, .int .i64 a1_1, .int .i64 a1_2, .int .i64 a1_3, .int .i64 a1_4, .int .i64 a1_5, .int .i64 a1_6, .int .i64 a1_7, .int .i64 a1_8, .int .i64 a1_9]] w (LongPost (digs (jH a0_0 a0_1 a0_2 a0_3 a0_4 * jH a1_0 a1_1 a1_2 a1_3 a1_4)) w) := by
 have hu := Try.underlying116
 go_enter Try.func69, Try.ntmps69
 go_wp2
 refine wp_loop_rounds 6 ?_
 rw [rounds_succ]
 go_wp2
 refine wp_loop_rounds 6 ?_
 obtain ⟨l_, u_⟩ := jB d0_0.out d1_0.out
 rw [rounds_succ]
 go_wp2
 go_quiet (fail)
 go_wp2
 generalize hc_ : (a0_0 * a1_0) / 65536 = c0_0
 generalize ho_ : (a0_0 * a1_0) % 65536 = o0_0
 have H0_0 := qa.mk (Step.mk' (o := 0) (p := a0_0 * a1_0) (c := 0) (x := a0_0 * a1_0) (by simp only [Int.zero_add, Int.add_zero]) ho_ hc_ (by omega) (by omega) l_ u_ (by omega) (by omega))
 clear ho_ hc_ l_ u_
 have bo0_01 := H0_0.out.o0
 have bo0_02 := H0_0.out.o1
 have bc0_01 := H0_0.out.c0
 have bc0_02 := H0_0.out.c1
 obtain ⟨l_, u_⟩ := jB d0_0.out d1_1.out
 rw [rounds_succ]
 go_wp2
 go_quiet (fail)
 go_wp2
 generalize hc_ : (a0_0 * a1_1 + c0_0) / 65536 = c0_1
 generalize ho_ : (a0_0 * a1_1 + c0_0) % 65536 = o0_1
 have H0_1 := qa.mk (Step.mk' (o := 0) (p := a0_0 * a1_1) (c := c0_0) (x := a0_0 * a1_1 + c0_0) (by simp only [Int.zero_add, Int.add_zero]) ho_ hc_ (by omega) (by omega) l_ u_ H0_0.out.c0 H0_0.out.c1)
 clear bc0_01 bc0_02
 clear ho_ hc_ l_ u_
 have bo0_11 := H0_1.out.o0
 have bo0_12 := H0_1.out.o1
 have bc0_11 := H0_1.out.c0
 have bc0_12 := H0_1.out.c1
 obtain ⟨l_, u_⟩ := jB d0_0.out d1_2.out
 rw [rounds_succ]
 go_wp2
 go_quiet (fail)
 go_wp2
 generalize hc_ : (a0_0 * a1_2 + c0_1) / 65536 = c0_2
 generalize ho_ : (a0_0 * a1_2 + c0_1) % 65536 = o0_2
 have H0_2 := qa.mk (Step.mk' (o := 0) (p := a0_0 * a1_2) (c := c0_1) (x := a0_0 * a1_2 + c0_1) (by simp only [Int.zero_add, Int.add_zero]) ho_ hc_ (by omega) (by omega) l_ u_ H0_1.out.c0 H0_1.out.c1)
 clear bc0_11 bc0_12
 clear ho_ hc_ l_ u_
 have bo0_21 := H0_2.out.o0
 have bo0_22 := H0_2.out.o1
 have bc0_21 := H0_2.out.c0
 have bc0_22 := H0_2.out.c1
 obtain ⟨l_, u_⟩ := jB d0_0.out d1_3.out
 rw [rounds_succ]
 go_wp2
 go_quiet (fail)
 go_wp2
 generalize hc_ : (a0_0 * a1_3 + c0_2) / 65536 = c0_3
 generalize ho_ : (a0_0 * a1_3 + c0_2) % 65536 = o0_3
 have H0_3 := qa.mk (Step.mk' (o := 0) (p := a0_0 * a1_3) (c := c0_2) (x := a0_0 * a1_3 + c0_2) (by simp only [Int.zero_add, Int.add_zero]) ho_ hc_ (by omega) (by omega) l_ u_ H0_2.out.c0 H0_2.out.c1)
 clear bc0_21 bc0_22
 clear ho_ hc_ l_ u_
 have bo0_31 := H0_3.out.o0
 have bo0_32 := H0_3.out.o1
 have bc0_31 := H0_3.out.c0
 have bc0_32 := H0_3.out.c1
 obtain ⟨l_, u_⟩ := jB d0_0.out d1_4.out
 rw [rounds_succ]
 go_wp2
 go_quiet (fail)
 go_wp2
 generalize hc_ : (a0_0 * a1_4 + c0_3) / 65536 = c0_4
 generalize ho_ : (a0_0 * a1_4 + c0_3) % 65536 = o0_4
 have H0_4 := qa.mk (Step.mk' (o := 0) (p := a0_0 * a1_4) (c := c0_3) (x := a0_0 * a1_4 + c0_3) (by simp only [Int.zero_add, Int.add_zero]) ho_ hc_ (by omega) (by omega) l_ u_ H0_3.out.c0 H0_3.out.c1)
 clear bc0_31 bc0_32
 clear ho_ hc_ l_ u_
 have bo0_41 := H0_4.out.o0
 have bo0_42 := H0_4.out.o1
 have bc0_41 := H0_4.out.c0
 have bc0_42 := H0_4.out.c1
 rw [rounds_succ]
 go_wp2
 try go_quiet (fail)
 try go_wp2
 rw [rounds_succ]
 go_wp2
 refine wp_loop_rounds 6 ?_
 obtain ⟨l_, u_⟩ := jB d0_1.out d1_0.out
 rw [rounds_succ]
 go_wp2
 go_quiet (fail)
 go_wp2
 generalize hc_ : (o0_1 + a0_1 * a1_0) / 65536 = c1_0
 generalize ho_ : (o0_1 + a0_1 * a1_0) % 65536 = o1_0
 have H1_0 := qa.mk (Step.mk' (o := o0_1) (p := a0_1 * a1_0) (c := 0) (x := o0_1 + a0_1 * a1_0) (by simp only [Int.zero_add, Int.add_zero]) ho_ hc_ H0_1.out.o0 H0_1.out.o1 l_ u_ (by omega) (by omega))
 clear bo0_11 bo0_12
 clear ho_ hc_ l_ u_
 have bo1_01 := H1_0.out.o0
 have bo1_02 := H1_0.out.o1
 have bc1_01 := H1_0.out.c0
 have bc1_02 := H1_0.out.c1
 obtain ⟨l_, u_⟩ := jB d0_1.out d1_1.out
 rw [rounds_succ]
 go_wp2
 go_quiet (fail)
 go_wp2
 generalize hc_ : (o0_2 + a0_1 * a1_1 + c1_0) / 65536 = c1_1
 generalize ho_ : (o0_2 + a0_1 * a1_1 + c1_0) % 65536 = o1_1
 have H1_1 := qa.mk (Step.mk' (o := o0_2) (p := a0_1 * a1_1) (c := c1_0) (x := o0_2 + a0_1 * a1_1 + c1_0) (by simp only [Int.zero_add, Int.add_zero]) ho_ hc_ H0_2.out.o0 H0_2.out.o1 l_ u_ H1_0.out.c0 H1_0.out.c1)
 clear bc1_01 bc1_02
 clear bo0_21 bo0_22
 clear ho_ hc_ l_ u_
 have bo1_11 := H1_1.out.o0
 have bo1_12 := H1_1.out.o1
 have bc1_11 := H1_1.out.c0
 have bc1_12 := H1_1.out.c1
 obtain ⟨l_, u_⟩ := jB d0_1.out d1_2.out
 rw [rounds_succ]
 go_wp2
 go_quiet (fail)
 go_wp2
 generalize hc_ : (o0_3 + a0_1 * a1_2 + c1_1) / 65536 = c1_2
 generalize ho_ : (o0_3 + a0_1 * a1_2 + c1_1) % 65536 = o1_2
 have H1_2 := qa.mk (Step.mk' (o := o0_3) (p := a0_1 * a1_2) (c := c1_1) (x := o0_3 + a0_1 * a1_2 + c1_1) (by simp only [Int.zero_add, Int.add_zero]) ho_ hc_ H0_3.out.o0 H0_3.out.o1 l_ u_ H1_1.out.c0 H1_1.out.c1)
 clear bc1_11 bc1_12
 clear bo0_31 bo0_32
 clear ho_ hc_ l_ u_
 have bo1_21 := H1_2.out.o0
 have bo1_22 := H1_2.out.o1
 have bc1_21 := H1_2.out.c0
 have bc1_22 := H1_2.out.c1
 obtain ⟨l_, u_⟩ := jB d0_1.out d1_3.out
 rw [rounds_succ]
 go_wp2
 go_quiet (fail)
 go_wp2
 generalize hc_ : (o0_4 + a0_1 * a1_3 + c1_2) / 65536 = c1_3
 generalize ho_ : (o0_4 + a0_1 * a1_3 + c1_2) % 65536 = o1_3
 have H1_3 := qa.mk (Step.mk' (o := o0_4) (p := a0_1 * a1_3) (c := c1_2) (x := o0_4 + a0_1 * a1_3 + c1_2) (by simp only [Int.zero_add, Int.add_zero]) ho_ hc_ H0_4.out.o0 H0_4.out.o1 l_ u_ H1_2.out.c0 H1_2.out.c1)
 clear bc1_21 bc1_22
 clear bo0_41 bo0_42
 clear ho_ hc_ l_ u_
 have bo1_31 := H1_3.out.o0
 have bo1_32 := H1_3.out.o1
 have bc1_31 := H1_3.out.c0
 have bc1_32 := H1_3.out.c1
 obtain ⟨l_, u_⟩ := jB d0_1.out d1_4.out
 rw [rounds_succ]
 go_wp2
 go_quiet (fail)
 go_wp2
 generalize hc_ : (c0_4 + a0_1 * a1_4 + c1_3) / 65536 = c1_4
 generalize ho_ : (c0_4 + a0_1 * a1_4 + c1_3) % 65536 = o1_4
 have H1_4 := qa.mk (Step.mk' (o := c0_4) (p := a0_1 * a1_4) (c := c1_3) (x := c0_4 + a0_1 * a1_4 + c1_3) (by simp only [Int.zero_add, Int.add_zero]) ho_ hc_ H0_4.out.c0 H0_4.out.c1 l_ u_ H1_3.out.c0 H1_3.out.c1)
 clear bc1_31 bc1_32
 clear bc0_41 bc0_42
 clear ho_ hc_ l_ u_
 have bo1_41 := H1_4.out.o0
 have bo1_42 := H1_4.out.o1
 have bc1_41 := H1_4.out.c0
 have bc1_42 := H1_4.out.c1
 rw [rounds_succ]
 go_wp2
 try go_quiet (fail)
 try go_wp2
 rw [rounds_succ]
 go_wp2
 refine wp_loop_rounds 6 ?_
 obtain ⟨l_, u_⟩ := jB d0_2.out d1_0.out
 rw [rounds_succ]
 go_wp2
 go_quiet (fail)
 go_wp2
 generalize hc_ : (o1_1 + a0_2 * a1_0) / 65536 = c2_0
 generalize ho_ : (o1_1 + a0_2 * a1_0) % 65536 = o2_0
 have H2_0 := qa.mk (Step.mk' (o := o1_1) (p := a0_2 * a1_0) (c := 0) (x := o1_1 + a0_2 * a1_0) (by simp only [Int.zero_add, Int.add_zero]) ho_ hc_ H1_1.out.o0 H1_1.out.o1 l_ u_ (by omega) (by omega))
 clear bo1_11 bo1_12
 clear ho_ hc_ l_ u_
 have bo2_01 := H2_0.out.o0
 have bo2_02 := H2_0.out.o1
 have bc2_01 := H2_0.out.c0
 have bc2_02 := H2_0.out.c1
 obtain ⟨l_, u_⟩ := jB d0_2.out d1_1.out
 rw [rounds_succ]
 go_wp2
 go_quiet (fail)
 go_wp2
 generalize hc_ : (o1_2 + a0_2 * a1_1 + c2_0) / 65536 = c2_1
 generalize ho_ : (o1_2 + a0_2 * a1_1 + c2_0) % 65536 = o2_1
 have H2_1 := qa.mk (Step.mk' (o := o1_2) (p := a0_2 * a1_1) (c := c2_0) (x := o1_2 + a0_2 * a1_1 + c2_0) (by simp only [Int.zero_add, Int.add_zero]) ho_ hc_ H1_2.out.o0 H1_2.out.o1 l_ u_ H2_0.out.c0 H2_0.out.c1)
 clear bc2_01 bc2_02
 clear bo1_21 bo1_22
 clear ho_ hc_ l_ u_
 have bo2_11 := H2_1.out.o0
 have bo2_12 := H2_1.out.o1
 have bc2_11 := H2_1.out.c0
 have bc2_12 := H2_1.out.c1
 obtain ⟨l_, u_⟩ := jB d0_2.out d1_2.out
 rw [rounds_succ]
 go_wp2
 go_quiet (fail)
 go_wp2
 generalize hc_ : (o1_3 + a0_2 * a1_2 + c2_1) / 65536 = c2_2
 generalize ho_ : (o1_3 + a0_2 * a1_2 + c2_1) % 65536 = o2_2
 have H2_2 := qa.mk (Step.mk' (o := o1_3) (p := a0_2 * a1_2) (c := c2_1) (x := o1_3 + a0_2 * a1_2 + c2_1) (by simp only [Int.zero_add, Int.add_zero]) ho_ hc_ H1_3.out.o0 H1_3.out.o1 l_ u_ H2_1.out.c0 H2_1.out.c1)
 clear bc2_11 bc2_12
 clear bo1_31 bo1_32
 clear ho_ hc_ l_ u_
 have bo2_21 := H2_2.out.o0
 have bo2_22 := H2_2.out.o1
 have bc2_21 := H2_2.out.c0
 have bc2_22 := H2_2.out.c1
 obtain ⟨l_, u_⟩ := jB d0_2.out d1_3.out
 rw [rounds_succ]
 go_wp2
 go_quiet (fail)
 go_wp2
 generalize hc_ : (o1_4 + a0_2 * a1_3 + c2_2) / 65536 = c2_3
 generalize ho_ : (o1_4 + a0_2 * a1_3 + c2_2) % 65536 = o2_3
 have H2_3 := qa.mk (Step.mk' (o := o1_4) (p := a0_2 * a1_3) (c := c2_2) (x := o1_4 + a0_2 * a1_3 + c2_2) (by simp only [Int.zero_add, Int.add_zero]) ho_ hc_ H1_4.out.o0 H1_4.out.o1 l_ u_ H2_2.out.c0 H2_2.out.c1)
 clear bc2_21 bc2_22
 clear bo1_41 bo1_42
 clear ho_ hc_ l_ u_
 have bo2_31 := H2_3.out.o0
 have bo2_32 := H2_3.out.o1
 have bc2_31 := H2_3.out.c0
 have bc2_32 := H2_3.out.c1
 obtain ⟨l_, u_⟩ := jB d0_2.out d1_4.out
 rw [rounds_succ]
 go_wp2
 go_quiet (fail)
 go_wp2
 generalize hc_ : (c1_4 + a0_2 * a1_4 + c2_3) / 65536 = c2_4
 generalize ho_ : (c1_4 + a0_2 * a1_4 + c2_3) % 65536 = o2_4
 have H2_4 := qa.mk (Step.mk' (o := c1_4) (p := a0_2 * a1_4) (c := c2_3) (x := c1_4 + a0_2 * a1_4 + c2_3) (by simp only [Int.zero_add, Int.add_zero]) ho_ hc_ H1_4.out.c0 H1_4.out.c1 l_ u_ H2_3.out.c0 H2_3.out.c1)
 clear bc2_31 bc2_32
 clear bc1_41 bc1_42
 clear ho_ hc_ l_ u_
 have bo2_41 := H2_4.out.o0
 have bo2_42 := H2_4.out.o1
 have bc2_41 := H2_4.out.c0
 have bc2_42 := H2_4.out.c1
 rw [rounds_succ]
 go_wp2
 try go_quiet (fail)
 try go_wp2
 rw [rounds_succ]
 go_wp2
 refine wp_loop_rounds 6 ?_
 obtain ⟨l_, u_⟩ := jB d0_3.out d1_0.out
 rw [rounds_succ]
 go_wp2
 go_quiet (fail)
 go_wp2
 generalize hc_ : (o2_1 + a0_3 * a1_0) / 65536 = c3_0
 generalize ho_ : (o2_1 + a0_3 * a1_0) % 65536 = o3_0
 have H3_0 := qa.mk (Step.mk' (o := o2_1) (p := a0_3 * a1_0) (c := 0) (x := o2_1 + a0_3 * a1_0) (by simp only [Int.zero_add, Int.add_zero]) ho_ hc_ H2_1.out.o0 H2_1.out.o1 l_ u_ (by omega) (by omega))
 clear bo2_11 bo2_12
 clear ho_ hc_ l_ u_
 have bo3_01 := H3_0.out.o0
 have bo3_02 := H3_0.out.o1
 have bc3_01 := H3_0.out.c0
 have bc3_02 := H3_0.out.c1
 obtain ⟨l_, u_⟩ := jB d0_3.out d1_1.out
 rw [rounds_succ]
 go_wp2
 go_quiet (fail)
 go_wp2
 generalize hc_ : (o2_2 + a0_3 * a1_1 + c3_0) / 65536 = c3_1
 generalize ho_ : (o2_2 + a0_3 * a1_1 + c3_0) % 65536 = o3_1
 have H3_1 := qa.mk (Step.mk' (o := o2_2) (p := a0_3 * a1_1) (c := c3_0) (x := o2_2 + a0_3 * a1_1 + c3_0) (by simp only [Int.zero_add, Int.add_zero]) ho_ hc_ H2_2.out.o0 H2_2.out.o1 l_ u_ H3_0.out.c0 H3_0.out.c1)
 clear bc3_01 bc3_02
 clear bo2_21 bo2_22
 clear ho_ hc_ l_ u_
 have bo3_11 := H3_1.out.o0
 have bo3_12 := H3_1.out.o1
 have bc3_11 := H3_1.out.c0
 have bc3_12 := H3_1.out.c1
 obtain ⟨l_, u_⟩ := jB d0_3.out d1_2.out
 rw [rounds_succ]
 go_wp2
 go_quiet (fail)
 go_wp2
 generalize hc_ : (o2_3 + a0_3 * a1_2 + c3_1) / 65536 = c3_2
 generalize ho_ : (o2_3 + a0_3 * a1_2 + c3_1) % 65536 = o3_2
 have H3_2 := qa.mk (Step.mk' (o := o2_3) (p := a0_3 * a1_2) (c := c3_1) (x := o2_3 + a0_3 * a1_2 + c3_1) (by simp only [Int.zero_add, Int.add_zero]) ho_ hc_ H2_3.out.o0 H2_3.out.o1 l_ u_ H3_1.out.c0 H3_1.out.c1)
 clear bc3_11 bc3_12
 clear bo2_31 bo2_32
 clear ho_ hc_ l_ u_
 have bo3_21 := H3_2.out.o0
 have bo3_22 := H3_2.out.o1
 have bc3_21 := H3_2.out.c0
 have bc3_22 := H3_2.out.c1
 obtain ⟨l_, u_⟩ := jB d0_3.out d1_3.out
 rw [rounds_succ]
 go_wp2
 go_quiet (fail)
 go_wp2
 generalize hc_ : (o2_4 + a0_3 * a1_3 + c3_2) / 65536 = c3_3
 generalize ho_ : (o2_4 + a0_3 * a1_3 + c3_2) % 65536 = o3_3
 have H3_3 := qa.mk (Step.mk' (o := o2_4) (p := a0_3 * a1_3) (c := c3_2) (x := o2_4 + a0_3 * a1_3 + c3_2) (by simp only [Int.zero_add, Int.add_zero]) ho_ hc_ H2_4.out.o0 H2_4.out.o1 l_ u_ H3_2.out.c0 H3_2.out.c1)
 clear bc3_21 bc3_22
 clear bo2_41 bo2_42
 clear ho_ hc_ l_ u_
 have bo3_31 := H3_3.out.o0
 have bo3_32 := H3_3.out.o1
 have bc3_31 := H3_3.out.c0
 have bc3_32 := H3_3.out.c1
 obtain ⟨l_, u_⟩ := jB d0_3.out d1_4.out
 rw [rounds_succ]
 go_wp2
 go_quiet (fail)
 go_wp2
 generalize hc_ : (c2_4 + a0_3 * a1_4 + c3_3) / 65536 = c3_4
 generalize ho_ : (c2_4 + a0_3 * a1_4 + c3_3) % 65536 = o3_4
 have H3_4 := qa.mk (Step.mk' (o := c2_4) (p := a0_3 * a1_4) (c := c3_3) (x := c2_4 + a0_3 * a1_4 + c3_3) (by simp only [Int.zero_add, Int.add_zero]) ho_ hc_ H2_4.out.c0 H2_4.out.c1 l_ u_ H3_3.out.c0 H3_3.out.c1)
 clear bc3_31 bc3_32
 clear bc2_41 bc2_42
 clear ho_ hc_ l_ u_
 have bo3_41 := H3_4.out.o0
 have bo3_42 := H3_4.out.o1
 have bc3_41 := H3_4.out.c0
 have bc3_42 := H3_4.out.c1
 rw [rounds_succ]
 go_wp2
 try go_quiet (fail)
 try go_wp2
 rw [rounds_succ]
 go_wp2
 refine wp_loop_rounds 6 ?_
 obtain ⟨l_, u_⟩ := jB d0_4.out d1_0.out
 rw [rounds_succ]
 go_wp2
 go_quiet (fail)
 go_wp2
 generalize hc_ : (o3_1 + a0_4 * a1_0) / 65536 = c4_0
 generalize ho_ : (o3_1 + a0_4 * a1_0) % 65536 = o4_0
 have H4_0 := qa.mk (Step.mk' (o := o3_1) (p := a0_4 * a1_0) (c := 0) (x := o3_1 + a0_4 * a1_0) (by simp only [Int.zero_add, Int.add_zero]) ho_ hc_ H3_1.out.o0 H3_1.out.o1 l_ u_ (by omega) (by omega))
 clear bo3_11 bo3_12
 clear ho_ hc_ l_ u_
 have bo4_01 := H4_0.out.o0
 have bo4_02 := H4_0.out.o1
 have bc4_01 := H4_0.out.c0
 have bc4_02 := H4_0.out.c1
 obtain ⟨l_, u_⟩ := jB d0_4.out d1_1.out
 rw [rounds_succ]
 go_wp2
 go_quiet (fail)
 go_wp2
 generalize hc_ : (o3_2 + a0_4 * a1_1 + c4_0) / 65536 = c4_1
 generalize ho_ : (o3_2 + a0_4 * a1_1 + c4_0) % 65536 = o4_1
 have H4_1 := qa.mk (Step.mk' (o := o3_2) (p := a0_4 * a1_1) (c := c4_0) (x := o3_2 + a0_4 * a1_1 + c4_0) (by simp only [Int.zero_add, Int.add_zero]) ho_ hc_ H3_2.out.o0 H3_2.out.o1 l_ u_ H4_0.out.c0 H4_0.out.c1)
 clear bc4_01 bc4_02
 clear bo3_21 bo3_22
 clear ho_ hc_ l_ u_
 have bo4_11 := H4_1.out.o0
 have bo4_12 := H4_1.out.o1
 have bc4_11 := H4_1.out.c0
 have bc4_12 := H4_1.out.c1
 obtain ⟨l_, u_⟩ := jB d0_4.out d1_2.out
 rw [rounds_succ]
 go_wp2
 go_quiet (fail)
 go_wp2
 generalize hc_ : (o3_3 + a0_4 * a1_2 + c4_1) / 65536 = c4_2
 generalize ho_ : (o3_3 + a0_4 * a1_2 + c4_1) % 65536 = o4_2
 have H4_2 := qa.mk (Step.mk' (o := o3_3) (p := a0_4 * a1_2) (c := c4_1) (x := o3_3 + a0_4 * a1_2 + c4_1) (by simp only [Int.zero_add, Int.add_zero]) ho_ hc_ H3_3.out.o0 H3_3.out.o1 l_ u_ H4_1.out.c0 H4_1.out.c1)
 clear bc4_11 bc4_12
 clear bo3_31 bo3_32
 clear ho_ hc_ l_ u_
 have bo4_21 := H4_2.out.o0
 have bo4_22 := H4_2.out.o1
 have bc4_21 := H4_2.out.c0
 have bc4_22 := H4_2.out.c1
 obtain ⟨l_, u_⟩ := jB d0_4.out d1_3.out
 rw [rounds_succ]
 go_wp2
 go_quiet (fail)
 go_wp2
 generalize hc_ : (o3_4 + a0_4 * a1_3 + c4_2) / 65536 = c4_3
 generalize ho_ : (o3_4 + a0_4 * a1_3 + c4_2) % 65536 = o4_3
 have H4_3 := qa.mk (Step.mk' (o := o3_4) (p := a0_4 * a1_3) (c := c4_2) (x := o3_4 + a0_4 * a1_3 + c4_2) (by simp only [Int.zero_add, Int.add_zero]) ho_ hc_ H3_4.out.o0 H3_4.out.o1 l_ u_ H4_2.out.c0 H4_2.out.c1)
 clear bc4_21 bc4_22
 clear bo3_41 bo3_42
 clear ho_ hc_ l_ u_
 have bo4_31 := H4_3.out.o0
 have bo4_32 := H4_3.out.o1
 have bc4_31 := H4_3.out.c0
 have bc4_32 := H4_3.out.c1
 obtain ⟨l_, u_⟩ := jB d0_4.out d1_4.out
 rw [rounds_succ]
 go_wp2
 go_quiet (fail)
 go_wp2
 generalize hc_ : (c3_4 + a0_4 * a1_4 + c4_3) / 65536 = c4_4
 generalize ho_ : (c3_4 + a0_4 * a1_4 + c4_3) % 65536 = o4_4
 have H4_4 := qa.mk (Step.mk' (o := c3_4) (p := a0_4 * a1_4) (c := c4_3) (x := c3_4 + a0_4 * a1_4 + c4_3) (by simp only [Int.zero_add, Int.add_zero]) ho_ hc_ H3_4.out.c0 H3_4.out.c1 l_ u_ H4_3.out.c0 H4_3.out.c1)
 clear bc4_31 bc4_32
 clear bc3_41 bc3_42
 clear ho_ hc_ l_ u_
 have bo4_41 := H4_4.out.o0
 have bo4_42 := H4_4.out.o1
 have bc4_41 := H4_4.out.c0
 have bc4_42 := H4_4.out.c1
 rw [rounds_succ]
 go_wp2
 try go_quiet (fail)
 try go_wp2
 rw [rounds_succ]
 go_wp2
 have V := times_all (ZX H0_0.out H0_1.out H0_2.out H0_3.out H0_4.out) (ZX H1_0.out H1_1.out H1_2.out H1_3.out H1_4.out) (ZX H2_0.out H2_1.out H2_2.out H2_3.out H2_4.out) (ZX H3_0.out H3_1.out H3_2.out H3_3.out H3_4.out) (ZX H4_0.out H4_1.out H4_2.out H4_3.out H4_4.out)
 have G := digs_val10 H0_0.out.dig H1_0.out.dig H2_0.out.dig H3_0.out.dig H4_0.out.dig H4_1.out.dig H4_2.out.dig H4_3.out.dig H4_4.out.dig H4_4.out.digc
 rw [V] at G
 exact bodyPost_ret (v := .agg #[.int .i64 o0_0, .int .i64 o1_0, .int .i64 o2_0, .int .i64 o3_0, .int .i64 o4_0, .int .i64 o4_1, .int .i64 o4_2, .int .i64 o4_3, .int .i64 o4_4, .int .i64 c4_4]) (by simp [results, Try.results69, go_sem]) rfl ⟨_, _, _, _, _, _, _, _, _, _, G, rfl, by repeat (first | exact Below.refl _ _ | apply qw | apply qC)⟩
end
def ze.f (a0_0 a0_1 a0_2 a0_3 a0_4 a0_5 a0_6 a0_7 a0_8 a0_9 a1_0 a1_1 a1_2 a1_3 a1_4 a1_5 a1_6 a1_7 a1_8 a1_9 : Int) : Option (Int × Int × Int × Int × Int × Int × Int × Int × Int × Int) := timesL a0_0 a0_1 a0_2 a0_3 a0_4 a1_0 a1_1 a1_2 a1_3 a1_4
theorem ze.calls (a0_0 a0_1 a0_2 a0_3 a0_4 a0_5 a0_6 a0_7 a0_8 a0_9 a1_0 a1_1 a1_2 a1_3 a1_4 a1_5 a1_6 a1_7 a1_8 a1_9 : Int) (r1 : Int) (r2 : Int) (r3 : Int) (r4 : Int) (r5 : Int) (r6 : Int) (r7 : Int) (r8 : Int) (r9 : Int) (r10 : Int) (w : World) (h : ze.f a0_0 a0_1 a0_2 a0_3 a0_4 a0_5 a0_6 a0_7 a0_8 a0_9 a1_0 a1_1 a1_2 a1_3 a1_4 a1_5 a1_6 a1_7 a1_8 a1_9 = some (r1, r2, r3, r4, r5, r6, r7, r8, r9, r10)) :
  Calls Try.prog 69 #[.agg #[.int .i64 a0_0, .int .i64 a0_1, .int .i64 a0_2, .int .i64 a0_3, .int .i64 a0_4, .int .i64 a0_5, .int .i64 a0_6, .int .i64 a0_7, .int .i64 a0_8, .int .i64 a0_9], .agg #[.int .i64 a1_0, .int .i64 a1_1, .int .i64 a1_2, .int .i64 a1_3, .int .i64 a1_4, .int .i64 a1_5, .int .i64 a1_6, .int .i64 a1_7, .int .i64 a1_8, .int .i64 a1_9]] w fun e w' => e = .returned (.agg #[.int .i64 r1, .int .i64 r2, .int .i64 r3, .int .i64 r4, .int .i64 r5, .int .i64 r6, .int .i64 r7, .int .i64 r8, .int .i64 r9, .int .i64 r10]) ∧ Below w.heap.size w w' := by
 unfold ze.f timesL at h
 split at h
 ·rename_i hd
  simp only [ZG, List.all_cons, List.all_nil, Bool.and_true, Bool.and_eq_true] at hd
  obtain ⟨d0, d1, d2, d3, d4, d5, d6, d7, d8, d9⟩ := hd
  have hv := Option.some.inj h
  refine (times_walk a0_0 a0_1 a0_2 a0_3 a0_4 a0_5 a0_6 a0_7 a0_8 a0_9 a1_0 a1_1 a1_2 a1_3 a1_4 a1_5 a1_6 a1_7 a1_8 a1_9 ⟨d0⟩ ⟨d1⟩ ⟨d2⟩ ⟨d3⟩ ⟨d4⟩ ⟨d5⟩ ⟨d6⟩ ⟨d7⟩ ⟨d8⟩ ⟨d9⟩ w).mono ?_
  rintro e w' ⟨r0', r1', r2', r3', r4', r5', r6', r7', r8', r9', hr, he, hb⟩
  rw [hv] at hr
  simp only [Prod.mk.injEq] at hr
  obtain ⟨rfl, rfl, rfl, rfl, rfl, rfl, rfl, rfl, rfl, rfl⟩ := hr
  exact ⟨he, hb⟩
 exact absurd h (by simp)
end Go.Proofs.Ytmlkpadlafjfeaa.P
