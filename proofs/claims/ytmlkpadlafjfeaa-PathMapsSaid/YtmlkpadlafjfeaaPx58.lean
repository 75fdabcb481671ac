import Derived.Test.YtmlkpadlafjfeaaPx90
import Derived.Test.YtmlkpadlafjfeaaPx54
namespace Go.Proofs.Ytmlkpadlafjfeaa.P
open Go.RowKit Go.Proofs.YtmlkpadlafjfeaaW.PrintWords Go.Proofs.YtmlkpadlafjfeaaW.PrintLast Go.Proofs.YtmlkpadlafjfeaaW.PrintMore
attribute [local go_sem] zH zK zU zT zB zC zJ zI
set_option linter.unusedVariables false
set_option linter.unusedSimpArgs false
def qB.l0 : Nat → Int → Int → Int → Int → Int → Int → Int → Int → Int → Int → Int → Int → Int → Int → Int → Int → Int → Int → Int → Int → Int → Int → Int → Int → Int → Int → Int → Int → Int → Int → Int → Int → Option (Int)
 | 0, _, _, _, _, _, _, _, _, _, _, _, _, _, _, _, _, _, _, _, _, _, _, _, _, _, _, _, _, _, _, _, _ => none
 | k + 1, x6, x7, x541000, x541001, x541002, x541003, x541004, x541005, x541006, x541007, x541008, x541009, x542000, x542001, x542002, x542003, x542004, x542005, x542006, x542007, x542008, x542009, x553000, x553001, x553002, x553003, x553004, x553005, x553006, x553007, x553008, x553009 => if x7 > 0 then ((qV.f (wrap64 (x6 + x7))).bind fun bt553 => ((ze.f bt553.1 bt553.2.1 bt553.2.2.1 bt553.2.2.2.1 bt553.2.2.2.2.1 bt553.2.2.2.2.2.1 bt553.2.2.2.2.2.2.1 bt553.2.2.2.2.2.2.2.1 bt553.2.2.2.2.2.2.2.2.1 bt553.2.2.2.2.2.2.2.2.2 x553000 x553001 x553002 x553003 x553004 x553005 x553006 x553007 x553008 x553009).bind fun bt563 => ((ze.f bt563.1 bt563.2.1 bt563.2.2.1 bt563.2.2.2.1 bt563.2.2.2.2.1 bt563.2.2.2.2.2.1 bt563.2.2.2.2.2.2.1 bt563.2.2.2.2.2.2.2.1 bt563.2.2.2.2.2.2.2.2.1 bt563.2.2.2.2.2.2.2.2.2 x542000 x542001 x542002 x542003 x542004 x542005 x542006 x542007 x542008 x542009).bind fun bt573 => ((jc.f x541000 x541001 x541002 x541003 x541004 x541005 x541006 x541007 x541008 x541009 x541000 x541001 x541002 x541003 x541004 x541005 x541006 x541007 x541008 x541009).bind fun bt584 => ((jc.f bt584.1 bt584.2.1 bt584.2.2.1 bt584.2.2.2.1 bt584.2.2.2.2.1 bt584.2.2.2.2.2.1 bt584.2.2.2.2.2.2.1 bt584.2.2.2.2.2.2.2.1 bt584.2.2.2.2.2.2.2.2.1 bt584.2.2.2.2.2.2.2.2.2 x542000 x542001 x542002 x542003 x542004 x542005 x542006 x542007 x542008 x542009).bind fun bt594 => ((zw.f bt594.1 bt594.2.1 bt594.2.2.1 bt594.2.2.2.1 bt594.2.2.2.2.1 bt594.2.2.2.2.2.1 bt594.2.2.2.2.2.2.1 bt594.2.2.2.2.2.2.2.1 bt594.2.2.2.2.2.2.2.2.1 bt594.2.2.2.2.2.2.2.2.2 bt573.1 bt573.2.1 bt573.2.2.1 bt573.2.2.2.1 bt573.2.2.2.2.1 bt573.2.2.2.2.2.1 bt573.2.2.2.2.2.2.1 bt573.2.2.2.2.2.2.2.1 bt573.2.2.2.2.2.2.2.2.1 bt573.2.2.2.2.2.2.2.2.2).bind fun t604 => (if t604 = true then (qB.l0 k x6 (wrap64 (Int.tdiv x7 2)) x541000 x541001 x541002 x541003 x541004 x541005 x541006 x541007 x541008 x541009 x542000 x542001 x542002 x542003 x542004 x542005 x542006 x542007 x542008 x542009 x553000 x553001 x553002 x553003 x553004 x553005 x553006 x553007 x553008 x553009) else (qB.l0 k (wrap64 (x6 + x7)) (wrap64 (Int.tdiv x7 2)) x541000 x541001 x541002 x541003 x541004 x541005 x541006 x541007 x541008 x541009 x542000 x542001 x542002 x542003 x542004 x542005 x542006 x542007 x542008 x542009 x553000 x553001 x553002 x553003 x553004 x553005 x553006 x553007 x553008 x553009)))))))) else (some x6)
def qB.f (k : Nat) (a0_0 : Int) (a0_1 : Int) (a0_2 : Int) (a0_3 : Int) (a0_4 : Int) (a0_5 : Int) (a0_6 : Int) (a0_7 : Int) (a0_8 : Int) (a0_9 : Int) (a1_0 : Int) (a1_1 : Int) (a1_2 : Int) (a1_3 : Int) (a1_4 : Int) (a1_5 : Int) (a1_6 : Int) (a1_7 : Int) (a1_8 : Int) (a1_9 : Int) : Option (Int) := (qV.f 2).bind fun bt542 => (qB.l0 k 0 2147483648 a0_0 a0_1 a0_2 a0_3 a0_4 a0_5 a0_6 a0_7 a0_8 a0_9 a1_0 a1_1 a1_2 a1_3 a1_4 a1_5 a1_6 a1_7 a1_8 a1_9 bt542.1 bt542.2.1 bt542.2.2.1 bt542.2.2.2.1 bt542.2.2.2.2.1 bt542.2.2.2.2.2.1 bt542.2.2.2.2.2.2.1 bt542.2.2.2.2.2.2.2.1 bt542.2.2.2.2.2.2.2.2.1 bt542.2.2.2.2.2.2.2.2.2)
theorem qB.zW : ∀ k, (∀ y0 y1 y2 y3 y4 y5 y6 y7 y8 y9 y10 y11 y12 y13 y14 y15 y16 y17 y18 y19 y20 y21 y22 y23 y24 y25 y26 y27 y28 y29 y30 y31, LeO (qB.l0 k y0 y1 y2 y3 y4 y5 y6 y7 y8 y9 y10 y11 y12 y13 y14 y15 y16 y17 y18 y19 y20 y21 y22 y23 y24 y25 y26 y27 y28 y29 y30 y31) (qB.l0 (k + 1) y0 y1 y2 y3 y4 y5 y6 y7 y8 y9 y10 y11 y12 y13 y14 y15 y16 y17 y18 y19 y20 y21 y22 y23 y24 y25 y26 y27 y28 y29 y30 y31))
 | 0 => fun _ _ _ _ _ _ _ _ _ _ _ _ _ _ _ _ _ _ _ _ _ _ _ _ _ _ _ _ _ _ _ _ r h => by simp [qB.l0] at h
 | k + 1 => by
  have ih0 := qB.zW k
  ·intro y0 y1 y2 y3 y4 y5 y6 y7 y8 y9 y10 y11 y12 y13 y14 y15 y16 y17 y18 y19 y20 y21 y22 y23 y24 y25 y26 y27 y28 y29 y30 y31
   unfold qB.l0
   repeat' first
   | (with_reducible exact ih0 _ _ _ _ _ _ _ _ _ _ _ _ _ _ _ _ _ _ _ _ _ _ _ _ _ _ _ _ _ _ _ _)
   | (with_reducible exact LeO.refl _)
   | (with_reducible exact LeO.none _)
   | (with_reducible refine LeO.ite ?_ ?_)
   | (with_reducible refine LeO.bind ?_ (fun _ => ?_))
   | exact ih0 _ _ _ _ _ _ _ _ _ _ _ _ _ _ _ _ _ _ _ _ _ _ _ _ _ _ _ _ _ _ _ _
   | exact LeO.none _
   | refine LeO.ite ?_ ?_
   | refine LeO.bind ?_ (fun _ => ?_)
theorem qB.mono : ∀ a0 a1 a2 a3 a4 a5 a6 a7 a8 a9 a10 a11 a12 a13 a14 a15 a16 a17 a18 a19 k, LeO (qB.f k a0 a1 a2 a3 a4 a5 a6 a7 a8 a9 a10 a11 a12 a13 a14 a15 a16 a17 a18 a19) (qB.f (k + 1) a0 a1 a2 a3 a4 a5 a6 a7 a8 a9 a10 a11 a12 a13 a14 a15 a16 a17 a18 a19) := by
 intro a0 a1 a2 a3 a4 a5 a6 a7 a8 a9 a10 a11 a12 a13 a14 a15 a16 a17 a18 a19 k
 have ih0 := qB.zW k
 unfold qB.f
 repeat' first
   | (with_reducible exact ih0 _ _ _ _ _ _ _ _ _ _ _ _ _ _ _ _ _ _ _ _ _ _ _ _ _ _ _ _ _ _ _ _)
   | (with_reducible exact LeO.refl _)
   | (with_reducible exact LeO.none _)
   | (with_reducible refine LeO.ite ?_ ?_)
   | (with_reducible refine LeO.bind ?_ (fun _ => ?_))
   | exact ih0 _ _ _ _ _ _ _ _ _ _ _ _ _ _ _ _ _ _ _ _ _ _ _ _ _ _ _ _ _ _ _ _
   | exact LeO.none _
   | refine LeO.ite ?_ ?_
   | refine LeO.bind ?_ (fun _ => ?_)
def qB.T7 : Bool × List (List Nat × List Nat) := (true, [([], []), ([0], [0]), ([], []), ([1, 2, 1], [1, 2]), ([], []), ([3, 4, 3], [3, 4]), ([], []), ([6, 5, 5, 0, 1, 2, 3, 4, 5, 6], [5, 6])])
def qB.B7 : List Nat := [0, 1, 0, 7, 0, 31, 0, 127]
theorem qB.tab7 : rtab .any (opsOf Try.f72 7) = qB.T7 := by kernel_rfl
theorem qB.bits7 : Q0 qB.T7.2 qB.B7 = true := by kernel_rfl
def qB.T8 : Bool × List (List Nat × List Nat) := (true, [([], []), ([], []), ([0, 1], [0, 1]), ([], []), ([2, 3, 2], [2, 3]), ([], []), ([4, 5, 4], [4, 5]), ([6], [6])])
def qB.B8 : List Nat := [0, 0, 3, 0, 15, 0, 63, 127]
theorem qB.tab8 : rtab .any (opsOf Try.f72 8) = qB.T8 := by kernel_rfl
theorem qB.bits8 : Q0 qB.T8.2 qB.B8 = true := by kernel_rfl
set_option maxHeartbeats 8000000 in
set_option maxRecDepth 100000 in
theorem qB.calls (k : Nat) (a0_0 : Int) (a0_1 : Int) (a0_2 : Int) (a0_3 : Int) (a0_4 : Int) (a0_5 : Int) (a0_6 : Int) (a0_7 : Int) (a0_8 : Int) (a0_9 : Int) (a1_0 : Int) (a1_1 : Int) (a1_2 : Int) (a1_3 : Int) (a1_4 : Int) (a1_5 : Int) (a1_6 : Int) (a1_7 : Int) (a1_8 : Int) (a1_9 : Int) (r : Int) (w : World) (h : qB.f k a0_0 a0_1 a0_2 a0_3 a0_4 a0_5 a0_6 a0_7 a0_8 a0_9 a1_0 a1_1 a1_2 a1_3 a1_4 a1_5 a1_6 a1_7 a1_8 a1_9 = some r) :
  Calls Try.prog 72 #[.agg #[.int .i64 a0_0, .int .i64 a0_1, .int .i64 a0_2, .int .i64 a0_3, .int .i64 a0_4, .int .i64 a0_5, .int .i64 a0_6, .int .i64 a0_7, .int .i64 a0_8, .int .i64 a0_9], .agg #[.int .i64 a1_0, .int .i64 a1_1, .int .i64 a1_2, .int .i64 a1_3, .int .i64 a1_4, .int .i64 a1_5, .int .i64 a1_6, .int .i64 a1_7, .int .i64 a1_8, .int .i64 a1_9]] w fun e w' => e = .returned (.int .i64 r) ∧ Below w.heap.size w w' := by
 have hu116 := Try.underlying116
 have HB := qa.mk (Below.refl w.heap.size w)
 have H : ((qV.f 2).bind fun bt542 => (qB.l0 k 0 2147483648 a0_0 a0_1 a0_2 a0_3 a0_4 a0_5 a0_6 a0_7 a0_8 a0_9 a1_0 a1_1 a1_2 a1_3 a1_4 a1_5 a1_6 a1_7 a1_8 a1_9 bt542.1 bt542.2.1 bt542.2.2.1 bt542.2.2.2.1 bt542.2.2.2.2.1 bt542.2.2.2.2.2.1 bt542.2.2.2.2.2.2.1 bt542.2.2.2.2.2.2.2.1 bt542.2.2.2.2.2.2.2.2.1 bt542.2.2.2.2.2.2.2.2.2)) = some r := h
 clear h
 replace H := Option.bind_eq_some_iff.mp H
 obtain ⟨⟨t542, t543, t544, t545, t546, t547, t548, t549, t550, t551⟩, A30, H⟩ := H
 replace H : (qB.l0 k 0 2147483648 a0_0 a0_1 a0_2 a0_3 a0_4 a0_5 a0_6 a0_7 a0_8 a0_9 a1_0 a1_1 a1_2 a1_3 a1_4 a1_5 a1_6 a1_7 a1_8 a1_9 t542 t543 t544 t545 t546 t547 t548 t549 t550 t551) = some r := H
 have A3 := qa.mk A30
 clear A30
 have H' := qa.mk H
 clear H
 go_enter Try.func72, Try.ntmps72
 go_wp2_with (first | ((with_reducible refine zl (N := 2) rfl ?_); refine zF ?hg (N := 2) ?hd (cs := #[.int .i64 a0_0, .int .i64 a0_1, .int .i64 a0_2, .int .i64 a0_3, .int .i64 a0_4, .int .i64 a0_5, .int .i64 a0_6, .int .i64 a0_7, .int .i64 a0_8, .int .i64 a0_9]) (t := 116) ?hr ?_; (case hd => rfl); (case hg => rfl); (case hr => first | (go_simp; done) | (go_simp; rfl)); intro gb540 hg w4 hbox hb; have n0_ := qa.mk (qh (bq HB) hb); have n1_ := qa.mk (hbox); have n2_ := qa.mk ((by rw [hg]; exact (qx (bq HB)) : w.heap.size ≤ gb540)); have n3_ := qa.mk ((by rw [hg]; exact (qx (bq HB)) : w.heap.size ≤ gb540)); clear HB; have HB := n0_; have BK540 := n1_; have GW540 := n2_; have GE540 := n3_; clear n0_ n1_ n2_ n3_; clear hb hbox hg) | ((with_reducible refine zl (N := 3) rfl ?_); refine zF ?hg (N := 3) ?hd (cs := #[.int .i64 a1_0, .int .i64 a1_1, .int .i64 a1_2, .int .i64 a1_3, .int .i64 a1_4, .int .i64 a1_5, .int .i64 a1_6, .int .i64 a1_7, .int .i64 a1_8, .int .i64 a1_9]) (t := 116) ?hr ?_; (case hd => rfl); (case hg => rfl); (case hr => first | (go_simp; done) | (go_simp; rfl)); intro gb541 hg w5 hbox hb; have n0_ := qa.mk (qF (g := gb540) (o := .cells #[.int .i64 a0_0, .int .i64 a0_1, .int .i64 a0_2, .int .i64 a0_3, .int .i64 a0_4, .int .i64 a0_5, .int .i64 a0_6, .int .i64 a0_7, .int .i64 a0_8, .int .i64 a0_9] 116 (0, 0)) (kq BK540) hb); have n1_ := qa.mk (qh (bs HB GE540) hb); have n2_ := qa.mk (hbox); have n3_ := qa.mk ((by rw [hg]; exact (qx (bs HB GE540)) : w.heap.size ≤ gb541)); have n4_ := qa.mk ((by rw [hg]; exact (qx (bs HB GE540)) : w.heap.size ≤ gb541)); have n5_ := qa.mk ((by rw [hg]; exact Nat.ne_of_lt (qy (g := gb540) (o := .cells #[.int .i64 a0_0, .int .i64 a0_1, .int .i64 a0_2, .int .i64 a0_3, .int .i64 a0_4, .int .i64 a0_5, .int .i64 a0_6, .int .i64 a0_7, .int .i64 a0_8, .int .i64 a0_9] 116 (0, 0)) (kq BK540)) : gb540 ≠ gb541)); have n6_ := qa.mk ((by rw [hg]; exact Nat.ne_of_gt (qy (g := gb540) (o := .cells #[.int .i64 a0_0, .int .i64 a0_1, .int .i64 a0_2, .int .i64 a0_3, .int .i64 a0_4, .int .i64 a0_5, .int .i64 a0_6, .int .i64 a0_7, .int .i64 a0_8, .int .i64 a0_9] 116 (0, 0)) (kq BK540)) : gb541 ≠ gb540)); clear BK540; clear HB; have BK540 := n0_; have HB := n1_; have BK541 := n2_; have GW541 := n3_; have GE541 := n4_; have NB540_541 := n5_; have NB541_540 := n6_; clear n0_ n1_ n2_ n3_ n4_ n5_ n6_; clear hb hbox hg) | ((with_reducible refine zf (f := 70) rfl ?_); refine zR (some 10) rfl rfl Try.func70 (by kernel_rfl) rfl #[.int .i64 2] rfl (by (try simp only [List.map_toArray, List.map_cons, List.map_nil]); first | done | rfl | (simp only [List.length_drop, List.length_take]; rfl)) ?_; (with_reducible refine (qV.calls 2 t542 t543 t544 t545 t546 t547 t548 t549 t550 t551 _ A3.out).mono ?_); rintro e w6 ⟨rfl, hb⟩; refine ⟨_, rfl, ?_⟩; have n0_ := qa.mk (qF (g := gb540) (o := .cells #[.int .i64 a0_0, .int .i64 a0_1, .int .i64 a0_2, .int .i64 a0_3, .int .i64 a0_4, .int .i64 a0_5, .int .i64 a0_6, .int .i64 a0_7, .int .i64 a0_8, .int .i64 a0_9] 116 (0, 0)) (kq BK540) hb); have n1_ := qa.mk (qF (g := gb541) (o := .cells #[.int .i64 a1_0, .int .i64 a1_1, .int .i64 a1_2, .int .i64 a1_3, .int .i64 a1_4, .int .i64 a1_5, .int .i64 a1_6, .int .i64 a1_7, .int .i64 a1_8, .int .i64 a1_9] 116 (0, 0)) (kq BK541) hb); have n2_ := qa.mk (qh (by repeat (first | (with_reducible first | exact HB.out | apply qw | apply qC | apply qJ | refine qf ?_ GE540.out | refine qf ?_ GE541.out) | exact HB.out)) hb); clear BK540; clear BK541; clear HB; have BK540 := n0_; have BK541 := n1_; have HB := n2_; clear n0_ n1_ n2_; (try clear hb); (try clear hb2); (try clear hk); (try clear hi)) | ((with_reducible refine zl (N := 5) rfl ?_); refine zF ?hg (N := 5) ?hd (cs := #[.int .i64 0, .int .i64 0, .int .i64 0, .int .i64 0, .int .i64 0, .int .i64 0, .int .i64 0, .int .i64 0, .int .i64 0, .int .i64 0]) (t := 116) ?hr ?_; (case hd => rfl); (case hg => rfl); (case hr => first | (go_simp; done) | (go_simp; rfl)); intro gb552 hg w7 hbox hb; have n0_ := qa.mk (qF (g := gb540) (o := .cells #[.int .i64 a0_0, .int .i64 a0_1, .int .i64 a0_2, .int .i64 a0_3, .int .i64 a0_4, .int .i64 a0_5, .int .i64 a0_6, .int .i64 a0_7, .int .i64 a0_8, .int .i64 a0_9] 116 (0, 0)) (kq BK540) hb); have n1_ := qa.mk (qF (g := gb541) (o := .cells #[.int .i64 a1_0, .int .i64 a1_1, .int .i64 a1_2, .int .i64 a1_3, .int .i64 a1_4, .int .i64 a1_5, .int .i64 a1_6, .int .i64 a1_7, .int .i64 a1_8, .int .i64 a1_9] 116 (0, 0)) (kq BK541) hb); have n2_ := qa.mk (qh (by repeat (first | (with_reducible first | exact HB.out | apply qw | apply qC | apply qJ | refine qf ?_ GE540.out | refine qf ?_ GE541.out) | exact HB.out)) hb); have n3_ := qa.mk (hbox); have n4_ := qa.mk ((by rw [hg]; exact (qx (by repeat (first | (with_reducible first | exact HB.out | apply qw | apply qC | apply qJ | refine qf ?_ GE540.out | refine qf ?_ GE541.out) | exact HB.out))) : w.heap.size ≤ gb552)); have n5_ := qa.mk ((by rw [hg]; exact (qx (by repeat (first | (with_reducible first | exact HB.out | apply qw | apply qC | apply qJ | refine qf ?_ GE540.out | refine qf ?_ GE541.out) | exact HB.out))) : w.heap.size ≤ gb552)); have n6_ := qa.mk ((by rw [hg]; exact Nat.ne_of_lt (qy (g := gb540) (o := .cells #[.int .i64 a0_0, .int .i64 a0_1, .int .i64 a0_2, .int .i64 a0_3, .int .i64 a0_4, .int .i64 a0_5, .int .i64 a0_6, .int .i64 a0_7, .int .i64 a0_8, .int .i64 a0_9] 116 (0, 0)) (kq BK540)) : gb540 ≠ gb552)); have n7_ := qa.mk ((by rw [hg]; exact Nat.ne_of_gt (qy (g := gb540) (o := .cells #[.int .i64 a0_0, .int .i64 a0_1, .int .i64 a0_2, .int .i64 a0_3, .int .i64 a0_4, .int .i64 a0_5, .int .i64 a0_6, .int .i64 a0_7, .int .i64 a0_8, .int .i64 a0_9] 116 (0, 0)) (kq BK540)) : gb552 ≠ gb540)); have n8_ := qa.mk ((by rw [hg]; exact Nat.ne_of_lt (qy (g := gb541) (o := .cells #[.int .i64 a1_0, .int .i64 a1_1, .int .i64 a1_2, .int .i64 a1_3, .int .i64 a1_4, .int .i64 a1_5, .int .i64 a1_6, .int .i64 a1_7, .int .i64 a1_8, .int .i64 a1_9] 116 (0, 0)) (kq BK541)) : gb541 ≠ gb552)); have n9_ := qa.mk ((by rw [hg]; exact Nat.ne_of_gt (qy (g := gb541) (o := .cells #[.int .i64 a1_0, .int .i64 a1_1, .int .i64 a1_2, .int .i64 a1_3, .int .i64 a1_4, .int .i64 a1_5, .int .i64 a1_6, .int .i64 a1_7, .int .i64 a1_8, .int .i64 a1_9] 116 (0, 0)) (kq BK541)) : gb552 ≠ gb541)); clear BK540; clear BK541; clear HB; have BK540 := n0_; have BK541 := n1_; have HB := n2_; have BK552 := n3_; have GW552 := n4_; have GE552 := n5_; have NB540_552 := n6_; have NB552_540 := n7_; have NB541_552 := n8_; have NB552_541 := n9_; clear n0_ n1_ n2_ n3_ n4_ n5_ n6_ n7_ n8_ n9_; clear hb hbox hg; have hnb8 := NB552_540.out; have hnc8 := NB540_552.out; have hnb9 := NB552_541.out; have hnc9 := NB541_552.out; have hcz10_0 : w7.cell? ⟨gb552, 0, none⟩ = some (.int .i64 0) := (qb BK552.out 0).trans rfl; have hcz10_1 : w7.cell? ⟨gb552, 1, none⟩ = some (.int .i64 0) := (qb BK552.out 1).trans rfl; have hcz10_2 : w7.cell? ⟨gb552, 2, none⟩ = some (.int .i64 0) := (qb BK552.out 2).trans rfl; have hcz10_3 : w7.cell? ⟨gb552, 3, none⟩ = some (.int .i64 0) := (qb BK552.out 3).trans rfl; have hcz10_4 : w7.cell? ⟨gb552, 4, none⟩ = some (.int .i64 0) := (qb BK552.out 4).trans rfl; have hcz10_5 : w7.cell? ⟨gb552, 5, none⟩ = some (.int .i64 0) := (qb BK552.out 5).trans rfl; have hcz10_6 : w7.cell? ⟨gb552, 6, none⟩ = some (.int .i64 0) := (qb BK552.out 6).trans rfl; have hcz10_7 : w7.cell? ⟨gb552, 7, none⟩ = some (.int .i64 0) := (qb BK552.out 7).trans rfl; have hcz10_8 : w7.cell? ⟨gb552, 8, none⟩ = some (.int .i64 0) := (qb BK552.out 8).trans rfl; have hcz10_9 : w7.cell? ⟨gb552, 9, none⟩ = some (.int .i64 0) := (qb BK552.out 9).trans rfl; have hfz10_0 := qo BK552.out 0; have hfz10_1 := qo BK552.out 1; have hfz10_2 := qo BK552.out 2; have hfz10_3 := qo BK552.out 3; have hfz10_4 := qo BK552.out 4; have hfz10_5 := qo BK552.out 5; have hfz10_6 := qo BK552.out 6; have hfz10_7 := qo BK552.out 7; have hfz10_8 := qo BK552.out 8; have hfz10_9 := qo BK552.out 9))
 go_loopg [6, 7] k (fun kq v6 v7 w' => ∃ (x6_1 : Int) (x7_1 : Int), v6 = .int .i64 x6_1 ∧ v7 = .int .i64 x7_1 ∧ qa (qB.l0 kq x6_1 x7_1 a0_0 a0_1 a0_2 a0_3 a0_4 a0_5 a0_6 a0_7 a0_8 a0_9 a1_0 a1_1 a1_2 a1_3 a1_4 a1_5 a1_6 a1_7 a1_8 a1_9 t542 t543 t544 t545 t546 t547 t548 t549 t550 t551 = some r) ∧ qa (kq ≤ k) ∧ qa (w'.heap[gb540]? = some (.cells #[.int .i64 a0_0, .int .i64 a0_1, .int .i64 a0_2, .int .i64 a0_3, .int .i64 a0_4, .int .i64 a0_5, .int .i64 a0_6, .int .i64 a0_7, .int .i64 a0_8, .int .i64 a0_9] 116 (0, 0))) ∧ qa (w'.heap[gb541]? = some (.cells #[.int .i64 a1_0, .int .i64 a1_1, .int .i64 a1_2, .int .i64 a1_3, .int .i64 a1_4, .int .i64 a1_5, .int .i64 a1_6, .int .i64 a1_7, .int .i64 a1_8, .int .i64 a1_9] 116 (0, 0))) ∧ qa (w'.heap[gb552]? = some (.cells #[.int .i64 t542, .int .i64 t543, .int .i64 t544, .int .i64 t545, .int .i64 t546, .int .i64 t547, .int .i64 t548, .int .i64 t549, .int .i64 t550, .int .i64 t551] 116 (0, 0))) ∧ qa (Below w.heap.size w w'))
 case atStart => exact ⟨(0), (2147483648), (by first | rfl | (simp; done) | (simp [*]; done)), (by first | rfl | (simp; done) | (simp [*]; done)), H', ⟨Nat.le_refl _⟩, ⟨by (with_reducible repeat (first | refine qj ?_ _ | refine qd ?_ | refine qg ?_ _)); refine zk ?_ NB540_552.out _; refine zk ?_ NB540_552.out _; refine zk ?_ NB540_552.out _; refine zk ?_ NB540_552.out _; refine zk ?_ NB540_552.out _; refine zk ?_ NB540_552.out _; refine zk ?_ NB540_552.out _; refine zk ?_ NB540_552.out _; refine zk ?_ NB540_552.out _; refine zk ?_ NB540_552.out _; exact kq BK540⟩, ⟨by (with_reducible repeat (first | refine qj ?_ _ | refine qd ?_ | refine qg ?_ _)); refine zk ?_ NB541_552.out _; refine zk ?_ NB541_552.out _; refine zk ?_ NB541_552.out _; refine zk ?_ NB541_552.out _; refine zk ?_ NB541_552.out _; refine zk ?_ NB541_552.out _; refine zk ?_ NB541_552.out _; refine zk ?_ NB541_552.out _; refine zk ?_ NB541_552.out _; refine zk ?_ NB541_552.out _; exact kq BK541⟩, ⟨by (with_reducible repeat (first | refine qj ?_ _ | refine qd ?_ | refine qg ?_ _)); refine zb (cs := #[.int .i64 t542, .int .i64 t543, .int .i64 t544, .int .i64 t545, .int .i64 t546, .int .i64 t547, .int .i64 t548, .int .i64 t549, .int .i64 t550, .int .i64 0]) ?_ 9 _ rfl; refine zb (cs := #[.int .i64 t542, .int .i64 t543, .int .i64 t544, .int .i64 t545, .int .i64 t546, .int .i64 t547, .int .i64 t548, .int .i64 t549, .int .i64 0, .int .i64 0]) ?_ 8 _ rfl; refine zb (cs := #[.int .i64 t542, .int .i64 t543, .int .i64 t544, .int .i64 t545, .int .i64 t546, .int .i64 t547, .int .i64 t548, .int .i64 0, .int .i64 0, .int .i64 0]) ?_ 7 _ rfl; refine zb (cs := #[.int .i64 t542, .int .i64 t543, .int .i64 t544, .int .i64 t545, .int .i64 t546, .int .i64 t547, .int .i64 0, .int .i64 0, .int .i64 0, .int .i64 0]) ?_ 6 _ rfl; refine zb (cs := #[.int .i64 t542, .int .i64 t543, .int .i64 t544, .int .i64 t545, .int .i64 t546, .int .i64 0, .int .i64 0, .int .i64 0, .int .i64 0, .int .i64 0]) ?_ 5 _ rfl; refine zb (cs := #[.int .i64 t542, .int .i64 t543, .int .i64 t544, .int .i64 t545, .int .i64 0, .int .i64 0, .int .i64 0, .int .i64 0, .int .i64 0, .int .i64 0]) ?_ 4 _ rfl; refine zb (cs := #[.int .i64 t542, .int .i64 t543, .int .i64 t544, .int .i64 0, .int .i64 0, .int .i64 0, .int .i64 0, .int .i64 0, .int .i64 0, .int .i64 0]) ?_ 3 _ rfl; refine zb (cs := #[.int .i64 t542, .int .i64 t543, .int .i64 0, .int .i64 0, .int .i64 0, .int .i64 0, .int .i64 0, .int .i64 0, .int .i64 0, .int .i64 0]) ?_ 2 _ rfl; refine zb (cs := #[.int .i64 t542, .int .i64 0, .int .i64 0, .int .i64 0, .int .i64 0, .int .i64 0, .int .i64 0, .int .i64 0, .int .i64 0, .int .i64 0]) ?_ 1 _ rfl; refine zb (cs := #[.int .i64 0, .int .i64 0, .int .i64 0, .int .i64 0, .int .i64 0, .int .i64 0, .int .i64 0, .int .i64 0, .int .i64 0, .int .i64 0]) ?_ 0 _ rfl; exact kq BK552⟩, ⟨by repeat (first | (with_reducible first | exact HB.out | apply qw | apply qC | apply qJ | refine qf ?_ GE540.out | refine qf ?_ GE541.out | refine qf ?_ GE552.out) | exact HB.out)⟩⟩
 case round =>
  clear H'
  try clear p2
  try clear c7
  try clear c8
  try clear c9
  try clear hcz10_0
  try clear hcz10_1
  try clear hcz10_2
  try clear hcz10_3
  try clear hcz10_4
  try clear hcz10_5
  try clear hcz10_6
  try clear hcz10_7
  try clear hcz10_8
  try clear hcz10_9
  try clear hfz10_0
  try clear hfz10_1
  try clear hfz10_2
  try clear hfz10_3
  try clear hfz10_4
  try clear hfz10_5
  try clear hfz10_6
  try clear hfz10_7
  try clear hfz10_8
  try clear hfz10_9
  obtain ⟨x6_1, x7_1, rfl, rfl, HA, HK1, BK540, BK541, BK552, HB⟩ := hrel
  cases gk with
  | zero => exact absurd HA.out (by simp [qB.l0])
  | succ k1 =>
   have H := HA.out
   clear HA
   simp only [qB.l0] at H
   by_cases c11 : x7_1 > 0
   case neg =>
    rw [if_neg c11] at H
    have c11b0 : decide (0 < x7_1) = false := decide_eq_false c11
    clear c11
    obtain rfl := Option.some.inj H
    go_wp2
    go_ret
    exact ⟨by first | rfl | (simp [qR, qU] <;> rfl) | (simp [*, qR, qU] <;> rfl), by repeat (first | (with_reducible first | exact HB.out | apply qw | apply qC | apply qJ | refine qf ?_ GE540.out | refine qf ?_ GE541.out | refine qf ?_ GE552.out) | exact HB.out)⟩
   rw [if_pos c11] at H
   have c11b0 : decide (0 < x7_1) = true := decide_eq_true c11
   clear c11
   replace H := Option.bind_eq_some_iff.mp H
   obtain ⟨⟨t553, t554, t555, t556, t557, t558, t559, t560, t561, t562⟩, A120, H⟩ := H
   replace H : ((ze.f t553 t554 t555 t556 t557 t558 t559 t560 t561 t562 t542 t543 t544 t545 t546 t547 t548 t549 t550 t551).bind fun bt563 => ((ze.f bt563.1 bt563.2.1 bt563.2.2.1 bt563.2.2.2.1 bt563.2.2.2.2.1 bt563.2.2.2.2.2.1 bt563.2.2.2.2.2.2.1 bt563.2.2.2.2.2.2.2.1 bt563.2.2.2.2.2.2.2.2.1 bt563.2.2.2.2.2.2.2.2.2 a1_0 a1_1 a1_2 a1_3 a1_4 a1_5 a1_6 a1_7 a1_8 a1_9).bind fun bt573 => ((jc.f a0_0 a0_1 a0_2 a0_3 a0_4 a0_5 a0_6 a0_7 a0_8 a0_9 a0_0 a0_1 a0_2 a0_3 a0_4 a0_5 a0_6 a0_7 a0_8 a0_9).bind fun bt584 => ((jc.f bt584.1 bt584.2.1 bt584.2.2.1 bt584.2.2.2.1 bt584.2.2.2.2.1 bt584.2.2.2.2.2.1 bt584.2.2.2.2.2.2.1 bt584.2.2.2.2.2.2.2.1 bt584.2.2.2.2.2.2.2.2.1 bt584.2.2.2.2.2.2.2.2.2 a1_0 a1_1 a1_2 a1_3 a1_4 a1_5 a1_6 a1_7 a1_8 a1_9).bind fun bt594 => ((zw.f bt594.1 bt594.2.1 bt594.2.2.1 bt594.2.2.2.1 bt594.2.2.2.2.1 bt594.2.2.2.2.2.1 bt594.2.2.2.2.2.2.1 bt594.2.2.2.2.2.2.2.1 bt594.2.2.2.2.2.2.2.2.1 bt594.2.2.2.2.2.2.2.2.2 bt573.1 bt573.2.1 bt573.2.2.1 bt573.2.2.2.1 bt573.2.2.2.2.1 bt573.2.2.2.2.2.1 bt573.2.2.2.2.2.2.1 bt573.2.2.2.2.2.2.2.1 bt573.2.2.2.2.2.2.2.2.1 bt573.2.2.2.2.2.2.2.2.2).bind fun t604 => (if t604 = true then (qB.l0 k1 x6_1 (wrap64 (Int.tdiv x7_1 2)) a0_0 a0_1 a0_2 a0_3 a0_4 a0_5 a0_6 a0_7 a0_8 a0_9 a1_0 a1_1 a1_2 a1_3 a1_4 a1_5 a1_6 a1_7 a1_8 a1_9 t542 t543 t544 t545 t546 t547 t548 t549 t550 t551) else (qB.l0 k1 (wrap64 (x6_1 + x7_1)) (wrap64 (Int.tdiv x7_1 2)) a0_0 a0_1 a0_2 a0_3 a0_4 a0_5 a0_6 a0_7 a0_8 a0_9 a1_0 a1_1 a1_2 a1_3 a1_4 a1_5 a1_6 a1_7 a1_8 a1_9 t542 t543 t544 t545 t546 t547 t548 t549 t550 t551))))))) = some r := H
   have A12 := qa.mk A120
   clear A120
   replace H := Option.bind_eq_some_iff.mp H
   obtain ⟨⟨t563, t564, t565, t566, t567, t568, t569, t570, t571, t572⟩, A130, H⟩ := H
   replace H : ((ze.f t563 t564 t565 t566 t567 t568 t569 t570 t571 t572 a1_0 a1_1 a1_2 a1_3 a1_4 a1_5 a1_6 a1_7 a1_8 a1_9).bind fun bt573 => ((jc.f a0_0 a0_1 a0_2 a0_3 a0_4 a0_5 a0_6 a0_7 a0_8 a0_9 a0_0 a0_1 a0_2 a0_3 a0_4 a0_5 a0_6 a0_7 a0_8 a0_9).bind fun bt584 => ((jc.f bt584.1 bt584.2.1 bt584.2.2.1 bt584.2.2.2.1 bt584.2.2.2.2.1 bt584.2.2.2.2.2.1 bt584.2.2.2.2.2.2.1 bt584.2.2.2.2.2.2.2.1 bt584.2.2.2.2.2.2.2.2.1 bt584.2.2.2.2.2.2.2.2.2 a1_0 a1_1 a1_2 a1_3 a1_4 a1_5 a1_6 a1_7 a1_8 a1_9).bind fun bt594 => ((zw.f bt594.1 bt594.2.1 bt594.2.2.1 bt594.2.2.2.1 bt594.2.2.2.2.1 bt594.2.2.2.2.2.1 bt594.2.2.2.2.2.2.1 bt594.2.2.2.2.2.2.2.1 bt594.2.2.2.2.2.2.2.2.1 bt594.2.2.2.2.2.2.2.2.2 bt573.1 bt573.2.1 bt573.2.2.1 bt573.2.2.2.1 bt573.2.2.2.2.1 bt573.2.2.2.2.2.1 bt573.2.2.2.2.2.2.1 bt573.2.2.2.2.2.2.2.1 bt573.2.2.2.2.2.2.2.2.1 bt573.2.2.2.2.2.2.2.2.2).bind fun t604 => (if t604 = true then (qB.l0 k1 x6_1 (wrap64 (Int.tdiv x7_1 2)) a0_0 a0_1 a0_2 a0_3 a0_4 a0_5 a0_6 a0_7 a0_8 a0_9 a1_0 a1_1 a1_2 a1_3 a1_4 a1_5 a1_6 a1_7 a1_8 a1_9 t542 t543 t544 t545 t546 t547 t548 t549 t550 t551) else (qB.l0 k1 (wrap64 (x6_1 + x7_1)) (wrap64 (Int.tdiv x7_1 2)) a0_0 a0_1 a0_2 a0_3 a0_4 a0_5 a0_6 a0_7 a0_8 a0_9 a1_0 a1_1 a1_2 a1_3 a1_4 a1_5 a1_6 a1_7 a1_8 a1_9 t542 t543 t544 t545 t546 t547 t548 t549 t550 t551)))))) = some r := H
   have A13 := qa.mk A130
   clear A130
   replace H := Option.bind_eq_some_iff.mp H
   obtain ⟨⟨t573, t574, t575, t576, t577, t578, t579, t580, t581, t582⟩, A140, H⟩ := H
   replace H : ((jc.f a0_0 a0_1 a0_2 a0_3 a0_4 a0_5 a0_6 a0_7 a0_8 a0_9 a0_0 a0_1 a0_2 a0_3 a0_4 a0_5 a0_6 a0_7 a0_8 a0_9).bind fun bt584 => ((jc.f bt584.1 bt584.2.1 bt584.2.2.1 bt584.2.2.2.1 bt584.2.2.2.2.1 bt584.2.2.2.2.2.1 bt584.2.2.2.2.2.2.1 bt584.2.2.2.2.2.2.2.1 bt584.2.2.2.2.2.2.2.2.1 bt584.2.2.2.2.2.2.2.2.2 a1_0 a1_1 a1_2 a1_3 a1_4 a1_5 a1_6 a1_7 a1_8 a1_9).bind fun bt594 => ((zw.f bt594.1 bt594.2.1 bt594.2.2.1 bt594.2.2.2.1 bt594.2.2.2.2.1 bt594.2.2.2.2.2.1 bt594.2.2.2.2.2.2.1 bt594.2.2.2.2.2.2.2.1 bt594.2.2.2.2.2.2.2.2.1 bt594.2.2.2.2.2.2.2.2.2 t573 t574 t575 t576 t577 t578 t579 t580 t581 t582).bind fun t604 => (if t604 = true then (qB.l0 k1 x6_1 (wrap64 (Int.tdiv x7_1 2)) a0_0 a0_1 a0_2 a0_3 a0_4 a0_5 a0_6 a0_7 a0_8 a0_9 a1_0 a1_1 a1_2 a1_3 a1_4 a1_5 a1_6 a1_7 a1_8 a1_9 t542 t543 t544 t545 t546 t547 t548 t549 t550 t551) else (qB.l0 k1 (wrap64 (x6_1 + x7_1)) (wrap64 (Int.tdiv x7_1 2)) a0_0 a0_1 a0_2 a0_3 a0_4 a0_5 a0_6 a0_7 a0_8 a0_9 a1_0 a1_1 a1_2 a1_3 a1_4 a1_5 a1_6 a1_7 a1_8 a1_9 t542 t543 t544 t545 t546 t547 t548 t549 t550 t551))))) = some r := H
   have A14 := qa.mk A140
   clear A140
   replace H := Option.bind_eq_some_iff.mp H
   obtain ⟨⟨t584, t585, t586, t587, t588, t589, t590, t591, t592, t593⟩, A150, H⟩ := H
   replace H : ((jc.f t584 t585 t586 t587 t588 t589 t590 t591 t592 t593 a1_0 a1_1 a1_2 a1_3 a1_4 a1_5 a1_6 a1_7 a1_8 a1_9).bind fun bt594 => ((zw.f bt594.1 bt594.2.1 bt594.2.2.1 bt594.2.2.2.1 bt594.2.2.2.2.1 bt594.2.2.2.2.2.1 bt594.2.2.2.2.2.2.1 bt594.2.2.2.2.2.2.2.1 bt594.2.2.2.2.2.2.2.2.1 bt594.2.2.2.2.2.2.2.2.2 t573 t574 t575 t576 t577 t578 t579 t580 t581 t582).bind fun t604 => (if t604 = true then (qB.l0 k1 x6_1 (wrap64 (Int.tdiv x7_1 2)) a0_0 a0_1 a0_2 a0_3 a0_4 a0_5 a0_6 a0_7 a0_8 a0_9 a1_0 a1_1 a1_2 a1_3 a1_4 a1_5 a1_6 a1_7 a1_8 a1_9 t542 t543 t544 t545 t546 t547 t548 t549 t550 t551) else (qB.l0 k1 (wrap64 (x6_1 + x7_1)) (wrap64 (Int.tdiv x7_1 2)) a0_0 a0_1 a0_2 a0_3 a0_4 a0_5 a0_6 a0_7 a0_8 a0_9 a1_0 a1_1 a1_2 a1_3 a1_4 a1_5 a1_6 a1_7 a1_8 a1_9 t542 t543 t544 t545 t546 t547 t548 t549 t550 t551)))) = some r := H
   have A15 := qa.mk A150
   clear A150
   replace H := Option.bind_eq_some_iff.mp H
   obtain ⟨⟨t594, t595, t596, t597, t598, t599, t600, t601, t602, t603⟩, A160, H⟩ := H
   replace H : ((zw.f t594 t595 t596 t597 t598 t599 t600 t601 t602 t603 t573 t574 t575 t576 t577 t578 t579 t580 t581 t582).bind fun t604 => (if t604 = true then (qB.l0 k1 x6_1 (wrap64 (Int.tdiv x7_1 2)) a0_0 a0_1 a0_2 a0_3 a0_4 a0_5 a0_6 a0_7 a0_8 a0_9 a1_0 a1_1 a1_2 a1_3 a1_4 a1_5 a1_6 a1_7 a1_8 a1_9 t542 t543 t544 t545 t546 t547 t548 t549 t550 t551) else (qB.l0 k1 (wrap64 (x6_1 + x7_1)) (wrap64 (Int.tdiv x7_1 2)) a0_0 a0_1 a0_2 a0_3 a0_4 a0_5 a0_6 a0_7 a0_8 a0_9 a1_0 a1_1 a1_2 a1_3 a1_4 a1_5 a1_6 a1_7 a1_8 a1_9 t542 t543 t544 t545 t546 t547 t548 t549 t550 t551))) = some r := H
   have A16 := qa.mk A160
   clear A160
   replace H := Option.bind_eq_some_iff.mp H
   obtain ⟨t604, A170, H⟩ := H
   replace H : (if t604 = true then (qB.l0 k1 x6_1 (wrap64 (Int.tdiv x7_1 2)) a0_0 a0_1 a0_2 a0_3 a0_4 a0_5 a0_6 a0_7 a0_8 a0_9 a1_0 a1_1 a1_2 a1_3 a1_4 a1_5 a1_6 a1_7 a1_8 a1_9 t542 t543 t544 t545 t546 t547 t548 t549 t550 t551) else (qB.l0 k1 (wrap64 (x6_1 + x7_1)) (wrap64 (Int.tdiv x7_1 2)) a0_0 a0_1 a0_2 a0_3 a0_4 a0_5 a0_6 a0_7 a0_8 a0_9 a1_0 a1_1 a1_2 a1_3 a1_4 a1_5 a1_6 a1_7 a1_8 a1_9 t542 t543 t544 t545 t546 t547 t548 t549 t550 t551)) = some r := H
   have A17 := qa.mk A170
   clear A170
   have H' : qa ((if t604 = true then (qB.l0 k1 x6_1 (wrap64 (Int.tdiv x7_1 2)) a0_0 a0_1 a0_2 a0_3 a0_4 a0_5 a0_6 a0_7 a0_8 a0_9 a1_0 a1_1 a1_2 a1_3 a1_4 a1_5 a1_6 a1_7 a1_8 a1_9 t542 t543 t544 t545 t546 t547 t548 t549 t550 t551) else (qB.l0 k1 (wrap64 (x6_1 + x7_1)) (wrap64 (Int.tdiv x7_1 2)) a0_0 a0_1 a0_2 a0_3 a0_4 a0_5 a0_6 a0_7 a0_8 a0_9 a1_0 a1_1 a1_2 a1_3 a1_4 a1_5 a1_6 a1_7 a1_8 a1_9 t542 t543 t544 t545 t546 t547 t548 t549 t550 t551)) = some r) := ⟨H⟩
   clear H
   try go_wp2
   have n0_ := qa.mk (qd BK540.out)
   have n1_ := qa.mk (qd BK541.out)
   have n2_ := qa.mk (qd BK552.out)
   have n3_ := qa.mk (qJ HB.out)
   clear BK540
   clear BK541
   clear BK552
   clear HB
   have BK540 := n0_
   have BK541 := n1_
   have BK552 := n2_
   have HB := n3_
   clear n0_ n1_ n2_ n3_
   refine jS (n := 8) (S := fun w' => w'.cell? ⟨gb552, 0, none⟩ = some (.int .i64 t542) ∧ w'.cell? ⟨gb552, 1, none⟩ = some (.int .i64 t543) ∧ w'.cell? ⟨gb552, 2, none⟩ = some (.int .i64 t544) ∧ w'.cell? ⟨gb552, 3, none⟩ = some (.int .i64 t545) ∧ w'.cell? ⟨gb552, 4, none⟩ = some (.int .i64 t546) ∧ w'.cell? ⟨gb552, 5, none⟩ = some (.int .i64 t547) ∧ w'.cell? ⟨gb552, 6, none⟩ = some (.int .i64 t548) ∧ w'.cell? ⟨gb552, 7, none⟩ = some (.int .i64 t549) ∧ w'.cell? ⟨gb552, 8, none⟩ = some (.int .i64 t550) ∧ w'.cell? ⟨gb552, 9, none⟩ = some (.int .i64 t551) ∧ w'.cell? ⟨gb541, 0, none⟩ = some (.int .i64 a1_0) ∧ w'.cell? ⟨gb541, 1, none⟩ = some (.int .i64 a1_1) ∧ w'.cell? ⟨gb541, 2, none⟩ = some (.int .i64 a1_2) ∧ w'.cell? ⟨gb541, 3, none⟩ = some (.int .i64 a1_3) ∧ w'.cell? ⟨gb541, 4, none⟩ = some (.int .i64 a1_4) ∧ w'.cell? ⟨gb541, 5, none⟩ = some (.int .i64 a1_5) ∧ w'.cell? ⟨gb541, 6, none⟩ = some (.int .i64 a1_6) ∧ w'.cell? ⟨gb541, 7, none⟩ = some (.int .i64 a1_7) ∧ w'.cell? ⟨gb541, 8, none⟩ = some (.int .i64 a1_8) ∧ w'.cell? ⟨gb541, 9, none⟩ = some (.int .i64 a1_9)) (ds := []) #[false, false, false, false, false, false, false, false] (by kernel_rfl) rfl rfl ⟨(qb BK552.out 0).trans rfl, (qb BK552.out 1).trans rfl, (qb BK552.out 2).trans rfl, (qb BK552.out 3).trans rfl, (qb BK552.out 4).trans rfl, (qb BK552.out 5).trans rfl, (qb BK552.out 6).trans rfl, (qb BK552.out 7).trans rfl, (qb BK552.out 8).trans rfl, (qb BK552.out 9).trans rfl, (qb BK541.out 0).trans rfl, (qb BK541.out 1).trans rfl, (qb BK541.out 2).trans rfl, (qb BK541.out 3).trans rfl, (qb BK541.out 4).trans rfl, (qb BK541.out 5).trans rfl, (qb BK541.out 6).trans rfl, (qb BK541.out 7).trans rfl, (qb BK541.out 8).trans rfl, (qb BK541.out 9).trans rfl⟩ (fun hHeld => ?_); refine ZE qB.tab7 qB.bits7 (fun HT_ HW_ => ?_)
   generalize wr.drew = w19 at BK540 BK541 BK552 HB hHeld ⊢
   refine za (i := 0) (N := some 18) (v := ?_) (a' := ?_) #[true, false, false, false, false, false, false, false] rfl rfl (ja HT_.out (by kernel_rfl)) (fun _ _ _ h => h) (Or.inl ⟨by rfl, ?_⟩) ?_ ?_
   rotate_left
   ·intro w'
    go_simp
    with_reducible rfl
   rotate_left
   ·simp only [Act.put, List.setIfInBounds_toArray, List.set_cons_zero, List.set_cons_succ, qz, qA]
    rfl
   refine zD (i := 2) (N := some 20) (v := ?_) (a' := ?_) #[true, false, true, false, false, false, false, false] rfl rfl (jK HT_.out HW_.out (by kernel_rfl)) (fun _ _ _ h => h) (Or.inl ⟨by rfl, ?_⟩) hHeld ?_ ?_
   rotate_left
   ·rintro w' ⟨s0, s1, s2, s3, s4, s5, s6, s7, s8, s9, s10, s11, s12, s13, s14, s15, s16, s17, s18, s19⟩
    go_simp
    with_reducible rfl
   rotate_left
   ·simp only [Act.put, List.setIfInBounds_toArray, List.set_cons_zero, List.set_cons_succ, qz, qA]
    rfl
   refine zD (i := 4) (N := some 22) (v := ?_) (a' := ?_) #[true, false, true, false, true, false, false, false] rfl rfl (jK HT_.out HW_.out (by kernel_rfl)) (fun _ _ _ h => h) (Or.inl ⟨by rfl, ?_⟩) hHeld ?_ ?_
   rotate_left
   ·rintro w' ⟨s0, s1, s2, s3, s4, s5, s6, s7, s8, s9, s10, s11, s12, s13, s14, s15, s16, s17, s18, s19⟩
    go_simp
    with_reducible rfl
   rotate_left
   ·simp only [Act.put, List.setIfInBounds_toArray, List.set_cons_zero, List.set_cons_succ, qz, qA]
    rfl
   refine join_ (σ := Nat) 1 #[true, true, true, true, true, true, true, false] (fun s_ => [(19, .agg #[.int .i64 t553, .int .i64 t554, .int .i64 t555, .int .i64 t556, .int .i64 t557, .int .i64 t558, .int .i64 t559, .int .i64 t560, .int .i64 t561, .int .i64 t562]), (21, .agg #[.int .i64 t563, .int .i64 t564, .int .i64 t565, .int .i64 t566, .int .i64 t567, .int .i64 t568, .int .i64 t569, .int .i64 t570, .int .i64 t571, .int .i64 t572]), (23, .agg #[.int .i64 t573, .int .i64 t574, .int .i64 t575, .int .i64 t576, .int .i64 t577, .int .i64 t578, .int .i64 t579, .int .i64 t580, .int .i64 t581, .int .i64 t582]), (9, .pointer (some ⟨s_, 0, none⟩))]) (fun s_ w' => (w'.cell? ⟨gb552, 0, none⟩ = some (.int .i64 t542) ∧ w'.cell? ⟨gb552, 1, none⟩ = some (.int .i64 t543) ∧ w'.cell? ⟨gb552, 2, none⟩ = some (.int .i64 t544) ∧ w'.cell? ⟨gb552, 3, none⟩ = some (.int .i64 t545) ∧ w'.cell? ⟨gb552, 4, none⟩ = some (.int .i64 t546) ∧ w'.cell? ⟨gb552, 5, none⟩ = some (.int .i64 t547) ∧ w'.cell? ⟨gb552, 6, none⟩ = some (.int .i64 t548) ∧ w'.cell? ⟨gb552, 7, none⟩ = some (.int .i64 t549) ∧ w'.cell? ⟨gb552, 8, none⟩ = some (.int .i64 t550) ∧ w'.cell? ⟨gb552, 9, none⟩ = some (.int .i64 t551) ∧ w'.cell? ⟨gb541, 0, none⟩ = some (.int .i64 a1_0) ∧ w'.cell? ⟨gb541, 1, none⟩ = some (.int .i64 a1_1) ∧ w'.cell? ⟨gb541, 2, none⟩ = some (.int .i64 a1_2) ∧ w'.cell? ⟨gb541, 3, none⟩ = some (.int .i64 a1_3) ∧ w'.cell? ⟨gb541, 4, none⟩ = some (.int .i64 a1_4) ∧ w'.cell? ⟨gb541, 5, none⟩ = some (.int .i64 a1_5) ∧ w'.cell? ⟨gb541, 6, none⟩ = some (.int .i64 a1_6) ∧ w'.cell? ⟨gb541, 7, none⟩ = some (.int .i64 a1_7) ∧ w'.cell? ⟨gb541, 8, none⟩ = some (.int .i64 a1_8) ∧ w'.cell? ⟨gb541, 9, none⟩ = some (.int .i64 a1_9)) ∧ (w'.heap[gb540]? = some (.cells #[.int .i64 a0_0, .int .i64 a0_1, .int .i64 a0_2, .int .i64 a0_3, .int .i64 a0_4, .int .i64 a0_5, .int .i64 a0_6, .int .i64 a0_7, .int .i64 a0_8, .int .i64 a0_9] 116 (0, 0))) ∧ (w'.heap[gb541]? = some (.cells #[.int .i64 a1_0, .int .i64 a1_1, .int .i64 a1_2, .int .i64 a1_3, .int .i64 a1_4, .int .i64 a1_5, .int .i64 a1_6, .int .i64 a1_7, .int .i64 a1_8, .int .i64 a1_9] 116 (0, 0))) ∧ (w'.heap[gb552]? = some (.cells #[.int .i64 t542, .int .i64 t543, .int .i64 t544, .int .i64 t545, .int .i64 t546, .int .i64 t547, .int .i64 t548, .int .i64 t549, .int .i64 t550, .int .i64 t551] 116 (0, 0))) ∧ (w'.heap[s_]? = some (.cells #[.int .i64 0, .int .i64 0, .int .i64 0, .int .i64 0, .int .i64 0, .int .i64 0, .int .i64 0, .int .i64 0, .int .i64 0, .int .i64 0] 116 (0, 0))) ∧ (w.heap.size ≤ s_) ∧ (w.heap.size ≤ s_) ∧ (gb540 ≠ s_) ∧ (s_ ≠ gb540) ∧ (gb541 ≠ s_) ∧ (s_ ≠ gb541) ∧ (gb552 ≠ s_) ∧ (s_ ≠ gb552) ∧ (Below w.heap.size w w')) ?_ ?_
   rotate_left
   ·intro hCont
    refine two_ (i := 1) (j := 6) (Ni := some 19) (Nj := some 9) #[true, true, true, false, true, false, false, false] #[true, false, true, false, true, false, true, false] rfl rfl rfl rfl (two_of HT_.out (by kernel_rfl)) (by decide) (by decide) (fun K hK => ?_) (fun K hK => ?_)
    ·skip
     refine zS Try.func70 (by kernel_rfl) rfl #[.int .i64 (wrap64 (x6_1 + x7_1))] (by rfl) rfl rfl (by (try simp only [List.map_toArray, List.map_cons, List.map_nil]); first | done | rfl | (simp only [List.length_drop, List.length_take]; rfl)) ?_
     with_reducible refine (qV.calls (wrap64 (x6_1 + x7_1)) t553 t554 t555 t556 t557 t558 t559 t560 t561 t562 _ A12.out).mono ?_
     rintro e w20 ⟨rfl, hb⟩
     refine ⟨_, rfl, ?_⟩
     have n0_ := qa.mk (qF (g := gb540) (o := .cells #[.int .i64 a0_0, .int .i64 a0_1, .int .i64 a0_2, .int .i64 a0_3, .int .i64 a0_4, .int .i64 a0_5, .int .i64 a0_6, .int .i64 a0_7, .int .i64 a0_8, .int .i64 a0_9] 116 (0, 0)) (kq BK540) hb)
     have n1_ := qa.mk (qF (g := gb541) (o := .cells #[.int .i64 a1_0, .int .i64 a1_1, .int .i64 a1_2, .int .i64 a1_3, .int .i64 a1_4, .int .i64 a1_5, .int .i64 a1_6, .int .i64 a1_7, .int .i64 a1_8, .int .i64 a1_9] 116 (0, 0)) (kq BK541) hb)
     have n2_ := qa.mk (qF (g := gb552) (o := .cells #[.int .i64 t542, .int .i64 t543, .int .i64 t544, .int .i64 t545, .int .i64 t546, .int .i64 t547, .int .i64 t548, .int .i64 t549, .int .i64 t550, .int .i64 t551] 116 (0, 0)) (kq BK552) hb)
     have n3_ := qa.mk (qh (by repeat (first | (with_reducible first | exact HB.out | apply qw | apply qC | apply qJ | refine qf ?_ GE540.out | refine qf ?_ GE541.out | refine qf ?_ GE552.out) | exact HB.out)) hb)
     clear BK540
     clear BK541
     clear BK552
     clear HB
     have BK540 := n0_
     have BK541 := n1_
     have BK552 := n2_
     have HB := n3_
     clear n0_ n1_ n2_ n3_
     (try clear hb)
     (try clear hb2)
     (try clear hk)
     (try clear hi)
     refine hK.out _ _ ⟨(qb BK552.out 0).trans rfl, (qb BK552.out 1).trans rfl, (qb BK552.out 2).trans rfl, (qb BK552.out 3).trans rfl, (qb BK552.out 4).trans rfl, (qb BK552.out 5).trans rfl, (qb BK552.out 6).trans rfl, (qb BK552.out 7).trans rfl, (qb BK552.out 8).trans rfl, (qb BK552.out 9).trans rfl, (qb BK541.out 0).trans rfl, (qb BK541.out 1).trans rfl, (qb BK541.out 2).trans rfl, (qb BK541.out 3).trans rfl, (qb BK541.out 4).trans rfl, (qb BK541.out 5).trans rfl, (qb BK541.out 6).trans rfl, (qb BK541.out 7).trans rfl, (qb BK541.out 8).trans rfl, (qb BK541.out 9).trans rfl⟩ (fun hHeld => ?_)
     clear hK K
     refine zo (a' := ?_) ?_ ?_
     rotate_left
     ·show Act.put _ (some 19) _ = _
      simp only [Act.put, List.setIfInBounds_toArray, List.set_cons_zero, List.set_cons_succ, qz, qA]
      rfl
     refine two_ (i := 3) (j := 6) (Ni := some 21) (Nj := some 9) #[true, true, true, true, true, false, false, false] #[true, true, true, false, true, false, true, false] rfl rfl rfl rfl (two_of HT_.out (by kernel_rfl)) (by decide) (by decide) (fun K hK => ?_) (fun K hK => ?_)
     ·skip
      refine zS Try.func69 (by kernel_rfl) rfl #[.agg #[.int .i64 t553, .int .i64 t554, .int .i64 t555, .int .i64 t556, .int .i64 t557, .int .i64 t558, .int .i64 t559, .int .i64 t560, .int .i64 t561, .int .i64 t562], .agg #[.int .i64 t542, .int .i64 t543, .int .i64 t544, .int .i64 t545, .int .i64 t546, .int .i64 t547, .int .i64 t548, .int .i64 t549, .int .i64 t550, .int .i64 t551]] (by rfl) rfl rfl (by (try simp only [List.map_toArray, List.map_cons, List.map_nil]); first | done | rfl | (simp only [List.length_drop, List.length_take]; rfl)) ?_
      with_reducible refine (ze.calls t553 t554 t555 t556 t557 t558 t559 t560 t561 t562 t542 t543 t544 t545 t546 t547 t548 t549 t550 t551 t563 t564 t565 t566 t567 t568 t569 t570 t571 t572 _ A13.out).mono ?_
      rintro e w21 ⟨rfl, hb⟩
      refine ⟨_, rfl, ?_⟩
      have n0_ := qa.mk (qF (g := gb540) (o := .cells #[.int .i64 a0_0, .int .i64 a0_1, .int .i64 a0_2, .int .i64 a0_3, .int .i64 a0_4, .int .i64 a0_5, .int .i64 a0_6, .int .i64 a0_7, .int .i64 a0_8, .int .i64 a0_9] 116 (0, 0)) (kq BK540) hb)
      have n1_ := qa.mk (qF (g := gb541) (o := .cells #[.int .i64 a1_0, .int .i64 a1_1, .int .i64 a1_2, .int .i64 a1_3, .int .i64 a1_4, .int .i64 a1_5, .int .i64 a1_6, .int .i64 a1_7, .int .i64 a1_8, .int .i64 a1_9] 116 (0, 0)) (kq BK541) hb)
      have n2_ := qa.mk (qF (g := gb552) (o := .cells #[.int .i64 t542, .int .i64 t543, .int .i64 t544, .int .i64 t545, .int .i64 t546, .int .i64 t547, .int .i64 t548, .int .i64 t549, .int .i64 t550, .int .i64 t551] 116 (0, 0)) (kq BK552) hb)
      have n3_ := qa.mk (qh (by repeat (first | (with_reducible first | exact HB.out | apply qw | apply qC | apply qJ | refine qf ?_ GE540.out | refine qf ?_ GE541.out | refine qf ?_ GE552.out) | exact HB.out)) hb)
      clear BK540
      clear BK541
      clear BK552
      clear HB
      have BK540 := n0_
      have BK541 := n1_
      have BK552 := n2_
      have HB := n3_
      clear n0_ n1_ n2_ n3_
      (try clear hb)
      (try clear hb2)
      (try clear hk)
      (try clear hi)
      refine hK.out _ _ ⟨(qb BK552.out 0).trans rfl, (qb BK552.out 1).trans rfl, (qb BK552.out 2).trans rfl, (qb BK552.out 3).trans rfl, (qb BK552.out 4).trans rfl, (qb BK552.out 5).trans rfl, (qb BK552.out 6).trans rfl, (qb BK552.out 7).trans rfl, (qb BK552.out 8).trans rfl, (qb BK552.out 9).trans rfl, (qb BK541.out 0).trans rfl, (qb BK541.out 1).trans rfl, (qb BK541.out 2).trans rfl, (qb BK541.out 3).trans rfl, (qb BK541.out 4).trans rfl, (qb BK541.out 5).trans rfl, (qb BK541.out 6).trans rfl, (qb BK541.out 7).trans rfl, (qb BK541.out 8).trans rfl, (qb BK541.out 9).trans rfl⟩ (fun hHeld => ?_)
      clear hK K
      refine zo (a' := ?_) ?_ ?_
      rotate_left
      ·show Act.put _ (some 21) _ = _
       simp only [Act.put, List.setIfInBounds_toArray, List.set_cons_zero, List.set_cons_succ, qz, qA]
       rfl
      refine two_ (i := 5) (j := 6) (Ni := some 23) (Nj := some 9) #[true, true, true, true, true, true, false, false] #[true, true, true, true, true, false, true, false] rfl rfl rfl rfl (two_of HT_.out (by kernel_rfl)) (by decide) (by decide) (fun K hK => ?_) (fun K hK => ?_)
      ·skip
       refine zS Try.func69 (by kernel_rfl) rfl #[.agg #[.int .i64 t563, .int .i64 t564, .int .i64 t565, .int .i64 t566, .int .i64 t567, .int .i64 t568, .int .i64 t569, .int .i64 t570, .int .i64 t571, .int .i64 t572], .agg #[.int .i64 a1_0, .int .i64 a1_1, .int .i64 a1_2, .int .i64 a1_3, .int .i64 a1_4, .int .i64 a1_5, .int .i64 a1_6, .int .i64 a1_7, .int .i64 a1_8, .int .i64 a1_9]] (by rfl) rfl rfl (by (try simp only [List.map_toArray, List.map_cons, List.map_nil]); first | done | rfl | (simp only [List.length_drop, List.length_take]; rfl)) ?_
       with_reducible refine (ze.calls t563 t564 t565 t566 t567 t568 t569 t570 t571 t572 a1_0 a1_1 a1_2 a1_3 a1_4 a1_5 a1_6 a1_7 a1_8 a1_9 t573 t574 t575 t576 t577 t578 t579 t580 t581 t582 _ A14.out).mono ?_
       rintro e w22 ⟨rfl, hb⟩
       refine ⟨_, rfl, ?_⟩
       have n0_ := qa.mk (qF (g := gb540) (o := .cells #[.int .i64 a0_0, .int .i64 a0_1, .int .i64 a0_2, .int .i64 a0_3, .int .i64 a0_4, .int .i64 a0_5, .int .i64 a0_6, .int .i64 a0_7, .int .i64 a0_8, .int .i64 a0_9] 116 (0, 0)) (kq BK540) hb)
       have n1_ := qa.mk (qF (g := gb541) (o := .cells #[.int .i64 a1_0, .int .i64 a1_1, .int .i64 a1_2, .int .i64 a1_3, .int .i64 a1_4, .int .i64 a1_5, .int .i64 a1_6, .int .i64 a1_7, .int .i64 a1_8, .int .i64 a1_9] 116 (0, 0)) (kq BK541) hb)
       have n2_ := qa.mk (qF (g := gb552) (o := .cells #[.int .i64 t542, .int .i64 t543, .int .i64 t544, .int .i64 t545, .int .i64 t546, .int .i64 t547, .int .i64 t548, .int .i64 t549, .int .i64 t550, .int .i64 t551] 116 (0, 0)) (kq BK552) hb)
       have n3_ := qa.mk (qh (by repeat (first | (with_reducible first | exact HB.out | apply qw | apply qC | apply qJ | refine qf ?_ GE540.out | refine qf ?_ GE541.out | refine qf ?_ GE552.out) | exact HB.out)) hb)
       clear BK540
       clear BK541
       clear BK552
       clear HB
       have BK540 := n0_
       have BK541 := n1_
       have BK552 := n2_
       have HB := n3_
       clear n0_ n1_ n2_ n3_
       (try clear hb)
       (try clear hb2)
       (try clear hk)
       (try clear hi)
       refine hK.out _ _ ⟨(qb BK552.out 0).trans rfl, (qb BK552.out 1).trans rfl, (qb BK552.out 2).trans rfl, (qb BK552.out 3).trans rfl, (qb BK552.out 4).trans rfl, (qb BK552.out 5).trans rfl, (qb BK552.out 6).trans rfl, (qb BK552.out 7).trans rfl, (qb BK552.out 8).trans rfl, (qb BK552.out 9).trans rfl, (qb BK541.out 0).trans rfl, (qb BK541.out 1).trans rfl, (qb BK541.out 2).trans rfl, (qb BK541.out 3).trans rfl, (qb BK541.out 4).trans rfl, (qb BK541.out 5).trans rfl, (qb BK541.out 6).trans rfl, (qb BK541.out 7).trans rfl, (qb BK541.out 8).trans rfl, (qb BK541.out 9).trans rfl⟩ (fun hHeld => ?_)
       clear hK K
       refine zo (a' := ?_) ?_ ?_
       rotate_left
       ·show Act.put _ (some 23) _ = _
        simp only [Act.put, List.setIfInBounds_toArray, List.set_cons_zero, List.set_cons_succ, qz, qA]
        rfl
       refine jd (i := 6) (N := some 9) #[true, true, true, true, true, true, true, false] rfl rfl (jW HT_.out (by kernel_rfl)) (by decide) (fun K hK => ?_)
       refine J3 ?hg (N := 9) ?hd (cs := #[.int .i64 0, .int .i64 0, .int .i64 0, .int .i64 0, .int .i64 0, .int .i64 0, .int .i64 0, .int .i64 0, .int .i64 0, .int .i64 0]) (t := 116) ?hr ?_; (case hd => rfl); (case hg => rfl); (case hr => first | (go_simp; done) | (go_simp; rfl))
       intro gb583 hg w23 hbox hb
       have n0_ := qa.mk (qF (g := gb540) (o := .cells #[.int .i64 a0_0, .int .i64 a0_1, .int .i64 a0_2, .int .i64 a0_3, .int .i64 a0_4, .int .i64 a0_5, .int .i64 a0_6, .int .i64 a0_7, .int .i64 a0_8, .int .i64 a0_9] 116 (0, 0)) (kq BK540) hb)
       have n1_ := qa.mk (qF (g := gb541) (o := .cells #[.int .i64 a1_0, .int .i64 a1_1, .int .i64 a1_2, .int .i64 a1_3, .int .i64 a1_4, .int .i64 a1_5, .int .i64 a1_6, .int .i64 a1_7, .int .i64 a1_8, .int .i64 a1_9] 116 (0, 0)) (kq BK541) hb)
       have n2_ := qa.mk (qF (g := gb552) (o := .cells #[.int .i64 t542, .int .i64 t543, .int .i64 t544, .int .i64 t545, .int .i64 t546, .int .i64 t547, .int .i64 t548, .int .i64 t549, .int .i64 t550, .int .i64 t551] 116 (0, 0)) (kq BK552) hb)
       have n3_ := qa.mk (qh (by repeat (first | (with_reducible first | exact HB.out | apply qw | apply qC | apply qJ | refine qf ?_ GE540.out | refine qf ?_ GE541.out | refine qf ?_ GE552.out) | exact HB.out)) hb)
       have n4_ := qa.mk (hbox)
       have n5_ := qa.mk ((by rw [hg]; exact (qx (by repeat (first | (with_reducible first | exact HB.out | apply qw | apply qC | apply qJ | refine qf ?_ GE540.out | refine qf ?_ GE541.out | refine qf ?_ GE552.out) | exact HB.out))) : w.heap.size ≤ gb583))
       have n6_ := qa.mk ((by rw [hg]; exact (qx (by repeat (first | (with_reducible first | exact HB.out | apply qw | apply qC | apply qJ | refine qf ?_ GE540.out | refine qf ?_ GE541.out | refine qf ?_ GE552.out) | exact HB.out))) : w.heap.size ≤ gb583))
       have n7_ := qa.mk ((by rw [hg]; exact Nat.ne_of_lt (qy (g := gb540) (o := .cells #[.int .i64 a0_0, .int .i64 a0_1, .int .i64 a0_2, .int .i64 a0_3, .int .i64 a0_4, .int .i64 a0_5, .int .i64 a0_6, .int .i64 a0_7, .int .i64 a0_8, .int .i64 a0_9] 116 (0, 0)) (kq BK540)) : gb540 ≠ gb583))
       have n8_ := qa.mk ((by rw [hg]; exact Nat.ne_of_gt (qy (g := gb540) (o := .cells #[.int .i64 a0_0, .int .i64 a0_1, .int .i64 a0_2, .int .i64 a0_3, .int .i64 a0_4, .int .i64 a0_5, .int .i64 a0_6, .int .i64 a0_7, .int .i64 a0_8, .int .i64 a0_9] 116 (0, 0)) (kq BK540)) : gb583 ≠ gb540))
       have n9_ := qa.mk ((by rw [hg]; exact Nat.ne_of_lt (qy (g := gb541) (o := .cells #[.int .i64 a1_0, .int .i64 a1_1, .int .i64 a1_2, .int .i64 a1_3, .int .i64 a1_4, .int .i64 a1_5, .int .i64 a1_6, .int .i64 a1_7, .int .i64 a1_8, .int .i64 a1_9] 116 (0, 0)) (kq BK541)) : gb541 ≠ gb583))
       have n10_ := qa.mk ((by rw [hg]; exact Nat.ne_of_gt (qy (g := gb541) (o := .cells #[.int .i64 a1_0, .int .i64 a1_1, .int .i64 a1_2, .int .i64 a1_3, .int .i64 a1_4, .int .i64 a1_5, .int .i64 a1_6, .int .i64 a1_7, .int .i64 a1_8, .int .i64 a1_9] 116 (0, 0)) (kq BK541)) : gb583 ≠ gb541))
       have n11_ := qa.mk ((by rw [hg]; exact Nat.ne_of_lt (qy (g := gb552) (o := .cells #[.int .i64 t542, .int .i64 t543, .int .i64 t544, .int .i64 t545, .int .i64 t546, .int .i64 t547, .int .i64 t548, .int .i64 t549, .int .i64 t550, .int .i64 t551] 116 (0, 0)) (kq BK552)) : gb552 ≠ gb583))
       have n12_ := qa.mk ((by rw [hg]; exact Nat.ne_of_gt (qy (g := gb552) (o := .cells #[.int .i64 t542, .int .i64 t543, .int .i64 t544, .int .i64 t545, .int .i64 t546, .int .i64 t547, .int .i64 t548, .int .i64 t549, .int .i64 t550, .int .i64 t551] 116 (0, 0)) (kq BK552)) : gb583 ≠ gb552))
       clear BK540
       clear BK541
       clear BK552
       clear HB
       have BK540 := n0_
       have BK541 := n1_
       have BK552 := n2_
       have HB := n3_
       have BK583 := n4_
       have GW583 := n5_
       have GE583 := n6_
       have NB540_583 := n7_
       have NB583_540 := n8_
       have NB541_583 := n9_
       have NB583_541 := n10_
       have NB552_583 := n11_
       have NB583_552 := n12_
       clear n0_ n1_ n2_ n3_ n4_ n5_ n6_ n7_ n8_ n9_ n10_ n11_ n12_
       clear hb hbox hg
       refine hK.out _ _ ⟨(qb BK552.out 0).trans rfl, (qb BK552.out 1).trans rfl, (qb BK552.out 2).trans rfl, (qb BK552.out 3).trans rfl, (qb BK552.out 4).trans rfl, (qb BK552.out 5).trans rfl, (qb BK552.out 6).trans rfl, (qb BK552.out 7).trans rfl, (qb BK552.out 8).trans rfl, (qb BK552.out 9).trans rfl, (qb BK541.out 0).trans rfl, (qb BK541.out 1).trans rfl, (qb BK541.out 2).trans rfl, (qb BK541.out 3).trans rfl, (qb BK541.out 4).trans rfl, (qb BK541.out 5).trans rfl, (qb BK541.out 6).trans rfl, (qb BK541.out 7).trans rfl, (qb BK541.out 8).trans rfl, (qb BK541.out 9).trans rfl⟩ (fun hHeld => ?_)
       clear hK K
       refine zo (a' := ?_) ?_ ?_
       rotate_left
       ·show Act.put _ (some 9) _ = _
        simp only [Act.put, List.setIfInBounds_toArray, List.set_cons_zero, List.set_cons_succ, qz, qA]
        rfl
       exact zo (by simp only [QS, Act.put, List.setIfInBounds_toArray, List.set_cons_zero, List.set_cons_succ]) (hCont (gb583) _ ⟨hHeld, (kq BK540), (kq BK541), (kq BK552), (kq BK583), GW583.out, GE583.out, NB540_583.out, NB583_540.out, NB541_583.out, NB583_541.out, NB552_583.out, NB583_552.out, (by repeat (first | (with_reducible first | exact HB.out | apply qw | apply qC | apply qJ | refine qf ?_ GE540.out | refine qf ?_ GE541.out | refine qf ?_ GE552.out | refine qf ?_ GE583.out) | exact HB.out))⟩)
      skip
      refine J3 ?hg (N := 9) ?hd (cs := #[.int .i64 0, .int .i64 0, .int .i64 0, .int .i64 0, .int .i64 0, .int .i64 0, .int .i64 0, .int .i64 0, .int .i64 0, .int .i64 0]) (t := 116) ?hr ?_; (case hd => rfl); (case hg => rfl); (case hr => first | (go_simp; done) | (go_simp; rfl))
      intro gb583 hg w22 hbox hb
      have n0_ := qa.mk (qF (g := gb540) (o := .cells #[.int .i64 a0_0, .int .i64 a0_1, .int .i64 a0_2, .int .i64 a0_3, .int .i64 a0_4, .int .i64 a0_5, .int .i64 a0_6, .int .i64 a0_7, .int .i64 a0_8, .int .i64 a0_9] 116 (0, 0)) (kq BK540) hb)
      have n1_ := qa.mk (qF (g := gb541) (o := .cells #[.int .i64 a1_0, .int .i64 a1_1, .int .i64 a1_2, .int .i64 a1_3, .int .i64 a1_4, .int .i64 a1_5, .int .i64 a1_6, .int .i64 a1_7, .int .i64 a1_8, .int .i64 a1_9] 116 (0, 0)) (kq BK541) hb)
      have n2_ := qa.mk (qF (g := gb552) (o := .cells #[.int .i64 t542, .int .i64 t543, .int .i64 t544, .int .i64 t545, .int .i64 t546, .int .i64 t547, .int .i64 t548, .int .i64 t549, .int .i64 t550, .int .i64 t551] 116 (0, 0)) (kq BK552) hb)
      have n3_ := qa.mk (qh (by repeat (first | (with_reducible first | exact HB.out | apply qw | apply qC | apply qJ | refine qf ?_ GE540.out | refine qf ?_ GE541.out | refine qf ?_ GE552.out) | exact HB.out)) hb)
      have n4_ := qa.mk (hbox)
      have n5_ := qa.mk ((by rw [hg]; exact (qx (by repeat (first | (with_reducible first | exact HB.out | apply qw | apply qC | apply qJ | refine qf ?_ GE540.out | refine qf ?_ GE541.out | refine qf ?_ GE552.out) | exact HB.out))) : w.heap.size ≤ gb583))
      have n6_ := qa.mk ((by rw [hg]; exact (qx (by repeat (first | (with_reducible first | exact HB.out | apply qw | apply qC | apply qJ | refine qf ?_ GE540.out | refine qf ?_ GE541.out | refine qf ?_ GE552.out) | exact HB.out))) : w.heap.size ≤ gb583))
      have n7_ := qa.mk ((by rw [hg]; exact Nat.ne_of_lt (qy (g := gb540) (o := .cells #[.int .i64 a0_0, .int .i64 a0_1, .int .i64 a0_2, .int .i64 a0_3, .int .i64 a0_4, .int .i64 a0_5, .int .i64 a0_6, .int .i64 a0_7, .int .i64 a0_8, .int .i64 a0_9] 116 (0, 0)) (kq BK540)) : gb540 ≠ gb583))
      have n8_ := qa.mk ((by rw [hg]; exact Nat.ne_of_gt (qy (g := gb540) (o := .cells #[.int .i64 a0_0, .int .i64 a0_1, .int .i64 a0_2, .int .i64 a0_3, .int .i64 a0_4, .int .i64 a0_5, .int .i64 a0_6, .int .i64 a0_7, .int .i64 a0_8, .int .i64 a0_9] 116 (0, 0)) (kq BK540)) : gb583 ≠ gb540))
      have n9_ := qa.mk ((by rw [hg]; exact Nat.ne_of_lt (qy (g := gb541) (o := .cells #[.int .i64 a1_0, .int .i64 a1_1, .int .i64 a1_2, .int .i64 a1_3, .int .i64 a1_4, .int .i64 a1_5, .int .i64 a1_6, .int .i64 a1_7, .int .i64 a1_8, .int .i64 a1_9] 116 (0, 0)) (kq BK541)) : gb541 ≠ gb583))
      have n10_ := qa.mk ((by rw [hg]; exact Nat.ne_of_gt (qy (g := gb541) (o := .cells #[.int .i64 a1_0, .int .i64 a1_1, .int .i64 a1_2, .int .i64 a1_3, .int .i64 a1_4, .int .i64 a1_5, .int .i64 a1_6, .int .i64 a1_7, .int .i64 a1_8, .int .i64 a1_9] 116 (0, 0)) (kq BK541)) : gb583 ≠ gb541))
      have n11_ := qa.mk ((by rw [hg]; exact Nat.ne_of_lt (qy (g := gb552) (o := .cells #[.int .i64 t542, .int .i64 t543, .int .i64 t544, .int .i64 t545, .int .i64 t546, .int .i64 t547, .int .i64 t548, .int .i64 t549, .int .i64 t550, .int .i64 t551] 116 (0, 0)) (kq BK552)) : gb552 ≠ gb583))
      have n12_ := qa.mk ((by rw [hg]; exact Nat.ne_of_gt (qy (g := gb552) (o := .cells #[.int .i64 t542, .int .i64 t543, .int .i64 t544, .int .i64 t545, .int .i64 t546, .int .i64 t547, .int .i64 t548, .int .i64 t549, .int .i64 t550, .int .i64 t551] 116 (0, 0)) (kq BK552)) : gb583 ≠ gb552))
      clear BK540
      clear BK541
      clear BK552
      clear HB
      have BK540 := n0_
      have BK541 := n1_
      have BK552 := n2_
      have HB := n3_
      have BK583 := n4_
      have GW583 := n5_
      have GE583 := n6_
      have NB540_583 := n7_
      have NB583_540 := n8_
      have NB541_583 := n9_
      have NB583_541 := n10_
      have NB552_583 := n11_
      have NB583_552 := n12_
      clear n0_ n1_ n2_ n3_ n4_ n5_ n6_ n7_ n8_ n9_ n10_ n11_ n12_
      clear hb hbox hg
      refine hK.out _ _ ⟨(qb BK552.out 0).trans rfl, (qb BK552.out 1).trans rfl, (qb BK552.out 2).trans rfl, (qb BK552.out 3).trans rfl, (qb BK552.out 4).trans rfl, (qb BK552.out 5).trans rfl, (qb BK552.out 6).trans rfl, (qb BK552.out 7).trans rfl, (qb BK552.out 8).trans rfl, (qb BK552.out 9).trans rfl, (qb BK541.out 0).trans rfl, (qb BK541.out 1).trans rfl, (qb BK541.out 2).trans rfl, (qb BK541.out 3).trans rfl, (qb BK541.out 4).trans rfl, (qb BK541.out 5).trans rfl, (qb BK541.out 6).trans rfl, (qb BK541.out 7).trans rfl, (qb BK541.out 8).trans rfl, (qb BK541.out 9).trans rfl⟩ (fun hHeld => ?_)
      clear hK K
      refine zo (a' := ?_) ?_ ?_
      rotate_left
      ·show Act.put _ (some 9) _ = _
       simp only [Act.put, List.setIfInBounds_toArray, List.set_cons_zero, List.set_cons_succ, qz, qA]
       rfl
      refine jd (i := 5) (N := some 23) #[true, true, true, true, true, true, true, false] rfl rfl (jW HT_.out (by kernel_rfl)) (by decide) (fun K hK => ?_)
      refine zS Try.func69 (by kernel_rfl) rfl #[.agg #[.int .i64 t563, .int .i64 t564, .int .i64 t565, .int .i64 t566, .int .i64 t567, .int .i64 t568, .int .i64 t569, .int .i64 t570, .int .i64 t571, .int .i64 t572], .agg #[.int .i64 a1_0, .int .i64 a1_1, .int .i64 a1_2, .int .i64 a1_3, .int .i64 a1_4, .int .i64 a1_5, .int .i64 a1_6, .int .i64 a1_7, .int .i64 a1_8, .int .i64 a1_9]] (by rfl) rfl rfl (by (try simp only [List.map_toArray, List.map_cons, List.map_nil]); first | done | rfl | (simp only [List.length_drop, List.length_take]; rfl)) ?_
      with_reducible refine (ze.calls t563 t564 t565 t566 t567 t568 t569 t570 t571 t572 a1_0 a1_1 a1_2 a1_3 a1_4 a1_5 a1_6 a1_7 a1_8 a1_9 t573 t574 t575 t576 t577 t578 t579 t580 t581 t582 _ A14.out).mono ?_
      rintro e w23 ⟨rfl, hb⟩
      refine ⟨_, rfl, ?_⟩
      have n0_ := qa.mk (qF (g := gb540) (o := .cells #[.int .i64 a0_0, .int .i64 a0_1, .int .i64 a0_2, .int .i64 a0_3, .int .i64 a0_4, .int .i64 a0_5, .int .i64 a0_6, .int .i64 a0_7, .int .i64 a0_8, .int .i64 a0_9] 116 (0, 0)) (kq BK540) hb)
      have n1_ := qa.mk (qF (g := gb541) (o := .cells #[.int .i64 a1_0, .int .i64 a1_1, .int .i64 a1_2, .int .i64 a1_3, .int .i64 a1_4, .int .i64 a1_5, .int .i64 a1_6, .int .i64 a1_7, .int .i64 a1_8, .int .i64 a1_9] 116 (0, 0)) (kq BK541) hb)
      have n2_ := qa.mk (qF (g := gb552) (o := .cells #[.int .i64 t542, .int .i64 t543, .int .i64 t544, .int .i64 t545, .int .i64 t546, .int .i64 t547, .int .i64 t548, .int .i64 t549, .int .i64 t550, .int .i64 t551] 116 (0, 0)) (kq BK552) hb)
      have n3_ := qa.mk (qF (g := gb583) (o := .cells #[.int .i64 0, .int .i64 0, .int .i64 0, .int .i64 0, .int .i64 0, .int .i64 0, .int .i64 0, .int .i64 0, .int .i64 0, .int .i64 0] 116 (0, 0)) (kq BK583) hb)
      have n4_ := qa.mk (qh (by repeat (first | (with_reducible first | exact HB.out | apply qw | apply qC | apply qJ | refine qf ?_ GE540.out | refine qf ?_ GE541.out | refine qf ?_ GE552.out | refine qf ?_ GE583.out) | exact HB.out)) hb)
      clear BK540
      clear BK541
      clear BK552
      clear BK583
      clear HB
      have BK540 := n0_
      have BK541 := n1_
      have BK552 := n2_
      have BK583 := n3_
      have HB := n4_
      clear n0_ n1_ n2_ n3_ n4_
      (try clear hb)
      (try clear hb2)
      (try clear hk)
      (try clear hi)
      refine hK.out _ _ ⟨(qb BK552.out 0).trans rfl, (qb BK552.out 1).trans rfl, (qb BK552.out 2).trans rfl, (qb BK552.out 3).trans rfl, (qb BK552.out 4).trans rfl, (qb BK552.out 5).trans rfl, (qb BK552.out 6).trans rfl, (qb BK552.out 7).trans rfl, (qb BK552.out 8).trans rfl, (qb BK552.out 9).trans rfl, (qb BK541.out 0).trans rfl, (qb BK541.out 1).trans rfl, (qb BK541.out 2).trans rfl, (qb BK541.out 3).trans rfl, (qb BK541.out 4).trans rfl, (qb BK541.out 5).trans rfl, (qb BK541.out 6).trans rfl, (qb BK541.out 7).trans rfl, (qb BK541.out 8).trans rfl, (qb BK541.out 9).trans rfl⟩ (fun hHeld => ?_)
      clear hK K
      refine zo (a' := ?_) ?_ ?_
      rotate_left
      ·show Act.put _ (some 23) _ = _
       simp only [Act.put, List.setIfInBounds_toArray, List.set_cons_zero, List.set_cons_succ, qz, qA]
       rfl
      exact zo (by simp only [QS, Act.put, List.setIfInBounds_toArray, List.set_cons_zero, List.set_cons_succ]) (hCont (gb583) _ ⟨hHeld, (kq BK540), (kq BK541), (kq BK552), (kq BK583), GW583.out, GE583.out, NB540_583.out, NB583_540.out, NB541_583.out, NB583_541.out, NB552_583.out, NB583_552.out, (by repeat (first | (with_reducible first | exact HB.out | apply qw | apply qC | apply qJ | refine qf ?_ GE540.out | refine qf ?_ GE541.out | refine qf ?_ GE552.out | refine qf ?_ GE583.out) | exact HB.out))⟩)
     skip
     refine J3 ?hg (N := 9) ?hd (cs := #[.int .i64 0, .int .i64 0, .int .i64 0, .int .i64 0, .int .i64 0, .int .i64 0, .int .i64 0, .int .i64 0, .int .i64 0, .int .i64 0]) (t := 116) ?hr ?_; (case hd => rfl); (case hg => rfl); (case hr => first | (go_simp; done) | (go_simp; rfl))
     intro gb583 hg w21 hbox hb
     have n0_ := qa.mk (qF (g := gb540) (o := .cells #[.int .i64 a0_0, .int .i64 a0_1, .int .i64 a0_2, .int .i64 a0_3, .int .i64 a0_4, .int .i64 a0_5, .int .i64 a0_6, .int .i64 a0_7, .int .i64 a0_8, .int .i64 a0_9] 116 (0, 0)) (kq BK540) hb)
     have n1_ := qa.mk (qF (g := gb541) (o := .cells #[.int .i64 a1_0, .int .i64 a1_1, .int .i64 a1_2, .int .i64 a1_3, .int .i64 a1_4, .int .i64 a1_5, .int .i64 a1_6, .int .i64 a1_7, .int .i64 a1_8, .int .i64 a1_9] 116 (0, 0)) (kq BK541) hb)
     have n2_ := qa.mk (qF (g := gb552) (o := .cells #[.int .i64 t542, .int .i64 t543, .int .i64 t544, .int .i64 t545, .int .i64 t546, .int .i64 t547, .int .i64 t548, .int .i64 t549, .int .i64 t550, .int .i64 t551] 116 (0, 0)) (kq BK552) hb)
     have n3_ := qa.mk (qh (by repeat (first | (with_reducible first | exact HB.out | apply qw | apply qC | apply qJ | refine qf ?_ GE540.out | refine qf ?_ GE541.out | refine qf ?_ GE552.out) | exact HB.out)) hb)
     have n4_ := qa.mk (hbox)
     have n5_ := qa.mk ((by rw [hg]; exact (qx (by repeat (first | (with_reducible first | exact HB.out | apply qw | apply qC | apply qJ | refine qf ?_ GE540.out | refine qf ?_ GE541.out | refine qf ?_ GE552.out) | exact HB.out))) : w.heap.size ≤ gb583))
     have n6_ := qa.mk ((by rw [hg]; exact (qx (by repeat (first | (with_reducible first | exact HB.out | apply qw | apply qC | apply qJ | refine qf ?_ GE540.out | refine qf ?_ GE541.out | refine qf ?_ GE552.out) | exact HB.out))) : w.heap.size ≤ gb583))
     have n7_ := qa.mk ((by rw [hg]; exact Nat.ne_of_lt (qy (g := gb540) (o := .cells #[.int .i64 a0_0, .int .i64 a0_1, .int .i64 a0_2, .int .i64 a0_3, .int .i64 a0_4, .int .i64 a0_5, .int .i64 a0_6, .int .i64 a0_7, .int .i64 a0_8, .int .i64 a0_9] 116 (0, 0)) (kq BK540)) : gb540 ≠ gb583))
     have n8_ := qa.mk ((by rw [hg]; exact Nat.ne_of_gt (qy (g := gb540) (o := .cells #[.int .i64 a0_0, .int .i64 a0_1, .int .i64 a0_2, .int .i64 a0_3, .int .i64 a0_4, .int .i64 a0_5, .int .i64 a0_6, .int .i64 a0_7, .int .i64 a0_8, .int .i64 a0_9] 116 (0, 0)) (kq BK540)) : gb583 ≠ gb540))
     have n9_ := qa.mk ((by rw [hg]; exact Nat.ne_of_lt (qy (g := gb541) (o := .cells #[.int .i64 a1_0, .int .i64 a1_1, .int .i64 a1_2, .int .i64 a1_3, .int .i64 a1_4, .int .i64 a1_5, .int .i64 a1_6, .int .i64 a1_7, .int .i64 a1_8, .int .i64 a1_9] 116 (0, 0)) (kq BK541)) : gb541 ≠ gb583))
     have n10_ := qa.mk ((by rw [hg]; exact Nat.ne_of_gt (qy (g := gb541) (o := .cells #[.int .i64 a1_0, .int .i64 a1_1, .int .i64 a1_2, .int .i64 a1_3, .int .i64 a1_4, .int .i64 a1_5, .int .i64 a1_6, .int .i64 a1_7, .int .i64 a1_8, .int .i64 a1_9] 116 (0, 0)) (kq BK541)) : gb583 ≠ gb541))
     have n11_ := qa.mk ((by rw [hg]; exact Nat.ne_of_lt (qy (g := gb552) (o := .cells #[.int .i64 t542, .int .i64 t543, .int .i64 t544, .int .i64 t545, .int .i64 t546, .int .i64 t547, .int .i64 t548, .int .i64 t549, .int .i64 t550, .int .i64 t551] 116 (0, 0)) (kq BK552)) : gb552 ≠ gb583))
     have n12_ := qa.mk ((by rw [hg]; exact Nat.ne_of_gt (qy (g := gb552) (o := .cells #[.int .i64 t542, .int .i64 t543, .int .i64 t544, .int .i64 t545, .int .i64 t546, .int .i64 t547, .int .i64 t548, .int .i64 t549, .int .i64 t550, .int .i64 t551] 116 (0, 0)) (kq BK552)) : gb583 ≠ gb552))
     clear BK540
     clear BK541
     clear BK552
     clear HB
     have BK540 := n0_
     have BK541 := n1_
     have BK552 := n2_
     have HB := n3_
     have BK583 := n4_
     have GW583 := n5_
     have GE583 := n6_
     have NB540_583 := n7_
     have NB583_540 := n8_
     have NB541_583 := n9_
     have NB583_541 := n10_
     have NB552_583 := n11_
     have NB583_552 := n12_
     clear n0_ n1_ n2_ n3_ n4_ n5_ n6_ n7_ n8_ n9_ n10_ n11_ n12_
     clear hb hbox hg
     refine hK.out _ _ ⟨(qb BK552.out 0).trans rfl, (qb BK552.out 1).trans rfl, (qb BK552.out 2).trans rfl, (qb BK552.out 3).trans rfl, (qb BK552.out 4).trans rfl, (qb BK552.out 5).trans rfl, (qb BK552.out 6).trans rfl, (qb BK552.out 7).trans rfl, (qb BK552.out 8).trans rfl, (qb BK552.out 9).trans rfl, (qb BK541.out 0).trans rfl, (qb BK541.out 1).trans rfl, (qb BK541.out 2).trans rfl, (qb BK541.out 3).trans rfl, (qb BK541.out 4).trans rfl, (qb BK541.out 5).trans rfl, (qb BK541.out 6).trans rfl, (qb BK541.out 7).trans rfl, (qb BK541.out 8).trans rfl, (qb BK541.out 9).trans rfl⟩ (fun hHeld => ?_)
     clear hK K
     refine zo (a' := ?_) ?_ ?_
     rotate_left
     ·show Act.put _ (some 9) _ = _
      simp only [Act.put, List.setIfInBounds_toArray, List.set_cons_zero, List.set_cons_succ, qz, qA]
      rfl
     refine jd (i := 3) (N := some 21) #[true, true, true, true, true, false, true, false] rfl rfl (jW HT_.out (by kernel_rfl)) (by decide) (fun K hK => ?_)
     refine zS Try.func69 (by kernel_rfl) rfl #[.agg #[.int .i64 t553, .int .i64 t554, .int .i64 t555, .int .i64 t556, .int .i64 t557, .int .i64 t558, .int .i64 t559, .int .i64 t560, .int .i64 t561, .int .i64 t562], .agg #[.int .i64 t542, .int .i64 t543, .int .i64 t544, .int .i64 t545, .int .i64 t546, .int .i64 t547, .int .i64 t548, .int .i64 t549, .int .i64 t550, .int .i64 t551]] (by rfl) rfl rfl (by (try simp only [List.map_toArray, List.map_cons, List.map_nil]); first | done | rfl | (simp only [List.length_drop, List.length_take]; rfl)) ?_
     with_reducible refine (ze.calls t553 t554 t555 t556 t557 t558 t559 t560 t561 t562 t542 t543 t544 t545 t546 t547 t548 t549 t550 t551 t563 t564 t565 t566 t567 t568 t569 t570 t571 t572 _ A13.out).mono ?_
     rintro e w22 ⟨rfl, hb⟩
     refine ⟨_, rfl, ?_⟩
     have n0_ := qa.mk (qF (g := gb540) (o := .cells #[.int .i64 a0_0, .int .i64 a0_1, .int .i64 a0_2, .int .i64 a0_3, .int .i64 a0_4, .int .i64 a0_5, .int .i64 a0_6, .int .i64 a0_7, .int .i64 a0_8, .int .i64 a0_9] 116 (0, 0)) (kq BK540) hb)
     have n1_ := qa.mk (qF (g := gb541) (o := .cells #[.int .i64 a1_0, .int .i64 a1_1, .int .i64 a1_2, .int .i64 a1_3, .int .i64 a1_4, .int .i64 a1_5, .int .i64 a1_6, .int .i64 a1_7, .int .i64 a1_8, .int .i64 a1_9] 116 (0, 0)) (kq BK541) hb)
     have n2_ := qa.mk (qF (g := gb552) (o := .cells #[.int .i64 t542, .int .i64 t543, .int .i64 t544, .int .i64 t545, .int .i64 t546, .int .i64 t547, .int .i64 t548, .int .i64 t549, .int .i64 t550, .int .i64 t551] 116 (0, 0)) (kq BK552) hb)
     have n3_ := qa.mk (qF (g := gb583) (o := .cells #[.int .i64 0, .int .i64 0, .int .i64 0, .int .i64 0, .int .i64 0, .int .i64 0, .int .i64 0, .int .i64 0, .int .i64 0, .int .i64 0] 116 (0, 0)) (kq BK583) hb)
     have n4_ := qa.mk (qh (by repeat (first | (with_reducible first | exact HB.out | apply qw | apply qC | apply qJ | refine qf ?_ GE540.out | refine qf ?_ GE541.out | refine qf ?_ GE552.out | refine qf ?_ GE583.out) | exact HB.out)) hb)
     clear BK540
     clear BK541
     clear BK552
     clear BK583
     clear HB
     have BK540 := n0_
     have BK541 := n1_
     have BK552 := n2_
     have BK583 := n3_
     have HB := n4_
     clear n0_ n1_ n2_ n3_ n4_
     (try clear hb)
     (try clear hb2)
     (try clear hk)
     (try clear hi)
     refine hK.out _ _ ⟨(qb BK552.out 0).trans rfl, (qb BK552.out 1).trans rfl, (qb BK552.out 2).trans rfl, (qb BK552.out 3).trans rfl, (qb BK552.out 4).trans rfl, (qb BK552.out 5).trans rfl, (qb BK552.out 6).trans rfl, (qb BK552.out 7).trans rfl, (qb BK552.out 8).trans rfl, (qb BK552.out 9).trans rfl, (qb BK541.out 0).trans rfl, (qb BK541.out 1).trans rfl, (qb BK541.out 2).trans rfl, (qb BK541.out 3).trans rfl, (qb BK541.out 4).trans rfl, (qb BK541.out 5).trans rfl, (qb BK541.out 6).trans rfl, (qb BK541.out 7).trans rfl, (qb BK541.out 8).trans rfl, (qb BK541.out 9).trans rfl⟩ (fun hHeld => ?_)
     clear hK K
     refine zo (a' := ?_) ?_ ?_
     rotate_left
     ·show Act.put _ (some 21) _ = _
      simp only [Act.put, List.setIfInBounds_toArray, List.set_cons_zero, List.set_cons_succ, qz, qA]
      rfl
     refine jd (i := 5) (N := some 23) #[true, true, true, true, true, true, true, false] rfl rfl (jW HT_.out (by kernel_rfl)) (by decide) (fun K hK => ?_)
     refine zS Try.func69 (by kernel_rfl) rfl #[.agg #[.int .i64 t563, .int .i64 t564, .int .i64 t565, .int .i64 t566, .int .i64 t567, .int .i64 t568, .int .i64 t569, .int .i64 t570, .int .i64 t571, .int .i64 t572], .agg #[.int .i64 a1_0, .int .i64 a1_1, .int .i64 a1_2, .int .i64 a1_3, .int .i64 a1_4, .int .i64 a1_5, .int .i64 a1_6, .int .i64 a1_7, .int .i64 a1_8, .int .i64 a1_9]] (by rfl) rfl rfl (by (try simp only [List.map_toArray, List.map_cons, List.map_nil]); first | done | rfl | (simp only [List.length_drop, List.length_take]; rfl)) ?_
     with_reducible refine (ze.calls t563 t564 t565 t566 t567 t568 t569 t570 t571 t572 a1_0 a1_1 a1_2 a1_3 a1_4 a1_5 a1_6 a1_7 a1_8 a1_9 t573 t574 t575 t576 t577 t578 t579 t580 t581 t582 _ A14.out).mono ?_
     rintro e w23 ⟨rfl, hb⟩
     refine ⟨_, rfl, ?_⟩
     have n0_ := qa.mk (qF (g := gb540) (o := .cells #[.int .i64 a0_0, .int .i64 a0_1, .int .i64 a0_2, .int .i64 a0_3, .int .i64 a0_4, .int .i64 a0_5, .int .i64 a0_6, .int .i64 a0_7, .int .i64 a0_8, .int .i64 a0_9] 116 (0, 0)) (kq BK540) hb)
     have n1_ := qa.mk (qF (g := gb541) (o := .cells #[.int .i64 a1_0, .int .i64 a1_1, .int .i64 a1_2, .int .i64 a1_3, .int .i64 a1_4, .int .i64 a1_5, .int .i64 a1_6, .int .i64 a1_7, .int .i64 a1_8, .int .i64 a1_9] 116 (0, 0)) (kq BK541) hb)
     have n2_ := qa.mk (qF (g := gb552) (o := .cells #[.int .i64 t542, .int .i64 t543, .int .i64 t544, .int .i64 t545, .int .i64 t546, .int .i64 t547, .int .i64 t548, .int .i64 t549, .int .i64 t550, .int .i64 t551] 116 (0, 0)) (kq BK552) hb)
     have n3_ := qa.mk (qF (g := gb583) (o := .cells #[.int .i64 0, .int .i64 0, .int .i64 0, .int .i64 0, .int .i64 0, .int .i64 0, .int .i64 0, .int .i64 0, .int .i64 0, .int .i64 0] 116 (0, 0)) (kq BK583) hb)
     have n4_ := qa.mk (qh (by repeat (first | (with_reducible first | exact HB.out | apply qw | apply qC | apply qJ | refine qf ?_ GE540.out | refine qf ?_ GE541.out | refine qf ?_ GE552.out | refine qf ?_ GE583.out) | exact HB.out)) hb)
     clear BK540
     clear BK541
     clear BK552
     clear BK583
     clear HB
     have BK540 := n0_
     have BK541 := n1_
     have BK552 := n2_
     have BK583 := n3_
     have HB := n4_
     clear n0_ n1_ n2_ n3_ n4_
     (try clear hb)
     (try clear hb2)
     (try clear hk)
     (try clear hi)
     refine hK.out _ _ ⟨(qb BK552.out 0).trans rfl, (qb BK552.out 1).trans rfl, (qb BK552.out 2).trans rfl, (qb BK552.out 3).trans rfl, (qb BK552.out 4).trans rfl, (qb BK552.out 5).trans rfl, (qb BK552.out 6).trans rfl, (qb BK552.out 7).trans rfl, (qb BK552.out 8).trans rfl, (qb BK552.out 9).trans rfl, (qb BK541.out 0).trans rfl, (qb BK541.out 1).trans rfl, (qb BK541.out 2).trans rfl, (qb BK541.out 3).trans rfl, (qb BK541.out 4).trans rfl, (qb BK541.out 5).trans rfl, (qb BK541.out 6).trans rfl, (qb BK541.out 7).trans rfl, (qb BK541.out 8).trans rfl, (qb BK541.out 9).trans rfl⟩ (fun hHeld => ?_)
     clear hK K
     refine zo (a' := ?_) ?_ ?_
     rotate_left
     ·show Act.put _ (some 23) _ = _
      simp only [Act.put, List.setIfInBounds_toArray, List.set_cons_zero, List.set_cons_succ, qz, qA]
      rfl
     exact zo (by simp only [QS, Act.put, List.setIfInBounds_toArray, List.set_cons_zero, List.set_cons_succ]) (hCont (gb583) _ ⟨hHeld, (kq BK540), (kq BK541), (kq BK552), (kq BK583), GW583.out, GE583.out, NB540_583.out, NB583_540.out, NB541_583.out, NB583_541.out, NB552_583.out, NB583_552.out, (by repeat (first | (with_reducible first | exact HB.out | apply qw | apply qC | apply qJ | refine qf ?_ GE540.out | refine qf ?_ GE541.out | refine qf ?_ GE552.out | refine qf ?_ GE583.out) | exact HB.out))⟩)
    skip
    refine J3 ?hg (N := 9) ?hd (cs := #[.int .i64 0, .int .i64 0, .int .i64 0, .int .i64 0, .int .i64 0, .int .i64 0, .int .i64 0, .int .i64 0, .int .i64 0, .int .i64 0]) (t := 116) ?hr ?_; (case hd => rfl); (case hg => rfl); (case hr => first | (go_simp; done) | (go_simp; rfl))
    intro gb583 hg w20 hbox hb
    have n0_ := qa.mk (qF (g := gb540) (o := .cells #[.int .i64 a0_0, .int .i64 a0_1, .int .i64 a0_2, .int .i64 a0_3, .int .i64 a0_4, .int .i64 a0_5, .int .i64 a0_6, .int .i64 a0_7, .int .i64 a0_8, .int .i64 a0_9] 116 (0, 0)) (kq BK540) hb)
    have n1_ := qa.mk (qF (g := gb541) (o := .cells #[.int .i64 a1_0, .int .i64 a1_1, .int .i64 a1_2, .int .i64 a1_3, .int .i64 a1_4, .int .i64 a1_5, .int .i64 a1_6, .int .i64 a1_7, .int .i64 a1_8, .int .i64 a1_9] 116 (0, 0)) (kq BK541) hb)
    have n2_ := qa.mk (qF (g := gb552) (o := .cells #[.int .i64 t542, .int .i64 t543, .int .i64 t544, .int .i64 t545, .int .i64 t546, .int .i64 t547, .int .i64 t548, .int .i64 t549, .int .i64 t550, .int .i64 t551] 116 (0, 0)) (kq BK552) hb)
    have n3_ := qa.mk (qh (by repeat (first | (with_reducible first | exact HB.out | apply qw | apply qC | apply qJ | refine qf ?_ GE540.out | refine qf ?_ GE541.out | refine qf ?_ GE552.out) | exact HB.out)) hb)
    have n4_ := qa.mk (hbox)
    have n5_ := qa.mk ((by rw [hg]; exact (qx (by repeat (first | (with_reducible first | exact HB.out | apply qw | apply qC | apply qJ | refine qf ?_ GE540.out | refine qf ?_ GE541.out | refine qf ?_ GE552.out) | exact HB.out))) : w.heap.size ≤ gb583))
    have n6_ := qa.mk ((by rw [hg]; exact (qx (by repeat (first | (with_reducible first | exact HB.out | apply qw | apply qC | apply qJ | refine qf ?_ GE540.out | refine qf ?_ GE541.out | refine qf ?_ GE552.out) | exact HB.out))) : w.heap.size ≤ gb583))
    have n7_ := qa.mk ((by rw [hg]; exact Nat.ne_of_lt (qy (g := gb540) (o := .cells #[.int .i64 a0_0, .int .i64 a0_1, .int .i64 a0_2, .int .i64 a0_3, .int .i64 a0_4, .int .i64 a0_5, .int .i64 a0_6, .int .i64 a0_7, .int .i64 a0_8, .int .i64 a0_9] 116 (0, 0)) (kq BK540)) : gb540 ≠ gb583))
    have n8_ := qa.mk ((by rw [hg]; exact Nat.ne_of_gt (qy (g := gb540) (o := .cells #[.int .i64 a0_0, .int .i64 a0_1, .int .i64 a0_2, .int .i64 a0_3, .int .i64 a0_4, .int .i64 a0_5, .int .i64 a0_6, .int .i64 a0_7, .int .i64 a0_8, .int .i64 a0_9] 116 (0, 0)) (kq BK540)) : gb583 ≠ gb540))
    have n9_ := qa.mk ((by rw [hg]; exact Nat.ne_of_lt (qy (g := gb541) (o := .cells #[.int .i64 a1_0, .int .i64 a1_1, .int .i64 a1_2, .int .i64 a1_3, .int .i64 a1_4, .int .i64 a1_5, .int .i64 a1_6, .int .i64 a1_7, .int .i64 a1_8, .int .i64 a1_9] 116 (0, 0)) (kq BK541)) : gb541 ≠ gb583))
    have n10_ := qa.mk ((by rw [hg]; exact Nat.ne_of_gt (qy (g := gb541) (o := .cells #[.int .i64 a1_0, .int .i64 a1_1, .int .i64 a1_2, .int .i64 a1_3, .int .i64 a1_4, .int .i64 a1_5, .int .i64 a1_6, .int .i64 a1_7, .int .i64 a1_8, .int .i64 a1_9] 116 (0, 0)) (kq BK541)) : gb583 ≠ gb541))
    have n11_ := qa.mk ((by rw [hg]; exact Nat.ne_of_lt (qy (g := gb552) (o := .cells #[.int .i64 t542, .int .i64 t543, .int .i64 t544, .int .i64 t545, .int .i64 t546, .int .i64 t547, .int .i64 t548, .int .i64 t549, .int .i64 t550, .int .i64 t551] 116 (0, 0)) (kq BK552)) : gb552 ≠ gb583))
    have n12_ := qa.mk ((by rw [hg]; exact Nat.ne_of_gt (qy (g := gb552) (o := .cells #[.int .i64 t542, .int .i64 t543, .int .i64 t544, .int .i64 t545, .int .i64 t546, .int .i64 t547, .int .i64 t548, .int .i64 t549, .int .i64 t550, .int .i64 t551] 116 (0, 0)) (kq BK552)) : gb583 ≠ gb552))
    clear BK540
    clear BK541
    clear BK552
    clear HB
    have BK540 := n0_
    have BK541 := n1_
    have BK552 := n2_
    have HB := n3_
    have BK583 := n4_
    have GW583 := n5_
    have GE583 := n6_
    have NB540_583 := n7_
    have NB583_540 := n8_
    have NB541_583 := n9_
    have NB583_541 := n10_
    have NB552_583 := n11_
    have NB583_552 := n12_
    clear n0_ n1_ n2_ n3_ n4_ n5_ n6_ n7_ n8_ n9_ n10_ n11_ n12_
    clear hb hbox hg
    refine hK.out _ _ ⟨(qb BK552.out 0).trans rfl, (qb BK552.out 1).trans rfl, (qb BK552.out 2).trans rfl, (qb BK552.out 3).trans rfl, (qb BK552.out 4).trans rfl, (qb BK552.out 5).trans rfl, (qb BK552.out 6).trans rfl, (qb BK552.out 7).trans rfl, (qb BK552.out 8).trans rfl, (qb BK552.out 9).trans rfl, (qb BK541.out 0).trans rfl, (qb BK541.out 1).trans rfl, (qb BK541.out 2).trans rfl, (qb BK541.out 3).trans rfl, (qb BK541.out 4).trans rfl, (qb BK541.out 5).trans rfl, (qb BK541.out 6).trans rfl, (qb BK541.out 7).trans rfl, (qb BK541.out 8).trans rfl, (qb BK541.out 9).trans rfl⟩ (fun hHeld => ?_)
    clear hK K
    refine zo (a' := ?_) ?_ ?_
    rotate_left
    ·show Act.put _ (some 9) _ = _
     simp only [Act.put, List.setIfInBounds_toArray, List.set_cons_zero, List.set_cons_succ, qz, qA]
     rfl
    refine jd (i := 1) (N := some 19) #[true, true, true, false, true, false, true, false] rfl rfl (jW HT_.out (by kernel_rfl)) (by decide) (fun K hK => ?_)
    refine zS Try.func70 (by kernel_rfl) rfl #[.int .i64 (wrap64 (x6_1 + x7_1))] (by rfl) rfl rfl (by (try simp only [List.map_toArray, List.map_cons, List.map_nil]); first | done | rfl | (simp only [List.length_drop, List.length_take]; rfl)) ?_
    with_reducible refine (qV.calls (wrap64 (x6_1 + x7_1)) t553 t554 t555 t556 t557 t558 t559 t560 t561 t562 _ A12.out).mono ?_
    rintro e w21 ⟨rfl, hb⟩
    refine ⟨_, rfl, ?_⟩
    have n0_ := qa.mk (qF (g := gb540) (o := .cells #[.int .i64 a0_0, .int .i64 a0_1, .int .i64 a0_2, .int .i64 a0_3, .int .i64 a0_4, .int .i64 a0_5, .int .i64 a0_6, .int .i64 a0_7, .int .i64 a0_8, .int .i64 a0_9] 116 (0, 0)) (kq BK540) hb)
    have n1_ := qa.mk (qF (g := gb541) (o := .cells #[.int .i64 a1_0, .int .i64 a1_1, .int .i64 a1_2, .int .i64 a1_3, .int .i64 a1_4, .int .i64 a1_5, .int .i64 a1_6, .int .i64 a1_7, .int .i64 a1_8, .int .i64 a1_9] 116 (0, 0)) (kq BK541) hb)
    have n2_ := qa.mk (qF (g := gb552) (o := .cells #[.int .i64 t542, .int .i64 t543, .int .i64 t544, .int .i64 t545, .int .i64 t546, .int .i64 t547, .int .i64 t548, .int .i64 t549, .int .i64 t550, .int .i64 t551] 116 (0, 0)) (kq BK552) hb)
    have n3_ := qa.mk (qF (g := gb583) (o := .cells #[.int .i64 0, .int .i64 0, .int .i64 0, .int .i64 0, .int .i64 0, .int .i64 0, .int .i64 0, .int .i64 0, .int .i64 0, .int .i64 0] 116 (0, 0)) (kq BK583) hb)
    have n4_ := qa.mk (qh (by repeat (first | (with_reducible first | exact HB.out | apply qw | apply qC | apply qJ | refine qf ?_ GE540.out | refine qf ?_ GE541.out | refine qf ?_ GE552.out | refine qf ?_ GE583.out) | exact HB.out)) hb)
    clear BK540
    clear BK541
    clear BK552
    clear BK583
    clear HB
    have BK540 := n0_
    have BK541 := n1_
    have BK552 := n2_
    have BK583 := n3_
    have HB := n4_
    clear n0_ n1_ n2_ n3_ n4_
    (try clear hb)
    (try clear hb2)
    (try clear hk)
    (try clear hi)
    refine hK.out _ _ ⟨(qb BK552.out 0).trans rfl, (qb BK552.out 1).trans rfl, (qb BK552.out 2).trans rfl, (qb BK552.out 3).trans rfl, (qb BK552.out 4).trans rfl, (qb BK552.out 5).trans rfl, (qb BK552.out 6).trans rfl, (qb BK552.out 7).trans rfl, (qb BK552.out 8).trans rfl, (qb BK552.out 9).trans rfl, (qb BK541.out 0).trans rfl, (qb BK541.out 1).trans rfl, (qb BK541.out 2).trans rfl, (qb BK541.out 3).trans rfl, (qb BK541.out 4).trans rfl, (qb BK541.out 5).trans rfl, (qb BK541.out 6).trans rfl, (qb BK541.out 7).trans rfl, (qb BK541.out 8).trans rfl, (qb BK541.out 9).trans rfl⟩ (fun hHeld => ?_)
    clear hK K
    refine zo (a' := ?_) ?_ ?_
    rotate_left
    ·show Act.put _ (some 19) _ = _
     simp only [Act.put, List.setIfInBounds_toArray, List.set_cons_zero, List.set_cons_succ, qz, qA]
     rfl
    refine jd (i := 3) (N := some 21) #[true, true, true, true, true, false, true, false] rfl rfl (jW HT_.out (by kernel_rfl)) (by decide) (fun K hK => ?_)
    refine zS Try.func69 (by kernel_rfl) rfl #[.agg #[.int .i64 t553, .int .i64 t554, .int .i64 t555, .int .i64 t556, .int .i64 t557, .int .i64 t558, .int .i64 t559, .int .i64 t560, .int .i64 t561, .int .i64 t562], .agg #[.int .i64 t542, .int .i64 t543, .int .i64 t544, .int .i64 t545, .int .i64 t546, .int .i64 t547, .int .i64 t548, .int .i64 t549, .int .i64 t550, .int .i64 t551]] (by rfl) rfl rfl (by (try simp only [List.map_toArray, List.map_cons, List.map_nil]); first | done | rfl | (simp only [List.length_drop, List.length_take]; rfl)) ?_
    with_reducible refine (ze.calls t553 t554 t555 t556 t557 t558 t559 t560 t561 t562 t542 t543 t544 t545 t546 t547 t548 t549 t550 t551 t563 t564 t565 t566 t567 t568 t569 t570 t571 t572 _ A13.out).mono ?_
    rintro e w22 ⟨rfl, hb⟩
    refine ⟨_, rfl, ?_⟩
    have n0_ := qa.mk (qF (g := gb540) (o := .cells #[.int .i64 a0_0, .int .i64 a0_1, .int .i64 a0_2, .int .i64 a0_3, .int .i64 a0_4, .int .i64 a0_5, .int .i64 a0_6, .int .i64 a0_7, .int .i64 a0_8, .int .i64 a0_9] 116 (0, 0)) (kq BK540) hb)
    have n1_ := qa.mk (qF (g := gb541) (o := .cells #[.int .i64 a1_0, .int .i64 a1_1, .int .i64 a1_2, .int .i64 a1_3, .int .i64 a1_4, .int .i64 a1_5, .int .i64 a1_6, .int .i64 a1_7, .int .i64 a1_8, .int .i64 a1_9] 116 (0, 0)) (kq BK541) hb)
    have n2_ := qa.mk (qF (g := gb552) (o := .cells #[.int .i64 t542, .int .i64 t543, .int .i64 t544, .int .i64 t545, .int .i64 t546, .int .i64 t547, .int .i64 t548, .int .i64 t549, .int .i64 t550, .int .i64 t551] 116 (0, 0)) (kq BK552) hb)
    have n3_ := qa.mk (qF (g := gb583) (o := .cells #[.int .i64 0, .int .i64 0, .int .i64 0, .int .i64 0, .int .i64 0, .int .i64 0, .int .i64 0, .int .i64 0, .int .i64 0, .int .i64 0] 116 (0, 0)) (kq BK583) hb)
    have n4_ := qa.mk (qh (by repeat (first | (with_reducible first | exact HB.out | apply qw | apply qC | apply qJ | refine qf ?_ GE540.out | refine qf ?_ GE541.out | refine qf ?_ GE552.out | refine qf ?_ GE583.out) | exact HB.out)) hb)
    clear BK540
    clear BK541
    clear BK552
    clear BK583
    clear HB
    have BK540 := n0_
    have BK541 := n1_
    have BK552 := n2_
    have BK583 := n3_
    have HB := n4_
    clear n0_ n1_ n2_ n3_ n4_
    (try clear hb)
    (try clear hb2)
    (try clear hk)
    (try clear hi)
    refine hK.out _ _ ⟨(qb BK552.out 0).trans rfl, (qb BK552.out 1).trans rfl, (qb BK552.out 2).trans rfl, (qb BK552.out 3).trans rfl, (qb BK552.out 4).trans rfl, (qb BK552.out 5).trans rfl, (qb BK552.out 6).trans rfl, (qb BK552.out 7).trans rfl, (qb BK552.out 8).trans rfl, (qb BK552.out 9).trans rfl, (qb BK541.out 0).trans rfl, (qb BK541.out 1).trans rfl, (qb BK541.out 2).trans rfl, (qb BK541.out 3).trans rfl, (qb BK541.out 4).trans rfl, (qb BK541.out 5).trans rfl, (qb BK541.out 6).trans rfl, (qb BK541.out 7).trans rfl, (qb BK541.out 8).trans rfl, (qb BK541.out 9).trans rfl⟩ (fun hHeld => ?_)
    clear hK K
    refine zo (a' := ?_) ?_ ?_
    rotate_left
    ·show Act.put _ (some 21) _ = _
     simp only [Act.put, List.setIfInBounds_toArray, List.set_cons_zero, List.set_cons_succ, qz, qA]
     rfl
    refine jd (i := 5) (N := some 23) #[true, true, true, true, true, true, true, false] rfl rfl (jW HT_.out (by kernel_rfl)) (by decide) (fun K hK => ?_)
    refine zS Try.func69 (by kernel_rfl) rfl #[.agg #[.int .i64 t563, .int .i64 t564, .int .i64 t565, .int .i64 t566, .int .i64 t567, .int .i64 t568, .int .i64 t569, .int .i64 t570, .int .i64 t571, .int .i64 t572], .agg #[.int .i64 a1_0, .int .i64 a1_1, .int .i64 a1_2, .int .i64 a1_3, .int .i64 a1_4, .int .i64 a1_5, .int .i64 a1_6, .int .i64 a1_7, .int .i64 a1_8, .int .i64 a1_9]] (by rfl) rfl rfl (by (try simp only [List.map_toArray, List.map_cons, List.map_nil]); first | done | rfl | (simp only [List.length_drop, List.length_take]; rfl)) ?_
    with_reducible refine (ze.calls t563 t564 t565 t566 t567 t568 t569 t570 t571 t572 a1_0 a1_1 a1_2 a1_3 a1_4 a1_5 a1_6 a1_7 a1_8 a1_9 t573 t574 t575 t576 t577 t578 t579 t580 t581 t582 _ A14.out).mono ?_
    rintro e w23 ⟨rfl, hb⟩
    refine ⟨_, rfl, ?_⟩
    have n0_ := qa.mk (qF (g := gb540) (o := .cells #[.int .i64 a0_0, .int .i64 a0_1, .int .i64 a0_2, .int .i64 a0_3, .int .i64 a0_4, .int .i64 a0_5, .int .i64 a0_6, .int .i64 a0_7, .int .i64 a0_8, .int .i64 a0_9] 116 (0, 0)) (kq BK540) hb)
    have n1_ := qa.mk (qF (g := gb541) (o := .cells #[.int .i64 a1_0, .int .i64 a1_1, .int .i64 a1_2, .int .i64 a1_3, .int .i64 a1_4, .int .i64 a1_5, .int .i64 a1_6, .int .i64 a1_7, .int .i64 a1_8, .int .i64 a1_9] 116 (0, 0)) (kq BK541) hb)
    have n2_ := qa.mk (qF (g := gb552) (o := .cells #[.int .i64 t542, .int .i64 t543, .int .i64 t544, .int .i64 t545, .int .i64 t546, .int .i64 t547, .int .i64 t548, .int .i64 t549, .int .i64 t550, .int .i64 t551] 116 (0, 0)) (kq BK552) hb)
    have n3_ := qa.mk (qF (g := gb583) (o := .cells #[.int .i64 0, .int .i64 0, .int .i64 0, .int .i64 0, .int .i64 0, .int .i64 0, .int .i64 0, .int .i64 0, .int .i64 0, .int .i64 0] 116 (0, 0)) (kq BK583) hb)
    have n4_ := qa.mk (qh (by repeat (first | (with_reducible first | exact HB.out | apply qw | apply qC | apply qJ | refine qf ?_ GE540.out | refine qf ?_ GE541.out | refine qf ?_ GE552.out | refine qf ?_ GE583.out) | exact HB.out)) hb)
    clear BK540
    clear BK541
    clear BK552
    clear BK583
    clear HB
    have BK540 := n0_
    have BK541 := n1_
    have BK552 := n2_
    have BK583 := n3_
    have HB := n4_
    clear n0_ n1_ n2_ n3_ n4_
    (try clear hb)
    (try clear hb2)
    (try clear hk)
    (try clear hi)
    refine hK.out _ _ ⟨(qb BK552.out 0).trans rfl, (qb BK552.out 1).trans rfl, (qb BK552.out 2).trans rfl, (qb BK552.out 3).trans rfl, (qb BK552.out 4).trans rfl, (qb BK552.out 5).trans rfl, (qb BK552.out 6).trans rfl, (qb BK552.out 7).trans rfl, (qb BK552.out 8).trans rfl, (qb BK552.out 9).trans rfl, (qb BK541.out 0).trans rfl, (qb BK541.out 1).trans rfl, (qb BK541.out 2).trans rfl, (qb BK541.out 3).trans rfl, (qb BK541.out 4).trans rfl, (qb BK541.out 5).trans rfl, (qb BK541.out 6).trans rfl, (qb BK541.out 7).trans rfl, (qb BK541.out 8).trans rfl, (qb BK541.out 9).trans rfl⟩ (fun hHeld => ?_)
    clear hK K
    refine zo (a' := ?_) ?_ ?_
    rotate_left
    ·show Act.put _ (some 23) _ = _
     simp only [Act.put, List.setIfInBounds_toArray, List.set_cons_zero, List.set_cons_succ, qz, qA]
     rfl
    exact zo (by simp only [QS, Act.put, List.setIfInBounds_toArray, List.set_cons_zero, List.set_cons_succ]) (hCont (gb583) _ ⟨hHeld, (kq BK540), (kq BK541), (kq BK552), (kq BK583), GW583.out, GE583.out, NB540_583.out, NB583_540.out, NB541_583.out, NB583_541.out, NB552_583.out, NB583_552.out, (by repeat (first | (with_reducible first | exact HB.out | apply qw | apply qC | apply qJ | refine qf ?_ GE540.out | refine qf ?_ GE541.out | refine qf ?_ GE552.out | refine qf ?_ GE583.out) | exact HB.out))⟩)
   rintro gb583 w24 ⟨hS_, h0_, h1_, h2_, h3_, h4_, h5_, h6_, h7_, h8_, h9_, h10_, h11_, h12_⟩
   have n0_ : qa (w24.heap[gb540]? = some (.cells #[.int .i64 a0_0, .int .i64 a0_1, .int .i64 a0_2, .int .i64 a0_3, .int .i64 a0_4, .int .i64 a0_5, .int .i64 a0_6, .int .i64 a0_7, .int .i64 a0_8, .int .i64 a0_9] 116 (0, 0))) := ⟨h0_⟩
   have n1_ : qa (w24.heap[gb541]? = some (.cells #[.int .i64 a1_0, .int .i64 a1_1, .int .i64 a1_2, .int .i64 a1_3, .int .i64 a1_4, .int .i64 a1_5, .int .i64 a1_6, .int .i64 a1_7, .int .i64 a1_8, .int .i64 a1_9] 116 (0, 0))) := ⟨h1_⟩
   have n2_ : qa (w24.heap[gb552]? = some (.cells #[.int .i64 t542, .int .i64 t543, .int .i64 t544, .int .i64 t545, .int .i64 t546, .int .i64 t547, .int .i64 t548, .int .i64 t549, .int .i64 t550, .int .i64 t551] 116 (0, 0))) := ⟨h2_⟩
   have n3_ : qa (w24.heap[gb583]? = some (.cells #[.int .i64 0, .int .i64 0, .int .i64 0, .int .i64 0, .int .i64 0, .int .i64 0, .int .i64 0, .int .i64 0, .int .i64 0, .int .i64 0] 116 (0, 0))) := ⟨h3_⟩
   have n4_ : qa (w.heap.size ≤ gb583) := ⟨h4_⟩
   have n5_ : qa (w.heap.size ≤ gb583) := ⟨h5_⟩
   have n6_ : qa (gb540 ≠ gb583) := ⟨h6_⟩
   have n7_ : qa (gb583 ≠ gb540) := ⟨h7_⟩
   have n8_ : qa (gb541 ≠ gb583) := ⟨h8_⟩
   have n9_ : qa (gb583 ≠ gb541) := ⟨h9_⟩
   have n10_ : qa (gb552 ≠ gb583) := ⟨h10_⟩
   have n11_ : qa (gb583 ≠ gb552) := ⟨h11_⟩
   have n12_ : qa (Below w.heap.size w w24) := ⟨h12_⟩
   clear BK540
   clear BK541
   clear BK552
   clear HB
   clear h0_ h1_ h2_ h3_ h4_ h5_ h6_ h7_ h8_ h9_ h10_ h11_ h12_
   have BK540 := n0_
   have BK541 := n1_
   have BK552 := n2_
   have BK583 := n3_
   have GW583 := n4_
   have GE583 := n5_
   have NB540_583 := n6_
   have NB583_540 := n7_
   have NB541_583 := n8_
   have NB583_541 := n9_
   have NB552_583 := n10_
   have NB583_552 := n11_
   have HB := n12_
   clear n0_ n1_ n2_ n3_ n4_ n5_ n6_ n7_ n8_ n9_ n10_ n11_ n12_
   have hHeld : w24.cell? ⟨gb552, 0, none⟩ = some (.int .i64 t542) ∧ w24.cell? ⟨gb552, 1, none⟩ = some (.int .i64 t543) ∧ w24.cell? ⟨gb552, 2, none⟩ = some (.int .i64 t544) ∧ w24.cell? ⟨gb552, 3, none⟩ = some (.int .i64 t545) ∧ w24.cell? ⟨gb552, 4, none⟩ = some (.int .i64 t546) ∧ w24.cell? ⟨gb552, 5, none⟩ = some (.int .i64 t547) ∧ w24.cell? ⟨gb552, 6, none⟩ = some (.int .i64 t548) ∧ w24.cell? ⟨gb552, 7, none⟩ = some (.int .i64 t549) ∧ w24.cell? ⟨gb552, 8, none⟩ = some (.int .i64 t550) ∧ w24.cell? ⟨gb552, 9, none⟩ = some (.int .i64 t551) ∧ w24.cell? ⟨gb541, 0, none⟩ = some (.int .i64 a1_0) ∧ w24.cell? ⟨gb541, 1, none⟩ = some (.int .i64 a1_1) ∧ w24.cell? ⟨gb541, 2, none⟩ = some (.int .i64 a1_2) ∧ w24.cell? ⟨gb541, 3, none⟩ = some (.int .i64 a1_3) ∧ w24.cell? ⟨gb541, 4, none⟩ = some (.int .i64 a1_4) ∧ w24.cell? ⟨gb541, 5, none⟩ = some (.int .i64 a1_5) ∧ w24.cell? ⟨gb541, 6, none⟩ = some (.int .i64 a1_6) ∧ w24.cell? ⟨gb541, 7, none⟩ = some (.int .i64 a1_7) ∧ w24.cell? ⟨gb541, 8, none⟩ = some (.int .i64 a1_8) ∧ w24.cell? ⟨gb541, 9, none⟩ = some (.int .i64 a1_9) := hS_
   refine zo (a' := ?_) ?_ ?_
   rotate_left
   ·simp only [QS, Act.put, List.setIfInBounds_toArray, List.set_cons_zero, List.set_cons_succ]
    rfl
   refine jd (i := 7) (N := none) #[true, true, true, true, true, true, true, true] rfl rfl (jW HT_.out (by kernel_rfl)) (by decide) (fun K hK => ?_)
   have hs25 : w24.cell? ⟨gb583, 0, none⟩ = some (.int .i64 0) := (qb BK583.out 0).trans rfl
   have hfs25 := qo BK583.out 0
   have hns25_0 := NB540_583.out
   have hns25_1 := NB541_583.out
   have hns25_2 := NB552_583.out
   have hms25_0 := NB583_540.out
   have hms25_1 := NB583_541.out
   have hms25_2 := NB583_552.out
   have hs26 : w24.cell? ⟨gb583, 1, none⟩ = some (.int .i64 0) := (qb BK583.out 1).trans rfl
   have hfs26 := qo BK583.out 1
   have hns26_0 := NB540_583.out
   have hns26_1 := NB541_583.out
   have hns26_2 := NB552_583.out
   have hms26_0 := NB583_540.out
   have hms26_1 := NB583_541.out
   have hms26_2 := NB583_552.out
   have hs27 : w24.cell? ⟨gb583, 2, none⟩ = some (.int .i64 0) := (qb BK583.out 2).trans rfl
   have hfs27 := qo BK583.out 2
   have hns27_0 := NB540_583.out
   have hns27_1 := NB541_583.out
   have hns27_2 := NB552_583.out
   have hms27_0 := NB583_540.out
   have hms27_1 := NB583_541.out
   have hms27_2 := NB583_552.out
   have hs28 : w24.cell? ⟨gb583, 3, none⟩ = some (.int .i64 0) := (qb BK583.out 3).trans rfl
   have hfs28 := qo BK583.out 3
   have hns28_0 := NB540_583.out
   have hns28_1 := NB541_583.out
   have hns28_2 := NB552_583.out
   have hms28_0 := NB583_540.out
   have hms28_1 := NB583_541.out
   have hms28_2 := NB583_552.out
   have hs29 : w24.cell? ⟨gb583, 4, none⟩ = some (.int .i64 0) := (qb BK583.out 4).trans rfl
   have hfs29 := qo BK583.out 4
   have hns29_0 := NB540_583.out
   have hns29_1 := NB541_583.out
   have hns29_2 := NB552_583.out
   have hms29_0 := NB583_540.out
   have hms29_1 := NB583_541.out
   have hms29_2 := NB583_552.out
   have hs30 : w24.cell? ⟨gb583, 5, none⟩ = some (.int .i64 0) := (qb BK583.out 5).trans rfl
   have hfs30 := qo BK583.out 5
   have hns30_0 := NB540_583.out
   have hns30_1 := NB541_583.out
   have hns30_2 := NB552_583.out
   have hms30_0 := NB583_540.out
   have hms30_1 := NB583_541.out
   have hms30_2 := NB583_552.out
   have hs31 : w24.cell? ⟨gb583, 6, none⟩ = some (.int .i64 0) := (qb BK583.out 6).trans rfl
   have hfs31 := qo BK583.out 6
   have hns31_0 := NB540_583.out
   have hns31_1 := NB541_583.out
   have hns31_2 := NB552_583.out
   have hms31_0 := NB583_540.out
   have hms31_1 := NB583_541.out
   have hms31_2 := NB583_552.out
   have hs32 : w24.cell? ⟨gb583, 7, none⟩ = some (.int .i64 0) := (qb BK583.out 7).trans rfl
   have hfs32 := qo BK583.out 7
   have hns32_0 := NB540_583.out
   have hns32_1 := NB541_583.out
   have hns32_2 := NB552_583.out
   have hms32_0 := NB583_540.out
   have hms32_1 := NB583_541.out
   have hms32_2 := NB583_552.out
   have hs33 : w24.cell? ⟨gb583, 8, none⟩ = some (.int .i64 0) := (qb BK583.out 8).trans rfl
   have hfs33 := qo BK583.out 8
   have hns33_0 := NB540_583.out
   have hns33_1 := NB541_583.out
   have hns33_2 := NB552_583.out
   have hms33_0 := NB583_540.out
   have hms33_1 := NB583_541.out
   have hms33_2 := NB583_552.out
   have hs34 : w24.cell? ⟨gb583, 9, none⟩ = some (.int .i64 0) := (qb BK583.out 9).trans rfl
   have hfs34 := qo BK583.out 9
   have hns34_0 := NB540_583.out
   have hns34_1 := NB541_583.out
   have hns34_2 := NB552_583.out
   have hms34_0 := NB583_540.out
   have hms34_1 := NB583_541.out
   have hms34_2 := NB583_552.out
   refine ZT (w1 := ?_) (by rfl) rfl ?_ ?_
   rotate_left
   ·go_simp
    rfl
   refine hK.out _ _ ⟨((cell_far (p := ⟨gb583, _, none⟩) NB552_583.out _).trans (((cell_far (p := ⟨gb583, _, none⟩) NB552_583.out _).trans (((cell_far (p := ⟨gb583, _, none⟩) NB552_583.out _).trans (((cell_far (p := ⟨gb583, _, none⟩) NB552_583.out _).trans (((cell_far (p := ⟨gb583, _, none⟩) NB552_583.out _).trans (((cell_far (p := ⟨gb583, _, none⟩) NB552_583.out _).trans (((cell_far (p := ⟨gb583, _, none⟩) NB552_583.out _).trans (((cell_far (p := ⟨gb583, _, none⟩) NB552_583.out _).trans (((cell_far (p := ⟨gb583, _, none⟩) NB552_583.out _).trans (((cell_far (p := ⟨gb583, _, none⟩) NB552_583.out _).trans (hHeld.1)))))))))))))))))))), ((cell_far (p := ⟨gb583, _, none⟩) NB552_583.out _).trans (((cell_far (p := ⟨gb583, _, none⟩) NB552_583.out _).trans (((cell_far (p := ⟨gb583, _, none⟩) NB552_583.out _).trans (((cell_far (p := ⟨gb583, _, none⟩) NB552_583.out _).trans (((cell_far (p := ⟨gb583, _, none⟩) NB552_583.out _).trans (((cell_far (p := ⟨gb583, _, none⟩) NB552_583.out _).trans (((cell_far (p := ⟨gb583, _, none⟩) NB552_583.out _).trans (((cell_far (p := ⟨gb583, _, none⟩) NB552_583.out _).trans (((cell_far (p := ⟨gb583, _, none⟩) NB552_583.out _).trans (((cell_far (p := ⟨gb583, _, none⟩) NB552_583.out _).trans (hHeld.2.1)))))))))))))))))))), ((cell_far (p := ⟨gb583, _, none⟩) NB552_583.out _).trans (((cell_far (p := ⟨gb583, _, none⟩) NB552_583.out _).trans (((cell_far (p := ⟨gb583, _, none⟩) NB552_583.out _).trans (((cell_far (p := ⟨gb583, _, none⟩) NB552_583.out _).trans (((cell_far (p := ⟨gb583, _, none⟩) NB552_583.out _).trans (((cell_far (p := ⟨gb583, _, none⟩) NB552_583.out _).trans (((cell_far (p := ⟨gb583, _, none⟩) NB552_583.out _).trans (((cell_far (p := ⟨gb583, _, none⟩) NB552_583.out _).trans (((cell_far (p := ⟨gb583, _, none⟩) NB552_583.out _).trans (((cell_far (p := ⟨gb583, _, none⟩) NB552_583.out _).trans (hHeld.2.2.1)))))))))))))))))))), ((cell_far (p := ⟨gb583, _, none⟩) NB552_583.out _).trans (((cell_far (p := ⟨gb583, _, none⟩) NB552_583.out _).trans (((cell_far (p := ⟨gb583, _, none⟩) NB552_583.out _).trans (((cell_far (p := ⟨gb583, _, none⟩) NB552_583.out _).trans (((cell_far (p := ⟨gb583, _, none⟩) NB552_583.out _).trans (((cell_far (p := ⟨gb583, _, none⟩) NB552_583.out _).trans (((cell_far (p := ⟨gb583, _, none⟩) NB552_583.out _).trans (((cell_far (p := ⟨gb583, _, none⟩) NB552_583.out _).trans (((cell_far (p := ⟨gb583, _, none⟩) NB552_583.out _).trans (((cell_far (p := ⟨gb583, _, none⟩) NB552_583.out _).trans (hHeld.2.2.2.1)))))))))))))))))))), ((cell_far (p := ⟨gb583, _, none⟩) NB552_583.out _).trans (((cell_far (p := ⟨gb583, _, none⟩) NB552_583.out _).trans (((cell_far (p := ⟨gb583, _, none⟩) NB552_583.out _).trans (((cell_far (p := ⟨gb583, _, none⟩) NB552_583.out _).trans (((cell_far (p := ⟨gb583, _, none⟩) NB552_583.out _).trans (((cell_far (p := ⟨gb583, _, none⟩) NB552_583.out _).trans (((cell_far (p := ⟨gb583, _, none⟩) NB552_583.out _).trans (((cell_far (p := ⟨gb583, _, none⟩) NB552_583.out _).trans (((cell_far (p := ⟨gb583, _, none⟩) NB552_583.out _).trans (((cell_far (p := ⟨gb583, _, none⟩) NB552_583.out _).trans (hHeld.2.2.2.2.1)))))))))))))))))))), ((cell_far (p := ⟨gb583, _, none⟩) NB552_583.out _).trans (((cell_far (p := ⟨gb583, _, none⟩) NB552_583.out _).trans (((cell_far (p := ⟨gb583, _, none⟩) NB552_583.out _).trans (((cell_far (p := ⟨gb583, _, none⟩) NB552_583.out _).trans (((cell_far (p := ⟨gb583, _, none⟩) NB552_583.out _).trans (((cell_far (p := ⟨gb583, _, none⟩) NB552_583.out _).trans (((cell_far (p := ⟨gb583, _, none⟩) NB552_583.out _).trans (((cell_far (p := ⟨gb583, _, none⟩) NB552_583.out _).trans (((cell_far (p := ⟨gb583, _, none⟩) NB552_583.out _).trans (((cell_far (p := ⟨gb583, _, none⟩) NB552_583.out _).trans (hHeld.2.2.2.2.2.1)))))))))))))))))))), ((cell_far (p := ⟨gb583, _, none⟩) NB552_583.out _).trans (((cell_far (p := ⟨gb583, _, none⟩) NB552_583.out _).trans (((cell_far (p := ⟨gb583, _, none⟩) NB552_583.out _).trans (((cell_far (p := ⟨gb583, _, none⟩) NB552_583.out _).trans (((cell_far (p := ⟨gb583, _, none⟩) NB552_583.out _).trans (((cell_far (p := ⟨gb583, _, none⟩) NB552_583.out _).trans (((cell_far (p := ⟨gb583, _, none⟩) NB552_583.out _).trans (((cell_far (p := ⟨gb583, _, none⟩) NB552_583.out _).trans (((cell_far (p := ⟨gb583, _, none⟩) NB552_583.out _).trans (((cell_far (p := ⟨gb583, _, none⟩) NB552_583.out _).trans (hHeld.2.2.2.2.2.2.1)))))))))))))))))))), ((cell_far (p := ⟨gb583, _, none⟩) NB552_583.out _).trans (((cell_far (p := ⟨gb583, _, none⟩) NB552_583.out _).trans (((cell_far (p := ⟨gb583, _, none⟩) NB552_583.out _).trans (((cell_far (p := ⟨gb583, _, none⟩) NB552_583.out _).trans (((cell_far (p := ⟨gb583, _, none⟩) NB552_583.out _).trans (((cell_far (p := ⟨gb583, _, none⟩) NB552_583.out _).trans (((cell_far (p := ⟨gb583, _, none⟩) NB552_583.out _).trans (((cell_far (p := ⟨gb583, _, none⟩) NB552_583.out _).trans (((cell_far (p := ⟨gb583, _, none⟩) NB552_583.out _).trans (((cell_far (p := ⟨gb583, _, none⟩) NB552_583.out _).trans (hHeld.2.2.2.2.2.2.2.1)))))))))))))))))))), ((cell_far (p := ⟨gb583, _, none⟩) NB552_583.out _).trans (((cell_far (p := ⟨gb583, _, none⟩) NB552_583.out _).trans (((cell_far (p := ⟨gb583, _, none⟩) NB552_583.out _).trans (((cell_far (p := ⟨gb583, _, none⟩) NB552_583.out _).trans (((cell_far (p := ⟨gb583, _, none⟩) NB552_583.out _).trans (((cell_far (p := ⟨gb583, _, none⟩) NB552_583.out _).trans (((cell_far (p := ⟨gb583, _, none⟩) NB552_583.out _).trans (((cell_far (p := ⟨gb583, _, none⟩) NB552_583.out _).trans (((cell_far (p := ⟨gb583, _, none⟩) NB552_583.out _).trans (((cell_far (p := ⟨gb583, _, none⟩) NB552_583.out _).trans (hHeld.2.2.2.2.2.2.2.2.1)))))))))))))))))))), ((cell_far (p := ⟨gb583, _, none⟩) NB552_583.out _).trans (((cell_far (p := ⟨gb583, _, none⟩) NB552_583.out _).trans (((cell_far (p := ⟨gb583, _, none⟩) NB552_583.out _).trans (((cell_far (p := ⟨gb583, _, none⟩) NB552_583.out _).trans (((cell_far (p := ⟨gb583, _, none⟩) NB552_583.out _).trans (((cell_far (p := ⟨gb583, _, none⟩) NB552_583.out _).trans (((cell_far (p := ⟨gb583, _, none⟩) NB552_583.out _).trans (((cell_far (p := ⟨gb583, _, none⟩) NB552_583.out _).trans (((cell_far (p := ⟨gb583, _, none⟩) NB552_583.out _).trans (((cell_far (p := ⟨gb583, _, none⟩) NB552_583.out _).trans (hHeld.2.2.2.2.2.2.2.2.2.1)))))))))))))))))))), ((cell_far (p := ⟨gb583, _, none⟩) NB541_583.out _).trans (((cell_far (p := ⟨gb583, _, none⟩) NB541_583.out _).trans (((cell_far (p := ⟨gb583, _, none⟩) NB541_583.out _).trans (((cell_far (p := ⟨gb583, _, none⟩) NB541_583.out _).trans (((cell_far (p := ⟨gb583, _, none⟩) NB541_583.out _).trans (((cell_far (p := ⟨gb583, _, none⟩) NB541_583.out _).trans (((cell_far (p := ⟨gb583, _, none⟩) NB541_583.out _).trans (((cell_far (p := ⟨gb583, _, none⟩) NB541_583.out _).trans (((cell_far (p := ⟨gb583, _, none⟩) NB541_583.out _).trans (((cell_far (p := ⟨gb583, _, none⟩) NB541_583.out _).trans (hHeld.2.2.2.2.2.2.2.2.2.2.1)))))))))))))))))))), ((cell_far (p := ⟨gb583, _, none⟩) NB541_583.out _).trans (((cell_far (p := ⟨gb583, _, none⟩) NB541_583.out _).trans (((cell_far (p := ⟨gb583, _, none⟩) NB541_583.out _).trans (((cell_far (p := ⟨gb583, _, none⟩) NB541_583.out _).trans (((cell_far (p := ⟨gb583, _, none⟩) NB541_583.out _).trans (((cell_far (p := ⟨gb583, _, none⟩) NB541_583.out _).trans (((cell_far (p := ⟨gb583, _, none⟩) NB541_583.out _).trans (((cell_far (p := ⟨gb583, _, none⟩) NB541_583.out _).trans (((cell_far (p := ⟨gb583, _, none⟩) NB541_583.out _).trans (((cell_far (p := ⟨gb583, _, none⟩) NB541_583.out _).trans (hHeld.2.2.2.2.2.2.2.2.2.2.2.1)))))))))))))))))))), ((cell_far (p := ⟨gb583, _, none⟩) NB541_583.out _).trans (((cell_far (p := ⟨gb583, _, none⟩) NB541_583.out _).trans (((cell_far (p := ⟨gb583, _, none⟩) NB541_583.out _).trans (((cell_far (p := ⟨gb583, _, none⟩) NB541_583.out _).trans (((cell_far (p := ⟨gb583, _, none⟩) NB541_583.out _).trans (((cell_far (p := ⟨gb583, _, none⟩) NB541_583.out _).trans (((cell_far (p := ⟨gb583, _, none⟩) NB541_583.out _).trans (((cell_far (p := ⟨gb583, _, none⟩) NB541_583.out _).trans (((cell_far (p := ⟨gb583, _, none⟩) NB541_583.out _).trans (((cell_far (p := ⟨gb583, _, none⟩) NB541_583.out _).trans (hHeld.2.2.2.2.2.2.2.2.2.2.2.2.1)))))))))))))))))))), ((cell_far (p := ⟨gb583, _, none⟩) NB541_583.out _).trans (((cell_far (p := ⟨gb583, _, none⟩) NB541_583.out _).trans (((cell_far (p := ⟨gb583, _, none⟩) NB541_583.out _).trans (((cell_far (p := ⟨gb583, _, none⟩) NB541_583.out _).trans (((cell_far (p := ⟨gb583, _, none⟩) NB541_583.out _).trans (((cell_far (p := ⟨gb583, _, none⟩) NB541_583.out _).trans (((cell_far (p := ⟨gb583, _, none⟩) NB541_583.out _).trans (((cell_far (p := ⟨gb583, _, none⟩) NB541_583.out _).trans (((cell_far (p := ⟨gb583, _, none⟩) NB541_583.out _).trans (((cell_far (p := ⟨gb583, _, none⟩) NB541_583.out _).trans (hHeld.2.2.2.2.2.2.2.2.2.2.2.2.2.1)))))))))))))))))))), ((cell_far (p := ⟨gb583, _, none⟩) NB541_583.out _).trans (((cell_far (p := ⟨gb583, _, none⟩) NB541_583.out _).trans (((cell_far (p := ⟨gb583, _, none⟩) NB541_583.out _).trans (((cell_far (p := ⟨gb583, _, none⟩) NB541_583.out _).trans (((cell_far (p := ⟨gb583, _, none⟩) NB541_583.out _).trans (((cell_far (p := ⟨gb583, _, none⟩) NB541_583.out _).trans (((cell_far (p := ⟨gb583, _, none⟩) NB541_583.out _).trans (((cell_far (p := ⟨gb583, _, none⟩) NB541_583.out _).trans (((cell_far (p := ⟨gb583, _, none⟩) NB541_583.out _).trans (((cell_far (p := ⟨gb583, _, none⟩) NB541_583.out _).trans (hHeld.2.2.2.2.2.2.2.2.2.2.2.2.2.2.1)))))))))))))))))))), ((cell_far (p := ⟨gb583, _, none⟩) NB541_583.out _).trans (((cell_far (p := ⟨gb583, _, none⟩) NB541_583.out _).trans (((cell_far (p := ⟨gb583, _, none⟩) NB541_583.out _).trans (((cell_far (p := ⟨gb583, _, none⟩) NB541_583.out _).trans (((cell_far (p := ⟨gb583, _, none⟩) NB541_583.out _).trans (((cell_far (p := ⟨gb583, _, none⟩) NB541_583.out _).trans (((cell_far (p := ⟨gb583, _, none⟩) NB541_583.out _).trans (((cell_far (p := ⟨gb583, _, none⟩) NB541_583.out _).trans (((cell_far (p := ⟨gb583, _, none⟩) NB541_583.out _).trans (((cell_far (p := ⟨gb583, _, none⟩) NB541_583.out _).trans (hHeld.2.2.2.2.2.2.2.2.2.2.2.2.2.2.2.1)))))))))))))))))))), ((cell_far (p := ⟨gb583, _, none⟩) NB541_583.out _).trans (((cell_far (p := ⟨gb583, _, none⟩) NB541_583.out _).trans (((cell_far (p := ⟨gb583, _, none⟩) NB541_583.out _).trans (((cell_far (p := ⟨gb583, _, none⟩) NB541_583.out _).trans (((cell_far (p := ⟨gb583, _, none⟩) NB541_583.out _).trans (((cell_far (p := ⟨gb583, _, none⟩) NB541_583.out _).trans (((cell_far (p := ⟨gb583, _, none⟩) NB541_583.out _).trans (((cell_far (p := ⟨gb583, _, none⟩) NB541_583.out _).trans (((cell_far (p := ⟨gb583, _, none⟩) NB541_583.out _).trans (((cell_far (p := ⟨gb583, _, none⟩) NB541_583.out _).trans (hHeld.2.2.2.2.2.2.2.2.2.2.2.2.2.2.2.2.1)))))))))))))))))))), ((cell_far (p := ⟨gb583, _, none⟩) NB541_583.out _).trans (((cell_far (p := ⟨gb583, _, none⟩) NB541_583.out _).trans (((cell_far (p := ⟨gb583, _, none⟩) NB541_583.out _).trans (((cell_far (p := ⟨gb583, _, none⟩) NB541_583.out _).trans (((cell_far (p := ⟨gb583, _, none⟩) NB541_583.out _).trans (((cell_far (p := ⟨gb583, _, none⟩) NB541_583.out _).trans (((cell_far (p := ⟨gb583, _, none⟩) NB541_583.out _).trans (((cell_far (p := ⟨gb583, _, none⟩) NB541_583.out _).trans (((cell_far (p := ⟨gb583, _, none⟩) NB541_583.out _).trans (((cell_far (p := ⟨gb583, _, none⟩) NB541_583.out _).trans (hHeld.2.2.2.2.2.2.2.2.2.2.2.2.2.2.2.2.2.1)))))))))))))))))))), ((cell_far (p := ⟨gb583, _, none⟩) NB541_583.out _).trans (((cell_far (p := ⟨gb583, _, none⟩) NB541_583.out _).trans (((cell_far (p := ⟨gb583, _, none⟩) NB541_583.out _).trans (((cell_far (p := ⟨gb583, _, none⟩) NB541_583.out _).trans (((cell_far (p := ⟨gb583, _, none⟩) NB541_583.out _).trans (((cell_far (p := ⟨gb583, _, none⟩) NB541_583.out _).trans (((cell_far (p := ⟨gb583, _, none⟩) NB541_583.out _).trans (((cell_far (p := ⟨gb583, _, none⟩) NB541_583.out _).trans (((cell_far (p := ⟨gb583, _, none⟩) NB541_583.out _).trans (((cell_far (p := ⟨gb583, _, none⟩) NB541_583.out _).trans (hHeld.2.2.2.2.2.2.2.2.2.2.2.2.2.2.2.2.2.2.1)))))))))))))))))))), ((cell_far (p := ⟨gb583, _, none⟩) NB541_583.out _).trans (((cell_far (p := ⟨gb583, _, none⟩) NB541_583.out _).trans (((cell_far (p := ⟨gb583, _, none⟩) NB541_583.out _).trans (((cell_far (p := ⟨gb583, _, none⟩) NB541_583.out _).trans (((cell_far (p := ⟨gb583, _, none⟩) NB541_583.out _).trans (((cell_far (p := ⟨gb583, _, none⟩) NB541_583.out _).trans (((cell_far (p := ⟨gb583, _, none⟩) NB541_583.out _).trans (((cell_far (p := ⟨gb583, _, none⟩) NB541_583.out _).trans (((cell_far (p := ⟨gb583, _, none⟩) NB541_583.out _).trans (((cell_far (p := ⟨gb583, _, none⟩) NB541_583.out _).trans (hHeld.2.2.2.2.2.2.2.2.2.2.2.2.2.2.2.2.2.2.2))))))))))))))))))))⟩ (fun hHeld => ?_)
   clear hK K
   refine Qa (Ji HT_.out (by kernel_rfl)) ?_
   try go_wp2
   have n0_ : qa (((((((((((w24.setCell ⟨gb583, 0, none⟩ (.int .i64 t573)).setCell ⟨gb583, 1, none⟩ (.int .i64 t574)).setCell ⟨gb583, 2, none⟩ (.int .i64 t575)).setCell ⟨gb583, 3, none⟩ (.int .i64 t576)).setCell ⟨gb583, 4, none⟩ (.int .i64 t577)).setCell ⟨gb583, 5, none⟩ (.int .i64 t578)).setCell ⟨gb583, 6, none⟩ (.int .i64 t579)).setCell ⟨gb583, 7, none⟩ (.int .i64 t580)).setCell ⟨gb583, 8, none⟩ (.int .i64 t581)).setCell ⟨gb583, 9, none⟩ (.int .i64 t582)).heap[gb540]? = some (.cells #[.int .i64 a0_0, .int .i64 a0_1, .int .i64 a0_2, .int .i64 a0_3, .int .i64 a0_4, .int .i64 a0_5, .int .i64 a0_6, .int .i64 a0_7, .int .i64 a0_8, .int .i64 a0_9] 116 (0, 0))) := ⟨by refine zk ?_ NB540_583.out _; refine zk ?_ NB540_583.out _; refine zk ?_ NB540_583.out _; refine zk ?_ NB540_583.out _; refine zk ?_ NB540_583.out _; refine zk ?_ NB540_583.out _; refine zk ?_ NB540_583.out _; refine zk ?_ NB540_583.out _; refine zk ?_ NB540_583.out _; refine zk ?_ NB540_583.out _; exact kq BK540⟩
   have n1_ : qa (((((((((((w24.setCell ⟨gb583, 0, none⟩ (.int .i64 t573)).setCell ⟨gb583, 1, none⟩ (.int .i64 t574)).setCell ⟨gb583, 2, none⟩ (.int .i64 t575)).setCell ⟨gb583, 3, none⟩ (.int .i64 t576)).setCell ⟨gb583, 4, none⟩ (.int .i64 t577)).setCell ⟨gb583, 5, none⟩ (.int .i64 t578)).setCell ⟨gb583, 6, none⟩ (.int .i64 t579)).setCell ⟨gb583, 7, none⟩ (.int .i64 t580)).setCell ⟨gb583, 8, none⟩ (.int .i64 t581)).setCell ⟨gb583, 9, none⟩ (.int .i64 t582)).heap[gb541]? = some (.cells #[.int .i64 a1_0, .int .i64 a1_1, .int .i64 a1_2, .int .i64 a1_3, .int .i64 a1_4, .int .i64 a1_5, .int .i64 a1_6, .int .i64 a1_7, .int .i64 a1_8, .int .i64 a1_9] 116 (0, 0))) := ⟨by refine zk ?_ NB541_583.out _; refine zk ?_ NB541_583.out _; refine zk ?_ NB541_583.out _; refine zk ?_ NB541_583.out _; refine zk ?_ NB541_583.out _; refine zk ?_ NB541_583.out _; refine zk ?_ NB541_583.out _; refine zk ?_ NB541_583.out _; refine zk ?_ NB541_583.out _; refine zk ?_ NB541_583.out _; exact kq BK541⟩
   have n2_ : qa (((((((((((w24.setCell ⟨gb583, 0, none⟩ (.int .i64 t573)).setCell ⟨gb583, 1, none⟩ (.int .i64 t574)).setCell ⟨gb583, 2, none⟩ (.int .i64 t575)).setCell ⟨gb583, 3, none⟩ (.int .i64 t576)).setCell ⟨gb583, 4, none⟩ (.int .i64 t577)).setCell ⟨gb583, 5, none⟩ (.int .i64 t578)).setCell ⟨gb583, 6, none⟩ (.int .i64 t579)).setCell ⟨gb583, 7, none⟩ (.int .i64 t580)).setCell ⟨gb583, 8, none⟩ (.int .i64 t581)).setCell ⟨gb583, 9, none⟩ (.int .i64 t582)).heap[gb552]? = some (.cells #[.int .i64 t542, .int .i64 t543, .int .i64 t544, .int .i64 t545, .int .i64 t546, .int .i64 t547, .int .i64 t548, .int .i64 t549, .int .i64 t550, .int .i64 t551] 116 (0, 0))) := ⟨by refine zk ?_ NB552_583.out _; refine zk ?_ NB552_583.out _; refine zk ?_ NB552_583.out _; refine zk ?_ NB552_583.out _; refine zk ?_ NB552_583.out _; refine zk ?_ NB552_583.out _; refine zk ?_ NB552_583.out _; refine zk ?_ NB552_583.out _; refine zk ?_ NB552_583.out _; refine zk ?_ NB552_583.out _; exact kq BK552⟩
   have n3_ : qa (((((((((((w24.setCell ⟨gb583, 0, none⟩ (.int .i64 t573)).setCell ⟨gb583, 1, none⟩ (.int .i64 t574)).setCell ⟨gb583, 2, none⟩ (.int .i64 t575)).setCell ⟨gb583, 3, none⟩ (.int .i64 t576)).setCell ⟨gb583, 4, none⟩ (.int .i64 t577)).setCell ⟨gb583, 5, none⟩ (.int .i64 t578)).setCell ⟨gb583, 6, none⟩ (.int .i64 t579)).setCell ⟨gb583, 7, none⟩ (.int .i64 t580)).setCell ⟨gb583, 8, none⟩ (.int .i64 t581)).setCell ⟨gb583, 9, none⟩ (.int .i64 t582)).heap[gb583]? = some (.cells #[.int .i64 t573, .int .i64 t574, .int .i64 t575, .int .i64 t576, .int .i64 t577, .int .i64 t578, .int .i64 t579, .int .i64 t580, .int .i64 t581, .int .i64 t582] 116 (0, 0))) := ⟨by refine zb (cs := #[.int .i64 t573, .int .i64 t574, .int .i64 t575, .int .i64 t576, .int .i64 t577, .int .i64 t578, .int .i64 t579, .int .i64 t580, .int .i64 t581, .int .i64 0]) ?_ 9 _ rfl; refine zb (cs := #[.int .i64 t573, .int .i64 t574, .int .i64 t575, .int .i64 t576, .int .i64 t577, .int .i64 t578, .int .i64 t579, .int .i64 t580, .int .i64 0, .int .i64 0]) ?_ 8 _ rfl; refine zb (cs := #[.int .i64 t573, .int .i64 t574, .int .i64 t575, .int .i64 t576, .int .i64 t577, .int .i64 t578, .int .i64 t579, .int .i64 0, .int .i64 0, .int .i64 0]) ?_ 7 _ rfl; refine zb (cs := #[.int .i64 t573, .int .i64 t574, .int .i64 t575, .int .i64 t576, .int .i64 t577, .int .i64 t578, .int .i64 0, .int .i64 0, .int .i64 0, .int .i64 0]) ?_ 6 _ rfl; refine zb (cs := #[.int .i64 t573, .int .i64 t574, .int .i64 t575, .int .i64 t576, .int .i64 t577, .int .i64 0, .int .i64 0, .int .i64 0, .int .i64 0, .int .i64 0]) ?_ 5 _ rfl; refine zb (cs := #[.int .i64 t573, .int .i64 t574, .int .i64 t575, .int .i64 t576, .int .i64 0, .int .i64 0, .int .i64 0, .int .i64 0, .int .i64 0, .int .i64 0]) ?_ 4 _ rfl; refine zb (cs := #[.int .i64 t573, .int .i64 t574, .int .i64 t575, .int .i64 0, .int .i64 0, .int .i64 0, .int .i64 0, .int .i64 0, .int .i64 0, .int .i64 0]) ?_ 3 _ rfl; refine zb (cs := #[.int .i64 t573, .int .i64 t574, .int .i64 0, .int .i64 0, .int .i64 0, .int .i64 0, .int .i64 0, .int .i64 0, .int .i64 0, .int .i64 0]) ?_ 2 _ rfl; refine zb (cs := #[.int .i64 t573, .int .i64 0, .int .i64 0, .int .i64 0, .int .i64 0, .int .i64 0, .int .i64 0, .int .i64 0, .int .i64 0, .int .i64 0]) ?_ 1 _ rfl; refine zb (cs := #[.int .i64 0, .int .i64 0, .int .i64 0, .int .i64 0, .int .i64 0, .int .i64 0, .int .i64 0, .int .i64 0, .int .i64 0, .int .i64 0]) ?_ 0 _ rfl; exact kq BK583⟩
   have n4_ : qa (Below w.heap.size w ((((((((((w24.setCell ⟨gb583, 0, none⟩ (.int .i64 t573)).setCell ⟨gb583, 1, none⟩ (.int .i64 t574)).setCell ⟨gb583, 2, none⟩ (.int .i64 t575)).setCell ⟨gb583, 3, none⟩ (.int .i64 t576)).setCell ⟨gb583, 4, none⟩ (.int .i64 t577)).setCell ⟨gb583, 5, none⟩ (.int .i64 t578)).setCell ⟨gb583, 6, none⟩ (.int .i64 t579)).setCell ⟨gb583, 7, none⟩ (.int .i64 t580)).setCell ⟨gb583, 8, none⟩ (.int .i64 t581)).setCell ⟨gb583, 9, none⟩ (.int .i64 t582))) := ⟨by repeat (first | (with_reducible first | exact HB.out | apply qw | apply qC | apply qJ | refine qf ?_ GE540.out | refine qf ?_ GE541.out | refine qf ?_ GE552.out | refine qf ?_ GE583.out) | exact HB.out)⟩
   (try clear BK540)
   (try clear BK541)
   (try clear BK552)
   (try clear BK583)
   (try clear HB)
   generalize ((((((((((w24.setCell ⟨gb583, 0, none⟩ (.int .i64 t573)).setCell ⟨gb583, 1, none⟩ (.int .i64 t574)).setCell ⟨gb583, 2, none⟩ (.int .i64 t575)).setCell ⟨gb583, 3, none⟩ (.int .i64 t576)).setCell ⟨gb583, 4, none⟩ (.int .i64 t577)).setCell ⟨gb583, 5, none⟩ (.int .i64 t578)).setCell ⟨gb583, 6, none⟩ (.int .i64 t579)).setCell ⟨gb583, 7, none⟩ (.int .i64 t580)).setCell ⟨gb583, 8, none⟩ (.int .i64 t581)).setCell ⟨gb583, 9, none⟩ (.int .i64 t582)) = w35 at n0_ n1_ n2_ n3_ n4_ ⊢
   have BK540 := n0_
   have BK541 := n1_
   have BK552 := n2_
   have BK583 := n3_
   have HB := n4_
   clear n0_ n1_ n2_ n3_ n4_
   have n0_ := qa.mk (qd BK540.out)
   have n1_ := qa.mk (qd BK541.out)
   have n2_ := qa.mk (qd BK552.out)
   have n3_ := qa.mk (qd BK583.out)
   have n4_ := qa.mk (qJ HB.out)
   clear BK540
   clear BK541
   clear BK552
   clear BK583
   clear HB
   have BK540 := n0_
   have BK541 := n1_
   have BK552 := n2_
   have BK583 := n3_
   have HB := n4_
   clear n0_ n1_ n2_ n3_ n4_
   refine jS (n := 8) (S := fun w' => w'.cell? ⟨gb540, 0, none⟩ = some (.int .i64 a0_0) ∧ w'.cell? ⟨gb540, 1, none⟩ = some (.int .i64 a0_1) ∧ w'.cell? ⟨gb540, 2, none⟩ = some (.int .i64 a0_2) ∧ w'.cell? ⟨gb540, 3, none⟩ = some (.int .i64 a0_3) ∧ w'.cell? ⟨gb540, 4, none⟩ = some (.int .i64 a0_4) ∧ w'.cell? ⟨gb540, 5, none⟩ = some (.int .i64 a0_5) ∧ w'.cell? ⟨gb540, 6, none⟩ = some (.int .i64 a0_6) ∧ w'.cell? ⟨gb540, 7, none⟩ = some (.int .i64 a0_7) ∧ w'.cell? ⟨gb540, 8, none⟩ = some (.int .i64 a0_8) ∧ w'.cell? ⟨gb540, 9, none⟩ = some (.int .i64 a0_9) ∧ w'.cell? ⟨gb541, 0, none⟩ = some (.int .i64 a1_0) ∧ w'.cell? ⟨gb541, 1, none⟩ = some (.int .i64 a1_1) ∧ w'.cell? ⟨gb541, 2, none⟩ = some (.int .i64 a1_2) ∧ w'.cell? ⟨gb541, 3, none⟩ = some (.int .i64 a1_3) ∧ w'.cell? ⟨gb541, 4, none⟩ = some (.int .i64 a1_4) ∧ w'.cell? ⟨gb541, 5, none⟩ = some (.int .i64 a1_5) ∧ w'.cell? ⟨gb541, 6, none⟩ = some (.int .i64 a1_6) ∧ w'.cell? ⟨gb541, 7, none⟩ = some (.int .i64 a1_7) ∧ w'.cell? ⟨gb541, 8, none⟩ = some (.int .i64 a1_8) ∧ w'.cell? ⟨gb541, 9, none⟩ = some (.int .i64 a1_9) ∧ w'.cell? ⟨gb583, 0, none⟩ = some (.int .i64 t573) ∧ w'.cell? ⟨gb583, 1, none⟩ = some (.int .i64 t574) ∧ w'.cell? ⟨gb583, 2, none⟩ = some (.int .i64 t575) ∧ w'.cell? ⟨gb583, 3, none⟩ = some (.int .i64 t576) ∧ w'.cell? ⟨gb583, 4, none⟩ = some (.int .i64 t577) ∧ w'.cell? ⟨gb583, 5, none⟩ = some (.int .i64 t578) ∧ w'.cell? ⟨gb583, 6, none⟩ = some (.int .i64 t579) ∧ w'.cell? ⟨gb583, 7, none⟩ = some (.int .i64 t580) ∧ w'.cell? ⟨gb583, 8, none⟩ = some (.int .i64 t581) ∧ w'.cell? ⟨gb583, 9, none⟩ = some (.int .i64 t582)) (ds := []) #[false, false, false, false, false, false, false, false] (by kernel_rfl) rfl rfl ⟨(qb BK540.out 0).trans rfl, (qb BK540.out 1).trans rfl, (qb BK540.out 2).trans rfl, (qb BK540.out 3).trans rfl, (qb BK540.out 4).trans rfl, (qb BK540.out 5).trans rfl, (qb BK540.out 6).trans rfl, (qb BK540.out 7).trans rfl, (qb BK540.out 8).trans rfl, (qb BK540.out 9).trans rfl, (qb BK541.out 0).trans rfl, (qb BK541.out 1).trans rfl, (qb BK541.out 2).trans rfl, (qb BK541.out 3).trans rfl, (qb BK541.out 4).trans rfl, (qb BK541.out 5).trans rfl, (qb BK541.out 6).trans rfl, (qb BK541.out 7).trans rfl, (qb BK541.out 8).trans rfl, (qb BK541.out 9).trans rfl, (qb BK583.out 0).trans rfl, (qb BK583.out 1).trans rfl, (qb BK583.out 2).trans rfl, (qb BK583.out 3).trans rfl, (qb BK583.out 4).trans rfl, (qb BK583.out 5).trans rfl, (qb BK583.out 6).trans rfl, (qb BK583.out 7).trans rfl, (qb BK583.out 8).trans rfl, (qb BK583.out 9).trans rfl⟩ (fun hHeld => ?_); refine ZE qB.tab8 qB.bits8 (fun HT_ HW_ => ?_)
   generalize w35.drew = w36 at BK540 BK541 BK552 BK583 HB hHeld ⊢
   refine zD (i := 0) (N := some 24) (v := ?_) (a' := ?_) #[true, false, false, false, false, false, false, false] rfl rfl (jK HT_.out HW_.out (by kernel_rfl)) (fun _ _ _ h => h) (Or.inl ⟨by rfl, ?_⟩) hHeld ?_ ?_
   rotate_left
   ·rintro w' ⟨s0, s1, s2, s3, s4, s5, s6, s7, s8, s9, s10, s11, s12, s13, s14, s15, s16, s17, s18, s19, s20, s21, s22, s23, s24, s25, s26, s27, s28, s29⟩
    go_simp
    with_reducible rfl
   rotate_left
   ·simp only [Act.put, List.setIfInBounds_toArray, List.set_cons_zero, List.set_cons_succ, qz, qA]
    rfl
   refine zD (i := 1) (N := some 25) (v := ?_) (a' := ?_) #[true, true, false, false, false, false, false, false] rfl rfl (jK HT_.out HW_.out (by kernel_rfl)) (fun _ _ _ h => h) (Or.inl ⟨by rfl, ?_⟩) hHeld ?_ ?_
   rotate_left
   ·rintro w' ⟨s0, s1, s2, s3, s4, s5, s6, s7, s8, s9, s10, s11, s12, s13, s14, s15, s16, s17, s18, s19, s20, s21, s22, s23, s24, s25, s26, s27, s28, s29⟩
    go_simp
    with_reducible rfl
   rotate_left
   ·simp only [Act.put, List.setIfInBounds_toArray, List.set_cons_zero, List.set_cons_succ, qz, qA]
    rfl
   refine zD (i := 3) (N := some 27) (v := ?_) (a' := ?_) #[true, true, false, true, false, false, false, false] rfl rfl (jK HT_.out HW_.out (by kernel_rfl)) (fun _ _ _ h => h) (Or.inl ⟨by rfl, ?_⟩) hHeld ?_ ?_
   rotate_left
   ·rintro w' ⟨s0, s1, s2, s3, s4, s5, s6, s7, s8, s9, s10, s11, s12, s13, s14, s15, s16, s17, s18, s19, s20, s21, s22, s23, s24, s25, s26, s27, s28, s29⟩
    go_simp
    with_reducible rfl
   rotate_left
   ·simp only [Act.put, List.setIfInBounds_toArray, List.set_cons_zero, List.set_cons_succ, qz, qA]
    rfl
   refine zD (i := 5) (N := some 29) (v := ?_) (a' := ?_) #[true, true, false, true, false, true, false, false] rfl rfl (jK HT_.out HW_.out (by kernel_rfl)) (fun _ _ _ h => h) (Or.inl ⟨by rfl, ?_⟩) hHeld ?_ ?_
   rotate_left
   ·rintro w' ⟨s0, s1, s2, s3, s4, s5, s6, s7, s8, s9, s10, s11, s12, s13, s14, s15, s16, s17, s18, s19, s20, s21, s22, s23, s24, s25, s26, s27, s28, s29⟩
    go_simp
    with_reducible rfl
   rotate_left
   ·simp only [Act.put, List.setIfInBounds_toArray, List.set_cons_zero, List.set_cons_succ, qz, qA]
    rfl
   refine jd (i := 2) (N := some 26) #[true, true, true, true, false, true, false, false] rfl rfl (jW HT_.out (by kernel_rfl)) (by decide) (fun K hK => ?_)
   refine zS Try.func76 (by kernel_rfl) rfl #[.agg #[.int .i64 a0_0, .int .i64 a0_1, .int .i64 a0_2, .int .i64 a0_3, .int .i64 a0_4, .int .i64 a0_5, .int .i64 a0_6, .int .i64 a0_7, .int .i64 a0_8, .int .i64 a0_9], .agg #[.int .i64 a0_0, .int .i64 a0_1, .int .i64 a0_2, .int .i64 a0_3, .int .i64 a0_4, .int .i64 a0_5, .int .i64 a0_6, .int .i64 a0_7, .int .i64 a0_8, .int .i64 a0_9]] (by rfl) rfl rfl (by (try simp only [List.map_toArray, List.map_cons, List.map_nil]); first | done | rfl | (simp only [List.length_drop, List.length_take]; rfl)) ?_
   with_reducible refine (jc.calls a0_0 a0_1 a0_2 a0_3 a0_4 a0_5 a0_6 a0_7 a0_8 a0_9 a0_0 a0_1 a0_2 a0_3 a0_4 a0_5 a0_6 a0_7 a0_8 a0_9 t584 t585 t586 t587 t588 t589 t590 t591 t592 t593 _ A15.out).mono ?_
   rintro e w37 ⟨rfl, hb⟩
   refine ⟨_, rfl, ?_⟩
   have n0_ := qa.mk (qF (g := gb540) (o := .cells #[.int .i64 a0_0, .int .i64 a0_1, .int .i64 a0_2, .int .i64 a0_3, .int .i64 a0_4, .int .i64 a0_5, .int .i64 a0_6, .int .i64 a0_7, .int .i64 a0_8, .int .i64 a0_9] 116 (0, 0)) (kq BK540) hb)
   have n1_ := qa.mk (qF (g := gb541) (o := .cells #[.int .i64 a1_0, .int .i64 a1_1, .int .i64 a1_2, .int .i64 a1_3, .int .i64 a1_4, .int .i64 a1_5, .int .i64 a1_6, .int .i64 a1_7, .int .i64 a1_8, .int .i64 a1_9] 116 (0, 0)) (kq BK541) hb)
   have n2_ := qa.mk (qF (g := gb552) (o := .cells #[.int .i64 t542, .int .i64 t543, .int .i64 t544, .int .i64 t545, .int .i64 t546, .int .i64 t547, .int .i64 t548, .int .i64 t549, .int .i64 t550, .int .i64 t551] 116 (0, 0)) (kq BK552) hb)
   have n3_ := qa.mk (qF (g := gb583) (o := .cells #[.int .i64 t573, .int .i64 t574, .int .i64 t575, .int .i64 t576, .int .i64 t577, .int .i64 t578, .int .i64 t579, .int .i64 t580, .int .i64 t581, .int .i64 t582] 116 (0, 0)) (kq BK583) hb)
   have n4_ := qa.mk (qh (by repeat (first | (with_reducible first | exact HB.out | apply qw | apply qC | apply qJ | refine qf ?_ GE540.out | refine qf ?_ GE541.out | refine qf ?_ GE552.out | refine qf ?_ GE583.out) | exact HB.out)) hb)
   clear BK540
   clear BK541
   clear BK552
   clear BK583
   clear HB
   have BK540 := n0_
   have BK541 := n1_
   have BK552 := n2_
   have BK583 := n3_
   have HB := n4_
   clear n0_ n1_ n2_ n3_ n4_
   (try clear hb)
   (try clear hb2)
   (try clear hk)
   (try clear hi)
   refine hK.out _ _ ⟨(qb BK540.out 0).trans rfl, (qb BK540.out 1).trans rfl, (qb BK540.out 2).trans rfl, (qb BK540.out 3).trans rfl, (qb BK540.out 4).trans rfl, (qb BK540.out 5).trans rfl, (qb BK540.out 6).trans rfl, (qb BK540.out 7).trans rfl, (qb BK540.out 8).trans rfl, (qb BK540.out 9).trans rfl, (qb BK541.out 0).trans rfl, (qb BK541.out 1).trans rfl, (qb BK541.out 2).trans rfl, (qb BK541.out 3).trans rfl, (qb BK541.out 4).trans rfl, (qb BK541.out 5).trans rfl, (qb BK541.out 6).trans rfl, (qb BK541.out 7).trans rfl, (qb BK541.out 8).trans rfl, (qb BK541.out 9).trans rfl, (qb BK583.out 0).trans rfl, (qb BK583.out 1).trans rfl, (qb BK583.out 2).trans rfl, (qb BK583.out 3).trans rfl, (qb BK583.out 4).trans rfl, (qb BK583.out 5).trans rfl, (qb BK583.out 6).trans rfl, (qb BK583.out 7).trans rfl, (qb BK583.out 8).trans rfl, (qb BK583.out 9).trans rfl⟩ (fun hHeld => ?_)
   clear hK K
   refine zo (a' := ?_) ?_ ?_
   rotate_left
   ·show Act.put _ (some 26) _ = _
    simp only [Act.put, List.setIfInBounds_toArray, List.set_cons_zero, List.set_cons_succ, qz, qA]
    rfl
   refine jd (i := 4) (N := some 28) #[true, true, true, true, true, true, false, false] rfl rfl (jW HT_.out (by kernel_rfl)) (by decide) (fun K hK => ?_)
   refine zS Try.func76 (by kernel_rfl) rfl #[.agg #[.int .i64 t584, .int .i64 t585, .int .i64 t586, .int .i64 t587, .int .i64 t588, .int .i64 t589, .int .i64 t590, .int .i64 t591, .int .i64 t592, .int .i64 t593], .agg #[.int .i64 a1_0, .int .i64 a1_1, .int .i64 a1_2, .int .i64 a1_3, .int .i64 a1_4, .int .i64 a1_5, .int .i64 a1_6, .int .i64 a1_7, .int .i64 a1_8, .int .i64 a1_9]] (by rfl) rfl rfl (by (try simp only [List.map_toArray, List.map_cons, List.map_nil]); first | done | rfl | (simp only [List.length_drop, List.length_take]; rfl)) ?_
   with_reducible refine (jc.calls t584 t585 t586 t587 t588 t589 t590 t591 t592 t593 a1_0 a1_1 a1_2 a1_3 a1_4 a1_5 a1_6 a1_7 a1_8 a1_9 t594 t595 t596 t597 t598 t599 t600 t601 t602 t603 _ A16.out).mono ?_
   rintro e w38 ⟨rfl, hb⟩
   refine ⟨_, rfl, ?_⟩
   have n0_ := qa.mk (qF (g := gb540) (o := .cells #[.int .i64 a0_0, .int .i64 a0_1, .int .i64 a0_2, .int .i64 a0_3, .int .i64 a0_4, .int .i64 a0_5, .int .i64 a0_6, .int .i64 a0_7, .int .i64 a0_8, .int .i64 a0_9] 116 (0, 0)) (kq BK540) hb)
   have n1_ := qa.mk (qF (g := gb541) (o := .cells #[.int .i64 a1_0, .int .i64 a1_1, .int .i64 a1_2, .int .i64 a1_3, .int .i64 a1_4, .int .i64 a1_5, .int .i64 a1_6, .int .i64 a1_7, .int .i64 a1_8, .int .i64 a1_9] 116 (0, 0)) (kq BK541) hb)
   have n2_ := qa.mk (qF (g := gb552) (o := .cells #[.int .i64 t542, .int .i64 t543, .int .i64 t544, .int .i64 t545, .int .i64 t546, .int .i64 t547, .int .i64 t548, .int .i64 t549, .int .i64 t550, .int .i64 t551] 116 (0, 0)) (kq BK552) hb)
   have n3_ := qa.mk (qF (g := gb583) (o := .cells #[.int .i64 t573, .int .i64 t574, .int .i64 t575, .int .i64 t576, .int .i64 t577, .int .i64 t578, .int .i64 t579, .int .i64 t580, .int .i64 t581, .int .i64 t582] 116 (0, 0)) (kq BK583) hb)
   have n4_ := qa.mk (qh (by repeat (first | (with_reducible first | exact HB.out | apply qw | apply qC | apply qJ | refine qf ?_ GE540.out | refine qf ?_ GE541.out | refine qf ?_ GE552.out | refine qf ?_ GE583.out) | exact HB.out)) hb)
   clear BK540
   clear BK541
   clear BK552
   clear BK583
   clear HB
   have BK540 := n0_
   have BK541 := n1_
   have BK552 := n2_
   have BK583 := n3_
   have HB := n4_
   clear n0_ n1_ n2_ n3_ n4_
   (try clear hb)
   (try clear hb2)
   (try clear hk)
   (try clear hi)
   refine hK.out _ _ ⟨(qb BK540.out 0).trans rfl, (qb BK540.out 1).trans rfl, (qb BK540.out 2).trans rfl, (qb BK540.out 3).trans rfl, (qb BK540.out 4).trans rfl, (qb BK540.out 5).trans rfl, (qb BK540.out 6).trans rfl, (qb BK540.out 7).trans rfl, (qb BK540.out 8).trans rfl, (qb BK540.out 9).trans rfl, (qb BK541.out 0).trans rfl, (qb BK541.out 1).trans rfl, (qb BK541.out 2).trans rfl, (qb BK541.out 3).trans rfl, (qb BK541.out 4).trans rfl, (qb BK541.out 5).trans rfl, (qb BK541.out 6).trans rfl, (qb BK541.out 7).trans rfl, (qb BK541.out 8).trans rfl, (qb BK541.out 9).trans rfl, (qb BK583.out 0).trans rfl, (qb BK583.out 1).trans rfl, (qb BK583.out 2).trans rfl, (qb BK583.out 3).trans rfl, (qb BK583.out 4).trans rfl, (qb BK583.out 5).trans rfl, (qb BK583.out 6).trans rfl, (qb BK583.out 7).trans rfl, (qb BK583.out 8).trans rfl, (qb BK583.out 9).trans rfl⟩ (fun hHeld => ?_)
   clear hK K
   refine zo (a' := ?_) ?_ ?_
   rotate_left
   ·show Act.put _ (some 28) _ = _
    simp only [Act.put, List.setIfInBounds_toArray, List.set_cons_zero, List.set_cons_succ, qz, qA]
    rfl
   refine jd (i := 6) (N := some 30) #[true, true, true, true, true, true, true, false] rfl rfl (jW HT_.out (by kernel_rfl)) (by decide) (fun K hK => ?_)
   refine zS Try.func71 (by kernel_rfl) rfl #[.agg #[.int .i64 t594, .int .i64 t595, .int .i64 t596, .int .i64 t597, .int .i64 t598, .int .i64 t599, .int .i64 t600, .int .i64 t601, .int .i64 t602, .int .i64 t603], .agg #[.int .i64 t573, .int .i64 t574, .int .i64 t575, .int .i64 t576, .int .i64 t577, .int .i64 t578, .int .i64 t579, .int .i64 t580, .int .i64 t581, .int .i64 t582]] (by rfl) rfl rfl (by (try simp only [List.map_toArray, List.map_cons, List.map_nil]); first | done | rfl | (simp only [List.length_drop, List.length_take]; rfl)) ?_
   with_reducible refine (zw.calls t594 t595 t596 t597 t598 t599 t600 t601 t602 t603 t573 t574 t575 t576 t577 t578 t579 t580 t581 t582 t604 _ A17.out).mono ?_
   rintro e w39 ⟨rfl, hb⟩
   refine ⟨_, rfl, ?_⟩
   have n0_ := qa.mk (qF (g := gb540) (o := .cells #[.int .i64 a0_0, .int .i64 a0_1, .int .i64 a0_2, .int .i64 a0_3, .int .i64 a0_4, .int .i64 a0_5, .int .i64 a0_6, .int .i64 a0_7, .int .i64 a0_8, .int .i64 a0_9] 116 (0, 0)) (kq BK540) hb)
   have n1_ := qa.mk (qF (g := gb541) (o := .cells #[.int .i64 a1_0, .int .i64 a1_1, .int .i64 a1_2, .int .i64 a1_3, .int .i64 a1_4, .int .i64 a1_5, .int .i64 a1_6, .int .i64 a1_7, .int .i64 a1_8, .int .i64 a1_9] 116 (0, 0)) (kq BK541) hb)
   have n2_ := qa.mk (qF (g := gb552) (o := .cells #[.int .i64 t542, .int .i64 t543, .int .i64 t544, .int .i64 t545, .int .i64 t546, .int .i64 t547, .int .i64 t548, .int .i64 t549, .int .i64 t550, .int .i64 t551] 116 (0, 0)) (kq BK552) hb)
   have n3_ := qa.mk (qF (g := gb583) (o := .cells #[.int .i64 t573, .int .i64 t574, .int .i64 t575, .int .i64 t576, .int .i64 t577, .int .i64 t578, .int .i64 t579, .int .i64 t580, .int .i64 t581, .int .i64 t582] 116 (0, 0)) (kq BK583) hb)
   have n4_ := qa.mk (qh (by repeat (first | (with_reducible first | exact HB.out | apply qw | apply qC | apply qJ | refine qf ?_ GE540.out | refine qf ?_ GE541.out | refine qf ?_ GE552.out | refine qf ?_ GE583.out) | exact HB.out)) hb)
   clear BK540
   clear BK541
   clear BK552
   clear BK583
   clear HB
   have BK540 := n0_
   have BK541 := n1_
   have BK552 := n2_
   have BK583 := n3_
   have HB := n4_
   clear n0_ n1_ n2_ n3_ n4_
   (try clear hb)
   (try clear hb2)
   (try clear hk)
   (try clear hi)
   refine hK.out _ _ ⟨(qb BK540.out 0).trans rfl, (qb BK540.out 1).trans rfl, (qb BK540.out 2).trans rfl, (qb BK540.out 3).trans rfl, (qb BK540.out 4).trans rfl, (qb BK540.out 5).trans rfl, (qb BK540.out 6).trans rfl, (qb BK540.out 7).trans rfl, (qb BK540.out 8).trans rfl, (qb BK540.out 9).trans rfl, (qb BK541.out 0).trans rfl, (qb BK541.out 1).trans rfl, (qb BK541.out 2).trans rfl, (qb BK541.out 3).trans rfl, (qb BK541.out 4).trans rfl, (qb BK541.out 5).trans rfl, (qb BK541.out 6).trans rfl, (qb BK541.out 7).trans rfl, (qb BK541.out 8).trans rfl, (qb BK541.out 9).trans rfl, (qb BK583.out 0).trans rfl, (qb BK583.out 1).trans rfl, (qb BK583.out 2).trans rfl, (qb BK583.out 3).trans rfl, (qb BK583.out 4).trans rfl, (qb BK583.out 5).trans rfl, (qb BK583.out 6).trans rfl, (qb BK583.out 7).trans rfl, (qb BK583.out 8).trans rfl, (qb BK583.out 9).trans rfl⟩ (fun hHeld => ?_)
   clear hK K
   refine zo (a' := ?_) ?_ ?_
   rotate_left
   ·show Act.put _ (some 30) _ = _
    simp only [Act.put, List.setIfInBounds_toArray, List.set_cons_zero, List.set_cons_succ, qz, qA]
    rfl
   refine za (i := 7) (N := some 31) (v := ?_) (a' := ?_) #[true, true, true, true, true, true, true, true] rfl rfl (ja HT_.out (by kernel_rfl)) (fun _ _ _ h => h) (Or.inl ⟨by rfl, ?_⟩) ?_ ?_
   rotate_left
   ·intro w'
    go_simp
    with_reducible rfl
   rotate_left
   ·simp only [Act.put, List.setIfInBounds_toArray, List.set_cons_zero, List.set_cons_succ, qz, qA]
    rfl
   refine Qa (Ji HT_.out (by kernel_rfl)) ?_
   cases t604
   case true =>
    rw [if_pos rfl] at H'
    try go_wp2
    go_roundg k1
    case measure => have := HK1.out; omega
    case rel => exact ⟨(x6_1), (wrap64 (Int.tdiv x7_1 2)), (by first | rfl | (simp; done) | (simp [*]; done)), (by first | rfl | (simp; done) | (simp [*]; done)), H', ⟨by have := HK1.out; omega⟩, ⟨kq BK540⟩, ⟨kq BK541⟩, ⟨kq BK552⟩, ⟨by repeat (first | (with_reducible first | exact HB.out | apply qw | apply qC | apply qJ | refine qf ?_ GE540.out | refine qf ?_ GE541.out | refine qf ?_ GE552.out | refine qf ?_ GE583.out) | exact HB.out)⟩⟩
   case false =>
    rw [if_neg (by decide)] at H'
    try go_wp2
    go_roundg k1
    case measure => have := HK1.out; omega
    case rel => exact ⟨(wrap64 (x6_1 + x7_1)), (wrap64 (Int.tdiv x7_1 2)), (by first | rfl | (simp; done) | (simp [*]; done)), (by first | rfl | (simp; done) | (simp [*]; done)), H', ⟨by have := HK1.out; omega⟩, ⟨kq BK540⟩, ⟨kq BK541⟩, ⟨kq BK552⟩, ⟨by repeat (first | (with_reducible first | exact HB.out | apply qw | apply qC | apply qJ | refine qf ?_ GE540.out | refine qf ?_ GE541.out | refine qf ?_ GE552.out | refine qf ?_ GE583.out) | exact HB.out)⟩⟩
end Go.Proofs.Ytmlkpadlafjfeaa.P
