import Derived.Test.YtmlkpadlafjfeaaPx90
import Derived.Test.YtmlkpadlafjfeaaPx14
namespace Go.Proofs.Ytmlkpadlafjfeaa.P
open Go.RowKit Go.Proofs.YtmlkpadlafjfeaaW.PrintWords Go.Proofs.YtmlkpadlafjfeaaW.PrintLast Go.Proofs.YtmlkpadlafjfeaaW.PrintMore
attribute [local go_sem] zH zK zU zT zB zC zJ zI
set_option linter.unusedVariables false
set_option linter.unusedSimpArgs false
def zM.f (k : Nat) (a0_0 : Int) (a0_1 : Int) (a0_2 : Int) (a1_0 : Int) (a1_1 : Int) (a1_2 : Int) : Option (Int × Int) := (zZ.f k (wrap64 (a0_0 + a1_0)) 2).bind fun t131 => ((zZ.f k (wrap64 (a0_1 + a1_1)) 2).bind fun t132 => (some (t131, t132)))
theorem zM.mono : ∀ a0 a1 a2 a3 a4 a5 k, LeO (zM.f k a0 a1 a2 a3 a4 a5) (zM.f (k + 1) a0 a1 a2 a3 a4 a5) := by
 intro a0 a1 a2 a3 a4 a5 k
 unfold zM.f
 repeat' first
   | (with_reducible exact zZ.mono _ _ _)
   | (with_reducible exact LeO.refl _)
   | (with_reducible exact LeO.none _)
   | (with_reducible refine LeO.ite ?_ ?_)
   | (with_reducible refine LeO.bind ?_ (fun _ => ?_))
   | exact zZ.mono _ _ _
   | exact LeO.none _
   | refine LeO.ite ?_ ?_
   | refine LeO.bind ?_ (fun _ => ?_)
def zM.T1 : Bool × List (List Nat × List Nat) := (true, [([], []), ([0], [0]), ([], []), ([2], [2]), ([1, 3], [1, 3]), ([4], [4]), ([], []), ([6], [6]), ([], []), ([8], [8]), ([7, 9], [7, 9]), ([10, 5], [10]), ([5, 11], [5, 11]), ([12, 11, 0, 1, 2, 3, 4, 5, 6, 7, 8, 9, 10, 11, 12], [12])])
def zM.B1 : List Nat := [0, 1, 0, 4, 15, 31, 0, 64, 0, 256, 960, 2047, 4095, 8191]
theorem zM.tab1 : rtab .any (opsOf Try.f51 1) = zM.T1 := by kernel_rfl
theorem zM.bits1 : Q0 zM.T1.2 zM.B1 = true := by kernel_rfl
set_option maxHeartbeats 8000000 in
set_option maxRecDepth 100000 in
theorem zM.calls (k : Nat) (a0_0 : Int) (a0_1 : Int) (a0_2 : Int) (a1_0 : Int) (a1_1 : Int) (a1_2 : Int) (r1 : Int) (r2 : Int) (w : World) (h : zM.f k a0_0 a0_1 a0_2 a1_0 a1_1 a1_2 = some (r1, r2)) :
  Calls Try.prog 51 #[.agg #[.int .i64 a0_0, .int .i64 a0_1, .int .i64 a0_2], .agg #[.int .i64 a1_0, .int .i64 a1_1, .int .i64 a1_2]] w fun e w' => e = .returned (.agg #[.int .i64 r1, .int .i64 r2]) ∧ Below w.heap.size w w' := by
 have hu40 := Try.underlying40
 have hu35 := Try.underlying35
 have HB := qa.mk (Below.refl w.heap.size w)
 have H : ((zZ.f k (wrap64 (a0_0 + a1_0)) 2).bind fun t131 => ((zZ.f k (wrap64 (a0_1 + a1_1)) 2).bind fun t132 => (some (t131, t132)))) = some (r1, r2) := h
 clear h
 replace H := Option.bind_eq_some_iff.mp H
 obtain ⟨t131, A30, H⟩ := H
 replace H : ((zZ.f k (wrap64 (a0_1 + a1_1)) 2).bind fun t132 => (some (t131, t132))) = some (r1, r2) := H
 have A3 := qa.mk A30
 clear A30
 replace H := Option.bind_eq_some_iff.mp H
 obtain ⟨t132, A40, H⟩ := H
 replace H : (some (t131, t132)) = some (r1, r2) := H
 have A4 := qa.mk A40
 clear A40
 simp only [Option.some.injEq, Prod.mk.injEq] at H
 obtain ⟨rfl, rfl⟩ := H
 go_enter Try.func51, Try.ntmps51
 try go_wp2_with (first | ((with_reducible refine zl (N := 2) rfl ?_); refine zF ?hg (N := 2) ?hd (cs := #[.int .i64 a0_0, .int .i64 a0_1, .int .i64 a0_2]) (t := 40) ?hr ?_; (case hd => rfl); (case hg => rfl); (case hr => first | (go_simp; done) | (go_simp; rfl)); intro gb128 hg w5 hbox hb; have n0_ := qa.mk (qh (bq HB) hb); have n1_ := qa.mk (hbox); have n2_ := qa.mk ((by rw [hg]; exact (qx (bq HB)) : w.heap.size ≤ gb128)); have n3_ := qa.mk ((by rw [hg]; exact (qx (bq HB)) : w.heap.size ≤ gb128)); clear HB; have HB := n0_; have BK128 := n1_; have GW128 := n2_; have GE128 := n3_; clear n0_ n1_ n2_ n3_; clear hb hbox hg) | ((with_reducible refine zl (N := 3) rfl ?_); refine zF ?hg (N := 3) ?hd (cs := #[.int .i64 a1_0, .int .i64 a1_1, .int .i64 a1_2]) (t := 40) ?hr ?_; (case hd => rfl); (case hg => rfl); (case hr => first | (go_simp; done) | (go_simp; rfl)); intro gb129 hg w6 hbox hb; have n0_ := qa.mk (qF (g := gb128) (o := .cells #[.int .i64 a0_0, .int .i64 a0_1, .int .i64 a0_2] 40 (0, 0)) (kq BK128) hb); have n1_ := qa.mk (qh (bs HB GE128) hb); have n2_ := qa.mk (hbox); have n3_ := qa.mk ((by rw [hg]; exact (qx (bs HB GE128)) : w.heap.size ≤ gb129)); have n4_ := qa.mk ((by rw [hg]; exact (qx (bs HB GE128)) : w.heap.size ≤ gb129)); have n5_ := qa.mk ((by rw [hg]; exact Nat.ne_of_lt (qy (g := gb128) (o := .cells #[.int .i64 a0_0, .int .i64 a0_1, .int .i64 a0_2] 40 (0, 0)) (kq BK128)) : gb128 ≠ gb129)); have n6_ := qa.mk ((by rw [hg]; exact Nat.ne_of_gt (qy (g := gb128) (o := .cells #[.int .i64 a0_0, .int .i64 a0_1, .int .i64 a0_2] 40 (0, 0)) (kq BK128)) : gb129 ≠ gb128)); clear BK128; clear HB; have BK128 := n0_; have HB := n1_; have BK129 := n2_; have GW129 := n3_; have GE129 := n4_; have NB128_129 := n5_; have NB129_128 := n6_; clear n0_ n1_ n2_ n3_ n4_ n5_ n6_; clear hb hbox hg) | ((with_reducible refine zl (N := 4) rfl ?_); refine zF ?hg (N := 4) ?hd (cs := #[.int .i64 0, .int .i64 0]) (t := 35) ?hr ?_; (case hd => rfl); (case hg => rfl); (case hr => first | (go_simp; done) | (go_simp; rfl)); intro gb130 hg w7 hbox hb; have n0_ := qa.mk (qF (g := gb128) (o := .cells #[.int .i64 a0_0, .int .i64 a0_1, .int .i64 a0_2] 40 (0, 0)) (kq BK128) hb); have n1_ := qa.mk (qF (g := gb129) (o := .cells #[.int .i64 a1_0, .int .i64 a1_1, .int .i64 a1_2] 40 (0, 0)) (kq BK129) hb); have n2_ := qa.mk (qh (by repeat (first | (with_reducible first | exact HB.out | apply qw | apply qC | apply qJ | refine qf ?_ GE128.out | refine qf ?_ GE129.out) | exact HB.out)) hb); have n3_ := qa.mk (hbox); have n4_ := qa.mk ((by rw [hg]; exact (qx (by repeat (first | (with_reducible first | exact HB.out | apply qw | apply qC | apply qJ | refine qf ?_ GE128.out | refine qf ?_ GE129.out) | exact HB.out))) : w.heap.size ≤ gb130)); have n5_ := qa.mk ((by rw [hg]; exact (qx (by repeat (first | (with_reducible first | exact HB.out | apply qw | apply qC | apply qJ | refine qf ?_ GE128.out | refine qf ?_ GE129.out) | exact HB.out))) : w.heap.size ≤ gb130)); have n6_ := qa.mk ((by rw [hg]; exact Nat.ne_of_lt (qy (g := gb128) (o := .cells #[.int .i64 a0_0, .int .i64 a0_1, .int .i64 a0_2] 40 (0, 0)) (kq BK128)) : gb128 ≠ gb130)); have n7_ := qa.mk ((by rw [hg]; exact Nat.ne_of_gt (qy (g := gb128) (o := .cells #[.int .i64 a0_0, .int .i64 a0_1, .int .i64 a0_2] 40 (0, 0)) (kq BK128)) : gb130 ≠ gb128)); have n8_ := qa.mk ((by rw [hg]; exact Nat.ne_of_lt (qy (g := gb129) (o := .cells #[.int .i64 a1_0, .int .i64 a1_1, .int .i64 a1_2] 40 (0, 0)) (kq BK129)) : gb129 ≠ gb130)); have n9_ := qa.mk ((by rw [hg]; exact Nat.ne_of_gt (qy (g := gb129) (o := .cells #[.int .i64 a1_0, .int .i64 a1_1, .int .i64 a1_2] 40 (0, 0)) (kq BK129)) : gb130 ≠ gb129)); clear BK128; clear BK129; clear HB; have BK128 := n0_; have BK129 := n1_; have HB := n2_; have BK130 := n3_; have GW130 := n4_; have GE130 := n5_; have NB128_130 := n6_; have NB130_128 := n7_; have NB129_130 := n8_; have NB130_129 := n9_; clear n0_ n1_ n2_ n3_ n4_ n5_ n6_ n7_ n8_ n9_; clear hb hbox hg))
 have n0_ := qa.mk (qd BK128.out)
 have n1_ := qa.mk (qd BK129.out)
 have n2_ := qa.mk (qd BK130.out)
 have n3_ := qa.mk (qJ HB.out)
 clear BK128
 clear BK129
 clear BK130
 clear HB
 have BK128 := n0_
 have BK129 := n1_
 have BK130 := n2_
 have HB := n3_
 clear n0_ n1_ n2_ n3_
 refine jS (n := 14) (S := fun w' => w'.cell? ⟨gb128, 0, none⟩ = some (.int .i64 a0_0) ∧ w'.cell? ⟨gb128, 1, none⟩ = some (.int .i64 a0_1) ∧ w'.cell? ⟨gb128, 2, none⟩ = some (.int .i64 a0_2) ∧ w'.cell? ⟨gb129, 0, none⟩ = some (.int .i64 a1_0) ∧ w'.cell? ⟨gb129, 1, none⟩ = some (.int .i64 a1_1) ∧ w'.cell? ⟨gb129, 2, none⟩ = some (.int .i64 a1_2)) (ds := []) #[false, false, false, false, false, false, false, false, false, false, false, false, false, false] (by kernel_rfl) rfl rfl ⟨(qb BK128.out 0).trans rfl, (qb BK128.out 1).trans rfl, (qb BK128.out 2).trans rfl, (qb BK129.out 0).trans rfl, (qb BK129.out 1).trans rfl, (qb BK129.out 2).trans rfl⟩ (fun hHeld => ?_); refine ZE zM.tab1 zM.bits1 (fun HT_ HW_ => ?_)
 generalize w7.drew = w8 at BK128 BK129 BK130 HB hHeld ⊢
 refine za (i := 0) (N := some 5) (v := ?_) (a' := ?_) #[true, false, false, false, false, false, false, false, false, false, false, false, false, false] rfl rfl (ja HT_.out (by kernel_rfl)) (fun _ _ _ h => h) (Or.inl ⟨by rfl, ?_⟩) ?_ ?_
 rotate_left
 ·intro w'
  go_simp
  with_reducible rfl
 rotate_left
 ·simp only [Act.put, List.setIfInBounds_toArray, List.set_cons_zero, List.set_cons_succ, qz, qA]
  rfl
 refine za (i := 2) (N := some 7) (v := ?_) (a' := ?_) #[true, false, true, false, false, false, false, false, false, false, false, false, false, false] rfl rfl (ja HT_.out (by kernel_rfl)) (fun _ _ _ h => h) (Or.inl ⟨by rfl, ?_⟩) ?_ ?_
 rotate_left
 ·intro w'
  go_simp
  with_reducible rfl
 rotate_left
 ·simp only [Act.put, List.setIfInBounds_toArray, List.set_cons_zero, List.set_cons_succ, qz, qA]
  rfl
 refine za (i := 6) (N := some 11) (v := ?_) (a' := ?_) #[true, false, true, false, false, false, true, false, false, false, false, false, false, false] rfl rfl (ja HT_.out (by kernel_rfl)) (fun _ _ _ h => h) (Or.inl ⟨by rfl, ?_⟩) ?_ ?_
 rotate_left
 ·intro w'
  go_simp
  with_reducible rfl
 rotate_left
 ·simp only [Act.put, List.setIfInBounds_toArray, List.set_cons_zero, List.set_cons_succ, qz, qA]
  rfl
 refine za (i := 8) (N := some 13) (v := ?_) (a' := ?_) #[true, false, true, false, false, false, true, false, true, false, false, false, false, false] rfl rfl (ja HT_.out (by kernel_rfl)) (fun _ _ _ h => h) (Or.inl ⟨by rfl, ?_⟩) ?_ ?_
 rotate_left
 ·intro w'
  go_simp
  with_reducible rfl
 rotate_left
 ·simp only [Act.put, List.setIfInBounds_toArray, List.set_cons_zero, List.set_cons_succ, qz, qA]
  rfl
 refine zD (i := 1) (N := some 6) (v := ?_) (a' := ?_) #[true, true, true, false, false, false, true, false, true, false, false, false, false, false] rfl rfl (jK HT_.out HW_.out (by kernel_rfl)) (fun _ _ _ h => h) (Or.inl ⟨by rfl, ?_⟩) hHeld ?_ ?_
 rotate_left
 ·rintro w' ⟨s0, s1, s2, s3, s4, s5⟩
  go_simp
  with_reducible rfl
 rotate_left
 ·simp only [Act.put, List.setIfInBounds_toArray, List.set_cons_zero, List.set_cons_succ, qz, qA]
  rfl
 refine zD (i := 3) (N := some 8) (v := ?_) (a' := ?_) #[true, true, true, true, false, false, true, false, true, false, false, false, false, false] rfl rfl (jK HT_.out HW_.out (by kernel_rfl)) (fun _ _ _ h => h) (Or.inl ⟨by rfl, ?_⟩) hHeld ?_ ?_
 rotate_left
 ·rintro w' ⟨s0, s1, s2, s3, s4, s5⟩
  go_simp
  with_reducible rfl
 rotate_left
 ·simp only [Act.put, List.setIfInBounds_toArray, List.set_cons_zero, List.set_cons_succ, qz, qA]
  rfl
 refine za (i := 4) (N := some 9) (v := ?_) (a' := ?_) #[true, true, true, true, true, false, true, false, true, false, false, false, false, false] rfl rfl (ja HT_.out (by kernel_rfl)) (fun _ _ _ h => h) (Or.inl ⟨by rfl, ?_⟩) ?_ ?_
 rotate_left
 ·intro w'
  go_simp
  with_reducible rfl
 rotate_left
 ·simp only [Act.put, List.setIfInBounds_toArray, List.set_cons_zero, List.set_cons_succ, qz, qA]
  rfl
 refine zD (i := 7) (N := some 12) (v := ?_) (a' := ?_) #[true, true, true, true, true, false, true, true, true, false, false, false, false, false] rfl rfl (jK HT_.out HW_.out (by kernel_rfl)) (fun _ _ _ h => h) (Or.inl ⟨by rfl, ?_⟩) hHeld ?_ ?_
 rotate_left
 ·rintro w' ⟨s0, s1, s2, s3, s4, s5⟩
  go_simp
  with_reducible rfl
 rotate_left
 ·simp only [Act.put, List.setIfInBounds_toArray, List.set_cons_zero, List.set_cons_succ, qz, qA]
  rfl
 refine zD (i := 9) (N := some 14) (v := ?_) (a' := ?_) #[true, true, true, true, true, false, true, true, true, true, false, false, false, false] rfl rfl (jK HT_.out HW_.out (by kernel_rfl)) (fun _ _ _ h => h) (Or.inl ⟨by rfl, ?_⟩) hHeld ?_ ?_
 rotate_left
 ·rintro w' ⟨s0, s1, s2, s3, s4, s5⟩
  go_simp
  with_reducible rfl
 rotate_left
 ·simp only [Act.put, List.setIfInBounds_toArray, List.set_cons_zero, List.set_cons_succ, qz, qA]
  rfl
 refine za (i := 10) (N := some 15) (v := ?_) (a' := ?_) #[true, true, true, true, true, false, true, true, true, true, true, false, false, false] rfl rfl (ja HT_.out (by kernel_rfl)) (fun _ _ _ h => h) (Or.inl ⟨by rfl, ?_⟩) ?_ ?_
 rotate_left
 ·intro w'
  go_simp
  with_reducible rfl
 rotate_left
 ·simp only [Act.put, List.setIfInBounds_toArray, List.set_cons_zero, List.set_cons_succ, qz, qA]
  rfl
 refine jd (i := 5) (N := some 10) #[true, true, true, true, true, true, true, true, true, true, true, false, false, false] rfl rfl (jW HT_.out (by kernel_rfl)) (by decide) (fun K hK => ?_)
 refine zS Try.func67 (by kernel_rfl) rfl #[.int .i64 (wrap64 (a0_0 + a1_0)), .int .i64 2] (by rfl) rfl rfl (by (try simp only [List.map_toArray, List.map_cons, List.map_nil]); first | done | rfl | (simp only [List.length_drop, List.length_take]; rfl)) ?_
 with_reducible refine (zZ.calls k (wrap64 (a0_0 + a1_0)) 2 t131 _ A3.out).mono ?_
 rintro e w9 ⟨rfl, hb⟩
 refine ⟨_, rfl, ?_⟩
 have n0_ := qa.mk (qF (g := gb128) (o := .cells #[.int .i64 a0_0, .int .i64 a0_1, .int .i64 a0_2] 40 (0, 0)) (kq BK128) hb)
 have n1_ := qa.mk (qF (g := gb129) (o := .cells #[.int .i64 a1_0, .int .i64 a1_1, .int .i64 a1_2] 40 (0, 0)) (kq BK129) hb)
 have n2_ := qa.mk (qF (g := gb130) (o := .cells #[.int .i64 0, .int .i64 0] 35 (0, 0)) (kq BK130) hb)
 have n3_ := qa.mk (qh (by repeat (first | (with_reducible first | exact HB.out | apply qw | apply qC | apply qJ | refine qf ?_ GE128.out | refine qf ?_ GE129.out | refine qf ?_ GE130.out) | exact HB.out)) hb)
 clear BK128
 clear BK129
 clear BK130
 clear HB
 have BK128 := n0_
 have BK129 := n1_
 have BK130 := n2_
 have HB := n3_
 clear n0_ n1_ n2_ n3_
 (try clear hb)
 (try clear hb2)
 (try clear hk)
 (try clear hi)
 refine hK.out _ _ ⟨(qb BK128.out 0).trans rfl, (qb BK128.out 1).trans rfl, (qb BK128.out 2).trans rfl, (qb BK129.out 0).trans rfl, (qb BK129.out 1).trans rfl, (qb BK129.out 2).trans rfl⟩ (fun hHeld => ?_)
 clear hK K
 refine zo (a' := ?_) ?_ ?_
 rotate_left
 ·show Act.put _ (some 10) _ = _
  simp only [Act.put, List.setIfInBounds_toArray, List.set_cons_zero, List.set_cons_succ, qz, qA]
  rfl
 refine jd (i := 11) (N := some 16) #[true, true, true, true, true, true, true, true, true, true, true, true, false, false] rfl rfl (jW HT_.out (by kernel_rfl)) (by decide) (fun K hK => ?_)
 refine zS Try.func67 (by kernel_rfl) rfl #[.int .i64 (wrap64 (a0_1 + a1_1)), .int .i64 2] (by rfl) rfl rfl (by (try simp only [List.map_toArray, List.map_cons, List.map_nil]); first | done | rfl | (simp only [List.length_drop, List.length_take]; rfl)) ?_
 with_reducible refine (zZ.calls k (wrap64 (a0_1 + a1_1)) 2 t132 _ A4.out).mono ?_
 rintro e w10 ⟨rfl, hb⟩
 refine ⟨_, rfl, ?_⟩
 have n0_ := qa.mk (qF (g := gb128) (o := .cells #[.int .i64 a0_0, .int .i64 a0_1, .int .i64 a0_2] 40 (0, 0)) (kq BK128) hb)
 have n1_ := qa.mk (qF (g := gb129) (o := .cells #[.int .i64 a1_0, .int .i64 a1_1, .int .i64 a1_2] 40 (0, 0)) (kq BK129) hb)
 have n2_ := qa.mk (qF (g := gb130) (o := .cells #[.int .i64 0, .int .i64 0] 35 (0, 0)) (kq BK130) hb)
 have n3_ := qa.mk (qh (by repeat (first | (with_reducible first | exact HB.out | apply qw | apply qC | apply qJ | refine qf ?_ GE128.out | refine qf ?_ GE129.out | refine qf ?_ GE130.out) | exact HB.out)) hb)
 clear BK128
 clear BK129
 clear BK130
 clear HB
 have BK128 := n0_
 have BK129 := n1_
 have BK130 := n2_
 have HB := n3_
 clear n0_ n1_ n2_ n3_
 (try clear hb)
 (try clear hb2)
 (try clear hk)
 (try clear hi)
 refine hK.out _ _ ⟨(qb BK128.out 0).trans rfl, (qb BK128.out 1).trans rfl, (qb BK128.out 2).trans rfl, (qb BK129.out 0).trans rfl, (qb BK129.out 1).trans rfl, (qb BK129.out 2).trans rfl⟩ (fun hHeld => ?_)
 clear hK K
 refine zo (a' := ?_) ?_ ?_
 rotate_left
 ·show Act.put _ (some 16) _ = _
  simp only [Act.put, List.setIfInBounds_toArray, List.set_cons_zero, List.set_cons_succ, qz, qA]
  rfl
 refine za (i := 12) (N := some 17) (v := ?_) (a' := ?_) #[true, true, true, true, true, true, true, true, true, true, true, true, true, false] rfl rfl (ja HT_.out (by kernel_rfl)) (fun _ _ _ h => h) (Or.inl ⟨by rfl, ?_⟩) ?_ ?_
 rotate_left
 ·intro w'
  go_simp
  with_reducible rfl
 rotate_left
 ·simp only [Act.put, List.setIfInBounds_toArray, List.set_cons_zero, List.set_cons_succ, qz, qA]
  rfl
 refine jd (i := 13) (N := none) #[true, true, true, true, true, true, true, true, true, true, true, true, true, true] rfl rfl (jW HT_.out (by kernel_rfl)) (by decide) (fun K hK => ?_)
 have hs11 : w10.cell? ⟨gb130, 0, none⟩ = some (.int .i64 0) := (qb BK130.out 0).trans rfl
 have hfs11 := qo BK130.out 0
 have hns11_0 := NB128_130.out
 have hns11_1 := NB129_130.out
 have hms11_0 := NB130_128.out
 have hms11_1 := NB130_129.out
 have hs12 : w10.cell? ⟨gb130, 1, none⟩ = some (.int .i64 0) := (qb BK130.out 1).trans rfl
 have hfs12 := qo BK130.out 1
 have hns12_0 := NB128_130.out
 have hns12_1 := NB129_130.out
 have hms12_0 := NB130_128.out
 have hms12_1 := NB130_129.out
 refine ZT (w1 := ?_) (by rfl) rfl ?_ ?_
 rotate_left
 ·go_simp
  rfl
 refine hK.out _ _ ⟨((cell_far (p := ⟨gb130, _, none⟩) NB128_130.out _).trans (((cell_far (p := ⟨gb130, _, none⟩) NB128_130.out _).trans (hHeld.1)))), ((cell_far (p := ⟨gb130, _, none⟩) NB128_130.out _).trans (((cell_far (p := ⟨gb130, _, none⟩) NB128_130.out _).trans (hHeld.2.1)))), ((cell_far (p := ⟨gb130, _, none⟩) NB128_130.out _).trans (((cell_far (p := ⟨gb130, _, none⟩) NB128_130.out _).trans (hHeld.2.2.1)))), ((cell_far (p := ⟨gb130, _, none⟩) NB129_130.out _).trans (((cell_far (p := ⟨gb130, _, none⟩) NB129_130.out _).trans (hHeld.2.2.2.1)))), ((cell_far (p := ⟨gb130, _, none⟩) NB129_130.out _).trans (((cell_far (p := ⟨gb130, _, none⟩) NB129_130.out _).trans (hHeld.2.2.2.2.1)))), ((cell_far (p := ⟨gb130, _, none⟩) NB129_130.out _).trans (((cell_far (p := ⟨gb130, _, none⟩) NB129_130.out _).trans (hHeld.2.2.2.2.2))))⟩ (fun hHeld => ?_)
 clear hK K
 refine Qa (Ji HT_.out (by kernel_rfl)) ?_
 try go_wp2
 refine bodyPost_ret (results_cell_row rfl _ _ gb130 35 #[.int .i64 t131, .int .i64 t132] (0, 0) _ rfl (by (with_reducible repeat (first | refine qj ?_ _ | refine qd ?_ | refine qg ?_ _)); refine zb (cs := #[.int .i64 t131, .int .i64 0]) ?_ 1 _ rfl; refine zb (cs := #[.int .i64 0, .int .i64 0]) ?_ 0 _ rfl; exact kq BK130) Try.underlying35 rfl (by kernel_rfl)) rfl ?_
 exact ⟨by first | rfl | (simp [qR, qU] <;> rfl) | (simp [*, qR, qU] <;> rfl), by repeat (first | (with_reducible first | exact HB.out | apply qw | apply qC | apply qJ | refine qf ?_ GE128.out | refine qf ?_ GE129.out | refine qf ?_ GE130.out) | exact HB.out)⟩
end Go.Proofs.Ytmlkpadlafjfeaa.P
