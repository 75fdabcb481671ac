import Derived.Test.YtmlkpadlafjfeaaPx90
namespace Go.Proofs.Ytmlkpadlafjfeaa.P
open Go.RowKit Go.Proofs.YtmlkpadlafjfeaaW.PrintWords Go.Proofs.YtmlkpadlafjfeaaW.PrintLast Go.Proofs.YtmlkpadlafjfeaaW.PrintMore
attribute [local go_sem] zH zK zU zT zB zC zJ zI
set_option linter.unusedVariables false
set_option linter.unusedSimpArgs false
def jo.f (a0_0 : Int) (a0_1 : Int) (a1_0 : Int) (a1_1 : Int) (a2_0 : Int) (a2_1 : Int) : Option (Int) := (Qo.f (wrap64 ((wrap64 (a0_0 - (wrap64 (2 * a1_0)))) + a2_0))).bind fun t166 => ((Qo.f (wrap64 ((wrap64 (a0_1 - (wrap64 (2 * a1_1)))) + a2_1))).bind fun t167 => (some (wrap64 (t166 + t167))))
def jo.T1 : Bool × List (List Nat × List Nat) := (true, [([], []), ([0], [0]), ([], []), ([2], [2]), ([3], [3]), ([1, 4], [1, 4]), ([], []), ([6], [6]), ([5, 7], [5, 7]), ([8], [8]), ([], []), ([10], [10]), ([], []), ([12], [12]), ([13], [13]), ([11, 14], [11, 14]), ([], []), ([16], [16]), ([15, 17], [15, 17]), ([18, 9], [18]), ([9, 19], [9, 19]), ([20, 19, 0, 1, 2, 3, 4, 5, 6, 7, 8, 9, 10, 11, 12, 13, 14, 15, 16, 17, 18, 19, 20], [20])])
def jo.B1 : List Nat := [0, 1, 0, 4, 12, 31, 0, 64, 255, 511, 0, 1024, 0, 4096, 12288, 31744, 0, 65536, 261120, 524287, 1048575, 2097151]
theorem jo.tab1 : rtab .any (opsOf Try.f65 1) = jo.T1 := by kernel_rfl
theorem jo.bits1 : Q0 jo.T1.2 jo.B1 = true := by kernel_rfl
set_option maxHeartbeats 8000000 in
set_option maxRecDepth 100000 in
theorem jo.calls (a0_0 : Int) (a0_1 : Int) (a1_0 : Int) (a1_1 : Int) (a2_0 : Int) (a2_1 : Int) (r : Int) (w : World) (h : jo.f a0_0 a0_1 a1_0 a1_1 a2_0 a2_1 = some r) :
  Calls Try.prog 65 #[.agg #[.int .i64 a0_0, .int .i64 a0_1], .agg #[.int .i64 a1_0, .int .i64 a1_1], .agg #[.int .i64 a2_0, .int .i64 a2_1]] w fun e w' => e = .returned (.int .i64 r) ∧ Below w.heap.size w w' := by
 have hu35 := Try.underlying35
 have HB := qa.mk (Below.refl w.heap.size w)
 have H : ((Qo.f (wrap64 ((wrap64 (a0_0 - (wrap64 (2 * a1_0)))) + a2_0))).bind fun t166 => ((Qo.f (wrap64 ((wrap64 (a0_1 - (wrap64 (2 * a1_1)))) + a2_1))).bind fun t167 => (some (wrap64 (t166 + t167))))) = some r := h
 clear h
 replace H := Option.bind_eq_some_iff.mp H
 obtain ⟨t166, A40, H⟩ := H
 replace H : ((Qo.f (wrap64 ((wrap64 (a0_1 - (wrap64 (2 * a1_1)))) + a2_1))).bind fun t167 => (some (wrap64 (t166 + t167)))) = some r := H
 have A4 := qa.mk A40
 clear A40
 replace H := Option.bind_eq_some_iff.mp H
 obtain ⟨t167, A50, H⟩ := H
 replace H : (some (wrap64 (t166 + t167))) = some r := H
 have A5 := qa.mk A50
 clear A50
 obtain rfl := Option.some.inj H
 go_enter Try.func65, Try.ntmps65
 try go_wp2_with (first | ((with_reducible refine zl (N := 3) rfl ?_); refine zF ?hg (N := 3) ?hd (cs := #[.int .i64 a0_0, .int .i64 a0_1]) (t := 35) ?hr ?_; (case hd => rfl); (case hg => rfl); (case hr => first | (go_simp; done) | (go_simp; rfl)); intro gb163 hg w6 hbox hb; have n0_ := qa.mk (qh (bq HB) hb); have n1_ := qa.mk (hbox); have n2_ := qa.mk ((by rw [hg]; exact (qx (bq HB)) : w.heap.size ≤ gb163)); have n3_ := qa.mk ((by rw [hg]; exact (qx (bq HB)) : w.heap.size ≤ gb163)); clear HB; have HB := n0_; have BK163 := n1_; have GW163 := n2_; have GE163 := n3_; clear n0_ n1_ n2_ n3_; clear hb hbox hg) | ((with_reducible refine zl (N := 4) rfl ?_); refine zF ?hg (N := 4) ?hd (cs := #[.int .i64 a1_0, .int .i64 a1_1]) (t := 35) ?hr ?_; (case hd => rfl); (case hg => rfl); (case hr => first | (go_simp; done) | (go_simp; rfl)); intro gb164 hg w7 hbox hb; have n0_ := qa.mk (qF (g := gb163) (o := .cells #[.int .i64 a0_0, .int .i64 a0_1] 35 (0, 0)) (kq BK163) hb); have n1_ := qa.mk (qh (bs HB GE163) hb); have n2_ := qa.mk (hbox); have n3_ := qa.mk ((by rw [hg]; exact (qx (bs HB GE163)) : w.heap.size ≤ gb164)); have n4_ := qa.mk ((by rw [hg]; exact (qx (bs HB GE163)) : w.heap.size ≤ gb164)); have n5_ := qa.mk ((by rw [hg]; exact Nat.ne_of_lt (qy (g := gb163) (o := .cells #[.int .i64 a0_0, .int .i64 a0_1] 35 (0, 0)) (kq BK163)) : gb163 ≠ gb164)); have n6_ := qa.mk ((by rw [hg]; exact Nat.ne_of_gt (qy (g := gb163) (o := .cells #[.int .i64 a0_0, .int .i64 a0_1] 35 (0, 0)) (kq BK163)) : gb164 ≠ gb163)); clear BK163; clear HB; have BK163 := n0_; have HB := n1_; have BK164 := n2_; have GW164 := n3_; have GE164 := n4_; have NB163_164 := n5_; have NB164_163 := n6_; clear n0_ n1_ n2_ n3_ n4_ n5_ n6_; clear hb hbox hg) | ((with_reducible refine zl (N := 5) rfl ?_); refine zF ?hg (N := 5) ?hd (cs := #[.int .i64 a2_0, .int .i64 a2_1]) (t := 35) ?hr ?_; (case hd => rfl); (case hg => rfl); (case hr => first | (go_simp; done) | (go_simp; rfl)); intro gb165 hg w8 hbox hb; have n0_ := qa.mk (qF (g := gb163) (o := .cells #[.int .i64 a0_0, .int .i64 a0_1] 35 (0, 0)) (kq BK163) hb); have n1_ := qa.mk (qF (g := gb164) (o := .cells #[.int .i64 a1_0, .int .i64 a1_1] 35 (0, 0)) (kq BK164) hb); have n2_ := qa.mk (qh (by repeat (first | (with_reducible first | exact HB.out | apply qw | apply qC | apply qJ | refine qf ?_ GE163.out | refine qf ?_ GE164.out) | exact HB.out)) hb); have n3_ := qa.mk (hbox); have n4_ := qa.mk ((by rw [hg]; exact (qx (by repeat (first | (with_reducible first | exact HB.out | apply qw | apply qC | apply qJ | refine qf ?_ GE163.out | refine qf ?_ GE164.out) | exact HB.out))) : w.heap.size ≤ gb165)); have n5_ := qa.mk ((by rw [hg]; exact (qx (by repeat (first | (with_reducible first | exact HB.out | apply qw | apply qC | apply qJ | refine qf ?_ GE163.out | refine qf ?_ GE164.out) | exact HB.out))) : w.heap.size ≤ gb165)); have n6_ := qa.mk ((by rw [hg]; exact Nat.ne_of_lt (qy (g := gb163) (o := .cells #[.int .i64 a0_0, .int .i64 a0_1] 35 (0, 0)) (kq BK163)) : gb163 ≠ gb165)); have n7_ := qa.mk ((by rw [hg]; exact Nat.ne_of_gt (qy (g := gb163) (o := .cells #[.int .i64 a0_0, .int .i64 a0_1] 35 (0, 0)) (kq BK163)) : gb165 ≠ gb163)); have n8_ := qa.mk ((by rw [hg]; exact Nat.ne_of_lt (qy (g := gb164) (o := .cells #[.int .i64 a1_0, .int .i64 a1_1] 35 (0, 0)) (kq BK164)) : gb164 ≠ gb165)); have n9_ := qa.mk ((by rw [hg]; exact Nat.ne_of_gt (qy (g := gb164) (o := .cells #[.int .i64 a1_0, .int .i64 a1_1] 35 (0, 0)) (kq BK164)) : gb165 ≠ gb164)); clear BK163; clear BK164; clear HB; have BK163 := n0_; have BK164 := n1_; have HB := n2_; have BK165 := n3_; have GW165 := n4_; have GE165 := n5_; have NB163_165 := n6_; have NB165_163 := n7_; have NB164_165 := n8_; have NB165_164 := n9_; clear n0_ n1_ n2_ n3_ n4_ n5_ n6_ n7_ n8_ n9_; clear hb hbox hg))
 have n0_ := qa.mk (qd BK163.out)
 have n1_ := qa.mk (qd BK164.out)
 have n2_ := qa.mk (qd BK165.out)
 have n3_ := qa.mk (qJ HB.out)
 clear BK163
 clear BK164
 clear BK165
 clear HB
 have BK163 := n0_
 have BK164 := n1_
 have BK165 := n2_
 have HB := n3_
 clear n0_ n1_ n2_ n3_
 refine jS (n := 22) (S := fun w' => w'.cell? ⟨gb163, 0, none⟩ = some (.int .i64 a0_0) ∧ w'.cell? ⟨gb163, 1, none⟩ = some (.int .i64 a0_1) ∧ w'.cell? ⟨gb164, 0, none⟩ = some (.int .i64 a1_0) ∧ w'.cell? ⟨gb164, 1, none⟩ = some (.int .i64 a1_1) ∧ w'.cell? ⟨gb165, 0, none⟩ = some (.int .i64 a2_0) ∧ w'.cell? ⟨gb165, 1, none⟩ = some (.int .i64 a2_1)) (ds := []) #[false, false, false, false, false, false, false, false, false, false, false, false, false, false, false, false, false, false, false, false, false, false] (by kernel_rfl) rfl rfl ⟨(qb BK163.out 0).trans rfl, (qb BK163.out 1).trans rfl, (qb BK164.out 0).trans rfl, (qb BK164.out 1).trans rfl, (qb BK165.out 0).trans rfl, (qb BK165.out 1).trans rfl⟩ (fun hHeld => ?_); refine ZE jo.tab1 jo.bits1 (fun HT_ HW_ => ?_)
 generalize w8.drew = w9 at BK163 BK164 BK165 HB hHeld ⊢
 refine za (i := 0) (N := some 7) (v := ?_) (a' := ?_) #[true, false, false, false, false, false, false, false, false, false, false, false, false, false, false, false, false, false, false, false, false, false] rfl rfl (ja HT_.out (by kernel_rfl)) (fun _ _ _ h => h) (Or.inl ⟨by rfl, ?_⟩) ?_ ?_
 rotate_left
 ·intro w'
  go_simp
  with_reducible rfl
 rotate_left
 ·simp only [Act.put, List.setIfInBounds_toArray, List.set_cons_zero, List.set_cons_succ, qz, qA]
  rfl
 refine za (i := 2) (N := some 9) (v := ?_) (a' := ?_) #[true, false, true, false, false, false, false, false, false, false, false, false, false, false, false, false, false, false, false, false, false, false] rfl rfl (ja HT_.out (by kernel_rfl)) (fun _ _ _ h => h) (Or.inl ⟨by rfl, ?_⟩) ?_ ?_
 rotate_left
 ·intro w'
  go_simp
  with_reducible rfl
 rotate_left
 ·simp only [Act.put, List.setIfInBounds_toArray, List.set_cons_zero, List.set_cons_succ, qz, qA]
  rfl
 refine za (i := 6) (N := some 13) (v := ?_) (a' := ?_) #[true, false, true, false, false, false, true, false, false, false, false, false, false, false, false, false, false, false, false, false, false, false] rfl rfl (ja HT_.out (by kernel_rfl)) (fun _ _ _ h => h) (Or.inl ⟨by rfl, ?_⟩) ?_ ?_
 rotate_left
 ·intro w'
  go_simp
  with_reducible rfl
 rotate_left
 ·simp only [Act.put, List.setIfInBounds_toArray, List.set_cons_zero, List.set_cons_succ, qz, qA]
  rfl
 refine za (i := 10) (N := some 17) (v := ?_) (a' := ?_) #[true, false, true, false, false, false, true, false, false, false, true, false, false, false, false, false, false, false, false, false, false, false] rfl rfl (ja HT_.out (by kernel_rfl)) (fun _ _ _ h => h) (Or.inl ⟨by rfl, ?_⟩) ?_ ?_
 rotate_left
 ·intro w'
  go_simp
  with_reducible rfl
 rotate_left
 ·simp only [Act.put, List.setIfInBounds_toArray, List.set_cons_zero, List.set_cons_succ, qz, qA]
  rfl
 refine za (i := 12) (N := some 19) (v := ?_) (a' := ?_) #[true, false, true, false, false, false, true, false, false, false, true, false, true, false, false, false, false, false, false, false, false, false] rfl rfl (ja HT_.out (by kernel_rfl)) (fun _ _ _ h => h) (Or.inl ⟨by rfl, ?_⟩) ?_ ?_
 rotate_left
 ·intro w'
  go_simp
  with_reducible rfl
 rotate_left
 ·simp only [Act.put, List.setIfInBounds_toArray, List.set_cons_zero, List.set_cons_succ, qz, qA]
  rfl
 refine za (i := 16) (N := some 23) (v := ?_) (a' := ?_) #[true, false, true, false, false, false, true, false, false, false, true, false, true, false, false, false, true, false, false, false, false, false] rfl rfl (ja HT_.out (by kernel_rfl)) (fun _ _ _ h => h) (Or.inl ⟨by rfl, ?_⟩) ?_ ?_
 rotate_left
 ·intro w'
  go_simp
  with_reducible rfl
 rotate_left
 ·simp only [Act.put, List.setIfInBounds_toArray, List.set_cons_zero, List.set_cons_succ, qz, qA]
  rfl
 refine zD (i := 1) (N := some 8) (v := ?_) (a' := ?_) #[true, true, true, false, false, false, true, false, false, false, true, false, true, false, false, false, true, false, false, false, false, false] rfl rfl (jK HT_.out HW_.out (by kernel_rfl)) (fun _ _ _ h => h) (Or.inl ⟨by rfl, ?_⟩) hHeld ?_ ?_
 rotate_left
 ·rintro w' ⟨s0, s1, s2, s3, s4, s5⟩
  go_simp
  with_reducible rfl
 rotate_left
 ·simp only [Act.put, List.setIfInBounds_toArray, List.set_cons_zero, List.set_cons_succ, qz, qA]
  rfl
 refine zD (i := 3) (N := some 10) (v := ?_) (a' := ?_) #[true, true, true, true, false, false, true, false, false, false, true, false, true, false, false, false, true, false, false, false, false, false] rfl rfl (jK HT_.out HW_.out (by kernel_rfl)) (fun _ _ _ h => h) (Or.inl ⟨by rfl, ?_⟩) hHeld ?_ ?_
 rotate_left
 ·rintro w' ⟨s0, s1, s2, s3, s4, s5⟩
  go_simp
  with_reducible rfl
 rotate_left
 ·simp only [Act.put, List.setIfInBounds_toArray, List.set_cons_zero, List.set_cons_succ, qz, qA]
  rfl
 refine za (i := 4) (N := some 11) (v := ?_) (a' := ?_) #[true, true, true, true, true, false, true, false, false, false, true, false, true, false, false, false, true, false, false, false, false, false] rfl rfl (ja HT_.out (by kernel_rfl)) (fun _ _ _ h => h) (Or.inl ⟨by rfl, ?_⟩) ?_ ?_
 rotate_left
 ·intro w'
  go_simp
  with_reducible rfl
 rotate_left
 ·simp only [Act.put, List.setIfInBounds_toArray, List.set_cons_zero, List.set_cons_succ, qz, qA]
  rfl
 refine za (i := 5) (N := some 12) (v := ?_) (a' := ?_) #[true, true, true, true, true, true, true, false, false, false, true, false, true, false, false, false, true, false, false, false, false, false] rfl rfl (ja HT_.out (by kernel_rfl)) (fun _ _ _ h => h) (Or.inl ⟨by rfl, ?_⟩) ?_ ?_
 rotate_left
 ·intro w'
  go_simp
  with_reducible rfl
 rotate_left
 ·simp only [Act.put, List.setIfInBounds_toArray, List.set_cons_zero, List.set_cons_succ, qz, qA]
  rfl
 refine zD (i := 7) (N := some 14) (v := ?_) (a' := ?_) #[true, true, true, true, true, true, true, true, false, false, true, false, true, false, false, false, true, false, false, false, false, false] rfl rfl (jK HT_.out HW_.out (by kernel_rfl)) (fun _ _ _ h => h) (Or.inl ⟨by rfl, ?_⟩) hHeld ?_ ?_
 rotate_left
 ·rintro w' ⟨s0, s1, s2, s3, s4, s5⟩
  go_simp
  with_reducible rfl
 rotate_left
 ·simp only [Act.put, List.setIfInBounds_toArray, List.set_cons_zero, List.set_cons_succ, qz, qA]
  rfl
 refine za (i := 8) (N := some 15) (v := ?_) (a' := ?_) #[true, true, true, true, true, true, true, true, true, false, true, false, true, false, false, false, true, false, false, false, false, false] rfl rfl (ja HT_.out (by kernel_rfl)) (fun _ _ _ h => h) (Or.inl ⟨by rfl, ?_⟩) ?_ ?_
 rotate_left
 ·intro w'
  go_simp
  with_reducible rfl
 rotate_left
 ·simp only [Act.put, List.setIfInBounds_toArray, List.set_cons_zero, List.set_cons_succ, qz, qA]
  rfl
 refine zD (i := 11) (N := some 18) (v := ?_) (a' := ?_) #[true, true, true, true, true, true, true, true, true, false, true, true, true, false, false, false, true, false, false, false, false, false] rfl rfl (jK HT_.out HW_.out (by kernel_rfl)) (fun _ _ _ h => h) (Or.inl ⟨by rfl, ?_⟩) hHeld ?_ ?_
 rotate_left
 ·rintro w' ⟨s0, s1, s2, s3, s4, s5⟩
  go_simp
  with_reducible rfl
 rotate_left
 ·simp only [Act.put, List.setIfInBounds_toArray, List.set_cons_zero, List.set_cons_succ, qz, qA]
  rfl
 refine zD (i := 13) (N := some 20) (v := ?_) (a' := ?_) #[true, true, true, true, true, true, true, true, true, false, true, true, true, true, false, false, true, false, false, false, false, false] rfl rfl (jK HT_.out HW_.out (by kernel_rfl)) (fun _ _ _ h => h) (Or.inl ⟨by rfl, ?_⟩) hHeld ?_ ?_
 rotate_left
 ·rintro w' ⟨s0, s1, s2, s3, s4, s5⟩
  go_simp
  with_reducible rfl
 rotate_left
 ·simp only [Act.put, List.setIfInBounds_toArray, List.set_cons_zero, List.set_cons_succ, qz, qA]
  rfl
 refine za (i := 14) (N := some 21) (v := ?_) (a' := ?_) #[true, true, true, true, true, true, true, true, true, false, true, true, true, true, true, false, true, false, false, false, false, false] rfl rfl (ja HT_.out (by kernel_rfl)) (fun _ _ _ h => h) (Or.inl ⟨by rfl, ?_⟩) ?_ ?_
 rotate_left
 ·intro w'
  go_simp
  with_reducible rfl
 rotate_left
 ·simp only [Act.put, List.setIfInBounds_toArray, List.set_cons_zero, List.set_cons_succ, qz, qA]
  rfl
 refine za (i := 15) (N := some 22) (v := ?_) (a' := ?_) #[true, true, true, true, true, true, true, true, true, false, true, true, true, true, true, true, true, false, false, false, false, false] rfl rfl (ja HT_.out (by kernel_rfl)) (fun _ _ _ h => h) (Or.inl ⟨by rfl, ?_⟩) ?_ ?_
 rotate_left
 ·intro w'
  go_simp
  with_reducible rfl
 rotate_left
 ·simp only [Act.put, List.setIfInBounds_toArray, List.set_cons_zero, List.set_cons_succ, qz, qA]
  rfl
 refine zD (i := 17) (N := some 24) (v := ?_) (a' := ?_) #[true, true, true, true, true, true, true, true, true, false, true, true, true, true, true, true, true, true, false, false, false, false] rfl rfl (jK HT_.out HW_.out (by kernel_rfl)) (fun _ _ _ h => h) (Or.inl ⟨by rfl, ?_⟩) hHeld ?_ ?_
 rotate_left
 ·rintro w' ⟨s0, s1, s2, s3, s4, s5⟩
  go_simp
  with_reducible rfl
 rotate_left
 ·simp only [Act.put, List.setIfInBounds_toArray, List.set_cons_zero, List.set_cons_succ, qz, qA]
  rfl
 refine za (i := 18) (N := some 25) (v := ?_) (a' := ?_) #[true, true, true, true, true, true, true, true, true, false, true, true, true, true, true, true, true, true, true, false, false, false] rfl rfl (ja HT_.out (by kernel_rfl)) (fun _ _ _ h => h) (Or.inl ⟨by rfl, ?_⟩) ?_ ?_
 rotate_left
 ·intro w'
  go_simp
  with_reducible rfl
 rotate_left
 ·simp only [Act.put, List.setIfInBounds_toArray, List.set_cons_zero, List.set_cons_succ, qz, qA]
  rfl
 refine jd (i := 9) (N := some 16) #[true, true, true, true, true, true, true, true, true, true, true, true, true, true, true, true, true, true, true, false, false, false] rfl rfl (jW HT_.out (by kernel_rfl)) (by decide) (fun K hK => ?_)
 refine zS Try.func75 (by kernel_rfl) rfl #[.int .i64 (wrap64 ((wrap64 (a0_0 - (wrap64 (2 * a1_0)))) + a2_0))] (by rfl) rfl rfl (by (try simp only [List.map_toArray, List.map_cons, List.map_nil]); first | done | rfl | (simp only [List.length_drop, List.length_take]; rfl)) ?_
 with_reducible refine (Qo.calls (wrap64 ((wrap64 (a0_0 - (wrap64 (2 * a1_0)))) + a2_0)) t166 _ A4.out).mono ?_
 rintro e w10 ⟨rfl, hb⟩
 refine ⟨_, rfl, ?_⟩
 have n0_ := qa.mk (qF (g := gb163) (o := .cells #[.int .i64 a0_0, .int .i64 a0_1] 35 (0, 0)) (kq BK163) hb)
 have n1_ := qa.mk (qF (g := gb164) (o := .cells #[.int .i64 a1_0, .int .i64 a1_1] 35 (0, 0)) (kq BK164) hb)
 have n2_ := qa.mk (qF (g := gb165) (o := .cells #[.int .i64 a2_0, .int .i64 a2_1] 35 (0, 0)) (kq BK165) hb)
 have n3_ := qa.mk (qh (by repeat (first | (with_reducible first | exact HB.out | apply qw | apply qC | apply qJ | refine qf ?_ GE163.out | refine qf ?_ GE164.out | refine qf ?_ GE165.out) | exact HB.out)) hb)
 clear BK163
 clear BK164
 clear BK165
 clear HB
 have BK163 := n0_
 have BK164 := n1_
 have BK165 := n2_
 have HB := n3_
 clear n0_ n1_ n2_ n3_
 (try clear hb)
 (try clear hb2)
 (try clear hk)
 (try clear hi)
 refine hK.out _ _ ⟨(qb BK163.out 0).trans rfl, (qb BK163.out 1).trans rfl, (qb BK164.out 0).trans rfl, (qb BK164.out 1).trans rfl, (qb BK165.out 0).trans rfl, (qb BK165.out 1).trans rfl⟩ (fun hHeld => ?_)
 clear hK K
 refine zo (a' := ?_) ?_ ?_
 rotate_left
 ·show Act.put _ (some 16) _ = _
  simp only [Act.put, List.setIfInBounds_toArray, List.set_cons_zero, List.set_cons_succ, qz, qA]
  rfl
 refine jd (i := 19) (N := some 26) #[true, true, true, true, true, true, true, true, true, true, true, true, true, true, true, true, true, true, true, true, false, false] rfl rfl (jW HT_.out (by kernel_rfl)) (by decide) (fun K hK => ?_)
 refine zS Try.func75 (by kernel_rfl) rfl #[.int .i64 (wrap64 ((wrap64 (a0_1 - (wrap64 (2 * a1_1)))) + a2_1))] (by rfl) rfl rfl (by (try simp only [List.map_toArray, List.map_cons, List.map_nil]); first | done | rfl | (simp only [List.length_drop, List.length_take]; rfl)) ?_
 with_reducible refine (Qo.calls (wrap64 ((wrap64 (a0_1 - (wrap64 (2 * a1_1)))) + a2_1)) t167 _ A5.out).mono ?_
 rintro e w11 ⟨rfl, hb⟩
 refine ⟨_, rfl, ?_⟩
 have n0_ := qa.mk (qF (g := gb163) (o := .cells #[.int .i64 a0_0, .int .i64 a0_1] 35 (0, 0)) (kq BK163) hb)
 have n1_ := qa.mk (qF (g := gb164) (o := .cells #[.int .i64 a1_0, .int .i64 a1_1] 35 (0, 0)) (kq BK164) hb)
 have n2_ := qa.mk (qF (g := gb165) (o := .cells #[.int .i64 a2_0, .int .i64 a2_1] 35 (0, 0)) (kq BK165) hb)
 have n3_ := qa.mk (qh (by repeat (first | (with_reducible first | exact HB.out | apply qw | apply qC | apply qJ | refine qf ?_ GE163.out | refine qf ?_ GE164.out | refine qf ?_ GE165.out) | exact HB.out)) hb)
 clear BK163
 clear BK164
 clear BK165
 clear HB
 have BK163 := n0_
 have BK164 := n1_
 have BK165 := n2_
 have HB := n3_
 clear n0_ n1_ n2_ n3_
 (try clear hb)
 (try clear hb2)
 (try clear hk)
 (try clear hi)
 refine hK.out _ _ ⟨(qb BK163.out 0).trans rfl, (qb BK163.out 1).trans rfl, (qb BK164.out 0).trans rfl, (qb BK164.out 1).trans rfl, (qb BK165.out 0).trans rfl, (qb BK165.out 1).trans rfl⟩ (fun hHeld => ?_)
 clear hK K
 refine zo (a' := ?_) ?_ ?_
 rotate_left
 ·show Act.put _ (some 26) _ = _
  simp only [Act.put, List.setIfInBounds_toArray, List.set_cons_zero, List.set_cons_succ, qz, qA]
  rfl
 refine za (i := 20) (N := some 27) (v := ?_) (a' := ?_) #[true, true, true, true, true, true, true, true, true, true, true, true, true, true, true, true, true, true, true, true, true, false] rfl rfl (ja HT_.out (by kernel_rfl)) (fun _ _ _ h => h) (Or.inl ⟨by rfl, ?_⟩) ?_ ?_
 rotate_left
 ·intro w'
  go_simp
  with_reducible rfl
 rotate_left
 ·simp only [Act.put, List.setIfInBounds_toArray, List.set_cons_zero, List.set_cons_succ, qz, qA]
  rfl
 refine za (i := 21) (N := some 6) (v := ?_) (a' := ?_) #[true, true, true, true, true, true, true, true, true, true, true, true, true, true, true, true, true, true, true, true, true, true] rfl rfl (ja HT_.out (by kernel_rfl)) (fun _ _ _ h => h) (Or.inl ⟨by rfl, ?_⟩) ?_ ?_
 rotate_left
 ·intro w'
  go_simp
  with_reducible rfl
 rotate_left
 ·simp only [Act.put, List.setIfInBounds_toArray, List.set_cons_zero, List.set_cons_succ, qz, qA]
  rfl
 refine Qa (Ji HT_.out (by kernel_rfl)) ?_
 try go_wp2
 go_ret
 exact ⟨by first | rfl | (simp [qR, qU] <;> rfl) | (simp [*, qR, qU] <;> rfl), by repeat (first | (with_reducible first | exact HB.out | apply qw | apply qC | apply qJ | refine qf ?_ GE163.out | refine qf ?_ GE164.out | refine qf ?_ GE165.out) | exact HB.out)⟩
end Go.Proofs.Ytmlkpadlafjfeaa.P
