/- MetricWithout: the walk. -/
import Derived.Test.YtonljpciadeafaaSx0
import Derived.Test.YtonljpciadeafaaSx36
import Derived.Test.YtonljpciadeafaaSx37
import Derived.Test.YtonljpciadeafaaMtQS
set_option linter.unusedVariables false
set_option linter.unusedSimpArgs false
namespace Go.Proofs.Ytonljpciadeafaa.S
open Go Go.RowKit Go.Proofs.YtonljpciadeafaaW.PrintWords Go.Proofs.YtonljpciadeafaaW.PrintLast Go.Proofs.YtonljpciadeafaaW.PrintMore

theorem pieces_f (w : World) (A7 A8 A9 : Option Addr) (h7 : Kd.C (Kd.int .i64) w A7 1 [1]) (h8 : Kd.C (Kd.int .i64) w A8 1 [1]) (h9 : Kd.C (Kd.int .i64) w A9 2 [0, 0]) :
    Calls Try.prog 21 #[.agg #[.int .i64 1, .int .i64 16, .int .i64 1, .int .i64 0, .int .i64 0, .int .i64 0, .slice A7 1 1, .slice A8 1 1, .slice A9 2 2]] w fun e w' => ∃ v W, e = .returned v ∧ Kd.R (Kd.fixed k50 W) 50 w' W.heap.size (fun _ => True) v (piecesL fU fT eG (catL (fun _ => fH) 1) (catL (fun _ => eL) 2)) ∧ Below W.heap.size W w' ∧ Below w.heap.size w W :=
  pieces_calls 20 1 16 1 0 0 0 A7 A8 A9 1 1 2 [1] [1] [0, 0] fU fT eG w h7 h8 h9 f_big.1 f_big.2.1 f_big.2.2.1 rfl (fun _ => fH) (fun _ => eL) rfl (by decide) (by decide)
    (fun i hi => by match i, hi with | 0, _ => exact ⟨f_big.2.2.2.1, rfl⟩) (fun i hi => by match i, hi with | 0, _ => exact f_big.2.2.2.2 | 1, _ => exact f_big.2.2.2.2)
theorem read_bad (R : Int × Met) (w : World) (e : Ending) (w' : World) (h0 : R.1 = 41) (h : ReadP R w e w') : e = .returned (.tuple #[.agg zeroM, .int .i64 41]) ∧ Below w.heap.size w w' := by
  obtain ⟨hb, ⟨_, h1⟩ | ⟨h1, _⟩⟩ := h
  · rw [h0] at h1; exact ⟨h1, hb⟩
  · rw [h0] at h1; cases h1
theorem same_z (w : World) : Calls Try.prog 18 #[.agg zeroM, .agg zeroM] w fun e w' => e = .returned (.bool true) ∧ Below w.heap.size w w' :=
  serifref04_Same.calls 20 0 0 0 0 0 0 none 0 [] none 0 [] none 0 [] 0 0 0 0 0 0 none 0 [] none 0 [] none 0 [] true w (Kd.C_nil _ _) (by decide) (Kd.C_nil _ _) (by decide) (Kd.C_nil _ _) (by decide) (Kd.C_nil _ _) (by decide) (Kd.C_nil _ _) (by decide) (Kd.C_nil _ _) (by decide) f_same.1
theorem ints_z (w : World) (A : Option Addr) (h : Kd.C (Kd.int .i64) w A 2 [0, 0]) : Calls Try.prog 22 #[.slice A 2 2, .slice none 0 0] w fun e w' => e = .returned (.bool false) ∧ Drawn0 w w' :=
  serifref02_SameInts.calls 20 A 2 [0, 0] none 0 [] false w h (by decide) (Kd.C_nil _ _) (by decide) f_same.2
theorem C_fix {W w : World} {A : Option Addr} {n : Nat} {xs : List S50} (h : Kd.C k50 W A n xs) (hb : Below W.heap.size W w) : Kd.C (Kd.fixed k50 W) w A n xs :=
  ReadsRow.imp_ h hb (fun _ _ hp => hp)
theorem wrap_small {x : Int} (h0 : -9223372036854775808 ≤ x) (h1 : x < 9223372036854775808) : wrap64 x = x := by
  unfold wrap64
  first | (simp only [IntKind.wrap]; omega) | omega
abbrev mF (p : Nat) : Array Value := #[.int .i64 1, .int .i64 16, .int .i64 1, .int .i64 0, .int .i64 0, .int .i64 0, .slice (some ⟨p, 0, none⟩) 1 1, .slice (some ⟨p + 1, 0, none⟩) 1 1, .slice (some ⟨p + 1 + 1, 0, none⟩) 2 2]
set_option maxRecDepth 100000 in
set_option maxHeartbeats 4000000 in
theorem without_walk (n : Int) (w : World) (hn0 : -9223372036854775808 ≤ n) (hn1 : n ≤ 9223372036854775807) : Calls Try.prog 8 #[.int .i64 n] w fun e w' => e = .returned (.bool true) ∧ Below w.heap.size w w' := by
  have AL := Aside0.mk (malive_calls w)
  go_enter Try.func8, Try.ntmps8
  go_upto_region 3 with (go_at_call 13; refine AL.out.mono ?_; rintro q w1 ⟨rfl, h1⟩; have B1 := Aside0.mk h1; clear h1)
  have MZ := Aside0.mk (m_zero w1 (Obj.cells #[.int .i64 1] 3) (Obj.cells #[.int .i64 1] 3) (Obj.cells #[.int .i64 0, .int .i64 0] 3) (Obj.cells zeroM 37))
  go_upto_region 4 with (refine wpList_store_row rfl 37 (.tmp 3) (.tmp 16) rfl (w1.heap.size + 1 + 1 + 1) (mF w1.heap.size) rfl rfl 37 zeroM MZ.out (by kernel_rfl) rfl (by simp [Value.oneCell']) ?_)
  clear MZ
  obtain ⟨X, g, hX, hg, km, k7, k8, k9, bX⟩ := m_new w1 1 1 0 0 (mF w1.heap.size)
  rw [← hX, hg]
  have P := Aside0.mk (pieces_f X _ _ _ k7 k8 k9)
  have c0 := blk_cell km 0
  have c1 := blk_cell km 1
  have c2 := blk_cell km 2
  have c3 := blk_cell km 3
  have c4 := blk_cell km 4
  have c5 := blk_cell km 5
  have c6 := blk_cell km 6
  have c7 := blk_cell km 7
  have c8 := blk_cell km 8
  have KM := Aside0.mk km
  have K9 := Aside0.mk k9
  have BX := Aside0.mk (below_step B1.out bX)
  have EL := Aside0.mk f_len
  clear hX hg km k7 k8 k9 bX
  go_upto_region 5 with (first | (go_at_call 21; refine P.out.mono ?_; rintro q w5 ⟨v, W, rfl, h1, h2, h3⟩; obtain ⟨A5, l5, rfl⟩ : ∃ A l, v = .slice A 5 l := Kd.R_slice h1; have R5 := Aside0.mk h1; have B5 := Aside0.mk h2; have D5 := Aside0.mk h3; clear h1 h2 h3) | ((with_reducible refine gate_builtin (b := .append) (xs := #[.tmp 18, .tmp 20]) rfl ?_); at_builtin; refine Kd.R_append (Kd.fixed k50 W) (w0 := W) W.heap.size rfl (.tmp 18) (.tmp 20) 46 50 (.agg #[(.string ⟨#[]⟩), (.slice none 0 0)]) 40 rfl Try.underlying46 inf50 rfl (show 0 < 2 by decide) (by omega) (.slice A5 5 l5) (piecesL fU fT eG (catL (fun _ => fH) 1) (catL (fun _ => eL) 2)) glyfP [.string ⟨#[103, 108, 121, 102]⟩, .slice none 0 0] (fun _ => True) (fun _ => False) rfl (by first | (go_simp; done) | (go_simp; rfl)) ?aP (fun _ hk => hk.elim) ?aF ?aO ?aB ?aS ?aL ?_; (case aP => exact k50_mk W glyfP (Nat.le_refl 0) (Kd.C_nil _ _)); (case aF => exact fun _ _ => trivial); (case aO => exact R5.out); (case aB => exact B5.out); (case aS => exact below_size B5.out); (case aL => rw [EL.out.1]; decide); intro v6 w6 k1 k2 k3 k4; obtain ⟨A6, l6, rfl⟩ : ∃ A l, v6 = .slice A 6 l := Kd.R_slice k1; have C6 := Aside0.mk (C_unfix (Kd.R_reads' k1).2.2 k2); have Q6 := Aside0.mk (Kd.R_reads' k1).2.1; have D6 := Aside0.mk (below_step D5.out k2); clear k1 k2 k3 k4) | (go_at_call 20; refine (sorted_at fP 6 A6 l6 w6 EL.out.2.1 EL.out.2.2 (by decide) C6.out Q6.out).mono ?_; rintro q w7 ⟨A7, l7, rfl, h0, h1, h2⟩; have C7 := Aside0.mk h1; have Q7 := Aside0.mk h0; have D7 := Aside0.mk (below_step D6.out h2); clear h0 h1 h2))
  clear C6 Q6 D6 R5 B5 D5 P c0 c1 c2 c3 c4 c5 c6 c7 c8
  by_cases n0 : n < 0
  · go_wp2
    go_ret
    exact ⟨rfl, below_step BX.out D7.out⟩
  by_cases n1 : n ≥ 6
  · go_wp2
    go_ret
    exact ⟨rfl, below_step BX.out D7.out⟩
  obtain ⟨j, rfl⟩ : ∃ j : Nat, n = (j : Int) := ⟨n.toNat, by omega⟩
  have hj : j < 6 := by omega
  have HJ := Aside0.mk hj
  clear hn0 hn1 n0 n1
  go_upto_region 7 with fail
  have jl : (j ≤ l7) = True := eq_true (by have := Q7.out; omega)
  have wv : wrap64 ((j : Int) + 1) = (j : Int) + 1 := wrap_small (by omega) (by omega)
  obtain ⟨V, hV⟩ : ∃ V, wrap64 ((j : Int) + 1) = V := ⟨_, rfl⟩
  have e0 : (0 ≤ V) = True := eq_true (by omega)
  have e6 : (V ≤ 6) = True := eq_true (by omega)
  have eT : V.toNat = j + 1 := by omega
  obtain ⟨A9, hA⟩ : ∃ A9, (if l7 = j + 1 then A7 else Option.map (fun x => x.add ((j + 1) * 2)) A7) = A9 := ⟨_, rfl⟩
  have CT := Aside0.mk (show ∀ w2, Kd.C k50 w2 A7 6 fS → Kd.C k50 w2 A7 j (fS.take j) from fun w2 h => by
    have z := Kd.C_take (m := j) (show Kd.C k50 w2 A7 fS.length fS by rw [EL.out.2.2]; exact h) (by have := EL.out.2.2; omega)
    have l : (fS.take j).length = j := by rw [List.length_take, EL.out.2.2]; omega
    rw [l] at z
    exact z)
  have CD := Aside0.mk (show ∀ w2, Kd.C k50 w2 A7 6 fS → Kd.C k50 w2 A9 (5 - j) (fS.drop (j + 1)) from fun w2 h => by
    have z := Kd.C_drop (m := j + 1) (c := l7) (show Kd.C k50 w2 A7 fS.length fS by rw [EL.out.2.2]; exact h) (by have := EL.out.2.2; omega) (by have := EL.out.2.2; have := Q7.out; omega)
    have l : (fS.drop (j + 1)).length = 5 - j := by rw [List.length_drop, EL.out.2.2]; omega
    rw [l] at z
    rw [← hA]
    exact z)
  clear wv Q7
  refine start_ (n := 11) (S := fun w' => True) (ds := [0, 4, 9]) #[false, false, false, false, false, false, false, false, false, false, false] (by kernel_rfl) rfl rfl trivial (fun hHeld => ?_)
  obtain ⟨w8, hW8, C8, D8⟩ : ∃ w8, w8 = w7.drew ∧ Aside0 (Kd.C k50 w8 A7 6 fS) ∧ Aside0 (Below X.heap.size X w8) := ⟨_, rfl, ⟨Kd.C_below C7.out (below_drew (Below.refl _ _))⟩, ⟨below_drew D7.out⟩⟩
  rw [← hW8]
  clear hW8 C7 D7
  refine pure_ (i := 1) (N := some 32) (v := ?_) (a' := ?_) #[false, true, false, false, false, false, false, false, false, false, false] rfl rfl (by kernel_rfl) (fun _ _ _ h => h) (Or.inl ⟨by rfl, ?_⟩) ?_ ?_
  rotate_left
  · intro w'
    go_simp
    with_reducible rfl
  rotate_left
  · simp only [Act.put, List.setIfInBounds_toArray, List.set_cons_zero, List.set_cons_succ, i64_w, i32_w]
    rfl
  refine pure_ (i := 2) (N := some 33) (v := ?_) (a' := ?_) #[false, true, true, false, false, false, false, false, false, false, false] rfl rfl (by kernel_rfl) (fun _ _ _ h => h) (Or.inl ⟨by rfl, ?_⟩) ?_ ?_
  rotate_left
  · intro w'
    go_simp
    with_reducible rfl
  rotate_left
  · simp only [Act.put, List.setIfInBounds_toArray, List.set_cons_zero, List.set_cons_succ, i64_w, i32_w]
    rfl
  refine pure_ (i := 3) (N := some 34) (v := ?_) (a' := ?_) #[false, true, true, true, false, false, false, false, false, false, false] rfl rfl (by kernel_rfl) (fun _ _ _ h => h) (Or.inl ⟨by rfl, ?_⟩) ?_ ?_
  rotate_left
  · intro w'
    go_simp
    with_reducible rfl
  rotate_left
  · simp only [Act.put, List.setIfInBounds_toArray, List.set_cons_zero, List.set_cons_succ, i64_w, i32_w]
    rfl
  refine pure_ (i := 5) (N := some 36) (v := ?_) (a' := ?_) #[false, true, true, true, false, true, false, false, false, false, false] rfl rfl (by kernel_rfl) (fun _ _ _ h => h) (Or.inl ⟨by rfl, ?_⟩) ?_ ?_
  rotate_left
  · intro w'
    go_simp
    with_reducible rfl
  rotate_left
  · simp only [Act.put, List.setIfInBounds_toArray, List.set_cons_zero, List.set_cons_succ, i64_w, i32_w]
    rfl
  refine pure_ (i := 6) (N := some 37) (v := ?_) (a' := ?_) #[false, true, true, true, false, true, true, false, false, false, false] rfl rfl (by kernel_rfl) (fun _ _ _ h => h) (Or.inl ⟨by rfl, ?_⟩) ?_ ?_
  rotate_left
  · intro w'
    go_simp
    with_reducible rfl
  rotate_left
  · simp only [Act.put, List.setIfInBounds_toArray, List.set_cons_zero, List.set_cons_succ, i64_w, i32_w]
    rfl
  refine pure_ (i := 7) (N := some 38) (v := ?_) (a' := ?_) #[false, true, true, true, false, true, true, true, false, false, false] rfl rfl (by kernel_rfl) (fun _ _ _ h => h) (Or.inl ⟨by rfl, ?_⟩) ?_ ?_
  rotate_left
  · intro w'
    go_simp
    with_reducible rfl
  rotate_left
  · simp only [Act.put, List.setIfInBounds_toArray, List.set_cons_zero, List.set_cons_succ, i64_w, i32_w]
    rfl
  refine pure_ (i := 8) (N := some 39) (v := ?_) (a' := ?_) #[false, true, true, true, false, true, true, true, true, false, false] rfl rfl (by kernel_rfl) (fun _ _ _ h => h) (Or.inl ⟨by rfl, ?_⟩) ?_ ?_
  rotate_left
  · intro w'
    go_simp
    with_reducible rfl
  rotate_left
  · simp only [Act.put, List.setIfInBounds_toArray, List.set_cons_zero, List.set_cons_succ, i64_w, i32_w]
    rfl
  refine last_ (i := 0) (N := some 31) #[true, true, true, true, false, true, true, true, true, false, false] rfl rfl (by kernel_rfl) (by decide) (fun K hK => ?_)
  refine Kd.R_lit_step (Kd.fixed k50 w8) _ 50 (by rfl) (N := 31) rfl (xs := ([] : List S50)) (inner := []) (ok := fun _ => True) (okp := fun _ => True) (by first | rfl | (go_simp; done) | (go_simp; rfl)) (Reps.none _ _) (fun _ hk => hk) trivial (Below.refl _ _) (Nat.le_refl _) (by simp) ?_
  intro v31 w31 k1 k2 k3 k4
  have R31 := Aside0.mk k1
  have D31 := Aside0.mk k2
  clear k1 k2 k3 k4
  refine hK.out _ _ ?_
  clear hK K
  refine norm_ (a' := ?_) ?_ ?_
  rotate_left
  · show Act.put _ (some 31) _ = _
    simp only [Act.put, List.setIfInBounds_toArray, List.set_cons_zero, List.set_cons_succ, i64_w, i32_w]
    rfl
  refine last_ (i := 4) (N := some 35) #[true, true, true, true, true, true, true, true, true, false, false] rfl rfl (by kernel_rfl) (by decide) (fun K hK => ?_)
  refine Kd.R_append_rows_step (Kd.fixed k50 w8) (Rr := k50.K w8) (w0 := w8) w8.heap.size (by rfl) (.tmp 31) (.tmp 34) 46 50 (.agg #[(.string ⟨#[]⟩), (.slice none 0 0)]) 40 rfl Try.underlying46 inf50 rfl (show 0 < 2 by decide) (by omega) v31 [] (fS.take j) A7 j l7 (fun _ => True) (fun _ => False) rfl rfl R31.out (C_fix (CT.out w8 C8.out) D31.out) (fun _ _ h => h) (fun _ h => h.elim) (fun _ _ => trivial) D31.out (below_size D31.out) (by simp only [List.length_nil]; omega) ?_
  intro v35 w35 k1 k2 k3 k4
  have R35 := Aside0.mk k1
  have D35 := Aside0.mk k2
  clear k1 k2 k3 k4
  refine hK.out _ _ ?_
  clear hK K
  refine norm_ (a' := ?_) ?_ ?_
  rotate_left
  · show Act.put _ (some 35) _ = _
    simp only [Act.put, List.setIfInBounds_toArray, List.set_cons_zero, List.set_cons_succ, i64_w, i32_w]
    rfl
  refine last_ (i := 9) (N := some 40) #[true, true, true, true, true, true, true, true, true, true, false] rfl rfl (by kernel_rfl) (by decide) (fun K hK => ?_)
  refine Kd.R_append_rows_step (Kd.fixed k50 w8) (Rr := k50.K w8) (w0 := w8) w8.heap.size (by rfl) (.tmp 35) (.tmp 39) 46 50 (.agg #[(.string ⟨#[]⟩), (.slice none 0 0)]) 40 rfl Try.underlying46 inf50 rfl (show 0 < 2 by decide) (by omega) v35 (fS.take j) (fS.drop (j + 1)) A9 (5 - j) (l7 - (j + 1)) (fun _ => True) (fun _ => False) rfl rfl R35.out (C_fix (CD.out w8 C8.out) D35.out) (fun _ _ h => h) (fun _ h => h.elim) (fun _ _ => trivial) D35.out (below_size D35.out) (by rw [List.length_take]; omega) ?_
  intro v40 w40 k1 k2 k3 k4
  obtain ⟨A40, l40, e40⟩ : ∃ A l, v40 = .slice A (fL j).length l := Kd.R_slice k1
  subst e40
  have C40 := Aside0.mk (C_unfix (Kd.R_reads' k1).2.2 k2)
  have Q40 := Aside0.mk (Kd.R_reads' k1).2.1
  have D40 := Aside0.mk (below_step D8.out k2)
  clear k1 k2 k3 k4
  refine hK.out _ _ ?_
  clear hK K
  refine norm_ (a' := ?_) ?_ ?_
  rotate_left
  · show Act.put _ (some 40) _ = _
    simp only [Act.put, List.setIfInBounds_toArray, List.set_cons_zero, List.set_cons_succ, i64_w, i32_w]
    rfl
  refine pure_ (i := 10) (N := some 5) (v := ?_) (a' := ?_) #[true, true, true, true, true, true, true, true, true, true, true] rfl rfl (by kernel_rfl) (fun _ _ _ h => h) (Or.inl ⟨by rfl, ?_⟩) ?_ ?_
  rotate_left
  · intro w'
    go_simp
    with_reducible rfl
  rotate_left
  · simp only [Act.put, List.setIfInBounds_toArray, List.set_cons_zero, List.set_cons_succ, i64_w, i32_w]
    rfl
  refine done_ (by kernel_rfl) ?_

  clear jl hV e0 e6 eT hA CT CD R31 D31 R35 D35 C8 D8
  have FB := Aside0.mk (f_build j hj)
  have FO := Aside0.mk (f_ok j hj)
  have F0 := Aside0.mk (f_open j hj)
  have FR := Aside0.mk (f_read j hj)
  clear hj
  go_upto_region 9 with (go_at_call 19; refine (build_at 400 1 (fL j) (fL j).length A40 l40 (fB j) w40 rfl C40.out Q40.out FB.out).mono ?_; rintro q w41 ⟨A41, l41, rfl, h0, h1, h2⟩; have C41 := Aside0.mk h1; have Q41 := Aside0.mk h0; have D41 := Aside0.mk (below_step D40.out h2); clear h0 h1 h2)
  clear C40 Q40 D40
  go_upto_region 10 with (go_at_call 15; refine (open_at (fB j) A41 l41 w41 F0.out C41.out Q41.out FO.out).mono ?_; rintro q w42 ⟨gF, rfl, h1, h2⟩; have F9 := Aside0.mk h1; have D42 := Aside0.mk (below_step D41.out h2); clear h1 h2)
  clear C41 Q41 D41
  have RD := Aside0.mk (show ∀ w2, Fn w2 gF (openV (fB j) 0).1.1 (openV (fB j) 0).1.2 (fB j) → Calls Try.prog 17 #[.pointer (some ⟨gF, 0, none⟩)] w2 (ReadP (readV (fB j) (openV (fB j) 0).1.1 (openV (fB j) 0).1.2) w2) from fun w2 h => read_calls (fB j) FO.out gF _ _ w2 h)
  go_upto_region 12 with fail
  go_upto_region 13 with (first | (go_at_call 17; refine (RD.out w42 F9.out).mono ?_; intro q w43 h; obtain ⟨rfl, h1⟩ := read_bad _ w42 q w43 FR.out h; have D43 := Aside0.mk (below_step D42.out h1); have MZ := Aside0.mk (blk_new w43 (Obj.cells zeroM 37)); clear h h1) | (refine wpList_store_row rfl 37 (.tmp 10) (.tmp 64) rfl w43.heap.size zeroM rfl rfl 37 zeroM MZ.out (by kernel_rfl) rfl (by simp [Value.oneCell']) ?_))
  clear MZ RD F9 D42
  obtain ⟨Y, gm, hY, hgm, km, bY⟩ := m_read w43 zeroM
  rw [← hY, hgm]
  have bX := below_step D43.out bY
  have k2 := (bX.block _ (blk_lt KM.out)).trans KM.out
  have k9 := Kd.C_below K9.out bX
  have c8 := blk_cell k2 8
  have d0 := blk_cell km 0
  have d1 := blk_cell km 1
  have d2 := blk_cell km 2
  have d3 := blk_cell km 3
  have d4 := blk_cell km 4
  have d5 := blk_cell km 5
  have d6 := blk_cell km 6
  have d7 := blk_cell km 7
  have d8 := blk_cell km 8
  have DY := Aside0.mk (below_step BX.out bX)
  have SE := Aside0.mk (same_z Y)
  have KY := Aside0.mk k2
  have K9Y := Aside0.mk k9
  clear hY hgm km bY k2 bX k9 K9 KM D43 BX
  go_wp2_with (first | (go_at_call 22; refine (ints_z w45 _ K9Z.out).mono ?_; rintro q w46 ⟨rfl, h1⟩; have D46 := Aside0.mk (below_step D45.out h1.below); clear h1) | (go_at_call 18; refine SE.out.mono ?_; rintro q w45 ⟨rfl, h1⟩; have D45 := Aside0.mk (below_step DY.out h1); have K9Z := Aside0.mk (Kd.C_below K9Y.out h1); have e8 := pw_cell_below h1 c8; clear h1))
  go_ret
  exact ⟨rfl, D46.out⟩
end Go.Proofs.Ytonljpciadeafaa.S
