/- glyf: a glyph of one contour out of a table. Written by rk/gengf.py. -/
import Derived.Test.YtchmhcfdamdjdaaGfTG
set_option linter.unusedVariables false
set_option linter.unusedSimpArgs false
namespace Go.Proofs.Ytchmhcfdamdjdaa.G
open Go Go.RowKit Go.Proofs.YtchmhcfdamdjdaaW.PrintWords Go.Proofs.YtchmhcfdamdjdaaW.PrintLast Go.Proofs.YtchmhcfdamdjdaaW.PrintMore

/-- The decoder: the table's view, the places, the parts so far. -/
structure Dc (w : World) (dk gv : Nat) (bs : List Int) (AP : Option Addr) (cP : Nat) (ps : List Int) (k : Int) : Prop where
  bk : w.heap[dk]? = some (.cells #[.pointer (some ⟨gv, 0, none⟩), .slice AP ps.length cP, .int .i64 k] 74 (0, 0))
  vw : Vw w gv bs
  pl : Kd.C (Kd.int .i64) w AP ps.length ps
theorem Dc.below {w w' : World} {dk gv : Nat} {bs : List Int} {AP : Option Addr} {cP : Nat} {ps : List Int} {k : Int} (h : Dc w dk gv bs AP cP ps k) (hb : Below w.heap.size w w') : Dc w' dk gv bs AP cP ps k :=
  ⟨(hb.block _ (blk_lt h.bk)).trans h.bk, h.vw.below hb, Kd.C_below h.pl hb⟩
theorem res34 (tmps : Array Value) (r : Nat) (v0 v1 : Value) (w : World) (h4 : tmps[6]?.getD undef = .pointer (some ⟨r, 0, none⟩)) (hm : w.heap[r]? = some (.cells #[v0, v1] 29 (0, 0))) : (results Try.f34 tmps).run Try.prog w = .ok (.agg #[v0, v1]) w := by
  have m0 := blk_cell hm 0
  have m1 := blk_cell hm 1
  clear hm
  simp [results, Try.results34, go_sem, h4, m0, m1]
set_option maxRecDepth 100000 in
set_option maxHeartbeats 4000000 in
theorem glyph_one (bs : List Int) (ho : okB bs) (hl : bs.length ≤ 1048576) (dk gv : Nat) (AP : Option Addr) (cP : Nat) (ps : List Int) (k : Int) (i : Nat) (w : World) (h : Dc w dk gv bs AP cP ps k) (hi : i + 1 < ps.length) (h0 : 0 ≤ rd ps i) (h1 : rd ps i < rd ps (i + 1 : Nat)) (h2 : rd ps (i + 1 : Nat) ≤ bs.length) (hps : ps.length ≤ 1048576)
    (L : List Int) (hL : (bs.take (rd ps (i + 1 : Nat)).toNat).drop (rd ps i).toNat = L) (hn : u2 L 0 = 1) (e lc : Nat) (he : u2 L 10 = e) (hc : u2 L 12 = lc) (h3 : e < 4096) (h4 : (10 : Int) + 4 + lc + 5 * (e + 1) ≤ L.length) (hz : ∀ j : Nat, j < e + 1 → rd L (10 + 4 + lc + j) = 0 ∨ rd L (10 + 4 + lc + j) = 1) :
    Calls Try.prog 34 #[.pointer (some ⟨dk, 0, none⟩), .int .i64 i, .int .i64 1] w fun q w' => ∃ AO cO AC cC, q = .returned (.agg #[.slice AO 1 cO, .slice AC lc cC]) ∧ Below w.heap.size w w' ∧
      GlyP AO cO AC cC [knotsB L (10 + 4 + lc) (10 + 4 + lc + (e + 1)) (10 + 4 + lc + (e + 1) + 2 * (e + 1)) (e + 1) (e + 1)] ((L.take (10 + 4 + (lc : Int)).toNat).drop (10 + 4 : Int).toNat) w.heap.size w' := by
  have H := Aside0.mk h
  obtain ⟨a, ha⟩ : ∃ a, rd ps i = a := ⟨_, rfl⟩
  obtain ⟨b, hb⟩ : ∃ b, rd ps (i + 1 : Nat) = b := ⟨_, rfl⟩
  rw [ha] at h0 h1 hL
  rw [hb] at h1 h2 hL
  have oL : okB L := by rw [← hL]; exact fun x hx => ho x (List.mem_of_mem_take (List.mem_of_mem_drop hx))
  have lL : (L.length : Int) = b - a := by rw [← hL, List.length_drop, List.length_take]; omega
  have LL := Aside0.mk lL
  have CU := Aside0.mk (fun (W : World) (hv : Vw W gv bs) => (by have z := cut_good bs gv a (b - a) W hv (by rw [part_in h0 (by omega) (by omega)]); rw [part_in h0 (by omega) (by omega), show a + (b - a) = b by omega, hL] at z; exact z : Calls Try.prog 39 #[.pointer (some ⟨gv, 0, none⟩), .int .i64 a, .int .i64 (b - a)] W fun q w' => ∃ g', W.heap.size ≤ g' ∧ q = .returned (.tuple #[.pointer (some ⟨g', 0, none⟩), .int .i64 0]) ∧ Vw w' g' L ∧ Below W.heap.size W w'))
  have I0 := Aside0.mk (fun (W : World) (g' gq : Nat) (k : Rd W 86 g' gq L 0) => (by have z := gi16_calls L oL g' gq 0 W k (by omega) (by omega) (by omega); rw [hn] at z; exact z : Calls Try.prog 41 #[.pointer (some ⟨g', 0, none⟩)] W fun q w' => q = .returned (.int .i64 1) ∧ On W 86 g' gq L 2 w'))
  have I1 := Aside0.mk (fun (W : World) (g' gq : Nat) (k : Rd W 86 g' gq L 2) => (gbytes_calls L oL g' gq 2 8 W k (by omega) (by omega) (by omega) (by omega) : Calls Try.prog 42 #[.pointer (some ⟨g', 0, none⟩), .int .i64 8] W _))
  have I2 := Aside0.mk (fun (W : World) (g' gq : Nat) (k : Rd W 86 g' gq L 10) => simple_calls L oL g' gq 10 W k (by omega) e lc he hc h3 h4 hz (by omega))
  obtain ⟨adp, ep, xa⟩ := Kd.at_int h.pl (i : Int) (by omega) (by omega)
  obtain ⟨adq, eq_, xb⟩ := Kd.at_int h.pl ((i + 1 : Nat) : Int) (by omega) (by omega)
  rw [ep] at eq_
  injection eq_ with eq_
  subst eq_
  rw [Int.toNat_natCast, ha] at xa
  rw [Int.toNat_natCast, hb] at xb
  subst ep
  have XA := Aside0.mk xa
  have XB := Aside0.mk xb
  have i0 := eq_true (show (0 : Int) ≤ (i : Int) by omega)
  have i1 := eq_true (show (i : Int) < (ps.length : Int) - 1 by omega)
  have i2 := eq_true (show (i : Int) < (ps.length : Int) by omega)
  have i3 := eq_true (show i < ps.length by omega)
  have i4 := eq_true (show (i : Int) + 1 < (ps.length : Int) by omega)
  have i5 := eq_true (show i + 1 < ps.length by omega)
  have iw : (i : Int) + 1 ≤ 9223372036854775807 := by omega
  have pw : -9223372036854775808 ≤ (ps.length : Int) - 1 := by omega
  have pw2 : (ps.length : Int) - 1 ≤ 9223372036854775807 := by omega
  have a0 := eq_true h0
  have a1 := eq_true (show a ≤ b by omega)
  have bw : b - a ≤ 9223372036854775807 := by omega
  have bw2 : -9223372036854775808 ≤ b - a := by omega
  have l0 : ((L.length : Int) == 0) = false := beq_eq_false_iff_ne.2 (by omega)
  have l1 := eq_false (show ¬ (L.length : Int) = 0 by omega)
  have l2 := eq_false (show ¬ L.length = 0 by omega)
  have l3 := eq_false (show ¬ L = [] by intro z; rw [z] at lL; simp at lL; omega)
  clear hn he hc hz ho oL ha hb hL h hi hps xa xb h0 h1 h2 h3 h4 hl lL
  go_enter Try.func34, Try.ntmps34
  go_upto_region 1 with fail
  obtain ⟨w1, r, hX, er, kr, b1⟩ : ∃ X r, X = w.alloc (Obj.cells zeroG 29) ∧ w.heap.size = r ∧ X.heap[r]? = some (Obj.cells zeroG 29 (0, 0)) ∧ Below w.heap.size w X := ⟨_, _, rfl, rfl, blk_new _ _, below_alloc (Below.refl _ _) _⟩
  rw [← hX, er]
  have KR := Aside0.mk kr
  have B1 := Aside0.mk b1
  have D1 := Aside0.mk (H.out.below b1)
  have RR := Aside0.mk (show w.heap.size ≤ r by omega)
  have xa := pw_cell_below b1 XA.out
  have xb := pw_cell_below b1 XB.out
  clear hX er kr b1
  have d0 := blk_cell D1.out.bk 0
  have d1 : w1.cell? ⟨dk, 1, none⟩ = some (.slice (some adp) ps.length cP) := (blk_cell D1.out.bk 1).trans rfl
  go_upto_region 3 with (go_at_call 38; refine (gmust_ok _ _).mono ?_; rintro q w2 ⟨rfl, rfl⟩)
  have wx : wrap64 ((i : Int) + 1) = (i : Int) + 1 := wrap_id (by omega) (by omega)
  have i6 := eq_true (show (0 : Int) ≤ (i : Int) + 1 by omega)
  have i7 : ((i : Int) + 1).toNat = i + 1 := by omega
  have xb : w2.cell? ⟨adp.block, adp.off + (i + 1), none⟩ = some (.int .i64 b) := by
    have z := xb
    unfold Addr.add at z
    rwa [if_neg (by omega)] at z
  refine start_ (n := 17) (S := fun w' => w'.cell? ⟨dk, 1, none⟩ = some (.slice (some adp) ps.length cP) ∧ w'.cell? (adp.add i) = some (.int .i64 a) ∧ w'.cell? ⟨adp.block, adp.off + (i + 1), none⟩ = some (.int .i64 b)) (ds := []) #[false, false, false, false, false, false, false, false, false, false, false, false, false, false, false, false, false] (by kernel_rfl) rfl rfl ⟨d1, xa, xb⟩ (fun hHeld => ?_)
  refine pure_ (i := 0) (N := some 31) (v := ?_) (a' := ?_) #[true, false, false, false, false, false, false, false, false, false, false, false, false, false, false, false, false] rfl rfl (by kernel_rfl) (fun _ _ _ h => h) (Or.inl ⟨by rfl, ?_⟩) ?_ ?_
  rotate_left
  · intro w'
    go_simp
    with_reducible rfl
  rotate_left
  · simp only [Act.put, List.setIfInBounds_toArray, List.set_cons_zero, List.set_cons_succ, i64_w, i32_w]
    rfl
  refine pure_ (i := 1) (N := some 32) (v := ?_) (a' := ?_) #[true, true, false, false, false, false, false, false, false, false, false, false, false, false, false, false, false] rfl rfl (by kernel_rfl) (fun _ _ _ h => h) (Or.inl ⟨by rfl, ?_⟩) ?_ ?_
  rotate_left
  · intro w'
    go_simp
    with_reducible rfl
  rotate_left
  · simp only [Act.put, List.setIfInBounds_toArray, List.set_cons_zero, List.set_cons_succ, i64_w, i32_w]
    rfl
  refine pure_ (i := 2) (N := some 33) (v := ?_) (a' := ?_) #[true, true, true, false, false, false, false, false, false, false, false, false, false, false, false, false, false] rfl rfl (by kernel_rfl) (fun _ _ _ h => h) (Or.inl ⟨by rfl, ?_⟩) ?_ ?_
  rotate_left
  · intro w'
    go_simp
    with_reducible rfl
  rotate_left
  · simp only [Act.put, List.setIfInBounds_toArray, List.set_cons_zero, List.set_cons_succ, i64_w, i32_w]
    rfl
  refine pure_ (i := 4) (N := some 35) (v := ?_) (a' := ?_) #[true, true, true, false, true, false, false, false, false, false, false, false, false, false, false, false, false] rfl rfl (by kernel_rfl) (fun _ _ _ h => h) (Or.inl ⟨by rfl, ?_⟩) ?_ ?_
  rotate_left
  · intro w'
    go_simp
    with_reducible rfl
  rotate_left
  · simp only [Act.put, List.setIfInBounds_toArray, List.set_cons_zero, List.set_cons_succ, i64_w, i32_w]
    rfl
  refine pure_ (i := 7) (N := some 38) (v := ?_) (a' := ?_) #[true, true, true, false, true, false, false, true, false, false, false, false, false, false, false, false, false] rfl rfl (by kernel_rfl) (fun _ _ _ h => h) (Or.inl ⟨by rfl, ?_⟩) ?_ ?_
  rotate_left
  · intro w'
    go_simp
    with_reducible rfl
  rotate_left
  · simp only [Act.put, List.setIfInBounds_toArray, List.set_cons_zero, List.set_cons_succ, i64_w, i32_w]
    rfl
  refine pure_ (i := 8) (N := some 39) (v := ?_) (a' := ?_) #[true, true, true, false, true, false, false, true, true, false, false, false, false, false, false, false, false] rfl rfl (by kernel_rfl) (fun _ _ _ h => h) (Or.inl ⟨by rfl, ?_⟩) ?_ ?_
  rotate_left
  · intro w'
    go_simp
    with_reducible rfl
  rotate_left
  · simp only [Act.put, List.setIfInBounds_toArray, List.set_cons_zero, List.set_cons_succ, i64_w, i32_w]
    rfl
  refine pure_ (i := 9) (N := some 40) (v := ?_) (a' := ?_) #[true, true, true, false, true, false, false, true, true, true, false, false, false, false, false, false, false] rfl rfl (by kernel_rfl) (fun _ _ _ h => h) (Or.inl ⟨by rfl, ?_⟩) ?_ ?_
  rotate_left
  · intro w'
    go_simp
    with_reducible rfl
  rotate_left
  · simp only [Act.put, List.setIfInBounds_toArray, List.set_cons_zero, List.set_cons_succ, i64_w, i32_w]
    rfl
  refine pure_ (i := 11) (N := some 42) (v := ?_) (a' := ?_) #[true, true, true, false, true, false, false, true, true, true, false, true, false, false, false, false, false] rfl rfl (by kernel_rfl) (fun _ _ _ h => h) (Or.inl ⟨by rfl, ?_⟩) ?_ ?_
  rotate_left
  · intro w'
    go_simp
    with_reducible rfl
  rotate_left
  · simp only [Act.put, List.setIfInBounds_toArray, List.set_cons_zero, List.set_cons_succ, i64_w, i32_w]
    rfl
  refine pure_ (i := 12) (N := some 43) (v := ?_) (a' := ?_) #[true, true, true, false, true, false, false, true, true, true, false, true, true, false, false, false, false] rfl rfl (by kernel_rfl) (fun _ _ _ h => h) (Or.inl ⟨by rfl, ?_⟩) ?_ ?_
  rotate_left
  · intro w'
    go_simp
    with_reducible rfl
  rotate_left
  · simp only [Act.put, List.setIfInBounds_toArray, List.set_cons_zero, List.set_cons_succ, i64_w, i32_w]
    rfl
  refine take_ (i := 3) (N := some 34) (v := ?_) (a' := ?_) #[true, true, true, true, true, false, false, true, true, true, false, true, true, false, false, false, false] rfl rfl (by kernel_rfl) (fun _ _ _ h => h) (Or.inl ⟨by rfl, ?_⟩) hHeld ?_ ?_
  rotate_left
  · rintro w' ⟨s0, s1, s2⟩
    go_simp
    with_reducible rfl
  rotate_left
  · simp only [Act.put, List.setIfInBounds_toArray, List.set_cons_zero, List.set_cons_succ, i64_w, i32_w]
    rfl
  refine pure_ (i := 5) (N := some 36) (v := ?_) (a' := ?_) #[true, true, true, true, true, true, false, true, true, true, false, true, true, false, false, false, false] rfl rfl (by kernel_rfl) (fun _ _ _ h => h) (Or.inl ⟨by rfl, ?_⟩) ?_ ?_
  rotate_left
  · intro w'
    go_simp
    with_reducible rfl
  rotate_left
  · simp only [Act.put, List.setIfInBounds_toArray, List.set_cons_zero, List.set_cons_succ, i64_w, i32_w]
    rfl
  refine take_ (i := 6) (N := some 37) (v := ?_) (a' := ?_) #[true, true, true, true, true, true, true, true, true, true, false, true, true, false, false, false, false] rfl rfl (by kernel_rfl) (fun _ _ _ h => h) (Or.inl ⟨by rfl, ?_⟩) hHeld ?_ ?_
  rotate_left
  · rintro w' ⟨s0, s1, s2⟩
    go_simp
    with_reducible rfl
  rotate_left
  · simp only [Act.put, List.setIfInBounds_toArray, List.set_cons_zero, List.set_cons_succ, i64_w, i32_w]
    rfl
  refine pure_ (i := 15) (N := some 7) (v := ?_) (a' := ?_) #[true, true, true, true, true, true, true, true, true, true, false, true, true, false, false, true, false] rfl rfl (by kernel_rfl) (fun _ _ _ h => h) (Or.inl ⟨by rfl, ?_⟩) ?_ ?_
  rotate_left
  · intro w'
    go_simp
    with_reducible rfl
  rotate_left
  · simp only [Act.put, List.setIfInBounds_toArray, List.set_cons_zero, List.set_cons_succ, i64_w, i32_w]
    rfl
  refine take_ (i := 10) (N := some 41) (v := ?_) (a' := ?_) #[true, true, true, true, true, true, true, true, true, true, true, true, true, false, false, true, false] rfl rfl (by kernel_rfl) (fun _ _ _ h => h) (Or.inl ⟨by rfl, ?_⟩) hHeld ?_ ?_
  rotate_left
  · rintro w' ⟨s0, s1, s2⟩
    go_simp
    with_reducible rfl
  rotate_left
  · simp only [Act.put, List.setIfInBounds_toArray, List.set_cons_zero, List.set_cons_succ, i64_w, i32_w]
    rfl
  refine pure_ (i := 13) (N := some 44) (v := ?_) (a' := ?_) #[true, true, true, true, true, true, true, true, true, true, true, true, true, true, false, true, false] rfl rfl (by kernel_rfl) (fun _ _ _ h => h) (Or.inl ⟨by rfl, ?_⟩) ?_ ?_
  rotate_left
  · intro w'
    go_simp
    with_reducible rfl
  rotate_left
  · simp only [Act.put, List.setIfInBounds_toArray, List.set_cons_zero, List.set_cons_succ, i64_w, i32_w]
    rfl
  refine take_ (i := 14) (N := some 45) (v := ?_) (a' := ?_) #[true, true, true, true, true, true, true, true, true, true, true, true, true, true, true, true, false] rfl rfl (by kernel_rfl) (fun _ _ _ h => h) (Or.inl ⟨by rfl, ?_⟩) hHeld ?_ ?_
  rotate_left
  · rintro w' ⟨s0, s1, s2⟩
    go_simp
    with_reducible rfl
  rotate_left
  · simp only [Act.put, List.setIfInBounds_toArray, List.set_cons_zero, List.set_cons_succ, i64_w, i32_w]
    rfl
  refine pure_ (i := 16) (N := some 8) (v := ?_) (a' := ?_) #[true, true, true, true, true, true, true, true, true, true, true, true, true, true, true, true, true] rfl rfl (by kernel_rfl) (fun _ _ _ h => h) (Or.inl ⟨by rfl, ?_⟩) ?_ ?_
  rotate_left
  · intro w'
    go_simp
    with_reducible rfl
  rotate_left
  · simp only [Act.put, List.setIfInBounds_toArray, List.set_cons_zero, List.set_cons_succ, i64_w, i32_w]
    rfl
  refine done_ (by kernel_rfl) ?_

  obtain ⟨w3, hX, D3, K3, B3⟩ : ∃ W, W = w2.drew ∧ Aside0 (Dc W dk gv bs (some adp) cP ps k) ∧ Aside0 (W.heap[r]? = some (Obj.cells zeroG 29 (0, 0))) ∧ Aside0 (Below w.heap.size w W) := ⟨_, rfl, ⟨D1.out.below (below_drew (Below.refl _ _))⟩, ⟨blk_drew KR.out⟩, ⟨below_drew B1.out⟩⟩
  rw [← hX]
  clear hX wx i6 i7 d0 d1 xa xb D1 KR B1 XA XB
  have d0 : w3.cell? ⟨dk, 0, none⟩ = some (.pointer (some ⟨gv, 0, none⟩)) := (blk_cell D3.out.bk 0).trans rfl
  go_upto_region 9 with (first | (go_at_call 38; refine (gmust_ok _ _).mono ?_; rintro q w9 ⟨rfl, rfl⟩) | (go_at_call 39; refine (CU.out _ D3.out.vw).mono ?_; rintro q w4 ⟨gq, k1, rfl, k2, k3⟩; have V4 := Aside0.mk k2; have K4 := Aside0.mk ((k3.block _ (blk_lt K3.out)).trans K3.out); have B4 := Aside0.mk (below_step B3.out k3); clear k1 k2 k3) | (go_at_call 40; refine (len_calls L gq _ V4.out).mono ?_; rintro q w5 ⟨rfl, k3⟩; have V5 := Aside0.mk (V4.out.below k3); have K5 := Aside0.mk ((k3.block _ (blk_lt K4.out)).trans K4.out); have B5 := Aside0.mk (below_step B4.out k3); clear k3))
  clear d0 D3 K3 B3 V4 K4 B4
  go_upto_region 10 with fail
  obtain ⟨w6, g, hX, eg, kg, b6⟩ : ∃ X g, X = w5.alloc (Obj.cells #[.pointer (some ⟨gq, 0, none⟩), .int .i64 0] 86) ∧ w5.heap.size = g ∧ X.heap[g]? = some (Obj.cells #[.pointer (some ⟨gq, 0, none⟩), .int .i64 0] 86 (0, 0)) ∧ Below w5.heap.size w5 X := ⟨_, _, rfl, rfl, blk_new _ _, below_alloc (Below.refl _ _) _⟩
  rw [← hX, eg]
  have R6 := Aside0.mk (show Rd w6 86 g gq L 0 from ⟨kg, V5.out.below b6⟩)
  have K6 := Aside0.mk ((b6.block _ (blk_lt K5.out)).trans K5.out)
  have B6 := Aside0.mk (below_step B5.out b6)
  have G6 := Aside0.mk (show w.heap.size ≤ g ∧ r ≠ g by have := below_size B5.out; have := blk_lt K5.out; omega)
  clear hX eg kg b6 V5 K5 B5
  go_upto_region 13 with (first | (go_at_call 41; refine (I0.out w6 g gq R6.out).mono ?_; rintro q w7 ⟨rfl, k1⟩; have O7 := Aside0.mk k1; clear k1) | (go_at_call 42; refine (I1.out w7 g gq O7.out.rd).mono ?_; rintro q w8 ⟨v8, rfl, _, k1⟩; have O8 := Aside0.mk (O7.out.trans k1); clear k1))
  have O8' := Aside0.mk (show Rd w8 86 g gq L 10 from O8.out.rd)
  have K8 := Aside0.mk (blk_grown K6.out O8.out.gr (fun z => by injection z with z; exact G6.out.2 z))
  have B8 := Aside0.mk (B6.out.grown O8.out.gr (below_size B6.out) (fun k hk => by injection hk with hk; rw [← hk]; exact G6.out.1))
  clear O7 O8 K6 B6
  go_wp2_with (first | (go_at_call 43; refine (I2.out w8 g gq O8'.out).mono ?_; rintro q w10 ⟨AO, cO, AC, cC, rfl, k1, k2⟩; have P10 := Aside0.mk k2; have K10 := Aside0.mk (blk_grown K8.out k1 (fun z => by injection z with z; exact G6.out.2 z)); have B10 := Aside0.mk (B8.out.grown k1 (below_size B8.out) (fun k hk => by injection hk with hk; rw [← hk]; exact G6.out.1)); clear k1 k2) | (refine wpList_store_row rfl 29 (.tmp 6) (.tmp 84) rfl r #[.slice AO 1 cO, .slice AC lc cC] rfl rfl 29 zeroG K10.out (by kernel_rfl) rfl (by simp [Value.oneCell']) ?_))
  refine bodyPost_ret (res34 _ r (.slice AO 1 cO) (.slice AC lc cC) _ rfl (setRow_heap _ _ _ _ _ _ K10.out)) rfl ?_
  exact ⟨AO, cO, AC, cC, rfl, below_setRow1 B10.out RR.out _, (P10.out.setrow (blk_lt K8.out)).lower (below_size B8.out)⟩
end Go.Proofs.Ytchmhcfdamdjdaa.G
