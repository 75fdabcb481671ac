/- MetricBack: the walk. -/
import Derived.Test.YtonljpciadeafaaSx0
import Derived.Test.YtonljpciadeafaaSx40
import Derived.Test.YtonljpciadeafaaMtVS
set_option linter.unusedVariables false
set_option linter.unusedSimpArgs false
namespace Go.Proofs.Ytonljpciadeafaa.S
open Go Go.RowKit Go.Proofs.YtonljpciadeafaaW.PrintWords Go.Proofs.YtonljpciadeafaaW.PrintLast Go.Proofs.YtonljpciadeafaaW.PrintMore

theorem bP_len (u2 t6 g2 hm : List Int) : (piecesL u2 t6 g2 hm []).length = 4 ∧ (bP u2 t6 g2 hm).length = 5 ∧ (sortP (bP u2 t6 g2 hm)).length = 5 := by
  refine ⟨?_, ?_, by rw [bS_eq]; rfl⟩
  · unfold piecesL
    rw [if_pos rfl]
    rfl
  · unfold bP piecesL
    rw [if_pos rfl]
    rfl
theorem pieces_b {u a d g : Int} {adv bear : List Int} (h : Lim u a d g adv bear) (w : World) (A7 A8 A9 : Option Addr) (c7 c8 c9 : Nat) (h7 : Kd.C (Kd.int .i64) w A7 adv.length adv) (h8 : Kd.C (Kd.int .i64) w A8 bear.length bear) :
    Calls Try.prog 21 #[.agg (met9 2 u (adv.length : Int) a d g A7 A8 A9 adv.length c7 bear.length c8 0 c9)] w fun e w' => ∃ v W, e = .returned v ∧ Kd.R (Kd.fixed k50 W) 50 w' W.heap.size (fun _ => True) v (piecesL (w2 u) (s2 a ++ s2 d ++ s2 g) (w2 (adv.length : Int)) (catL (twL adv bear) adv.length) []) ∧ Below W.heap.size W w' ∧ Below w.heap.size w W := by
  have u0 := h.u0
  have u1 := h.u1
  have n0 := h.n0
  have n1 := h.n1
  have a0 := h.a0
  have a1 := h.a1
  have d0 := h.d0
  have d1 := h.d1
  have g0 := h.g0
  have g1 := h.g1
  have h9 : Kd.C (Kd.int .i64) w A9 ([] : List Int).length [] := ⟨rfl, by decide, fun hn => absurd hn (Nat.lt_irrefl 0)⟩
  have q := pieces_calls 20 2 u (adv.length : Int) a d g A7 A8 A9 c7 c8 c9 adv bear [] (w2 u) (s2 a ++ s2 d ++ s2 g) (w2 (adv.length : Int)) w h7 h8 h9 (big2 17 u (by omega) (by omega)) (two3 13 a d g a0 (by omega) d0 (by omega) g0 (by omega)) (big2 17 _ (by omega) (by omega)) rfl (twL adv bear) (fun _ => []) h.lb (by omega) (by decide)
    (fun i hi => ⟨by have v := h.va i hi; exact two2 14 _ _ (by omega) (by omega) (by omega) (by omega), rfl⟩) (fun i hi => absurd hi (Nat.not_lt_zero _))
  exact q
theorem rd3 (a d g : Int) (j : Nat) (hj : j < 3) : rd [a, d, g] (j : Int) = a ∨ rd [a, d, g] (j : Int) = d ∨ rd [a, d, g] (j : Int) = g := by
  match j, hj with
  | 0, _ => exact Or.inl rfl
  | 1, _ => exact Or.inr (Or.inl rfl)
  | 2, _ => exact Or.inr (Or.inr rfl)
set_option maxRecDepth 100000 in
set_option maxHeartbeats 4000000 in
theorem back_walk (kd u n a d gp : Int) (A7 A8 A9 : Option Addr) (c7 c8 c9 : Nat) (adv bear pl : List Int) (w : World) (h7 : Kd.C (Kd.int .i64) w A7 adv.length adv) (h8 : Kd.C (Kd.int .i64) w A8 bear.length bear) (h9 : Kd.C (Kd.int .i64) w A9 pl.length pl) (l7 : adv.length ≤ c7) (l8 : bear.length ≤ c8) (l9 : pl.length ≤ c9) :
    Calls Try.prog 7 #[.agg (met9 kd u n a d gp A7 A8 A9 adv.length c7 bear.length c8 pl.length c9)] w fun e w' => e = .returned (.bool true) ∧ Below w.heap.size w w' := by
  have H7 := Aside0.mk h7
  have H8 := Aside0.mk h8
  have H9 := Aside0.mk h9
  have L7 := Aside0.mk l7
  have L8 := Aside0.mk l8
  have L9 := Aside0.mk l9
  clear h7 h8 h9 l7 l8 l9
  go_enter Try.func7, Try.ntmps7
  go_upto_region 1 with fail
  obtain ⟨wA, g1, hX, e1, k1, b1⟩ : ∃ X g1, X = w.alloc (Obj.cells (met9 kd u n a d gp A7 A8 A9 adv.length c7 bear.length c8 pl.length c9) 37) ∧ w.heap.size = g1 ∧ X.heap[g1]? = some (Obj.cells (met9 kd u n a d gp A7 A8 A9 adv.length c7 bear.length c8 pl.length c9) 37 (0, 0)) ∧ Below w.heap.size w X := ⟨_, _, rfl, rfl, blk_new _ _, below_alloc (Below.refl _ _) _⟩
  have G1 := Aside0.mk (show w.heap.size ≤ g1 by omega)
  rw [← hX, e1]
  have KA := Aside0.mk k1
  have BA := Aside0.mk b1
  have AL := Aside0.mk (malive_calls wA)
  clear hX e1 k1 b1
  go_upto_region 3 with (go_at_call 13; refine AL.out.mono ?_; rintro q w1 ⟨rfl, h1⟩; have K1 := Aside0.mk ((h1.block _ (blk_lt KA.out)).trans KA.out); have B1 := Aside0.mk (below_step BA.out h1); clear h1)
  clear AL KA BA
  have y1 := blk_cell K1.out 1
  have y2 := blk_cell K1.out 2
  have y6 := blk_cell K1.out 6
  have y7 := blk_cell K1.out 7
  have y8 := blk_cell K1.out 8
  by_cases f1 : u < 16
  · go_wp2
    go_ret
    exact ⟨rfl, B1.out⟩
  have e1 := eq_false f1
  by_cases f2 : 16384 < u
  · go_wp2
    go_ret
    exact ⟨rfl, B1.out⟩
  have e2 := eq_false f2
  by_cases f3 : n < 1
  · go_wp2
    go_ret
    exact ⟨rfl, B1.out⟩
  have e3 := eq_false f3
  by_cases f4 : 4096 < n
  · go_wp2
    go_ret
    exact ⟨rfl, B1.out⟩
  have e4 := eq_false f4
  by_cases f5 : (adv.length : Int) = n
  rotate_left
  · have e5 := eq_false f5
    go_wp2
    go_ret
    exact ⟨rfl, B1.out⟩
  subst f5
  by_cases f6 : (bear.length : Int) = (adv.length : Int)
  rotate_left
  · have e6 := eq_false f6
    go_wp2
    go_ret
    exact ⟨rfl, B1.out⟩
  have lb : bear.length = adv.length := by omega
  by_cases f7 : 0 < pl.length
  · have e7 := eq_true f7
    go_wp2
    go_ret
    exact ⟨rfl, B1.out⟩
  have e7 := eq_false f7
  have lp : pl = [] := List.eq_nil_of_length_eq_zero (by omega)
  have LB := Aside0.mk lb
  have LP := Aside0.mk lp
  have F := Aside0.mk (show 16 ≤ u ∧ u ≤ 16384 ∧ 1 ≤ adv.length ∧ adv.length ≤ 4096 by omega)
  clear lb lp
  go_upto_region 5 with fail
  clear f1 f2 f3 f4 f6 f7 e1 e2 e3 e4 e7 y1 y2 y8
  go_upto_region 6 with fail
  go_wp2
  go_loopw [56] (fun v56 wr => ∃ j : Nat, v56 = .int .i64 j ∧ j ≤ adv.length ∧ Aside0 (wr = w1) ∧ Aside0 (∀ i, i < j → 0 ≤ rd adv (i : Int) ∧ rd adv (i : Int) ≤ 65535 ∧ -32768 ≤ rd bear (i : Int) ∧ rd bear (i : Int) ≤ 32767)) (fun v56 _ => adv.length - (intOf v56).toNat)
  case atStart => exact ⟨0, rfl, Nat.zero_le _, ⟨rfl⟩, ⟨fun i hi => absurd hi (Nat.not_lt_zero _)⟩⟩
  case round =>
    obtain ⟨j, rfl, hj, hwr, HG⟩ := hrel
    obtain rfl := hwr.out
    clear hwr
    by_cases jlt : j < adv.length
    · have il := eq_true (show (j : Int) < (adv.length : Int) by omega)
      have il2 := eq_true jlt
      have ip := eq_true (show (0 : Int) ≤ (j : Int) by omega)
      have i64 : (j : Int) + 1 ≤ 9223372036854775807 := by have := F.out.2.2.2; omega
      have jb := eq_true (show (j : Int) < (bear.length : Int) by have := LB.out; omega)
      have jb2 := eq_true (show j < bear.length by have := LB.out; omega)
      obtain ⟨ad7, q7, x7⟩ := Kd.at_int H7.out (j : Int) (by omega) (by omega)
      obtain ⟨ad8, q8, x8⟩ := Kd.at_int H8.out (j : Int) (by omega) (by have := LB.out; omega)
      rw [Int.toNat_natCast] at x7 x8
      replace x7 := pw_cell_below B1.out x7
      replace x8 := pw_cell_below B1.out x8
      obtain ⟨x, hx⟩ : ∃ x, rd adv (j : Int) = x := ⟨_, rfl⟩
      obtain ⟨y, hy⟩ : ∃ y, rd bear (j : Int) = y := ⟨_, rfl⟩
      rw [hx] at x7
      rw [hy] at x8
      have HX := Aside0.mk hx
      have HY := Aside0.mk hy
      clear hx hy
      subst q7 q8
      by_cases b1 : x < 0
      · have b1 := eq_true b1
        go_wp2
        go_ret
        exact ⟨rfl, B1.out⟩
      have t1 := eq_false b1
      by_cases b2 : 65535 < x
      · have b2 := eq_true b2
        clear b1
        go_wp2
        go_ret
        exact ⟨rfl, B1.out⟩
      have t2 := eq_false b2
      by_cases b3 : y < -32768
      · have b3 := eq_true b3
        clear b1 b2
        go_wp2
        go_ret
        exact ⟨rfl, B1.out⟩
      have t3 := eq_false b3
      by_cases b4 : 32767 < y
      · have b4 := eq_true b4
        clear b1 b2 b3
        go_wp2
        go_ret
        exact ⟨rfl, B1.out⟩
      have t4 := eq_false b4
      have GX := Aside0.mk (show 0 ≤ x ∧ x ≤ 65535 ∧ -32768 ≤ y ∧ y ≤ 32767 by omega)
      clear b1 b2 b3 b4
      go_wp2
      refine ⟨⟨j + 1, by push_cast; rfl, by omega, ⟨by first | trivial | rfl⟩, ⟨fun i hi => ?_⟩⟩, ?_⟩
      · by_cases c : i < j
        · exact HG.out i c
        · obtain rfl : i = j := by omega
          rw [HX.out, HY.out]
          exact GX.out
      · show (_ : Nat) < _
        simp only [intOf]
        omega
    · have il := eq_false (show ¬ (j : Int) < (adv.length : Int) by omega)
      have il2 := eq_false jlt
      obtain rfl : j = adv.length := by omega
      have y3 := blk_cell K1.out 3
      have y4 := blk_cell K1.out 4
      have y5 := blk_cell K1.out 5
      clear y6 y7 il il2
      go_upto_region 12 with fail
      obtain ⟨wB, hW, C3, B3, K3⟩ : ∃ wB, wB = wr.alloc (Obj.cells #[.int .i64 a, .int .i64 d, .int .i64 gp] 3) ∧ Aside0 (Kd.C (Kd.int .i64) wB (some ⟨wr.heap.size, 0, none⟩) 3 [a, d, gp]) ∧ Aside0 (Below w.heap.size w wB) ∧ Aside0 (wB.heap[g1]? = some (Obj.cells (met9 kd u (adv.length : Int) a d gp A7 A8 A9 adv.length c7 bear.length c8 pl.length c9) 37 (0, 0))) := ⟨_, rfl, ⟨C_three (k := .i64) (blk_new _ _)⟩, ⟨below_alloc B1.out _⟩, ⟨blk_alloc K1.out _⟩⟩
      rw [← hW]
      obtain ⟨g3, hg3⟩ : ∃ g3, wr.heap.size = g3 := ⟨_, rfl⟩
      rw [hg3] at C3 ⊢
      obtain ⟨ad3, had3⟩ : ∃ ad, (⟨g3, 0, none⟩ : Addr) = ad := ⟨_, rfl⟩
      rw [had3] at C3 ⊢
      clear hW hg3 had3 B1 K1 y3 y4 y5 jlt
      go_wp2
      go_loopw [98] (fun v98 wq => ∃ j : Nat, v98 = .int .i64 j ∧ j ≤ 3 ∧ Aside0 (wq = wB) ∧ Aside0 (∀ i, i < j → -32768 ≤ rd [a, d, gp] (i : Int) ∧ rd [a, d, gp] (i : Int) ≤ 32767)) (fun v98 _ => 3 - (intOf v98).toNat)
      case atStart => exact ⟨0, rfl, by omega, ⟨rfl⟩, ⟨fun i hi => absurd hi (Nat.not_lt_zero _)⟩⟩
      case round =>
        obtain ⟨j, rfl, hj, hwr, HA⟩ := hrel
        obtain rfl := hwr.out
        clear hwr
        by_cases jlt : j < 3
        · have il := eq_true (show (j : Int) < 3 by omega)
          have il2 := eq_true jlt
          have ip := eq_true (show (0 : Int) ≤ (j : Int) by omega)
          have i64 : (j : Int) + 1 ≤ 9223372036854775807 := by omega
          obtain ⟨ad, q7, x7⟩ := Kd.at_int C3.out (j : Int) (by omega) (by omega)
          rw [Int.toNat_natCast] at x7
          obtain ⟨x, hx⟩ : ∃ x, rd [a, d, gp] (j : Int) = x := ⟨_, rfl⟩
          rw [hx] at x7
          have HX := Aside0.mk hx
          clear hx
          injection q7 with q7
          subst q7
          by_cases b1 : x < -32768
          · have b1 := eq_true b1
            go_wp2
            go_ret
            exact ⟨rfl, B3.out⟩
          have t1 := eq_false b1
          by_cases b2 : 32767 < x
          · have b2 := eq_true b2
            clear b1
            go_wp2
            go_ret
            exact ⟨rfl, B3.out⟩
          have t2 := eq_false b2
          have GX := Aside0.mk (show -32768 ≤ x ∧ x ≤ 32767 by omega)
          clear b1 b2
          go_wp2
          refine ⟨⟨j + 1, by push_cast; rfl, by omega, ⟨by first | trivial | rfl⟩, ⟨fun i hi => ?_⟩⟩, ?_⟩
          · by_cases c : i < j
            · exact HA.out i c
            · obtain rfl : i = j := by omega
              rw [HX.out]
              exact GX.out
          · show (_ : Nat) < _
            simp only [intOf]
            omega
        · have il := eq_false (show ¬ (j : Int) < 3 by omega)
          have il2 := eq_false jlt
          obtain rfl : j = 3 := by omega
          have ra : -32768 ≤ a ∧ a ≤ 32767 := HA.out 0 (by decide)
          have rb : -32768 ≤ d ∧ d ≤ 32767 := HA.out 1 (by decide)
          have rc : -32768 ≤ gp ∧ gp ≤ 32767 := HA.out 2 (by decide)
          have LM : Aside0 (Lim u a d gp adv bear) := ⟨⟨F.out.1, F.out.2.1, F.out.2.2.1, F.out.2.2.2, LB.out, HG.out, ra.1, ra.2, rb.1, rb.2, rc.1, rc.2⟩⟩
          clear HA HG F ra rb rc C3
          obtain rfl := LP.out
          clear il il2 jlt hj LP
          have z0 := blk_cell K3.out 0
          have zf := blk_frozen K3.out 0
          go_upto_region 18 with fail
          obtain ⟨X, hX, KM, BX⟩ : ∃ X, X = wr.setCell ⟨g1, 0, none⟩ (.int .i64 2) ∧ Aside0 (X.heap[g1]? = some (Obj.cells (met9 2 u (adv.length : Int) a d gp A7 A8 A9 adv.length c7 bear.length c8 0 c9) 37 (0, 0))) ∧ Aside0 (Below w.heap.size w X) := ⟨_, rfl, ⟨blk_put K3.out 0 _ rfl⟩, ⟨below_set B3.out G1.out⟩⟩
          rw [← hX]
          clear hX z0 zf K3 B3
          have P := Aside0.mk (pieces_b LM.out X A7 A8 A9 c7 c8 c9 (Kd.C_below H7.out BX.out) (Kd.C_below H8.out BX.out))
          have c0 := blk_cell KM.out 0
          have c1 := blk_cell KM.out 1
          have c2 := blk_cell KM.out 2
          have c3 := blk_cell KM.out 3
          have c4 := blk_cell KM.out 4
          have c5 := blk_cell KM.out 5
          have c6 := blk_cell KM.out 6
          have c7' := blk_cell KM.out 7
          have c8' := blk_cell KM.out 8
          obtain ⟨kb, hkb⟩ := (back_build LM.out).rounds
          obtain ⟨ks, hks⟩ := (same_ev 2 u (adv.length : Int) a d gp adv bear [] (by have := LM.out.n1; omega) (by have := LM.out.n1; have := LM.out.lb; omega) (by decide)).rounds
          have EL := Aside0.mk (bP_len (w2 u) (s2 a ++ s2 d ++ s2 gp) (w2 (adv.length : Int)) (catL (twL adv bear) adv.length))
          have EB := Aside0.mk (show serifref03_Build.f kb 2 (sortP (bP (w2 u) (s2 a ++ s2 d ++ s2 gp) (w2 (adv.length : Int)) (catL (twL adv bear) adv.length))) = some (bB u a d gp adv bear, 0) by rw [bS_eq]; exact hkb)
          have ES := Aside0.mk hks
          obtain ⟨bs, hbs⟩ : ∃ bs, bB u a d gp adv bear = bs := ⟨_, rfl⟩
          have OK := Aside0.mk (back_ok LM.out)
          have OP := Aside0.mk (back_open LM.out)
          rw [hbs] at EB OK OP
          obtain ⟨Pc, hPc⟩ : ∃ Pc, piecesL (w2 u) (s2 a ++ s2 d ++ s2 gp) (w2 (adv.length : Int)) (catL (twL adv bear) adv.length) [] = Pc := ⟨_, rfl⟩
          obtain ⟨bp, hbp⟩ : ∃ bp, bP (w2 u) (s2 a ++ s2 d ++ s2 gp) (w2 (adv.length : Int)) (catL (twL adv bear) adv.length) = bp := ⟨_, rfl⟩
          have hPb : bp = Pc ++ [cffP] := by rw [← hbp, ← hPc]; rfl
          rw [hPc] at P EL
          rw [hbp] at EL EB
          have PB := Aside0.mk hPb
          clear hkb hks hbs hPc hbp hPb
          go_upto_region 19 with (first | (go_at_call 21; refine P.out.mono ?_; rintro q w5 ⟨v, W, rfl, h1, h2, h3⟩; obtain ⟨A5, l5, rfl⟩ := Kd.R_slice h1; rw [EL.out.1] at h1 ⊢; have R5 := Aside0.mk h1; have B5 := Aside0.mk h2; have D5 := Aside0.mk h3; clear h1 h2 h3) | ((with_reducible refine gate_builtin (b := .append) (xs := #[.tmp 112, .tmp 114]) rfl ?_); at_builtin; refine Kd.R_append (Kd.fixed k50 W) (w0 := W) W.heap.size rfl (.tmp 112) (.tmp 114) 46 50 (.agg #[(.string ⟨#[]⟩), (.slice none 0 0)]) 40 rfl Try.underlying46 inf50 rfl (show 0 < 2 by decide) (by omega) (.slice A5 4 l5) Pc cffP [.string ⟨#[67, 70, 70, 32]⟩, .slice none 0 0] (fun _ => True) (fun _ => False) rfl (by first | (go_simp; done) | (go_simp; rfl)) ?aP (fun _ hk => hk.elim) ?aF ?aO ?aB ?aS ?aL ?_; (case aP => exact k50_mk W cffP (Nat.le_refl 0) (Kd.C_nil _ _)); (case aF => exact fun _ _ => trivial); (case aO => exact R5.out); (case aB => exact B5.out); (case aS => exact below_size B5.out); (case aL => rw [EL.out.1]; decide); intro v6 w6 k1 k2 k3 k4; rw [← PB.out] at k1; obtain ⟨A6, l6, rfl⟩ := Kd.R_slice k1; rw [EL.out.2.1] at k1 ⊢; have k5 := Kd.R_reads' k1; rw [EL.out.2.1] at k5; have C6 := Aside0.mk (C_unfix k5.2.2 k2); have Q6 := Aside0.mk k5.2.1; have D6 := Aside0.mk (below_step D5.out k2); clear k1 k2 k3 k4 k5) | (go_at_call 20; refine (sorted_at bp 5 A6 l6 w6 EL.out.2.1 EL.out.2.2 (by decide) C6.out Q6.out).mono ?_; rintro q w7 ⟨A17, l17, rfl, h0, h1, h2⟩; have C7 := Aside0.mk h1; have Q7 := Aside0.mk h0; have D7 := Aside0.mk (below_step D6.out h2); clear h0 h1 h2) | (go_at_call 19; refine (build_at kb 2 (sortP bp) 5 A17 l17 bs w7 EL.out.2.2 C7.out Q7.out EB.out).mono ?_; rintro q w8 ⟨A18, l18, rfl, h0, h1, h2⟩; have C8 := Aside0.mk h1; have Q8 := Aside0.mk h0; have D8 := Aside0.mk (below_step D7.out h2); clear h0 h1 h2))
          clear C7 Q7 D7 C6 Q6 D6 R5 B5 D5 P c0 c1 c2 c3 c4 c5 c6 c7' c8'
          go_upto_region 20 with (go_at_call 15; refine (open_at bs A18 l18 w8 OP.out.1 C8.out Q8.out OK.out).mono ?_; rintro q w9 ⟨gF, rfl, h1, h2⟩; have F9 := Aside0.mk h1; have D9 := Aside0.mk (below_step D8.out h2); clear h1 h2)
          clear C8 Q8 D8
          have RD := Aside0.mk (show ∀ w2, Fn w2 gF (openV bs 0).1.1 (openV bs 0).1.2 bs → Calls Try.prog 17 #[.pointer (some ⟨gF, 0, none⟩)] w2 (ReadP (0, ⟨2, u, (adv.length : Int), a, d, gp, adv, bear, []⟩) w2) from fun w2 h => by
            have q := read_calls bs OK.out gF _ _ w2 h
            rw [OP.out.2] at q
            exact q)
          go_upto_region 22 with fail
          go_upto_region 23 with (first | (go_at_call 17; refine (RD.out w9 F9.out).mono ?_; intro q w10 h; obtain ⟨A10, l10, A11, l11, A12, l12, rfl, h1, h2, h3, h4, h5, h6, h7⟩ := read_at (0, ⟨2, u, (adv.length : Int), a, d, gp, adv, bear, []⟩) w9 q w10 rfl h; have V10 := Aside0.mk (And.intro h1 (And.intro h2 h3)); have C10 := Aside0.mk (And.intro h4 (And.intro h5 h6)); have D10 := Aside0.mk (below_step D9.out h7); have MZ := Aside0.mk (blk_new w10 (Obj.cells zeroM 37)); clear h h1 h2 h3 h4 h5 h6 h7) | (refine wpList_store_row rfl 37 (.tmp 10) (.tmp 138) rfl w10.heap.size (mR ⟨2, u, (adv.length : Int), a, d, gp, adv, bear, []⟩ A10 l10 A11 l11 A12 l12) rfl rfl 37 zeroM MZ.out (by kernel_rfl) rfl (by simp [Value.oneCell']) ?_))
          clear MZ RD F9 D9
          obtain ⟨Y, gm, hY, hgm, km, bY⟩ := m_read w10 (mR ⟨2, u, (adv.length : Int), a, d, gp, adv, bear, []⟩ A10 l10 A11 l11 A12 l12)
          rw [← hY, hgm]
          have bX := below_step D10.out bY
          have k2 := (bX.block _ (blk_lt KM.out)).trans KM.out
          have DY := Aside0.mk (below_step BX.out bX)
          have c0 := blk_cell k2 0
          have c1 := blk_cell k2 1
          have c2 := blk_cell k2 2
          have c3 := blk_cell k2 3
          have c4 := blk_cell k2 4
          have c5 := blk_cell k2 5
          have c6 := blk_cell k2 6
          have c7' := blk_cell k2 7
          have c8' := blk_cell k2 8
          have d0 := blk_cell km 0
          have d1 := blk_cell km 1
          have d2 := blk_cell km 2
          have d3 := blk_cell km 3
          have d4 := blk_cell km 4
          have d5 := blk_cell km 5
          have d6 := blk_cell km 6
          have d7 := blk_cell km 7
          have d8 := blk_cell km 8
          have SE := Aside0.mk (same_e Y ⟨2, u, (adv.length : Int), a, d, gp, adv, bear, []⟩ A10 A11 A12 A7 A8 A9 l10 l11 l12 c7 c8 c9 adv bear [] 2 u (adv.length : Int) a d gp (Kd.C_below C10.out.1 bY) (Kd.C_below C10.out.2.1 bY) (Kd.C_below C10.out.2.2 bY) V10.out.1 V10.out.2.1 V10.out.2.2 (Kd.C_below H7.out DY.out) (Kd.C_below H8.out DY.out) (Kd.C_below H9.out DY.out) L7.out L8.out L9.out ks true ES.out)
          clear hY hgm km bY k2 bX C10 V10 KM D10 BX
          go_wp2_with (go_at_call 18; refine SE.out.mono ?_; rintro q w11 ⟨rfl, h1⟩; have E11 := Aside0.mk (below_step DY.out h1); clear h1)
          go_ret
          exact ⟨rfl, E11.out⟩
end Go.Proofs.Ytonljpciadeafaa.S
