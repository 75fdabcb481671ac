/- GlyfEnds: the walk. Written by rk/gengf.py out of mkgfg.py. -/
import Derived.Test.YtchmhcfdamdjdaaGx0
import Derived.Test.YtchmhcfdamdjdaaGx34
import Derived.Test.YtchmhcfdamdjdaaGx35
import Derived.Test.YtchmhcfdamdjdaaGfFG
import Derived.Test.YtchmhcfdamdjdaaGfZG
set_option linter.unusedVariables false
set_option linter.unusedSimpArgs false
namespace Go.Proofs.Ytchmhcfdamdjdaa.G
open Go Go.RowKit Go.Proofs.YtchmhcfdamdjdaaW.PrintWords Go.Proofs.YtchmhcfdamdjdaaW.PrintLast Go.Proofs.YtchmhcfdamdjdaaW.PrintMore

theorem R_type {k : IntKind} {e b : Nat} {W : World} {ok : Nat → Prop} {v : Value} {xs : List Int} (h : Kd.R (Kd.int k) e W b ok v xs) {q : Nat} (hq : v.ownBlock = some q) : b ≤ q ∧ ∃ cells, W.heap[q]? = some (Obj.cells cells e (0, 0)) := by
  obtain ⟨_, h2, _, t, ht, cells, h4⟩ := (Kd.R_bound h).1 q hq
  rcases List.mem_cons.1 ht with rfl | ht
  · exact ⟨h2, cells, h4⟩
  · exact absurd ht (by show ¬ t ∈ ([] : List Nat); simp)
/-- The table and the places while they are made. -/
structure Eb (w1 : World) (A5 : Option Addr) (c5 : Nat) (tb : List Int) (A6 : Option Addr) (c6 : Nat) (pl : List Int) (W : World) : Prop where
  be : Below w1.heap.size w1 W
  rt : Kd.R (Kd.int .u8) 5 W w1.heap.size (fun _ => True) (.slice A5 tb.length c5) tb
  rp : Kd.R (Kd.int .i64) 3 W w1.heap.size (fun _ => True) (.slice A6 pl.length c6) pl
theorem Eb.below {w1 : World} {A5 : Option Addr} {c5 : Nat} {tb : List Int} {A6 : Option Addr} {c6 : Nat} {pl : List Int} {W W' : World} (h : Eb w1 A5 c5 tb A6 c6 pl W) (hb : Below W.heap.size W W') : Eb w1 A5 c5 tb A6 c6 pl W' :=
  ⟨below_step h.be hb, Kd.R_below h.rt hb, Kd.R_below h.rp hb⟩
theorem Eb.apart {w1 : World} {A5 : Option Addr} {c5 : Nat} {tb : List Int} {A6 : Option Addr} {c6 : Nat} {pl : List Int} {W : World} (h : Eb w1 A5 c5 tb A6 c6 pl W) {q : Nat} (a : (Value.slice A5 tb.length c5).ownBlock = some q) (b : (Value.slice A6 pl.length c6).ownBlock = some q) : False := by
  obtain ⟨_, x, hx⟩ := R_type h.rt a
  obtain ⟨_, y, hy⟩ := R_type h.rp b
  rw [hx] at hy
  injection hy with hy
  injection hy with _ hy
  exact absurd hy (by decide)
theorem Eb.tab {w1 : World} {A5 : Option Addr} {c5 : Nat} {tb : List Int} {A6 : Option Addr} {c6 : Nat} {pl : List Int} {W W' : World} (h : Eb w1 A5 c5 tb A6 c6 pl W) {A : Option Addr} {c : Nat} {tb' : List Int} (k1 : Kd.R (Kd.int .u8) 5 W' w1.heap.size (fun _ => True) (.slice A tb'.length c) tb') (k3 : W.grownBy W' (Value.slice A5 tb.length c5).ownBlock) : Eb w1 A c tb' A6 c6 pl W' :=
  ⟨h.be.grown k3 (below_size h.be) (fun q hq => (R_type h.rt hq).1), k1, Kd.R_grown2 h.rp rfl k3 (fun q hq e => h.apart hq e.symm)⟩
theorem Eb.pla {w1 : World} {A5 : Option Addr} {c5 : Nat} {tb : List Int} {A6 : Option Addr} {c6 : Nat} {pl : List Int} {W W' : World} (h : Eb w1 A5 c5 tb A6 c6 pl W) {A : Option Addr} {c : Nat} {pl' : List Int} (k1 : Kd.R (Kd.int .i64) 3 W' w1.heap.size (fun _ => True) (.slice A pl'.length c) pl') (k3 : W.grownBy W' (Value.slice A6 pl.length c6).ownBlock) : Eb w1 A5 c5 tb A c pl' W' :=
  ⟨h.be.grown k3 (below_size h.be) (fun q hq => (R_type h.rp hq).1), Kd.R_grown2 h.rt rfl k3 (fun q hq e => h.apart e.symm hq), k1⟩
/-- Every glyph of the table is refused. -/
theorem dec_tab {n p : Nat} (h0 : 1 ≤ n) (h1 : n ≤ 20) (h2 : 1 ≤ p) (h3 : p ≤ 6) (i : Nat) (hi : i < n) (W : World) (gv : Nat) (AP : Option Addr) (cP : Nat) (hv : Vw W gv (tabB n p n)) (hp : Kd.C (Kd.int .i64) W AP (plB n p n).length (plB n p n)) :
    Calls Try.prog 25 #[.pointer (some ⟨gv, 0, none⟩), .slice AP (plB n p n).length cP, .int .i64 i] W (DecP none 73 W) :=
  decode_thr (tabB n p n) gv AP cP (plB n p n) i 73 W hv hp (fun W2 dk hd hb hk =>
    glyph_thr (tab_ok n p h0 h1 h2 h3) W gv AP cP hv hp dk hd 8 1 (by decide) (by decide) i hi 0 (by decide) (by decide) W2 hb hk)
theorem tab_short {n p : Nat} (h1 : n ≤ 20) (h3 : p ≤ 6) (i : Nat) (hi : i ≤ n) : (tabB n p i).length ≤ 1160 := by
  rw [tabB_len]
  have := Nat.mul_le_mul (show i ≤ 20 by omega) (show 10 + 8 * p ≤ 58 by omega)
  omega
set_option maxRecDepth 100000 in
set_option maxHeartbeats 8000000 in
theorem ends_core (n p : Nat) (h0 : 1 ≤ n) (h1 : n ≤ 20) (h2 : 1 ≤ p) (h3 : p ≤ 6) (w : World) : Calls Try.prog 4 #[.int .i64 n, .int .i64 p] w fun e w' => e = .returned (.bool true) ∧ Below w.heap.size w w' := by
  have AL := Aside0.mk (alive_calls w)
  have NB := Aside0.mk (show 1 ≤ n ∧ n ≤ 20 ∧ 1 ≤ p ∧ p ≤ 6 from ⟨h0, h1, h2, h3⟩)
  have DT := Aside0.mk (fun (i : Nat) (hi : i < n) => dec_tab h0 h1 h2 h3 i hi)
  have TS := Aside0.mk (fun (i : Nat) (hi : i ≤ n) => tab_short (p := p) h1 h3 i hi)
  have b1 := eq_false (show ¬ (n : Int) < 1 by omega)
  have b2 := eq_false (show ¬ (20 : Int) < (n : Int) by omega)
  have b3 := eq_false (show ¬ (p : Int) < 1 by omega)
  have b4 := eq_false (show ¬ (6 : Int) < (p : Int) by omega)
  clear h0 h1 h2 h3
  go_enter Try.func4, Try.ntmps4
  go_upto_region 6 with (first | (go_at_call 9; refine AL.out.mono ?_; rintro q w1 ⟨rfl, k1⟩; have B1 := Aside0.mk k1; clear k1) | ((with_reducible refine gate_dst (N := 29) rfl ?_); refine Kd.R_lit (Kd.int .u8) _ 5 ?hg (N := 29) ?hd (xs := ([] : List Int)) (inner := []) (ok := fun _ => True) (okp := fun _ => True) ?hr ?hp (fun _ hk => hk) trivial (Below.refl _ _) (Nat.le_refl _) (by simp) ?_; (case hd => rfl); (case hg => rfl); (case hr => first | (go_simp; done) | (go_simp; rfl)); (case hp => exact (Reps.none _ _)); intro v2 w2 ho hb hg_ hnew_; have R2 := Aside0.mk ho; have B2 := Aside0.mk hb; clear ho hb hg_ hnew_) | ((with_reducible refine gate_dst (N := 30) rfl ?_); refine Kd.R_lit (Kd.int .i64) _ 3 ?hg (N := 30) ?hd (xs := ([0] : List Int)) (inner := [.int .i64 0]) (ok := fun _ => True) (okp := fun _ => True) ?hr ?hp (fun _ hk => hk) trivial (Below.refl _ _) (Nat.le_refl _) (by simp) ?_; (case hd => rfl); (case hg => rfl); (case hr => first | (go_simp; done) | (go_simp; rfl)); (case hp => exact (Reps.one rfl (Reps.none _ _))); intro v3 w3 ho hb hg_ hnew_; have R3 := Aside0.mk ho; have B3 := Aside0.mk hb; clear ho hb hg_ hnew_))
  obtain ⟨A2, c2, e2⟩ := Kd.R_slice R2.out
  obtain ⟨A3, c3, e3⟩ := Kd.R_slice R3.out
  subst e2 e3
  have E0 := Aside0.mk (show Eb w1 A2 c2 [] A3 c3 [0] w3 from ⟨below_step B2.out B3.out, Kd.R_below R2.out B3.out, Kd.R_lower R3.out (below_size B2.out)⟩)
  clear R2 R3 B2 B3 b1 b2 b3 b4
  go_wp2
  go_loopw [5, 6, 7] (fun v5 v6 v7 wr => ∃ (i : Nat) (tb pl : List Int) (A5 : Option Addr) (c5 : Nat) (A6 : Option Addr) (c6 : Nat), v5 = .slice A5 tb.length c5 ∧ v6 = .slice A6 pl.length c6 ∧ v7 = .int .i64 i ∧ i ≤ n ∧ Aside0 (tabB n p i = tb ∧ plB n p i = pl) ∧ Aside0 (Eb w1 A5 c5 tb A6 c6 pl wr)) (fun _ _ v7 _ => n - (intOf v7).toNat)
  case atStart => exact ⟨0, [], [0], A2, c2, A3, c3, rfl, rfl, rfl, Nat.zero_le _, ⟨⟨rfl, rfl⟩⟩, E0⟩
  case round =>
    obtain ⟨i, tb, pl, A5, c5, A6, c6, rfl, rfl, rfl, hi, HTP, HE⟩ := hrel
    clear E0
    by_cases il : i < n
    · have il1 := eq_true il
      have il2 := eq_true (show (i : Int) < (n : Int) by omega)
      have IL := Aside0.mk il
      have i64 : (i : Int) + 1 ≤ 9223372036854775807 := by have := NB.out; omega
      have n0 := eq_false (show ¬ (n : Int) = 0 by have := NB.out; omega)
      have n2 := eq_false (show ¬ n = 0 by have := NB.out; omega)
      have n1 : ((n : Int) == 0) = false := beq_eq_false_iff_ne.2 (by have := NB.out; omega)
      obtain ⟨ix, hix⟩ : ∃ ix : Nat, (i + 1) % n = ix := ⟨_, rfl⟩
      have IX := Aside0.mk (show ix < n by rw [← hix]; exact Nat.mod_lt _ (by have := NB.out; omega))
      have HM := Aside0.mk (show ((i : Int) + 1) % (n : Int) = (ix : Int) by rw [← hix]; push_cast; rfl)
      have HX := Aside0.mk hix
      clear hix il
      have LB := Aside0.mk (show tb.length ≤ 1160 by rw [← HTP.out.1]; exact TS.out i (Nat.le_of_lt IL.out))
      go_upto_region 10 with (first | ((with_reducible refine gate_dst (N := 37) rfl ?_); refine Kd.R_lit (Kd.int .i64) _ 3 ?hg (N := 37) ?hd (xs := ([-1, 0, 0, 0, 0] : List Int)) (inner := [.int .i64 (-1), .int .i64 0, .int .i64 0, .int .i64 0, .int .i64 0]) (ok := fun _ => True) (okp := fun _ => True) ?hr ?hp (fun _ hk => hk) trivial (Below.refl _ _) (Nat.le_refl _) (by simp) ?_; (case hd => rfl); (case hg => rfl); (case hr => first | (go_simp; done) | (go_simp; rfl)); (case hp => exact (Reps.one rfl (Reps.one rfl (Reps.one rfl (Reps.one rfl (Reps.one rfl (Reps.none _ _))))))); intro v5 w5 ho hb hg_ hnew_; obtain ⟨A37, c37, e37⟩ := Kd.R_slice ho; subst e37; have R5 := Aside0.mk (Kd.R_reads' ho); have E5 := Aside0.mk (HE.out.below hb); clear ho hb hg_ hnew_) | (go_at_call 10; refine (serifref02_Two.calls 60 A37 c37 [-1, 0, 0, 0, 0] hdB w5 R5.out.2.2 R5.out.2.1 two_hd).mono ?_; rintro q w6 ⟨v6, rfl, k1, k2⟩; obtain ⟨A38, c38, e38⟩ := Kd.R_slice k1; subst e38; have R6 := Aside0.mk (Kd.R_reads' k1); have E6 := Aside0.mk (E5.out.below k2); clear k1 k2) | ((with_reducible refine gate_builtin (b := .append) (xs := #[.tmp 36, .tmp 38]) rfl ?_); at_builtin; refine Kd.R_append_rows (Kd.int .u8) (w0 := w6) w1.heap.size rfl (.tmp 36) (.tmp 38) 23 5 (.int .u8 0) 1 rfl Try.underlying23 info5 rfl (by decide) (by omega) (.slice A5 tb.length c5) tb hdB _ _ _ (fun _ => True) (fun _ => False) rfl rfl ?aO ?aR (fun _ _ h => h) (fun _ h => h.elim) ?aF ?aB ?aS ?aL ?_; (case aR => exact R6.out.2.2); (case aB => exact Below.refl _ _); (case aF => exact (fun _ _ => trivial)); (case aO => exact E6.out.rt); (case aS => exact below_size E6.out.be); (case aL => have := LB.out; show (tb.length + 10) * 1 ≤ _; omega); intro v7 w7 k1 k2 k3 k4; obtain ⟨t7, h7⟩ : ∃ t, tb ++ hdB = t := ⟨_, rfl⟩; rw [h7] at k1; have HT7 := Aside0.mk h7; obtain ⟨A7, c7, e7⟩ := Kd.R_slice k1; subst e7; have E7 := Aside0.mk (E6.out.tab k1 k3); clear k1 k2 k3 k4))
      have T0 : Aside0 (tb ++ hdB ++ prtB p (ix : Int) 0 = t7) := ⟨by rw [prtB, List.append_nil]; exact HT7.out⟩
      clear R5 E5 R6 E6
      go_wp2
      go_loopw [5, 8] (fun v5 v8 wq => ∃ (j : Nat) (tj : List Int) (A8 : Option Addr) (c8 : Nat), v5 = .slice A8 tj.length c8 ∧ v8 = .int .i64 ((j : Int) + 1) ∧ j ≤ p ∧ Aside0 (tb ++ hdB ++ prtB p (ix : Int) j = tj) ∧ Aside0 (Eb w1 A8 c8 tj A6 c6 pl wq)) (fun _ v8 _ => p + 1 - (intOf v8).toNat)
      case atStart => exact ⟨0, t7, A7, c7, rfl, rfl, Nat.zero_le _, T0, E7⟩
      case round =>
        obtain ⟨j, tj, A8, c8, rfl, rfl, hj, HTJ, HF⟩ := hrel
        clear T0 E7
        have LJ := Aside0.mk (show tj.length ≤ 1300 by
          rw [← HTJ.out, List.length_append, List.length_append, prtB_len]
          have := LB.out
          have := NB.out
          show _ + 10 + _ ≤ _
          omega)
        by_cases jl : j < p
        · have HT2 : tb ++ hdB ++ prtB p (ix : Int) (j + 1) = tj ++ prt (if j + 1 = p then 3 else 35) ix := by rw [prtB, ← List.append_assoc (tb ++ hdB), HTJ.out]
          have il1 := eq_true (show (j : Int) + 1 ≤ (p : Int) by omega)
          have j64 : (j : Int) + 1 + 1 ≤ 9223372036854775807 := by have := NB.out; omega
          have JL := Aside0.mk jl
          by_cases e : j + 1 = p
          · have ea := eq_true (show (j : Int) + 1 = (p : Int) by omega)
            have eb : ((j : Int) + 1 == (p : Int)) = true := beq_iff_eq.2 (by omega)
            rw [if_pos e] at HT2
            have HT1 := Aside0.mk HT2
            clear HT2 e jl
            go_upto_region 13 with fail
            go_upto_region 14 with fail
            go_upto_region 16 with fail
            have hm := HM.out
            go_wp2_with (first | ((with_reducible refine gate_dst (N := 54) rfl ?_); refine Kd.R_lit (Kd.int .i64) _ 3 ?hg (N := 54) ?hd (xs := ([0, 0] : List Int)) (inner := [.int .i64 0, .int .i64 0]) (ok := fun _ => True) (okp := fun _ => True) ?hr ?hp (fun _ hk => hk) trivial (Below.refl _ _) (Nat.le_refl _) (by simp) ?_; (case hd => rfl); (case hg => rfl); (case hr => first | (go_simp; done) | (go_simp; rfl)); (case hp => exact (Reps.one rfl (Reps.one rfl (Reps.none _ _)))); intro v15 w15 ho hb hg_ hnew_; obtain ⟨A54, c54, e54⟩ := Kd.R_slice ho; subst e54; have R15 := Aside0.mk (Kd.R_reads' ho); have E15 := Aside0.mk (HF.out.below hb); clear ho hb hg_ hnew_) | (go_at_call 11; refine (serifref07_Part.calls 60 3 (ix : Int) A54 c54 [0, 0] (prt 3 ix) w15 R15.out.2.2 R15.out.2.1 (part_f 3 (Or.inr rfl) ix (by have := IX.out; have := NB.out; omega))).mono ?_; rintro q w16 ⟨v16, rfl, k1, k2⟩; obtain ⟨A55, c55, e55⟩ := Kd.R_slice k1; subst e55; have R16 := Aside0.mk (Kd.R_reads' k1); have E16 := Aside0.mk (E15.out.below k2); clear k1 k2) | ((with_reducible refine gate_builtin (b := .append) (xs := #[.tmp 48, .tmp 55]) rfl ?_); at_builtin; refine Kd.R_append_rows (Kd.int .u8) (w0 := w16) w1.heap.size rfl (.tmp 48) (.tmp 55) 23 5 (.int .u8 0) 1 rfl Try.underlying23 info5 rfl (by decide) (by omega) (.slice A8 tj.length c8) tj (prt 3 ix) _ _ _ (fun _ => True) (fun _ => False) rfl rfl ?aO ?aR (fun _ _ h => h) (fun _ h => h.elim) ?aF ?aB ?aS ?aL ?_; (case aR => exact R16.out.2.2); (case aB => exact Below.refl _ _); (case aF => exact (fun _ _ => trivial)); (case aO => exact E16.out.rt); (case aS => exact below_size E16.out.be); (case aL => have := LJ.out; show (tj.length + 8) * 1 ≤ _; omega); intro v17 w17 k1 k2 k3 k4; obtain ⟨t9, h9⟩ : ∃ t, tj ++ prt 3 ix = t := ⟨_, rfl⟩; rw [h9] at k1; have HT9 := Aside0.mk h9; obtain ⟨A9, c9, e9⟩ := Kd.R_slice k1; subst e9; have E17 := Aside0.mk (E16.out.tab k1 k3); clear k1 k2 k3 k4))
            refine ⟨⟨j + 1, t9, A9, c9, rfl, by push_cast; rfl, by have := JL.out; omega, ⟨HT1.out.trans HT9.out⟩, E17⟩, ?_⟩
            · show p + 1 - ((j : Int) + 1 + 1).toNat < p + 1 - ((j : Int) + 1).toNat
              have := JL.out
              omega
          · have ea := eq_false (show ¬ (j : Int) + 1 = (p : Int) by omega)
            have eb : ((j : Int) + 1 == (p : Int)) = false := beq_eq_false_iff_ne.2 (by omega)
            rw [if_neg e] at HT2
            have HT1 := Aside0.mk HT2
            clear HT2 e jl
            go_upto_region 13 with fail
            go_upto_region 14 with fail
            go_upto_region 16 with fail
            have hm := HM.out
            go_wp2_with (first | ((with_reducible refine gate_dst (N := 54) rfl ?_); refine Kd.R_lit (Kd.int .i64) _ 3 ?hg (N := 54) ?hd (xs := ([0, 0] : List Int)) (inner := [.int .i64 0, .int .i64 0]) (ok := fun _ => True) (okp := fun _ => True) ?hr ?hp (fun _ hk => hk) trivial (Below.refl _ _) (Nat.le_refl _) (by simp) ?_; (case hd => rfl); (case hg => rfl); (case hr => first | (go_simp; done) | (go_simp; rfl)); (case hp => exact (Reps.one rfl (Reps.one rfl (Reps.none _ _)))); intro v15 w15 ho hb hg_ hnew_; obtain ⟨A54, c54, e54⟩ := Kd.R_slice ho; subst e54; have R15 := Aside0.mk (Kd.R_reads' ho); have E15 := Aside0.mk (HF.out.below hb); clear ho hb hg_ hnew_) | (go_at_call 11; refine (serifref07_Part.calls 60 35 (ix : Int) A54 c54 [0, 0] (prt 35 ix) w15 R15.out.2.2 R15.out.2.1 (part_f 35 (Or.inl rfl) ix (by have := IX.out; have := NB.out; omega))).mono ?_; rintro q w16 ⟨v16, rfl, k1, k2⟩; obtain ⟨A55, c55, e55⟩ := Kd.R_slice k1; subst e55; have R16 := Aside0.mk (Kd.R_reads' k1); have E16 := Aside0.mk (E15.out.below k2); clear k1 k2) | ((with_reducible refine gate_builtin (b := .append) (xs := #[.tmp 48, .tmp 55]) rfl ?_); at_builtin; refine Kd.R_append_rows (Kd.int .u8) (w0 := w16) w1.heap.size rfl (.tmp 48) (.tmp 55) 23 5 (.int .u8 0) 1 rfl Try.underlying23 info5 rfl (by decide) (by omega) (.slice A8 tj.length c8) tj (prt 35 ix) _ _ _ (fun _ => True) (fun _ => False) rfl rfl ?aO ?aR (fun _ _ h => h) (fun _ h => h.elim) ?aF ?aB ?aS ?aL ?_; (case aR => exact R16.out.2.2); (case aB => exact Below.refl _ _); (case aF => exact (fun _ _ => trivial)); (case aO => exact E16.out.rt); (case aS => exact below_size E16.out.be); (case aL => have := LJ.out; show (tj.length + 8) * 1 ≤ _; omega); intro v17 w17 k1 k2 k3 k4; obtain ⟨t9, h9⟩ : ∃ t, tj ++ prt 35 ix = t := ⟨_, rfl⟩; rw [h9] at k1; have HT9 := Aside0.mk h9; obtain ⟨A9, c9, e9⟩ := Kd.R_slice k1; subst e9; have E17 := Aside0.mk (E16.out.tab k1 k3); clear k1 k2 k3 k4))
            refine ⟨⟨j + 1, t9, A9, c9, rfl, by push_cast; rfl, by have := JL.out; omega, ⟨HT1.out.trans HT9.out⟩, E17⟩, ?_⟩
            · show p + 1 - ((j : Int) + 1 + 1).toNat < p + 1 - ((j : Int) + 1).toNat
              have := JL.out
              omega
        · have jl1 := eq_false (show ¬ (j : Int) + 1 ≤ (p : Int) by omega)
          obtain rfl : j = p := by omega
          have HT := Aside0.mk (show tabB n j (i + 1) = tj by rw [tabB, HX.out, HTP.out.1]; exact HTJ.out)
          have LP := Aside0.mk (show pl.length ≤ 21 by rw [← HTP.out.2, plB_len]; have := NB.out; have := IL.out; omega)
          clear jl
          go_wp2_with ((with_reducible refine gate_builtin (b := .append) (xs := #[.tmp 57, .tmp 60]) rfl ?_); at_builtin; refine Kd.R_append (Kd.int .i64) (w0 := wr) w1.heap.size rfl (.tmp 57) (.tmp 60) 24 3 (.int .i64 0) 8 rfl Try.underlying24 info3 rfl (by decide) (by omega) (.slice A6 pl.length c6) pl (tj.length : Int) [.int .i64 (tj.length : Int)] (fun _ => True) (fun _ => False) rfl (by first | (go_simp; done) | (go_simp; rfl)) ?aP (fun _ hk => hk.elim) ?aF ?aO ?aB ?aS ?aL ?_; (case aP => exact rfl); (case aF => exact fun _ _ => trivial); (case aO => exact HF.out.rp); (case aB => exact Below.refl _ _); (case aS => exact below_size HF.out.be); (case aL => have := LP.out; omega); intro v60 w60 k1 k2 k3 k4; obtain ⟨pq, hq⟩ : ∃ t, pl ++ [(tj.length : Int)] = t := ⟨_, rfl⟩; rw [hq] at k1; have HQ := Aside0.mk hq; obtain ⟨A9, c9, e9⟩ := Kd.R_slice k1; subst e9; have E9 := Aside0.mk (HF.out.pla k1 k3); clear k1 k2 k3 k4)
          go_roundw
          case rel =>
            (repeat apply Exists.intro)
            refine ⟨⟨i + 1, tj, pq, A8, c8, A9, c9, rfl, rfl, by push_cast; rfl, IL.out, ⟨⟨HT.out, by rw [plB, HTP.out.2, HT.out]; exact HQ.out⟩⟩, E9⟩, rfl⟩
          case measure =>
            show n - ((i : Int) + 1).toNat < n - (i : Int).toNat
            have := IL.out
            omega
    · have il1 := eq_false il
      have il2 := eq_false (show ¬ (i : Int) < (n : Int) by omega)
      obtain rfl : i = n := by omega
      clear il
      go_wp2
      go_loopw [10] (fun v10 wq => ∃ g : Nat, v10 = .int .i64 g ∧ g ≤ i ∧ Aside0 (Eb w1 A5 c5 tb A6 c6 pl wq)) (fun v10 _ => i - (intOf v10).toNat)
      case atStart => exact ⟨0, rfl, Nat.zero_le _, HE⟩
      case round =>
        obtain ⟨g, rfl, hg, HF⟩ := hrel
        clear HE il1 il2
        by_cases gl : g < i
        · have gl1 := eq_true gl
          have gl2 := eq_true (show (g : Int) < (i : Int) by omega)
          have GL := Aside0.mk gl
          have g64 : (g : Int) + 1 ≤ 9223372036854775807 := by have := NB.out; omega
          have DG := Aside0.mk (fun (W : World) (h : Eb w1 A5 c5 tb A6 c6 pl W) => (by
            have z := dec_calls (tabB i p i) (plB i p i) g none 73 A5 c5 A6 c6 W (by rw [HTP.out.1]; exact (Kd.R_reads' h.rt).2.2) (by rw [HTP.out.1]; exact (Kd.R_reads' h.rt).2.1) (by rw [HTP.out.2]; exact (Kd.R_reads' h.rp).2.2) (by rw [HTP.out.2]; exact (Kd.R_reads' h.rp).2.1) (by have := TS.out i (Nat.le_refl _); omega) (by rw [plB_len]; have := NB.out; omega) (DT.out g gl)
            rw [HTP.out.1, HTP.out.2] at z
            exact z : Calls Try.prog 12 #[.slice A5 tb.length c5, .slice A6 pl.length c6, .int .i64 g] W (DecP none 73 W)))
          clear gl
          go_upto_region 22 with (go_at_call 12; refine (DG.out _ HF.out).mono ?_; rintro q w30 ⟨k1, rfl⟩; have F30 := Aside0.mk (HF.out.below k1); clear k1)
          obtain ⟨w31, x, hX, ex, kx, b31⟩ : ∃ X x, X = w30.alloc (Obj.cells zeroG 29) ∧ w30.heap.size = x ∧ X.heap[x]? = some (Obj.cells zeroG 29 (0, 0)) ∧ Below w30.heap.size w30 X := ⟨_, _, rfl, rfl, blk_new _ _, below_alloc (Below.refl _ _) _⟩
          rw [← hX, ex]
          have F31 := Aside0.mk (F30.out.below b31)
          have x0 : w31.cell? ⟨x, 0, none⟩ = some (.slice none 0 0) := (blk_cell kx 0).trans rfl
          clear hX ex kx b31 F30
          go_wp2
          go_roundw
          case rel =>
            (repeat apply Exists.intro)
            refine ⟨⟨g + 1, by push_cast; rfl, GL.out, F31⟩, rfl⟩
          case measure =>
            show i - ((g : Int) + 1).toNat < i - (g : Int).toNat
            have := GL.out
            omega
        · have gl1 := eq_false gl
          have gl2 := eq_false (show ¬ (g : Int) < (i : Int) by omega)
          go_wp2
          go_ret
          exact ⟨rfl, below_step B1.out HF.out.be⟩
end Go.Proofs.Ytchmhcfdamdjdaa.G
