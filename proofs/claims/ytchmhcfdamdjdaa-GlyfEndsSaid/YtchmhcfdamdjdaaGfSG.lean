/- glyf: flags, places, in the plain case (no flag says a repetition, a short number or the same number again). Written by rk/gengf.py. -/
import Derived.Test.YtchmhcfdamdjdaaGx0
import Derived.Test.YtchmhcfdamdjdaaGfRG
set_option linter.unusedVariables false
set_option linter.unusedSimpArgs false
namespace Go.Proofs.Ytchmhcfdamdjdaa.G
open Go Go.RowKit Go.Proofs.YtchmhcfdamdjdaaW.PrintWords Go.Proofs.YtchmhcfdamdjdaaW.PrintLast Go.Proofs.YtchmhcfdamdjdaaW.PrintMore

/-- The bytes from a place on. -/
def fromB (bs : List Int) (p : Int) : Nat → List Int
  | 0 => []
  | n + 1 => fromB bs p n ++ [rd bs (p + n)]
theorem fromB_len (bs : List Int) (p : Int) : ∀ n, (fromB bs p n).length = n
  | 0 => rfl
  | n + 1 => by rw [fromB, List.length_append, fromB_len bs p n]; rfl
/-- The numbers of two bytes from a place on, summed up. -/
def sumsB (bs : List Int) (p : Int) : Nat → List Int × Int
  | 0 => ([], 0)
  | n + 1 => ((sumsB bs p n).1 ++ [(sumsB bs p n).2 + sgn16 (u2 bs (p + 2 * n))], (sumsB bs p n).2 + sgn16 (u2 bs (p + 2 * n)))
theorem sumsB_len (bs : List Int) (p : Int) : ∀ n, (sumsB bs p n).1.length = n
  | 0 => rfl
  | n + 1 => by rw [sumsB, List.length_append, sumsB_len bs p n]; rfl
theorem sgn16_bd {x : Int} (h0 : 0 ≤ x) (h1 : x < 65536) : -32768 ≤ sgn16 x ∧ sgn16 x < 32768 := by
  unfold sgn16
  split <;> omega
theorem sumsB_bd {bs : List Int} (ho : okB bs) {p : Int} (h0 : 0 ≤ p) : ∀ n : Nat, p + 2 * n ≤ bs.length → -32768 * (n : Int) ≤ (sumsB bs p n).2 ∧ (sumsB bs p n).2 ≤ 32768 * (n : Int)
  | 0, _ => by simp [sumsB]
  | n + 1, h => by
    have a := sumsB_bd ho h0 n (by omega)
    have b := u2_bd ho (p := p + 2 * n) (by omega) (by omega)
    have c := sgn16_bd b.1 b.2
    rw [sumsB]
    dsimp only
    omega
def lenOf : Value → Nat
  | .slice _ n _ => n
  | _ => 0
set_option maxRecDepth 100000 in
set_option maxHeartbeats 2000000 in
theorem flags_calls (bs : List Int) (ho : okB bs) (g gv : Nat) (p : Int) (n : Nat) (w : World) (h : Rd w 86 g gv bs p) (h0 : 0 ≤ p) (h1 : p + n ≤ bs.length) (hz : ∀ i : Nat, i < n → Go.bits .and .i64 (rd bs (p + i)) 8 = 0) (hl : bs.length ≤ 1048576) :
    Calls Try.prog 58 #[.pointer (some ⟨g, 0, none⟩), .int .i64 n] w fun e w' => ∃ A c, e = .returned (.slice A n c) ∧ Kd.R (Kd.int .i64) 3 w' w.heap.size (fun _ => True) (.slice A n c) (fromB bs p n) ∧ On w 86 g gv bs (p + n) w' := by
  have H := Aside0.mk h
  have U := Aside0.mk (fun (W : World) (q : Int) (k : Rd W 86 g gv bs q) (a : 0 ≤ q) (b : q < bs.length) => gu8_calls bs ho g gv q W k a b (by omega))
  have HZ := Aside0.mk hz
  have NB := Aside0.mk (show n ≤ 1048576 by omega)
  have PB := Aside0.mk (And.intro h0 h1)
  have GB := Aside0.mk (blk_lt h.bk)
  have O0 : Aside0 (On w 86 g gv bs (p + (0 : Nat)) w) := ⟨by have := On.refl h; rwa [show p + ((0 : Nat) : Int) = p by omega]⟩
  have R0 : Aside0 (Kd.R (Kd.int .i64) 3 w w.heap.size (fun _ => True) (.slice none 0 0) (fromB bs p 0)) := ⟨Kd.R_nil _ _ _ _ _⟩
  clear h hz hl h0 h1 ho
  go_enter Try.func58, Try.ntmps58
  go_wp2
  go_loopw [5] (fun v5 wr => ∃ (j : Nat) (A : Option Addr) (c : Nat), v5 = .slice A j c ∧ j ≤ n ∧ Aside0 (Kd.R (Kd.int .i64) 3 wr w.heap.size (fun _ => True) (.slice A j c) (fromB bs p j)) ∧ Aside0 (On w 86 g gv bs (p + j) wr)) (fun v5 _ => n - lenOf v5)
  case atStart => exact ⟨0, none, 0, rfl, Nat.zero_le _, R0, O0⟩
  case round =>
    obtain ⟨j, A, c, rfl, hj, HR, HO⟩ := hrel
    clear R0 O0
    by_cases jl : j < n
    · have jl1 := eq_true jl
      have jl2 := eq_true (show (j : Int) < (n : Int) by omega)
      have JL := Aside0.mk jl
      have zq := HZ.out j jl
      have m1 := eq_true (show (1 : Int) ≤ (n : Int) - (j : Int) by omega)
      have m2 : (n : Int) - (j : Int) ≤ 9223372036854775807 := by have := NB.out; omega
      have m3 : -9223372036854775808 ≤ (n : Int) - (j : Int) := by omega
      have UU := Aside0.mk (U.out wr (p + j) HO.out.rd (by have := PB.out; omega) (by have := PB.out; omega))
      obtain ⟨f, hf⟩ : ∃ f, rd bs (p + j) = f := ⟨_, rfl⟩
      have HF := Aside0.mk hf
      rw [hf] at UU zq
      have zb : (Go.bits .and .i64 f 8 == 0) = true := beq_iff_eq.2 zq
      have zc : (Go.bits .and .i64 f 8 != 0) = false := by rw [bne, zb]; rfl
      clear hf jl
      go_upto_region 8 with (first | (go_at_call 60; refine UU.out.mono ?_; rintro e w5 ⟨rfl, k1⟩; have O5 := Aside0.mk (On.trans HO.out k1); have R5 := Aside0.mk (R_grown HR.out k1.gr GB.out); clear k1) | (go_at_call 38; refine (gmust_ok _ _).mono ?_; rintro e w6 ⟨rfl, rfl⟩))
      go_wp2
      refine wp_loop_rounds 2 ?_
      rw [rounds_succ]
      go_wp2_with ((with_reducible refine gate_builtin (b := .append) (xs := #[.tmp 31, .tmp 33]) rfl ?_); at_builtin; refine Kd.R_append (Kd.int .i64) (w0 := w6) w.heap.size rfl (.tmp 31) (.tmp 33) 24 3 (.int .i64 0) 8 rfl Try.underlying24 info3 rfl (by decide) (by omega) (.slice A j c) (fromB bs p j) f [.int .i64 f] (fun _ => True) (fun _ => False) rfl (by first | (go_simp; done) | (go_simp; rfl)) ?aP (fun _ hk => hk.elim) ?aF ?aO ?aB ?aS ?aL ?_; (case aP => exact rfl); (case aF => exact fun _ _ => trivial); (case aO => exact R5.out); (case aB => exact Below.refl _ _); (case aS => exact O5.out.gr.size); (case aL => rw [fromB_len]; have := NB.out; omega); intro v60 w60 k1 k2 k3 k4; obtain ⟨A60, c60, e60⟩ := Kd.R_slice k1; rw [List.length_append, List.length_singleton, fromB_len] at e60; subst e60; have O60 := Aside0.mk (On.own H.out (by decide) O5.out k3 (fun k hk => Kd.R_base R5.out k hk)); have R60 := Aside0.mk k1; clear k1 k2 k3 k4)
      rw [rounds_succ]
      go_wp2
      refine ⟨⟨j + 1, A60, c60, rfl, JL.out, ⟨?_⟩, ⟨?_⟩⟩, ?_⟩
      · rw [fromB, HF.out]
        exact R60.out
      · have z := O60.out
        rwa [show p + (j : Int) + 1 = p + ((j + 1 : Nat) : Int) by push_cast; omega] at z
      · show n - (j + 1) < n - j
        have := JL.out
        omega
    · obtain rfl : j = n := by omega
      have jl1 := eq_false jl
      have jl2 := eq_false (show ¬ (j : Int) < (j : Int) by omega)
      go_wp2
      go_ret
      exact ⟨_, _, rfl, HR.out, HO.out⟩
set_option maxRecDepth 100000 in
set_option maxHeartbeats 2000000 in
theorem places_calls (bs : List Int) (ho : okB bs) (g gv : Nat) (p : Int) (w : World) (h : Rd w 86 g gv bs p) (F : Option Addr) (n cF : Nat) (fl : List Int) (sh sm : Int) (hf : ∀ W : World, w.grownBy W (some g) → Kd.C (Kd.int .i64) W F n fl) (hz : ∀ i : Nat, i < n → Go.bits .and .i64 (rd fl i) sh = 0 ∧ Go.bits .and .i64 (rd fl i) sm = 0) (h0 : 0 ≤ p) (h1 : p + 2 * n ≤ bs.length) (hl : bs.length ≤ 1048576) :
    Calls Try.prog 59 #[.pointer (some ⟨g, 0, none⟩), .slice F n cF, .int .i64 sh, .int .i64 sm] w fun e w' => ∃ A c, e = .returned (.slice A n c) ∧ Kd.R (Kd.int .i64) 3 w' w.heap.size (fun _ => True) (.slice A n c) (sumsB bs p n).1 ∧ On w 86 g gv bs (p + 2 * n) w' := by
  have H := Aside0.mk h
  have HF := Aside0.mk hf
  have U := Aside0.mk (fun (W : World) (q : Int) (k : Rd W 86 g gv bs q) (a : 0 ≤ q) (b : q + 1 < bs.length) => gi16_calls bs ho g gv q W k a b (by omega))
  have HZ := Aside0.mk hz
  have NB := Aside0.mk (show n ≤ 1048576 by omega)
  have PB := Aside0.mk (And.intro h0 h1)
  have GB := Aside0.mk (blk_lt h.bk)
  have SB := Aside0.mk (fun (j : Nat) (k : j < n) => (show -32768 * (j : Int) ≤ (sumsB bs p j).2 ∧ (sumsB bs p j).2 ≤ 32768 * (j : Int) ∧ -32768 ≤ sgn16 (u2 bs (p + 2 * j)) ∧ sgn16 (u2 bs (p + 2 * j)) < 32768 from by
    have a := sumsB_bd ho h0 j (by omega)
    have b := u2_bd ho (p := p + 2 * j) (by omega) (by omega)
    have c := sgn16_bd b.1 b.2
    exact ⟨a.1, a.2, c.1, c.2⟩))
  have O0 : Aside0 (On w 86 g gv bs (p + 2 * (0 : Nat)) w) := ⟨by have := On.refl h; rwa [show p + 2 * ((0 : Nat) : Int) = p by omega]⟩
  have R0 : Aside0 (Kd.R (Kd.int .i64) 3 w w.heap.size (fun _ => True) (.slice none 0 0) (sumsB bs p 0).1) := ⟨Kd.R_nil _ _ _ _ _⟩
  clear h hz hl h0 h1 ho hf
  go_enter Try.func59, Try.ntmps59
  go_wp2
  go_loopw [9, 10, 15] (fun v9 v10 v15 wr => ∃ (j : Nat) (A : Option Addr) (c : Nat), v9 = .slice A j c ∧ v10 = .int .i64 (sumsB bs p j).2 ∧ v15 = .int .i64 j ∧ j ≤ n ∧ Aside0 (Kd.R (Kd.int .i64) 3 wr w.heap.size (fun _ => True) (.slice A j c) (sumsB bs p j).1) ∧ Aside0 (On w 86 g gv bs (p + 2 * j) wr)) (fun v9 _ _ _ => n - lenOf v9)
  case atStart => exact ⟨0, none, 0, rfl, rfl, rfl, Nat.zero_le _, R0, O0⟩
  case round =>
    obtain ⟨j, A, c, rfl, rfl, rfl, hj, HR, HO⟩ := hrel
    clear R0 O0
    by_cases jl : j < n
    · have jl1 := eq_true jl
      have jl2 := eq_true (show (j : Int) < (n : Int) by omega)
      have jp := eq_true (show (0 : Int) ≤ (j : Int) by omega)
      have j64 : (j : Int) + 1 ≤ 9223372036854775807 := by have := NB.out; omega
      have JL := Aside0.mk jl
      have zq := HZ.out j jl
      obtain ⟨ad, e9, x9⟩ := Kd.at_int (HF.out wr HO.out.gr) (j : Int) (by omega) (by omega)
      rw [Int.toNat_natCast] at x9
      have sb := SB.out j jl
      have UU := Aside0.mk (U.out wr (p + 2 * j) HO.out.rd (by have := PB.out; omega) (by have := PB.out; omega))
      obtain ⟨f, hf⟩ : ∃ f, rd fl (j : Int) = f := ⟨_, rfl⟩
      obtain ⟨s, hs⟩ : ∃ s, sgn16 (u2 bs (p + 2 * (j : Int))) = s := ⟨_, rfl⟩
      obtain ⟨m, hm⟩ : ∃ m, (sumsB bs p j).2 = m := ⟨_, rfl⟩
      have HS := Aside0.mk hs
      have HM := Aside0.mk hm
      rw [hf] at zq x9
      rw [hs] at UU sb
      rw [hm] at sb
      have zb : (Go.bits .and .i64 f sh == 0) = true := beq_iff_eq.2 zq.1
      have zc : (Go.bits .and .i64 f sh != 0) = false := by rw [bne, zb]; rfl
      have yb : (Go.bits .and .i64 f sm == 0) = true := beq_iff_eq.2 zq.2
      have yc : (Go.bits .and .i64 f sm != 0) = false := by rw [bne, yb]; rfl
      have zq1 := zq.1
      have zq2 := zq.2
      have s1 : m + s ≤ 9223372036854775807 := by have := NB.out; omega
      have s2 : -9223372036854775808 ≤ m + s := by have := NB.out; omega
      rw [hm]
      clear hf hs hm jl sb zq
      subst e9
      go_wp2_with (first | (go_at_call 41; refine UU.out.mono ?_; rintro e w5 ⟨rfl, k1⟩; have O5 := Aside0.mk (On.trans HO.out k1); have R5 := Aside0.mk (R_grown HR.out k1.gr GB.out); clear k1) | ((with_reducible refine gate_builtin (b := .append) (xs := #[.tmp 52, .tmp 54]) rfl ?_); at_builtin; refine Kd.R_append (Kd.int .i64) (w0 := w5) w.heap.size rfl (.tmp 52) (.tmp 54) 24 3 (.int .i64 0) 8 rfl Try.underlying24 info3 rfl (by decide) (by omega) (.slice A j c) (sumsB bs p j).1 (m + s) [.int .i64 (m + s)] (fun _ => True) (fun _ => False) rfl (by first | (go_simp; done) | (go_simp; rfl)) ?aP (fun _ hk => hk.elim) ?aF ?aO ?aB ?aS ?aL ?_; (case aP => exact rfl); (case aF => exact fun _ _ => trivial); (case aO => exact R5.out); (case aB => exact Below.refl _ _); (case aS => exact O5.out.gr.size); (case aL => rw [sumsB_len]; have := NB.out; omega); intro v60 w60 k1 k2 k3 k4; obtain ⟨A60, c60, e60⟩ := Kd.R_slice k1; rw [List.length_append, List.length_singleton, sumsB_len] at e60; subst e60; have O60 := Aside0.mk (On.own H.out (by decide) O5.out k3 (fun k hk => Kd.R_base R5.out k hk)); have R60 := Aside0.mk k1; clear k1 k2 k3 k4))
      refine ⟨⟨j + 1, A60, c60, rfl, ?_, by push_cast; rfl, JL.out, ⟨?_⟩, ⟨?_⟩⟩, ?_⟩
      · rw [sumsB, HM.out, HS.out]
      · rw [sumsB, HM.out, HS.out]
        exact R60.out
      · have z := O60.out
        rwa [show p + 2 * (j : Int) + 2 = p + 2 * ((j + 1 : Nat) : Int) by push_cast; omega] at z
      · show n - (j + 1) < n - j
        have := JL.out
        omega
    · obtain rfl : j = n := by omega
      have jl1 := eq_false jl
      have jl2 := eq_false (show ¬ (j : Int) < (j : Int) by omega)
      go_wp2
      go_ret
      exact ⟨_, _, rfl, HR.out, HO.out⟩
end Go.Proofs.Ytchmhcfdamdjdaa.G
