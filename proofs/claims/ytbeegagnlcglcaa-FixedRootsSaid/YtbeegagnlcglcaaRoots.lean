/- fixed.Root and the reference's Root, in plain arithmetic. -/
import Derived.Test.YtbeegagnlcglcaaFix
import Derived.Test.YtbeegagnlcglcaaXx4
import Derived.Test.YtbeegagnlcglcaaXx4
set_option linter.unusedVariables false
set_option linter.unusedSimpArgs false
namespace Go.Proofs.Ytbeegagnlcglcaa.X
open Go Go.RowKit Go.Proofs.YtbeegagnlcglcaaW.PrintWords Go.Proofs.YtbeegagnlcglcaaW.PrintLast Go.Proofs.YtbeegagnlcglcaaW.PrintMore

theorem le_div_iff' {r n t : Int} (ht : 0 < t) : r ≤ n / t ↔ r * t ≤ n := Int.le_ediv_iff_mul_le ht
/-- r is n's root, rounded down. -/
def IsRoot (n r : Int) : Prop := 0 ≤ r ∧ r * r ≤ n ∧ n < (r + 1) * (r + 1)
theorem IsRoot.uniq {n r s : Int} (a : IsRoot n r) (b : IsRoot n s) : r = s := by
  obtain ⟨a0, a1, a2⟩ := a; obtain ⟨b0, b1, b2⟩ := b
  rcases Int.lt_trichotomy r s with h | h | h
  · have := Int.mul_self_le_mul_self (show 0 ≤ r + 1 by omega) (show r + 1 ≤ s by omega); omega
  · exact h
  · have := Int.mul_self_le_mul_self (show 0 ≤ s + 1 by omega) (show s + 1 ≤ r by omega); omega
theorem sq_le {a b : Int} (h0 : 0 ≤ a) (h : a ≤ b) : a * a ≤ b * b := Int.mul_self_le_mul_self h0 h

theorem root_l0 (n : Int) (h0 : 0 < n) (h1 : n ≤ 9223372036854775807) : ∀ (j : Nat) (r : Int), j ≤ 32 → 0 ≤ r → r * r ≤ n → n < (r + 2 ^ j) * (r + 2 ^ j) → r + 2 ^ j ≤ 4294967296 →
    ∃ s, IsRoot n s ∧ Ev (fun k => fixed_Root.l0 k n r (if j = 0 then 0 else 2 ^ (j - 1))) s := by
  intro j
  induction j with
  | zero =>
    intro r _ hr hl hu _
    refine ⟨r, ⟨hr, hl, by simpa using hu⟩, Ev.intro 1 fun k => ?_⟩
    simp [fixed_Root.l0]
  | succ j ih =>
    intro r hj hr hl hu hb
    have p1 : (2 : Int) ^ (j + 1) = 2 * 2 ^ j := by rw [Int.pow_succ]; omega
    have p0 : (0 : Int) < 2 ^ j := Int.pow_pos (by decide)
    have half : (2 : Int) ^ j / 2 = if j = 0 then 0 else 2 ^ (j - 1) := by
      cases j with
      | zero => simp
      | succ j => simp only [Nat.succ_ne_zero, if_false, Nat.add_sub_cancel]; rw [Int.pow_succ]; omega
    have e : (if j + 1 = 0 then (0 : Int) else 2 ^ (j + 1 - 1)) = 2 ^ j := by simp
    rw [p1] at hu hb
    have rl : r ≤ 3037000500 := by
      by_cases c : r ≤ 3037000500
      · exact c
      · have := sq_le (show (0 : Int) ≤ 3037000500 by omega) (show 3037000500 ≤ r by omega); omega
    have w1 : wrap64 (r + 2 ^ j) = r + 2 ^ j := wrap64_in' (by omega) (by omega)
    have q0 : 0 ≤ n / (r + 2 ^ j) := Int.ediv_nonneg (by omega) (by omega)
    have q1 : n / (r + 2 ^ j) ≤ n := Int.ediv_le_self _ (by omega)
    have w2 : wrap64 (Int.tdiv n (r + 2 ^ j)) = n / (r + 2 ^ j) := by rw [Int.tdiv_eq_ediv_of_nonneg (by omega)]; exact wrap64_in' (by omega) (by omega)
    have dv := le_div_iff' (r := r + 2 ^ j) (n := n) (t := r + 2 ^ j) (by omega)
    rw [e]
    have step : ∀ k, fixed_Root.l0 (k + 1) n r (2 ^ j) = if r + 2 ^ j ≤ n / (r + 2 ^ j) then fixed_Root.l0 k n (r + 2 ^ j) (2 ^ j / 2) else fixed_Root.l0 k n r (2 ^ j / 2) := by
      intro k
      simp only [fixed_Root.l0]
      rw [if_pos (by omega), w1, w2, if_neg (by omega)]
    by_cases c : r + 2 ^ j ≤ n / (r + 2 ^ j)
    · obtain ⟨s, hs, hev⟩ := ih (r + 2 ^ j) (by omega) (by omega) (dv.1 c) (by rw [show r + 2 ^ j + 2 ^ j = r + 2 * 2 ^ j by omega]; exact hu) (by omega)
      refine ⟨s, hs, Ev.step (f := fun k => fixed_Root.l0 k n (r + 2 ^ j) (2 ^ j / 2)) (fun k => by rw [step, if_pos c]) (by rw [half]; exact hev)⟩
    · obtain ⟨s, hs, hev⟩ := ih r (by omega) hr hl (by have := mt dv.2 c; omega) (by omega)
      refine ⟨s, hs, Ev.step (f := fun k => fixed_Root.l0 k n r (2 ^ j / 2)) (fun k => by rw [step, if_neg c]) (by rw [half]; exact hev)⟩
theorem root_ev (n : Int) (h : I64 n) (h0 : 0 < n) : ∃ s, IsRoot n s ∧ Ev (fun k => fixed_Root.f k n) s := by
  obtain ⟨s, hs, hev⟩ := root_l0 n h0 h.2 32 0 (by omega) (by omega) (by omega) (by have := h.2; simp; omega) (by simp)
  refine ⟨s, hs, ?_⟩
  unfold fixed_Root.f
  simp only [if_neg (show ¬ n ≤ 0 by omega)]
  simpa using hev

theorem rroot_l0 (n : Int) (h0 : 0 < n) (h1 : n ≤ 9223372036854775807) : ∀ (d : Nat) (lo hi : Int), (hi - lo).toNat ≤ d → 0 ≤ lo → lo < hi → hi ≤ 3037000500 → lo * lo ≤ n → n < hi * hi →
    ∃ s, IsRoot n s ∧ Ev (fun k => serifref01_Root.l0 k n lo hi) s := by
  intro d
  induction d with
  | zero => intro lo hi hd _ _ _ _ _; omega
  | succ d ih =>
    intro lo hi hd l0 lh hb hl hu
    have w1 : wrap64 (hi - lo) = hi - lo := wrap64_in' (by omega) (by omega)
    by_cases c : hi - lo > 1
    · have w2 : wrap64 (lo + hi) = lo + hi := wrap64_in' (by omega) (by omega)
      have w3 : wrap64 (Int.tdiv (lo + hi) 2) = (lo + hi) / 2 := by rw [Int.tdiv_eq_ediv_of_nonneg (by omega)]; exact wrap64_in' (by omega) (by omega)
      have m0 : lo < (lo + hi) / 2 ∧ (lo + hi) / 2 < hi := by omega
      have q0 : 0 ≤ n / ((lo + hi) / 2) := Int.ediv_nonneg (by omega) (by omega)
      have q1 : n / ((lo + hi) / 2) ≤ n := Int.ediv_le_self _ (by omega)
      have w4 : wrap64 (Int.tdiv n ((lo + hi) / 2)) = n / ((lo + hi) / 2) := by rw [Int.tdiv_eq_ediv_of_nonneg (by omega)]; exact wrap64_in' (by omega) (by omega)
      have dv := le_div_iff' (r := (lo + hi) / 2) (n := n) (t := (lo + hi) / 2) (by omega)
      have step : ∀ k, serifref01_Root.l0 (k + 1) n lo hi = if (lo + hi) / 2 ≤ n / ((lo + hi) / 2) then serifref01_Root.l0 k n ((lo + hi) / 2) hi else serifref01_Root.l0 k n lo ((lo + hi) / 2) := by
        intro k
        simp only [serifref01_Root.l0]
        rw [w1, if_pos c, w2, w3, w4, if_neg (by omega)]
      clear w1 w2 w3 w4
      by_cases c2 : (lo + hi) / 2 ≤ n / ((lo + hi) / 2)
      · obtain ⟨s, hs, hev⟩ := ih ((lo + hi) / 2) hi (by omega) (by omega) (by omega) hb (dv.1 c2) hu
        exact ⟨s, hs, Ev.step (f := fun k => serifref01_Root.l0 k n ((lo + hi) / 2) hi) (fun k => by rw [step, if_pos c2]) hev⟩
      · obtain ⟨s, hs, hev⟩ := ih lo ((lo + hi) / 2) (by omega) (by omega) (by omega) (by omega) hl (by have := mt dv.2 c2; omega)
        exact ⟨s, hs, Ev.step (f := fun k => serifref01_Root.l0 k n lo ((lo + hi) / 2)) (fun k => by rw [step, if_neg c2]) hev⟩
    · have : hi = lo + 1 := by omega
      subst this
      refine ⟨lo, ⟨l0, hl, hu⟩, Ev.intro 1 fun k => ?_⟩
      simp only [serifref01_Root.l0]; rw [w1, if_neg c]
theorem rroot_ev (n : Int) (h : I64 n) (h0 : 0 < n) : ∃ s, IsRoot n s ∧ Ev (fun k => serifref01_Root.f k n) s := by
  obtain ⟨s, hs, hev⟩ := rroot_l0 n h0 h.2 _ 0 3037000500 (Nat.le_refl _) (by omega) (by omega) (by omega) (by omega) (by have := h.2; omega)
  refine ⟨s, hs, ?_⟩
  unfold serifref01_Root.f
  simp only [if_neg (show ¬ n < 0 by omega)]
  exact hev
end Go.Proofs.Ytbeegagnlcglcaa.X
