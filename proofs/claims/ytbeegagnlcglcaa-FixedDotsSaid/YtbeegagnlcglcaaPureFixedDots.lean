/- FixedDots answers true for any two vectors: Dot is the reference's. No condition. -/
import Derived.Test.YtbeegagnlcglcaaFix
import Derived.Test.YtbeegagnlcglcaaXx4
set_option linter.unusedVariables false
set_option linter.unusedSimpArgs false
namespace Go.Proofs.Ytbeegagnlcglcaa.Pure
open Go Go.RowKit Go.Proofs.Ytbeegagnlcglcaa.X Go.Proofs.YtbeegagnlcglcaaW.PrintWords Go.Proofs.YtbeegagnlcglcaaW.PrintLast
theorem fix_f2 (n : Int) : serifref01_Fix.f n = some (isFix n) := by
  unfold serifref01_Fix.f isFix
  by_cases h : n ≥ -2147483647
  · rw [if_pos h, decide_eq_true (show -2147483647 ≤ n by omega), Bool.true_and]
  · rw [if_neg h, decide_eq_false (show ¬ -2147483647 ≤ n by omega), Bool.false_and]
theorem fix_mul {a b : Int} (ha : isFix a = true) (hb : isFix b = true) : -4611686014132420609 ≤ a * b ∧ a * b ≤ 4611686014132420609 := by
  rw [isFix_iff] at ha hb
  have e : absI (a * b) = absI a * absI b := absI_mul a b
  have a1 : absI a ≤ 2147483647 := by unfold absI; split <;> omega
  have b1 : absI b ≤ 2147483647 := by unfold absI; split <;> omega
  have m := mul_lt_of (absI_nonneg a) (absI_nonneg b) a1 b1
  rw [← e] at m
  unfold absI at m
  split at m <;> omega
/-- The reference's Dot, as one number. -/
def dotS (n : Int) : Int × Int :=
  if nearest (absI n) 16384 > 2147483647 then (0, 14) else if n < 0 then (-(nearest (absI n) 16384), 0) else (nearest (absI n) 16384, 0)
theorem mulD_one (n : Int) : mulD n 1 16384 = dotS n := by
  unfold mulD dotS
  have e : absI n * absI 1 = absI n := by rw [show absI 1 = 1 by decide, Int.mul_one]
  rw [if_neg (by decide), e, show absI 16384 = 16384 by decide]
  have : (mulDneg n 1 16384 = true) = (n < 0) := by
    unfold mulDneg
    by_cases h : n < 0 <;> simp [h]
  simp only [this]
theorem rdot_j0 (a b c d n : Int) (hn : wrap64 (wrap64 (a * c) + wrap64 (b * d)) = n) (h0 : -9223372036854775807 ≤ n) (h1 : n ≤ 9223372036854775807) (k : Nat) : serifref01_Dot.j0 (k + 1) a b c d false = some (dotS n) := by
  simp only [serifref01_Dot.j0, Bool.false_eq_true, if_false, hn]
  unfold dotS
  by_cases hlt : n < 0
  · rw [if_pos hlt, wrap64_in' (n := -n) (by omega) (by omega), Int.tmod_eq_emod_of_nonneg (by omega), Int.tdiv_eq_ediv_of_nonneg (by omega), wrap64_in' (n := -n / 16384) (by omega) (by omega), wrap64_in' (n := -n / 16384 + 1) (by omega) (by omega)]
    have e : absI n = -n := by unfold absI; rw [if_pos hlt]
    rw [e, nearest_eq _ _ (by omega)]
    by_cases c1 : -n % 16384 ≥ 8192
    · rw [if_pos c1, if_pos (show 2 * (-n % 16384) ≥ 16384 by omega), wrap64_in' (n := -(-n / 16384 + 1)) (by omega) (by omega)]
      by_cases c2 : -n / 16384 + 1 > 2147483647
      · rw [if_pos c2, if_pos c2]
      · rw [if_neg c2, if_neg c2, if_pos hlt]
    · rw [if_neg c1, if_neg (show ¬ 2 * (-n % 16384) ≥ 16384 by omega), wrap64_in' (n := -(-n / 16384)) (by omega) (by omega)]
      by_cases c2 : -n / 16384 > 2147483647
      · rw [if_pos c2, if_pos c2]
      · rw [if_neg c2, if_neg c2, if_pos hlt]
  · rw [if_neg hlt, Int.tmod_eq_emod_of_nonneg (by omega), Int.tdiv_eq_ediv_of_nonneg (by omega), wrap64_in' (n := n / 16384) (by omega) (by omega), wrap64_in' (n := n / 16384 + 1) (by omega) (by omega)]
    have e : absI n = n := by unfold absI; rw [if_neg hlt]
    rw [e, nearest_eq _ _ (by omega)]
    by_cases c1 : n % 16384 ≥ 8192
    · rw [if_pos c1, if_pos (show 2 * (n % 16384) ≥ 16384 by omega)]
      by_cases c2 : n / 16384 + 1 > 2147483647
      · rw [if_pos c2, if_pos c2]
      · rw [if_neg c2, if_neg c2, if_neg hlt]
    · rw [if_neg c1, if_neg (show ¬ 2 * (n % 16384) ≥ 16384 by omega)]
      by_cases c2 : n / 16384 > 2147483647
      · rw [if_pos c2, if_pos c2]
      · rw [if_neg c2, if_neg c2, if_neg hlt]
theorem dot_both (a b c d : Int) : ∃ r, Ev (fun k => serifref01_Dot.f k a b c d) r ∧ Ev (fun k => fixed_Dot.f k a b c d) r := by
  have al := all_ev [a, b, c, d] (by simp)
  by_cases h : isFix a = true ∧ isFix b = true ∧ isFix c = true ∧ isFix d = true
  · obtain ⟨ha, hb, hc, hd⟩ := h
    have m1 := fix_mul ha hc; have m2 := fix_mul hb hd
    have w : wrap64 (wrap64 (a * c) + wrap64 (b * d)) = a * c + b * d := by
      rw [wrap64_in' (n := a * c) (by omega) (by omega), wrap64_in' (n := b * d) (by omega) (by omega), wrap64_in' (by omega) (by omega)]
    refine ⟨dotS (a * c + b * d), ?_, ?_⟩
    · refine Ev.intro 1 fun k => ?_
      simp only [serifref01_Dot.f, fix_f2, Option.bind_some, ha, hb, hc, hd, if_true, Bool.not_true]
      exact rdot_j0 a b c d _ w (by omega) (by omega) k
    · unfold fixed_Dot.f
      refine Ev.bind al ?_
      simp only [List.all_cons, List.all_nil, ha, hb, hc, hd, Bool.and_self, if_true, w]
      refine Ev.bind (mulDiv_ev (by unfold I64; omega) (by unfold I64; omega) (by unfold I64; omega)) ?_
      rw [mulD_one]; exact Ev.now _
  · refine ⟨(0, 14), ?_, ?_⟩
    · refine Ev.intro 1 fun k => ?_
      simp only [serifref01_Dot.f, fix_f2, Option.bind_some]
      by_cases ha : isFix a = true
      · by_cases hb : isFix b = true
        · by_cases hc : isFix c = true
          · have hd : isFix d = false := by
              by_cases hd : isFix d = true
              · exact absurd ⟨ha, hb, hc, hd⟩ h
              · simpa using hd
            simp [ha, hb, hc, hd, serifref01_Dot.j0]
          · simp [ha, hb, hc, serifref01_Dot.j0]
        · simp [ha, hb, serifref01_Dot.j0]
      · simp [ha, serifref01_Dot.j0]
    · unfold fixed_Dot.f
      refine Ev.bind al ?_
      have : [a, b, c, d].all isFix = false := by
        rw [← Bool.not_eq_true]; intro z; apply h; simpa using z
      rw [this]; exact Ev.now _
theorem FixedDots : seriflaw01_FixedDots.Pure := by
  intro x y hx hy
  apply Ev.rounds
  unfold seriflaw01_FixedDots.f
  refine Ev.bind alive_ev ?_
  simp only [if_true]
  obtain ⟨r, h1, h2⟩ := dot_both x.f0 x.f1 y.f0 y.f1
  refine Ev.bind h1 (Ev.bind h2 ?_)
  simp only [if_true, beq_self_eq_true]
  exact Ev.now true
end Go.Proofs.Ytbeegagnlcglcaa.Pure
