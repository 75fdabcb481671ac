/- FixedLess answers true for any two quotients: Less is the reference's, and of two just one is less. No condition. -/
import Derived.Test.YtbeegagnlcglcaaXx29
import Derived.Test.YtbeegagnlcglcaaXx30
import Derived.Test.YtbeegagnlcglcaaLongA
import Derived.Test.YtbeegagnlcglcaaXx31
set_option linter.unusedVariables false
set_option linter.unusedSimpArgs false
namespace Go.Proofs.Ytbeegagnlcglcaa.Pure
open Go Go.RowKit Go.Proofs.Ytbeegagnlcglcaa.X Go.Proofs.YtbeegagnlcglcaaW.PrintWords Go.Proofs.YtbeegagnlcglcaaW.PrintLast Go.Proofs.YtbeegagnlcglcaaW.PrintMore
def lessS (a b c d : Int) : Bool := if b ≤ 0 then false else if d ≤ 0 then false else if a < 0 then (if c < 0 then decide (absI c * absI b < absI a * absI d) else true) else if c < 0 then false else decide (absI a * absI d < absI c * absI b)
theorem less_ev {a b c d : Int} (ha : I64 a) (hb : I64 b) (hc : I64 c) (hd : I64 d) : Ev (fun k => fixed_Less.f k a b c d) (lessS a b c d) := by
  unfold fixed_Less.f lessS
  by_cases h1 : b ≤ 0
  · simp only [if_pos h1]; exact Ev.intro 1 fun k => by simp [fixed_Less.j0]
  · by_cases h2 : d ≤ 0
    · simp only [if_neg h1, if_pos h2]; exact Ev.intro 1 fun k => by simp [fixed_Less.j0]
    · simp only [if_neg h1, if_neg h2]
      refine Ev.intro 1 fun k => ?_
      have n0 : 0 ≤ absI a * absI d := Int.mul_nonneg (absI_nonneg a) (absI_nonneg d)
      have m0 : 0 ≤ absI c * absI b := Int.mul_nonneg (absI_nonneg c) (absI_nonneg b)
      simp only [fixed_Less.j0, Bool.false_eq_true, if_false, times_f ha hd, times_f hc hb, Option.bind_some]
      generalize absI a * absI d = M at *
      generalize absI c * absI b = N at *
      by_cases h3 : a < 0
      · by_cases h4 : c < 0
        · simp only [if_pos h3, if_pos h4]
          repeat' split
          all_goals (congr 1; symm; first | exact decide_eq_true (by omega) | exact decide_eq_false (by omega))
        · simp only [if_pos h3, if_neg h4]
      · by_cases h4 : c < 0
        · simp only [if_neg h3, if_pos h4]
        · simp only [if_neg h3, if_neg h4]
          repeat' split
          all_goals (congr 1; symm; first | exact decide_eq_true (by omega) | exact decide_eq_false (by omega))
theorem rless_j2 {a b c d : Int} (ha : I64 a) (hb : I64 b) (hc : I64 c) (hd : I64 d) (k : Nat) : serifref01_Less.j2 (k + 1) a b c d false = some (if a < 0 then decide (absI c * absI b < absI a * absI d) else decide (absI a * absI d < absI c * absI b)) := by
  have a0 := absI_nonneg a; have b0 := absI_nonneg b; have c0 := absI_nonneg c; have d0 := absI_nonneg d
  have a1 := absI_le ha; have b1 := absI_le hb; have c1 := absI_le hc; have d1 := absI_le hd
  have n0 : 0 ≤ absI a * absI d := Int.mul_nonneg a0 d0
  have m0 : 0 ≤ absI c * absI b := Int.mul_nonneg c0 b0
  have n1 : absI a * absI d ≤ 9223372036854775808 * 9223372036854775808 := mul_lt_of a0 d0 a1 d1
  have m1 : absI c * absI b ≤ 9223372036854775808 * 9223372036854775808 := mul_lt_of c0 b0 c1 b1
  simp only [serifref01_Less.j2, Bool.false_eq_true, if_false]
  rw [sizeD ha, sizeD hb, sizeD hc, sizeD hd]
  simp only [Option.bind_some]
  rw [timesD a0 (by omega) d0 (by omega), timesD c0 (by omega) b0 (by omega)]
  simp only [Option.bind_some]
  rw [underD n0 (by omega) m0 (by omega), underD m0 (by omega) n0 (by omega)]
  simp only [Option.bind_some]
  split <;> rfl
theorem rless_ev {a b c d : Int} (ha : I64 a) (hb : I64 b) (hc : I64 c) (hd : I64 d) : Ev (fun k => serifref01_Less.f k a b c d) (lessS a b c d) := by
  unfold serifref01_Less.f lessS
  by_cases h1 : b ≤ 0
  · simp only [if_pos h1]; exact Ev.intro 1 fun k => by simp [serifref01_Less.j0]
  · by_cases h2 : d ≤ 0
    · simp only [if_neg h1, if_pos h2]; exact Ev.intro 1 fun k => by simp [serifref01_Less.j0, h2]
    · simp only [if_neg h1, if_neg h2]
      refine Ev.intro 3 fun k => ?_
      have j2 := rless_j2 ha hb hc hd k
      by_cases h3 : a < 0
      · by_cases h4 : c < 0
        · have e1 : ¬ c ≥ 0 := by omega
          have e2 : ¬ a ≥ 0 := by omega
          simp [serifref01_Less.j0, serifref01_Less.j1, h2, h3, h4, e1, e2, j2]
        · have e1 : c ≥ 0 := by omega
          simp [serifref01_Less.j0, serifref01_Less.j1, h2, h3, h4, e1]
      · by_cases h4 : c < 0
        · have e2 : a ≥ 0 := by omega
          simp [serifref01_Less.j0, serifref01_Less.j1, serifref01_Less.j2, h2, h3, h4, e2]
        · have e2 : a ≥ 0 := by omega
          simp [serifref01_Less.j0, serifref01_Less.j1, h2, h3, h4, e2, j2]
theorem FixedLess : seriflaw01_FixedLess.Pure := by
  intro x y hx hy
  obtain ⟨wa, wb⟩ := hx
  obtain ⟨wc, wd⟩ := hy
  have ha := i64_of_wf wa; have hb := i64_of_wf wb; have hc := i64_of_wf wc; have hd := i64_of_wf wd
  generalize x.f0 = a at *; generalize x.f1 = b at *; generalize y.f0 = c at *; generalize y.f1 = d at *
  apply Ev.rounds
  unfold seriflaw01_FixedLess.f
  refine Ev.bind alive_ev ?_
  simp only [if_true]
  refine Ev.bind (less_ev ha hb hc hd) (Ev.bind (less_ev hc hd ha hb) (Ev.bind (rless_ev ha hb hc hd) ?_))
  simp only [beq_self_eq_true, if_true]
  have e : ∀ z : Option Bool, z = some true → Ev (fun _ : Nat => z) true := fun z hz => by rw [hz]; exact Ev.now true
  apply e
  unfold lessS
  by_cases h1 : b ≤ 0
  · by_cases h2 : d ≤ 0 <;> simp [h1, h2, show ¬ 0 < b by omega]
  · by_cases h2 : d ≤ 0
    · simp [h1, h2, show ¬ 0 < d by omega]
    · have p1 : 0 < b := by omega
      have p2 : 0 < d := by omega
      generalize absI a * absI d = M
      generalize absI c * absI b = N
      by_cases h3 : a < 0 <;> by_cases h4 : c < 0 <;> simp [h1, h2, h3, h4, p1, p2]
      all_goals omega
end Go.Proofs.Ytbeegagnlcglcaa.Pure
