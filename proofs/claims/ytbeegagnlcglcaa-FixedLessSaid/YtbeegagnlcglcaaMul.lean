/- fixed.MulDiv and its kin, in plain arithmetic. -/
import Derived.Test.YtbeegagnlcglcaaXx1
import Derived.Test.YtbeegagnlcglcaaXx3
import Derived.Test.YtbeegagnlcglcaaDivB
import Derived.Test.YtbeegagnlcglcaaXx7
set_option linter.unusedVariables false
set_option linter.unusedSimpArgs false
namespace Go.Proofs.Ytbeegagnlcglcaa.X
open Go Go.RowKit Go.Proofs.YtbeegagnlcglcaaW.PrintWords Go.Proofs.YtbeegagnlcglcaaW.PrintLast Go.Proofs.YtbeegagnlcglcaaW.PrintMore

def absI (n : Int) : Int := if n < 0 then -n else n
theorem absI_nonneg (n : Int) : 0 ≤ absI n := by unfold absI; split <;> omega
theorem absI_nat (n : Int) : absI n = (n.natAbs : Int) := by unfold absI; split <;> omega
theorem absI_mul (a b : Int) : absI (a * b) = absI a * absI b := by rw [absI_nat, absI_nat, absI_nat, Int.natAbs_mul]; simp
def I64 (n : Int) : Prop := -9223372036854775808 ≤ n ∧ n ≤ 9223372036854775807
theorem absI_le {n : Int} (h : I64 n) : absI n ≤ 9223372036854775808 := by unfold absI; obtain ⟨h0, h1⟩ := h; split <;> omega

theorem size_f {n : Int} (h : I64 n) : fixed_size.f n = some (absI n) := by
  obtain ⟨h0, h1⟩ := h
  unfold fixed_size.f absI
  split
  · congr 1; rw [wrap_u, wrap_u]; omega
  · congr 1; exact wrap_u_in (by omega) (by omega)
theorem times_f {a b : Int} (ha : I64 a) (hb : I64 b) :
    fixed_times.f a b = some (absI a * absI b / 18446744073709551616, absI a * absI b % 18446744073709551616, ((decide (a < 0)) != (decide (b < 0)))) := by
  unfold fixed_times.f
  have a1 := absI_le ha; have b1 := absI_le hb
  rw [size_f ha, size_f hb]; simp only [Option.bind_some]
  rw [mul64 _ _ (absI_nonneg a) (by omega) (absI_nonneg b) (by omega)]; rfl

/-- The nearest of n by d, halves up: n from 0 on, d above 0. -/
def nearest (n d : Int) : Int := (2 * n + d) / (2 * d)
theorem nearest_eq (n d : Int) (hd : 0 < d) : nearest n d = if 2 * (n % d) ≥ d then n / d + 1 else n / d := by
  unfold nearest
  have e := Int.emod_add_mul_ediv n d
  have r0 := Int.emod_nonneg n (show d ≠ 0 by omega)
  have r1 := Int.emod_lt_of_pos n hd
  generalize n % d = r at *
  generalize n / d = q at *
  subst e
  have : (2 * (r + d * q) + d) = (2 * r + d) + q * (2 * d) := by grind
  rw [this, Int.add_mul_ediv_right _ _ (by omega)]
  split
  · have : (2 * r + d) / (2 * d) = 1 := by
      rw [Int.ediv_eq_iff_of_pos (by omega)]; omega
    omega
  · have : (2 * r + d) / (2 * d) = 0 := Int.ediv_eq_zero_of_lt (by omega) (by omega)
    omega

def mulDneg (a b c : Int) : Bool := ((decide (a < 0)) != (decide (b < 0))) != (decide (c < 0))
/-- What fixed.MulDiv answers. -/
def mulD (a b c : Int) : Int × Int :=
  if c = 0 then (0, 14) else
  if nearest (absI a * absI b) (absI c) > 2147483647 then (0, 14) else
  if mulDneg a b c = true then (-(nearest (absI a * absI b) (absI c)), 0) else (nearest (absI a * absI b) (absI c), 0)

theorem nearest_nonneg {n d : Int} (h0 : 0 ≤ n) (hd : 0 < d) : 0 ≤ nearest n d := by unfold nearest; exact Int.ediv_nonneg (by omega) (by omega)

theorem mulDiv_j2 {c q : Int} (h0 : 0 ≤ q) (hq : q < 18446744073709551616) (x y : Int) (m : Bool) (k : Nat) :
    fixed_MulDiv.j2 (k + 1) c q x y m = some (if q > 2147483647 then (0, 14) else if (m != decide (c < 0)) = true then (-q, 0) else (q, 0)) := by
  simp only [fixed_MulDiv.j2]
  split
  · rfl
  · rename_i h
    rw [wrap64_in' (n := q) (by omega) (by omega), wrap64_in' (n := -q) (by omega) (by omega)]
    split <;> rfl

theorem mulDiv_ev {a b c : Int} (ha : I64 a) (hb : I64 b) (hc : I64 c) : Ev (fun k => fixed_MulDiv.f k a b c) (mulD a b c) := by
  unfold fixed_MulDiv.f
  rw [times_f ha hb, size_f hc]; simp only [Option.bind_some]
  unfold mulD
  have a0 := absI_nonneg a; have b0 := absI_nonneg b
  have n0 : 0 ≤ absI a * absI b := Int.mul_nonneg a0 b0
  have n1 : absI a * absI b ≤ 9223372036854775808 * 9223372036854775808 := mul_lt_of a0 b0 (absI_le ha) (absI_le hb)
  by_cases hz : c = 0
  · simp only [if_pos hz]
    exact Ev.intro 1 fun k => by simp only [fixed_MulDiv.j0]; rfl
  · simp only [if_neg hz]
    have d0 : 0 < absI c := by unfold absI; split <;> omega
    have d1 := absI_le hc
    have hn : ((((decide (a < 0)) != (decide (b < 0))) != (decide (c < 0))) = true) = (mulDneg a b c = true) := rfl
    generalize hm : ((decide (a < 0)) != (decide (b < 0))) = m
    rw [hm] at hn
    generalize absI a * absI b = n at *
    generalize absI c = d at *
    have q0 := nearest_nonneg n0 d0
    by_cases hh : n / 18446744073709551616 ≥ d
    · have big : nearest n d > 2147483647 := by
        have : 18446744073709551616 * d ≤ n := by omega
        have h1 : 2147483648 * (2 * d) ≤ 2 * n + d := by omega
        have : 2147483648 ≤ nearest n d := by unfold nearest; exact Int.le_ediv_of_mul_le (by omega) h1
        omega
      rw [if_pos big]
      exact Ev.intro 1 fun k => by simp only [fixed_MulDiv.j0, decide_eq_true hh]; rfl
    · have e := div64 (n / 18446744073709551616) (n % 18446744073709551616) d (by omega) (by omega) (by omega) (by omega) (by omega)
      have en : n / 18446744073709551616 * 18446744073709551616 + n % 18446744073709551616 = n := by omega
      rw [en] at e
      have ne := nearest_eq n d d0
      have r0 := Int.emod_nonneg n (show d ≠ 0 by omega)
      have r1 := Int.emod_lt_of_pos n d0
      have t0 : 0 ≤ n / d := Int.ediv_nonneg n0 (by omega)
      have t1 : n / d < 18446744073709551616 := Int.ediv_lt_of_lt_mul d0 (by omega)
      refine Ev.shift 1 (f := fun k => fixed_MulDiv.j0 (k + 1) c d (decide (n / 18446744073709551616 ≥ d)) (n / 18446744073709551616) (n % 18446744073709551616) m) (fun k => rfl) ?_
      simp only [fixed_MulDiv.j0]
      rw [decide_eq_false hh]
      simp only [Bool.false_eq_true, if_false]
      refine Ev.bind e ?_
      rw [wrap_u_in (n := d - n % d) (by omega) (by omega)]
      by_cases h2 : n % d ≥ d - n % d
      · simp only [if_pos h2]
        rw [if_pos (show 2 * (n % d) ≥ d by omega)] at ne
        by_cases h3 : n / d ≤ 2147483647
        · refine Ev.intro 2 fun k => ?_
          simp only [decide_eq_true h3]
          rw [show k + 2 = (k + 1) + 1 from rfl]; simp only [fixed_MulDiv.j1, if_true]
          rw [wrap_u_in (n := n / d + 1) (by omega) (by omega), mulDiv_j2 (by omega) (by omega), ← ne]
          simp only [hn]
        · refine Ev.intro 2 fun k => ?_
          simp only [decide_eq_false h3]
          rw [show k + 2 = (k + 1) + 1 from rfl]; simp only [fixed_MulDiv.j1, Bool.false_eq_true, if_false]
          rw [mulDiv_j2 t0 t1, if_pos (by omega), if_pos (by omega)]
      · simp only [if_neg h2]
        rw [if_neg (show ¬ 2 * (n % d) ≥ d by omega)] at ne
        refine Ev.intro 2 fun k => ?_
        rw [show k + 2 = (k + 1) + 1 from rfl]; simp only [fixed_MulDiv.j1, Bool.false_eq_true, if_false]
        rw [mulDiv_j2 t0 t1, ← ne]
        simp only [hn]
end Go.Proofs.Ytbeegagnlcglcaa.X
