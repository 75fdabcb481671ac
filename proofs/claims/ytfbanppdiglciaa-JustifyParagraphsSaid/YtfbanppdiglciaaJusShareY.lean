/- justify.share is the floor of d * part / whole, for either sign of d. -/
import Derived.Test.YtfbanppdiglciaaYx0
import Derived.Test.YtfbanppdiglciaaYx9
import Derived.Test.YtfbanppdiglciaaYx10
import Derived.Test.YtfbanppdiglciaaDivBY
set_option linter.unusedVariables false
set_option linter.unusedSimpArgs false
namespace Go.Proofs.Ytfbanppdiglciaa.Y
open Go Go.RowKit Go.Proofs.YtfbanppdiglciaaW.PrintWords Go.Proofs.YtfbanppdiglciaaW.PrintLast Go.Proofs.YtfbanppdiglciaaW.PrintMore

/-- The quotient of a product by Mul64 and Div64. -/
theorem mulQuot_ev {n part whole : Int} (n0 : 0 ≤ n) (n1 : n ≤ 4611686018427387904) (p0 : 0 ≤ part) (p1 : part ≤ whole) (w0 : 0 < whole) (w1 : whole ≤ 9223372036854775807) :
    Ev (fun k => bits_Div64.f k (n * part / 18446744073709551616) (n * part % 18446744073709551616) whole) (n * part / whole, n * part % whole) := by
  have hn : 0 ≤ n * part := Int.mul_nonneg n0 p0
  have hm : n * part ≤ 4611686018427387904 * whole := Int.mul_le_mul n1 p1 p0 (by omega)
  generalize n * part = N at *
  have h := div64 (N / 18446744073709551616) (N % 18446744073709551616) whole (by omega) (by omega) (by omega) (by omega) (by omega)
  rwa [show N / 18446744073709551616 * 18446744073709551616 + N % 18446744073709551616 = N by omega] at h
theorem quot_le {n part whole : Int} (n0 : 0 ≤ n) (p0 : 0 ≤ part) (p1 : part ≤ whole) (w0 : 0 < whole) : 0 ≤ n * part / whole ∧ n * part / whole ≤ n := by
  have hn : 0 ≤ n * part := Int.mul_nonneg n0 p0
  refine ⟨Int.ediv_nonneg hn (by omega), ?_⟩
  have hm : n * part ≤ n * whole := Int.mul_le_mul_of_nonneg_left p1 n0
  have := Int.ediv_le_ediv w0 hm
  rwa [Int.mul_ediv_cancel _ (by omega)] at this
theorem neg_floor {n w : Int} (w0 : 0 < w) : -n / w = if n % w > 0 then -(n / w + 1) else -(n / w) := by
  have h1 := Int.mul_ediv_add_emod n w
  have h2 := Int.emod_nonneg n (show w ≠ 0 by omega)
  have h3 := Int.emod_lt_of_pos n w0
  generalize n / w = q at *
  generalize n % w = r at *
  subst h1
  by_cases h : r > 0
  · rw [if_pos h, show -(w * q + r) = (w - r) + w * (-(q + 1)) by rw [Int.mul_neg, Int.mul_add, Int.mul_one]; omega, Int.add_mul_ediv_left _ _ (by omega), Int.ediv_eq_zero_of_lt (by omega) (by omega)]; omega
  · have : r = 0 := by omega
    subst this
    rw [if_neg h, show -(w * q + 0) = 0 + w * (-q) by rw [Int.mul_neg]; omega, Int.add_mul_ediv_left _ _ (by omega)]; simp
theorem share_ev {d part whole : Int} (d0 : -4611686018427387904 ≤ d) (d1 : d ≤ 4611686018427387904) (p0 : 0 ≤ part) (p1 : part ≤ whole) (w0 : 0 < whole) (w1 : whole ≤ 9223372036854775807) :
    Ev (fun k => justify_share.f k d part whole) (d * part / whole) := by
  unfold justify_share.f
  rw [wrap_u_in (n := part) p0 (by omega), wrap_u_in (n := whole) (by omega) (by omega)]
  by_cases h : d < 0
  · have e : wrap64 (-d) = -d := wrap64_in' (by omega) (by omega)
    simp only [if_pos h, e]
    rw [wrap_u_in (n := -d) (by omega) (by omega), mul64 (-d) part (by omega) (by omega) p0 (by omega)]
    simp only [Option.bind_some]
    refine Ev.bind (mulQuot_ev (by omega) (by omega) p0 p1 w0 w1) ?_
    have q := quot_le (n := -d) (by omega) p0 p1 w0
    have f := neg_floor (n := -d * part) w0
    rw [Int.neg_mul, Int.neg_neg] at f
    rw [Int.neg_mul] at q ⊢
    rw [f]
    generalize -(d * part) / whole = Q at *
    generalize -(d * part) % whole = R at *
    refine ⟨0, fun k _ => ?_⟩
    by_cases r : R > 0
    · simp only [if_pos r]
      rw [wrap_u_in (n := Q + 1) (by omega) (by omega), wrap64_in' (n := Q + 1) (by omega) (by omega), wrap64_in' (by omega) (by omega)]
    · simp only [if_neg r]
      rw [wrap64_in' (n := Q) (by omega) (by omega), wrap64_in' (by omega) (by omega)]
  · simp only [if_neg h]
    rw [wrap_u_in (n := d) (by omega) (by omega), mul64 d part (by omega) (by omega) p0 (by omega)]
    simp only [Option.bind_some]
    refine Ev.bind (mulQuot_ev (by omega) (by omega) p0 p1 w0 w1) ?_
    have q := quot_le (n := d) (by omega) p0 p1 w0
    refine ⟨0, fun k _ => ?_⟩
    show some (wrap64 (d * part / whole)) = _
    rw [wrap64_in' (by omega) (by omega)]
end Go.Proofs.Ytfbanppdiglciaa.Y
