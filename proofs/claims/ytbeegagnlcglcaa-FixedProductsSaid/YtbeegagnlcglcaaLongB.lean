/- The reference's long numbers as numbers: Size, Times, Plus, Under; its MulDiv and Less. -/
import Derived.Test.YtbeegagnlcglcaaFix
import Derived.Test.YtbeegagnlcglcaaLong
import Derived.Test.YtbeegagnlcglcaaXx4
import Derived.Test.YtbeegagnlcglcaaXx6
set_option linter.unusedVariables false
set_option linter.unusedSimpArgs false
namespace Go.Proofs.Ytbeegagnlcglcaa.X
open Go Go.RowKit Go.Proofs.YtbeegagnlcglcaaW.PrintWords Go.Proofs.YtbeegagnlcglcaaW.PrintLast Go.Proofs.YtbeegagnlcglcaaW.PrintMore

theorem val5_digs {u : Int} (h0 : 0 ≤ u) (h1 : u < 1208925819614629174706176) : val5 (digs u).1 (digs u).2.1 (digs u).2.2.1 (digs u).2.2.2.1 (digs u).2.2.2.2.1 = u := by
  simp only [digs, val5]; omega
theorem sizeD {n : Int} (h : I64 n) : serifref01_Size.f n = some (digs (absI n)) := by
  unfold serifref01_Size.f
  rw [if_pos (show -9223372036854775808 ≤ n ∧ n ≤ 9223372036854775807 from h)]; rfl
theorem timesD {u v : Int} (h0 : 0 ≤ u) (h1 : u < 1208925819614629174706176) (g0 : 0 ≤ v) (g1 : v < 1208925819614629174706176) :
    serifref01_Times.f (digs u).1 (digs u).2.1 (digs u).2.2.1 (digs u).2.2.2.1 (digs u).2.2.2.2.1 (digs u).2.2.2.2.2.1 (digs u).2.2.2.2.2.2.1 (digs u).2.2.2.2.2.2.2.1 (digs u).2.2.2.2.2.2.2.2.1 (digs u).2.2.2.2.2.2.2.2.2 (digs v).1 (digs v).2.1 (digs v).2.2.1 (digs v).2.2.2.1 (digs v).2.2.2.2.1 (digs v).2.2.2.2.2.1 (digs v).2.2.2.2.2.2.1 (digs v).2.2.2.2.2.2.2.1 (digs v).2.2.2.2.2.2.2.2.1 (digs v).2.2.2.2.2.2.2.2.2 = some (digs (u * v)) := by
  obtain ⟨a0, a1, a2, a3, a4, _⟩ := digs_all u
  obtain ⟨b0, b1, b2, b3, b4, _⟩ := digs_all v
  unfold serifref01_Times.f timesL
  rw [if_pos (by simp [allDig, a0, a1, a2, a3, a4, b0, b1, b2, b3, b4]), val5_digs h0 h1, val5_digs g0 g1]
theorem plusD {u v : Int} (h0 : 0 ≤ u) (h1 : u < 1461501637330902918203684832716283019655932542976) (g0 : 0 ≤ v) (g1 : v < 1461501637330902918203684832716283019655932542976) :
    serifref01_Plus.f (digs u).1 (digs u).2.1 (digs u).2.2.1 (digs u).2.2.2.1 (digs u).2.2.2.2.1 (digs u).2.2.2.2.2.1 (digs u).2.2.2.2.2.2.1 (digs u).2.2.2.2.2.2.2.1 (digs u).2.2.2.2.2.2.2.2.1 (digs u).2.2.2.2.2.2.2.2.2 (digs v).1 (digs v).2.1 (digs v).2.2.1 (digs v).2.2.2.1 (digs v).2.2.2.2.1 (digs v).2.2.2.2.2.1 (digs v).2.2.2.2.2.2.1 (digs v).2.2.2.2.2.2.2.1 (digs v).2.2.2.2.2.2.2.2.1 (digs v).2.2.2.2.2.2.2.2.2 = some (digs (u + v)) := by
  obtain ⟨a0, a1, a2, a3, a4, a5, a6, a7, a8, a9⟩ := digs_all u
  obtain ⟨b0, b1, b2, b3, b4, b5, b6, b7, b8, b9⟩ := digs_all v
  unfold serifref01_Plus.f plusL
  rw [if_pos (by simp [allDig, a0, a1, a2, a3, a4, a5, a6, a7, a8, a9, b0, b1, b2, b3, b4, b5, b6, b7, b8, b9]), val10_digs h0 h1, val10_digs g0 g1]
theorem underD {u v : Int} (h0 : 0 ≤ u) (h1 : u < 1461501637330902918203684832716283019655932542976) (g0 : 0 ≤ v) (g1 : v < 1461501637330902918203684832716283019655932542976) :
    serifref01_Under.f (digs u).1 (digs u).2.1 (digs u).2.2.1 (digs u).2.2.2.1 (digs u).2.2.2.2.1 (digs u).2.2.2.2.2.1 (digs u).2.2.2.2.2.2.1 (digs u).2.2.2.2.2.2.2.1 (digs u).2.2.2.2.2.2.2.2.1 (digs u).2.2.2.2.2.2.2.2.2 (digs v).1 (digs v).2.1 (digs v).2.2.1 (digs v).2.2.2.1 (digs v).2.2.2.2.1 (digs v).2.2.2.2.2.1 (digs v).2.2.2.2.2.2.1 (digs v).2.2.2.2.2.2.2.1 (digs v).2.2.2.2.2.2.2.2.1 (digs v).2.2.2.2.2.2.2.2.2 = some (decide (u < v)) := by
  obtain ⟨a0, a1, a2, a3, a4, a5, a6, a7, a8, a9⟩ := digs_all u
  obtain ⟨b0, b1, b2, b3, b4, b5, b6, b7, b8, b9⟩ := digs_all v
  unfold serifref01_Under.f underL
  rw [if_pos (by simp [allDig, a0, a1, a2, a3, a4, a5, a6, a7, a8, a9, b0, b1, b2, b3, b4, b5, b6, b7, b8, b9]), val10_digs h0 h1, val10_digs g0 g1]

/-- q is the greatest below 2^32 that is not above the nearest of p by d. -/
def IsNear (p d q : Int) : Prop := 0 ≤ q ∧ q * (2 * d) ≤ 2 * p + d ∧ (2 * p + d < (q + 1) * (2 * d) ∨ q = 4294967295)
theorem near_l0 (p d : Int) (p0 : 0 ≤ p) (p1 : p ≤ 85070591730234615865843651857942052864) (d0 : 0 < d) (d1 : d ≤ 9223372036854775808) : ∀ (j : Nat) (q : Int), j ≤ 32 → 0 ≤ q → q * (2 * d) ≤ 2 * p + d → (2 * p + d < (q + 2 ^ j) * (2 * d) ∨ q + 2 ^ j = 4294967296) → q + 2 ^ j ≤ 4294967296 →
    ∃ s, IsNear p d s ∧ Ev (fun k => serifref01_Nearest.l0 k q (if j = 0 then 0 else 2 ^ (j - 1)) (digs p).1 (digs p).2.1 (digs p).2.2.1 (digs p).2.2.2.1 (digs p).2.2.2.2.1 (digs p).2.2.2.2.2.1 (digs p).2.2.2.2.2.2.1 (digs p).2.2.2.2.2.2.2.1 (digs p).2.2.2.2.2.2.2.2.1 (digs p).2.2.2.2.2.2.2.2.2 (digs d).1 (digs d).2.1 (digs d).2.2.1 (digs d).2.2.2.1 (digs d).2.2.2.2.1 (digs d).2.2.2.2.2.1 (digs d).2.2.2.2.2.2.1 (digs d).2.2.2.2.2.2.2.1 (digs d).2.2.2.2.2.2.2.2.1 (digs d).2.2.2.2.2.2.2.2.2 (digs 2).1 (digs 2).2.1 (digs 2).2.2.1 (digs 2).2.2.2.1 (digs 2).2.2.2.2.1 (digs 2).2.2.2.2.2.1 (digs 2).2.2.2.2.2.2.1 (digs 2).2.2.2.2.2.2.2.1 (digs 2).2.2.2.2.2.2.2.2.1 (digs 2).2.2.2.2.2.2.2.2.2) s := by
  intro j
  induction j with
  | zero =>
    intro q _ hq hl hu _
    refine ⟨q, ⟨hq, hl, by simpa using (by rcases hu with h | h; exact .inl (by simpa using h); exact .inr (by simp at h; omega) : 2 * p + d < (q + 1) * (2 * d) ∨ q = 4294967295)⟩, Ev.intro 1 fun k => ?_⟩
    simp [serifref01_Nearest.l0]
  | succ j ih =>
    intro q hj hq hl hu hb
    have p1' : (2 : Int) ^ (j + 1) = 2 * 2 ^ j := by rw [Int.pow_succ]; omega
    have p0' : (0 : Int) < 2 ^ j := Int.pow_pos (by decide)
    have half : (2 : Int) ^ j / 2 = if j = 0 then 0 else 2 ^ (j - 1) := by
      cases j with
      | zero => simp
      | succ j => simp only [Nat.succ_ne_zero, if_false, Nat.add_sub_cancel]; rw [Int.pow_succ]; omega
    have e : (if j + 1 = 0 then (0 : Int) else 2 ^ (j + 1 - 1)) = 2 ^ j := by simp
    rw [p1'] at hu hb
    have t0 : 0 ≤ q + 2 ^ j := by omega
    have t1 : q + 2 ^ j ≤ 4294967296 := by omega
    have td0 : 0 ≤ (q + 2 ^ j) * 2 * d := Int.mul_nonneg (by omega) (by omega)
    have td1 : (q + 2 ^ j) * 2 * d ≤ 8589934592 * 9223372036854775808 := mul_lt_of (by omega) (by omega) (by omega) d1
    have step : ∀ k, serifref01_Nearest.l0 (k + 1) q (2 ^ j) (digs p).1 (digs p).2.1 (digs p).2.2.1 (digs p).2.2.2.1 (digs p).2.2.2.2.1 (digs p).2.2.2.2.2.1 (digs p).2.2.2.2.2.2.1 (digs p).2.2.2.2.2.2.2.1 (digs p).2.2.2.2.2.2.2.2.1 (digs p).2.2.2.2.2.2.2.2.2 (digs d).1 (digs d).2.1 (digs d).2.2.1 (digs d).2.2.2.1 (digs d).2.2.2.2.1 (digs d).2.2.2.2.2.1 (digs d).2.2.2.2.2.2.1 (digs d).2.2.2.2.2.2.2.1 (digs d).2.2.2.2.2.2.2.2.1 (digs d).2.2.2.2.2.2.2.2.2 (digs 2).1 (digs 2).2.1 (digs 2).2.2.1 (digs 2).2.2.2.1 (digs 2).2.2.2.2.1 (digs 2).2.2.2.2.2.1 (digs 2).2.2.2.2.2.2.1 (digs 2).2.2.2.2.2.2.2.1 (digs 2).2.2.2.2.2.2.2.2.1 (digs 2).2.2.2.2.2.2.2.2.2 = if 2 * p + d < (q + 2 ^ j) * (2 * d) then serifref01_Nearest.l0 k q (2 ^ j / 2) (digs p).1 (digs p).2.1 (digs p).2.2.1 (digs p).2.2.2.1 (digs p).2.2.2.2.1 (digs p).2.2.2.2.2.1 (digs p).2.2.2.2.2.2.1 (digs p).2.2.2.2.2.2.2.1 (digs p).2.2.2.2.2.2.2.2.1 (digs p).2.2.2.2.2.2.2.2.2 (digs d).1 (digs d).2.1 (digs d).2.2.1 (digs d).2.2.2.1 (digs d).2.2.2.2.1 (digs d).2.2.2.2.2.1 (digs d).2.2.2.2.2.2.1 (digs d).2.2.2.2.2.2.2.1 (digs d).2.2.2.2.2.2.2.2.1 (digs d).2.2.2.2.2.2.2.2.2 (digs 2).1 (digs 2).2.1 (digs 2).2.2.1 (digs 2).2.2.2.1 (digs 2).2.2.2.2.1 (digs 2).2.2.2.2.2.1 (digs 2).2.2.2.2.2.2.1 (digs 2).2.2.2.2.2.2.2.1 (digs 2).2.2.2.2.2.2.2.2.1 (digs 2).2.2.2.2.2.2.2.2.2 else serifref01_Nearest.l0 k (q + 2 ^ j) (2 ^ j / 2) (digs p).1 (digs p).2.1 (digs p).2.2.1 (digs p).2.2.2.1 (digs p).2.2.2.2.1 (digs p).2.2.2.2.2.1 (digs p).2.2.2.2.2.2.1 (digs p).2.2.2.2.2.2.2.1 (digs p).2.2.2.2.2.2.2.2.1 (digs p).2.2.2.2.2.2.2.2.2 (digs d).1 (digs d).2.1 (digs d).2.2.1 (digs d).2.2.2.1 (digs d).2.2.2.2.1 (digs d).2.2.2.2.2.1 (digs d).2.2.2.2.2.2.1 (digs d).2.2.2.2.2.2.2.1 (digs d).2.2.2.2.2.2.2.2.1 (digs d).2.2.2.2.2.2.2.2.2 (digs 2).1 (digs 2).2.1 (digs 2).2.2.1 (digs 2).2.2.2.1 (digs 2).2.2.2.2.1 (digs 2).2.2.2.2.2.1 (digs 2).2.2.2.2.2.2.1 (digs 2).2.2.2.2.2.2.2.1 (digs 2).2.2.2.2.2.2.2.2.1 (digs 2).2.2.2.2.2.2.2.2.2 := by
      intro k
      have w1 : wrap64 (q + 2 ^ j) = q + 2 ^ j := wrap64_in' (by omega) (by omega)
      have w2 : wrap64 (Int.tdiv (2 ^ j) 2) = 2 ^ j / 2 := by rw [Int.tdiv_eq_ediv_of_nonneg (by omega)]; exact wrap64_in' (by omega) (by omega)
      have a0 : absI (q + 2 ^ j) = q + 2 ^ j := by unfold absI; rw [if_neg (by omega)]
      simp only [serifref01_Nearest.l0]
      rw [if_pos (by omega), w1, w2, sizeD (by unfold I64; omega), a0]
      simp only [Option.bind_some]
      rw [timesD t0 (by omega) (by omega) (by omega)]
      simp only [Option.bind_some]
      rw [timesD (by omega) (by omega) (by omega) (by omega), plusD p0 (by omega) p0 (by omega)]
      simp only [Option.bind_some]
      rw [plusD (by omega) (by omega) (by omega) (by omega)]
      simp only [Option.bind_some]
      rw [underD (by omega) (by omega) td0 (by omega)]
      simp only [Option.bind_some, decide_eq_true_eq]
      have e1 : p + p + d = 2 * p + d := by omega
      have e2 : (q + 2 ^ j) * 2 * d = (q + 2 ^ j) * (2 * d) := by rw [Int.mul_assoc]
      rw [e1, e2]
    rw [e]
    by_cases c : 2 * p + d < (q + 2 ^ j) * (2 * d)
    · obtain ⟨s, hs, hev⟩ := ih q (by omega) hq hl (.inl c) (by omega)
      exact ⟨s, hs, Ev.step (f := fun k => serifref01_Nearest.l0 k q (2 ^ j / 2) (digs p).1 (digs p).2.1 (digs p).2.2.1 (digs p).2.2.2.1 (digs p).2.2.2.2.1 (digs p).2.2.2.2.2.1 (digs p).2.2.2.2.2.2.1 (digs p).2.2.2.2.2.2.2.1 (digs p).2.2.2.2.2.2.2.2.1 (digs p).2.2.2.2.2.2.2.2.2 (digs d).1 (digs d).2.1 (digs d).2.2.1 (digs d).2.2.2.1 (digs d).2.2.2.2.1 (digs d).2.2.2.2.2.1 (digs d).2.2.2.2.2.2.1 (digs d).2.2.2.2.2.2.2.1 (digs d).2.2.2.2.2.2.2.2.1 (digs d).2.2.2.2.2.2.2.2.2 (digs 2).1 (digs 2).2.1 (digs 2).2.2.1 (digs 2).2.2.2.1 (digs 2).2.2.2.2.1 (digs 2).2.2.2.2.2.1 (digs 2).2.2.2.2.2.2.1 (digs 2).2.2.2.2.2.2.2.1 (digs 2).2.2.2.2.2.2.2.2.1 (digs 2).2.2.2.2.2.2.2.2.2) (fun k => by rw [step, if_pos c]) (by rw [half]; exact hev)⟩
    · obtain ⟨s, hs, hev⟩ := ih (q + 2 ^ j) (by omega) (by omega) (by omega) (by rw [show q + 2 ^ j + 2 ^ j = q + 2 * 2 ^ j by omega]; exact hu) (by omega)
      exact ⟨s, hs, Ev.step (f := fun k => serifref01_Nearest.l0 k (q + 2 ^ j) (2 ^ j / 2) (digs p).1 (digs p).2.1 (digs p).2.2.1 (digs p).2.2.2.1 (digs p).2.2.2.2.1 (digs p).2.2.2.2.2.1 (digs p).2.2.2.2.2.2.1 (digs p).2.2.2.2.2.2.2.1 (digs p).2.2.2.2.2.2.2.2.1 (digs p).2.2.2.2.2.2.2.2.2 (digs d).1 (digs d).2.1 (digs d).2.2.1 (digs d).2.2.2.1 (digs d).2.2.2.2.1 (digs d).2.2.2.2.2.1 (digs d).2.2.2.2.2.2.1 (digs d).2.2.2.2.2.2.2.1 (digs d).2.2.2.2.2.2.2.2.1 (digs d).2.2.2.2.2.2.2.2.2 (digs 2).1 (digs 2).2.1 (digs 2).2.2.1 (digs 2).2.2.2.1 (digs 2).2.2.2.2.1 (digs 2).2.2.2.2.2.1 (digs 2).2.2.2.2.2.2.1 (digs 2).2.2.2.2.2.2.2.1 (digs 2).2.2.2.2.2.2.2.2.1 (digs 2).2.2.2.2.2.2.2.2.2) (fun k => by rw [step, if_neg c]) (by rw [half]; exact hev)⟩
theorem near_ev (p d : Int) (p0 : 0 ≤ p) (p1 : p ≤ 85070591730234615865843651857942052864) (d0 : 0 < d) (d1 : d ≤ 9223372036854775808) :
    ∃ s, IsNear p d s ∧ Ev (fun k => serifref01_Nearest.f k (digs p).1 (digs p).2.1 (digs p).2.2.1 (digs p).2.2.2.1 (digs p).2.2.2.2.1 (digs p).2.2.2.2.2.1 (digs p).2.2.2.2.2.2.1 (digs p).2.2.2.2.2.2.2.1 (digs p).2.2.2.2.2.2.2.2.1 (digs p).2.2.2.2.2.2.2.2.2 (digs d).1 (digs d).2.1 (digs d).2.2.1 (digs d).2.2.2.1 (digs d).2.2.2.2.1 (digs d).2.2.2.2.2.1 (digs d).2.2.2.2.2.2.1 (digs d).2.2.2.2.2.2.2.1 (digs d).2.2.2.2.2.2.2.2.1 (digs d).2.2.2.2.2.2.2.2.2) s := by
  obtain ⟨s, hs, hev⟩ := near_l0 p d p0 p1 d0 d1 32 0 (by omega) (by omega) (by omega) (.inr (by simp)) (by simp)
  refine ⟨s, hs, ?_⟩
  unfold serifref01_Nearest.f
  rw [sizeD (by unfold I64; omega)]
  simp only [Option.bind_some]
  rw [show absI 2 = 2 by decide]
  simpa using hev
theorem IsNear.spec {p d q : Int} (h : IsNear p d q) (d0 : 0 < d) : q = nearest p d ∨ (q = 4294967295 ∧ nearest p d ≥ 4294967295) := by
  obtain ⟨h0, h1, h2⟩ := h
  have a : q ≤ nearest p d := by unfold nearest; exact Int.le_ediv_of_mul_le (by omega) h1
  rcases h2 with h2 | h2
  · left
    have : nearest p d < q + 1 := by unfold nearest; exact Int.ediv_lt_of_lt_mul (by omega) h2
    omega
  · by_cases c : q = nearest p d
    · exact .inl c
    · exact .inr ⟨h2, by omega⟩
theorem sgn_l0 (q a b c : Int) (hq : 0 ≤ q) (hq1 : q ≤ 2147483647) : Ev (fun k => serifref01_MulDiv.l0 k q 0 [a, b, c] 3 0) (if mulDneg a b c = true then (-q, 0) else (q, 0)) := by
  have w : ∀ n : Int, -4 ≤ n → n ≤ 4 → wrap64 n = n := fun n h0 h1 => wrap64_in' (by omega) (by omega)
  have wq : wrap64 (-q) = -q := wrap64_in' (by omega) (by omega)
  refine Ev.intro 4 fun k => ?_
  have r0 : rd [a, b, c] 0 = a := rfl
  have r1 : rd [a, b, c] 1 = b := rfl
  have r2 : rd [a, b, c] 2 = c := rfl
  have w1 := w 1 (by omega) (by omega)
  have w2 := w 2 (by omega) (by omega)
  have w3 := w 3 (by omega) (by omega)
  have n1 : ((0 : Int) + 1) = 1 := rfl
  have n2 : ((1 : Int) + 1) = 2 := rfl
  have n3 : ((2 : Int) + 1) = 3 := rfl
  have len : (([a, b, c] : List Int).length : Int) = 3 := rfl
  have m0 : Int.tmod 0 2 = 0 := rfl
  have m1 : Int.tmod 1 2 = 1 := rfl
  have m2 : Int.tmod 2 2 = 0 := rfl
  have m3 : Int.tmod 3 2 = 1 := rfl
  unfold mulDneg
  by_cases ha : a < 0 <;> by_cases hb : b < 0 <;> by_cases hc : c < 0 <;>
    simp [serifref01_MulDiv.l0, r0, r1, r2, w1, w2, w3, n1, n2, n3, len, ha, hb, hc, wq, m0, m1, m2, m3]
theorem rmulDiv_ev {a b c : Int} (ha : I64 a) (hb : I64 b) (hc : I64 c) : Ev (fun k => serifref01_MulDiv.f k a b c) (mulD a b c) := by
  unfold serifref01_MulDiv.f mulD
  by_cases hz : c = 0
  · simp only [if_pos hz]; exact Ev.now _
  · simp only [if_neg hz]
    have a0 := absI_nonneg a; have b0 := absI_nonneg b; have c0 := absI_nonneg c
    have a1 := absI_le ha; have b1 := absI_le hb; have c1 := absI_le hc
    have d0 : 0 < absI c := by unfold absI; split <;> omega
    have n0 : 0 ≤ absI a * absI b := Int.mul_nonneg a0 b0
    have n1 : absI a * absI b ≤ 9223372036854775808 * 9223372036854775808 := mul_lt_of a0 b0 a1 b1
    have z0 : 0 ≤ absI c * 8589934592 := by omega
    rw [sizeD ha, sizeD hb, sizeD hc, sizeD (n := 8589934592) (by unfold I64; omega), show absI 8589934592 = 8589934592 by decide]
    simp only [Option.bind_some]
    rw [timesD a0 (by omega) b0 (by omega), timesD c0 (by omega) (by omega) (by omega)]
    simp only [Option.bind_some]
    rw [underD n0 (by omega) z0 (by omega)]
    simp only [Option.bind_some, decide_eq_true_eq]
    by_cases hu : absI a * absI b < absI c * 8589934592
    · simp only [if_pos hu]
      obtain ⟨q, hq, hev⟩ := near_ev (absI a * absI b) (absI c) n0 (by omega) d0 c1
      refine Ev.bind hev ?_
      have q0 := hq.1
      rcases hq.spec d0 with e | ⟨e1, e2⟩
      · rw [← e]
        by_cases hb' : q > 2147483647
        · simp only [if_pos hb']; exact Ev.now _
        · simp only [if_neg hb']
          exact sgn_l0 q a b c q0 (by omega)
      · have : q > 2147483647 := by omega
        simp only [if_pos this]
        rw [if_pos (by omega)]; exact Ev.now _
    · simp only [if_neg hu]
      have big : nearest (absI a * absI b) (absI c) > 2147483647 := by
        have h1 : 2147483648 * (2 * absI c) ≤ 2 * (absI a * absI b) + absI c := by omega
        have : 2147483648 ≤ nearest (absI a * absI b) (absI c) := by unfold nearest; exact Int.le_ediv_of_mul_le (by omega) h1
        omega
      rw [if_pos big]; exact Ev.now _
end Go.Proofs.Ytbeegagnlcglcaa.X
