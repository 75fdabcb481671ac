/- How a line fits, and its demerits: the program's and the reference's functions, as one plain function each. -/
import Derived.Test.YtfbanppdiglciaaYx0
import Derived.Test.YtfbanppdiglciaaYx30
import Derived.Test.YtfbanppdiglciaaYx39
import Derived.Test.YtfbanppdiglciaaOptBY
set_option linter.unusedVariables false
set_option linter.unusedSimpArgs false
namespace Go.Proofs.Ytfbanppdiglciaa.Y
open Go Go.RowKit Go.Proofs.YtfbanppdiglciaaW.PrintWords Go.Proofs.YtfbanppdiglciaaW.PrintLast Go.Proofs.YtfbanppdiglciaaW.PrintMore

/-- The badness of a line that is off by d, of m that may be given. -/
def badS (d m : Int) : Int := 100 * (256 * d / m) * (256 * d / m) * (256 * d / m) / 16777216
def fitV (L S H w : Int) : Int × Int × Bool :=
  if L = w then (0, 0, true)
  else if L > w then (if L - w > H then (0, 0, false) else (-((1000 * (L - w) + H - 1) / H), badS (L - w) H, true))
  else (if S = 0 then (0, 0, false) else if 1000 * (w - L) / S > 10000 then (0, 0, false) else (1000 * (w - L) / S, badS (w - L) S, true))
/-- How the line fits: its ratio, its badness, whether it does. -/
def fitS (l : List S31) (a tt : Nat) (w : Int) : Int × Int × Bool := fitV (lineS l a tt).1 (lineS l a tt).2.1 (lineS l a tt).2.2 w

theorem q_bd {d m : Int} (hd : 0 ≤ d) (hm : 0 < m) (h : 1000 * d / m ≤ 10000) : 0 ≤ 256 * d / m ∧ 256 * d / m ≤ 2560 := by
  refine ⟨Int.ediv_nonneg (by omega) (by omega), ?_⟩
  have h1 : 1000 * d < (1000 * d / m + 1) * m := Int.lt_ediv_add_one_mul_self _ hm
  have h2 : (1000 * d / m + 1) * m ≤ 10001 * m := Int.mul_le_mul_of_nonneg_right (by omega) (by omega)
  have h3 : 256 * d < 2561 * m := by omega
  have := Int.ediv_lt_of_lt_mul hm h3
  omega
theorem q3_bd {q : Int} (h0 : 0 ≤ q) (h1 : q ≤ 2560) : (0 ≤ 100 * q ∧ 100 * q ≤ 256000) ∧ (0 ≤ 100 * q * q ∧ 100 * q * q ≤ 655360000) ∧ (0 ≤ 100 * q * q * q ∧ 100 * q * q * q ≤ 1677721600000) := by
  have a1 : 0 ≤ 100 * q := by omega
  have a2 : 100 * q ≤ 256000 := by omega
  have b1 : 0 ≤ 100 * q * q := Int.mul_nonneg a1 h0
  have b2 : 100 * q * q ≤ 256000 * 2560 := Int.mul_le_mul a2 h1 h0 (by omega)
  have c1 : 0 ≤ 100 * q * q * q := Int.mul_nonneg b1 h0
  have c2 : 100 * q * q * q ≤ (256000 * 2560) * 2560 := Int.mul_le_mul b2 h1 h0 (by omega)
  omega
theorem bad_bd {d m : Int} (hd : 0 ≤ d) (hm : 0 < m) (h : 1000 * d / m ≤ 10000) : 0 ≤ badS d m ∧ badS d m ≤ 100000 := by
  obtain ⟨q0, q1⟩ := q_bd hd hm h
  obtain ⟨_, _, c1, c2⟩ := q3_bd q0 q1
  unfold badS
  exact ⟨Int.ediv_nonneg c1 (by omega), by omega⟩
theorem le_m {d m : Int} (hd : 0 ≤ d) (hm : 0 < m) (h : d ≤ m) : 1000 * d / m ≤ 10000 := by
  have : 1000 * d < 10001 * m := by omega
  have := Int.ediv_lt_of_lt_mul hm this
  omega
theorem wq {d m : Int} (hd : 0 ≤ d) (hd1 : d ≤ 9000000000000) (hm : 0 < m) (h : 1000 * d / m ≤ 10000) : wrap64 (Int.tdiv (wrap64 (256 * d)) m) = 256 * d / m := by
  obtain ⟨q0, q1⟩ := q_bd hd hm h
  rw [w64 (n := 256 * d) (by omega) (by omega), Int.tdiv_eq_ediv_of_nonneg (by omega), w64 (by omega) (by omega)]
theorem wbad {d m : Int} (hd : 0 ≤ d) (hd1 : d ≤ 9000000000000) (hm : 0 < m) (h : 1000 * d / m ≤ 10000) :
    wrap64 ((wrap64 ((wrap64 (100 * (wrap64 (Int.tdiv (wrap64 (256 * d)) m)))) * (wrap64 (Int.tdiv (wrap64 (256 * d)) m)))) * (wrap64 (Int.tdiv (wrap64 (256 * d)) m))) = 100 * (256 * d / m) * (256 * d / m) * (256 * d / m) := by
  obtain ⟨q0, q1⟩ := q_bd hd hm h
  obtain ⟨⟨a1, a2⟩, ⟨b1, b2⟩, c1, c2⟩ := q3_bd q0 q1
  rw [wq hd hd1 hm h]
  generalize 256 * d / m = q at *
  rw [w64 (n := 100 * q) (by omega) (by omega), w64 (n := 100 * q * q) (by omega) (by omega), w64 (n := 100 * q * q * q) (by omega) (by omega)]
theorem wbadT {d m : Int} (hd : 0 ≤ d) (hd1 : d ≤ 9000000000000) (hm : 0 < m) (h : 1000 * d / m ≤ 10000) :
    wrap64 (Int.tdiv (wrap64 ((wrap64 ((wrap64 (100 * (wrap64 (Int.tdiv (wrap64 (256 * d)) m)))) * (wrap64 (Int.tdiv (wrap64 (256 * d)) m)))) * (wrap64 (Int.tdiv (wrap64 (256 * d)) m)))) 16777216) = badS d m := by
  have b := bad_bd hd hm h
  obtain ⟨q0, q1⟩ := q_bd hd hm h
  obtain ⟨_, _, c1, c2⟩ := q3_bd q0 q1
  rw [wbad hd hd1 hm h, Int.tdiv_eq_ediv_of_nonneg (by omega), w64 (n := _ / 16777216) (by unfold badS at b; omega) (by unfold badS at b; omega)]
  rfl
theorem wr {d m : Int} (hd : 0 ≤ d) (hd1 : d ≤ 9000000000000) (hm : 0 < m) : wrap64 (Int.tdiv (wrap64 (1000 * d)) m) = 1000 * d / m := by
  have h0 : 0 ≤ 1000 * d / m := Int.ediv_nonneg (by omega) (by omega)
  have h1 : 1000 * d / m ≤ 1000 * d := Int.ediv_le_self _ (by omega)
  rw [w64 (n := 1000 * d) (by omega) (by omega), Int.tdiv_eq_ediv_of_nonneg (by omega), w64 (by omega) (by omega)]
theorem ceil_eq {x m : Int} (hm : 0 < m) : (x + m - 1) / m = if x % m = 0 then x / m else x / m + 1 := by
  have e := Int.mul_ediv_add_emod x m
  have r0 := Int.emod_nonneg x (show m ≠ 0 by omega)
  have r1 := Int.emod_lt_of_pos x hm
  have : x + m - 1 = (x % m + m - 1) + m * (x / m) := by omega
  rw [this, Int.add_mul_ediv_left _ _ (by omega)]
  split
  · rename_i c
    rw [c, Int.ediv_eq_zero_of_lt (by omega) (by omega)]; omega
  · rename_i c
    have : x % m + m - 1 = (x % m - 1) + m * 1 := by omega
    rw [this, Int.add_mul_ediv_left _ _ (by omega), Int.ediv_eq_zero_of_lt (by omega) (by omega)]; omega
theorem neg_bd {d m : Int} (hd : 0 ≤ d) (hm : 0 < m) (h : d ≤ m) : 0 ≤ (1000 * d + m - 1) / m ∧ (1000 * d + m - 1) / m ≤ 1001 := by
  refine ⟨Int.ediv_nonneg (by omega) (by omega), ?_⟩
  have : 1000 * d + m - 1 < 1002 * m := by omega
  have := Int.ediv_lt_of_lt_mul hm this
  omega
/-- What is known of a line that fits. -/
theorem fitV_bd {L S H w : Int} (hL : 0 ≤ L) (hS : 0 ≤ S) (hH : 0 ≤ H) (h : (fitV L S H w).2.2 = true) : 0 ≤ (fitV L S H w).2.1 ∧ (fitV L S H w).2.1 ≤ 100000 := by
  unfold fitV at h ⊢
  split
  · simp
  · rename_i a
    rw [if_neg a] at h
    split
    · rename_i b
      rw [if_pos b] at h
      split
      · rename_i c; rw [if_pos c] at h; cases h
      · rename_i c; exact bad_bd (by omega) (by omega) (le_m (by omega) (by omega) (by omega))
    · rename_i b
      rw [if_neg b] at h
      split
      · rename_i c; rw [if_pos c] at h; cases h
      · rename_i c
        rw [if_neg c] at h
        split
        · rename_i d; rw [if_pos d] at h; cases h
        · rename_i d; exact bad_bd (by omega) (by omega) (by omega)
theorem ofit_j1s {d m w : Int} {s0 : List S31} {s1 : List S81} {s2 : List Int} (hd : 0 ≤ d) (hd1 : d ≤ 9000000000000) (hm : 0 < m) (k : Nat) :
    optimal_paragraph_fit.j1 (k + 1) d m true s0 s1 s2 w = if 1000 * d / m > 10000 then some (0, 0, false, w) else some (1000 * d / m, badS d m, true, w) := by
  simp only [optimal_paragraph_fit.j1]
  rw [if_neg (by omega), if_pos trivial, wr hd hd1 hm]
  by_cases c : 1000 * d / m > 10000
  · rw [if_pos c, if_pos c]
  · rw [if_neg c, if_neg c, wbad hd hd1 hm (by omega)]; rfl
theorem ofit_j1n {d m w : Int} {s0 : List S31} {s1 : List S81} {s2 : List Int} (hd : 0 ≤ d) (hd1 : d ≤ 9000000000000) (hm : 0 < m) (hm1 : m ≤ 9000000000000) (h : d ≤ m) (k : Nat) :
    optimal_paragraph_fit.j1 (k + 1) d m false s0 s1 s2 w = some (-((1000 * d + m - 1) / m), badS d m, true, w) := by
  have b := neg_bd hd hm h
  simp only [optimal_paragraph_fit.j1]
  rw [if_neg (by omega), if_neg (by simp), wbad hd hd1 hm (le_m hd hm h), w64 (n := 1000 * d) (by omega) (by omega), w64 (n := 1000 * d + m) (by omega) (by omega), w64 (n := 1000 * d + m - 1) (by omega) (by omega), Int.tdiv_eq_ediv_of_nonneg (by omega), w64 (n := (1000 * d + m - 1) / m) (by omega) (by omega), w64 (n := -((1000 * d + m - 1) / m)) (by omega) (by omega), if_neg (by omega)]; rfl
theorem ofit {l : List S31} {w t : Int} (F : Fine l w t) {a tt : Nat} (h1 : a ≤ l.length) (h2 : tt ≤ l.length) :
    Ev (fun k => optimal_paragraph_fit.f k l (rk_sumsL l) (rk_begsL l) w ((a : Int) - 1) (tt : Int)) ((fitS l a tt w).1, (fitS l a tt w).2.1, (fitS l a tt w).2.2, w) := by
  have lb := lineS_bd F a h2
  have hw0 := F.w0
  have hw1 := F.w1
  refine Ev.intro 2 fun k => ?_
  unfold optimal_paragraph_fit.f fitS
  rw [oline F h1 h2]
  simp only [Option.bind_some]
  generalize (lineS l a tt).1 = L at *
  generalize (lineS l a tt).2.1 = S at *
  generalize (lineS l a tt).2.2 = H at *
  rw [w64 (n := w - L) (by omega) (by omega), w64 (n := -(w - L)) (by omega) (by omega)]
  unfold fitV
  by_cases c : L = w
  · subst c
    rw [if_neg (by omega)]
    simp only [optimal_paragraph_fit.j0, if_true]
    rw [if_pos (by omega)]
  · simp only [c, if_false]
    by_cases c1 : L > w
    · rw [if_pos (by omega), if_pos c1]
      simp only [optimal_paragraph_fit.j0]
      rw [if_neg (by omega)]
      by_cases c2 : L - w > H
      · rw [if_pos c2]
        by_cases cH : H = 0
        · rw [if_pos cH]
        · rw [if_neg cH, if_neg (by omega), if_pos (show -(w - L) > H by omega)]
      · rw [if_neg c2, if_neg (by omega), if_neg (by omega), if_neg (by omega), decide_eq_false (by omega), ofit_j1n (by omega) (by omega) (by omega) (by omega) (by omega), show -(w - L) = L - w by omega]
    · rw [if_neg (by omega), if_neg c1]
      simp only [optimal_paragraph_fit.j0]
      rw [if_neg (by omega)]
      by_cases c2 : S = 0
      · rw [if_pos c2, if_pos c2]
      · rw [if_neg c2, if_neg c2, if_pos (by omega), decide_eq_true (by omega), ofit_j1s (by omega) (by omega) (by omega)]
        by_cases c3 : 1000 * (w - L) / S > 10000
        · rw [if_pos c3, if_pos c3]
        · rw [if_neg c3, if_neg c3]
end Go.Proofs.Ytfbanppdiglciaa.Y
