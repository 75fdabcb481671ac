/- FixedRoots answers true for every integer: Root is the reference's, its square is not above the number, the next one's is. No condition. -/
import Derived.Test.YtbeegagnlcglcaaRoots
import Derived.Test.YtbeegagnlcglcaaXx4
set_option linter.unusedVariables false
set_option linter.unusedSimpArgs false
namespace Go.Proofs.Ytbeegagnlcglcaa.Pure
open Go Go.RowKit Go.Proofs.Ytbeegagnlcglcaa.X Go.Proofs.YtbeegagnlcglcaaW.PrintWords Go.Proofs.YtbeegagnlcglcaaW.PrintLast
theorem FixedRoots : seriflaw01_FixedRoots.Pure := by
  intro n hw
  have h := i64_of_wf hw
  apply Ev.rounds
  unfold seriflaw01_FixedRoots.f
  refine Ev.bind alive_ev ?_
  simp only [if_true]
  by_cases h0 : n ≤ 0
  · have e1 : Ev (fun k => fixed_Root.f k n) 0 := Ev.intro 0 fun k => by unfold fixed_Root.f; rw [if_pos h0]
    have e2 : Ev (fun k => serifref01_Root.f k n) 0 := by
      by_cases hn : n < 0
      · exact Ev.intro 0 fun k => by unfold serifref01_Root.f; rw [if_pos hn]
      · have : n = 0 := by omega
        subst this
        refine Ev.of (serifref01_Root.mono 0) (k := 40) ?_
        decide +kernel
    refine Ev.bind e1 (Ev.bind e2 ?_)
    simp only [if_true, if_pos h0]
    exact Ev.now true
  · obtain ⟨s, hs, e1⟩ := root_ev n h (by omega)
    obtain ⟨s', hs', e2⟩ := rroot_ev n h (by omega)
    obtain rfl := hs.uniq hs'
    refine Ev.bind e1 (Ev.bind e2 ?_)
    obtain ⟨a0, a1, a2⟩ := hs
    have h1 := h.2
    have s1 : 1 ≤ s := by
      by_cases c : 1 ≤ s
      · exact c
      · have : s = 0 := by omega
        subst this; omega
    have s2 : s ≤ 3037000499 := by
      by_cases c : s ≤ 3037000499
      · exact c
      · have := sq_le (show (0 : Int) ≤ 3037000500 by omega) (show 3037000500 ≤ s by omega); omega
    have q0 : 0 ≤ n / s := Int.ediv_nonneg (by omega) (by omega)
    have q1 : n / s ≤ n := Int.ediv_le_self _ (by omega)
    have w2 : wrap64 (Int.tdiv n s) = n / s := by rw [Int.tdiv_eq_ediv_of_nonneg (by omega)]; exact wrap64_in' (by omega) (by omega)
    have d1 := (le_div_iff' (r := s) (n := n) (t := s) (by omega)).2 a1
    simp only [if_true, if_neg h0]
    rw [w2, if_pos (show n > 0 by omega), if_pos (show s ≥ 1 by omega), if_neg (show ¬ s = 0 by omega), if_pos d1]
    clear w2
    by_cases c : s = 3037000499
    · simp only [if_pos c]; exact Ev.now true
    · simp only [if_neg c]
      have w1 : wrap64 (s + 1) = s + 1 := wrap64_in' (by omega) (by omega)
      have r0 : 0 ≤ n / (s + 1) := Int.ediv_nonneg (by omega) (by omega)
      have r1 : n / (s + 1) ≤ n := Int.ediv_le_self _ (by omega)
      have w3 : wrap64 (Int.tdiv n (s + 1)) = n / (s + 1) := by rw [Int.tdiv_eq_ediv_of_nonneg (by omega)]; exact wrap64_in' (by omega) (by omega)
      have d2 := mt (le_div_iff' (r := s + 1) (n := n) (t := s + 1) (by omega)).1 (by omega)
      rw [w1, w3, if_neg (by omega), decide_eq_true (by omega)]
      exact Ev.now true
end Go.Proofs.Ytbeegagnlcglcaa.Pure
