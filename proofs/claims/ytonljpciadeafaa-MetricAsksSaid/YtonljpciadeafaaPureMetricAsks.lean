/- MetricAsks: what the program answers is what the statement asks, for any measures. -/
import Derived.Test.YtonljpciadeafaaQx44
import Derived.Test.YtonljpciadeafaaQx45
import Derived.Test.YtonljpciadeafaaQx46
import Derived.Test.YtonljpciadeafaaQx47
import Derived.Test.YtonljpciadeafaaQx48
set_option linter.unusedVariables false
set_option linter.unusedSimpArgs false
namespace Go.Proofs.Ytonljpciadeafaa.Pure
open Go Go.RowKit Go.Proofs.Ytonljpciadeafaa.Q Go.Proofs.YtonljpciadeafaaW.PrintWords Go.Proofs.YtonljpciadeafaaW.PrintLast
theorem wr_small {x : Int} (h0 : -9223372036854775808 ≤ x) (h1 : x < 9223372036854775808) : wrap64 x = x := by
  unfold wrap64
  first | (simp only [IntKind.wrap]; omega) | omega
theorem asks_pure (a0 a1 a2 a3 a4 a5 : Int) (l6 l7 l8 : List Int) (g : Int) (hp : l8.length * 8 ≤ 140737488351232) : seriflaw04_MetricAsks.f 6 a0 a1 a2 a3 a4 a5 l6 l7 l8 g = some true := by
  obtain ⟨la, hla⟩ : ∃ n : Nat, l6.length = n := ⟨_, rfl⟩
  obtain ⟨lp, hlp⟩ : ∃ n : Nat, l8.length = n := ⟨_, rfl⟩
  rw [hlp] at hp
  have w1 : 0 < lp → wrap64 ((lp : Int) - 1) = (lp : Int) - 1 := fun h => wr_small (by omega) (by omega)
  have w2 : 0 ≤ g → g < lp → wrap64 (g + 1) = g + 1 := fun h h2 => wr_small (by omega) (by omega)
  unfold seriflaw04_MetricAsks.f seriflaw04_metricAlive.f
  simp only [seriflaw04_MetricAsks.j0, seriflaw04_MetricAsks.j1, metric_Advance.f, metric_Place.f, metric_Place.j0, metric_has.f, Option.bind_some, if_true, hla, hlp]
  by_cases b1 : g < 0
  · have b2 : ¬ g ≥ 0 := by omega
    simp [b1, b2]
  by_cases b3 : g ≥ a2
  · have b2 : g ≥ 0 := by omega
    have b4 : ¬ g < a2 := by omega
    simp [b1, b2, b3, b4]
  have b2 : g ≥ 0 := by omega
  have b4 : g < a2 := by omega
  by_cases b5 : (la : Int) < a2
  · by_cases b6 : g < (la : Int)
    · simp [b1, b2, b3, b4, b5, b6]
    · simp [b1, b2, b3, b4, b5, b6]
  have b6 : g < (la : Int) := by omega
  have b7 : (0 : Int) ≤ g := b2
  by_cases c1 : lp = 0
  · subst c1
    simp [b1, b2, b3, b4, b5, b6]
  have c2 : (lp : Int) > 0 := by omega
  have c3 : ¬ (lp : Int) = 0 := by omega
  rw [w1 (by omega)]
  by_cases c4 : (lp : Int) - 1 = a2
  · have c5 : g < (lp : Int) := by omega
    have c6 : g + 1 < (lp : Int) := by omega
    have c7 : 0 ≤ g + 1 := by omega
    rw [w2 b7 c5]
    by_cases d1 : rd l8 g < 0
    · simp [b1, b2, b3, b4, b5, b6, c1, c2, c3, c4, c5, c6, c7, d1]
    · by_cases d2 : rd l8 (g + 1) < rd l8 g
      · simp [b1, b2, b3, b4, b5, b6, c1, c2, c3, c4, c5, c6, c7, d1, d2]
      · simp [b1, b2, b3, b4, b5, b6, c1, c2, c3, c4, c5, c6, c7, d1, d2]
  · have c7 : 0 < lp := by omega
    simp [b1, b2, b3, b4, b5, b6, c1, c2, c3, c4, c7]
theorem MetricAsks : seriflaw04_MetricAsks.Pure := fun x0 a1 h _ => ⟨6, asks_pure _ _ _ _ _ _ _ _ _ _ h.2.2.2.2.2.2.2.2.2.1⟩
end Go.Proofs.Ytonljpciadeafaa.Pure
