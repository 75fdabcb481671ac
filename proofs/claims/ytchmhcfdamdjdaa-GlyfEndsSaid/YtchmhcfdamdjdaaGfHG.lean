/- GlyfEnds: the law's walk. Written by rk/gengf.py. -/
import Derived.Test.YtchmhcfdamdjdaaGfGG
set_option linter.unusedVariables false
set_option linter.unusedSimpArgs false
namespace Go.Proofs.Ytchmhcfdamdjdaa.G
open Go Go.RowKit Go.Proofs.YtchmhcfdamdjdaaW.PrintWords Go.Proofs.YtchmhcfdamdjdaaW.PrintLast Go.Proofs.YtchmhcfdamdjdaaW.PrintMore

set_option maxRecDepth 100000 in
set_option maxHeartbeats 1000000 in
theorem ends_walk (n p : Int) (w : World) : Calls Try.prog 4 #[.int .i64 n, .int .i64 p] w fun e w' => e = .returned (.bool true) ∧ Below w.heap.size w w' := by
  have AL := Aside0.mk (alive_calls w)
  by_cases c1 : n < 1
  · have b1 := eq_true c1
    clear c1
    go_enter Try.func4, Try.ntmps4
    go_wp2_with (go_at_call 9; refine AL.out.mono ?_; rintro q w1 ⟨rfl, k1⟩; have B1 := Aside0.mk k1; clear k1)
    go_ret
    exact ⟨rfl, B1.out⟩
  by_cases c2 : 20 < n
  · have b1 := eq_false c1
    have b2 := eq_true c2
    clear c1 c2
    go_enter Try.func4, Try.ntmps4
    go_wp2_with (go_at_call 9; refine AL.out.mono ?_; rintro q w1 ⟨rfl, k1⟩; have B1 := Aside0.mk k1; clear k1)
    go_ret
    exact ⟨rfl, B1.out⟩
  by_cases c3 : p < 1
  · have b1 := eq_false c1
    have b2 := eq_false c2
    have b3 := eq_true c3
    clear c1 c2 c3
    go_enter Try.func4, Try.ntmps4
    go_wp2_with (go_at_call 9; refine AL.out.mono ?_; rintro q w1 ⟨rfl, k1⟩; have B1 := Aside0.mk k1; clear k1)
    go_ret
    exact ⟨rfl, B1.out⟩
  by_cases c4 : 6 < p
  · have b1 := eq_false c1
    have b2 := eq_false c2
    have b3 := eq_false c3
    have b4 := eq_true c4
    clear c1 c2 c3 c4
    go_enter Try.func4, Try.ntmps4
    go_wp2_with (go_at_call 9; refine AL.out.mono ?_; rintro q w1 ⟨rfl, k1⟩; have B1 := Aside0.mk k1; clear k1)
    go_ret
    exact ⟨rfl, B1.out⟩
  obtain ⟨a, rfl⟩ := Int.eq_ofNat_of_zero_le (show 0 ≤ n by omega)
  obtain ⟨b, rfl⟩ := Int.eq_ofNat_of_zero_le (show 0 ≤ p by omega)
  exact ends_core a b (by omega) (by omega) (by omega) (by omega) w
end Go.Proofs.Ytchmhcfdamdjdaa.G
