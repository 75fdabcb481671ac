/- FixedProducts answers true for any three integers: MulDiv and Mul are the nearest of the exact quotient, or refused. No condition. -/
import Derived.Test.YtbeegagnlcglcaaLongB
import Derived.Test.YtbeegagnlcglcaaXx7
set_option linter.unusedVariables false
set_option linter.unusedSimpArgs false
namespace Go.Proofs.Ytbeegagnlcglcaa.Pure
open Go Go.RowKit Go.Proofs.Ytbeegagnlcglcaa.X Go.Proofs.YtbeegagnlcglcaaW.PrintWords Go.Proofs.YtbeegagnlcglcaaW.PrintLast Go.Proofs.YtbeegagnlcglcaaW.PrintMore
theorem FixedProducts : seriflaw01_FixedProducts.Pure := by
  intro a b c wa wb wc
  have ha := i64_of_wf wa; have hb := i64_of_wf wb; have hc := i64_of_wf wc
  apply Ev.rounds
  unfold seriflaw01_FixedProducts.f
  refine Ev.bind alive_ev ?_
  simp only [if_true]
  refine Ev.bind (rmulDiv_ev ha hb hc) (Ev.bind (mulDiv_ev ha hb hc) ?_)
  simp only [if_true, bne_self_eq_false]
  refine Ev.step (f := fun k => (fixed_Mul.f k a b c).bind fun bt => (if c < 0 then (if bt.1 = 0 then (some (bt.2 == 14)) else (some false)) else (if c > 30 then (if bt.1 = 0 then (some (bt.2 == 14)) else (some false)) else (if 0 ≤ c then ((serifref01_MulDiv.f k a b (shl .i64 1 c)).bind fun bt2 => (if bt.1 = bt2.1 then (some (bt.2 == bt2.2)) else (some false))) else (none))))) (fun k => by simp only [seriflaw01_FixedProducts.j0, Bool.false_eq_true, if_false]) ?_
  unfold fixed_Mul.f
  by_cases h0 : c < 0
  · simp only [if_pos h0, Option.bind_some, if_true, beq_self_eq_true]; exact Ev.now true
  · by_cases h1 : c > 30
    · simp only [if_neg h0, if_pos h1, Option.bind_some, if_true, beq_self_eq_true]; exact Ev.now true
    · simp only [if_neg h0, if_neg h1, if_pos (show 0 ≤ c by omega)]
      have hs : I64 (shl .i64 1 c) := by
        obtain ⟨n, rfl⟩ := Int.eq_ofNat_of_zero_le (show 0 ≤ c by omega)
        have hn : n ≤ 30 := by omega
        unfold shl I64
        have p : (0 : Int) < 2 ^ n := Int.pow_pos (by decide)
        have q : (2 : Int) ^ n * 2 ^ (30 - n) = 1073741824 := by rw [← Int.pow_add, show n + (30 - n) = 30 by omega]; rfl
        have r : (0 : Int) < 2 ^ (30 - n) := Int.pow_pos (by decide)
        have s : (2 : Int) ^ n * 1 ≤ 2 ^ n * 2 ^ (30 - n) := Int.mul_le_mul_of_nonneg_left (by omega) (by omega)
        rw [show ((n : Int)).toNat = n by omega, Nat.min_eq_left (show n ≤ IntKind.i64.bits by show n ≤ 64; omega), IntKind.wrap_i64]
        omega
      refine Ev.bind (Ev.bind (mulDiv_ev ha hb hs) (Ev.now _)) ?_
      refine Ev.bind (rmulDiv_ev ha hb hs) ?_
      simp only [if_true, beq_self_eq_true]; exact Ev.now true
end Go.Proofs.Ytbeegagnlcglcaa.Pure
