/- JustifyShifts answers true for any three numbers: Shift is the reference's, and the line lies within the width. No condition. -/
import Derived.Test.YtfbanppdiglciaaYx14
import Derived.Test.YtfbanppdiglciaaYx15
import Derived.Test.YtfbanppdiglciaaYx16
import Derived.Test.YtfbanppdiglciaaYx17
import Derived.Test.YtfbanppdiglciaaJusAliveY
import Derived.Test.YtfbanppdiglciaaYx18
set_option linter.unusedVariables false
set_option linter.unusedSimpArgs false
namespace Go.Proofs.Ytfbanppdiglciaa.Pure
open Go Go.RowKit Go.Proofs.Ytfbanppdiglciaa.Y Go.Proofs.YtfbanppdiglciaaW.PrintWords Go.Proofs.YtfbanppdiglciaaW.PrintLast
theorem sw64 {n : Int} (h0 : -9223372036854775808 ≤ n) (h1 : n ≤ 9223372036854775807) : wrap64 n = n := by unfold wrap64; omega
def fixP (n : Int) : Prop := -2147483647 ≤ n ∧ n ≤ 2147483647
instance (n : Int) : Decidable (fixP n) := by unfold fixP; infer_instance
/-- How far the line is moved. -/
def shS (l w side : Int) : Int := if fixP l ∧ fixP w ∧ l < w then (if side = 1 then (w - l) / 2 else if side = 2 then w - l else 0) else 0
theorem sh_prog (l w side : Int) : Ev (fun k => justify_Shift.f k l w side) (shS l w side) := by
  refine ⟨2, fun k hk => ?_⟩
  obtain ⟨k, rfl⟩ : ∃ m, k = m + 2 := ⟨k - 2, by omega⟩
  unfold shS
  by_cases hl : fixP l
  · have c1 : fixed_Check.f l = some 0 := by unfold fixed_Check.f; rw [if_neg (by have := hl.1; omega), if_neg (by have := hl.2; omega)]
    by_cases hw : fixP w
    · have c2 : fixed_Check.f w = some 0 := by unfold fixed_Check.f; rw [if_neg (by have := hw.1; omega), if_neg (by have := hw.2; omega)]
      have := hl.1; have := hl.2; have := hw.1; have := hw.2
      simp only [justify_Shift.f, c1, c2, Option.bind_some, if_true, justify_Shift.j0, justify_Shift.j1]
      by_cases h : l < w
      · rw [if_pos (show fixP l ∧ fixP w ∧ l < w from ⟨hl, hw, h⟩), sw64 (n := w - l) (by omega) (by omega), Int.tdiv_eq_ediv_of_nonneg (by omega), sw64 (n := (w - l) / 2) (by omega) (by omega), decide_eq_false (by omega)]
        simp only [bne_self_eq_false, Bool.false_eq_true, if_false]
        repeat' split
        all_goals rfl
      · rw [if_neg (show ¬ (fixP l ∧ fixP w ∧ l < w) from fun z => h z.2.2), decide_eq_true (by omega)]
        simp only [bne_self_eq_false, Bool.false_eq_true, if_false, if_true]
    · have c2 : fixed_Check.f w = some 14 := by
        unfold fixed_Check.f
        by_cases a : w < -2147483647
        · rw [if_pos a]
        · rw [if_neg a, if_pos (by unfold fixP at hw; omega)]
      rw [if_neg (show ¬ (fixP l ∧ fixP w ∧ l < w) from fun z => hw z.2.1)]
      simp only [justify_Shift.f, c1, c2, Option.bind_some, if_true, justify_Shift.j0, justify_Shift.j1]
      rfl
  · have c1 : fixed_Check.f l = some 14 := by
      unfold fixed_Check.f
      by_cases a : l < -2147483647
      · rw [if_pos a]
      · rw [if_neg a, if_pos (by unfold fixP at hl; omega)]
    rw [if_neg (show ¬ (fixP l ∧ fixP w ∧ l < w) from fun z => hl z.1)]
    simp only [justify_Shift.f, c1, Option.bind_some, justify_Shift.j0, justify_Shift.j1]
    rfl
theorem sh_ref (l w side : Int) : Ev (fun k => serifref20_Shift.f k l w side) (shS l w side) := by
  refine ⟨1, fun k hk => ?_⟩
  obtain ⟨k, rfl⟩ : ∃ m, k = m + 1 := ⟨k - 1, by omega⟩
  unfold shS
  by_cases hl : fixP l
  · have c1 : serifref01_Fix.f l = some true := by unfold serifref01_Fix.f; rw [if_pos (by have := hl.1; omega), decide_eq_true hl.2]
    by_cases hw : fixP w
    · have c2 : serifref01_Fix.f w = some true := by unfold serifref01_Fix.f; rw [if_pos (by have := hw.1; omega), decide_eq_true hw.2]
      have := hl.1; have := hl.2; have := hw.1; have := hw.2
      simp only [serifref20_Shift.f, c1, c2, Option.bind_some, if_true, serifref20_Shift.j0]
      by_cases h : l > w
      · rw [if_neg (show ¬ (fixP l ∧ fixP w ∧ l < w) from fun z => by have := z.2.2; omega), decide_eq_true h]; rfl
      · rw [decide_eq_false h, sw64 (n := w - l) (by omega) (by omega), Int.tdiv_eq_ediv_of_nonneg (by omega), sw64 (n := (w - l) / 2) (by omega) (by omega)]
        simp only [Bool.false_eq_true, if_false]
        by_cases e : l < w
        · rw [if_pos (show fixP l ∧ fixP w ∧ l < w from ⟨hl, hw, e⟩)]
          repeat' split
          all_goals rfl
        · rw [if_neg (show ¬ (fixP l ∧ fixP w ∧ l < w) from fun z => e z.2.2)]
          have : w - l = 0 := by omega
          rw [this]
          repeat' split
          all_goals rfl
    · have c2 : serifref01_Fix.f w = some false := by
        unfold serifref01_Fix.f
        by_cases a : w ≥ -2147483647
        · rw [if_pos a, decide_eq_false (by unfold fixP at hw; omega)]
        · rw [if_neg a]
      rw [if_neg (show ¬ (fixP l ∧ fixP w ∧ l < w) from fun z => hw z.2.1)]
      simp only [serifref20_Shift.f, c1, c2, Option.bind_some, if_true, serifref20_Shift.j0]
      rfl
  · have c1 : serifref01_Fix.f l = some false := by
      unfold serifref01_Fix.f
      by_cases a : l ≥ -2147483647
      · rw [if_pos a, decide_eq_false (by unfold fixP at hl; omega)]
      · rw [if_neg a]
    rw [if_neg (show ¬ (fixP l ∧ fixP w ∧ l < w) from fun z => hl z.1)]
    simp only [serifref20_Shift.f, c1, Option.bind_some, serifref20_Shift.j0]
    rfl
theorem JustifyShifts : seriflaw20_JustifyShifts.Pure := by
  intro l w side _ _ _
  have key : Ev (fun k => seriflaw20_JustifyShifts.f k l w side) true := by
    unfold seriflaw20_JustifyShifts.f
    refine Ev.bind jalive ?_
    simp only [if_true]
    refine Ev.bind (sh_prog l w side) (Ev.bind (sh_ref l w side) ?_)
    simp only [if_true]
    by_cases h : fixP l ∧ fixP w ∧ l < w
    · have h1 := h.1; have h2 := h.2.1; unfold fixP at h1 h2
      have h3 := h.2.2
      have b : 0 ≤ shS l w side ∧ shS l w side ≤ w - l := by
        unfold shS; rw [if_pos h]; repeat' split
        all_goals omega
      rw [sw64 (n := l + shS l w side) (by omega) (by omega), decide_eq_true (by omega)]
      simp only [show shS l w side ≥ 0 from b.1, if_true]
      by_cases z : shS l w side = 0
      · simp only [z, if_true]; exact ⟨0, fun _ _ => rfl⟩
      · simp only [z, if_false]; exact ⟨0, fun _ _ => rfl⟩
    · have z : shS l w side = 0 := by unfold shS; rw [if_neg h]
      simp only [z, if_true, show (0 : Int) ≥ 0 by omega]
      exact ⟨0, fun _ _ => rfl⟩
  exact ⟨key.choose, key.choose_spec _ (Nat.le_refl _)⟩
end Go.Proofs.Ytfbanppdiglciaa.Pure
