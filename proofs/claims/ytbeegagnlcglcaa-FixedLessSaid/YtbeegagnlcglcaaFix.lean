/- The small functions of package fixed and of its reference, in plain arithmetic. -/
import Derived.Test.YtbeegagnlcglcaaXx8
import Derived.Test.YtbeegagnlcglcaaXx9
import Derived.Test.YtbeegagnlcglcaaMul
import Derived.Test.YtbeegagnlcglcaaXx10
import Derived.Test.YtbeegagnlcglcaaXx11
set_option linter.unusedVariables false
set_option linter.unusedSimpArgs false
namespace Go.Proofs.Ytbeegagnlcglcaa.X
open Go Go.RowKit Go.Proofs.YtbeegagnlcglcaaW.PrintWords Go.Proofs.YtbeegagnlcglcaaW.PrintLast Go.Proofs.YtbeegagnlcglcaaW.PrintMore

theorem i64_of_wf {n : Int} (h : (Lit.int .i64 n).wf = true) : I64 n := by
  have : (decide (IntKind.i64.min ≤ n) && decide (n ≤ IntKind.i64.max)) = true := h
  rw [Bool.and_eq_true, decide_eq_true_eq, decide_eq_true_eq] at this
  exact this

def isFix (n : Int) : Bool := decide (-2147483647 ≤ n) && decide (n ≤ 2147483647)
theorem isFix_iff {n : Int} : isFix n = true ↔ -2147483647 ≤ n ∧ n ≤ 2147483647 := by unfold isFix; simp
theorem isFix_not {n : Int} : isFix n = false ↔ ¬ (-2147483647 ≤ n ∧ n ≤ 2147483647) := by rw [← isFix_iff]; simp
theorem check_f (n : Int) : fixed_Check.f n = some (if isFix n = true then 0 else 14) := by
  unfold fixed_Check.f
  by_cases h1 : n < -2147483647
  · rw [if_pos h1, if_neg (by rw [isFix_iff]; omega)]
  · rw [if_neg h1]
    by_cases h2 : n > 2147483647
    · rw [if_pos h2, if_neg (by rw [isFix_iff]; omega)]
    · rw [if_neg h2, if_pos (by rw [isFix_iff]; omega)]

theorem all_l0 (l : List Int) (hl : (l.length : Int) < 9223372036854775807) : ∀ (d : Nat) (i : Nat), l.length - i = d → i ≤ l.length →
    Ev (fun k => fixed_all.l0 k l (l.length : Int) (i : Int)) ((l.drop i).all isFix) := by
  intro d
  induction d with
  | zero =>
    intro i e hi
    have : i = l.length := by omega
    subst this
    refine Ev.intro 1 fun k => ?_
    simp only [fixed_all.l0]; rw [if_neg (by omega)]; simp
  | succ d ih =>
    intro i e hi
    have hlt : i < l.length := by omega
    refine Ev.step (f := fun k => if isFix (l[i]) = true then fixed_all.l0 k l (l.length : Int) ((i + 1 : Nat) : Int) else some false) (fun k => ?_) ?_
    · simp only [fixed_all.l0]
      rw [if_pos (by omega), if_pos (by omega), if_pos (by omega), check_f]
      have : rd l (i : Int) = l[i] := by unfold rd; rw [show ((i : Int)).toNat = i by omega, List.getD_eq_getElem?_getD, List.getElem?_eq_getElem hlt]; rfl
      rw [this]; simp only [Option.bind_some]
      rw [wrap64_in' (n := (i : Int) + 1) (by omega) (by omega)]
      by_cases c : isFix l[i] = true
      · simp only [c, if_true]; rfl
      · simp [c]
    · rw [List.drop_eq_getElem_cons hlt]
      by_cases c : isFix l[i] = true
      · simp only [c, if_true, List.all_cons, Bool.true_and]; exact ih (i + 1) (by omega) (by omega)
      · simp only [c, List.all_cons]
        exact Ev.now false
theorem all_ev (l : List Int) (hl : (l.length : Int) < 9223372036854775807) : Ev (fun k => fixed_all.f k l) (l.all isFix) := by
  have := all_l0 l hl l.length 0 (by omega) (by omega)
  simpa [fixed_all.f] using this

theorem round32 : Ev (fun k => fixed_Round.f k 32) 64 := by
  refine Ev.of (fixed_Round.mono 32) (k := 5) ?_
  decide +kernel
theorem alive_ev : Ev (fun k => seriflaw01_fixedAlive.f k) true := by
  unfold seriflaw01_fixedAlive.f
  refine Ev.bind (mulDiv_ev (a := 7) (b := 1) (c := 2) (by unfold I64; omega) (by unfold I64; omega) (by unfold I64; omega)) ?_
  rw [show mulD 7 1 2 = (4, 0) by decide +kernel]
  refine Ev.bind (mulDiv_ev (a := -7) (b := 1) (c := 2) (by unfold I64; omega) (by unfold I64; omega) (by unfold I64; omega)) ?_
  rw [show mulD (-7) 1 2 = (-4, 0) by decide +kernel]
  exact Ev.bind round32 (Ev.now true)
end Go.Proofs.Ytbeegagnlcglcaa.X
