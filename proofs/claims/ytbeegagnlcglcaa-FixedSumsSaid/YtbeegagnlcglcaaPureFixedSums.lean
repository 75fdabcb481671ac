/- FixedSums answers true for any two integers: sums, differences and checks are the reference's. No condition. -/
import Derived.Test.YtbeegagnlcglcaaFix
import Derived.Test.YtbeegagnlcglcaaXx6
set_option linter.unusedVariables false
set_option linter.unusedSimpArgs false
namespace Go.Proofs.Ytbeegagnlcglcaa.Pure
open Go Go.RowKit Go.Proofs.Ytbeegagnlcglcaa.X Go.Proofs.YtbeegagnlcglcaaW.PrintWords Go.Proofs.YtbeegagnlcglcaaW.PrintLast
theorem fix_f (n : Int) : serifref01_Fix.f n = some (isFix n) := by
  unfold serifref01_Fix.f isFix
  by_cases h : n ≥ -2147483647
  · rw [if_pos h, decide_eq_true (show -2147483647 ≤ n by omega), Bool.true_and]
  · rw [if_neg h, decide_eq_false (show ¬ -2147483647 ≤ n by omega), Bool.false_and]
def sumS (a b : Int) : Int × Int := if isFix a = true ∧ isFix b = true ∧ isFix (a + b) = true then (a + b, 0) else (0, 14)
theorem wrap_fix {a b : Int} (ha : isFix a = true) (hb : isFix b = true) : wrap64 (a + b) = a + b := by
  rw [isFix_iff] at ha hb; exact wrap64_in' (by omega) (by omega)
theorem sum_f (a b : Int) : serifref01_Sum.f a b = some (sumS a b) := by
  unfold serifref01_Sum.f sumS
  rw [fix_f, fix_f]; simp only [Option.bind_some, fix_f]
  by_cases ha : isFix a = true
  · rw [if_pos ha]
    by_cases hb : isFix b = true
    · rw [if_pos hb, wrap_fix ha hb]
      by_cases hc : isFix (a + b) = true
      · rw [if_pos hc, if_pos ⟨ha, hb, hc⟩]
      · rw [if_neg hc, if_neg (fun h => hc h.2.2)]
    · rw [if_neg hb, if_neg (fun h => hb h.2.1)]
  · rw [if_neg ha, if_neg (fun h => ha h.1)]
theorem fit_f (n : Int) : fixed_fit.f n = some (if isFix n = true then (n, 0) else (0, 14)) := by
  unfold fixed_fit.f
  rw [check_f]; simp only [Option.bind_some]
  by_cases h : isFix n = true
  · simp [h]
  · simp [h]
theorem add_ev (a b : Int) : Ev (fun k => fixed_Add.f k a b) (sumS a b) := by
  unfold fixed_Add.f sumS
  refine Ev.bind (all_ev [a, b] (by simp)) ?_
  simp only [fit_f, Option.bind_some, List.all_cons, List.all_nil, Bool.and_true, Bool.and_eq_true]
  by_cases h : isFix a = true ∧ isFix b = true
  · simp only [if_pos h, wrap_fix h.1 h.2]
    by_cases hc : isFix (a + b) = true
    · rw [if_pos hc, if_pos ⟨h.1, h.2, hc⟩]; exact Ev.now _
    · rw [if_neg hc, if_neg (fun z => hc z.2.2)]; exact Ev.now _
  · simp only [if_neg h]; rw [if_neg (fun z => h ⟨z.1, z.2.1⟩)]; exact Ev.now _
theorem isFix_neg (b : Int) : isFix (-b) = isFix b := by
  rw [Bool.eq_iff_iff, isFix_iff, isFix_iff]; omega
theorem sub_ev (a b : Int) : Ev (fun k => fixed_Sub.f k a b) (if isFix b = true then sumS a (-b) else (0, 14)) := by
  unfold fixed_Sub.f sumS
  refine Ev.bind (all_ev [a, b] (by simp)) ?_
  simp only [fit_f, Option.bind_some, List.all_cons, List.all_nil, Bool.and_true, Bool.and_eq_true, isFix_neg]
  by_cases hb : isFix b = true
  · rw [if_pos hb]
    by_cases ha : isFix a = true
    · have w : wrap64 (a - b) = a + -b := by rw [isFix_iff] at ha hb; rw [wrap64_in' (by omega) (by omega)]; omega
      simp only [ha, hb, and_self, if_true, true_and, w]
      by_cases hc : isFix (a + -b) = true
      · rw [if_pos hc]; simp only [hc, if_true]; exact Ev.now _
      · rw [if_neg hc]; simp only [hc]; exact Ev.now _
    · simp only [if_neg (show ¬ (isFix a = true ∧ isFix b = true) from fun z => ha z.1)]; rw [if_neg (fun z => ha z.1)]; exact Ev.now _
  · rw [if_neg hb]; simp only [if_neg (show ¬ (isFix a = true ∧ isFix b = true) from fun z => hb z.2)]; exact Ev.now _
theorem FixedSums : seriflaw01_FixedSums.Pure := by
  intro a b ha hb
  have ia := i64_of_wf ha; have ib := i64_of_wf hb
  apply Ev.rounds
  unfold seriflaw01_FixedSums.f
  refine Ev.bind alive_ev ?_
  simp only [if_true]
  refine Ev.bind (add_ev a b) ?_
  simp only [sum_f, Option.bind_some, if_true, check_f, fix_f]
  have key : Ev (fun k => seriflaw01_FixedSums.j0 k a b false) true := by
    refine Ev.step (f := fun k => (fixed_Sub.f k a b).bind fun bt203 => ((serifref01_Fix.f b).bind fun t205 => (if t205 = true then ((serifref01_Sum.f a (wrap64 (-b))).bind fun bt206 => (if bt203.1 = bt206.1 then (if bt203.2 = bt206.2 then (some true) else (some false)) else (some false))) else (if bt203.1 = 0 then (if bt203.2 = 14 then (some true) else (some false)) else (some false))))) (fun k => by simp only [seriflaw01_FixedSums.j0]; rfl) ?_
    refine Ev.bind (sub_ev a b) ?_
    simp only [fix_f, Option.bind_some, sum_f]
    by_cases h : isFix b = true
    · have w : wrap64 (-b) = -b := by rw [isFix_iff] at h; exact wrap64_in' (by omega) (by omega)
      simp only [if_pos h, w, if_true]; exact Ev.now true
    · simp only [if_neg h, if_true]; exact Ev.now true
  by_cases h : isFix a = true
  · simp only [if_pos h, if_true]; exact key
  · simp only [if_neg h]; simpa using key
end Go.Proofs.Ytbeegagnlcglcaa.Pure
