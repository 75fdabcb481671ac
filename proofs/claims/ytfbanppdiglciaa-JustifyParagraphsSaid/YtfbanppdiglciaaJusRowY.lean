/- The row of a line ahead of the glue's shares, in plain numbers. -/
import Derived.Test.YtfbanppdiglciaaYx0
import Derived.Test.YtfbanppdiglciaaYx12
import Derived.Test.YtfbanppdiglciaaJusSpreadY
set_option linter.unusedVariables false
set_option linter.unusedSimpArgs false
namespace Go.Proofs.Ytfbanppdiglciaa.Y
open Go Go.RowKit Go.Proofs.YtfbanppdiglciaaW.PrintWords Go.Proofs.YtfbanppdiglciaaW.PrintLast Go.Proofs.YtfbanppdiglciaaW.PrintMore

/-- Items within the limits that Check asks. -/
def itOk (x : S31) : Prop := 0 ≤ x.f1 ∧ x.f1 ≤ 2147483647 ∧ 0 ≤ x.f2 ∧ x.f2 ≤ 2147483647 ∧ 0 ≤ x.f3 ∧ x.f3 ≤ 2147483647
theorem rd_ok {I : List S31} (h : ∀ x ∈ I, itOk x) {i : Nat} (hi : i < I.length) : itOk (rd_T31 I (i : Int)) := by
  have e : rd_T31 I (i : Int) = I[i] := by unfold rd_T31; rw [Int.toNat_natCast, List.getD_eq_getElem?_getD, List.getElem?_eq_getElem hi]; rfl
  rw [e]; exact h _ (List.getElem_mem hi)
/-- The sums stay within i times the greatest item. -/
theorem stF_bd {I : List S31} {fi : Nat} (h : ∀ x ∈ I, itOk x) : ∀ (i : Nat), i ≤ I.length → i ≤ 5000 →
    (0 ≤ (stF I fi i).1 ∧ (stF I fi i).1 ≤ 2147483647 * i) ∧ (0 ≤ (stF I fi i).2.1 ∧ (stF I fi i).2.1 ≤ 2147483647 * i) ∧ (0 ≤ (stF I fi i).2.2 ∧ (stF I fi i).2.2 ≤ 2147483647 * i)
  | 0, _, _ => by simp [stF]
  | i + 1, h1, h2 => by
    have ih := stF_bd (fi := fi) h i (by omega) (by omega)
    have o := rd_ok h (show i < I.length by omega)
    unfold itOk at o
    unfold stF
    generalize stF I fi i = F at *
    generalize rd_T31 I (i : Int) = X at *
    split
    · simp only [Int.natCast_add, Int.natCast_one] at *; omega
    split
    · simp only [Int.natCast_add, Int.natCast_one] at *; omega
    dsimp only
    refine ⟨?_, ?_, ?_⟩
    · rw [wrap64_in' (by omega) (by omega)]; omega
    · split
      · rw [wrap64_in' (by omega) (by omega)]; omega
      · omega
    · split
      · rw [wrap64_in' (by omega) (by omega)]; omega
      · omega
theorem gvAll_snoc (b : Bool) (x : S31) : ∀ (J : List S31), gvAll b (J ++ [x]) = gvAll b J + (if x.f0 = 2 then gvs b x else 0)
  | [] => by simp [gvAll]
  | y :: r => by
    have ih := gvAll_snoc b x r
    show gvAll b (y :: (r ++ [x])) = _
    unfold gvAll; rw [ih]; omega
/-- The summed stretch and shrink are what the line's glue gives in all. -/
theorem stF_gv {I : List S31} {fi : Nat} (h : ∀ x ∈ I, itOk x) : ∀ (i : Nat), i ≤ I.length → i ≤ 5000 →
    (stF I fi i).2.1 = gvAll true ((I.take i).drop fi) ∧ (stF I fi i).2.2 = gvAll false ((I.take i).drop fi)
  | 0, _, _ => by simp [stF, gvAll]
  | i + 1, h1, h2 => by
    have ih := stF_gv (fi := fi) h i (by omega) (by omega)
    have bd := stF_bd (fi := fi) h i (by omega) (by omega)
    have o := rd_ok h (show i < I.length by omega)
    have e : rd_T31 I (i : Int) = I[i]'(by omega) := by unfold rd_T31; rw [Int.toNat_natCast, List.getD_eq_getElem?_getD, List.getElem?_eq_getElem (by omega)]; rfl
    have t : I.take (i + 1) = I.take i ++ [I[i]'(by omega)] := by rw [List.take_add_one, List.getElem?_eq_getElem (by omega)]; rfl
    unfold itOk at o
    rw [t, ← e]
    unfold stF
    by_cases c : i < fi
    · rw [if_pos c, ih.1, ih.2, List.drop_eq_nil_of_le (by simp; omega), List.drop_eq_nil_of_le (by simp; omega)]; exact ⟨rfl, rfl⟩
    rw [if_neg c, List.drop_append_of_le_length (by simp; omega), gvAll_snoc, gvAll_snoc, ← ih.1, ← ih.2]
    generalize stF I fi i = F at *
    generalize rd_T31 I (i : Int) = X at *
    by_cases z : X.f0 = 3
    · rw [if_pos z, if_neg (by omega), if_neg (by omega)]; exact ⟨(Int.add_zero _).symm, (Int.add_zero _).symm⟩
    rw [if_neg z]
    dsimp only [gvs]
    by_cases y : X.f0 = 2
    · simp only [if_pos y, if_true, Bool.false_eq_true, if_false]
      exact ⟨wrap64_in' (by omega) (by omega), wrap64_in' (by omega) (by omega)⟩
    · simp only [if_neg y, Int.add_zero]; exact ⟨trivial, trivial⟩
theorem stF_w {I : List S31} {fi : Nat} (h : ∀ x ∈ I, itOk x) : ∀ (i : Nat), i ≤ I.length → i ≤ 5000 → (stF I fi i).1 = ((List.range i).map (stO I fi)).sum
  | 0, _, _ => by simp [stF]
  | i + 1, h1, h2 => by
    have ih := stF_w (fi := fi) h i (by omega) (by omega)
    have bd := (stF_bd (fi := fi) h i (by omega) (by omega)).1
    have o := rd_ok h (show i < I.length by omega)
    unfold itOk at o
    rw [List.range_succ, List.map_append, List.sum_append, ← ih]
    simp only [List.map_cons, List.map_nil, List.sum_cons, List.sum_nil, Int.add_zero]
    rw [stF]; unfold stO
    generalize stF I fi i = F at *
    generalize rd_T31 I (i : Int) = X at *
    by_cases c : i < fi
    · rw [if_pos c, if_pos c]; omega
    rw [if_neg c, if_neg c]
    by_cases z : X.f0 = 3
    · rw [if_pos z, if_pos z]; omega
    rw [if_neg z, if_neg z]
    exact wrap64_in' (by omega) (by omega)
theorem range_cut (g : Nat → Int) (i : Nat) : ∀ n, i ≤ n → ((List.range n).map (fun j => if j < i then g j else 0)).sum = ((List.range i).map g).sum
  | 0, h => by obtain rfl : i = 0 := by omega
               simp
  | n + 1, h => by
    rw [List.range_succ, List.map_append, List.sum_append]
    simp only [List.map_cons, List.map_nil, List.sum_cons, List.sum_nil, Int.add_zero]
    by_cases c : i ≤ n
    · rw [if_neg (by omega), range_cut g i n c]; omega
    · obtain rfl : i = n + 1 := by omega
      rw [if_pos (by omega), List.range_succ, List.map_append, List.sum_append]
      simp only [List.map_cons, List.map_nil, List.sum_cons, List.sum_nil, Int.add_zero]
      congr 2
      refine List.map_congr_left fun j hj => ?_
      have := List.mem_range.1 hj
      rw [if_pos (by omega)]
/-- The row's sum ahead of the shares is the line's natural width. -/
theorem stZ_sum {I : List S31} {fi n i : Nat} (h : ∀ x ∈ I, itOk x) (h1 : i ≤ I.length) (h2 : i ≤ 5000) (h3 : i ≤ n) : (stZ I fi n i).sum = (stF I fi i).1 := by
  rw [stF_w h i h1 h2]; exact range_cut _ i n h3
end Go.Proofs.Ytfbanppdiglciaa.Y
