/- Items, where lines may end and must end, and which paragraphs are refused: the program's and the reference's small functions, in plain words. -/
import Derived.Test.YtfbanppdiglciaaYx0
import Derived.Test.YtfbanppdiglciaaYx4
import Derived.Test.YtfbanppdiglciaaVMore
import Derived.Test.YtfbanppdiglciaaYx5
import Derived.Test.YtfbanppdiglciaaDivBY
import Derived.Test.YtfbanppdiglciaaYx19
set_option linter.unusedVariables false
set_option linter.unusedSimpArgs false
namespace Go.Proofs.Ytfbanppdiglciaa.Y
open Go Go.RowKit Go.Proofs.YtfbanppdiglciaaW.PrintWords Go.Proofs.YtfbanppdiglciaaW.PrintLast Go.Proofs.YtfbanppdiglciaaW.PrintMore

theorem w64 {n : Int} (h0 : -9223372036854775808 ≤ n) (h1 : n ≤ 9223372036854775807) : wrap64 n = n := by unfold wrap64; omega
theorem rdT {l : List S31} {i : Nat} (h : i < l.length) : rd_T31 l (i : Int) = l[i] := by
  unfold rd_T31; rw [show ((i : Int)).toNat = i by omega, List.getD_eq_getElem?_getD, List.getElem?_eq_getElem h]; rfl
theorem rdI {l : List Int} {i : Nat} (h : i < l.length) : rd l (i : Int) = l[i] := by
  unfold rd; rw [show ((i : Int)).toNat = i by omega, List.getD_eq_getElem?_getD, List.getElem?_eq_getElem h]; rfl
/-- The item at a place. -/
def itm (l : List S31) (i : Nat) : S31 := l.getD i z31
theorem itm_rd (l : List S31) (i : Nat) : rd_T31 l (i : Int) = itm l i := by unfold rd_T31 itm; rw [show ((i : Int)).toNat = i by omega]
theorem itm_get {l : List S31} {i : Nat} (h : i < l.length) : itm l i = l[i] := by rw [← itm_rd, rdT h]

/-- Is the item right? -/
def okI (x : S31) : Bool := rightS x.f0 x.f1 x.f2 x.f3 x.f4
theorem okI_iff (x : S31) : okI x = true ↔ (0 ≤ x.f1 ∧ x.f1 ≤ 2147483647 ∧ 0 ≤ x.f2 ∧ x.f2 ≤ 2147483647 ∧ 0 ≤ x.f3 ∧ x.f3 ≤ 2147483647 ∧ 1 ≤ x.f0 ∧ x.f0 ≤ 3 ∧ -10000 ≤ x.f4 ∧ x.f4 ≤ 10000) := by
  unfold okI rightS; simp only [Bool.and_eq_true, decide_eq_true_eq]; constructor <;> (intro h; omega)
def chkE (w t : Int) : Int := if w < 1 then 195 else if w > 2147483647 then 195 else if t < 0 then 195 else if t > 10000 then 195 else 0
/-- The error's number. -/
def chkL (l : List S31) (w t : Int) : Int := if (l.length : Int) > 4096 then 193 else if l.all okI = true then chkE w t else 195
theorem chkE_some (w t : Int) : (if w < 1 then some (195 : Int) else (if w > 2147483647 then (some 195) else (if t < 0 then (some 195) else (if t > 10000 then (some 195) else (some 0))))) = some (chkE w t) := by
  unfold chkE; repeat' split
  all_goals rfl

theorem ocheck_l0 (l : List S31) (w t : Int) (hl : (l.length : Int) < 9223372036854775807) : ∀ (d : Nat) (i : Nat), l.length - i = d → i ≤ l.length →
    Ev (fun k => optimal_Check.l0 k w t l (l.length : Int) (i : Int)) (if (l.drop i).all okI = true then chkE w t else 195) := by
  intro d
  induction d with
  | zero =>
    intro i e hi
    have : i = l.length := by omega
    subst this
    refine Ev.intro 1 fun k => ?_
    simp only [optimal_Check.l0]; rw [if_neg (by omega), chkE_some]; simp
  | succ d ih =>
    intro i e hi
    have hlt : i < l.length := by omega
    refine Ev.step (f := fun k => if okI l[i] = true then optimal_Check.l0 k w t l (l.length : Int) ((i + 1 : Nat) : Int) else some 195) (fun k => ?_) ?_
    · simp only [optimal_Check.l0]
      rw [if_pos (by omega), if_pos (by omega), if_pos (by omega), rdT hlt]
      simp only [optimal_right.f, Option.bind_some]
      rw [w64 (n := (i : Int) + 1) (by omega) (by omega)]
      rfl
    · rw [List.drop_eq_getElem_cons hlt]
      by_cases c : okI l[i] = true
      · simp only [c, if_true, List.all_cons, Bool.true_and]; exact ih (i + 1) (by omega) (by omega)
      · simp only [c, List.all_cons]
        exact Ev.now 195
theorem ocheck (l : List S31) (w t : Int) : Ev (fun k => optimal_Check.f k l w t) (chkL l w t) := by
  unfold optimal_Check.f chkL
  by_cases h : (l.length : Int) > 4096
  · simp only [if_pos h]; exact Ev.now _
  · simp only [if_neg h]
    exact ocheck_l0 l w t (by omega) l.length 0 (by omega) (by omega)
theorem rcheck_l0 (l : List S31) (w t : Int) (hl : (l.length : Int) < 9223372036854775807) : ∀ (d : Nat) (i : Nat), l.length - i = d → i ≤ l.length →
    Ev (fun k => serifref19_Check.l0 k w t l (l.length : Int) (i : Int)) (if (l.drop i).all okI = true then chkE w t else 195) := by
  intro d
  induction d with
  | zero =>
    intro i e hi
    have : i = l.length := by omega
    subst this
    refine Ev.intro 1 fun k => ?_
    simp only [serifref19_Check.l0]; rw [if_neg (by omega), chkE_some]; simp
  | succ d ih =>
    intro i e hi
    have hlt : i < l.length := by omega
    refine Ev.step (f := fun k => if okI l[i] = true then serifref19_Check.l0 k w t l (l.length : Int) ((i + 1 : Nat) : Int) else some 195) (fun k => ?_) ?_
    · simp only [serifref19_Check.l0]
      rw [if_pos (by omega), if_pos (by omega), if_pos (by omega), rdT hlt]
      rw [w64 (n := (i : Int) + 1) (by omega) (by omega)]
      have ok := okI_iff l[i]
      by_cases c : okI l[i] = true
      · have := ok.1 c
        rw [if_neg (by omega), if_neg (by omega), if_neg (by omega), if_neg (by omega), if_neg (by omega), if_neg (by omega), if_neg (by omega), if_neg (by omega), if_neg (by omega), if_neg (by omega), if_pos c]; rfl
      · rw [if_neg c]
        iterate 10 (split; · rfl)
        exact absurd (ok.2 (by omega)) c
    · rw [List.drop_eq_getElem_cons hlt]
      by_cases c : okI l[i] = true
      · simp only [c, if_true, List.all_cons, Bool.true_and]; exact ih (i + 1) (by omega) (by omega)
      · simp only [c, List.all_cons]
        exact Ev.now 195
theorem rcheck (l : List S31) (w t : Int) : Ev (fun k => serifref19_Check.f k l w t) (chkL l w t) := by
  unfold serifref19_Check.f chkL
  by_cases h : (l.length : Int) > 4096
  · simp only [if_pos h]; exact Ev.now _
  · simp only [if_neg h]
    exact rcheck_l0 l w t (by omega) l.length 0 (by omega) (by omega)
/-- What is known of a paragraph that is not refused. -/
structure Fine (l : List S31) (w t : Int) : Prop where
  len : l.length ≤ 4096
  item : ∀ i, i < l.length → okI (itm l i) = true
  w0 : 1 ≤ w
  w1 : w ≤ 2147483647
  t0 : 0 ≤ t
  t1 : t ≤ 10000
theorem Fine.of {l : List S31} {w t : Int} (h : chkL l w t = 0) : Fine l w t := by
  unfold chkL chkE at h
  split at h
  · omega
  · split at h
    · rename_i a b
      rw [List.all_eq_true] at b
      repeat' split at h
      all_goals first | omega | exact ⟨by omega, fun i hi => by rw [itm_get hi]; exact b _ (List.getElem_mem hi), by omega, by omega, by omega, by omega⟩
    · omega
theorem chk_ne {l : List S31} {w t : Int} : chkL l w t = 0 ∨ chkL l w t = 193 ∨ chkL l w t = 195 := by
  unfold chkL chkE; repeat' split
  all_goals simp

/-- May a line end there? -/
def plB (l : List S31) (i : Nat) : Bool := if (itm l i).f0 = 3 then decide ((itm l i).f4 < 10000) else if (itm l i).f0 = 2 then (if 0 < i then (itm l (i - 1)).f0 == 1 else false) else false
/-- Must a line end there? -/
def fcB (l : List S31) (i : Nat) : Bool := if i = l.length then true else if (itm l i).f0 = 3 then (itm l i).f4 == (-10000) else false
def plE (l : List S31) (i : Nat) : Bool := if i = l.length then true else plB l i
theorem fc_pl {l : List S31} {i : Nat} (h : fcB l i = true) : plE l i = true := by
  unfold fcB at h; unfold plE plB
  split at h
  · rename_i a; rw [if_pos a]
  · rename_i a; rw [if_neg a]
    split at h
    · rename_i b; rw [if_pos b]; have : (itm l i).f4 = -10000 := by simpa using h
      rw [this]; rfl
    · cases h
end Go.Proofs.Ytfbanppdiglciaa.Y
