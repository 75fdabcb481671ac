import Derived.Test.YtfbanppdiglciaaXx0
import Derived.Test.YtfbanppdiglciaaXx18
import Derived.Test.YtfbanppdiglciaaXx2
import Derived.Test.YtfbanppdiglciaaXx3
import Derived.Test.YtfbanppdiglciaaWMore
import Derived.Test.YtfbanppdiglciaaXx5
import Derived.Test.YtfbanppdiglciaaXx17
import Derived.Test.YtfbanppdiglciaaXx20
set_option linter.unusedVariables false
set_option linter.unusedSimpArgs false
namespace Go.Proofs.Ytfbanppdiglciaa.X
open Go Go.RowKit Go.Proofs.YtfbanppdiglciaaW.PrintWords Go.Proofs.YtfbanppdiglciaaW.PrintLast Go.Proofs.YtfbanppdiglciaaW.PrintMore
theorem w64 {n : Int} (h0 : -9223372036854775808 ≤ n) (h1 : n ≤ 9223372036854775807) : wrap64 n = n := by unfold wrap64; omega
theorem Ev.intro {α : Type} {g : Nat → Option α} {r : α} (m : Nat) (h : ∀ k, g (k + m) = some r) : Ev g r := ⟨m, fun k hk => by rw [show k = (k - m) + m by omega]; exact h _⟩
theorem rdT {l : List S31} {i : Nat} (h : i < l.length) : qc l (i : Int) = l[i] := by
  unfold qc; rw [show ((i : Int)).toNat = i by omega, List.getD_eq_getElem?_getD, List.getElem?_eq_getElem h]; rfl
theorem rdI {l : List Int} {i : Nat} (h : i < l.length) : rd l (i : Int) = l[i] := by
  unfold rd; rw [show ((i : Int)).toNat = i by omega, List.getD_eq_getElem?_getD, List.getElem?_eq_getElem h]; rfl
def itm (l : List S31) (i : Nat) : S31 := l.getD i z31
theorem Qt (l : List S31) (i : Nat) : qc l (i : Int) = itm l i := by unfold qc itm; rw [show ((i : Int)).toNat = i by omega]
theorem itm_get {l : List S31} {i : Nat} (h : i < l.length) : itm l i = l[i] := by rw [← Qt, rdT h]
def okI (x : S31) : Bool := jQ x.f0 x.f1 x.f2 x.f3 x.f4
theorem Q5 (x : S31) : okI x = true ↔ (0 ≤ x.f1 ∧ x.f1 ≤ 2147483647 ∧ 0 ≤ x.f2 ∧ x.f2 ≤ 2147483647 ∧ 0 ≤ x.f3 ∧ x.f3 ≤ 2147483647 ∧ 1 ≤ x.f0 ∧ x.f0 ≤ 3 ∧ -10000 ≤ x.f4 ∧ x.f4 ≤ 10000) := by
  unfold okI jQ; simp only [Bool.and_eq_true, decide_eq_true_eq]; constructor <;> (intro h; omega)
def chkE (w t : Int) : Int := if w < 1 then 195 else if w > 2147483647 then 195 else if t < 0 then 195 else if t > 10000 then 195 else 0
def QG (l : List S31) (w t : Int) : Int := if (l.length : Int) > 4096 then 193 else if l.all okI = true then chkE w t else 195
theorem chkE_some (w t : Int) : (if w < 1 then some (195 : Int) else (if w > 2147483647 then (some 195) else (if t < 0 then (some 195) else (if t > 10000 then (some 195) else (some 0))))) = some (chkE w t) := by
  unfold chkE; repeat' split
  all_goals rfl
theorem ocheck_l0 (l : List S31) (w t : Int) (hl : (l.length : Int) < 9223372036854775807) : ∀ (d : Nat) (i : Nat), l.length - i = d → i ≤ l.length →
    Ev (fun k => zG.l0 k w t l (l.length : Int) (i : Int)) (if (l.drop i).all okI = true then chkE w t else 195) := by
  intro d
  induction d with
  | zero =>
    intro i e hi
    have : i = l.length := by omega
    subst this
    refine Ev.intro 1 fun k => ?_
    simp only [zG.l0]; rw [if_neg (by omega), chkE_some]; simp
  | succ d ih =>
    intro i e hi
    have hlt : i < l.length := by omega
    refine Ev.step (f := fun k => if okI l[i] = true then zG.l0 k w t l (l.length : Int) ((i + 1 : Nat) : Int) else some 195) (fun k => ?_) ?_
    · simp only [zG.l0]
      rw [if_pos (by omega), if_pos (by omega), if_pos (by omega), rdT hlt]
      simp only [Qv.f, Option.bind_some]
      rw [w64 (n := (i : Int) + 1) (by omega) (by omega)]
      rfl
    · rw [List.drop_eq_getElem_cons hlt]
      by_cases c : okI l[i] = true
      · simp only [c, if_true, List.all_cons, Bool.true_and]; exact ih (i + 1) (by omega) (by omega)
      · simp only [c, List.all_cons]
        exact Ev.now 195
theorem ocheck (l : List S31) (w t : Int) : Ev (fun k => zG.f k l w t) (QG l w t) := by
  unfold zG.f QG
  by_cases h : (l.length : Int) > 4096
  · simp only [if_pos h]; exact Ev.now _
  · simp only [if_neg h]
    exact ocheck_l0 l w t (by omega) l.length 0 (by omega) (by omega)
theorem rcheck_l0 (l : List S31) (w t : Int) (hl : (l.length : Int) < 9223372036854775807) : ∀ (d : Nat) (i : Nat), l.length - i = d → i ≤ l.length →
    Ev (fun k => zf.l0 k w t l (l.length : Int) (i : Int)) (if (l.drop i).all okI = true then chkE w t else 195) := by
  intro d
  induction d with
  | zero =>
    intro i e hi
    have : i = l.length := by omega
    subst this
    refine Ev.intro 1 fun k => ?_
    simp only [zf.l0]; rw [if_neg (by omega), chkE_some]; simp
  | succ d ih =>
    intro i e hi
    have hlt : i < l.length := by omega
    refine Ev.step (f := fun k => if okI l[i] = true then zf.l0 k w t l (l.length : Int) ((i + 1 : Nat) : Int) else some 195) (fun k => ?_) ?_
    · simp only [zf.l0]
      rw [if_pos (by omega), if_pos (by omega), if_pos (by omega), rdT hlt]
      rw [w64 (n := (i : Int) + 1) (by omega) (by omega)]
      have ok := Q5 l[i]
      by_cases c : okI l[i] = true
      · have := ok.1 c
        rw [if_neg (by omega), if_neg (by omega), if_neg (by omega), if_neg (by omega), if_neg (by omega), if_neg (by omega), if_neg (by omega), if_neg (by omega), if_neg (by omega), if_neg (by omega), if_pos c]; rfl
      · rw [if_neg c]
        iterate 10 (split; · rfl)
        exact absurd (ok.2 (by omega)) c
    · rw [List.drop_eq_getElem_cons hlt]
      by_cases c : okI l[i] = true
      · simp only [c, if_true, List.all_cons, Bool.true_and]; exact ih (i + 1) (by omega) (by omega)
      · simp only [c, List.all_cons]
        exact Ev.now 195
theorem rcheck (l : List S31) (w t : Int) : Ev (fun k => zf.f k l w t) (QG l w t) := by
  unfold zf.f QG
  by_cases h : (l.length : Int) > 4096
  · simp only [if_pos h]; exact Ev.now _
  · simp only [if_neg h]
    exact rcheck_l0 l w t (by omega) l.length 0 (by omega) (by omega)
structure jL (l : List S31) (w t : Int) : Prop where
  len : l.length ≤ 4096
  item : ∀ i, i < l.length → okI (itm l i) = true
  w0 : 1 ≤ w
  w1 : w ≤ 2147483647
  t0 : 0 ≤ t
  t1 : t ≤ 10000
theorem jL.of {l : List S31} {w t : Int} (h : QG l w t = 0) : jL l w t := by
  unfold QG chkE at h
  split at h
  · omega
  · split at h
    · rename_i a b
      rw [List.all_eq_true] at b
      repeat' split at h
      all_goals first | omega | exact ⟨by omega, fun i hi => by rw [itm_get hi]; exact b _ (List.getElem_mem hi), by omega, by omega, by omega, by omega⟩
    · omega
theorem chk_ne {l : List S31} {w t : Int} : QG l w t = 0 ∨ QG l w t = 193 ∨ QG l w t = 195 := by
  unfold QG chkE; repeat' split
  all_goals simp
def plB (l : List S31) (i : Nat) : Bool := if (itm l i).f0 = 3 then decide ((itm l i).f4 < 10000) else if (itm l i).f0 = 2 then (if 0 < i then (itm l (i - 1)).f0 == 1 else false) else false
def fcB (l : List S31) (i : Nat) : Bool := if i = l.length then true else if (itm l i).f0 = 3 then (itm l i).f4 == (-10000) else false
def plE (l : List S31) (i : Nat) : Bool := if i = l.length then true else plB l i
theorem fc_pl {l : List S31} {i : Nat} (h : fcB l i = true) : plE l i = true := by
  unfold fcB at h; unfold plE plB
  split at h
  · rename_i a; rw [if_pos a]
  · rename_i a; rw [if_neg a]
    split at h
    · rename_i b; rw [if_pos b]; have : (itm l i).f4 = -10000 := by simpa using h
      rw [this]; rfl
    · cases h
theorem rplace {l : List S31} {i : Nat} (h : i ≤ l.length) (hl : (l.length : Int) < 9223372036854775807) : zZ.f l (i : Int) = some (plE l i) := by
  unfold zZ.f plE
  by_cases e : i = l.length
  · rw [if_pos (by omega), if_pos e]
  · rw [if_neg (by omega), if_neg e, if_pos (by omega), if_pos (by omega)]
    unfold plB
    rw [Qt]
    by_cases c : (itm l i).f0 = 3
    · rw [if_pos c, if_pos c]
    · rw [if_neg c, if_neg c]
      by_cases c2 : (itm l i).f0 = 2
      · rw [if_pos c2, if_pos c2]
        by_cases c3 : 0 < i
        · rw [if_pos (show (i : Int) > 0 by omega), if_pos c3, w64 (n := (i : Int) - 1) (by omega) (by omega), if_pos (by omega), if_pos (by omega), show (i : Int) - 1 = ((i - 1 : Nat) : Int) by omega, Qt]
        · rw [if_neg (show ¬ (i : Int) > 0 by omega), if_neg c3]
      · rw [if_neg c2, if_neg c2]
theorem rforced {l : List S31} {i : Nat} (h : i ≤ l.length) : zx.f l (i : Int) = some (fcB l i) := by
  unfold zx.f fcB
  by_cases e : i = l.length
  · rw [if_pos (by omega), if_pos e]
  · rw [if_neg (by omega), if_neg e, if_pos (by omega), if_pos (by omega), Qt]
    by_cases c : (itm l i).f0 = 3
    · rw [if_pos c, if_pos c]
    · rw [if_neg c, if_neg c]
def plF (l : List S31) : Nat → List Int
  | 0 => [(l.length : Int)]
  | d + 1 => if plB l (l.length - (d + 1)) = true then ((l.length - (d + 1) : Nat) : Int) :: plF l d else plF l d
def plL (l : List S31) : List Int := plF l l.length
theorem plF_len (l : List S31) (d : Nat) : (plF l d).length ≤ d + 1 := by
  induction d with
  | zero => simp [plF]
  | succ d ih => unfold plF; split <;> (try simp only [List.length_cons]) <;> omega
theorem places_l0 (l : List S31) (hl : l.length ≤ 4096) : ∀ (d : Nat) (i : Nat) (acc : List Int), l.length - i = d → i ≤ l.length → acc.length ≤ i →
    Ev (fun k => zh.l0 k l acc l (l.length : Int) (i : Int)) (acc ++ plF l d) := by
  intro d
  induction d with
  | zero =>
    intro i acc e hi ha
    have : i = l.length := by omega
    subst this
    refine Ev.intro 1 fun k => ?_
    simp only [zh.l0]; rw [if_neg (by omega), if_pos (by omega)]; rfl
  | succ d ih =>
    intro i acc e hi ha
    have hlt : i < l.length := by omega
    have hid : l.length - (d + 1) = i := by omega
    refine Ev.step (f := fun k => if plB l i = true then zh.l0 k l (acc ++ [(i : Int)]) l (l.length : Int) ((i + 1 : Nat) : Int) else zh.l0 k l acc l (l.length : Int) ((i + 1 : Nat) : Int)) (fun k => ?_) ?_
    · simp only [zh.l0]
      rw [if_pos (by omega), if_pos (by omega), if_pos (by omega), w64 (n := (i : Int) + 1) (by omega) (by omega), Qt, if_pos (show acc.length < 17592186044416 by omega)]
      unfold plB
      by_cases c2 : (itm l i).f0 = 2
      · rw [if_pos c2]
        have c3 : ¬ (itm l i).f0 = 3 := by omega
        simp only [c2, c3, if_false, if_true, show ¬ (2 : Int) = 3 by omega]
        by_cases h0 : 0 < i
        · rw [if_pos (show (i : Int) > 0 by omega), if_pos h0, w64 (n := (i : Int) - 1) (by omega) (by omega), if_pos (by omega), if_pos (by omega), show (i : Int) - 1 = ((i - 1 : Nat) : Int) by omega, Qt]
          by_cases c4 : (itm l (i - 1)).f0 = 1
          · rw [if_pos c4, if_pos (by simpa using c4)]; rfl
          · rw [if_neg c4, if_neg (by simpa using c4)]; rfl
        · rw [if_neg (show ¬ (i : Int) > 0 by omega), if_neg h0]; simp
      · rw [if_neg c2]
        by_cases c3 : (itm l i).f0 = 3
        · rw [if_pos c3, if_pos c3]
          by_cases c4 : (itm l i).f4 < 10000
          · rw [if_pos c4, if_pos (by simpa using c4)]; rfl
          · rw [if_neg c4, if_neg (by simpa using c4)]; rfl
        · rw [if_neg c3, if_neg c3, if_neg c2]; simp
    · unfold plF
      rw [hid]
      by_cases c : plB l i = true
      · simp only [c, if_true]
        have := ih (i + 1) (acc ++ [(i : Int)]) (by omega) (by omega) (by simp; omega)
        simpa using this
      · simp only [c]
        exact ih (i + 1) acc (by omega) (by omega) (by omega)
theorem places (l : List S31) (hl : l.length ≤ 4096) : Ev (fun k => zh.f k l) (plL l) := by
  have := places_l0 l hl l.length 0 [] (by omega) (by omega) (by simp)
  simpa [zh.f, plL] using this
end Go.Proofs.Ytfbanppdiglciaa.X
