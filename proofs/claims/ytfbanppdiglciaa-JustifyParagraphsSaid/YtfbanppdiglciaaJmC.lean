/- Texts of this claim, one after the other: OptAY, OptBY, OptPY, OptFY, OptQY, OptCY, OptDY, OptGY. -/
import Derived.Test.YtfbanppdiglciaaYx0
import Derived.Test.YtfbanppdiglciaaYx4
import Derived.Test.YtfbanppdiglciaaVMore
import Derived.Test.YtfbanppdiglciaaYx5
import Derived.Test.YtfbanppdiglciaaDivBY
import Derived.Test.YtfbanppdiglciaaYx19
import Derived.Test.YtfbanppdiglciaaYx20
import Derived.Test.YtfbanppdiglciaaYx30
import Derived.Test.YtfbanppdiglciaaYx39
import Derived.Test.YtfbanppdiglciaaYx33
import Derived.Test.YtfbanppdiglciaaYx34
import Derived.Test.YtfbanppdiglciaaYx35
import Derived.Test.YtfbanppdiglciaaYx36
import Derived.Test.YtfbanppdiglciaaYx37
import Derived.Test.YtfbanppdiglciaaYx38
import Derived.Test.YtfbanppdiglciaaYx41

/- Items, where lines may end and must end, and which paragraphs are refused: the program's and the reference's small functions, in plain words. -/
set_option linter.unusedVariables false
set_option linter.unusedSimpArgs false
namespace Go.Proofs.Ytfbanppdiglciaa.Y
open Go Go.RowKit Go.Proofs.YtfbanppdiglciaaW.PrintWords Go.Proofs.YtfbanppdiglciaaW.PrintLast Go.Proofs.YtfbanppdiglciaaW.PrintMore

theorem w64 {n : Int} (h0 : -9223372036854775808 ≤ n) (h1 : n ≤ 9223372036854775807) : wrap64 n = n := by unfold wrap64; omega
theorem rdT {l : List S31} {i : Nat} (h : i < l.length) : rd_T31 l (i : Int) = l[i] := by
  unfold rd_T31; rw [show ((i : Int)).toNat = i by omega, List.getD_eq_getElem?_getD, List.getElem?_eq_getElem h]; rfl
theorem rdI {l : List Int} {i : Nat} (h : i < l.length) : rd l (i : Int) = l[i] := by
  unfold rd; rw [show ((i : Int)).toNat = i by omega, List.getD_eq_getElem?_getD, List.getElem?_eq_getElem h]; rfl
/-- The item at a place. -/
def itm (l : List S31) (i : Nat) : S31 := l.getD i z31
theorem itm_rd (l : List S31) (i : Nat) : rd_T31 l (i : Int) = itm l i := by unfold rd_T31 itm; rw [show ((i : Int)).toNat = i by omega]
theorem itm_get {l : List S31} {i : Nat} (h : i < l.length) : itm l i = l[i] := by rw [← itm_rd, rdT h]

/-- Is the item right? -/
def okI (x : S31) : Bool := rightS x.f0 x.f1 x.f2 x.f3 x.f4
theorem okI_iff (x : S31) : okI x = true ↔ (0 ≤ x.f1 ∧ x.f1 ≤ 2147483647 ∧ 0 ≤ x.f2 ∧ x.f2 ≤ 2147483647 ∧ 0 ≤ x.f3 ∧ x.f3 ≤ 2147483647 ∧ 1 ≤ x.f0 ∧ x.f0 ≤ 3 ∧ -10000 ≤ x.f4 ∧ x.f4 ≤ 10000) := by
  unfold okI rightS; simp only [Bool.and_eq_true, decide_eq_true_eq]; constructor <;> (intro h; omega)
def chkE (w t : Int) : Int := if w < 1 then 195 else if w > 2147483647 then 195 else if t < 0 then 195 else if t > 10000 then 195 else 0
/-- The error's number. -/
def chkL (l : List S31) (w t : Int) : Int := if (l.length : Int) > 4096 then 193 else if l.all okI = true then chkE w t else 195
theorem chkE_some (w t : Int) : (if w < 1 then some (195 : Int) else (if w > 2147483647 then (some 195) else (if t < 0 then (some 195) else (if t > 10000 then (some 195) else (some 0))))) = some (chkE w t) := by
  unfold chkE; repeat' split
  all_goals rfl

theorem ocheck_l0 (l : List S31) (w t : Int) (hl : (l.length : Int) < 9223372036854775807) : ∀ (d : Nat) (i : Nat), l.length - i = d → i ≤ l.length →
    Ev (fun k => optimal_Check.l0 k w t l (l.length : Int) (i : Int)) (if (l.drop i).all okI = true then chkE w t else 195) := by
  intro d
  induction d with
  | zero =>
    intro i e hi
    have : i = l.length := by omega
    subst this
    refine Ev.intro 1 fun k => ?_
    simp only [optimal_Check.l0]; rw [if_neg (by omega), chkE_some]; simp
  | succ d ih =>
    intro i e hi
    have hlt : i < l.length := by omega
    refine Ev.step (f := fun k => if okI l[i] = true then optimal_Check.l0 k w t l (l.length : Int) ((i + 1 : Nat) : Int) else some 195) (fun k => ?_) ?_
    · simp only [optimal_Check.l0]
      rw [if_pos (by omega), if_pos (by omega), if_pos (by omega), rdT hlt]
      simp only [optimal_right.f, Option.bind_some]
      rw [w64 (n := (i : Int) + 1) (by omega) (by omega)]
      rfl
    · rw [List.drop_eq_getElem_cons hlt]
      by_cases c : okI l[i] = true
      · simp only [c, if_true, List.all_cons, Bool.true_and]; exact ih (i + 1) (by omega) (by omega)
      · simp only [c, List.all_cons]
        exact Ev.now 195
theorem ocheck (l : List S31) (w t : Int) : Ev (fun k => optimal_Check.f k l w t) (chkL l w t) := by
  unfold optimal_Check.f chkL
  by_cases h : (l.length : Int) > 4096
  · simp only [if_pos h]; exact Ev.now _
  · simp only [if_neg h]
    exact ocheck_l0 l w t (by omega) l.length 0 (by omega) (by omega)
theorem rcheck_l0 (l : List S31) (w t : Int) (hl : (l.length : Int) < 9223372036854775807) : ∀ (d : Nat) (i : Nat), l.length - i = d → i ≤ l.length →
    Ev (fun k => serifref19_Check.l0 k w t l (l.length : Int) (i : Int)) (if (l.drop i).all okI = true then chkE w t else 195) := by
  intro d
  induction d with
  | zero =>
    intro i e hi
    have : i = l.length := by omega
    subst this
    refine Ev.intro 1 fun k => ?_
    simp only [serifref19_Check.l0]; rw [if_neg (by omega), chkE_some]; simp
  | succ d ih =>
    intro i e hi
    have hlt : i < l.length := by omega
    refine Ev.step (f := fun k => if okI l[i] = true then serifref19_Check.l0 k w t l (l.length : Int) ((i + 1 : Nat) : Int) else some 195) (fun k => ?_) ?_
    · simp only [serifref19_Check.l0]
      rw [if_pos (by omega), if_pos (by omega), if_pos (by omega), rdT hlt]
      rw [w64 (n := (i : Int) + 1) (by omega) (by omega)]
      have ok := okI_iff l[i]
      by_cases c : okI l[i] = true
      · have := ok.1 c
        rw [if_neg (by omega), if_neg (by omega), if_neg (by omega), if_neg (by omega), if_neg (by omega), if_neg (by omega), if_neg (by omega), if_neg (by omega), if_neg (by omega), if_neg (by omega), if_pos c]; rfl
      · rw [if_neg c]
        iterate 10 (split; · rfl)
        exact absurd (ok.2 (by omega)) c
    · rw [List.drop_eq_getElem_cons hlt]
      by_cases c : okI l[i] = true
      · simp only [c, if_true, List.all_cons, Bool.true_and]; exact ih (i + 1) (by omega) (by omega)
      · simp only [c, List.all_cons]
        exact Ev.now 195
theorem rcheck (l : List S31) (w t : Int) : Ev (fun k => serifref19_Check.f k l w t) (chkL l w t) := by
  unfold serifref19_Check.f chkL
  by_cases h : (l.length : Int) > 4096
  · simp only [if_pos h]; exact Ev.now _
  · simp only [if_neg h]
    exact rcheck_l0 l w t (by omega) l.length 0 (by omega) (by omega)
/-- What is known of a paragraph that is not refused. -/
structure Fine (l : List S31) (w t : Int) : Prop where
  len : l.length ≤ 4096
  item : ∀ i, i < l.length → okI (itm l i) = true
  w0 : 1 ≤ w
  w1 : w ≤ 2147483647
  t0 : 0 ≤ t
  t1 : t ≤ 10000
theorem Fine.of {l : List S31} {w t : Int} (h : chkL l w t = 0) : Fine l w t := by
  unfold chkL chkE at h
  split at h
  · omega
  · split at h
    · rename_i a b
      rw [List.all_eq_true] at b
      repeat' split at h
      all_goals first | omega | exact ⟨by omega, fun i hi => by rw [itm_get hi]; exact b _ (List.getElem_mem hi), by omega, by omega, by omega, by omega⟩
    · omega
theorem chk_ne {l : List S31} {w t : Int} : chkL l w t = 0 ∨ chkL l w t = 193 ∨ chkL l w t = 195 := by
  unfold chkL chkE; repeat' split
  all_goals simp

/-- May a line end there? -/
def plB (l : List S31) (i : Nat) : Bool := if (itm l i).f0 = 3 then decide ((itm l i).f4 < 10000) else if (itm l i).f0 = 2 then (if 0 < i then (itm l (i - 1)).f0 == 1 else false) else false
/-- Must a line end there? -/
def fcB (l : List S31) (i : Nat) : Bool := if i = l.length then true else if (itm l i).f0 = 3 then (itm l i).f4 == (-10000) else false
def plE (l : List S31) (i : Nat) : Bool := if i = l.length then true else plB l i
theorem fc_pl {l : List S31} {i : Nat} (h : fcB l i = true) : plE l i = true := by
  unfold fcB at h; unfold plE plB
  split at h
  · rename_i a; rw [if_pos a]
  · rename_i a; rw [if_neg a]
    split at h
    · rename_i b; rw [if_pos b]; have : (itm l i).f4 = -10000 := by simpa using h
      rw [this]; rfl
    · cases h
end Go.Proofs.Ytfbanppdiglciaa.Y

/- A line: its length, stretch and shrink; how it fits; its demerits: the program's and the reference's functions, as one plain function each. -/
set_option linter.unusedVariables false
set_option linter.unusedSimpArgs false
namespace Go.Proofs.Ytfbanppdiglciaa.Y
open Go Go.RowKit Go.Proofs.YtfbanppdiglciaaW.PrintWords Go.Proofs.YtfbanppdiglciaaW.PrintLast Go.Proofs.YtfbanppdiglciaaW.PrintMore

def sW (l : List S31) : Nat → Int
  | 0 => 0
  | j + 1 => sW l j + (if (itm l j).f0 = 3 then 0 else (itm l j).f1)
def sS (l : List S31) : Nat → Int
  | 0 => 0
  | j + 1 => sS l j + (if (itm l j).f0 = 2 then (itm l j).f2 else 0)
def sH (l : List S31) : Nat → Int
  | 0 => 0
  | j + 1 => sH l j + (if (itm l j).f0 = 2 then (itm l j).f3 else 0)
theorem sW_step {l : List S31} {w t : Int} (F : Fine l w t) {j : Nat} (h : j < l.length) : sW l j ≤ sW l (j + 1) ∧ sW l (j + 1) ≤ sW l j + 2147483647 := by
  have := (okI_iff _).1 (F.item j h)
  simp only [sW]; split <;> omega
theorem sS_step {l : List S31} {w t : Int} (F : Fine l w t) {j : Nat} (h : j < l.length) : sS l j ≤ sS l (j + 1) ∧ sS l (j + 1) ≤ sS l j + 2147483647 := by
  have := (okI_iff _).1 (F.item j h)
  simp only [sS]; split <;> omega
theorem sH_step {l : List S31} {w t : Int} (F : Fine l w t) {j : Nat} (h : j < l.length) : sH l j ≤ sH l (j + 1) ∧ sH l (j + 1) ≤ sH l j + 2147483647 := by
  have := (okI_iff _).1 (F.item j h)
  simp only [sH]; split <;> omega
theorem s_bd {l : List S31} {w t : Int} (F : Fine l w t) : ∀ j, j ≤ l.length → (0 ≤ sW l j ∧ sW l j ≤ 2147483647 * j) ∧ (0 ≤ sS l j ∧ sS l j ≤ 2147483647 * j) ∧ (0 ≤ sH l j ∧ sH l j ≤ 2147483647 * j)
  | 0, _ => by simp [sW, sS, sH]
  | j + 1, h => by
    have := s_bd F j (by omega)
    have := sW_step F (j := j) (by omega); have := sS_step F (j := j) (by omega); have := sH_step F (j := j) (by omega)
    omega
theorem s_mono {l : List S31} {w t : Int} (F : Fine l w t) {i : Nat} : ∀ j, i ≤ j → j ≤ l.length → sW l i ≤ sW l j ∧ sS l i ≤ sS l j ∧ sH l i ≤ sH l j
  | 0, h, _ => by have : i = 0 := by omega
                  subst this; simp
  | j + 1, h, h' => by
    by_cases e : i = j + 1
    · subst e; simp
    · have := s_mono F (i := i) j (by omega) (by omega)
      have := sW_step F (j := j) (by omega); have := sS_step F (j := j) (by omega); have := sH_step F (j := j) (by omega)
      omega
theorem sums_eq {l : List S31} {w t : Int} (F : Fine l w t) : ∀ j, j ≤ l.length → rk_sumsAt l j = ⟨sW l j, sS l j, sH l j⟩
  | 0, _ => rfl
  | j + 1, h => by
    have e := sums_eq F j (by omega)
    have b := s_bd F j (by omega)
    have n := F.len
    have := (okI_iff _).1 (F.item j (by omega))
    simp only [rk_sumsAt, e, sW, sS, sH]
    show S81.mk (if (itm l j).f0 = 3 then _ else wrap64 (_ + (itm l j).f1)) (if (itm l j).f0 = 2 then wrap64 (_ + (itm l j).f2) else _) (if (itm l j).f0 = 2 then wrap64 (_ + (itm l j).f3) else _) = _
    rw [w64 (n := sW l j + (itm l j).f1) (by omega) (by omega), w64 (n := sS l j + (itm l j).f2) (by omega) (by omega), w64 (n := sH l j + (itm l j).f3) (by omega) (by omega)]
    congr 1 <;> split <;> simp
theorem sumsL_rd {l : List S31} {w t : Int} (F : Fine l w t) {j : Nat} (h : j ≤ l.length) : rd_T81 (rk_sumsL l) (j : Int) = ⟨sW l j, sS l j, sH l j⟩ := by
  unfold rd_T81 rk_sumsL
  rw [show ((j : Int)).toNat = j by omega, List.getD_eq_getElem?_getD, List.getElem?_map, List.getElem?_range (by omega)]
  simp [sums_eq F j h]
theorem sumsL_len (l : List S31) : (rk_sumsL l).length = l.length + 1 := by simp [rk_sumsL]
theorem begsL_len (l : List S31) : (rk_begsL l).length = l.length + 1 := by simp [rk_begsL]
/-- The first box from l.length - d on, or the end. -/
def bF (l : List S31) : Nat → Nat
  | 0 => l.length
  | d + 1 => if (itm l (l.length - (d + 1))).f0 = 1 then l.length - (d + 1) else bF l d
def bN (l : List S31) (a : Nat) : Nat := bF l (l.length - a)
theorem begR_eq (l : List S31) : ∀ d, rk_begR l d = (bF l d : Int)
  | 0 => rfl
  | d + 1 => by
    simp only [rk_begR, bF, begR_eq l d]
    show (if (itm l (l.length - (d + 1))).f0 = 1 then _ else _) = _
    split <;> rfl
theorem begsL_rd (l : List S31) {j : Nat} (h : j ≤ l.length) : rd (rk_begsL l) (j : Int) = (bN l j : Int) := by
  unfold rd rk_begsL bN
  rw [show ((j : Int)).toNat = j by omega, List.getD_eq_getElem?_getD, List.getElem?_map, List.getElem?_range (by omega)]
  simp [begR_eq]
theorem bF_props (l : List S31) : ∀ d, d ≤ l.length → l.length - d ≤ bF l d ∧ bF l d ≤ l.length ∧ (∀ i, l.length - d ≤ i → i < bF l d → (itm l i).f0 ≠ 1) ∧ (bF l d < l.length → (itm l (bF l d)).f0 = 1)
  | 0, _ => by simp [bF]; omega
  | d + 1, h => by
    obtain ⟨h1, h2, h3, h4⟩ := bF_props l d (by omega)
    unfold bF
    split
    · rename_i c; exact ⟨by omega, by omega, fun i a b => by omega, fun _ => c⟩
    · rename_i c
      refine ⟨by omega, h2, fun i a b => ?_, h4⟩
      by_cases e : i = l.length - (d + 1)
      · subst e; exact c
      · exact h3 i (by omega) b
theorem bN_ge (l : List S31) {a : Nat} (h : a ≤ l.length) : a ≤ bN l a := by have := (bF_props l (l.length - a) (by omega)).1; unfold bN; omega
theorem bN_le (l : List S31) (a : Nat) : bN l a ≤ l.length := (bF_props l (l.length - a) (by omega)).2.1
theorem bN_no (l : List S31) {a i : Nat} (h : a ≤ l.length) (h1 : a ≤ i) (h2 : i < bN l a) : (itm l i).f0 ≠ 1 := (bF_props l (l.length - a) (by omega)).2.2.1 i (by omega) h2
theorem bN_yes (l : List S31) {a : Nat} (h : bN l a < l.length) : (itm l (bN l a)).f0 = 1 := (bF_props l (l.length - a) (by omega)).2.2.2 h
theorem bN_box (l : List S31) {a i : Nat} (ha : a ≤ l.length) (h1 : a ≤ i) (h2 : i ≤ bN l a) (h3 : i < l.length) : ((itm l i).f0 = 1) ↔ i = bN l a := by
  constructor
  · intro h
    by_cases e : i = bN l a
    · exact e
    · exact absurd h (bN_no l ha h1 (by omega))
  · intro e; subst e; exact bN_yes l h3

/-- The length, stretch and shrink of the line behind place a - 1 up tt the place `tt`. -/
def lineS (l : List S31) (a tt : Nat) : Int × Int × Int :=
  (if tt < l.length ∧ (itm l tt).f0 = 3 then sW l tt - sW l (min (bN l a) tt) + (itm l tt).f1 else sW l tt - sW l (min (bN l a) tt), sS l tt - sS l (min (bN l a) tt), sH l tt - sH l (min (bN l a) tt))
theorem lineS_bd {l : List S31} {w t : Int} (F : Fine l w t) (a : Nat) {tt : Nat} (h : tt ≤ l.length) : (0 ≤ (lineS l a tt).1 ∧ (lineS l a tt).1 ≤ 8800000000000) ∧ (0 ≤ (lineS l a tt).2.1 ∧ (lineS l a tt).2.1 ≤ 8800000000000) ∧ (0 ≤ (lineS l a tt).2.2 ∧ (lineS l a tt).2.2 ≤ 8800000000000) := by
  have n := F.len
  have b := s_bd F tt h
  have b' := s_bd F (min (bN l a) tt) (by omega)
  have m := s_mono F (i := min (bN l a) tt) tt (by omega) h
  unfold lineS
  refine ⟨?_, by simp only; omega, by simp only; omega⟩
  simp only
  split
  · rename_i c
    have := (okI_iff _).1 (F.item tt c.1)
    omega
  · omega
theorem oline {l : List S31} {w t : Int} (F : Fine l w t) {a tt : Nat} (h1 : a ≤ l.length) (h2 : tt ≤ l.length) :
    optimal_paragraph_line.f l (rk_sumsL l) (rk_begsL l) w ((a : Int) - 1) (tt : Int) = some ((lineS l a tt).1, (lineS l a tt).2.1, (lineS l a tt).2.2, w) := by
  have n := F.len
  have b := s_bd F tt h2
  have b' := s_bd F (min (bN l a) tt) (by omega)
  have m := s_mono F (i := min (bN l a) tt) tt (by omega) h2
  have lb := lineS_bd F a h2
  have em : mn (rd (rk_begsL l) ((a : Int) - 1 + 1)) (tt : Int) = ((min (bN l a) tt : Nat) : Int) := by
    rw [show (a : Int) - 1 + 1 = (a : Int) by omega, begsL_rd l h1]; unfold mn; split <;> omega
  unfold optimal_paragraph_line.f
  rw [em, sumsL_len, begsL_len, if_pos (by omega)]
  have e : lineF l (rk_sumsL l) (rk_begsL l) ((a : Int) - 1) (tt : Int) = lineS l a tt := by
    unfold lineF
    simp only [em, sumsL_rd F h2, sumsL_rd F (j := min (bN l a) tt) (by omega), itm_rd]
    rw [w64 (n := sW l tt - _) (by omega) (by omega), w64 (n := sS l tt - _) (by omega) (by omega), w64 (n := sH l tt - _) (by omega) (by omega)]
    unfold lineS at lb ⊢
    by_cases c : tt < l.length ∧ (itm l tt).f0 = 3
    · rw [if_pos c] at lb ⊢
      rw [if_pos ⟨by omega, c.2⟩, w64 (by omega) (by omega)]
    · rw [if_neg c, if_neg (fun z => c ⟨by omega, z.2⟩)]
  rw [e]
theorem rline_l0 {l : List S31} {w t : Int} (F : Fine l w t) {a tt : Nat} (h1 : a ≤ tt) (h2 : tt ≤ l.length) : ∀ (d : Nat) (i : Nat), tt - i = d → a ≤ i → i ≤ tt →
    Ev (fun k => serifref19_Line.l0 k l (tt : Int) (sW l i - sW l (min (bN l a) i)) (sS l i - sS l (min (bN l a) i)) (sH l i - sH l (min (bN l a) i)) (decide (bN l a < i)) (i : Int)) (lineS l a tt) := by
  intro d
  induction d with
  | zero =>
    intro i e h3 h4
    have : i = tt := by omega
    subst this
    have lb := lineS_bd F a h2
    refine Ev.intro 1 fun k => ?_
    simp only [serifref19_Line.l0]
    rw [if_neg (by omega)]
    unfold lineS at lb ⊢
    by_cases c : i < l.length
    · rw [if_pos (by omega), if_pos (by omega), itm_rd]
      by_cases c2 : (itm l i).f0 = 3
      · rw [if_pos (show i < l.length ∧ (itm l i).f0 = 3 from ⟨c, c2⟩)] at lb ⊢
        rw [if_pos c2, w64 (by omega) (by omega)]
      · rw [if_neg c2, if_neg (fun z => c2 z.2)]
    · rw [if_neg (by omega), if_neg (fun z => c z.1)]
  | succ d ih =>
    intro i e h3 h4
    have n := F.len
    have hlt : i < l.length := by omega
    have bb := bN_box l (a := a) (i := i) (by omega) h3
    have D : (0 ≤ sW l i - sW l (min (bN l a) i) ∧ sW l i - sW l (min (bN l a) i) ≤ 8800000000000) ∧ (0 ≤ sS l i - sS l (min (bN l a) i) ∧ sS l i - sS l (min (bN l a) i) ≤ 8800000000000) ∧ (0 ≤ sH l i - sH l (min (bN l a) i) ∧ sH l i - sH l (min (bN l a) i) ≤ 8800000000000) := by
      have b1 := s_bd F i (by omega)
      have b' := s_bd F (min (bN l a) i) (by omega)
      have m := s_mono F (i := min (bN l a) i) i (by omega) (by omega)
      omega
    obtain ⟨⟨d1, d2⟩, ⟨d3, d4⟩, d5, d6⟩ := D
    have ok := (okI_iff _).1 (F.item i hlt)
    have IH := ih (i + 1) (by omega) (by omega) (by omega)
    have nx : wrap64 ((i : Int) + 1) = ((i + 1 : Nat) : Int) := by rw [w64 (by omega) (by omega)]; omega
    have NX := Aside0.mk nx
    clear nx
    have key : Ev (fun k => serifref19_Line.j1 k l (tt : Int) (sW l i - sW l (min (bN l a) i)) (sS l i - sS l (min (bN l a) i)) (sH l i - sH l (min (bN l a) i)) (decide (bN l a < i + 1)) (i : Int)) (lineS l a tt) := by
      by_cases hb : bN l a < i + 1
      · have mi : min (bN l a) i = bN l a := by omega
        have mi' : min (bN l a) (i + 1) = bN l a := by omega
        rw [mi] at d1 d2 d3 d4 d5 d6 ⊢
        rw [mi'] at IH
        rw [decide_eq_true hb] at IH ⊢
        refine Ev.step (f := fun k => serifref19_Line.j2 k l (tt : Int) (sW l i - sW l (bN l a)) (sS l i - sS l (bN l a)) (sH l i - sH l (bN l a)) true (i : Int) ((itm l i).f0 != 3)) (fun k => ?_) ?_
        · simp only [serifref19_Line.j1]; rw [if_pos trivial, if_pos (by omega), if_pos (by omega), itm_rd]
        · refine Ev.step (fun k => ?_) IH
          simp only [serifref19_Line.j2, NX.out, itm_rd]
          have p0 : (0 : Int) ≤ (i : Int) := by omega
          have p1 : (i : Int) < (l.length : Int) := by omega
          simp only [p0, p1, if_true]
          by_cases c3 : (itm l i).f0 = 3
          · have c2 : ¬ (itm l i).f0 = 2 := by omega
            simp only [c3, c2, sW, sS, sH, bne_self_eq_false, Bool.false_eq_true, if_false, if_true, Int.add_zero, show ¬ (3 : Int) = 2 by omega]
          · have c3' : ((itm l i).f0 != 3) = true := by simpa using c3
            simp only [c3', if_true, c3, sW, sS, sH, if_false]
            rw [w64 (n := sW l i - sW l (bN l a) + (itm l i).f1) (by omega) (by omega)]
            by_cases c2 : (itm l i).f0 = 2
            · rw [if_pos c2, if_pos c2, if_pos c2, w64 (n := sS l i - sS l (bN l a) + (itm l i).f2) (by omega) (by omega), w64 (n := sH l i - sH l (bN l a) + (itm l i).f3) (by omega) (by omega)]
              congr 1 <;> omega
            · rw [if_neg c2, if_neg c2, if_neg c2]
              congr 1 <;> omega
      · have mi : min (bN l a) i = i := by omega
        have mi' : min (bN l a) (i + 1) = i + 1 := by omega
        rw [mi]
        rw [mi'] at IH
        rw [decide_eq_false hb] at IH ⊢
        simp only [Int.sub_self] at IH ⊢
        refine Ev.step (f := fun k => serifref19_Line.j2 k l (tt : Int) 0 0 0 false (i : Int) false) (fun k => ?_) ?_
        · simp only [serifref19_Line.j1]; rw [if_neg (by simp)]
        · refine Ev.step (fun k => ?_) IH
          simp only [serifref19_Line.j2, NX.out]
          rw [if_neg (by simp), if_neg (by simp)]
    refine Ev.step (fun k => ?_) key
    simp only [serifref19_Line.l0]
    rw [if_pos (by omega)]
    by_cases hb : bN l a < i
    · rw [decide_eq_true hb, if_pos rfl, decide_eq_true (show bN l a < i + 1 by omega)]
    · rw [decide_eq_false hb, if_neg (by simp), if_pos (by omega), if_pos (by omega), itm_rd]
      have := bb (by omega) hlt
      by_cases e1 : i = bN l a
      · rw [decide_eq_true (show bN l a < i + 1 by omega), this.2 e1]; rfl
      · rw [decide_eq_false (show ¬ bN l a < i + 1 by omega)]
        have : ((itm l i).f0 == 1) = false := by simpa using fun z => e1 (this.1 z)
        rw [this]
theorem rline {l : List S31} {w t : Int} (F : Fine l w t) {a tt : Nat} (h1 : a ≤ tt) (h2 : tt ≤ l.length) : Ev (fun k => serifref19_Line.f k l ((a : Int) - 1) (tt : Int)) (lineS l a tt) := by
  have := rline_l0 F h1 h2 (tt - a) a rfl (by omega) h1
  have n := F.len
  have b := bN_ge l (a := a) (by omega)
  rw [show min (bN l a) a = a by omega, decide_eq_false (show ¬ bN l a < a by omega)] at this
  simp only [Int.sub_self] at this
  unfold serifref19_Line.f
  rw [w64 (n := (a : Int) - 1 + 1) (by omega) (by omega), show (a : Int) - 1 + 1 = (a : Int) by omega]
  exact this
end Go.Proofs.Ytfbanppdiglciaa.Y

/- The places where lines may end, as Places lists them. -/
set_option linter.unusedVariables false
set_option linter.unusedSimpArgs false
namespace Go.Proofs.Ytfbanppdiglciaa.Y
open Go Go.RowKit Go.Proofs.YtfbanppdiglciaaW.PrintWords Go.Proofs.YtfbanppdiglciaaW.PrintLast Go.Proofs.YtfbanppdiglciaaW.PrintMore

/-- The places from l.length - d on. -/
def plF (l : List S31) : Nat → List Int
  | 0 => [(l.length : Int)]
  | d + 1 => if plB l (l.length - (d + 1)) = true then ((l.length - (d + 1) : Nat) : Int) :: plF l d else plF l d
def plL (l : List S31) : List Int := plF l l.length
theorem plF_len (l : List S31) (d : Nat) : (plF l d).length ≤ d + 1 := by
  induction d with
  | zero => simp [plF]
  | succ d ih => unfold plF; split <;> (try simp only [List.length_cons]) <;> omega
theorem places_l0 (l : List S31) (hl : l.length ≤ 4096) : ∀ (d : Nat) (i : Nat) (acc : List Int), l.length - i = d → i ≤ l.length → acc.length ≤ i →
    Ev (fun k => optimal_Places.l0 k l acc l (l.length : Int) (i : Int)) (acc ++ plF l d) := by
  intro d
  induction d with
  | zero =>
    intro i acc e hi ha
    have : i = l.length := by omega
    subst this
    refine Ev.intro 1 fun k => ?_
    simp only [optimal_Places.l0]; rw [if_neg (by omega), if_pos (by omega)]; rfl
  | succ d ih =>
    intro i acc e hi ha
    have hlt : i < l.length := by omega
    have hid : l.length - (d + 1) = i := by omega
    refine Ev.step (f := fun k => if plB l i = true then optimal_Places.l0 k l (acc ++ [(i : Int)]) l (l.length : Int) ((i + 1 : Nat) : Int) else optimal_Places.l0 k l acc l (l.length : Int) ((i + 1 : Nat) : Int)) (fun k => ?_) ?_
    · simp only [optimal_Places.l0]
      rw [if_pos (by omega), if_pos (by omega), if_pos (by omega), w64 (n := (i : Int) + 1) (by omega) (by omega), itm_rd, if_pos (show acc.length < 17592186044416 by omega)]
      unfold plB
      by_cases c2 : (itm l i).f0 = 2
      · rw [if_pos c2]
        have c3 : ¬ (itm l i).f0 = 3 := by omega
        simp only [c2, c3, if_false, if_true, show ¬ (2 : Int) = 3 by omega]
        by_cases h0 : 0 < i
        · rw [if_pos (show (i : Int) > 0 by omega), if_pos h0, w64 (n := (i : Int) - 1) (by omega) (by omega), if_pos (by omega), if_pos (by omega), show (i : Int) - 1 = ((i - 1 : Nat) : Int) by omega, itm_rd]
          by_cases c4 : (itm l (i - 1)).f0 = 1
          · rw [if_pos c4, if_pos (by simpa using c4)]; rfl
          · rw [if_neg c4, if_neg (by simpa using c4)]; rfl
        · rw [if_neg (show ¬ (i : Int) > 0 by omega), if_neg h0]; simp
      · rw [if_neg c2]
        by_cases c3 : (itm l i).f0 = 3
        · rw [if_pos c3, if_pos c3]
          by_cases c4 : (itm l i).f4 < 10000
          · rw [if_pos c4, if_pos (by simpa using c4)]; rfl
          · rw [if_neg c4, if_neg (by simpa using c4)]; rfl
        · rw [if_neg c3, if_neg c3, if_neg c2]; simp
    · unfold plF
      rw [hid]
      by_cases c : plB l i = true
      · simp only [c, if_true]
        have := ih (i + 1) (acc ++ [(i : Int)]) (by omega) (by omega) (by simp; omega)
        simpa using this
      · simp only [c]
        exact ih (i + 1) acc (by omega) (by omega) (by omega)
theorem places (l : List S31) (hl : l.length ≤ 4096) : Ev (fun k => optimal_Places.f k l) (plL l) := by
  have := places_l0 l hl l.length 0 [] (by omega) (by omega) (by simp)
  simpa [optimal_Places.f, plL] using this
end Go.Proofs.Ytfbanppdiglciaa.Y

/- How a line fits, and its demerits: the program's and the reference's functions, as one plain function each. -/
set_option linter.unusedVariables false
set_option linter.unusedSimpArgs false
namespace Go.Proofs.Ytfbanppdiglciaa.Y
open Go Go.RowKit Go.Proofs.YtfbanppdiglciaaW.PrintWords Go.Proofs.YtfbanppdiglciaaW.PrintLast Go.Proofs.YtfbanppdiglciaaW.PrintMore

/-- The badness of a line that is off by d, of m that may be given. -/
def badS (d m : Int) : Int := 100 * (256 * d / m) * (256 * d / m) * (256 * d / m) / 16777216
def fitV (L S H w : Int) : Int × Int × Bool :=
  if L = w then (0, 0, true)
  else if L > w then (if L - w > H then (0, 0, false) else (-((1000 * (L - w) + H - 1) / H), badS (L - w) H, true))
  else (if S = 0 then (0, 0, false) else if 1000 * (w - L) / S > 10000 then (0, 0, false) else (1000 * (w - L) / S, badS (w - L) S, true))
/-- How the line fits: its ratio, its badness, whether it does. -/
def fitS (l : List S31) (a tt : Nat) (w : Int) : Int × Int × Bool := fitV (lineS l a tt).1 (lineS l a tt).2.1 (lineS l a tt).2.2 w

theorem q_bd {d m : Int} (hd : 0 ≤ d) (hm : 0 < m) (h : 1000 * d / m ≤ 10000) : 0 ≤ 256 * d / m ∧ 256 * d / m ≤ 2560 := by
  refine ⟨Int.ediv_nonneg (by omega) (by omega), ?_⟩
  have h1 : 1000 * d < (1000 * d / m + 1) * m := Int.lt_ediv_add_one_mul_self _ hm
  have h2 : (1000 * d / m + 1) * m ≤ 10001 * m := Int.mul_le_mul_of_nonneg_right (by omega) (by omega)
  have h3 : 256 * d < 2561 * m := by omega
  have := Int.ediv_lt_of_lt_mul hm h3
  omega
theorem q3_bd {q : Int} (h0 : 0 ≤ q) (h1 : q ≤ 2560) : (0 ≤ 100 * q ∧ 100 * q ≤ 256000) ∧ (0 ≤ 100 * q * q ∧ 100 * q * q ≤ 655360000) ∧ (0 ≤ 100 * q * q * q ∧ 100 * q * q * q ≤ 1677721600000) := by
  have a1 : 0 ≤ 100 * q := by omega
  have a2 : 100 * q ≤ 256000 := by omega
  have b1 : 0 ≤ 100 * q * q := Int.mul_nonneg a1 h0
  have b2 : 100 * q * q ≤ 256000 * 2560 := Int.mul_le_mul a2 h1 h0 (by omega)
  have c1 : 0 ≤ 100 * q * q * q := Int.mul_nonneg b1 h0
  have c2 : 100 * q * q * q ≤ (256000 * 2560) * 2560 := Int.mul_le_mul b2 h1 h0 (by omega)
  omega
theorem bad_bd {d m : Int} (hd : 0 ≤ d) (hm : 0 < m) (h : 1000 * d / m ≤ 10000) : 0 ≤ badS d m ∧ badS d m ≤ 100000 := by
  obtain ⟨q0, q1⟩ := q_bd hd hm h
  obtain ⟨_, _, c1, c2⟩ := q3_bd q0 q1
  unfold badS
  exact ⟨Int.ediv_nonneg c1 (by omega), by omega⟩
theorem le_m {d m : Int} (hd : 0 ≤ d) (hm : 0 < m) (h : d ≤ m) : 1000 * d / m ≤ 10000 := by
  have : 1000 * d < 10001 * m := by omega
  have := Int.ediv_lt_of_lt_mul hm this
  omega
theorem wq {d m : Int} (hd : 0 ≤ d) (hd1 : d ≤ 9000000000000) (hm : 0 < m) (h : 1000 * d / m ≤ 10000) : wrap64 (Int.tdiv (wrap64 (256 * d)) m) = 256 * d / m := by
  obtain ⟨q0, q1⟩ := q_bd hd hm h
  rw [w64 (n := 256 * d) (by omega) (by omega), Int.tdiv_eq_ediv_of_nonneg (by omega), w64 (by omega) (by omega)]
theorem wbad {d m : Int} (hd : 0 ≤ d) (hd1 : d ≤ 9000000000000) (hm : 0 < m) (h : 1000 * d / m ≤ 10000) :
    wrap64 ((wrap64 ((wrap64 (100 * (wrap64 (Int.tdiv (wrap64 (256 * d)) m)))) * (wrap64 (Int.tdiv (wrap64 (256 * d)) m)))) * (wrap64 (Int.tdiv (wrap64 (256 * d)) m))) = 100 * (256 * d / m) * (256 * d / m) * (256 * d / m) := by
  obtain ⟨q0, q1⟩ := q_bd hd hm h
  obtain ⟨⟨a1, a2⟩, ⟨b1, b2⟩, c1, c2⟩ := q3_bd q0 q1
  rw [wq hd hd1 hm h]
  generalize 256 * d / m = q at *
  rw [w64 (n := 100 * q) (by omega) (by omega), w64 (n := 100 * q * q) (by omega) (by omega), w64 (n := 100 * q * q * q) (by omega) (by omega)]
theorem wbadT {d m : Int} (hd : 0 ≤ d) (hd1 : d ≤ 9000000000000) (hm : 0 < m) (h : 1000 * d / m ≤ 10000) :
    wrap64 (Int.tdiv (wrap64 ((wrap64 ((wrap64 (100 * (wrap64 (Int.tdiv (wrap64 (256 * d)) m)))) * (wrap64 (Int.tdiv (wrap64 (256 * d)) m)))) * (wrap64 (Int.tdiv (wrap64 (256 * d)) m)))) 16777216) = badS d m := by
  have b := bad_bd hd hm h
  obtain ⟨q0, q1⟩ := q_bd hd hm h
  obtain ⟨_, _, c1, c2⟩ := q3_bd q0 q1
  rw [wbad hd hd1 hm h, Int.tdiv_eq_ediv_of_nonneg (by omega), w64 (n := _ / 16777216) (by unfold badS at b; omega) (by unfold badS at b; omega)]
  rfl
theorem wr {d m : Int} (hd : 0 ≤ d) (hd1 : d ≤ 9000000000000) (hm : 0 < m) : wrap64 (Int.tdiv (wrap64 (1000 * d)) m) = 1000 * d / m := by
  have h0 : 0 ≤ 1000 * d / m := Int.ediv_nonneg (by omega) (by omega)
  have h1 : 1000 * d / m ≤ 1000 * d := Int.ediv_le_self _ (by omega)
  rw [w64 (n := 1000 * d) (by omega) (by omega), Int.tdiv_eq_ediv_of_nonneg (by omega), w64 (by omega) (by omega)]
theorem ceil_eq {x m : Int} (hm : 0 < m) : (x + m - 1) / m = if x % m = 0 then x / m else x / m + 1 := by
  have e := Int.mul_ediv_add_emod x m
  have r0 := Int.emod_nonneg x (show m ≠ 0 by omega)
  have r1 := Int.emod_lt_of_pos x hm
  have : x + m - 1 = (x % m + m - 1) + m * (x / m) := by omega
  rw [this, Int.add_mul_ediv_left _ _ (by omega)]
  split
  · rename_i c
    rw [c, Int.ediv_eq_zero_of_lt (by omega) (by omega)]; omega
  · rename_i c
    have : x % m + m - 1 = (x % m - 1) + m * 1 := by omega
    rw [this, Int.add_mul_ediv_left _ _ (by omega), Int.ediv_eq_zero_of_lt (by omega) (by omega)]; omega
theorem neg_bd {d m : Int} (hd : 0 ≤ d) (hm : 0 < m) (h : d ≤ m) : 0 ≤ (1000 * d + m - 1) / m ∧ (1000 * d + m - 1) / m ≤ 1001 := by
  refine ⟨Int.ediv_nonneg (by omega) (by omega), ?_⟩
  have : 1000 * d + m - 1 < 1002 * m := by omega
  have := Int.ediv_lt_of_lt_mul hm this
  omega
/-- What is known of a line that fits. -/
theorem fitV_bd {L S H w : Int} (hL : 0 ≤ L) (hS : 0 ≤ S) (hH : 0 ≤ H) (h : (fitV L S H w).2.2 = true) : 0 ≤ (fitV L S H w).2.1 ∧ (fitV L S H w).2.1 ≤ 100000 := by
  unfold fitV at h ⊢
  split
  · simp
  · rename_i a
    rw [if_neg a] at h
    split
    · rename_i b
      rw [if_pos b] at h
      split
      · rename_i c; rw [if_pos c] at h; cases h
      · rename_i c; exact bad_bd (by omega) (by omega) (le_m (by omega) (by omega) (by omega))
    · rename_i b
      rw [if_neg b] at h
      split
      · rename_i c; rw [if_pos c] at h; cases h
      · rename_i c
        rw [if_neg c] at h
        split
        · rename_i d; rw [if_pos d] at h; cases h
        · rename_i d; exact bad_bd (by omega) (by omega) (by omega)
theorem ofit_j1s {d m w : Int} {s0 : List S31} {s1 : List S81} {s2 : List Int} (hd : 0 ≤ d) (hd1 : d ≤ 9000000000000) (hm : 0 < m) (k : Nat) :
    optimal_paragraph_fit.j1 (k + 1) d m true s0 s1 s2 w = if 1000 * d / m > 10000 then some (0, 0, false, w) else some (1000 * d / m, badS d m, true, w) := by
  simp only [optimal_paragraph_fit.j1]
  rw [if_neg (by omega), if_pos trivial, wr hd hd1 hm]
  by_cases c : 1000 * d / m > 10000
  · rw [if_pos c, if_pos c]
  · rw [if_neg c, if_neg c, wbad hd hd1 hm (by omega)]; rfl
theorem ofit_j1n {d m w : Int} {s0 : List S31} {s1 : List S81} {s2 : List Int} (hd : 0 ≤ d) (hd1 : d ≤ 9000000000000) (hm : 0 < m) (hm1 : m ≤ 9000000000000) (h : d ≤ m) (k : Nat) :
    optimal_paragraph_fit.j1 (k + 1) d m false s0 s1 s2 w = some (-((1000 * d + m - 1) / m), badS d m, true, w) := by
  have b := neg_bd hd hm h
  simp only [optimal_paragraph_fit.j1]
  rw [if_neg (by omega), if_neg (by simp), wbad hd hd1 hm (le_m hd hm h), w64 (n := 1000 * d) (by omega) (by omega), w64 (n := 1000 * d + m) (by omega) (by omega), w64 (n := 1000 * d + m - 1) (by omega) (by omega), Int.tdiv_eq_ediv_of_nonneg (by omega), w64 (n := (1000 * d + m - 1) / m) (by omega) (by omega), w64 (n := -((1000 * d + m - 1) / m)) (by omega) (by omega), if_neg (by omega)]; rfl
theorem ofit {l : List S31} {w t : Int} (F : Fine l w t) {a tt : Nat} (h1 : a ≤ l.length) (h2 : tt ≤ l.length) :
    Ev (fun k => optimal_paragraph_fit.f k l (rk_sumsL l) (rk_begsL l) w ((a : Int) - 1) (tt : Int)) ((fitS l a tt w).1, (fitS l a tt w).2.1, (fitS l a tt w).2.2, w) := by
  have lb := lineS_bd F a h2
  have hw0 := F.w0
  have hw1 := F.w1
  refine Ev.intro 2 fun k => ?_
  unfold optimal_paragraph_fit.f fitS
  rw [oline F h1 h2]
  simp only [Option.bind_some]
  generalize (lineS l a tt).1 = L at *
  generalize (lineS l a tt).2.1 = S at *
  generalize (lineS l a tt).2.2 = H at *
  rw [w64 (n := w - L) (by omega) (by omega), w64 (n := -(w - L)) (by omega) (by omega)]
  unfold fitV
  by_cases c : L = w
  · subst c
    rw [if_neg (by omega)]
    simp only [optimal_paragraph_fit.j0, if_true]
    rw [if_pos (by omega)]
  · simp only [c, if_false]
    by_cases c1 : L > w
    · rw [if_pos (by omega), if_pos c1]
      simp only [optimal_paragraph_fit.j0]
      rw [if_neg (by omega)]
      by_cases c2 : L - w > H
      · rw [if_pos c2]
        by_cases cH : H = 0
        · rw [if_pos cH]
        · rw [if_neg cH, if_neg (by omega), if_pos (show -(w - L) > H by omega)]
      · rw [if_neg c2, if_neg (by omega), if_neg (by omega), if_neg (by omega), decide_eq_false (by omega), ofit_j1n (by omega) (by omega) (by omega) (by omega) (by omega), show -(w - L) = L - w by omega]
    · rw [if_neg (by omega), if_neg c1]
      simp only [optimal_paragraph_fit.j0]
      rw [if_neg (by omega)]
      by_cases c2 : S = 0
      · rw [if_pos c2, if_pos c2]
      · rw [if_neg c2, if_neg c2, if_pos (by omega), decide_eq_true (by omega), ofit_j1s (by omega) (by omega) (by omega)]
        by_cases c3 : 1000 * (w - L) / S > 10000
        · rw [if_pos c3, if_pos c3]
        · rw [if_neg c3, if_neg c3]
end Go.Proofs.Ytfbanppdiglciaa.Y

/- The penalty at a place, forced places, a line's demerits. -/
set_option linter.unusedVariables false
set_option linter.unusedSimpArgs false
namespace Go.Proofs.Ytfbanppdiglciaa.Y
open Go Go.RowKit Go.Proofs.YtfbanppdiglciaaW.PrintWords Go.Proofs.YtfbanppdiglciaaW.PrintLast Go.Proofs.YtfbanppdiglciaaW.PrintMore

/-- The penalty at a place, and whether it is flagged. -/
def penN (l : List S31) (i : Nat) : Int := if i < l.length ∧ (itm l i).f0 = 3 then (itm l i).f4 else 0
def penF (l : List S31) (i : Nat) : Bool := if i < l.length ∧ (itm l i).f0 = 3 then (itm l i).f5 else false
def penA (l : List S31) (a : Nat) : Int × Bool := if a = 0 then (0, false) else (penN l (a - 1), penF l (a - 1))
theorem open_pen (l : List S31) (s1 : List S81) (s2 : List Int) (w : Int) (i : Nat) : optimal_paragraph_penalty.f l s1 s2 w (i : Int) = some (penN l i, penF l i, w) := by
  unfold optimal_paragraph_penalty.f penN penF
  rw [if_neg (by omega)]
  by_cases c : i < l.length
  · rw [if_neg (by omega), if_pos (by omega), if_pos (by omega), itm_rd]
    by_cases c2 : (itm l i).f0 = 3
    · rw [if_pos c2, if_pos ⟨c, c2⟩, if_pos ⟨c, c2⟩]
    · rw [if_neg c2, if_neg (fun z => c2 z.2), if_neg (fun z => c2 z.2)]
  · rw [if_pos (by omega), if_neg (fun z => c z.1), if_neg (fun z => c z.1)]
theorem open_penA (l : List S31) (s1 : List S81) (s2 : List Int) (w : Int) (a : Nat) : optimal_paragraph_penalty.f l s1 s2 w ((a : Int) - 1) = some ((penA l a).1, (penA l a).2, w) := by
  unfold penA
  by_cases c : a = 0
  · subst c; rw [if_pos rfl]; unfold optimal_paragraph_penalty.f; rw [if_pos (by omega)]
  · rw [if_neg c, show (a : Int) - 1 = ((a - 1 : Nat) : Int) by omega, open_pen]
theorem oforced (l : List S31) (s1 : List S81) (s2 : List Int) (w : Int) (i : Nat) : optimal_paragraph_forced.f l s1 s2 w (i : Int) = some (fcB l i, w) := by
  unfold optimal_paragraph_forced.f
  rw [open_pen]
  simp only [Option.bind_some]
  unfold fcB penN
  by_cases c : i = l.length
  · rw [if_pos (by omega), if_pos c]
  · rw [if_neg (by omega), if_neg c]
    by_cases c1 : i < l.length
    · by_cases c2 : (itm l i).f0 = 3
      · rw [if_pos ⟨c1, c2⟩, if_pos c2]
      · rw [if_neg (fun z => c2 z.2), if_neg c2]; rfl
    · rw [if_neg (fun z => c1 z.1)]
      have : itm l i = z31 := by unfold itm; rw [List.getD_eq_getElem?_getD, List.getElem?_eq_none (by omega)]; rfl
      rw [this]; rfl
/-- A line's demerits. -/
def demS (l : List S31) (a tt : Nat) (b : Int) : Int :=
  (10 + b) * (10 + b) + (if 0 ≤ penN l tt then penN l tt * penN l tt else if penN l tt > -10000 then -(penN l tt * penN l tt) else 0) + (if (penA l a).2 = true then (if penF l tt = true then 3000 else 0) else 0)
theorem sq_bd {n m : Int} (h0 : -m ≤ n) (h1 : n ≤ m) : 0 ≤ n * n ∧ n * n ≤ m * m := by
  by_cases c : 0 ≤ n
  · exact ⟨Int.mul_nonneg c c, Int.mul_le_mul h1 h1 c (by omega)⟩
  · have e : n * n = (-n) * (-n) := by rw [Int.neg_mul_neg]
    rw [e]
    exact ⟨Int.mul_nonneg (by omega) (by omega), Int.mul_le_mul (by omega) (by omega) (by omega) (by omega)⟩
theorem pen_bd {l : List S31} {w t : Int} (F : Fine l w t) (i : Nat) : -10000 ≤ penN l i ∧ penN l i ≤ 10000 := by
  unfold penN
  split
  · rename_i c; have := (okI_iff _).1 (F.item i c.1); omega
  · omega
theorem dem_bd {l : List S31} {w t : Int} (F : Fine l w t) (a tt : Nat) {b : Int} (h0 : 0 ≤ b) (h1 : b ≤ 100000) :
    (0 ≤ (10 + b) * (10 + b) ∧ (10 + b) * (10 + b) ≤ 10002000100) ∧ (0 ≤ penN l tt * penN l tt ∧ penN l tt * penN l tt ≤ 100000000) ∧ (-200000000 ≤ demS l a tt b ∧ demS l a tt b ≤ 20000000000) := by
  have p := pen_bd F tt
  have s1 := sq_bd (n := penN l tt) (m := 10000) (by omega) (by omega)
  have s2 := sq_bd (n := 10 + b) (m := 100010) (by omega) (by omega)
  unfold demS
  refine ⟨by omega, by omega, ?_⟩
  generalize (10 + b) * (10 + b) = A at *
  generalize penN l tt * penN l tt = B at *
  repeat' split
  all_goals omega
theorem odem {l : List S31} {w t : Int} (F : Fine l w t) (s1 : List S81) (s2 : List Int) (a tt : Nat) {b : Int} (h0 : 0 ≤ b) (h1 : b ≤ 100000) :
    optimal_paragraph_demerits.f l s1 s2 w ((a : Int) - 1) (tt : Int) b = some (demS l a tt b, w) := by
  obtain ⟨⟨b1, b2⟩, ⟨c1, c2⟩, _⟩ := dem_bd F a tt h0 h1
  unfold optimal_paragraph_demerits.f
  rw [open_pen]
  simp only [Option.bind_some, open_penA]
  rw [w64 (n := 10 + b) (by omega) (by omega), w64 (n := (10 + b) * (10 + b)) (by omega) (by omega), w64 (n := penN l tt * penN l tt) (by omega) (by omega)]
  unfold demS
  generalize (10 + b) * (10 + b) = A at *
  generalize penN l tt * penN l tt = B at *
  rw [w64 (n := A + B) (by omega) (by omega), w64 (n := A - B) (by omega) (by omega), w64 (n := A + B + 3000) (by omega) (by omega), w64 (n := A - B + 3000) (by omega) (by omega), w64 (n := A + 3000) (by omega) (by omega)]
  repeat' split
  all_goals first | omega | rfl | (congr 2; omega) | (congr 2)
end Go.Proofs.Ytfbanppdiglciaa.Y

/- Sets of breaks: what a set costs, which of two is better, and how the best ones are found from the end and from the beginning: plain facts. -/
set_option linter.unusedVariables false
set_option linter.unusedSimpArgs false
namespace Go.Proofs.Ytfbanppdiglciaa.Y
open Go Go.RowKit Go.Proofs.YtfbanppdiglciaaW.PrintWords Go.Proofs.YtfbanppdiglciaaW.PrintLast Go.Proofs.YtfbanppdiglciaaW.PrintMore

def soonB : List Int → List Int → Bool
  | [], [] => false
  | [], _ :: _ => true
  | _ :: _, [] => false
  | a :: r, b :: s => if a = b then soonB r s else decide (a < b)
theorem soon_irr : ∀ L : List Int, soonB L L = false
  | [] => rfl
  | a :: r => by simp only [soonB, if_true]; exact soon_irr r
theorem soon_tot : ∀ L L' : List Int, soonB L L' = false → soonB L' L = false → L = L'
  | [], [], _, _ => rfl
  | [], b :: s, h, _ => by simp [soonB] at h
  | a :: r, [], _, h => by simp [soonB] at h
  | a :: r, b :: s, h, h' => by
    simp only [soonB] at h h'
    by_cases e : a = b
    · subst e
      rw [if_pos rfl] at h h'
      rw [soon_tot r s h h']
    · rw [if_neg e] at h
      rw [if_neg (fun z => e z.symm)] at h'
      have := of_decide_eq_false h; have := of_decide_eq_false h'
      omega
theorem soon_trans : ∀ A B C : List Int, soonB A B = true → soonB B C = true → soonB A C = true
  | [], _, [], _, h => by cases ‹List Int› <;> simp [soonB] at h
  | [], _, c :: t, _, _ => rfl
  | a :: r, [], _, h, _ => by simp [soonB] at h
  | a :: r, b :: s, [], _, h => by simp [soonB] at h
  | a :: r, b :: s, c :: t, h, h' => by
    simp only [soonB] at h h' ⊢
    by_cases e : a = b
    · subst e
      rw [if_pos rfl] at h
      by_cases e2 : a = c
      · subst e2; rw [if_pos rfl] at h' ⊢; exact soon_trans r s t h h'
      · rw [if_neg e2] at h' ⊢; exact h'
    · rw [if_neg e] at h
      have h1 := of_decide_eq_true h
      by_cases e2 : b = c
      · subst e2; rw [if_neg e]; exact h
      · rw [if_neg e2] at h'
        have h2 := of_decide_eq_true h'
        rw [if_neg (by omega)]; exact decide_eq_true (by omega)
/-- No worse: less, or as much and not later in the order of lists. -/
def NW (c : Int) (L : List Int) (c' : Int) (L' : List Int) : Prop := c < c' ∨ (c = c' ∧ soonB L' L = false)
theorem NW.refl (c : Int) (L : List Int) : NW c L c L := .inr ⟨rfl, soon_irr L⟩
theorem NW.trans {a b c : Int} {A B C : List Int} (h : NW a A b B) (h' : NW b B c C) : NW a A c C := by
  rcases h with h | ⟨rfl, h⟩
  · rcases h' with h' | ⟨rfl, h'⟩
    · exact .inl (by omega)
    · exact .inl h
  · rcases h' with h' | ⟨rfl, h'⟩
    · exact .inl h'
    · refine .inr ⟨rfl, ?_⟩
      by_cases c1 : soonB C A = true
      · by_cases c2 : soonB A B = true
        · rw [soon_trans C A B c1 c2] at h'; cases h'
        · have := soon_tot A B (by simpa using c2) h
          subst this; rw [c1] at h'; cases h'
      · simpa using c1
theorem NW.anti {a b : Int} {A B : List Int} (h : NW a A b B) (h' : NW b B a A) : a = b ∧ A = B := by
  rcases h with h | ⟨rfl, h⟩
  · rcases h' with h' | ⟨h', _⟩ <;> omega
  · rcases h' with h' | ⟨_, h'⟩
    · omega
    · exact ⟨rfl, (soon_tot B A h h').symm⟩

/-- Is there a place from a on, among the next d, where a line must end? -/
def fcIn (l : List S31) : Nat → Nat → Bool
  | _, 0 => false
  | a, d + 1 => fcB l a || fcIn l (a + 1) d
theorem fcIn_false (l : List S31) : ∀ (d a : Nat), fcIn l a d = false ↔ ∀ i, a ≤ i → i < a + d → fcB l i = false
  | 0, a => by simp [fcIn]; intro i h h'; omega
  | d + 1, a => by
    simp only [fcIn, Bool.or_eq_false_iff, fcIn_false l d (a + 1)]
    constructor
    · rintro ⟨h1, h2⟩ i hi hi'
      by_cases e : i = a
      · subst e; exact h1
      · exact h2 i (by omega) (by omega)
    · intro h
      exact ⟨h a (by omega) (by omega), fun i hi hi' => h i (by omega) (by omega)⟩
/-- May a line go from behind place a - 1 to the place x, but for its fit? -/
def gapB (l : List S31) (a x : Nat) : Bool := decide (a ≤ x) && decide (x ≤ l.length) && plE l x && !(fcIn l a (x - a))
theorem gapB_iff (l : List S31) (a x : Nat) : gapB l a x = true ↔ a ≤ x ∧ x ≤ l.length ∧ plE l x = true ∧ ∀ i, a ≤ i → i < x → fcB l i = false := by
  unfold gapB
  simp only [Bool.and_eq_true, decide_eq_true_eq, Bool.not_eq_true', fcIn_false]
  constructor
  · rintro ⟨⟨⟨h1, h2⟩, h3⟩, h4⟩; exact ⟨h1, h2, h3, fun i hi hi' => h4 i hi (by omega)⟩
  · rintro ⟨h1, h2, h3, h4⟩; exact ⟨⟨⟨h1, h2⟩, h3⟩, fun i hi hi' => h4 i hi (by omega)⟩
/-- The demerits of a line from behind place a - 1 to the place x, if it is a good one. -/
def stp (l : List S31) (w t : Int) (a x : Nat) : Option Int :=
  if gapB l a x = true ∧ (fitS l a x w).2.2 = true ∧ (fitS l a x w).1 ≤ t then some (demS l a x (fitS l a x w).2.1) else none
def stpZ (l : List S31) (w t : Int) (a : Nat) (x : Int) : Option Int := if 0 ≤ x then stp l w t a x.toNat else none
/-- The demerits of the breaks L from behind place a - 1 on, which end ahead of E. -/
def cost (l : List S31) (w t : Int) (E : Nat) : Nat → List Int → Option Int
  | a, [] => if a = E then some 0 else none
  | a, x :: r => (stpZ l w t a x).bind fun d => (cost l w t E (x.toNat + 1) r).bind fun c => some (d + c)
/-- Do the breaks cover the paragraph from behind place a - 1 on? -/
def covB (l : List S31) : Nat → List Int → Bool
  | a, [] => decide (a = l.length + 1)
  | a, x :: r => decide (0 ≤ x) && gapB l a x.toNat && covB l (x.toNat + 1) r
theorem stp_some {l : List S31} {w t : Int} {a x : Nat} {d : Int} (h : stp l w t a x = some d) : gapB l a x = true ∧ (fitS l a x w).2.2 = true ∧ (fitS l a x w).1 ≤ t ∧ d = demS l a x (fitS l a x w).2.1 := by
  unfold stp at h
  split at h
  · rename_i c; exact ⟨c.1, c.2.1, c.2.2, (Option.some.inj h).symm⟩
  · cases h
theorem stp_le {l : List S31} {w t : Int} {a x : Nat} {d : Int} (h : stp l w t a x = some d) : a ≤ x ∧ x ≤ l.length := by
  have := (gapB_iff l a x).1 (stp_some h).1; omega
theorem stp_bd {l : List S31} {w t : Int} (F : Fine l w t) {a x : Nat} {d : Int} (h : stp l w t a x = some d) : -20000000000 ≤ d ∧ d ≤ 20000000000 := by
  obtain ⟨h1, h2, h3, rfl⟩ := stp_some h
  have g := (gapB_iff l a x).1 h1
  have lb := lineS_bd F a (tt := x) (by omega)
  have b := fitV_bd lb.1.1 lb.2.1.1 lb.2.2.1 h2
  have := (dem_bd F a x b.1 b.2).2.2
  unfold fitS; omega
theorem stpZ_some {l : List S31} {w t : Int} {a : Nat} {x d : Int} (h : stpZ l w t a x = some d) : 0 ≤ x ∧ stp l w t a x.toNat = some d := by
  unfold stpZ at h
  split at h
  · rename_i c; exact ⟨c, h⟩
  · cases h
theorem stpZ_nat (l : List S31) (w t : Int) (a x : Nat) : stpZ l w t a (x : Int) = stp l w t a x := by
  unfold stpZ; rw [if_pos (by omega), show ((x : Int)).toNat = x by omega]
theorem cost_cons {l : List S31} {w t : Int} {E a : Nat} {x : Int} {r : List Int} {c : Int} (h : cost l w t E a (x :: r) = some c) : ∃ d c', stpZ l w t a x = some d ∧ cost l w t E (x.toNat + 1) r = some c' ∧ c = d + c' := by
  simp only [cost, Option.bind_eq_some_iff] at h
  obtain ⟨d, h1, c', h2, h3⟩ := h
  exact ⟨d, c', h1, h2, (Option.some.inj h3).symm⟩
theorem cost_mk {l : List S31} {w t : Int} {E a x : Nat} {r : List Int} {d c : Int} (h : stp l w t a x = some d) (h' : cost l w t E (x + 1) r = some c) : cost l w t E a ((x : Int) :: r) = some (d + c) := by
  simp only [cost, stpZ_nat, h, Option.bind_some, show ((x : Int)).toNat = x by omega, h']
theorem cost_le {l : List S31} {w t : Int} {E : Nat} : ∀ (L : List Int) (a : Nat) (c : Int), cost l w t E a L = some c → a ≤ E ∧ (L ≠ [] → a < E)
  | [], a, c, h => by
    simp only [cost] at h
    split at h
    · rename_i e; exact ⟨by omega, fun z => absurd rfl z⟩
    · cases h
  | x :: r, a, c, h => by
    obtain ⟨d, c', h1, h2, _⟩ := cost_cons h
    have := (stp_le (stpZ_some h1).2).1
    have := (cost_le r _ c' h2).1
    exact ⟨by omega, fun _ => by omega⟩
theorem cost_bd {l : List S31} {w t : Int} (F : Fine l w t) {E : Nat} : ∀ (L : List Int) (a : Nat) (c : Int), cost l w t E a L = some c → -(20000000000 * ((E : Int) - a)) ≤ c ∧ c ≤ 20000000000 * ((E : Int) - a)
  | [], a, c, h => by
    simp only [cost] at h
    split at h
    · rename_i e; have := Option.some.inj h; omega
    · cases h
  | x :: r, a, c, h => by
    obtain ⟨d, c', h1, h2, h3⟩ := cost_cons h
    have := (stp_le (stpZ_some h1).2).1
    have := stp_bd F (stpZ_some h1).2
    have := cost_bd F r _ c' h2
    have := (cost_le r _ c' h2).1
    omega
theorem cost_cov {l : List S31} {w t : Int} : ∀ (L : List Int) (a : Nat) (c : Int), cost l w t (l.length + 1) a L = some c → covB l a L = true
  | [], a, c, h => by
    simp only [cost] at h
    split at h
    · rename_i e; simpa [covB] using e
    · cases h
  | x :: r, a, c, h => by
    obtain ⟨d, c', h1, h2, h3⟩ := cost_cons h
    obtain ⟨h0, h1⟩ := stpZ_some h1
    simp only [covB, cost_cov r _ c' h2, (stp_some h1).1, decide_eq_true h0, Bool.and_self]
/-- The best breaks from behind place a - 1 on to E. -/
def Bst (l : List S31) (w t : Int) (E a : Nat) (c : Int) (L : List Int) : Prop := cost l w t E a L = some c ∧ ∀ L' c', cost l w t E a L' = some c' → NW c L c' L'
def Non (l : List S31) (w t : Int) (E a : Nat) : Prop := ∀ L, cost l w t E a L = none
theorem Bst.uniq {l : List S31} {w t : Int} {E a : Nat} {c c' : Int} {L L' : List Int} (h : Bst l w t E a c L) (h' : Bst l w t E a c' L') : c = c' ∧ L = L' := (h.2 _ _ h'.1).anti (h'.2 _ _ h.1)
theorem Bst.not {l : List S31} {w t : Int} {E a : Nat} {c : Int} {L : List Int} (h : Bst l w t E a c L) (h' : Non l w t E a) : False := by
  have z := h.1
  rw [h' L] at z; cases z

/-- FROM THE END: the best of those whose first break lies ahead of B; none: there is none. -/
def PB (l : List S31) (w t : Int) (E a B : Nat) : Option (Int × List Int) → Prop
  | none => ∀ (x : Nat) r, x < B → cost l w t E a ((x : Int) :: r) = none
  | some (c, L) => cost l w t E a L = some c ∧ (∃ (x : Nat) (r : List Int), L = (x : Int) :: r ∧ x < B) ∧ ∀ (x : Nat) r c', x < B → cost l w t E a ((x : Int) :: r) = some c' → NW c L c' ((x : Int) :: r)
theorem PB.skip {l : List S31} {w t : Int} {E a B B' : Nat} {o : Option (Int × List Int)} (h : PB l w t E a B o) (hB : B ≤ B') (hn : ∀ (x : Nat) r, B ≤ x → x < B' → cost l w t E a ((x : Int) :: r) = none) : PB l w t E a B' o := by
  match o, h with
  | none, h =>
    intro x r hx
    by_cases c : x < B
    · exact h x r c
    · exact hn x r (by omega) hx
  | some (c, L), ⟨h1, ⟨x0, r0, e0, h0⟩, h2⟩ =>
    refine ⟨h1, ⟨x0, r0, e0, by omega⟩, fun x r c' hx h' => ?_⟩
    by_cases c : x < B
    · exact h2 x r c' c h'
    · rw [hn x r (by omega) hx] at h'; cases h'
theorem PB.begin (l : List S31) (w t : Int) (E a : Nat) : PB l w t E a a none := fun x r hx => by
  cases hc : cost l w t E a ((x : Int) :: r) with
  | none => rfl
  | some c =>
    obtain ⟨d, c', h1, _, _⟩ := cost_cons hc
    rw [stpZ_nat] at h1
    have := (stp_le h1).1; omega
theorem none_place {l : List S31} {w t : Int} {E a x : Nat} (h : stp l w t a x = none) (r : List Int) : cost l w t E a ((x : Int) :: r) = none := by
  simp only [cost, stpZ_nat, h, Option.bind_none]
theorem none_rest {l : List S31} {w t : Int} {E a x : Nat} (h : Non l w t E (x + 1)) (r : List Int) : cost l w t E a ((x : Int) :: r) = none := by
  simp only [cost, show ((x : Int)).toNat = x by omega, h r, Option.bind_none]
  cases stpZ l w t a (x : Int) <;> rfl
theorem PB.new {l : List S31} {w t : Int} {E a p : Nat} {o : Option (Int × List Int)} {d c : Int} {L : List Int} (h : PB l w t E a p o) (hd : stp l w t a p = some d) (hc : Bst l w t E (p + 1) c L) (hbetter : ∀ c0 L0, o = some (c0, L0) → d + c < c0) :
    PB l w t E a (p + 1) (some (d + c, (p : Int) :: L)) := by
  refine ⟨cost_mk hd hc.1, ⟨p, L, rfl, by omega⟩, fun x r c' hx h' => ?_⟩
  by_cases e : x = p
  · subst e
    obtain ⟨d1, c1, h1, h2, rfl⟩ := cost_cons h'
    rw [stpZ_nat, hd] at h1
    obtain rfl := Option.some.inj h1
    rw [show ((x : Int)).toNat = x by omega] at h2
    rcases hc.2 _ _ h2 with g | ⟨g, g'⟩
    · exact .inl (by omega)
    · exact .inr ⟨by omega, by simp only [soonB, if_true]; exact g'⟩
  · match o, h with
    | none, h => rw [h x r (by omega)] at h'; cases h'
    | some (c0, L0), ⟨_, _, h2⟩ =>
      have b := hbetter c0 L0 rfl
      rcases h2 x r c' (by omega) h' with g | ⟨g, _⟩
      · exact .inl (by omega)
      · exact .inl (by omega)
theorem PB.keep {l : List S31} {w t : Int} {E a p : Nat} {d c c0 : Int} {L L0 : List Int} (h : PB l w t E a p (some (c0, L0))) (hd : stp l w t a p = some d) (hc : Bst l w t E (p + 1) c L) (hworse : c0 ≤ d + c) :
    PB l w t E a (p + 1) (some (c0, L0)) := by
  obtain ⟨h1, ⟨x0, r0, e0, h0⟩, h2⟩ := h
  refine ⟨h1, ⟨x0, r0, e0, by omega⟩, fun x r c' hx h' => ?_⟩
  by_cases e : x = p
  · subst e
    obtain ⟨d1, c1, g1, g2, rfl⟩ := cost_cons h'
    rw [stpZ_nat, hd] at g1
    obtain rfl := Option.some.inj g1
    rw [show ((x : Int)).toNat = x by omega] at g2
    rcases hc.2 _ _ g2 with g | ⟨g, g'⟩
    · exact .inl (by omega)
    · by_cases e2 : c0 = d + c1
      · refine .inr ⟨e2, ?_⟩
        subst e0
        simp only [soonB]
        rw [if_neg (by omega)]; exact decide_eq_false (by omega)
      · exact .inl (by omega)
  · exact h2 x r c' (by omega) h'
/-- The best, or that there is none. -/
def FinO (l : List S31) (w t : Int) (E a : Nat) : Option (Int × List Int) → Prop
  | none => Non l w t E a
  | some (c, L) => Bst l w t E a c L
/-- All are looked at: behind the end, or behind a place where a line must end. -/
theorem PB.all {l : List S31} {w t : Int} {a B : Nat} {o : Option (Int × List Int)} (h : PB l w t (l.length + 1) a B o) (ha : a ≤ l.length) (hB : l.length < B ∨ ∃ p, a ≤ p ∧ p < B ∧ fcB l p = true) :
    FinO l w t (l.length + 1) a o := by
  have out : ∀ (L : List Int) (c : Int), cost l w t (l.length + 1) a L = some c → ∃ (x : Nat) (r : List Int), L = (x : Int) :: r ∧ x < B := by
    intro L c hc
    match L, hc with
    | [], hc =>
      simp only [cost] at hc
      split at hc
      · omega
      · cases hc
    | x :: r, hc =>
      obtain ⟨d, c', h1, _, _⟩ := cost_cons hc
      obtain ⟨h0, h1⟩ := stpZ_some h1
      have g := (gapB_iff l a x.toNat).1 (stp_some h1).1
      refine ⟨x.toNat, r, by rw [show ((x.toNat : Nat) : Int) = x by omega], ?_⟩
      rcases hB with hB | ⟨p, hp, hpB, hf⟩
      · omega
      · by_cases e : x.toNat < B
        · exact e
        · have := g.2.2.2 p hp (by omega)
          rw [hf] at this; cases this
  match o, h with
  | none, h =>
    intro L
    cases hc : cost l w t (l.length + 1) a L with
    | none => rfl
    | some c =>
      obtain ⟨x, r, e, hx⟩ := out L c hc
      subst e
      rw [h x r hx] at hc; cases hc
  | some (c, L), ⟨h1, _, h2⟩ =>
    refine ⟨h1, fun L' c' h' => ?_⟩
    obtain ⟨x, r, e, hx⟩ := out L' c' h'
    subst e
    exact h2 x r c' hx h'

/-- FROM THE BEGINNING. -/
theorem cost_snoc {l : List S31} {w t : Int} {E a' x : Nat} {d : Int} (hd : stp l w t a' x = some d) (hE : E = x + 1) : ∀ (L : List Int) (a : Nat) (c : Int), cost l w t a' a L = some c → cost l w t E a (L ++ [(x : Int)]) = some (c + d)
  | [], a, c, h => by
    simp only [cost] at h
    split at h
    · rename_i e; subst e hE
      obtain rfl := Option.some.inj h
      simp only [List.nil_append, cost, stpZ_nat, hd, Option.bind_some, show ((x : Int)).toNat = x by omega, if_true]
      simp
    · cases h
  | y :: r, a, c, h => by
    obtain ⟨d1, c1, h1, h2, rfl⟩ := cost_cons h
    have := cost_snoc hd hE r _ c1 h2
    simp only [List.cons_append, cost, h1, Option.bind_some, this]
    congr 1; omega
theorem cost_unsnoc {l : List S31} {w t : Int} {E : Nat} : ∀ (L : List Int) (a : Nat) (c : Int), L ≠ [] → cost l w t E a L = some c → ∃ (x a' : Nat) (L0 : List Int) (c0 d : Int), L = L0 ++ [(x : Int)] ∧ E = x + 1 ∧ cost l w t a' a L0 = some c0 ∧ stp l w t a' x = some d ∧ c = c0 + d
  | [], _, _, h, _ => absurd rfl h
  | [y], a, c, _, h => by
    obtain ⟨d, c1, h1, h2, rfl⟩ := cost_cons h
    obtain ⟨h0, h1⟩ := stpZ_some h1
    simp only [cost] at h2
    split at h2
    · rename_i e
      obtain rfl := Option.some.inj h2
      exact ⟨y.toNat, a, [], 0, d, by rw [show ((y.toNat : Nat) : Int) = y by omega]; rfl, e.symm, by simp [cost], h1, by omega⟩
    · cases h2
  | y :: z :: r, a, c, _, h => by
    obtain ⟨d, c1, h1, h2, rfl⟩ := cost_cons h
    obtain ⟨x, a', L0, c0, d0, e, hE, h3, h4, rfl⟩ := cost_unsnoc (z :: r) _ c1 (by simp) h2
    refine ⟨x, a', y :: L0, d + c0, d0, by rw [e]; rfl, hE, ?_, h4, by omega⟩
    simp only [cost, h1, Option.bind_some, h3]
theorem soon_snoc {l : List S31} {w t : Int} {a' : Nat} (x : Int) : ∀ (L' L : List Int) (a : Nat) (c c' : Int), cost l w t a' a L = some c → cost l w t a' a L' = some c' → soonB (L' ++ [x]) (L ++ [x]) = true → soonB L' L = true
  | [], [], a, c, c', _, _, h => by simp [soonB] at h
  | [], y :: r, _, _, _, _, _, _ => rfl
  | y :: r, [], a, c, c', h, h', hs => by
    have := (cost_le _ _ _ h').2 (by simp)
    simp only [cost] at h
    split at h
    · omega
    · cases h
  | y :: r, z :: s, a, c, c', h, h', hs => by
    simp only [List.cons_append, soonB] at hs ⊢
    by_cases e : y = z
    · subst e
      rw [if_pos rfl] at hs ⊢
      obtain ⟨_, c1, _, h2, _⟩ := cost_cons h
      obtain ⟨_, c2, _, h4, _⟩ := cost_cons h'
      exact soon_snoc x r s _ c1 c2 h2 h4 hs
    · rw [if_neg e] at hs ⊢; exact hs
/-- The best of those to the place x whose last line begins behind place a' - 1, a' from B on. -/
def PF (l : List S31) (w t : Int) (x B : Nat) : Option (Int × List Int) → Prop
  | none => ∀ (a' : Nat) L0 c0 d, B ≤ a' → cost l w t a' 0 L0 = some c0 → stp l w t a' x = some d → False
  | some (c, L) => cost l w t (x + 1) 0 L = some c ∧ ∀ (a' : Nat) L0 c0 d, B ≤ a' → cost l w t a' 0 L0 = some c0 → stp l w t a' x = some d → NW c L (c0 + d) (L0 ++ [(x : Int)])
theorem PF.begin (l : List S31) (w t : Int) (x : Nat) : PF l w t x (x + 1) none := fun a' L0 c0 d hB _ h => by
  have := (stp_le h).1; omega
theorem PF.skip {l : List S31} {w t : Int} {x B : Nat} {o : Option (Int × List Int)} (h : PF l w t x (B + 1) o) (hn : stp l w t B x = none ∨ Non l w t B 0) : PF l w t x B o := by
  have no : ∀ L0 c0 d, cost l w t B 0 L0 = some c0 → stp l w t B x = some d → False := by
    intro L0 c0 d h1 h2
    rcases hn with hn | hn
    · rw [hn] at h2; cases h2
    · rw [hn L0] at h1; cases h1
  match o, h with
  | none, h =>
    intro a' L0 c0 d hB h1 h2
    by_cases e : a' = B
    · subst e; exact no L0 c0 d h1 h2
    · exact h a' L0 c0 d (by omega) h1 h2
  | some (c, L), ⟨h0, h⟩ =>
    refine ⟨h0, fun a' L0 c0 d hB h1 h2 => ?_⟩
    by_cases e : a' = B
    · subst e; exact (no L0 c0 d h1 h2).elim
    · exact h a' L0 c0 d (by omega) h1 h2
theorem cand {l : List S31} {w t : Int} {x B : Nat} {cb d : Int} {Lb : List Int} (hd : stp l w t B x = some d) (hb : Bst l w t B 0 cb Lb) {L0 : List Int} {c0 : Int} (h : cost l w t B 0 L0 = some c0) : NW (cb + d) (Lb ++ [(x : Int)]) (c0 + d) (L0 ++ [(x : Int)]) := by
  rcases hb.2 _ _ h with g | ⟨g, g'⟩
  · exact .inl (by omega)
  · refine .inr ⟨by omega, ?_⟩
    cases hs : soonB (L0 ++ [(x : Int)]) (Lb ++ [(x : Int)]) with
    | false => rfl
    | true => rw [soon_snoc (x : Int) L0 Lb 0 cb c0 hb.1 h hs] at g'; cases g'
theorem PF.new {l : List S31} {w t : Int} {x B : Nat} {o : Option (Int × List Int)} {cb d : Int} {Lb : List Int} (h : PF l w t x (B + 1) o) (hd : stp l w t B x = some d) (hb : Bst l w t B 0 cb Lb) (hbetter : ∀ c L, o = some (c, L) → NW (cb + d) (Lb ++ [(x : Int)]) c L) :
    PF l w t x B (some (cb + d, Lb ++ [(x : Int)])) := by
  refine ⟨cost_snoc hd rfl Lb 0 cb hb.1, fun a' L0 c0 d' hB h1 h2 => ?_⟩
  by_cases e : a' = B
  · subst e
    rw [hd] at h2
    obtain rfl := Option.some.inj h2
    exact cand hd hb h1
  · match o, h with
    | none, h => exact (h a' L0 c0 d' (by omega) h1 h2).elim
    | some (c, L), ⟨_, h⟩ => exact (hbetter c L rfl).trans (h a' L0 c0 d' (by omega) h1 h2)
theorem PF.keep {l : List S31} {w t : Int} {x B : Nat} {cb d c : Int} {Lb L : List Int} (h : PF l w t x (B + 1) (some (c, L))) (hd : stp l w t B x = some d) (hb : Bst l w t B 0 cb Lb) (hworse : NW c L (cb + d) (Lb ++ [(x : Int)])) : PF l w t x B (some (c, L)) := by
  obtain ⟨h0, h⟩ := h
  refine ⟨h0, fun a' L0 c0 d' hB h1 h2 => ?_⟩
  by_cases e : a' = B
  · subst e
    rw [hd] at h2
    obtain rfl := Option.some.inj h2
    exact hworse.trans (cand hd hb h1)
  · exact h a' L0 c0 d' (by omega) h1 h2
/-- All are looked at: from the beginning on, or from behind a place where a line must end. -/
theorem PF.all {l : List S31} {w t : Int} {x B : Nat} {o : Option (Int × List Int)} (h : PF l w t x B o) (hB : B = 0 ∨ (B ≤ x ∧ fcB l (B - 1) = true)) : FinO l w t (x + 1) 0 o := by
  have out : ∀ (L : List Int) (c : Int), cost l w t (x + 1) 0 L = some c → ∃ a' L0 c0 d, B ≤ a' ∧ cost l w t a' 0 L0 = some c0 ∧ stp l w t a' x = some d ∧ c = c0 + d ∧ L = L0 ++ [(x : Int)] := by
    intro L c hc
    by_cases e : L = []
    · subst e
      simp only [cost] at hc
      split at hc
      · omega
      · cases hc
    · obtain ⟨x', a', L0, c0, d, rfl, hE, h1, h2, rfl⟩ := cost_unsnoc L 0 c e hc
      obtain rfl : x = x' := by omega
      refine ⟨a', L0, c0, d, ?_, h1, h2, rfl, rfl⟩
      rcases hB with hB | ⟨hB, hf⟩
      · omega
      · by_cases e : B ≤ a'
        · exact e
        · have := ((gapB_iff l a' x).1 (stp_some h2).1).2.2.2 (B - 1) (by omega) (by omega)
          rw [hf] at this; cases this
  match o, h with
  | none, h =>
    intro L
    cases hc : cost l w t (x + 1) 0 L with
    | none => rfl
    | some c =>
      obtain ⟨a', L0, c0, d, hB', h1, h2, _, _⟩ := out L c hc
      exact (h a' L0 c0 d hB' h1 h2).elim
  | some (c, L), ⟨h0, h⟩ =>
    refine ⟨h0, fun L' c' hc => ?_⟩
    obtain ⟨a', L0, c0, d, hB', h1, h2, rfl, rfl⟩ := out L' c' hc
    exact h a' L0 c0 d hB' h1 h2
end Go.Proofs.Ytfbanppdiglciaa.Y

/- The program's search for the best breaks, from the end to the beginning: what it finds is the best. -/
set_option linter.unusedVariables false
set_option linter.unusedSimpArgs false
namespace Go.Proofs.Ytfbanppdiglciaa.Y
open Go Go.RowKit Go.Proofs.YtfbanppdiglciaaW.PrintWords Go.Proofs.YtfbanppdiglciaaW.PrintLast Go.Proofs.YtfbanppdiglciaaW.PrintMore

/-- P is the list of the places from a on. -/
def Seg (l : List S31) : Nat → List Int → Prop
  | a, [] => a = l.length + 1
  | a, x :: r => ∃ p : Nat, x = (p : Int) ∧ a ≤ p ∧ p ≤ l.length ∧ plE l p = true ∧ (∀ i, a ≤ i → i < p → plE l i = false) ∧ Seg l (p + 1) r
theorem seg_weak {l : List S31} {a : Nat} {P : List Int} (h : Seg l (a + 1) P) (hn : plE l a = false) : Seg l a P := by
  match P, h with
  | [], h =>
    have : a = l.length := by simp only [Seg] at h; omega
    subst this
    simp [plE] at hn
  | x :: r, ⟨p, h1, h2, h3, h4, h5, h6⟩ =>
    refine ⟨p, h1, by omega, h3, h4, fun i hi hi' => ?_, h6⟩
    by_cases e : i = a
    · subst e; exact hn
    · exact h5 i (by omega) hi'
theorem plF_seg (l : List S31) : ∀ d, d ≤ l.length → Seg l (l.length - d) (plF l d)
  | 0, _ => ⟨l.length, rfl, by omega, by omega, by simp [plE], fun i h h' => by omega, rfl⟩
  | d + 1, h => by
    have ih := plF_seg l d (by omega)
    have e : l.length - d = l.length - (d + 1) + 1 := by omega
    rw [e] at ih
    have pe : plE l (l.length - (d + 1)) = plB l (l.length - (d + 1)) := by unfold plE; rw [if_neg (by omega)]
    unfold plF
    split
    · rename_i c; exact ⟨l.length - (d + 1), rfl, by omega, by omega, by rw [pe]; exact c, fun i h h' => by omega, ih⟩
    · rename_i c; exact seg_weak ih (by rw [pe]; simpa using c)
theorem seg_at (l : List S31) : ∀ (P : List Int) (a i : Nat), Seg l a P → i < P.length → ∃ p : Nat, P.getD i 0 = (p : Int) ∧ (if i = 0 then a else (P.getD (i - 1) 0).toNat + 1) ≤ p ∧ p ≤ l.length ∧ plE l p = true ∧ ∀ x, (if i = 0 then a else (P.getD (i - 1) 0).toNat + 1) ≤ x → x < p → plE l x = false
  | [], _, i, _, h => by simp at h
  | x :: r, a, 0, ⟨p, h1, h2, h3, h4, h5, h6⟩, _ => ⟨p, by simpa using h1, by simpa using h2, h3, h4, by simpa using h5⟩
  | x :: r, a, i + 1, ⟨p, h1, h2, h3, h4, h5, h6⟩, h => by
    obtain ⟨q, g1, g2, g3, g4, g5⟩ := seg_at l r (p + 1) i h6 (by simpa using h)
    refine ⟨q, by simpa using g1, ?_⟩
    have e : (if i + 1 = 0 then a else ((x :: r).getD (i + 1 - 1) 0).toNat + 1) = (if i = 0 then p + 1 else (r.getD (i - 1) 0).toNat + 1) := by
      rw [if_neg (by omega)]
      cases i with
      | zero => subst h1; simp
      | succ i => simp
    rw [e]
    exact ⟨g2, g3, g4, g5⟩
theorem seg_last (l : List S31) : ∀ (P : List Int) (a : Nat), Seg l a P → P ≠ [] → (P.getD (P.length - 1) 0).toNat = l.length
  | [], _, _, h => absurd rfl h
  | [x], a, ⟨p, h1, h2, h3, h4, h5, h6⟩, _ => by simp only [Seg] at h6; subst h1; simp; omega
  | x :: y :: r, a, ⟨p, h1, h2, h3, h4, h5, h6⟩, _ => by
    have := seg_last l (y :: r) (p + 1) h6 (by simp)
    simpa using this
theorem plL_seg (l : List S31) : Seg l 0 (plL l) := by have := plF_seg l l.length (by omega); simpa [plL] using this
theorem plL_pos (l : List S31) : 0 < (plL l).length := by
  have h := plL_seg l
  cases e : plL l with
  | nil => rw [e] at h; simp [Seg] at h
  | cons x r => simp
theorem plL_len (l : List S31) : (plL l).length ≤ l.length + 1 := plF_len l l.length
/-- The i-th place, and the first one that may stand in the line up to it. -/
def posI (l : List S31) (i : Nat) : Nat := (rd (plL l) (i : Int)).toNat
def stI (l : List S31) (i : Nat) : Nat := if i = 0 then 0 else posI l (i - 1) + 1
theorem posI_facts (l : List S31) {i : Nat} (h : i < (plL l).length) : rd (plL l) (i : Int) = (posI l i : Int) ∧ stI l i ≤ posI l i ∧ posI l i ≤ l.length ∧ plE l (posI l i) = true ∧ ∀ x, stI l i ≤ x → x < posI l i → plE l x = false := by
  obtain ⟨p, g1, g2, g3, g4, g5⟩ := seg_at l (plL l) 0 i (plL_seg l) h
  have e : rd (plL l) (i : Int) = (p : Int) := by unfold rd; rw [show ((i : Int)).toNat = i by omega]; exact g1
  have ep : posI l i = p := by unfold posI; rw [e]; omega
  have es : stI l i = (if i = 0 then 0 else ((plL l).getD (i - 1) 0).toNat + 1) := by
    unfold stI posI rd; rw [show (((i - 1 : Nat) : Int)).toNat = i - 1 by omega]
  rw [ep, es]
  exact ⟨e, g2, g3, g4, g5⟩
theorem stI_succ (l : List S31) (i : Nat) : stI l (i + 1) = posI l i + 1 := by unfold stI; rw [if_neg (by omega)]; rfl
theorem stI_zero (l : List S31) : stI l 0 = 0 := rfl
theorem stI_end (l : List S31) : stI l (plL l).length = l.length + 1 := by
  have h := plL_pos l
  have := seg_last l (plL l) 0 (plL_seg l) (by intro e; rw [e] at h; simp at h)
  unfold stI posI rd
  rw [if_neg (by omega), show ((((plL l).length - 1 : Nat) : Int)).toNat = (plL l).length - 1 by omega, this]
theorem stI_mono (l : List S31) {i : Nat} : ∀ j, i ≤ j → j ≤ (plL l).length → stI l i ≤ stI l j
  | 0, h, _ => by have : i = 0 := by omega
                  subst this; omega
  | j + 1, h, h' => by
    by_cases e : i = j + 1
    · subst e; omega
    · have := stI_mono l (i := i) j (by omega) (by omega)
      have := (posI_facts l (i := j) (by omega)).2.1
      rw [stI_succ]; omega

theorem rdS {out : List S59} {i j : Nat} {v : S59} (h : j < out.length) : rd_T59 (out.set j v) (i : Int) = if i = j then v else rd_T59 out (i : Int) := by
  unfold rd_T59
  rw [show ((i : Int)).toNat = i by omega, List.getD_eq_getElem?_getD, List.getD_eq_getElem?_getD]
  by_cases e : i = j
  · subst e; rw [if_pos rfl, List.getElem?_set_self h]; rfl
  · rw [if_neg e, List.getElem?_set_ne (fun z => e z.symm)]
/-- What entry i says is so. -/
def Ent (l : List S31) (w t : Int) (Ls : Nat → List Int) (out : List S59) (i : Nat) : Prop :=
  ((rd_T59 out (i : Int)).f2 = true → Bst l w t (l.length + 1) (stI l i) (rd_T59 out (i : Int)).f1 (Ls i) ∧
    (i < (plL l).length → ∃ j : Nat, (rd_T59 out (i : Int)).f0 = (j : Int) ∧ i ≤ j ∧ j < (plL l).length ∧ Ls i = (posI l j : Int) :: Ls (j + 1) ∧ (rd_T59 out ((j + 1 : Nat) : Int)).f2 = true) ∧ (i = (plL l).length → Ls i = [])) ∧
  ((rd_T59 out (i : Int)).f2 = false → Non l w t (l.length + 1) (stI l i))
/-- All entries from K on are as they should. -/
def Done (l : List S31) (w t : Int) (out : List S59) (K : Nat) : Prop := out.length = (plL l).length + 1 ∧ ∃ Ls, ∀ i, K ≤ i → i ≤ (plL l).length → Ent l w t Ls out i
/-- What entry K holds in the midst. -/
def CurE (l : List S31) (Ls : Nat → List Int) (out : List S59) (K : Nat) : Option (Int × List Int) → Prop
  | none => (rd_T59 out (K : Int)).f2 = false
  | some (c, L) => (rd_T59 out (K : Int)).f2 = true ∧ (rd_T59 out (K : Int)).f1 = c ∧ ∃ j0 : Nat, (rd_T59 out (K : Int)).f0 = (j0 : Int) ∧ K ≤ j0 ∧ j0 < (plL l).length ∧ L = (posI l j0 : Int) :: Ls (j0 + 1) ∧ (rd_T59 out ((j0 + 1 : Nat) : Int)).f2 = true
/-- In the midst of entry K: the places up to the j-th are looked at. -/
structure Mid (l : List S31) (w t : Int) (out : List S59) (K j : Nat) (Ls : Nat → List Int) (o : Option (Int × List Int)) : Prop where
  len : out.length = (plL l).length + 1
  ent : ∀ i, K < i → i ≤ (plL l).length → Ent l w t Ls out i
  cur : CurE l Ls out K o
  low : ∀ i, i < K → (rd_T59 out (i : Int)).f2 = false
  pb : PB l w t (l.length + 1) (stI l K) (stI l j) o
  nf : ∀ i, stI l K ≤ i → i < stI l j → fcB l i = false
theorem Mid.done {l : List S31} {w t : Int} {out : List S59} {K : Nat} {Ls : Nat → List Int} {o : Option (Int × List Int)} (hK : K < (plL l).length)
    (hl : out.length = (plL l).length + 1) (he : ∀ i, K < i → i ≤ (plL l).length → Ent l w t Ls out i) (hc : CurE l Ls out K o) (ha : FinO l w t (l.length + 1) (stI l K) o) : Done l w t out K := by
  match o, hc, ha with
  | none, hc, ha =>
    refine ⟨hl, Ls, fun i hi hi' => ?_⟩
    by_cases e : i = K
    · subst e
      have hc' : (rd_T59 out (i : Int)).f2 = false := hc
      exact ⟨fun h => by (rw [hc'] at h; cases h), fun _ => ha⟩
    · exact he i (by omega) hi'
  | some (c, L), ⟨c1, c2, j0, c3, c4, c5, c6, c7⟩, ha =>
    refine ⟨hl, fun i => if i = K then L else Ls i, fun i hi hi' => ?_⟩
    by_cases e : i = K
    · subst e
      refine ⟨fun _ => ⟨?_, fun _ => ⟨j0, c3, c4, c5, ?_, c7⟩, fun e => by omega⟩, fun h => by (rw [c1] at h; cases h)⟩
      · simp only [if_true]; rw [c2]; exact ha
      · simp only [if_true]; rw [if_neg (by omega)]; exact c6
    · have h := he i (by omega) hi'
      refine ⟨fun h1 => ?_, h.2⟩
      obtain ⟨g1, g2, g3⟩ := h.1 h1
      simp only [if_neg e]
      refine ⟨g1, fun hlt => ?_, g3⟩
      obtain ⟨j1, k1, k2, k3, k4, k5⟩ := g2 hlt
      exact ⟨j1, k1, k2, k3, by rw [if_neg (by omega)]; exact k4, k5⟩
/-- From entry K - 1 on all goes well. -/
def G0 (l : List S31) (w t : Int) (K : Nat) (out : List S59) : Prop := ∃ out', Ev (fun k => optimal_paragraph_best.l0 k (plL l) t out ((K : Int) - 1) l (rk_sumsL l) (rk_begsL l) w) (out', w) ∧ Done l w t out' 0
def G1 (l : List S31) (w t : Int) (K j : Nat) (out : List S59) : Prop := ∃ out', Ev (fun k => optimal_paragraph_best.l1 k (plL l) t out (K : Int) ((stI l K : Int) - 1) (j : Int) l (rk_sumsL l) (rk_begsL l) w) (out', w) ∧ Done l w t out' 0
def GF (l : List S31) (w t : Int) (K j : Nat) (out : List S59) : Prop := ∃ out', Ev (fun k => if fcB l (posI l j) = true then optimal_paragraph_best.l0 k (plL l) t out ((K : Int) - 1) l (rk_sumsL l) (rk_begsL l) w else optimal_paragraph_best.l1 k (plL l) t out (K : Int) ((stI l K : Int) - 1) ((j + 1 : Nat) : Int) l (rk_sumsL l) (rk_begsL l) w) (out', w) ∧ Done l w t out' 0
def Low (out : List S59) (K : Nat) : Prop := ∀ i, i < K → (rd_T59 out (i : Int)).f2 = false
theorem best_fin {l : List S31} {w t : Int} {K j : Nat} (hK : K < (plL l).length) (hj : K ≤ j) (hjm : j < (plL l).length)
    (next : ∀ out, Done l w t out K → Low out K → G0 l w t K out) (ih : ∀ out Ls o, Mid l w t out K (j + 1) Ls o → G1 l w t K (j + 1) out)
    (nf : ∀ i, stI l K ≤ i → i < posI l j → fcB l i = false) (Ls : Nat → List Int) (out1 : List S59) (o1 : Option (Int × List Int)) (hl1 : out1.length = (plL l).length + 1) (he1 : ∀ i, K < i → i ≤ (plL l).length → Ent l w t Ls out1 i)
    (hc1 : CurE l Ls out1 K o1) (lo1 : Low out1 K) (pb1 : PB l w t (l.length + 1) (stI l K) (posI l j + 1) o1) : GF l w t K j out1 := by
  obtain ⟨pe, p1, p2, p3, p4⟩ := posI_facts l hjm
  have kj := stI_mono l j hj (by omega)
  have skl : stI l K ≤ l.length := by have := (posI_facts l hK).2; omega
  unfold GF
  by_cases c : fcB l (posI l j) = true
  · simp only [if_pos c]
    have all := pb1.all skl (.inr ⟨posI l j, by omega, by omega, c⟩)
    exact next out1 (Mid.done hK hl1 he1 hc1 all) lo1
  · simp only [if_neg c]
    refine ih out1 Ls o1 ⟨hl1, he1, hc1, lo1, by rw [stI_succ]; exact pb1, fun i hi hi' => ?_⟩
    rw [stI_succ] at hi'
    by_cases e : i = posI l j
    · subst e; simpa using c
    · exact nf i hi (by omega)
theorem best_no {l : List S31} {w t : Int} {K j : Nat} (hK : (K : Int) ≤ 5000) (hj : (j : Int) ≤ 5000) {out : List S59} (h : GF l w t K j out) (r b : Int) :
    ∃ out', Ev (fun k => optimal_paragraph_best.j3 k (plL l) t out (K : Int) ((stI l K : Int) - 1) (j : Int) (posI l j : Int) false l (rk_sumsL l) (rk_begsL l) w r b) (out', w) ∧ Done l w t out' 0 := by
  obtain ⟨out', h1, h2⟩ := h
  refine ⟨out', Ev.step (fun k => ?_) h1, h2⟩
  simp only [optimal_paragraph_best.j3]
  rw [if_neg (by simp), oforced]
  simp only [Option.bind_some]
  rw [w64 (n := (K : Int) - 1) (by omega) (by omega), w64 (n := (j : Int) + 1) (by omega) (by omega), show (j : Int) + 1 = ((j + 1 : Nat) : Int) by omega]
theorem j4_true {l : List S31} {w t : Int} {K j P : Nat} {out : List S59} {D g : Int} {s1 : List S81} {s2 : List Int} (h0 : (0 : Int) ≤ (K : Int)) (h1 : (K : Int) < (out.length : Int)) (k : Nat) :
    optimal_paragraph_best.j4 (k + 1) (plL l) t out (K : Int) g (j : Int) (P : Int) D true l s1 s2 w =
     if fcB l P = true then optimal_paragraph_best.l0 k (plL l) t (out.set K ⟨(j : Int), D, true⟩) (wrap64 ((K : Int) - 1)) l s1 s2 w else optimal_paragraph_best.l1 k (plL l) t (out.set K ⟨(j : Int), D, true⟩) (K : Int) g (wrap64 ((j : Int) + 1)) l s1 s2 w := by
  rw [optimal_paragraph_best.j4, if_pos rfl, if_pos h0, if_pos h1, Option.bind_some, oforced, Option.bind_some]
  rfl
theorem best_put {l : List S31} {w t : Int} {K j : Nat} (hK : (K : Int) ≤ 5000) (hj : (j : Int) ≤ 5000) {out : List S59} {D : Int} (hKl : K < out.length) (h : GF l w t K j (out.set K ⟨(j : Int), D, true⟩)) :
    ∃ out', Ev (fun k => optimal_paragraph_best.j4 k (plL l) t out (K : Int) ((stI l K : Int) - 1) (j : Int) (posI l j : Int) D true l (rk_sumsL l) (rk_begsL l) w) (out', w) ∧ Done l w t out' 0 := by
  obtain ⟨out', h1, h2⟩ := h
  refine ⟨out', Ev.step (fun k => ?_) h1, h2⟩
  have e := j4_true (K := K) (out := out) (w := w) (l := l) (j := j) (D := D) (P := posI l j) (t := t) (g := (stI l K : Int) - 1) (s1 := rk_sumsL l) (s2 := rk_begsL l) (by omega) (by omega) k
  rw [w64 (n := (K : Int) - 1) (by omega) (by omega), w64 (n := (j : Int) + 1) (by omega) (by omega), show (j : Int) + 1 = ((j + 1 : Nat) : Int) by omega] at e
  exact e
theorem j4_false {l : List S31} {w t : Int} {K j P : Nat} {out : List S59} {D g : Int} {s1 : List S81} {s2 : List Int} (k : Nat) :
    optimal_paragraph_best.j4 (k + 1) (plL l) t out (K : Int) g (j : Int) (P : Int) D false l s1 s2 w =
     if fcB l P = true then optimal_paragraph_best.l0 k (plL l) t out (wrap64 ((K : Int) - 1)) l s1 s2 w else optimal_paragraph_best.l1 k (plL l) t out (K : Int) g (wrap64 ((j : Int) + 1)) l s1 s2 w := by
  rw [optimal_paragraph_best.j4, if_neg (by simp), oforced, Option.bind_some]
theorem best_keep {l : List S31} {w t : Int} {K j : Nat} (hK : (K : Int) ≤ 5000) (hj : (j : Int) ≤ 5000) {out : List S59} {D : Int} (h : GF l w t K j out) :
    ∃ out', Ev (fun k => optimal_paragraph_best.j4 k (plL l) t out (K : Int) ((stI l K : Int) - 1) (j : Int) (posI l j : Int) D false l (rk_sumsL l) (rk_begsL l) w) (out', w) ∧ Done l w t out' 0 := by
  obtain ⟨out', h1, h2⟩ := h
  refine ⟨out', Ev.step (fun k => ?_) h1, h2⟩
  have e := j4_false (K := K) (out := out) (w := w) (l := l) (j := j) (D := D) (P := posI l j) (t := t) (g := (stI l K : Int) - 1) (s1 := rk_sumsL l) (s2 := rk_begsL l) k
  rw [w64 (n := (K : Int) - 1) (by omega) (by omega), w64 (n := (j : Int) + 1) (by omega) (by omega), show (j : Int) + 1 = ((j + 1 : Nat) : Int) by omega] at e
  exact e
theorem j3_true {l : List S31} {w t K j P r b g dd J D : Int} {pl : List Int} {out : List S59} {s1 : List S81} {s2 : List Int} (hdem : optimal_paragraph_demerits.f l s1 s2 w g P b = some (dd, w)) (e1 : wrap64 (j + 1) = J)
    (hD : wrap64 (dd + (rd_T59 out J).f1) = D) (h0 : 0 ≤ J) (h1 : J < (out.length : Int)) (h2 : 0 ≤ K) (h3 : K < (out.length : Int)) (k : Nat) :
    optimal_paragraph_best.j3 (k + 1) pl t out K g j P true l s1 s2 w r b = if (rd_T59 out K).f2 = true then optimal_paragraph_best.j4 k pl t out K g j P D (decide (D < (rd_T59 out K).f1)) l s1 s2 w
      else optimal_paragraph_best.j4 k pl t out K g j P D true l s1 s2 w := by
  rw [optimal_paragraph_best.j3, if_pos rfl, hdem, Option.bind_some, e1, hD, if_pos h0, if_pos h1, if_pos h2, if_pos h3]
theorem best_step3 {l : List S31} {w t : Int} (F : Fine l w t) {K j : Nat} (hK : (K : Int) ≤ 5000) (hj : (j : Int) ≤ 5000) {out : List S59} (hKl : K < out.length) (hjl : j + 1 < out.length) {r b D : Int} (h0 : 0 ≤ b) (h1 : b ≤ 100000)
    (hD : wrap64 (demS l (stI l K) (posI l j) b + (rd_T59 out ((j + 1 : Nat) : Int)).f1) = D) (k : Nat) :
    optimal_paragraph_best.j3 (k + 1) (plL l) t out (K : Int) ((stI l K : Int) - 1) (j : Int) (posI l j : Int) true l (rk_sumsL l) (rk_begsL l) w r b =
      if (rd_T59 out (K : Int)).f2 = true then optimal_paragraph_best.j4 k (plL l) t out (K : Int) ((stI l K : Int) - 1) (j : Int) (posI l j : Int) D (decide (D < (rd_T59 out (K : Int)).f1)) l (rk_sumsL l) (rk_begsL l) w
      else optimal_paragraph_best.j4 k (plL l) t out (K : Int) ((stI l K : Int) - 1) (j : Int) (posI l j : Int) D true l (rk_sumsL l) (rk_begsL l) w := by
  have e1 : wrap64 ((j : Int) + 1) = ((j + 1 : Nat) : Int) := by rw [w64 (by omega) (by omega)]; omega
  exact j3_true (odem F (rk_sumsL l) (rk_begsL l) (stI l K) (posI l j) h0 h1) e1 hD (by omega) (by omega) (by omega) (by omega) k
theorem best_cand {l : List S31} {w t : Int} (F : Fine l w t) {K j : Nat} (hK : K < (plL l).length) (hj : K ≤ j) (hjm : j < (plL l).length)
    (next : ∀ out, Done l w t out K → Low out K → G0 l w t K out) (ih : ∀ out Ls o, Mid l w t out K (j + 1) Ls o → G1 l w t K (j + 1) out)
    (nf : ∀ i, stI l K ≤ i → i < posI l j → fcB l i = false) {Ls : Nat → List Int} {out : List S59} {o : Option (Int × List Int)} (len : out.length = (plL l).length + 1) (ent : ∀ i, K < i → i ≤ (plL l).length → Ent l w t Ls out i)
    (cur : CurE l Ls out K o) (lo : Low out K) (pb : PB l w t (l.length + 1) (stI l K) (posI l j) o)
    (c1 : (fitS l (stI l K) (posI l j) w).2.2 = true) (c2 : (fitS l (stI l K) (posI l j) w).1 ≤ t) (c3 : (rd_T59 out ((j + 1 : Nat) : Int)).f2 = true) (r : Int) :
    ∃ out', Ev (fun k => optimal_paragraph_best.j3 k (plL l) t out (K : Int) ((stI l K : Int) - 1) (j : Int) (posI l j : Int) true l (rk_sumsL l) (rk_begsL l) w r (fitS l (stI l K) (posI l j) w).2.1) (out', w) ∧ Done l w t out' 0 := by
  have n := F.len
  have pn := plL_len l
  obtain ⟨pe, p1, p2, p3, p4⟩ := posI_facts l hjm
  have kj := stI_mono l j hj (by omega)
  have gap : gapB l (stI l K) (posI l j) = true := (gapB_iff l _ _).2 ⟨by omega, p2, p3, nf⟩
  have hstp : stp l w t (stI l K) (posI l j) = some (demS l (stI l K) (posI l j) (fitS l (stI l K) (posI l j) w).2.1) := by
    unfold stp; rw [if_pos ⟨gap, c1, c2⟩]
  have lb := lineS_bd F (stI l K) (tt := posI l j) p2
  have bb : 0 ≤ (fitS l (stI l K) (posI l j) w).2.1 ∧ (fitS l (stI l K) (posI l j) w).2.1 ≤ 100000 := fitV_bd lb.1.1 lb.2.1.1 lb.2.2.1 c1
  clear lb
  obtain ⟨B, _, _⟩ := (ent (j + 1) (by omega) (by omega)).1 c3
  rw [stI_succ] at B
  have db := stp_bd F hstp
  have cb := cost_bd F _ _ _ B.1
  have wd : wrap64 (demS l (stI l K) (posI l j) (fitS l (stI l K) (posI l j) w).2.1 + (rd_T59 out ((j + 1 : Nat) : Int)).f1) = demS l (stI l K) (posI l j) (fitS l (stI l K) (posI l j) w).2.1 + (rd_T59 out ((j + 1 : Nat) : Int)).f1 := w64 (by omega) (by omega)
  have WD := Aside0.mk wd
  clear wd db cb
  have hKl : K < out.length := by omega
  have step3 := fun k => best_step3 F (K := K) (j := j) (by omega) (by omega) hKl (by omega) (r := r) (w := w) (t := t) bb.1 bb.2 WD.out k
  generalize hD : demS l (stI l K) (posI l j) (fitS l (stI l K) (posI l j) w).2.1 + (rd_T59 out ((j + 1 : Nat) : Int)).f1 = D at step3
  have put : (∀ c0 L0, o = some (c0, L0) → D < c0) → GF l w t K j (out.set K ⟨(j : Int), D, true⟩) := by
    intro hb
    have pb1 := PB.new pb hstp B (by rw [hD]; exact hb)
    rw [hD] at pb1
    refine best_fin hK hj hjm next ih nf Ls _ _ (by simpa using len) (fun i hi hi' => ?_) ?_ (fun i hi => ?_) pb1
    · have := ent i hi hi'
      unfold Ent at this ⊢
      rw [rdS hKl, if_neg (by omega)]
      refine ⟨fun h => ?_, this.2⟩
      obtain ⟨g1, g2, g3⟩ := this.1 h
      refine ⟨g1, fun hlt => ?_, g3⟩
      obtain ⟨j0, k1, k2, k3, k4, k5⟩ := g2 hlt
      exact ⟨j0, k1, k2, k3, k4, by rw [rdS hKl, if_neg (by omega)]; exact k5⟩
    · unfold CurE
      rw [rdS hKl, if_pos rfl]
      exact ⟨rfl, rfl, j, rfl, hj, hjm, rfl, by rw [rdS hKl, if_neg (by omega)]; exact c3⟩
    · rw [rdS hKl, if_neg (by omega)]; exact lo i hi
  match o, cur, pb, put with
  | none, hc, pb, put =>
    obtain ⟨out', h1, h2⟩ := best_put (by omega) (by omega) hKl (put (fun _ _ h => by cases h))
    have hc' : (rd_T59 out (K : Int)).f2 = false := hc
    refine ⟨out', Ev.step (fun k => ?_) h1, h2⟩
    rw [step3, hc', if_neg (by simp)]
  | some (c0, L0), hc, pb, put =>
    obtain ⟨hc1, hc2, _⟩ := id hc
    by_cases c4 : D < c0
    · obtain ⟨out', h1, h2⟩ := best_put (by omega) (by omega) hKl (put (fun _ _ h => by cases h; exact c4))
      refine ⟨out', Ev.step (fun k => ?_) h1, h2⟩
      rw [step3, hc1, if_pos rfl, hc2, decide_eq_true c4]
    · have pb1 := PB.keep pb hstp B (by omega)
      obtain ⟨out', h1, h2⟩ := best_keep (D := D) (by omega) (by omega) (best_fin hK hj hjm next ih nf Ls out _ len ent hc lo pb1)
      refine ⟨out', Ev.step (fun k => ?_) h1, h2⟩
      rw [step3, hc1, if_pos rfl, hc2, decide_eq_false c4]
theorem best_round {l : List S31} {w t : Int} (F : Fine l w t) {K j : Nat} (hK : K < (plL l).length) (hj : K ≤ j) (hjm : j < (plL l).length)
    (next : ∀ out, Done l w t out K → Low out K → G0 l w t K out) (ih : ∀ out Ls o, Mid l w t out K (j + 1) Ls o → G1 l w t K (j + 1) out)
    {Ls : Nat → List Int} {out : List S59} {o : Option (Int × List Int)} (M : Mid l w t out K j Ls o) : G1 l w t K j out := by
  have n := F.len
  have pn := plL_len l
  have skl : stI l K ≤ l.length := by have := (posI_facts l hK).2; omega
  obtain ⟨pe, p1, p2, p3, p4⟩ := posI_facts l hjm
  have kj := stI_mono l j hj (by omega)
  have len := M.len
  have pb : PB l w t (l.length + 1) (stI l K) (posI l j) o := M.pb.skip p1 (fun x r hx hx' => none_place (by
    cases hs : stp l w t (stI l K) x with
    | none => rfl
    | some d => have := ((gapB_iff l _ x).1 (stp_some hs).1).2.2.1; rw [p4 x hx hx'] at this; cases this) r)
  have nf : ∀ i, stI l K ≤ i → i < posI l j → fcB l i = false := fun i hi hi' => by
    by_cases c : i < stI l j
    · exact M.nf i hi c
    · cases hs : fcB l i with
      | false => rfl
      | true => have := fc_pl hs; rw [p4 i (by omega) hi'] at this; cases this
  have no : (stp l w t (stI l K) (posI l j) = none ∨ Non l w t (l.length + 1) (posI l j + 1)) → ∀ (r b : Int), ∃ out', Ev (fun k => optimal_paragraph_best.j3 k (plL l) t out (K : Int) ((stI l K : Int) - 1) (j : Int) (posI l j : Int) false l (rk_sumsL l) (rk_begsL l) w r b) (out', w) ∧ Done l w t out' 0 := by
    intro hn r b
    refine best_no (by omega) (by omega) (best_fin hK hj hjm next ih nf Ls out o M.len M.ent M.cur M.low (pb.skip (by omega) (fun x r hx hx' => ?_))) r b
    obtain rfl : x = posI l j := by omega
    rcases hn with hn | hn
    · exact none_place hn r
    · exact none_rest hn r
  have hfit := ofit F (a := stI l K) (tt := posI l j) skl p2
  have q1 : (0 : Int) ≤ ((j + 1 : Nat) : Int) := by omega
  have q2 : ((j + 1 : Nat) : Int) < (out.length : Int) := by omega
  have q3 : (0 : Int) ≤ (j : Int) := by omega
  have q4 : (j : Int) < ((plL l).length : Int) := by omega
  suffices H : ∃ out', Ev (fun k => if (fitS l (stI l K) (posI l j) w).2.2 = true then (if (fitS l (stI l K) (posI l j) w).1 ≤ t then optimal_paragraph_best.j3 k (plL l) t out (K : Int) ((stI l K : Int) - 1) (j : Int) (posI l j : Int) ((rd_T59 out ((j + 1 : Nat) : Int)).f2) l (rk_sumsL l) (rk_begsL l) w (fitS l (stI l K) (posI l j) w).1 (fitS l (stI l K) (posI l j) w).2.1
      else optimal_paragraph_best.j3 k (plL l) t out (K : Int) ((stI l K : Int) - 1) (j : Int) (posI l j : Int) false l (rk_sumsL l) (rk_begsL l) w (fitS l (stI l K) (posI l j) w).1 (fitS l (stI l K) (posI l j) w).2.1) else optimal_paragraph_best.j3 k (plL l) t out (K : Int) ((stI l K : Int) - 1) (j : Int) (posI l j : Int) false l (rk_sumsL l) (rk_begsL l) w (fitS l (stI l K) (posI l j) w).1 (fitS l (stI l K) (posI l j) w).2.1) (out', w) ∧ Done l w t out' 0 by
    obtain ⟨out', h1, h2⟩ := H
    refine ⟨out', ?_, h2⟩
    have := Ev.bind (f := fun k bt => if bt.2.2.1 = true then (if bt.1 ≤ t then optimal_paragraph_best.j3 k (plL l) t out (K : Int) ((stI l K : Int) - 1) (j : Int) (posI l j : Int) ((rd_T59 out ((j + 1 : Nat) : Int)).f2) l (rk_sumsL l) (rk_begsL l) bt.2.2.2 bt.1 bt.2.1
      else optimal_paragraph_best.j3 k (plL l) t out (K : Int) ((stI l K : Int) - 1) (j : Int) (posI l j : Int) false l (rk_sumsL l) (rk_begsL l) bt.2.2.2 bt.1 bt.2.1) else optimal_paragraph_best.j3 k (plL l) t out (K : Int) ((stI l K : Int) - 1) (j : Int) (posI l j : Int) false l (rk_sumsL l) (rk_begsL l) bt.2.2.2 bt.1 bt.2.1) hfit h1
    refine Ev.step (fun k => ?_) this
    simp only [optimal_paragraph_best.l1]
    rw [w64 (n := (j : Int) + 1) (by omega) (by omega), show (j : Int) + 1 = ((j + 1 : Nat) : Int) by omega, pe]
    simp only [q1, q2, q3, q4, if_true]
  by_cases c1 : (fitS l (stI l K) (posI l j) w).2.2 = true
  · simp only [if_pos c1]
    by_cases c2 : (fitS l (stI l K) (posI l j) w).1 ≤ t
    · simp only [if_pos c2]
      by_cases c3 : (rd_T59 out ((j + 1 : Nat) : Int)).f2 = true
      · rw [c3]
        exact best_cand F hK hj hjm next ih nf M.len M.ent M.cur M.low pb c1 c2 c3 _
      · have c3' : (rd_T59 out ((j + 1 : Nat) : Int)).f2 = false := by simpa using c3
        rw [c3']
        have := (M.ent (j + 1) (by omega) (by omega)).2 c3'
        rw [stI_succ] at this
        exact no (.inr this) _ _
    · simp only [if_neg c2]
      exact no (.inl (by unfold stp; rw [if_neg (fun z => c2 z.2.2)])) _ _
  · simp only [if_neg c1]
    exact no (.inl (by unfold stp; rw [if_neg (fun z => c1 z.2.1)])) _ _
theorem best_l1 {l : List S31} {w t : Int} (F : Fine l w t) {K : Nat} (hK : K < (plL l).length) (next : ∀ out, Done l w t out K → Low out K → G0 l w t K out) :
    ∀ (d : Nat) (j : Nat) (out : List S59) (Ls : Nat → List Int) (o : Option (Int × List Int)), (plL l).length - j = d → K ≤ j → j ≤ (plL l).length → Mid l w t out K j Ls o → G1 l w t K j out := by
  have n := F.len
  have pn := plL_len l
  have skl : stI l K ≤ l.length := by have := (posI_facts l hK).2; omega
  intro d
  induction d with
  | zero =>
    intro j out Ls o e hj hj' M
    obtain rfl : j = (plL l).length := by omega
    have pb := M.pb
    rw [stI_end] at pb
    have all := pb.all skl (.inl (by omega))
    obtain ⟨out', h1, h2⟩ := next out (Mid.done hK M.len M.ent M.cur all) M.low
    refine ⟨out', Ev.step (fun k => ?_) h1, h2⟩
    simp only [optimal_paragraph_best.l1]
    rw [if_neg (by omega), w64 (n := (K : Int) - 1) (by omega) (by omega)]
  | succ d ih =>
    intro j out Ls o e hj hj' M
    exact best_round F hK hj (by omega) next (fun out Ls o M => ih (j + 1) out Ls o (by omega) (by omega) (by omega) M) M
theorem best_l0 {l : List S31} {w t : Int} (F : Fine l w t) : ∀ (K : Nat) (out : List S59), K ≤ (plL l).length → Done l w t out K → Low out K → G0 l w t K out
  | 0, out, _, D, _ => ⟨out, Ev.intro 1 fun k => by
      simp only [optimal_paragraph_best.l0]
      rw [if_neg (by omega)], D⟩
  | K + 1, out, hK, D, lo => by
    have n := F.len
    have pn := plL_len l
    obtain ⟨len, Ls, ent⟩ := D
    obtain ⟨out', h1, h2⟩ := best_l1 F (K := K) (by omega) (fun out D lo => best_l0 F K out (by omega) D lo) _ K out Ls none rfl (by omega) (by omega)
      ⟨len, fun i hi hi' => ent i (by omega) hi', lo K (by omega), fun i hi => lo i (by omega), PB.begin l w t _ _, fun i hi hi' => by omega⟩
    refine ⟨out', ?_, h2⟩
    refine Ev.step (f := fun k => optimal_paragraph_best.j1 k (plL l) t out (K : Int) ((stI l K : Int) - 1) l (rk_sumsL l) (rk_begsL l) w) (fun k => ?_) (Ev.step (fun k => ?_) h1)
    · simp only [optimal_paragraph_best.l0]
      rw [show ((K + 1 : Nat) : Int) - 1 = (K : Int) by omega, if_pos (by omega)]
      by_cases c : K = 0
      · subst c; rw [if_neg (by omega)]; rfl
      · have e := (posI_facts l (i := K - 1) (by omega)).1
        rw [if_pos (by omega), w64 (n := (K : Int) - 1) (by omega) (by omega), if_pos (by omega), if_pos (by omega), show (K : Int) - 1 = ((K - 1 : Nat) : Int) by omega, e]
        unfold stI; rw [if_neg c]; congr 1; omega
    · simp only [optimal_paragraph_best.j1]
theorem best_f {l : List S31} {w t : Int} (F : Fine l w t) : ∃ out, Ev (fun k => optimal_paragraph_best.f k l (rk_sumsL l) (rk_begsL l) w (plL l) t) (out, w) ∧ Done l w t out 0 := by
  have n := F.len
  have pn := plL_len l
  have hm : ((plL l).length + 1 : Nat) = (((plL l).length : Int) + 1).toNat := by omega
  have L : (List.replicate ((plL l).length + 1) z59).length = (plL l).length + 1 := by simp
  have R : ∀ i : Nat, rd_T59 (List.replicate ((plL l).length + 1) z59) (i : Int) = z59 := fun i => by
    unfold rd_T59; rw [List.getD_eq_getElem?_getD, List.getElem?_replicate]; split <;> rfl
  obtain ⟨out, h1, h2⟩ := best_l0 F (plL l).length ((List.replicate ((plL l).length + 1) z59).set (plL l).length ⟨0, 0, true⟩) (by omega)
    ⟨by simp, fun _ => [], fun i hi hi' => by
      obtain rfl : i = (plL l).length := by omega
      unfold Ent
      rw [rdS (by rw [L]; omega), if_pos rfl]
      refine ⟨fun _ => ⟨⟨by simp [cost, stI_end], fun L' c' hc => ?_⟩, fun h => by omega, fun _ => rfl⟩, fun h => by cases h⟩
      cases L' with
      | nil =>
        simp only [cost, stI_end, if_true] at hc
        obtain rfl := Option.some.inj hc
        exact NW.refl _ _
      | cons x r => have := (cost_le _ _ _ hc).2 (by simp); rw [stI_end] at this; omega⟩
    (fun i hi => by rw [rdS (by rw [L]; omega), if_neg (by omega), R]; rfl)
  refine ⟨out, ?_, h2⟩
  unfold optimal_paragraph_best.f
  rw [w64 (n := ((plL l).length : Int) + 1) (by omega) (by omega), ← hm]
  have q0 : (0 : Int) ≤ ((plL l).length : Int) + 1 := by omega
  have q1 : (plL l).length + 1 ≤ 11728124029610 := by omega
  have q2 : (0 : Int) ≤ ((plL l).length : Int) := by omega
  have q3 : ((plL l).length : Int) < ((List.replicate ((plL l).length + 1) z59).length : Int) := by rw [L]; omega
  simp only [Option.bind_some, q0, q1, q2, q3, if_true]
  rw [w64 (n := ((plL l).length : Int) - 1) (by omega) (by omega)]
  rw [R, show (((plL l).length : Int)).toNat = (plL l).length by omega]
  exact h1
end Go.Proofs.Ytfbanppdiglciaa.Y

/- The emergency, and the program's answer as a whole. -/
set_option linter.unusedVariables false
set_option linter.unusedSimpArgs false
namespace Go.Proofs.Ytfbanppdiglciaa.Y
open Go Go.RowKit Go.Proofs.YtfbanppdiglciaaW.PrintWords Go.Proofs.YtfbanppdiglciaaW.PrintLast Go.Proofs.YtfbanppdiglciaaW.PrintMore

/-- The emergency's choice among the places from the j-th on, for a line from behind place a - 1; ch: the choice so far. -/
def emC (l : List S31) (w : Int) (a : Nat) : Nat → Nat → Nat → Nat
  | 0, _, ch => ch
  | d + 1, j, ch =>
    let ch' := if (lineS l a (posI l j)).1 - (lineS l a (posI l j)).2.2 ≤ w then j else ch
    if fcB l (posI l j) = true then ch' else emC l w a d (j + 1) ch'
/-- The emergency's breaks from the i-th place on. -/
def emL (l : List S31) (w : Int) : Nat → Nat → List Int
  | 0, _ => []
  | d + 1, i => if i < (plL l).length then (posI l (emC l w (stI l i) ((plL l).length - i) i i) : Int) :: emL l w d (emC l w (stI l i) ((plL l).length - i) i i + 1) else []
theorem pos_nf (l : List S31) {j : Nat} (h : j < (plL l).length) {x : Nat} (h1 : stI l j ≤ x) (h2 : x < posI l j) : fcB l x = false := by
  cases hs : fcB l x with
  | false => rfl
  | true => have := fc_pl hs; rw [(posI_facts l h).2.2.2.2 x h1 h2] at this; cases this
theorem emC_props {l : List S31} {w : Int} {i : Nat} : ∀ (d j ch : Nat), (plL l).length - j = d → i ≤ ch → (ch < j ∨ (ch = j ∧ j = i)) → j ≤ (plL l).length → i < (plL l).length → ch < (plL l).length → (∀ x, stI l i ≤ x → x < stI l j → fcB l x = false) →
    i ≤ emC l w (stI l i) d j ch ∧ emC l w (stI l i) d j ch < (plL l).length ∧ ∀ x, stI l i ≤ x → x < posI l (emC l w (stI l i) d j ch) → fcB l x = false
  | 0, j, ch, e, h1, h2, h3, h4, h5, nf => by
    refine ⟨h1, h5, fun x hx hx' => ?_⟩
    simp only [emC] at hx'
    rcases h2 with h2 | ⟨h2, h2'⟩
    · have := stI_mono l (i := ch + 1) j (by omega) h3
      rw [stI_succ] at this
      exact nf x hx (by omega)
    · subst h2; subst h2'; exact pos_nf l h5 hx hx'
  | d + 1, j, ch, e, h1, h2, h3, h4, h5, nf => by
    have hj : j < (plL l).length := by omega
    have hij : i ≤ j := by omega
    have nf' : ∀ x, stI l i ≤ x → x < posI l j → fcB l x = false := fun x hx hx' => by
      by_cases c : x < stI l j
      · exact nf x hx c
      · exact pos_nf l hj (by omega) hx'
    have low : ∀ x, stI l i ≤ x → x < posI l ch → fcB l x = false := fun x hx hx' => by
      rcases h2 with h2 | ⟨h2, h2'⟩
      · have := stI_mono l (i := ch + 1) j (by omega) h3
        rw [stI_succ] at this
        exact nf x hx (by omega)
      · subst h2; exact nf' x hx hx'
    simp only [emC]
    by_cases cf : fcB l (posI l j) = true
    · rw [if_pos cf]
      split
      · exact ⟨hij, hj, nf'⟩
      · exact ⟨h1, h5, low⟩
    · rw [if_neg cf]
      have nf'' : ∀ x, stI l i ≤ x → x < stI l (j + 1) → fcB l x = false := fun x hx hx' => by
        rw [stI_succ] at hx'
        by_cases e : x = posI l j
        · subst e; simpa using cf
        · exact nf' x hx (by omega)
      split
      · exact emC_props d (j + 1) j (by omega) hij (.inl (by omega)) (by omega) h4 hj nf''
      · exact emC_props d (j + 1) ch (by omega) h1 (.inl (by omega)) (by omega) h4 h5 nf''
theorem emC_at {l : List S31} {w : Int} {i : Nat} (h : i < (plL l).length) : i ≤ emC l w (stI l i) ((plL l).length - i) i i ∧ emC l w (stI l i) ((plL l).length - i) i i < (plL l).length ∧ ∀ x, stI l i ≤ x → x < posI l (emC l w (stI l i) ((plL l).length - i) i i) → fcB l x = false :=
  emC_props _ i i rfl (by omega) (.inr ⟨rfl, rfl⟩) (by omega) h h (fun x hx hx' => by omega)
theorem emL_cov {l : List S31} {w : Int} : ∀ (d i : Nat), (plL l).length - i ≤ d → i ≤ (plL l).length → covB l (stI l i) (emL l w d i) = true
  | 0, i, h, h' => by
    obtain rfl : i = (plL l).length := by omega
    simp [emL, covB, stI_end]
  | d + 1, i, h, h' => by
    by_cases c : i < (plL l).length
    · obtain ⟨e1, e2, e3⟩ := emC_at (w := w) c
      have pf := posI_facts l e2
      have mono := stI_mono l (i := i) _ e1 (by omega)
      have pf1 := pf.2.1
      have ih := emL_cov (l := l) (w := w) d (emC l w (stI l i) ((plL l).length - i) i i + 1) (by omega) (by omega)
      rw [stI_succ] at ih
      have gp : gapB l (stI l i) (posI l (emC l w (stI l i) ((plL l).length - i) i i)) = true := (gapB_iff l _ _).2 ⟨by omega, pf.2.2.1, pf.2.2.2.1, e3⟩
      simp only [emL, if_pos c, covB]
      rw [show ((posI l (emC l w (stI l i) ((plL l).length - i) i i) : Nat) : Int).toNat = posI l (emC l w (stI l i) ((plL l).length - i) i i) by omega, ih, gp]
      simp
    · obtain rfl : i = (plL l).length := by omega
      simp [emL, covB, stI_end]
theorem emL_len {l : List S31} {w : Int} : ∀ (d i : Nat), (emL l w d i).length ≤ d
  | 0, _ => by simp [emL]
  | d + 1, i => by
    simp only [emL]
    split
    · have := emL_len (l := l) (w := w) d (emC l w (stI l i) ((plL l).length - i) i i + 1); simp only [List.length_cons]; omega
    · simp
/-- The program's emergency. -/
theorem em_l1 {l : List S31} {w t : Int} (F : Fine l w t) {i : Nat} (hi : i < (plL l).length) {acc : List Int} (ha : acc.length ≤ 5000) {X : List Int × Int} :
    ∀ (d j ch : Nat), (plL l).length - j = d → i ≤ j → j ≤ (plL l).length → ch < (plL l).length →
    Ev (fun k => optimal_paragraph_emergency.l0 k (plL l) (acc ++ [(posI l (emC l w (stI l i) d j ch) : Int)]) (posI l (emC l w (stI l i) d j ch) : Int) ((emC l w (stI l i) d j ch + 1 : Nat) : Int) l (rk_sumsL l) (rk_begsL l) w) X →
    Ev (fun k => optimal_paragraph_emergency.l1 k (plL l) acc ((stI l i : Int) - 1) (ch : Int) (j : Int) l (rk_sumsL l) (rk_begsL l) w) X := by
  have n := F.len
  have pn := plL_len l
  have skl : stI l i ≤ l.length := by have := (posI_facts l hi).2; omega
  intro d
  induction d with
  | zero =>
    intro j ch e hj hj' hch h
    refine Ev.step (fun k => ?_) h
    have pc := (posI_facts l hch).1
    simp only [optimal_paragraph_emergency.l1, emC]
    rw [if_neg (by omega), if_pos (by omega), if_pos (by omega), if_pos (by omega), pc, w64 (n := (ch : Int) + 1) (by omega) (by omega), show (ch : Int) + 1 = ((ch + 1 : Nat) : Int) by omega]
  | succ d ih =>
    intro j ch e hj hj' hch h
    have hjm : j < (plL l).length := by omega
    have pj := posI_facts l hjm
    have pc := (posI_facts l hch).1
    have lb := lineS_bd F (stI l i) (tt := posI l j) pj.2.2.1
    simp only [emC] at h
    refine Ev.step (f := fun k => if (lineS l (stI l i) (posI l j)).1 - (lineS l (stI l i) (posI l j)).2.2 ≤ w then (if fcB l (posI l j) = true then optimal_paragraph_emergency.l0 k (plL l) (acc ++ [(posI l j : Int)]) (posI l j : Int) ((j + 1 : Nat) : Int) l (rk_sumsL l) (rk_begsL l) w else optimal_paragraph_emergency.l1 k (plL l) acc ((stI l i : Int) - 1) (j : Int) ((j + 1 : Nat) : Int) l (rk_sumsL l) (rk_begsL l) w)
      else (if fcB l (posI l j) = true then optimal_paragraph_emergency.l0 k (plL l) (acc ++ [(posI l ch : Int)]) (posI l ch : Int) ((ch + 1 : Nat) : Int) l (rk_sumsL l) (rk_begsL l) w else optimal_paragraph_emergency.l1 k (plL l) acc ((stI l i : Int) - 1) (ch : Int) ((j + 1 : Nat) : Int) l (rk_sumsL l) (rk_begsL l) w)) (fun k => ?_) ?_
    · have e1 : wrap64 ((j : Int) + 1) = ((j + 1 : Nat) : Int) := by rw [w64 (by omega) (by omega)]; omega
      have e2 : wrap64 ((ch : Int) + 1) = ((ch + 1 : Nat) : Int) := by rw [w64 (by omega) (by omega)]; omega
      have e3 : wrap64 ((lineS l (stI l i) (posI l j)).1 - (lineS l (stI l i) (posI l j)).2.2) = (lineS l (stI l i) (posI l j)).1 - (lineS l (stI l i) (posI l j)).2.2 := w64 (by omega) (by omega)
      have E1 := Aside0.mk e1
      have E2 := Aside0.mk e2
      have E3 := Aside0.mk e3
      clear e1 e2 e3
      have q0 : acc.length < 17592186044416 := by omega
      have q1 : (0 : Int) ≤ (ch : Int) := by omega
      have q2 : (ch : Int) < ((plL l).length : Int) := by omega
      rw [optimal_paragraph_emergency.l1, if_pos (by omega), if_pos (by omega), pj.1, oline F skl pj.2.2.1, Option.bind_some, E3.out, E1.out, E2.out, pc, oforced, Option.bind_some, Option.bind_some]
      simp only [q0, q1, q2, if_true]
    · by_cases c : (lineS l (stI l i) (posI l j)).1 - (lineS l (stI l i) (posI l j)).2.2 ≤ w
      · simp only [if_pos c] at h ⊢
        by_cases cf : fcB l (posI l j) = true
        · simp only [if_pos cf] at h ⊢; exact h
        · simp only [if_neg cf] at h ⊢
          exact ih (j + 1) j (by omega) (by omega) (by omega) hjm h
      · simp only [if_neg c] at h ⊢
        by_cases cf : fcB l (posI l j) = true
        · simp only [if_pos cf] at h ⊢; exact h
        · simp only [if_neg cf] at h ⊢
          exact ih (j + 1) ch (by omega) (by omega) (by omega) hch h
theorem em_l0 {l : List S31} {w t : Int} (F : Fine l w t) : ∀ (d i : Nat) (acc : List Int), (plL l).length - i ≤ d → i ≤ (plL l).length → acc.length ≤ i →
    Ev (fun k => optimal_paragraph_emergency.l0 k (plL l) acc ((stI l i : Int) - 1) (i : Int) l (rk_sumsL l) (rk_begsL l) w) (acc ++ emL l w d i, w)
  | d, i, acc, h, h', ha => by
    have n := F.len
    have pn := plL_len l
    by_cases c : i < (plL l).length
    · cases d with
      | zero => omega
      | succ d =>
        obtain ⟨e1, e2, e3⟩ := emC_at (w := w) c
        have ih := em_l0 F d (emC l w (stI l i) ((plL l).length - i) i i + 1) (acc ++ [(posI l (emC l w (stI l i) ((plL l).length - i) i i) : Int)]) (by omega) (by omega) (by simp; omega)
        rw [stI_succ, show ((posI l (emC l w (stI l i) ((plL l).length - i) i i) + 1 : Nat) : Int) - 1 = (posI l (emC l w (stI l i) ((plL l).length - i) i i) : Int) by omega] at ih
        have := em_l1 F c (acc := acc) (by omega) _ i i rfl (by omega) (by omega) c ih
        refine Ev.step (fun k => ?_) (by simpa [emL, if_pos c] using this)
        rw [optimal_paragraph_emergency.l0, if_pos (by omega)]
    · have e : emL l w d i = [] := by cases d <;> simp [emL, c]
      rw [e, List.append_nil]
      refine Ev.intro 1 fun k => ?_
      rw [optimal_paragraph_emergency.l0, if_neg (by omega)]
theorem em_f {l : List S31} {w t : Int} (F : Fine l w t) : Ev (fun k => optimal_paragraph_emergency.f k l (rk_sumsL l) (rk_begsL l) w (plL l)) (emL l w (plL l).length 0, w) := by
  have := em_l0 F (plL l).length 0 [] (by omega) (by omega) (by simp)
  simpa [optimal_paragraph_emergency.f, stI_zero] using this
/-- The breaks are told one after the other. -/
theorem told_l0 {l : List S31} {w t : Int} (F : Fine l w t) {out : List S59} {Ls : Nat → List Int} (hl : out.length = (plL l).length + 1) (he : ∀ i, i ≤ (plL l).length → Ent l w t Ls out i) (c : Int) :
    ∀ (d i : Nat) (acc : List Int), (plL l).length - i ≤ d → i ≤ (plL l).length → acc.length ≤ i → (rd_T59 out (i : Int)).f2 = true → Ev (fun k => optimal_Best.l0 k (plL l) out (i : Int) acc c false) (acc ++ Ls i, c, false, 0)
  | d, i, acc, h, h', ha, hg => by
    have n := F.len
    have pn := plL_len l
    obtain ⟨_, g1, g2⟩ := (he i h').1 hg
    by_cases hi : i < (plL l).length
    · cases d with
      | zero => omega
      | succ d =>
        obtain ⟨j, k1, k2, k3, k4, k5⟩ := g1 hi
        have ih := told_l0 F hl he c d (j + 1) (acc ++ [(posI l j : Int)]) (by omega) (by omega) (by simp; omega) k5
        rw [k4]
        refine Ev.step (fun k => ?_) (by simpa using ih)
        rw [optimal_Best.l0, if_pos (by omega), if_pos (by omega), if_pos (by omega), k1, if_pos (by omega), if_pos (by omega), if_pos (by omega), (posI_facts l k3).1, w64 (n := (j : Int) + 1) (by omega) (by omega), show (j : Int) + 1 = ((j + 1 : Nat) : Int) by omega]
    · rw [g2 (by omega), List.append_nil]
      refine Ev.intro 1 fun k => ?_
      rw [optimal_Best.l0, if_neg (by omega)]
theorem obest_bad {l : List S31} {w t : Int} (h : chkL l w t ≠ 0) : Ev (fun k => optimal_Best.f k l w t) ([], 0, false, chkL l w t) := by
  unfold optimal_Best.f
  refine Ev.bind (ocheck l w t) ?_
  simp only [if_neg h]
  exact Ev.now _
/-- THE PROGRAM'S ANSWER: the best breaks, or, where there are no good ones, the emergency's. -/
theorem obest {l : List S31} {w t : Int} (h : chkL l w t = 0) : (∃ c L, Bst l w t (l.length + 1) 0 c L ∧ Ev (fun k => optimal_Best.f k l w t) (L, c, false, 0)) ∨ (Non l w t (l.length + 1) 0 ∧ Ev (fun k => optimal_Best.f k l w t) (emL l w (plL l).length 0, 0, true, 0)) := by
  have F := Fine.of h
  have n := F.len
  obtain ⟨out, h1, hl, Ls, he⟩ := best_f F
  have e0 := he 0 (by omega) (by omega)
  have hr : optimal_reckoned.f l w = some (l, rk_sumsL l, rk_begsL l, w) := by unfold optimal_reckoned.f; rw [if_pos (by omega)]
  have q : (0 : Int) < (out.length : Int) := by omega
  by_cases c : (rd_T59 out 0).f2 = true
  · left
    have c' : (rd_T59 out ((0 : Nat) : Int)).f2 = true := c
    obtain ⟨B, _, _⟩ := e0.1 c'
    refine ⟨_, _, B, ?_⟩
    unfold optimal_Best.f
    refine Ev.bind (ocheck l w t) ?_
    simp only [h, if_true, hr, Option.bind_some]
    refine Ev.bind (places l F.len) (Ev.bind h1 ?_)
    simp only [q, c, if_true]
    simpa using told_l0 F hl (fun i hi => he i (by omega) hi) (rd_T59 out 0).f1 (plL l).length 0 [] (by omega) (by omega) (by simp) c'
  · right
    have c' : (rd_T59 out ((0 : Nat) : Int)).f2 = false := by simpa using c
    refine ⟨e0.2 c', ?_⟩
    unfold optimal_Best.f
    refine Ev.bind (ocheck l w t) ?_
    simp only [h, if_true, hr, Option.bind_some]
    refine Ev.bind (places l F.len) (Ev.bind h1 ?_)
    simp only [q, c, if_true, if_false]
    exact Ev.bind (em_f F) (Ev.now _)
end Go.Proofs.Ytfbanppdiglciaa.Y
