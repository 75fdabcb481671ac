/- A line: its length, stretch and shrink; how it fits; its demerits: the program's and the reference's functions, as one plain function each. -/
import Derived.Test.YtfbanppdiglciaaYx0
import Derived.Test.YtfbanppdiglciaaYx20
import Derived.Test.YtfbanppdiglciaaYx30
import Derived.Test.YtfbanppdiglciaaYx39
import Derived.Test.YtfbanppdiglciaaOptAY
set_option linter.unusedVariables false
set_option linter.unusedSimpArgs false
namespace Go.Proofs.Ytfbanppdiglciaa.Y
open Go Go.RowKit Go.Proofs.YtfbanppdiglciaaW.PrintWords Go.Proofs.YtfbanppdiglciaaW.PrintLast Go.Proofs.YtfbanppdiglciaaW.PrintMore

def sW (l : List S31) : Nat → Int
  | 0 => 0
  | j + 1 => sW l j + (if (itm l j).f0 = 3 then 0 else (itm l j).f1)
def sS (l : List S31) : Nat → Int
  | 0 => 0
  | j + 1 => sS l j + (if (itm l j).f0 = 2 then (itm l j).f2 else 0)
def sH (l : List S31) : Nat → Int
  | 0 => 0
  | j + 1 => sH l j + (if (itm l j).f0 = 2 then (itm l j).f3 else 0)
theorem sW_step {l : List S31} {w t : Int} (F : Fine l w t) {j : Nat} (h : j < l.length) : sW l j ≤ sW l (j + 1) ∧ sW l (j + 1) ≤ sW l j + 2147483647 := by
  have := (okI_iff _).1 (F.item j h)
  simp only [sW]; split <;> omega
theorem sS_step {l : List S31} {w t : Int} (F : Fine l w t) {j : Nat} (h : j < l.length) : sS l j ≤ sS l (j + 1) ∧ sS l (j + 1) ≤ sS l j + 2147483647 := by
  have := (okI_iff _).1 (F.item j h)
  simp only [sS]; split <;> omega
theorem sH_step {l : List S31} {w t : Int} (F : Fine l w t) {j : Nat} (h : j < l.length) : sH l j ≤ sH l (j + 1) ∧ sH l (j + 1) ≤ sH l j + 2147483647 := by
  have := (okI_iff _).1 (F.item j h)
  simp only [sH]; split <;> omega
theorem s_bd {l : List S31} {w t : Int} (F : Fine l w t) : ∀ j, j ≤ l.length → (0 ≤ sW l j ∧ sW l j ≤ 2147483647 * j) ∧ (0 ≤ sS l j ∧ sS l j ≤ 2147483647 * j) ∧ (0 ≤ sH l j ∧ sH l j ≤ 2147483647 * j)
  | 0, _ => by simp [sW, sS, sH]
  | j + 1, h => by
    have := s_bd F j (by omega)
    have := sW_step F (j := j) (by omega); have := sS_step F (j := j) (by omega); have := sH_step F (j := j) (by omega)
    omega
theorem s_mono {l : List S31} {w t : Int} (F : Fine l w t) {i : Nat} : ∀ j, i ≤ j → j ≤ l.length → sW l i ≤ sW l j ∧ sS l i ≤ sS l j ∧ sH l i ≤ sH l j
  | 0, h, _ => by have : i = 0 := by omega
                  subst this; simp
  | j + 1, h, h' => by
    by_cases e : i = j + 1
    · subst e; simp
    · have := s_mono F (i := i) j (by omega) (by omega)
      have := sW_step F (j := j) (by omega); have := sS_step F (j := j) (by omega); have := sH_step F (j := j) (by omega)
      omega
theorem sums_eq {l : List S31} {w t : Int} (F : Fine l w t) : ∀ j, j ≤ l.length → rk_sumsAt l j = ⟨sW l j, sS l j, sH l j⟩
  | 0, _ => rfl
  | j + 1, h => by
    have e := sums_eq F j (by omega)
    have b := s_bd F j (by omega)
    have n := F.len
    have := (okI_iff _).1 (F.item j (by omega))
    simp only [rk_sumsAt, e, sW, sS, sH]
    show S81.mk (if (itm l j).f0 = 3 then _ else wrap64 (_ + (itm l j).f1)) (if (itm l j).f0 = 2 then wrap64 (_ + (itm l j).f2) else _) (if (itm l j).f0 = 2 then wrap64 (_ + (itm l j).f3) else _) = _
    rw [w64 (n := sW l j + (itm l j).f1) (by omega) (by omega), w64 (n := sS l j + (itm l j).f2) (by omega) (by omega), w64 (n := sH l j + (itm l j).f3) (by omega) (by omega)]
    congr 1 <;> split <;> simp
theorem sumsL_rd {l : List S31} {w t : Int} (F : Fine l w t) {j : Nat} (h : j ≤ l.length) : rd_T81 (rk_sumsL l) (j : Int) = ⟨sW l j, sS l j, sH l j⟩ := by
  unfold rd_T81 rk_sumsL
  rw [show ((j : Int)).toNat = j by omega, List.getD_eq_getElem?_getD, List.getElem?_map, List.getElem?_range (by omega)]
  simp [sums_eq F j h]
theorem sumsL_len (l : List S31) : (rk_sumsL l).length = l.length + 1 := by simp [rk_sumsL]
theorem begsL_len (l : List S31) : (rk_begsL l).length = l.length + 1 := by simp [rk_begsL]
/-- The first box from l.length - d on, or the end. -/
def bF (l : List S31) : Nat → Nat
  | 0 => l.length
  | d + 1 => if (itm l (l.length - (d + 1))).f0 = 1 then l.length - (d + 1) else bF l d
def bN (l : List S31) (a : Nat) : Nat := bF l (l.length - a)
theorem begR_eq (l : List S31) : ∀ d, rk_begR l d = (bF l d : Int)
  | 0 => rfl
  | d + 1 => by
    simp only [rk_begR, bF, begR_eq l d]
    show (if (itm l (l.length - (d + 1))).f0 = 1 then _ else _) = _
    split <;> rfl
theorem begsL_rd (l : List S31) {j : Nat} (h : j ≤ l.length) : rd (rk_begsL l) (j : Int) = (bN l j : Int) := by
  unfold rd rk_begsL bN
  rw [show ((j : Int)).toNat = j by omega, List.getD_eq_getElem?_getD, List.getElem?_map, List.getElem?_range (by omega)]
  simp [begR_eq]
theorem bF_props (l : List S31) : ∀ d, d ≤ l.length → l.length - d ≤ bF l d ∧ bF l d ≤ l.length ∧ (∀ i, l.length - d ≤ i → i < bF l d → (itm l i).f0 ≠ 1) ∧ (bF l d < l.length → (itm l (bF l d)).f0 = 1)
  | 0, _ => by simp [bF]; omega
  | d + 1, h => by
    obtain ⟨h1, h2, h3, h4⟩ := bF_props l d (by omega)
    unfold bF
    split
    · rename_i c; exact ⟨by omega, by omega, fun i a b => by omega, fun _ => c⟩
    · rename_i c
      refine ⟨by omega, h2, fun i a b => ?_, h4⟩
      by_cases e : i = l.length - (d + 1)
      · subst e; exact c
      · exact h3 i (by omega) b
theorem bN_ge (l : List S31) {a : Nat} (h : a ≤ l.length) : a ≤ bN l a := by have := (bF_props l (l.length - a) (by omega)).1; unfold bN; omega
theorem bN_le (l : List S31) (a : Nat) : bN l a ≤ l.length := (bF_props l (l.length - a) (by omega)).2.1
theorem bN_no (l : List S31) {a i : Nat} (h : a ≤ l.length) (h1 : a ≤ i) (h2 : i < bN l a) : (itm l i).f0 ≠ 1 := (bF_props l (l.length - a) (by omega)).2.2.1 i (by omega) h2
theorem bN_yes (l : List S31) {a : Nat} (h : bN l a < l.length) : (itm l (bN l a)).f0 = 1 := (bF_props l (l.length - a) (by omega)).2.2.2 h
theorem bN_box (l : List S31) {a i : Nat} (ha : a ≤ l.length) (h1 : a ≤ i) (h2 : i ≤ bN l a) (h3 : i < l.length) : ((itm l i).f0 = 1) ↔ i = bN l a := by
  constructor
  · intro h
    by_cases e : i = bN l a
    · exact e
    · exact absurd h (bN_no l ha h1 (by omega))
  · intro e; subst e; exact bN_yes l h3

/-- The length, stretch and shrink of the line behind place a - 1 up tt the place `tt`. -/
def lineS (l : List S31) (a tt : Nat) : Int × Int × Int :=
  (if tt < l.length ∧ (itm l tt).f0 = 3 then sW l tt - sW l (min (bN l a) tt) + (itm l tt).f1 else sW l tt - sW l (min (bN l a) tt), sS l tt - sS l (min (bN l a) tt), sH l tt - sH l (min (bN l a) tt))
theorem lineS_bd {l : List S31} {w t : Int} (F : Fine l w t) (a : Nat) {tt : Nat} (h : tt ≤ l.length) : (0 ≤ (lineS l a tt).1 ∧ (lineS l a tt).1 ≤ 8800000000000) ∧ (0 ≤ (lineS l a tt).2.1 ∧ (lineS l a tt).2.1 ≤ 8800000000000) ∧ (0 ≤ (lineS l a tt).2.2 ∧ (lineS l a tt).2.2 ≤ 8800000000000) := by
  have n := F.len
  have b := s_bd F tt h
  have b' := s_bd F (min (bN l a) tt) (by omega)
  have m := s_mono F (i := min (bN l a) tt) tt (by omega) h
  unfold lineS
  refine ⟨?_, by simp only; omega, by simp only; omega⟩
  simp only
  split
  · rename_i c
    have := (okI_iff _).1 (F.item tt c.1)
    omega
  · omega
theorem oline {l : List S31} {w t : Int} (F : Fine l w t) {a tt : Nat} (h1 : a ≤ l.length) (h2 : tt ≤ l.length) :
    optimal_paragraph_line.f l (rk_sumsL l) (rk_begsL l) w ((a : Int) - 1) (tt : Int) = some ((lineS l a tt).1, (lineS l a tt).2.1, (lineS l a tt).2.2, w) := by
  have n := F.len
  have b := s_bd F tt h2
  have b' := s_bd F (min (bN l a) tt) (by omega)
  have m := s_mono F (i := min (bN l a) tt) tt (by omega) h2
  have lb := lineS_bd F a h2
  have em : mn (rd (rk_begsL l) ((a : Int) - 1 + 1)) (tt : Int) = ((min (bN l a) tt : Nat) : Int) := by
    rw [show (a : Int) - 1 + 1 = (a : Int) by omega, begsL_rd l h1]; unfold mn; split <;> omega
  unfold optimal_paragraph_line.f
  rw [em, sumsL_len, begsL_len, if_pos (by omega)]
  have e : lineF l (rk_sumsL l) (rk_begsL l) ((a : Int) - 1) (tt : Int) = lineS l a tt := by
    unfold lineF
    simp only [em, sumsL_rd F h2, sumsL_rd F (j := min (bN l a) tt) (by omega), itm_rd]
    rw [w64 (n := sW l tt - _) (by omega) (by omega), w64 (n := sS l tt - _) (by omega) (by omega), w64 (n := sH l tt - _) (by omega) (by omega)]
    unfold lineS at lb ⊢
    by_cases c : tt < l.length ∧ (itm l tt).f0 = 3
    · rw [if_pos c] at lb ⊢
      rw [if_pos ⟨by omega, c.2⟩, w64 (by omega) (by omega)]
    · rw [if_neg c, if_neg (fun z => c ⟨by omega, z.2⟩)]
  rw [e]
theorem rline_l0 {l : List S31} {w t : Int} (F : Fine l w t) {a tt : Nat} (h1 : a ≤ tt) (h2 : tt ≤ l.length) : ∀ (d : Nat) (i : Nat), tt - i = d → a ≤ i → i ≤ tt →
    Ev (fun k => serifref19_Line.l0 k l (tt : Int) (sW l i - sW l (min (bN l a) i)) (sS l i - sS l (min (bN l a) i)) (sH l i - sH l (min (bN l a) i)) (decide (bN l a < i)) (i : Int)) (lineS l a tt) := by
  intro d
  induction d with
  | zero =>
    intro i e h3 h4
    have : i = tt := by omega
    subst this
    have lb := lineS_bd F a h2
    refine Ev.intro 1 fun k => ?_
    simp only [serifref19_Line.l0]
    rw [if_neg (by omega)]
    unfold lineS at lb ⊢
    by_cases c : i < l.length
    · rw [if_pos (by omega), if_pos (by omega), itm_rd]
      by_cases c2 : (itm l i).f0 = 3
      · rw [if_pos (show i < l.length ∧ (itm l i).f0 = 3 from ⟨c, c2⟩)] at lb ⊢
        rw [if_pos c2, w64 (by omega) (by omega)]
      · rw [if_neg c2, if_neg (fun z => c2 z.2)]
    · rw [if_neg (by omega), if_neg (fun z => c z.1)]
  | succ d ih =>
    intro i e h3 h4
    have n := F.len
    have hlt : i < l.length := by omega
    have bb := bN_box l (a := a) (i := i) (by omega) h3
    have D : (0 ≤ sW l i - sW l (min (bN l a) i) ∧ sW l i - sW l (min (bN l a) i) ≤ 8800000000000) ∧ (0 ≤ sS l i - sS l (min (bN l a) i) ∧ sS l i - sS l (min (bN l a) i) ≤ 8800000000000) ∧ (0 ≤ sH l i - sH l (min (bN l a) i) ∧ sH l i - sH l (min (bN l a) i) ≤ 8800000000000) := by
      have b1 := s_bd F i (by omega)
      have b' := s_bd F (min (bN l a) i) (by omega)
      have m := s_mono F (i := min (bN l a) i) i (by omega) (by omega)
      omega
    obtain ⟨⟨d1, d2⟩, ⟨d3, d4⟩, d5, d6⟩ := D
    have ok := (okI_iff _).1 (F.item i hlt)
    have IH := ih (i + 1) (by omega) (by omega) (by omega)
    have nx : wrap64 ((i : Int) + 1) = ((i + 1 : Nat) : Int) := by rw [w64 (by omega) (by omega)]; omega
    have NX := Aside0.mk nx
    clear nx
    have key : Ev (fun k => serifref19_Line.j1 k l (tt : Int) (sW l i - sW l (min (bN l a) i)) (sS l i - sS l (min (bN l a) i)) (sH l i - sH l (min (bN l a) i)) (decide (bN l a < i + 1)) (i : Int)) (lineS l a tt) := by
      by_cases hb : bN l a < i + 1
      · have mi : min (bN l a) i = bN l a := by omega
        have mi' : min (bN l a) (i + 1) = bN l a := by omega
        rw [mi] at d1 d2 d3 d4 d5 d6 ⊢
        rw [mi'] at IH
        rw [decide_eq_true hb] at IH ⊢
        refine Ev.step (f := fun k => serifref19_Line.j2 k l (tt : Int) (sW l i - sW l (bN l a)) (sS l i - sS l (bN l a)) (sH l i - sH l (bN l a)) true (i : Int) ((itm l i).f0 != 3)) (fun k => ?_) ?_
        · simp only [serifref19_Line.j1]; rw [if_pos trivial, if_pos (by omega), if_pos (by omega), itm_rd]
        · refine Ev.step (fun k => ?_) IH
          simp only [serifref19_Line.j2, NX.out, itm_rd]
          have p0 : (0 : Int) ≤ (i : Int) := by omega
          have p1 : (i : Int) < (l.length : Int) := by omega
          simp only [p0, p1, if_true]
          by_cases c3 : (itm l i).f0 = 3
          · have c2 : ¬ (itm l i).f0 = 2 := by omega
            simp only [c3, c2, sW, sS, sH, bne_self_eq_false, Bool.false_eq_true, if_false, if_true, Int.add_zero, show ¬ (3 : Int) = 2 by omega]
          · have c3' : ((itm l i).f0 != 3) = true := by simpa using c3
            simp only [c3', if_true, c3, sW, sS, sH, if_false]
            rw [w64 (n := sW l i - sW l (bN l a) + (itm l i).f1) (by omega) (by omega)]
            by_cases c2 : (itm l i).f0 = 2
            · rw [if_pos c2, if_pos c2, if_pos c2, w64 (n := sS l i - sS l (bN l a) + (itm l i).f2) (by omega) (by omega), w64 (n := sH l i - sH l (bN l a) + (itm l i).f3) (by omega) (by omega)]
              congr 1 <;> omega
            · rw [if_neg c2, if_neg c2, if_neg c2]
              congr 1 <;> omega
      · have mi : min (bN l a) i = i := by omega
        have mi' : min (bN l a) (i + 1) = i + 1 := by omega
        rw [mi]
        rw [mi'] at IH
        rw [decide_eq_false hb] at IH ⊢
        simp only [Int.sub_self] at IH ⊢
        refine Ev.step (f := fun k => serifref19_Line.j2 k l (tt : Int) 0 0 0 false (i : Int) false) (fun k => ?_) ?_
        · simp only [serifref19_Line.j1]; rw [if_neg (by simp)]
        · refine Ev.step (fun k => ?_) IH
          simp only [serifref19_Line.j2, NX.out]
          rw [if_neg (by simp), if_neg (by simp)]
    refine Ev.step (fun k => ?_) key
    simp only [serifref19_Line.l0]
    rw [if_pos (by omega)]
    by_cases hb : bN l a < i
    · rw [decide_eq_true hb, if_pos rfl, decide_eq_true (show bN l a < i + 1 by omega)]
    · rw [decide_eq_false hb, if_neg (by simp), if_pos (by omega), if_pos (by omega), itm_rd]
      have := bb (by omega) hlt
      by_cases e1 : i = bN l a
      · rw [decide_eq_true (show bN l a < i + 1 by omega), this.2 e1]; rfl
      · rw [decide_eq_false (show ¬ bN l a < i + 1 by omega)]
        have : ((itm l i).f0 == 1) = false := by simpa using fun z => e1 (this.1 z)
        rw [this]
theorem rline {l : List S31} {w t : Int} (F : Fine l w t) {a tt : Nat} (h1 : a ≤ tt) (h2 : tt ≤ l.length) : Ev (fun k => serifref19_Line.f k l ((a : Int) - 1) (tt : Int)) (lineS l a tt) := by
  have := rline_l0 F h1 h2 (tt - a) a rfl (by omega) h1
  have n := F.len
  have b := bN_ge l (a := a) (by omega)
  rw [show min (bN l a) a = a by omega, decide_eq_false (show ¬ bN l a < a by omega)] at this
  simp only [Int.sub_self] at this
  unfold serifref19_Line.f
  rw [w64 (n := (a : Int) - 1 + 1) (by omega) (by omega), show (a : Int) - 1 + 1 = (a : Int) by omega]
  exact this
end Go.Proofs.Ytfbanppdiglciaa.Y
