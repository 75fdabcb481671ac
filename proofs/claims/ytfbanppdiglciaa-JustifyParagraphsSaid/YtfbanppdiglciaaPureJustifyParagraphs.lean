/- JustifyParagraphs answers true for any items, any width and any tolerance: every line of the best breaks is set to just its width. No condition beyond the sizes that any argument has. -/
import Derived.Test.YtfbanppdiglciaaYx0
import Derived.Test.YtfbanppdiglciaaYx12
import Derived.Test.YtfbanppdiglciaaYx19
import Derived.Test.YtfbanppdiglciaaJusAliveY
import Derived.Test.YtfbanppdiglciaaJusFactY
import Derived.Test.YtfbanppdiglciaaJusFitY
import Derived.Test.YtfbanppdiglciaaJmC
import Derived.Test.YtfbanppdiglciaaYx40
set_option linter.unusedVariables false
set_option linter.unusedSimpArgs false
namespace Go.Proofs.Ytfbanppdiglciaa.Pure
open Go Go.RowKit Go.Proofs.Ytfbanppdiglciaa.Y Go.Proofs.YtfbanppdiglciaaW.PrintWords Go.Proofs.YtfbanppdiglciaaW.PrintLast
theorem wr_add (a b : Int) : wrap64 (wrap64 a + b) = wrap64 (a + b) := by unfold wrap64; omega
theorem take_sum {l : List Int} {i : Nat} (h : i < l.length) : (l.take (i + 1)).sum = (l.take i).sum + rd l (i : Int) := by
  have e : rd l (i : Int) = l[i] := rdI h
  rw [List.take_add_one, List.getElem?_eq_getElem h, List.sum_append, e]; simp
theorem chk0 {L : List S31} {w t : Int} (h : chkL L w t = 0) : chkL L w 0 = 0 := by
  unfold chkL chkE at *
  split at h
  · omega
  · rename_i a
    rw [if_neg a]
    split at h
    · rename_i b
      rw [if_pos b]
      repeat' split at h
      all_goals first | omega | (repeat' split) <;> omega
    · omega
theorem par_l1 {L : List S31} {w x : Int} {f : Bool} {Lb : List Int} {i : Int} {row : List Int} {X : Bool} (hr : row.length ≤ 5000)
    (hend : Ev (fun k => seriflaw20_JustifyParagraphs.l1 k L w x f 0 (wrap64 row.sum) Lb (Lb.length : Int) i row (row.length : Int) (row.length : Int)) X) : ∀ (d j : Nat), row.length - j = d → j ≤ row.length →
    Ev (fun k => seriflaw20_JustifyParagraphs.l1 k L w x f 0 (wrap64 (row.take j).sum) Lb (Lb.length : Int) i row (row.length : Int) (j : Int)) X := by
  intro d
  induction d with
  | zero =>
    intro j e hj
    have : j = row.length := by omega
    subst this
    rw [List.take_length]; exact hend
  | succ d ih =>
    intro j e hj
    have hlt : j < row.length := by omega
    have IH := ih (j + 1) (by omega) (by omega)
    rw [take_sum hlt] at IH
    refine Ev.step (fun k => ?_) IH
    simp only [seriflaw20_JustifyParagraphs.l1]
    rw [if_pos (by omega), if_pos (by omega), if_pos (by omega), wr_add, wrap64_in' (n := (j : Int) + 1) (by omega) (by omega)]; rfl
theorem par_l0 {L : List S31} {w t : Int} (h : chkL L w t = 0) (hn : L.length < 2932031007402) {Lb : List Int} (hLb : Lb.length ≤ 100000) : ∀ (d i a : Nat) (c : Int), Lb.length - i = d → i ≤ Lb.length → cost L w t (L.length + 1) a (Lb.drop i) = some c →
    Ev (fun k => seriflaw20_JustifyParagraphs.l0 k L w ((a : Int) - 1) Lb (Lb.length : Int) (i : Int)) true := by
  have F := Fine.of h
  have F0 := Fine.of (chk0 h)
  have n := F.len
  have w0 := F.w0
  have w1 := F.w1
  intro d
  induction d with
  | zero =>
    intro i a c e hi hc
    rw [List.drop_of_length_le (by omega)] at hc
    simp only [cost] at hc
    split at hc
    · rename_i ea
      refine Ev.intro 1 fun k => ?_
      rw [seriflaw20_JustifyParagraphs.l0, if_neg (by omega)]
      congr 1
      simp; omega
    · cases hc
  | succ d ih =>
    intro i a c e hi hc
    have hlt : i < Lb.length := by omega
    rw [List.drop_eq_getElem_cons hlt] at hc
    obtain ⟨d', c', h1, h2, _⟩ := cost_cons hc
    obtain ⟨h0, h1⟩ := stpZ_some h1
    obtain ⟨g0, g1, _, _⟩ := stp_some h1
    obtain ⟨g2, g3, _, _⟩ := (gapB_iff L _ _).1 g0
    have IH := ih (i + 1) (Lb[i].toNat + 1) c' (by omega) (by omega) h2
    have ex : Lb[i] = ((Lb[i].toNat : Nat) : Int) := by omega
    generalize hx : Lb[i].toNat = x at *
    have fl : (setP L a x w).2 = true := fit_set g1
    have sm := setR_sum F0 g2 g3 fl
    have rl := setR_len (L := L) (a := a) (w := w) g3
    have el := jE_len L x
    have sv : setV L ((a : Int) - 1) (x : Int) w = (setR L a x w, true, 0) := by
      unfold setV
      rw [if_neg (by rw [chk0 h]; omega), show ((a : Int) - 1 + 1).toNat = a by omega, Int.toNat_natCast, fl]
    refine Ev.step (f := fun k => (justify_Set.f k L ((a : Int) - 1) (x : Int) w).bind fun bt526 => seriflaw20_JustifyParagraphs.l1 k L w (x : Int) bt526.2.1 bt526.2.2 0 Lb (Lb.length : Int) (i : Int) bt526.1 (bt526.1.length : Int) 0) (fun k => ?_) ?_
    · rw [seriflaw20_JustifyParagraphs.l0, if_pos (by omega), if_pos (by omega), if_pos (by omega), rdI hlt, ex]
      simp only [Option.bind_some, List.length_nil, Nat.zero_add, List.nil_append, hn, if_true]
    · refine Ev.bind (set_ev L ((a : Int) - 1) (x : Int) w) ?_
      rw [sv]
      have key := par_l1 (L := L) (w := w) (x := (x : Int)) (f := true) (Lb := Lb) (i := (i : Int)) (row := setR L a x w) (X := true) (by omega) (by
        refine Ev.step (fun k => ?_) IH
        simp only [seriflaw20_JustifyParagraphs.l1]
        rw [if_neg (by omega), if_pos trivial, if_pos trivial, sm, wrap64_in' (n := w) (by omega) (by omega), if_pos rfl, wrap64_in' (n := (i : Int) + 1) (by omega) (by omega), show ((x + 1 : Nat) : Int) - 1 = (x : Int) by omega]; rfl)
        (setR L a x w).length 0 (by omega) (by omega)
      rw [List.take_zero, List.sum_nil, wrap64_in' (n := 0) (by omega) (by omega)] at key
      exact key
theorem par_chk (L : List S31) (w t : Int) {Lb : List Int} {c : Int} {b : Bool} : Ev (fun k => seriflaw20_JustifyParagraphs.j0 k L w t (chkL L w t) true Lb c b) true := by
  refine Ev.step (f := fun k => (serifref19_Check.f k L w t).bind fun t518 => some (t518 == chkL L w t)) (fun k => ?_) ?_
  · simp only [seriflaw20_JustifyParagraphs.j0, if_true]
  · refine Ev.bind (rcheck L w t) ⟨0, fun k _ => ?_⟩
    simp
theorem cost_len {l : List S31} {w t : Int} {E : Nat} : ∀ (L : List Int) (a : Nat) (c : Int), cost l w t E a L = some c → L.length + a ≤ E
  | [], a, c, h => by have := (cost_le [] a c h).1; simp; omega
  | x :: r, a, c, h => by
    obtain ⟨d, c', h1, h2, _⟩ := cost_cons h
    have := (stp_le (stpZ_some h1).2).1
    have := cost_len r _ c' h2
    simp only [List.length_cons]; omega
theorem JustifyParagraphs : seriflaw20_JustifyParagraphs.Pure := by
  intro L w t ⟨_, hsz, _⟩ _ _
  have key : Ev (fun k => seriflaw20_JustifyParagraphs.f k L w t) true := by
    unfold seriflaw20_JustifyParagraphs.f
    refine Ev.bind jalive ?_
    have hn : L.length < 2932031007402 := by omega
    simp only [if_true, Option.bind_some, List.length_nil, Nat.zero_add, List.nil_append, hn]
    by_cases h : chkL L w t = 0
    · rcases obest h with ⟨c, Lb, hB, hE⟩ | ⟨_, hE⟩
      · refine Ev.bind hE ?_
        simp only [if_true, Bool.false_eq_true, if_false]
        by_cases big : (L.length : Int) > 300
        · rw [decide_eq_true big]
          have := par_chk L w t (Lb := Lb) (c := c) (b := false)
          rwa [h] at this
        · rw [decide_eq_false big]
          have cl := cost_len Lb 0 _ hB.1
          have n := (Fine.of h).len
          refine Ev.step (fun k => ?_) (par_l0 h hn (Lb := Lb) (by omega) Lb.length 0 0 c (by omega) (by omega) hB.1)
          simp only [seriflaw20_JustifyParagraphs.j0, Bool.false_eq_true, if_false]; rfl
      · refine Ev.bind hE ?_
        simp only [if_true]
        have := par_chk L w t (Lb := emL L w (plL L).length 0) (c := 0) (b := true)
        rwa [h] at this
    · refine Ev.bind (obest_bad h) ?_
      simp only [if_neg h]
      exact par_chk L w t
  exact ⟨key.choose, key.choose_spec _ (Nat.le_refl _)⟩
end Go.Proofs.Ytfbanppdiglciaa.Pure
