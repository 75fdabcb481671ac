/- JustifySums answers true for any items, any line and any width: a line that is set adds up to its width, boxes keep their widths, and a line that fits is set. No condition beyond the sizes that any argument has. -/
import Derived.Test.YtfbanppdiglciaaYx0
import Derived.Test.YtfbanppdiglciaaYx31
import Derived.Test.YtfbanppdiglciaaYx32
import Derived.Test.YtfbanppdiglciaaJusAliveY
import Derived.Test.YtfbanppdiglciaaJusFitY
set_option linter.unusedVariables false
set_option linter.unusedSimpArgs false
namespace Go.Proofs.Ytfbanppdiglciaa.Pure
open Go Go.RowKit Go.Proofs.Ytfbanppdiglciaa.Y Go.Proofs.YtfbanppdiglciaaW.PrintWords Go.Proofs.YtfbanppdiglciaaW.PrintLast
theorem wr_add (a b : Int) : wrap64 (wrap64 a + b) = wrap64 (a + b) := by unfold wrap64; omega
theorem take_sum {l : List Int} {i : Nat} (h : i < l.length) : (l.take (i + 1)).sum = (l.take i).sum + rd l (i : Int) := by
  have e : rd l (i : Int) = l[i] := rdI h
  rw [List.take_add_one, List.getElem?_eq_getElem h, List.sum_append, e]; simp
theorem sums_l0 {L : List S31} {a t : Nat} {a1 a2 w : Int} {flg : Bool} {row : List Int} (e1 : a1 = (a : Int) - 1) (e2 : a2 = (t : Int)) (h1 : a ≤ t) (h2 : t ≤ L.length) (hL : L.length ≤ 4096) (hr : row.length ≤ 5000)
    (hbox : ∀ i, i < row.length → a + i < t → (itm L (a + i)).f0 = 1 → rd row (i : Int) = (itm L (a + i)).f1)
    (hend : Ev (fun k => seriflaw20_JustifySums.l0 k L w a1 a2 flg (wrap64 row.sum) row (row.length : Int) (row.length : Int)) true) : ∀ (d i : Nat), row.length - i = d → i ≤ row.length →
    Ev (fun k => seriflaw20_JustifySums.l0 k L w a1 a2 flg (wrap64 (row.take i).sum) row (row.length : Int) (i : Int)) true := by
  intro d
  induction d with
  | zero =>
    intro i e hi
    have : i = row.length := by omega
    subst this
    rw [List.take_length]; exact hend
  | succ d ih =>
    intro i e hi
    have hlt : i < row.length := by omega
    have IH := ih (i + 1) (by omega) (by omega)
    rw [take_sum hlt] at IH
    refine Ev.step (fun k => ?_) IH
    simp only [seriflaw20_JustifySums.l0]
    rw [if_pos (by omega), if_pos (by omega), if_pos (by omega), wrap64_in' (n := a1 + 1) (by omega) (by omega), wrap64_in' (n := a1 + 1 + (i : Int)) (by omega) (by omega), wrap64_in' (n := (i : Int) + 1) (by omega) (by omega), wr_add, show a1 + 1 + (i : Int) = ((a + i : Nat) : Int) by omega, itm_rd]
    by_cases c : a + i < t
    · rw [if_pos (by omega), if_pos (by omega), if_pos (by omega)]
      by_cases b : (itm L (a + i)).f0 = 1
      · rw [if_pos b, if_pos (hbox i hlt c b)]; rfl
      · rw [if_neg b]; rfl
    · rw [if_neg (by omega)]; rfl
theorem JustifySums : seriflaw20_JustifySums.Pure := by
  intro L x w ⟨_, hsz, _⟩ _ _
  have key : Ev (fun k => seriflaw20_JustifySums.f k L x.f0 x.f1 w) true := by
    unfold seriflaw20_JustifySums.f
    refine Ev.bind jalive ?_
    simp only [if_true, Option.bind_some, List.length_nil, Nat.zero_add, List.nil_append, show L.length < 2932031007402 by omega]
    refine Ev.bind (set_ev L x.f0 x.f1 w) ?_
    unfold setV
    by_cases c : chkL L w 0 ≠ 0 ∨ x.f0 < -1 ∨ x.f1 ≤ x.f0 ∨ (L.length : Int) < x.f1
    · simp only [if_pos c]
      exact ⟨0, fun _ _ => rfl⟩
    · simp only [if_neg c, if_true]
      have c0 : chkL L w 0 = 0 := Classical.byContradiction fun z => c (.inl z)
      have F := Fine.of c0
      have hn := F.len
      have hx1 : (x.f0 + 1).toNat ≤ x.f1.toNat := by omega
      have hx2 : x.f1.toNat ≤ L.length := by omega
      have rl := setR_len (L := L) (a := (x.f0 + 1).toNat) (w := w) hx2
      have el := jE_len L x.f1.toNat
      have w0 := F.w0
      have w1 := F.w1
      have key := sums_l0 (L := L) (a := (x.f0 + 1).toNat) (t := x.f1.toNat) (a1 := x.f0) (a2 := x.f1) (w := w) (flg := (setP L (x.f0 + 1).toNat x.f1.toNat w).2) (row := setR L (x.f0 + 1).toNat x.f1.toNat w) (by omega) (by omega) hx1 hx2 hn (by omega)
        (fun i hi hc hb => by
          have := setR_box (w := w) hx1 hx2 hc hb
          rw [rdI hi]; rw [List.getElem?_eq_getElem hi] at this; injection this)
        (by
          refine Ev.step (f := fun k => (optimal_Measure.f k L x.f0 x.f1 w).bind fun bt390 => (if (setP L (x.f0 + 1).toNat x.f1.toNat w).2 = true then (if wrap64 (setR L (x.f0 + 1).toNat x.f1.toNat w).sum = w then (if bt390.2.2 = true then (some (setP L (x.f0 + 1).toNat x.f1.toNat w).2) else (some true)) else (none)) else (if bt390.2.2 = true then (some (setP L (x.f0 + 1).toNat x.f1.toNat w).2) else (some true)))) (fun k => ?_) ?_
          · simp only [seriflaw20_JustifySums.l0]
            rw [if_neg (by omega)]
            simp only [Option.bind_some, List.length_nil, Nat.zero_add, List.nil_append, show L.length < 2932031007402 by omega, if_true]
          · refine Ev.bind (measure_ev c0 (by omega) (by omega) (by omega)) ?_
            by_cases fl : (setP L (x.f0 + 1).toNat x.f1.toNat w).2 = true
            · have sm := setR_sum F hx1 hx2 fl
              simp only [fl, if_true, sm, wrap64_in' (n := w) (by omega) (by omega)]
              refine ⟨0, fun k _ => ?_⟩
              split <;> rfl
            · simp only [if_neg fl]
              by_cases ft : (fitS L (x.f0 + 1).toNat x.f1.toNat w).2.2 = true
              · exact absurd (fit_set ft) fl
              · simp only [if_neg ft]; exact ⟨0, fun _ _ => rfl⟩)
        (setR L (x.f0 + 1).toNat x.f1.toNat w).length 0 (by omega) (by omega)
      rw [List.take_zero, List.sum_nil, wrap64_in' (n := 0) (by omega) (by omega)] at key
      exact key
  exact ⟨key.choose, key.choose_spec _ (Nat.le_refl _)⟩
end Go.Proofs.Ytfbanppdiglciaa.Pure
