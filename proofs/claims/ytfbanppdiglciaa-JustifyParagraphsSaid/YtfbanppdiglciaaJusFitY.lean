/- Facts of the row that Set answers: its sum, its boxes, and that a line that fits is set; what Measure answers. -/
import Derived.Test.YtfbanppdiglciaaYx0
import Derived.Test.YtfbanppdiglciaaYx12
import Derived.Test.YtfbanppdiglciaaYx30
import Derived.Test.YtfbanppdiglciaaYx31
import Derived.Test.YtfbanppdiglciaaYx39
import Derived.Test.YtfbanppdiglciaaJusLineY
import Derived.Test.YtfbanppdiglciaaJmC
set_option linter.unusedVariables false
set_option linter.unusedSimpArgs false
namespace Go.Proofs.Ytfbanppdiglciaa.Y
open Go Go.RowKit Go.Proofs.YtfbanppdiglciaaW.PrintWords Go.Proofs.YtfbanppdiglciaaW.PrintLast Go.Proofs.YtfbanppdiglciaaW.PrintMore

theorem spSP_len {d st sh : Int} {J : List S31} {zs : List Int} (h : J.length ≤ zs.length) : (spSP d st sh J zs).1.length = zs.length := by
  unfold spSP; repeat' split
  all_goals first | rfl | exact spP_len J zs 0 h
theorem spSP_keep {d st sh : Int} {J : List S31} {zs : List Int} (h : J.length ≤ zs.length) (i : Nat) (hk : ∀ x, J[i]? = some x → x.f0 ≠ 2) : (spSP d st sh J zs).1[i]? = zs[i]? := by
  unfold spSP; repeat' split
  all_goals first | rfl | exact spP_keep J zs 0 i h hk
theorem jJ_len {L : List S31} {a t : Nat} (h2 : t ≤ L.length) : stB (stIn L a t) + (jJ L a t).length = t - a := by
  have := stIn_len (a := a) h2
  have := stB_le (stIn L a t)
  unfold jJ; rw [List.length_drop]; omega
theorem jE_len (L : List S31) (t : Nat) : (jE L t).length ≤ 1 := by unfold jE; split <;> simp
theorem jJ_get {L : List S31} {a t i : Nat} (h2 : t ≤ L.length) (h : a + (stB (stIn L a t) + i) < t) : (jJ L a t)[i]? = some (itm L (a + (stB (stIn L a t) + i))) := by
  unfold jJ
  rw [List.getElem?_drop, stIn_get h2 h]
theorem setR_len {L : List S31} {a t : Nat} {w : Int} (h2 : t ≤ L.length) : (setR L a t w).length = (t - a) + (jE L t).length := by
  have := jJ_len (a := a) h2
  unfold setR setP
  rw [List.length_append, spSP_len (by simp), List.length_append, List.length_map, List.length_replicate]; omega
theorem setR_sum {L : List S31} {w u : Int} (F : Fine L w u) {a t : Nat} (h1 : a ≤ t) (h2 : t ≤ L.length) (h : (setP L a t w).2 = true) : (setR L a t w).sum = w := by
  have ls := line_sums h1 h2
  unfold setR
  rw [List.sum_append]
  have e0 : (List.replicate (stB (stIn L a t)) (0 : Int)).sum = 0 := by simp
  have := spSP_sum (d := w - (lineS L a t).1) (J := jJ L a t) (zs := (jJ L a t).map nw ++ jE L t) (by simp) ls.2.1 ls.2.2 (fun x hx => by have := fine_ok F x (mem_jJ hx); unfold itOk at this; omega) h
  rw [e0]
  unfold setP
  rw [this, List.sum_append, ← ls.1]; omega
theorem setR_box {L : List S31} {w : Int} {a t i : Nat} (h1 : a ≤ t) (h2 : t ≤ L.length) (hi : a + i < t) (hb : (itm L (a + i)).f0 = 1) : (setR L a t w)[i]? = some (itm L (a + i)).f1 := by
  have he := stB_eq h1 h2
  have hl := jJ_len (a := a) h2
  unfold setR
  by_cases c : i < stB (stIn L a t)
  · exact absurd hb (bN_no L (a := a) (i := a + i) (by omega) (by omega) (by omega))
  · rw [List.getElem?_append_right (by simp; omega), List.length_replicate]
    have g := jJ_get (L := L) (a := a) (t := t) (i := i - stB (stIn L a t)) h2 (by omega)
    rw [show stB (stIn L a t) + (i - stB (stIn L a t)) = i by omega] at g
    unfold setP
    rw [spSP_keep (by simp) _ (fun x hx => by rw [g] at hx; injection hx with hx; rw [← hx, hb]; omega), List.getElem?_append_left (by rw [List.length_map]; omega), List.getElem?_map, g, Option.map_some]
    unfold nw; rw [if_neg (by omega)]
theorem fit_set {L : List S31} {a t : Nat} {w : Int} (h : (fitS L a t w).2.2 = true) : (setP L a t w).2 = true := by
  unfold fitS fitV at h
  unfold setP spSP
  generalize (lineS L a t).1 = W at *
  generalize (lineS L a t).2.1 = S at *
  generalize (lineS L a t).2.2 = H at *
  by_cases c : W = w
  · rw [if_pos (show w - W = 0 by omega)]
  rw [if_neg c] at h
  rw [if_neg (show ¬ w - W = 0 by omega)]
  by_cases c1 : W > w
  · rw [if_pos c1] at h
    rw [if_pos (show w - W < 0 by omega)]
    by_cases c2 : W - w > H
    · rw [if_pos c2] at h; cases h
    · rw [if_neg (show ¬ (H = 0 ∨ H < -(w - W)) by omega)]
  · rw [if_neg c1] at h
    rw [if_neg (show ¬ w - W < 0 by omega)]
    by_cases c2 : S = 0
    · rw [if_pos c2] at h; cases h
    · rw [if_neg c2]
/-- What Measure answers of a line. -/
theorem measure_ev {L : List S31} {w : Int} (h : chkL L w 0 = 0) {a1 a2 : Int} (c1 : ¬ a1 < -1) (c2 : ¬ a2 ≤ a1) (c3 : ¬ (L.length : Int) < a2) :
    Ev (fun k => optimal_Measure.f k L a1 a2 w) ((fitS L (a1 + 1).toNat a2.toNat w).1, (fitS L (a1 + 1).toNat a2.toNat w).2.1, (fitS L (a1 + 1).toNat a2.toNat w).2.2) := by
  have F := Fine.of h
  have hn := F.len
  have fit := ofit F (a := (a1 + 1).toNat) (tt := a2.toNat) (by omega) (by omega)
  rw [show (((a1 + 1).toNat : Nat) : Int) - 1 = a1 by omega, show ((a2.toNat : Nat) : Int) = a2 by omega] at fit
  unfold optimal_Measure.f
  refine Ev.bind (ocheck L w 0) ?_
  simp only [h, if_true, c1, c2, if_false, decide_eq_false (show ¬ a2 > (L.length : Int) by omega)]
  refine Ev.step (f := fun k => (optimal_reckoned.f L w).bind fun bt358 => ((optimal_paragraph_fit.f k bt358.1 bt358.2.1 bt358.2.2.1 bt358.2.2.2 a1 a2).bind fun bt363 => (some (bt363.1, bt363.2.1, bt363.2.2.1)))) (fun k => ?_) ?_
  · simp only [optimal_Measure.j0, Bool.false_eq_true, if_false]
  · have r : optimal_reckoned.f L w = some (L, rk_sumsL L, rk_begsL L, w) := by unfold optimal_reckoned.f; rw [if_pos (by omega)]
    simp only [r, Option.bind_some]
    exact Ev.bind fit ⟨0, fun _ _ => rfl⟩
end Go.Proofs.Ytfbanppdiglciaa.Y
