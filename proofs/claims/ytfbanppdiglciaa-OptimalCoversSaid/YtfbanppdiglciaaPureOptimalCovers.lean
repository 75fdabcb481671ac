/- OptimalCovers answers true: the breaks of any paragraph rise, end at the end and have all forced places. No condition. -/
import Derived.Test.YtfbanppdiglciaaXx0
import Derived.Test.YtfbanppdiglciaaOptG
import Derived.Test.YtfbanppdiglciaaOptAlive
import Derived.Test.YtfbanppdiglciaaXx19
set_option linter.unusedVariables false
set_option linter.unusedSimpArgs false
namespace Go.Proofs.Ytfbanppdiglciaa.Pure
open Go Go.RowKit Go.Proofs.Ytfbanppdiglciaa.X Go.Proofs.YtfbanppdiglciaaW.PrintWords Go.Proofs.YtfbanppdiglciaaW.PrintLast
theorem cov_l1 {l : List S31} (n : l.length ≤ 4096) {L : List Int} {x : Nat} (hx : x ≤ l.length) {i : Int} {X : Bool} (h : Ev (fun k => seriflaw19_OptimalCovers.l0 k l (x : Int) L (L.length : Int) (wrap64 (i + 1))) X) :
    ∀ (d z : Nat), x - z = d → z ≤ x → (∀ y, z ≤ y → y < x → fcB l y = false) → Ev (fun k => seriflaw19_OptimalCovers.l1 k l (x : Int) (z : Int) L (L.length : Int) i) X := by
  intro d
  induction d with
  | zero =>
    intro z e hz nf
    refine Ev.step (fun k => ?_) h
    rw [seriflaw19_OptimalCovers.l1, if_neg (by omega)]
  | succ d ih =>
    intro z e hz nf
    refine Ev.step (fun k => ?_) (ih (z + 1) (by omega) (by omega) (fun y hy hy' => nf y (by omega) hy'))
    rw [seriflaw19_OptimalCovers.l1, if_pos (by omega), rforced (by omega), Option.bind_some, nf z (by omega) (by omega), if_neg (by simp), w64 (n := (z : Int) + 1) (by omega) (by omega)]; rfl
theorem cov_l0 {l : List S31} (n : l.length ≤ 4096) {L : List Int} (hL : (L.length : Int) ≤ 1000000) : ∀ (d i a : Nat), L.length - i = d → i ≤ L.length → a ≤ l.length + 1 → covB l a (L.drop i) = true →
    Ev (fun k => seriflaw19_OptimalCovers.l0 k l ((a : Int) - 1) L (L.length : Int) (i : Int)) true := by
  intro d
  induction d with
  | zero =>
    intro i a e hi ha h
    rw [List.drop_of_length_le (by omega)] at h
    have h' : a = l.length + 1 := by simpa [covB] using h
    refine Ev.intro 1 fun k => ?_
    rw [seriflaw19_OptimalCovers.l0, if_neg (by omega)]
    congr 1
    simp; omega
  | succ d ih =>
    intro i a e hi ha h
    have hlt : i < L.length := by omega
    rw [List.drop_eq_getElem_cons hlt] at h
    simp only [covB, Bool.and_eq_true, decide_eq_true_eq] at h
    obtain ⟨⟨h0, h1⟩, h2⟩ := h
    obtain ⟨g1, g2, g3, g4⟩ := (gapB_iff l _ _).1 h1
    have ih' := ih (i + 1) (L[i].toNat + 1) (by omega) (by omega) (by omega) h2
    have ex : L[i] = ((L[i].toNat : Nat) : Int) := by omega
    generalize hx : L[i].toNat = x at *
    have l1 := cov_l1 (l := l) n (L := L) (x := x) g2 (i := (i : Int)) (X := true) (by
      rw [w64 (n := (i : Int) + 1) (by omega) (by omega), show (x : Int) = ((x + 1 : Nat) : Int) - 1 by omega]; exact ih') _ a rfl g1 g4
    refine Ev.step (f := fun k => seriflaw19_OptimalCovers.j1 k l ((a : Int) - 1) (x : Int) L (L.length : Int) (i : Int) false) (fun k => ?_) (Ev.step (fun k => ?_) l1)
    · rw [seriflaw19_OptimalCovers.l0, if_pos (by omega), if_pos (by omega), if_pos (by omega), rdI hlt, ex, if_neg (by omega), if_neg (by omega), rplace g2 (by omega), Option.bind_some, g3]; rfl
    · rw [seriflaw19_OptimalCovers.j1, if_neg (by simp), w64 (n := (a : Int) - 1 + 1) (by omega) (by omega), show (a : Int) - 1 + 1 = (a : Int) by omega]
theorem cov_len {l : List S31} : ∀ (L : List Int) (a : Nat), covB l a L = true → a ≤ l.length + 1 ∧ L.length + a ≤ l.length + 1
  | [], a, h => by
    have h' : a = l.length + 1 := by simpa [covB] using h
    simp; omega
  | x :: r, a, h => by
    simp only [covB, Bool.and_eq_true, decide_eq_true_eq] at h
    obtain ⟨⟨h0, h1⟩, h2⟩ := h
    have g := (gapB_iff l _ _).1 h1
    have := cov_len r _ h2
    simp only [List.length_cons]; omega
theorem OptimalCovers : seriflaw19_OptimalCovers.Pure := by
  intro l w t ⟨_, hl, _⟩ _ _
  have key : Ev (fun k => seriflaw19_OptimalCovers.f k l w t) true := by
    unfold seriflaw19_OptimalCovers.f
    refine Ev.bind oalive ?_
    have q : ([] : List S31).length + l.length < 2932031007402 := by simp; omega
    simp only [if_true, Option.bind_some, q, List.nil_append]
    by_cases h : chkL l w t = 0
    · have n := (Fine.of h).len
      have fin : ∀ (L : List Int), covB l 0 L = true → Ev (fun k => seriflaw19_OptimalCovers.l0 k l (-1) L (L.length : Int) 0) true := fun L hc => by
        have := cov_len L 0 hc
        have := cov_l0 n (L := L) (by omega) L.length 0 0 (by omega) (by omega) (by omega) (by simpa using hc)
        simpa using this
      rcases obest h with ⟨c, L, hB, hE⟩ | ⟨hN, hE⟩
      · refine Ev.bind hE ?_
        simp only [if_true]
        exact fin L (cost_cov _ _ _ hB.1)
      · refine Ev.bind hE ?_
        simp only [if_true]
        exact fin _ (by have := emL_cov (l := l) (w := w) (plL l).length 0 (by omega) (by omega); rwa [stI_zero] at this)
    · refine Ev.bind (obest_bad h) ?_
      simp only [if_neg h]
      exact Ev.now _
  exact key.rounds
end Go.Proofs.Ytfbanppdiglciaa.Pure
