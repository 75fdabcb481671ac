import Derived.Test.YtfbanppdiglciaaXx0
import Derived.Test.YtfbanppdiglciaaXx13
import Derived.Test.YtfbanppdiglciaaXx14
import Derived.Test.YtfbanppdiglciaaXx20
import Derived.Test.YtfbanppdiglciaaXx28
import Derived.Test.YtfbanppdiglciaaOptE
import Derived.Test.YtfbanppdiglciaaOptAlive
import Derived.Test.YtfbanppdiglciaaXx29
set_option linter.unusedVariables false
set_option linter.unusedSimpArgs false
namespace Go.Proofs.Ytfbanppdiglciaa.Pure
open Go Go.RowKit Go.Proofs.Ytfbanppdiglciaa.X Go.Proofs.YtfbanppdiglciaaW.PrintWords Go.Proofs.YtfbanppdiglciaaW.PrintLast
theorem same_l0 (L : List Int) (hL : (L.length : Int) < 9223372036854775807) : ∀ (d i : Nat), L.length - i = d → i ≤ L.length → Ev (fun k => qL.l0 k L L (L.length : Int) (i : Int)) true := by
  intro d
  induction d with
  | zero =>
    intro i e hi
    exact Ev.intro 1 fun k => by rw [qL.l0, if_neg (by omega)]
  | succ d ih =>
    intro i e hi
    refine Ev.step (fun k => ?_) (ih (i + 1) (by omega) (by omega))
    rw [qL.l0, if_pos (by omega), if_pos (by omega), if_pos (by omega), if_pos (by omega), if_pos rfl, w64 (n := (i : Int) + 1) (by omega) (by omega)]; rfl
theorem same_refl (L : List Int) (hL : (L.length : Int) < 9223372036854775807) : Ev (fun k => qL.f k L L) true := by
  have := same_l0 L hL L.length 0 (by omega) (by omega)
  unfold qL.f
  simp only [if_true]
  exact this
theorem stay {l : List S31} {w t : Int} {e c : Int} {L : List Int} {b : Bool} (hl : (l.length : Int) < 9223372036854775807) {X : Bool} (h : Ev (fun k => qZ.l0 k l w t l e (l.length : Int) (l.length : Int) L c b) X) :
    ∀ (d i : Nat), l.length - i = d → i ≤ l.length → Ev (fun k => qZ.l0 k l w t l e (l.length : Int) (i : Int) L c b) X := by
  intro d
  induction d with
  | zero =>
    intro i e hi
    obtain rfl : i = l.length := by omega
    exact h
  | succ d ih =>
    intro i e hi
    refine Ev.step (fun k => ?_) (ih (i + 1) (by omega) (by omega))
    rw [qZ.l0, if_pos (by omega), if_pos (by omega), if_pos (by omega), if_pos (by omega), if_neg (by simp), w64 (n := (i : Int) + 1) (by omega) (by omega)]; rfl
theorem OptimalBest : qZ.Pure := by
  intro l w t ⟨_, hl, _⟩ _ _
  have key : Ev (fun k => qZ.f k l w t) true := by
    unfold qZ.f
    refine Ev.bind oalive ?_
    have q : ([] : List S31).length + l.length < 2932031007402 := by simp; omega
    simp only [if_true, Option.bind_some, q, List.nil_append]
    have fin : ∀ (L : List Int) (c : Int) (b : Bool) (e : Int), Ev (fun k => qV.f k l w t) (L, c, b, e) → Ev (fun k => qZ.l0 k l w t l e (l.length : Int) (l.length : Int) L c b) true →
        Ev (fun k => (qV.f k l w t).bind fun bt => qZ.l0 k l w t l bt.2.2.2 (l.length : Int) 0 bt.1 bt.2.1 bt.2.2.1) true := fun L c b e h1 h2 =>
      Ev.bind h1 (stay (by omega) h2 l.length 0 (by omega) (by omega))
    by_cases h : QG l w t = 0
    · have F := jL.of h
      have n := F.len
      have pn := QF l
      obtain ⟨R, hR, hA⟩ := rbest h
      have main : ∀ (L : List Int) (c : Int) (b : Bool), (L.length : Int) ≤ 10000 → (L.length : Int) ≠ 0 → R = (L, c, b, 0) → Ev (fun k => qZ.l0 k l w t l 0 (l.length : Int) (l.length : Int) L c b) true := fun L c b h1 h2 hr => by
        by_cases big : (l.length : Int) > 200
        · refine Ev.step (f := fun k => (zf.f k l w t).bind fun x => if 0 = x then some ((x != 0) == ((L.length : Int) == 0)) else none) (fun k => ?_) (Ev.bind (rcheck l w t) ?_)
          · rw [qZ.l0, if_neg (by omega), if_pos big]
          · rw [h]
            have : ((L.length : Int) == 0) = false := by simpa using h2
            simp only [this, if_true, bne_self_eq_false]
            exact Ev.now _
        · refine Ev.step (f := fun k => (qf.f k l w t).bind fun bt => if 0 = bt.2.2.2 then ((qL.f k L bt.1).bind fun s => if s = true then (if c = bt.2.1 then some (b == bt.2.2.1) else none) else none) else none) (fun k => ?_) (Ev.bind hR ?_)
          · rw [qZ.l0, if_neg (by omega), if_neg big]
          · subst hr
            simp only [if_true]
            refine Ev.bind (same_refl L (by omega)) ?_
            simp only [if_true, beq_self_eq_true]
            exact Ev.now _
      rcases obest h with ⟨c, L, hB, hE⟩ | ⟨hN, hE⟩
      · rcases hA with ⟨c', L', hB', hr⟩ | ⟨hN', _⟩
        · obtain ⟨rfl, rfl⟩ := hB.uniq hB'
          have hlen := JG _ _ _ hB.1
          refine fin L c false 0 hE (main L c false (by omega) (fun e => ?_) hr)
          have : L = [] := List.length_eq_zero_iff.1 (by omega)
          subst this
          have := hB.1
          simp [cost] at this
        · exact (hB.not hN').elim
      · rcases hA with ⟨c', L', hB', _⟩ | ⟨_, hr⟩
        · exact (hB'.not hN).elim
        · have hl' := emL_len (l := l) (w := w) (plL l).length 0
          refine fin _ 0 true 0 hE (main _ 0 true (by omega) (fun e => ?_) hr)
          have hc := emL_cov (l := l) (w := w) (plL l).length 0 (by omega) (by omega)
          rw [JF] at hc
          have : emL l w (plL l).length 0 = [] := List.length_eq_zero_iff.1 (by omega)
          rw [this] at hc
          simp [covB] at hc
    · have bad := obest_bad h
      refine fin [] 0 false _ bad ?_
      by_cases big : (l.length : Int) > 200
      · refine Ev.step (f := fun k => (zf.f k l w t).bind fun x => if QG l w t = x then some ((x != 0) == true) else none) (fun k => ?_) (Ev.bind (rcheck l w t) ?_)
        · rw [qZ.l0, if_neg (by omega), if_pos big]; rfl
        · have : (QG l w t != 0) = true := by simpa using h
          simp only [if_true, this, beq_self_eq_true]
          exact Ev.now _
      · refine Ev.step (f := fun k => (qf.f k l w t).bind fun bt => if QG l w t = bt.2.2.2 then ((qL.f k [] bt.1).bind fun s => if s = true then (if 0 = bt.2.1 then some (false == bt.2.2.1) else none) else none) else none) (fun k => ?_) (Ev.bind (rbest_bad h) ?_)
        · rw [qZ.l0, if_neg (by omega), if_neg big]
        · simp only [if_true]
          refine Ev.bind (same_refl [] (by simp)) ?_
          simp only [if_true, beq_self_eq_true]
          exact Ev.now _
  exact key.rounds
end Go.Proofs.Ytfbanppdiglciaa.Pure
