/- OptimalLeast answers true: no other breaks are better than those that are answered. No condition. -/
import Derived.Test.YtfbanppdiglciaaXx0
import Derived.Test.YtfbanppdiglciaaXx13
import Derived.Test.YtfbanppdiglciaaXx24
import Derived.Test.YtfbanppdiglciaaXx25
import Derived.Test.YtfbanppdiglciaaOptH
import Derived.Test.YtfbanppdiglciaaOptAlive
import Derived.Test.YtfbanppdiglciaaXx26
set_option linter.unusedVariables false
set_option linter.unusedSimpArgs false
namespace Go.Proofs.Ytfbanppdiglciaa.Pure
open Go Go.RowKit Go.Proofs.Ytfbanppdiglciaa.X Go.Proofs.YtfbanppdiglciaaW.PrintWords Go.Proofs.YtfbanppdiglciaaW.PrintLast
theorem told_some {o : Option Int} {X : Int × Bool} (h : SetTold o 0 X) : (X.2 = true ∧ o = some X.1) ∨ (X.2 = false ∧ o = none) := by
  match o, h with
  | some c, h =>
    have h' : X = (0 + c, true) := h
    subst h'
    exact .inl ⟨rfl, by simp⟩
  | none, h => exact .inr ⟨h, rfl⟩
theorem cost_len' {l : List S31} {w t : Int} {E : Nat} : ∀ (L : List Int) (a : Nat) (c : Int), cost l w t E a L = some c → L.length + a ≤ E
  | [], a, c, h => by
    simp only [cost] at h
    split at h
    · simp; omega
    · cases h
  | x :: r, a, c, h => by
    obtain ⟨d, c', h1, h2, _⟩ := cost_cons h
    have := (stp_le (stZ_some h1).2).1
    have := cost_len' r _ c' h2
    simp only [List.length_cons]; omega
theorem OptimalLeast : seriflaw19_OptimalLeast.Pure := by
  intro l ⟨w, t⟩ L2 ⟨_, hl, _⟩ _ ⟨_, hl2, _⟩
  have key : Ev (fun k => seriflaw19_OptimalLeast.f k l w t L2) true := by
    unfold seriflaw19_OptimalLeast.f
    refine Ev.bind oalive ?_
    simp only [if_true]
    refine Ev.bind (rcheck l w t) ?_
    have easy : Ev (fun k => seriflaw19_OptimalLeast.j0 k l L2 w t true) true := Ev.intro 1 fun k => by
      rw [seriflaw19_OptimalLeast.j0, if_pos rfl]
    by_cases h : chkL l w t = 0
    · simp only [if_pos h]
      by_cases big : (l.length : Int) > 200
      · rw [decide_eq_true big]; exact easy
      · rw [decide_eq_false big]
        have F := Fine.of h
        have n := F.len
        have q : ([] : List S31).length + l.length < 2932031007402 := by simp; omega
        obtain ⟨X2, hd2, ht2⟩ := ldem F (L := L2) (by omega)
        have j0 : ∀ (L : List Int) (c : Int) (e : Bool) (X : Int × Bool), Ev (fun k => optimal_Best.f k l w t) (L, c, e, 0) → Ev (fun k => seriflaw19_demerits.f k l L w t) X →
            Ev (fun k => if (X.2 == e) = true then (seriflaw19_OptimalLeast.j1 k l L2 w t X.1 X.2 true L c e) else (if X.2 = true then seriflaw19_OptimalLeast.j1 k l L2 w t X.1 X.2 (X.1 != c) L c e else seriflaw19_OptimalLeast.j1 k l L2 w t X.1 X.2 false L c e)) true →
            Ev (fun k => seriflaw19_OptimalLeast.j0 k l L2 w t false) true := fun L c e X h1 h2 h3 => by
          refine Ev.step (f := fun k => (optimal_Best.f k l w t).bind fun bt => if bt.2.2.2 = 0 then ((seriflaw19_demerits.f k l bt.1 w t).bind fun X => if (X.2 == bt.2.2.1) = true then (seriflaw19_OptimalLeast.j1 k l L2 w t X.1 X.2 true bt.1 bt.2.1 bt.2.2.1) else (if X.2 = true then seriflaw19_OptimalLeast.j1 k l L2 w t X.1 X.2 (X.1 != bt.2.1) bt.1 bt.2.1 bt.2.2.1 else seriflaw19_OptimalLeast.j1 k l L2 w t X.1 X.2 false bt.1 bt.2.1 bt.2.2.1)) else none) (fun k => ?_) (Ev.bind h1 ?_)
          · rw [seriflaw19_OptimalLeast.j0, if_neg (by simp), Option.bind_some, if_pos q, List.nil_append]
          · simp only [if_true]
            exact Ev.bind h2 h3
        rcases obest h with ⟨c, L, hB, hE⟩ | ⟨hN, hE⟩
        · have hlen := cost_len' _ _ _ hB.1
          obtain ⟨X, hd, ht⟩ := ldem F (L := L) (by omega)
          rw [hB.1] at ht
          have hX : X = (0 + c, true) := ht
          subst hX
          refine j0 L c false _ hE hd ?_
          simp only [Bool.true_beq, Bool.false_eq_true, if_false, if_true, Int.zero_add, bne_self_eq_false]
          refine Ev.step (f := fun k => (seriflaw19_demerits.f k l L2 w t).bind fun bt => if bt.2 = true then (if c < bt.1 then some true else if c = bt.1 then ((serifref19_Sooner.f k L2 L).bind fun s => some (!s)) else none) else some true) (fun k => ?_) (Ev.bind hd2 ?_)
          · rw [seriflaw19_OptimalLeast.j1, if_neg (by simp)]
            simp only [if_true]
          · rcases told_some ht2 with ⟨e1, e2⟩ | ⟨e1, e2⟩
            · simp only [e1, if_true]
              rcases hB.2 _ _ e2 with g | ⟨g, g'⟩
              · simp only [if_pos g]; exact Ev.now _
              · simp only [if_neg (show ¬ c < X2.1 by omega), if_pos g]
                have hs := rsooner L2 L (by omega)
                rw [g'] at hs
                exact Ev.bind hs (Ev.now true)
            · simp only [e1, Bool.false_eq_true, if_false]; exact Ev.now _
        · have hl' := emL_len (l := l) (w := w) (plL l).length 0
          have := plL_len l
          obtain ⟨X, hd, ht⟩ := ldem F (L := emL l w (plL l).length 0) (by omega)
          rw [hN] at ht
          have hX : X.2 = false := ht
          refine j0 _ 0 true X hE hd ?_
          simp only [hX, Bool.false_beq, Bool.not_true, Bool.false_eq_true, if_false]
          refine Ev.step (f := fun k => (seriflaw19_demerits.f k l L2 w t).bind fun bt => if bt.2 = true then none else some true) (fun k => ?_) (Ev.bind hd2 ?_)
          · rw [seriflaw19_OptimalLeast.j1, if_neg (by simp)]
            simp only [Bool.false_eq_true, if_false]
          · rcases told_some ht2 with ⟨e1, e2⟩ | ⟨e1, e2⟩
            · rw [hN] at e2; cases e2
            · simp only [e1, Bool.false_eq_true, if_false]; exact Ev.now _
    · simp only [if_neg h]
      exact easy
  exact key.rounds
end Go.Proofs.Ytfbanppdiglciaa.Pure
