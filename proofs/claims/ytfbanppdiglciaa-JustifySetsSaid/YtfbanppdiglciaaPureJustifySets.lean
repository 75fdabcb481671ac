/- JustifySets answers true for any items, any line and any width: Set answers what the reference's Set does, and the items stay. No condition beyond the sizes that any argument has. -/
import Derived.Test.YtfbanppdiglciaaYx0
import Derived.Test.YtfbanppdiglciaaJusAliveY
import Derived.Test.YtfbanppdiglciaaJusFactY
import Derived.Test.YtfbanppdiglciaaJusRefY
import Derived.Test.YtfbanppdiglciaaYx26
import Derived.Test.YtfbanppdiglciaaYx3
set_option linter.unusedVariables false
set_option linter.unusedSimpArgs false
namespace Go.Proofs.Ytfbanppdiglciaa.Pure
open Go Go.RowKit Go.Proofs.Ytfbanppdiglciaa.Y Go.Proofs.YtfbanppdiglciaaW.PrintWords Go.Proofs.YtfbanppdiglciaaW.PrintLast
theorem same_l0 (R : List Int) (hR : R.length ≤ 100000) : ∀ (d i : Nat), R.length - i = d → i ≤ R.length → Ev (fun k => serifref02_SameInts.l0 k R R (R.length : Int) (i : Int)) true := by
  intro d
  induction d with
  | zero =>
    intro i e hi
    refine Ev.intro 1 fun k => ?_
    simp only [serifref02_SameInts.l0]; rw [if_neg (by omega)]
  | succ d ih =>
    intro i e hi
    refine Ev.step (fun k => ?_) (ih (i + 1) (by omega) (by omega))
    simp only [serifref02_SameInts.l0]
    rw [if_pos (by omega), if_pos (by omega), if_pos (by omega), if_pos (by omega), if_pos trivial, wrap64_in' (n := (i : Int) + 1) (by omega) (by omega)]; rfl
theorem same_ev (R : List Int) (hR : R.length ≤ 100000) : Ev (fun k => serifref02_SameInts.f k R R) true := by
  unfold serifref02_SameInts.f
  simp only [if_true]
  exact same_l0 R hR R.length 0 (by omega) (by omega)
theorem sets_l0 (L : List S31) (hL : L.length < 2932031007402) (R : List Int) (hR : R.length ≤ 100000) (b : Bool) (e : Int) : ∀ (d i : Nat), L.length - i = d → i ≤ L.length → Ev (fun k => seriflaw20_JustifySets.l0 k L L R b e R b e (L.length : Int) (i : Int)) true := by
  intro d
  induction d with
  | zero =>
    intro i h hi
    refine Ev.step (f := fun k => (serifref02_SameInts.f k R R).bind fun t322 => some t322) (fun k => ?_) (Ev.bind (same_ev R hR) ⟨0, fun _ _ => rfl⟩)
    simp only [seriflaw20_JustifySets.l0]; rw [if_neg (by omega), if_pos trivial, if_pos (by simp)]
  | succ d ih =>
    intro i h hi
    refine Ev.step (fun k => ?_) (ih (i + 1) (by omega) (by omega))
    simp only [seriflaw20_JustifySets.l0]
    rw [if_pos (by omega), if_pos (by omega), if_pos (by omega), if_pos (by omega), if_neg (by simp), wrap64_in' (n := (i : Int) + 1) (by omega) (by omega)]; rfl
theorem setV_len (L : List S31) (a1 a2 w : Int) : (setV L a1 a2 w).1.length ≤ 100000 := by
  unfold setV
  by_cases c : chkL L w 0 ≠ 0 ∨ a1 < -1 ∨ a2 ≤ a1 ∨ (L.length : Int) < a2
  · rw [if_pos c]; simp
  · rw [if_neg c]
    have F := Fine.of (Classical.byContradiction fun z => c (.inl z) : chkL L w 0 = 0)
    have := F.len
    have := setR_len (L := L) (a := (a1 + 1).toNat) (t := a2.toNat) (w := w) (by omega)
    have := jE_len L a2.toNat
    show (setR L _ _ w).length ≤ _
    omega
theorem JustifySets : seriflaw20_JustifySets.Pure := by
  intro L x w ⟨_, hsz, _⟩ _ _
  have key : Ev (fun k => seriflaw20_JustifySets.f k L x.f0 x.f1 w) true := by
    unfold seriflaw20_JustifySets.f
    refine Ev.bind jalive ?_
    simp only [if_true, Option.bind_some, List.length_nil, Nat.zero_add, List.nil_append, show L.length < 2932031007402 by omega]
    refine Ev.bind (ref_ev L x.f0 x.f1 w) (Ev.bind (set_ev L x.f0 x.f1 w) ?_)
    exact sets_l0 L (by omega) _ (setV_len L x.f0 x.f1 w) _ _ L.length 0 (by omega) (by omega)
  exact ⟨key.choose, key.choose_spec _ (Nat.le_refl _)⟩
end Go.Proofs.Ytfbanppdiglciaa.Pure
