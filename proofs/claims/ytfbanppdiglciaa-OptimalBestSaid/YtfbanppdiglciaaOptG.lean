import Derived.Test.YtfbanppdiglciaaXx0
import Derived.Test.YtfbanppdiglciaaXx12
import Derived.Test.YtfbanppdiglciaaXx13
import Derived.Test.YtfbanppdiglciaaOptD
set_option linter.unusedVariables false
set_option linter.unusedSimpArgs false
namespace Go.Proofs.Ytfbanppdiglciaa.X
open Go Go.RowKit Go.Proofs.YtfbanppdiglciaaW.PrintWords Go.Proofs.YtfbanppdiglciaaW.PrintLast Go.Proofs.YtfbanppdiglciaaW.PrintMore
def emC (l : List S31) (w : Int) (a : Nat) : Nat → Nat → Nat → Nat
  | 0, _, ch => ch
  | d + 1, j, ch =>
    let ch' := if (jq l a (zu l j)).1 - (jq l a (zu l j)).2.2 ≤ w then j else ch
    if fcB l (zu l j) = true then ch' else emC l w a d (j + 1) ch'
def emL (l : List S31) (w : Int) : Nat → Nat → List Int
  | 0, _ => []
  | d + 1, i => if i < (plL l).length then (zu l (emC l w (stI l i) ((plL l).length - i) i i) : Int) :: emL l w d (emC l w (stI l i) ((plL l).length - i) i i + 1) else []
theorem pos_nf (l : List S31) {j : Nat} (h : j < (plL l).length) {x : Nat} (h1 : stI l j ≤ x) (h2 : x < zu l j) : fcB l x = false := by
  cases hs : fcB l x with
  | false => rfl
  | true => have := fc_pl hs; rw [(jK l h).2.2.2.2 x h1 h2] at this; cases this
theorem Jj {l : List S31} {w : Int} {i : Nat} : ∀ (d j ch : Nat), (plL l).length - j = d → i ≤ ch → (ch < j ∨ (ch = j ∧ j = i)) → j ≤ (plL l).length → i < (plL l).length → ch < (plL l).length → (∀ x, stI l i ≤ x → x < stI l j → fcB l x = false) →
    i ≤ emC l w (stI l i) d j ch ∧ emC l w (stI l i) d j ch < (plL l).length ∧ ∀ x, stI l i ≤ x → x < zu l (emC l w (stI l i) d j ch) → fcB l x = false
  | 0, j, ch, e, h1, h2, h3, h4, h5, nf => by
    refine ⟨h1, h5, fun x hx hx' => ?_⟩
    simp only [emC] at hx'
    rcases h2 with h2 | ⟨h2, h2'⟩
    · have := QP l (i := ch + 1) j (by omega) h3
      rw [Qn] at this
      exact nf x hx (by omega)
    · subst h2; subst h2'; exact pos_nf l h5 hx hx'
  | d + 1, j, ch, e, h1, h2, h3, h4, h5, nf => by
    have hj : j < (plL l).length := by omega
    have hij : i ≤ j := by omega
    have nf' : ∀ x, stI l i ≤ x → x < zu l j → fcB l x = false := fun x hx hx' => by
      by_cases c : x < stI l j
      · exact nf x hx c
      · exact pos_nf l hj (by omega) hx'
    have low : ∀ x, stI l i ≤ x → x < zu l ch → fcB l x = false := fun x hx hx' => by
      rcases h2 with h2 | ⟨h2, h2'⟩
      · have := QP l (i := ch + 1) j (by omega) h3
        rw [Qn] at this
        exact nf x hx (by omega)
      · subst h2; exact nf' x hx hx'
    simp only [emC]
    by_cases cf : fcB l (zu l j) = true
    · rw [if_pos cf]
      split
      · exact ⟨hij, hj, nf'⟩
      · exact ⟨h1, h5, low⟩
    · rw [if_neg cf]
      have nf'' : ∀ x, stI l i ≤ x → x < stI l (j + 1) → fcB l x = false := fun x hx hx' => by
        rw [Qn] at hx'
        by_cases e : x = zu l j
        · subst e; simpa using cf
        · exact nf' x hx (by omega)
      split
      · exact Jj d (j + 1) j (by omega) hij (.inl (by omega)) (by omega) h4 hj nf''
      · exact Jj d (j + 1) ch (by omega) h1 (.inl (by omega)) (by omega) h4 h5 nf''
theorem emC_at {l : List S31} {w : Int} {i : Nat} (h : i < (plL l).length) : i ≤ emC l w (stI l i) ((plL l).length - i) i i ∧ emC l w (stI l i) ((plL l).length - i) i i < (plL l).length ∧ ∀ x, stI l i ≤ x → x < zu l (emC l w (stI l i) ((plL l).length - i) i i) → fcB l x = false :=
  Jj _ i i rfl (by omega) (.inr ⟨rfl, rfl⟩) (by omega) h h (fun x hx hx' => by omega)
theorem emL_cov {l : List S31} {w : Int} : ∀ (d i : Nat), (plL l).length - i ≤ d → i ≤ (plL l).length → covB l (stI l i) (emL l w d i) = true
  | 0, i, h, h' => by
    obtain rfl : i = (plL l).length := by omega
    simp [emL, covB, Q3]
  | d + 1, i, h, h' => by
    by_cases c : i < (plL l).length
    · obtain ⟨e1, e2, e3⟩ := emC_at (w := w) c
      have pf := jK l e2
      have mono := QP l (i := i) _ e1 (by omega)
      have pf1 := pf.2.1
      have ih := emL_cov (l := l) (w := w) d (emC l w (stI l i) ((plL l).length - i) i i + 1) (by omega) (by omega)
      rw [Qn] at ih
      have gp : gapB l (stI l i) (zu l (emC l w (stI l i) ((plL l).length - i) i i)) = true := (Qp l _ _).2 ⟨by omega, pf.2.2.1, pf.2.2.2.1, e3⟩
      simp only [emL, if_pos c, covB]
      rw [show ((zu l (emC l w (stI l i) ((plL l).length - i) i i) : Nat) : Int).toNat = zu l (emC l w (stI l i) ((plL l).length - i) i i) by omega, ih, gp]
      simp
    · obtain rfl : i = (plL l).length := by omega
      simp [emL, covB, Q3]
theorem emL_len {l : List S31} {w : Int} : ∀ (d i : Nat), (emL l w d i).length ≤ d
  | 0, _ => by simp [emL]
  | d + 1, i => by
    simp only [emL]
    split
    · have := emL_len (l := l) (w := w) d (emC l w (stI l i) ((plL l).length - i) i i + 1); simp only [List.length_cons]; omega
    · simp
theorem em_l1 {l : List S31} {w t : Int} (F : jL l w t) {i : Nat} (hi : i < (plL l).length) {acc : List Int} (ha : acc.length ≤ 5000) {X : List Int × Int} :
    ∀ (d j ch : Nat), (plL l).length - j = d → i ≤ j → j ≤ (plL l).length → ch < (plL l).length →
    Ev (fun k => qw.l0 k (plL l) (acc ++ [(zu l (emC l w (stI l i) d j ch) : Int)]) (zu l (emC l w (stI l i) d j ch) : Int) ((emC l w (stI l i) d j ch + 1 : Nat) : Int) l (zQ l) (zP l) w) X →
    Ev (fun k => qw.l1 k (plL l) acc ((stI l i : Int) - 1) (ch : Int) (j : Int) l (zQ l) (zP l) w) X := by
  have n := F.len
  have pn := QF l
  have skl : stI l i ≤ l.length := by have := (jK l hi).2; omega
  intro d
  induction d with
  | zero =>
    intro j ch e hj hj' hch h
    refine Ev.step (fun k => ?_) h
    have pc := (jK l hch).1
    simp only [qw.l1, emC]
    rw [if_neg (by omega), if_pos (by omega), if_pos (by omega), if_pos (by omega), pc, w64 (n := (ch : Int) + 1) (by omega) (by omega), show (ch : Int) + 1 = ((ch + 1 : Nat) : Int) by omega]
  | succ d ih =>
    intro j ch e hj hj' hch h
    have hjm : j < (plL l).length := by omega
    have pj := jK l hjm
    have pc := (jK l hch).1
    have lb := QB F (stI l i) (tt := zu l j) pj.2.2.1
    simp only [emC] at h
    refine Ev.step (f := fun k => if (jq l (stI l i) (zu l j)).1 - (jq l (stI l i) (zu l j)).2.2 ≤ w then (if fcB l (zu l j) = true then qw.l0 k (plL l) (acc ++ [(zu l j : Int)]) (zu l j : Int) ((j + 1 : Nat) : Int) l (zQ l) (zP l) w else qw.l1 k (plL l) acc ((stI l i : Int) - 1) (j : Int) ((j + 1 : Nat) : Int) l (zQ l) (zP l) w)
      else (if fcB l (zu l j) = true then qw.l0 k (plL l) (acc ++ [(zu l ch : Int)]) (zu l ch : Int) ((ch + 1 : Nat) : Int) l (zQ l) (zP l) w else qw.l1 k (plL l) acc ((stI l i : Int) - 1) (ch : Int) ((j + 1 : Nat) : Int) l (zQ l) (zP l) w)) (fun k => ?_) ?_
    · have e1 : wrap64 ((j : Int) + 1) = ((j + 1 : Nat) : Int) := by rw [w64 (by omega) (by omega)]; omega
      have e2 : wrap64 ((ch : Int) + 1) = ((ch + 1 : Nat) : Int) := by rw [w64 (by omega) (by omega)]; omega
      have e3 : wrap64 ((jq l (stI l i) (zu l j)).1 - (jq l (stI l i) (zu l j)).2.2) = (jq l (stI l i) (zu l j)).1 - (jq l (stI l i) (zu l j)).2.2 := w64 (by omega) (by omega)
      have E1 := qa.mk e1
      have E2 := qa.mk e2
      have E3 := qa.mk e3
      clear e1 e2 e3
      have q0 : acc.length < 17592186044416 := by omega
      have q1 : (0 : Int) ≤ (ch : Int) := by omega
      have q2 : (ch : Int) < ((plL l).length : Int) := by omega
      rw [qw.l1, if_pos (by omega), if_pos (by omega), pj.1, oline F skl pj.2.2.1, Option.bind_some, E3.out, E1.out, E2.out, pc, oforced, Option.bind_some, Option.bind_some]
      simp only [q0, q1, q2, if_true]
    · by_cases c : (jq l (stI l i) (zu l j)).1 - (jq l (stI l i) (zu l j)).2.2 ≤ w
      · simp only [if_pos c] at h ⊢
        by_cases cf : fcB l (zu l j) = true
        · simp only [if_pos cf] at h ⊢; exact h
        · simp only [if_neg cf] at h ⊢
          exact ih (j + 1) j (by omega) (by omega) (by omega) hjm h
      · simp only [if_neg c] at h ⊢
        by_cases cf : fcB l (zu l j) = true
        · simp only [if_pos cf] at h ⊢; exact h
        · simp only [if_neg cf] at h ⊢
          exact ih (j + 1) ch (by omega) (by omega) (by omega) hch h
theorem em_l0 {l : List S31} {w t : Int} (F : jL l w t) : ∀ (d i : Nat) (acc : List Int), (plL l).length - i ≤ d → i ≤ (plL l).length → acc.length ≤ i →
    Ev (fun k => qw.l0 k (plL l) acc ((stI l i : Int) - 1) (i : Int) l (zQ l) (zP l) w) (acc ++ emL l w d i, w)
  | d, i, acc, h, h', ha => by
    have n := F.len
    have pn := QF l
    by_cases c : i < (plL l).length
    · cases d with
      | zero => omega
      | succ d =>
        obtain ⟨e1, e2, e3⟩ := emC_at (w := w) c
        have ih := em_l0 F d (emC l w (stI l i) ((plL l).length - i) i i + 1) (acc ++ [(zu l (emC l w (stI l i) ((plL l).length - i) i i) : Int)]) (by omega) (by omega) (by simp; omega)
        rw [Qn, show ((zu l (emC l w (stI l i) ((plL l).length - i) i i) + 1 : Nat) : Int) - 1 = (zu l (emC l w (stI l i) ((plL l).length - i) i i) : Int) by omega] at ih
        have := em_l1 F c (acc := acc) (by omega) _ i i rfl (by omega) (by omega) c ih
        refine Ev.step (fun k => ?_) (by simpa [emL, if_pos c] using this)
        rw [qw.l0, if_pos (by omega)]
    · have e : emL l w d i = [] := by cases d <;> simp [emL, c]
      rw [e, List.append_nil]
      refine Ev.intro 1 fun k => ?_
      rw [qw.l0, if_neg (by omega)]
theorem em_f {l : List S31} {w t : Int} (F : jL l w t) : Ev (fun k => qw.f k l (zQ l) (zP l) w (plL l)) (emL l w (plL l).length 0, w) := by
  have := em_l0 F (plL l).length 0 [] (by omega) (by omega) (by simp)
  simpa [qw.f, JF] using this
theorem told_l0 {l : List S31} {w t : Int} (F : jL l w t) {out : List S59} {Ls : Nat → List Int} (hl : out.length = (plL l).length + 1) (he : ∀ i, i ≤ (plL l).length → Ent l w t Ls out i) (c : Int) :
    ∀ (d i : Nat) (acc : List Int), (plL l).length - i ≤ d → i ≤ (plL l).length → acc.length ≤ i → (qX out (i : Int)).f2 = true → Ev (fun k => qV.l0 k (plL l) out (i : Int) acc c false) (acc ++ Ls i, c, false, 0)
  | d, i, acc, h, h', ha, hg => by
    have n := F.len
    have pn := QF l
    obtain ⟨_, g1, g2⟩ := (he i h').1 hg
    by_cases hi : i < (plL l).length
    · cases d with
      | zero => omega
      | succ d =>
        obtain ⟨j, k1, k2, k3, k4, k5⟩ := g1 hi
        have ih := told_l0 F hl he c d (j + 1) (acc ++ [(zu l j : Int)]) (by omega) (by omega) (by simp; omega) k5
        rw [k4]
        refine Ev.step (fun k => ?_) (by simpa using ih)
        rw [qV.l0, if_pos (by omega), if_pos (by omega), if_pos (by omega), k1, if_pos (by omega), if_pos (by omega), if_pos (by omega), (jK l k3).1, w64 (n := (j : Int) + 1) (by omega) (by omega), show (j : Int) + 1 = ((j + 1 : Nat) : Int) by omega]
    · rw [g2 (by omega), List.append_nil]
      refine Ev.intro 1 fun k => ?_
      rw [qV.l0, if_neg (by omega)]
theorem obest_bad {l : List S31} {w t : Int} (h : QG l w t ≠ 0) : Ev (fun k => qV.f k l w t) ([], 0, false, QG l w t) := by
  unfold qV.f
  refine Ev.bind (ocheck l w t) ?_
  simp only [if_neg h]
  exact Ev.now _
theorem obest {l : List S31} {w t : Int} (h : QG l w t = 0) : (∃ c L, Bst l w t (l.length + 1) 0 c L ∧ Ev (fun k => qV.f k l w t) (L, c, false, 0)) ∨ (Non l w t (l.length + 1) 0 ∧ Ev (fun k => qV.f k l w t) (emL l w (plL l).length 0, 0, true, 0)) := by
  have F := jL.of h
  have n := F.len
  obtain ⟨out, h1, hl, Ls, he⟩ := best_f F
  have e0 := he 0 (by omega) (by omega)
  have hr : jM.f l w = some (l, zQ l, zP l, w) := by unfold jM.f; rw [if_pos (by omega)]
  have q : (0 : Int) < (out.length : Int) := by omega
  by_cases c : (qX out 0).f2 = true
  · left
    have c' : (qX out ((0 : Nat) : Int)).f2 = true := c
    obtain ⟨B, _, _⟩ := e0.1 c'
    refine ⟨_, _, B, ?_⟩
    unfold qV.f
    refine Ev.bind (ocheck l w t) ?_
    simp only [h, if_true, hr, Option.bind_some]
    refine Ev.bind (places l F.len) (Ev.bind h1 ?_)
    simp only [q, c, if_true]
    simpa using told_l0 F hl (fun i hi => he i (by omega) hi) (qX out 0).f1 (plL l).length 0 [] (by omega) (by omega) (by simp) c'
  · right
    have c' : (qX out ((0 : Nat) : Int)).f2 = false := by simpa using c
    refine ⟨e0.2 c', ?_⟩
    unfold qV.f
    refine Ev.bind (ocheck l w t) ?_
    simp only [h, if_true, hr, Option.bind_some]
    refine Ev.bind (places l F.len) (Ev.bind h1 ?_)
    simp only [q, c, if_true, if_false]
    exact Ev.bind (em_f F) (Ev.now _)
end Go.Proofs.Ytfbanppdiglciaa.X
