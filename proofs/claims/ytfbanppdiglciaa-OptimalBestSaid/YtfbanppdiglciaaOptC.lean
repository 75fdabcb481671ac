import Derived.Test.YtfbanppdiglciaaXx0
import Derived.Test.YtfbanppdiglciaaOptF
set_option linter.unusedVariables false
set_option linter.unusedSimpArgs false
namespace Go.Proofs.Ytfbanppdiglciaa.X
open Go Go.RowKit Go.Proofs.YtfbanppdiglciaaW.PrintWords Go.Proofs.YtfbanppdiglciaaW.PrintLast Go.Proofs.YtfbanppdiglciaaW.PrintMore
def jO : List Int → List Int → Bool
  | [], [] => false
  | [], _ :: _ => true
  | _ :: _, [] => false
  | a :: r, b :: s => if a = b then jO r s else decide (a < b)
theorem JH : ∀ L : List Int, jO L L = false
  | [] => rfl
  | a :: r => by simp only [jO, if_true]; exact JH r
theorem JE : ∀ L L' : List Int, jO L L' = false → jO L' L = false → L = L'
  | [], [], _, _ => rfl
  | [], b :: s, h, _ => by simp [jO] at h
  | a :: r, [], _, h => by simp [jO] at h
  | a :: r, b :: s, h, h' => by
    simp only [jO] at h h'
    by_cases e : a = b
    · subst e
      rw [if_pos rfl] at h h'
      rw [JE r s h h']
    · rw [if_neg e] at h
      rw [if_neg (fun z => e z.symm)] at h'
      have := of_decide_eq_false h; have := of_decide_eq_false h'
      omega
theorem ZY : ∀ A B C : List Int, jO A B = true → jO B C = true → jO A C = true
  | [], _, [], _, h => by cases ‹List Int› <;> simp [jO] at h
  | [], _, c :: t, _, _ => rfl
  | a :: r, [], _, h, _ => by simp [jO] at h
  | a :: r, b :: s, [], _, h => by simp [jO] at h
  | a :: r, b :: s, c :: t, h, h' => by
    simp only [jO] at h h' ⊢
    by_cases e : a = b
    · subst e
      rw [if_pos rfl] at h
      by_cases e2 : a = c
      · subst e2; rw [if_pos rfl] at h' ⊢; exact ZY r s t h h'
      · rw [if_neg e2] at h' ⊢; exact h'
    · rw [if_neg e] at h
      have h1 := of_decide_eq_true h
      by_cases e2 : b = c
      · subst e2; rw [if_neg e]; exact h
      · rw [if_neg e2] at h'
        have h2 := of_decide_eq_true h'
        rw [if_neg (by omega)]; exact decide_eq_true (by omega)
def NW (c : Int) (L : List Int) (c' : Int) (L' : List Int) : Prop := c < c' ∨ (c = c' ∧ jO L' L = false)
theorem NW.refl (c : Int) (L : List Int) : NW c L c L := .inr ⟨rfl, JH L⟩
theorem NW.trans {a b c : Int} {A B C : List Int} (h : NW a A b B) (h' : NW b B c C) : NW a A c C := by
  rcases h with h | ⟨rfl, h⟩
  · rcases h' with h' | ⟨rfl, h'⟩
    · exact .inl (by omega)
    · exact .inl h
  · rcases h' with h' | ⟨rfl, h'⟩
    · exact .inl h'
    · refine .inr ⟨rfl, ?_⟩
      by_cases c1 : jO C A = true
      · by_cases c2 : jO A B = true
        · rw [ZY C A B c1 c2] at h'; cases h'
        · have := JE A B (by simpa using c2) h
          subst this; rw [c1] at h'; cases h'
      · simpa using c1
theorem NW.anti {a b : Int} {A B : List Int} (h : NW a A b B) (h' : NW b B a A) : a = b ∧ A = B := by
  rcases h with h | ⟨rfl, h⟩
  · rcases h' with h' | ⟨h', _⟩ <;> omega
  · rcases h' with h' | ⟨_, h'⟩
    · omega
    · exact ⟨rfl, (JE B A h h').symm⟩
def fcIn (l : List S31) : Nat → Nat → Bool
  | _, 0 => false
  | a, d + 1 => fcB l a || fcIn l (a + 1) d
theorem JQ (l : List S31) : ∀ (d a : Nat), fcIn l a d = false ↔ ∀ i, a ≤ i → i < a + d → fcB l i = false
  | 0, a => by simp [fcIn]; intro i h h'; omega
  | d + 1, a => by
    simp only [fcIn, Bool.or_eq_false_iff, JQ l d (a + 1)]
    constructor
    · rintro ⟨h1, h2⟩ i hi hi'
      by_cases e : i = a
      · subst e; exact h1
      · exact h2 i (by omega) (by omega)
    · intro h
      exact ⟨h a (by omega) (by omega), fun i hi hi' => h i (by omega) (by omega)⟩
def gapB (l : List S31) (a x : Nat) : Bool := decide (a ≤ x) && decide (x ≤ l.length) && plE l x && !(fcIn l a (x - a))
theorem Qp (l : List S31) (a x : Nat) : gapB l a x = true ↔ a ≤ x ∧ x ≤ l.length ∧ plE l x = true ∧ ∀ i, a ≤ i → i < x → fcB l i = false := by
  unfold gapB
  simp only [Bool.and_eq_true, decide_eq_true_eq, Bool.not_eq_true', JQ]
  constructor
  · rintro ⟨⟨⟨h1, h2⟩, h3⟩, h4⟩; exact ⟨h1, h2, h3, fun i hi hi' => h4 i hi (by omega)⟩
  · rintro ⟨h1, h2, h3, h4⟩; exact ⟨⟨⟨h1, h2⟩, h3⟩, fun i hi hi' => h4 i hi (by omega)⟩
def stp (l : List S31) (w t : Int) (a x : Nat) : Option Int :=
  if gapB l a x = true ∧ (jr l a x w).2.2 = true ∧ (jr l a x w).1 ≤ t then some (QC l a x (jr l a x w).2.1) else none
def stZ (l : List S31) (w t : Int) (a : Nat) (x : Int) : Option Int := if 0 ≤ x then stp l w t a x.toNat else none
def cost (l : List S31) (w t : Int) (E : Nat) : Nat → List Int → Option Int
  | a, [] => if a = E then some 0 else none
  | a, x :: r => (stZ l w t a x).bind fun d => (cost l w t E (x.toNat + 1) r).bind fun c => some (d + c)
def covB (l : List S31) : Nat → List Int → Bool
  | a, [] => decide (a = l.length + 1)
  | a, x :: r => decide (0 ≤ x) && gapB l a x.toNat && covB l (x.toNat + 1) r
theorem QI {l : List S31} {w t : Int} {a x : Nat} {d : Int} (h : stp l w t a x = some d) : gapB l a x = true ∧ (jr l a x w).2.2 = true ∧ (jr l a x w).1 ≤ t ∧ d = QC l a x (jr l a x w).2.1 := by
  unfold stp at h
  split at h
  · rename_i c; exact ⟨c.1, c.2.1, c.2.2, (Option.some.inj h).symm⟩
  · cases h
theorem Jb {l : List S31} {w t : Int} {a x : Nat} {d : Int} (h : stp l w t a x = some d) : a ≤ x ∧ x ≤ l.length := by
  have := (Qp l a x).1 (QI h).1; omega
theorem stp_bd {l : List S31} {w t : Int} (F : jL l w t) {a x : Nat} {d : Int} (h : stp l w t a x = some d) : -20000000000 ≤ d ∧ d ≤ 20000000000 := by
  obtain ⟨h1, h2, h3, rfl⟩ := QI h
  have g := (Qp l a x).1 h1
  have lb := QB F a (tt := x) (by omega)
  have b := Jm lb.1.1 lb.2.1.1 lb.2.2.1 h2
  have := (dem_bd F a x b.1 b.2).2.2
  unfold jr; omega
theorem QM {l : List S31} {w t : Int} {a : Nat} {x d : Int} (h : stZ l w t a x = some d) : 0 ≤ x ∧ stp l w t a x.toNat = some d := by
  unfold stZ at h
  split at h
  · rename_i c; exact ⟨c, h⟩
  · cases h
theorem Za (l : List S31) (w t : Int) (a x : Nat) : stZ l w t a (x : Int) = stp l w t a x := by
  unfold stZ; rw [if_pos (by omega), show ((x : Int)).toNat = x by omega]
theorem Qd {l : List S31} {w t : Int} {E a : Nat} {x : Int} {r : List Int} {c : Int} (h : cost l w t E a (x :: r) = some c) : ∃ d c', stZ l w t a x = some d ∧ cost l w t E (x.toNat + 1) r = some c' ∧ c = d + c' := by
  simp only [cost, Option.bind_eq_some_iff] at h
  obtain ⟨d, h1, c', h2, h3⟩ := h
  exact ⟨d, c', h1, h2, (Option.some.inj h3).symm⟩
theorem cost_mk {l : List S31} {w t : Int} {E a x : Nat} {r : List Int} {d c : Int} (h : stp l w t a x = some d) (h' : cost l w t E (x + 1) r = some c) : cost l w t E a ((x : Int) :: r) = some (d + c) := by
  simp only [cost, Za, h, Option.bind_some, show ((x : Int)).toNat = x by omega, h']
theorem ZO {l : List S31} {w t : Int} {E : Nat} : ∀ (L : List Int) (a : Nat) (c : Int), cost l w t E a L = some c → a ≤ E ∧ (L ≠ [] → a < E)
  | [], a, c, h => by
    simp only [cost] at h
    split at h
    · rename_i e; exact ⟨by omega, fun z => absurd rfl z⟩
    · cases h
  | x :: r, a, c, h => by
    obtain ⟨d, c', h1, h2, _⟩ := Qd h
    have := (Jb (QM h1).2).1
    have := (ZO r _ c' h2).1
    exact ⟨by omega, fun _ => by omega⟩
theorem cost_bd {l : List S31} {w t : Int} (F : jL l w t) {E : Nat} : ∀ (L : List Int) (a : Nat) (c : Int), cost l w t E a L = some c → -(20000000000 * ((E : Int) - a)) ≤ c ∧ c ≤ 20000000000 * ((E : Int) - a)
  | [], a, c, h => by
    simp only [cost] at h
    split at h
    · rename_i e; have := Option.some.inj h; omega
    · cases h
  | x :: r, a, c, h => by
    obtain ⟨d, c', h1, h2, h3⟩ := Qd h
    have := (Jb (QM h1).2).1
    have := stp_bd F (QM h1).2
    have := cost_bd F r _ c' h2
    have := (ZO r _ c' h2).1
    omega
theorem cost_cov {l : List S31} {w t : Int} : ∀ (L : List Int) (a : Nat) (c : Int), cost l w t (l.length + 1) a L = some c → covB l a L = true
  | [], a, c, h => by
    simp only [cost] at h
    split at h
    · rename_i e; simpa [covB] using e
    · cases h
  | x :: r, a, c, h => by
    obtain ⟨d, c', h1, h2, h3⟩ := Qd h
    obtain ⟨h0, h1⟩ := QM h1
    simp only [covB, cost_cov r _ c' h2, (QI h1).1, decide_eq_true h0, Bool.and_self]
def Bst (l : List S31) (w t : Int) (E a : Nat) (c : Int) (L : List Int) : Prop := cost l w t E a L = some c ∧ ∀ L' c', cost l w t E a L' = some c' → NW c L c' L'
def Non (l : List S31) (w t : Int) (E a : Nat) : Prop := ∀ L, cost l w t E a L = none
theorem Bst.uniq {l : List S31} {w t : Int} {E a : Nat} {c c' : Int} {L L' : List Int} (h : Bst l w t E a c L) (h' : Bst l w t E a c' L') : c = c' ∧ L = L' := (h.2 _ _ h'.1).anti (h'.2 _ _ h.1)
theorem Bst.not {l : List S31} {w t : Int} {E a : Nat} {c : Int} {L : List Int} (h : Bst l w t E a c L) (h' : Non l w t E a) : False := by
  have z := h.1
  rw [h' L] at z; cases z
def PB (l : List S31) (w t : Int) (E a B : Nat) : Option (Int × List Int) → Prop
  | none => ∀ (x : Nat) r, x < B → cost l w t E a ((x : Int) :: r) = none
  | some (c, L) => cost l w t E a L = some c ∧ (∃ (x : Nat) (r : List Int), L = (x : Int) :: r ∧ x < B) ∧ ∀ (x : Nat) r c', x < B → cost l w t E a ((x : Int) :: r) = some c' → NW c L c' ((x : Int) :: r)
theorem PB.skip {l : List S31} {w t : Int} {E a B B' : Nat} {o : Option (Int × List Int)} (h : PB l w t E a B o) (hB : B ≤ B') (hn : ∀ (x : Nat) r, B ≤ x → x < B' → cost l w t E a ((x : Int) :: r) = none) : PB l w t E a B' o := by
  match o, h with
  | none, h =>
    intro x r hx
    by_cases c : x < B
    · exact h x r c
    · exact hn x r (by omega) hx
  | some (c, L), ⟨h1, ⟨x0, r0, e0, h0⟩, h2⟩ =>
    refine ⟨h1, ⟨x0, r0, e0, by omega⟩, fun x r c' hx h' => ?_⟩
    by_cases c : x < B
    · exact h2 x r c' c h'
    · rw [hn x r (by omega) hx] at h'; cases h'
theorem PB.begin (l : List S31) (w t : Int) (E a : Nat) : PB l w t E a a none := fun x r hx => by
  cases hc : cost l w t E a ((x : Int) :: r) with
  | none => rfl
  | some c =>
    obtain ⟨d, c', h1, _, _⟩ := Qd hc
    rw [Za] at h1
    have := (Jb h1).1; omega
theorem Q7 {l : List S31} {w t : Int} {E a x : Nat} (h : stp l w t a x = none) (r : List Int) : cost l w t E a ((x : Int) :: r) = none := by
  simp only [cost, Za, h, Option.bind_none]
theorem none_rest {l : List S31} {w t : Int} {E a x : Nat} (h : Non l w t E (x + 1)) (r : List Int) : cost l w t E a ((x : Int) :: r) = none := by
  simp only [cost, show ((x : Int)).toNat = x by omega, h r, Option.bind_none]
  cases stZ l w t a (x : Int) <;> rfl
theorem PB.new {l : List S31} {w t : Int} {E a p : Nat} {o : Option (Int × List Int)} {d c : Int} {L : List Int} (h : PB l w t E a p o) (hd : stp l w t a p = some d) (hc : Bst l w t E (p + 1) c L) (hbetter : ∀ c0 L0, o = some (c0, L0) → d + c < c0) :
    PB l w t E a (p + 1) (some (d + c, (p : Int) :: L)) := by
  refine ⟨cost_mk hd hc.1, ⟨p, L, rfl, by omega⟩, fun x r c' hx h' => ?_⟩
  by_cases e : x = p
  · subst e
    obtain ⟨d1, c1, h1, h2, rfl⟩ := Qd h'
    rw [Za, hd] at h1
    obtain rfl := Option.some.inj h1
    rw [show ((x : Int)).toNat = x by omega] at h2
    rcases hc.2 _ _ h2 with g | ⟨g, g'⟩
    · exact .inl (by omega)
    · exact .inr ⟨by omega, by simp only [jO, if_true]; exact g'⟩
  · match o, h with
    | none, h => rw [h x r (by omega)] at h'; cases h'
    | some (c0, L0), ⟨_, _, h2⟩ =>
      have b := hbetter c0 L0 rfl
      rcases h2 x r c' (by omega) h' with g | ⟨g, _⟩
      · exact .inl (by omega)
      · exact .inl (by omega)
theorem PB.keep {l : List S31} {w t : Int} {E a p : Nat} {d c c0 : Int} {L L0 : List Int} (h : PB l w t E a p (some (c0, L0))) (hd : stp l w t a p = some d) (hc : Bst l w t E (p + 1) c L) (hworse : c0 ≤ d + c) :
    PB l w t E a (p + 1) (some (c0, L0)) := by
  obtain ⟨h1, ⟨x0, r0, e0, h0⟩, h2⟩ := h
  refine ⟨h1, ⟨x0, r0, e0, by omega⟩, fun x r c' hx h' => ?_⟩
  by_cases e : x = p
  · subst e
    obtain ⟨d1, c1, g1, g2, rfl⟩ := Qd h'
    rw [Za, hd] at g1
    obtain rfl := Option.some.inj g1
    rw [show ((x : Int)).toNat = x by omega] at g2
    rcases hc.2 _ _ g2 with g | ⟨g, g'⟩
    · exact .inl (by omega)
    · by_cases e2 : c0 = d + c1
      · refine .inr ⟨e2, ?_⟩
        subst e0
        simp only [jO]
        rw [if_neg (by omega)]; exact decide_eq_false (by omega)
      · exact .inl (by omega)
  · exact h2 x r c' (by omega) h'
def FinO (l : List S31) (w t : Int) (E a : Nat) : Option (Int × List Int) → Prop
  | none => Non l w t E a
  | some (c, L) => Bst l w t E a c L
theorem PB.all {l : List S31} {w t : Int} {a B : Nat} {o : Option (Int × List Int)} (h : PB l w t (l.length + 1) a B o) (ha : a ≤ l.length) (hB : l.length < B ∨ ∃ p, a ≤ p ∧ p < B ∧ fcB l p = true) :
    FinO l w t (l.length + 1) a o := by
  have out : ∀ (L : List Int) (c : Int), cost l w t (l.length + 1) a L = some c → ∃ (x : Nat) (r : List Int), L = (x : Int) :: r ∧ x < B := by
    intro L c hc
    match L, hc with
    | [], hc =>
      simp only [cost] at hc
      split at hc
      · omega
      · cases hc
    | x :: r, hc =>
      obtain ⟨d, c', h1, _, _⟩ := Qd hc
      obtain ⟨h0, h1⟩ := QM h1
      have g := (Qp l a x.toNat).1 (QI h1).1
      refine ⟨x.toNat, r, by rw [show ((x.toNat : Nat) : Int) = x by omega], ?_⟩
      rcases hB with hB | ⟨p, hp, hpB, hf⟩
      · omega
      · by_cases e : x.toNat < B
        · exact e
        · have := g.2.2.2 p hp (by omega)
          rw [hf] at this; cases this
  match o, h with
  | none, h =>
    intro L
    cases hc : cost l w t (l.length + 1) a L with
    | none => rfl
    | some c =>
      obtain ⟨x, r, e, hx⟩ := out L c hc
      subst e
      rw [h x r hx] at hc; cases hc
  | some (c, L), ⟨h1, _, h2⟩ =>
    refine ⟨h1, fun L' c' h' => ?_⟩
    obtain ⟨x, r, e, hx⟩ := out L' c' h'
    subst e
    exact h2 x r c' hx h'
theorem cost_snoc {l : List S31} {w t : Int} {E a' x : Nat} {d : Int} (hd : stp l w t a' x = some d) (hE : E = x + 1) : ∀ (L : List Int) (a : Nat) (c : Int), cost l w t a' a L = some c → cost l w t E a (L ++ [(x : Int)]) = some (c + d)
  | [], a, c, h => by
    simp only [cost] at h
    split at h
    · rename_i e; subst e hE
      obtain rfl := Option.some.inj h
      simp only [List.nil_append, cost, Za, hd, Option.bind_some, show ((x : Int)).toNat = x by omega, if_true]
      simp
    · cases h
  | y :: r, a, c, h => by
    obtain ⟨d1, c1, h1, h2, rfl⟩ := Qd h
    have := cost_snoc hd hE r _ c1 h2
    simp only [List.cons_append, cost, h1, Option.bind_some, this]
    congr 1; omega
theorem ZC {l : List S31} {w t : Int} {E : Nat} : ∀ (L : List Int) (a : Nat) (c : Int), L ≠ [] → cost l w t E a L = some c → ∃ (x a' : Nat) (L0 : List Int) (c0 d : Int), L = L0 ++ [(x : Int)] ∧ E = x + 1 ∧ cost l w t a' a L0 = some c0 ∧ stp l w t a' x = some d ∧ c = c0 + d
  | [], _, _, h, _ => absurd rfl h
  | [y], a, c, _, h => by
    obtain ⟨d, c1, h1, h2, rfl⟩ := Qd h
    obtain ⟨h0, h1⟩ := QM h1
    simp only [cost] at h2
    split at h2
    · rename_i e
      obtain rfl := Option.some.inj h2
      exact ⟨y.toNat, a, [], 0, d, by rw [show ((y.toNat : Nat) : Int) = y by omega]; rfl, e.symm, by simp [cost], h1, by omega⟩
    · cases h2
  | y :: z :: r, a, c, _, h => by
    obtain ⟨d, c1, h1, h2, rfl⟩ := Qd h
    obtain ⟨x, a', L0, c0, d0, e, hE, h3, h4, rfl⟩ := ZC (z :: r) _ c1 (by simp) h2
    refine ⟨x, a', y :: L0, d + c0, d0, by rw [e]; rfl, hE, ?_, h4, by omega⟩
    simp only [cost, h1, Option.bind_some, h3]
theorem soon_snoc {l : List S31} {w t : Int} {a' : Nat} (x : Int) : ∀ (L' L : List Int) (a : Nat) (c c' : Int), cost l w t a' a L = some c → cost l w t a' a L' = some c' → jO (L' ++ [x]) (L ++ [x]) = true → jO L' L = true
  | [], [], a, c, c', _, _, h => by simp [jO] at h
  | [], y :: r, _, _, _, _, _, _ => rfl
  | y :: r, [], a, c, c', h, h', hs => by
    have := (ZO _ _ _ h').2 (by simp)
    simp only [cost] at h
    split at h
    · omega
    · cases h
  | y :: r, z :: s, a, c, c', h, h', hs => by
    simp only [List.cons_append, jO] at hs ⊢
    by_cases e : y = z
    · subst e
      rw [if_pos rfl] at hs ⊢
      obtain ⟨_, c1, _, h2, _⟩ := Qd h
      obtain ⟨_, c2, _, h4, _⟩ := Qd h'
      exact soon_snoc x r s _ c1 c2 h2 h4 hs
    · rw [if_neg e] at hs ⊢; exact hs
def PF (l : List S31) (w t : Int) (x B : Nat) : Option (Int × List Int) → Prop
  | none => ∀ (a' : Nat) L0 c0 d, B ≤ a' → cost l w t a' 0 L0 = some c0 → stp l w t a' x = some d → False
  | some (c, L) => cost l w t (x + 1) 0 L = some c ∧ ∀ (a' : Nat) L0 c0 d, B ≤ a' → cost l w t a' 0 L0 = some c0 → stp l w t a' x = some d → NW c L (c0 + d) (L0 ++ [(x : Int)])
theorem PF.begin (l : List S31) (w t : Int) (x : Nat) : PF l w t x (x + 1) none := fun a' L0 c0 d hB _ h => by
  have := (Jb h).1; omega
theorem PF.skip {l : List S31} {w t : Int} {x B : Nat} {o : Option (Int × List Int)} (h : PF l w t x (B + 1) o) (hn : stp l w t B x = none ∨ Non l w t B 0) : PF l w t x B o := by
  have no : ∀ L0 c0 d, cost l w t B 0 L0 = some c0 → stp l w t B x = some d → False := by
    intro L0 c0 d h1 h2
    rcases hn with hn | hn
    · rw [hn] at h2; cases h2
    · rw [hn L0] at h1; cases h1
  match o, h with
  | none, h =>
    intro a' L0 c0 d hB h1 h2
    by_cases e : a' = B
    · subst e; exact no L0 c0 d h1 h2
    · exact h a' L0 c0 d (by omega) h1 h2
  | some (c, L), ⟨h0, h⟩ =>
    refine ⟨h0, fun a' L0 c0 d hB h1 h2 => ?_⟩
    by_cases e : a' = B
    · subst e; exact (no L0 c0 d h1 h2).elim
    · exact h a' L0 c0 d (by omega) h1 h2
theorem cand {l : List S31} {w t : Int} {x B : Nat} {cb d : Int} {Lb : List Int} (hd : stp l w t B x = some d) (hb : Bst l w t B 0 cb Lb) {L0 : List Int} {c0 : Int} (h : cost l w t B 0 L0 = some c0) : NW (cb + d) (Lb ++ [(x : Int)]) (c0 + d) (L0 ++ [(x : Int)]) := by
  rcases hb.2 _ _ h with g | ⟨g, g'⟩
  · exact .inl (by omega)
  · refine .inr ⟨by omega, ?_⟩
    cases hs : jO (L0 ++ [(x : Int)]) (Lb ++ [(x : Int)]) with
    | false => rfl
    | true => rw [soon_snoc (x : Int) L0 Lb 0 cb c0 hb.1 h hs] at g'; cases g'
theorem PF.new {l : List S31} {w t : Int} {x B : Nat} {o : Option (Int × List Int)} {cb d : Int} {Lb : List Int} (h : PF l w t x (B + 1) o) (hd : stp l w t B x = some d) (hb : Bst l w t B 0 cb Lb) (hbetter : ∀ c L, o = some (c, L) → NW (cb + d) (Lb ++ [(x : Int)]) c L) :
    PF l w t x B (some (cb + d, Lb ++ [(x : Int)])) := by
  refine ⟨cost_snoc hd rfl Lb 0 cb hb.1, fun a' L0 c0 d' hB h1 h2 => ?_⟩
  by_cases e : a' = B
  · subst e
    rw [hd] at h2
    obtain rfl := Option.some.inj h2
    exact cand hd hb h1
  · match o, h with
    | none, h => exact (h a' L0 c0 d' (by omega) h1 h2).elim
    | some (c, L), ⟨_, h⟩ => exact (hbetter c L rfl).trans (h a' L0 c0 d' (by omega) h1 h2)
theorem PF.keep {l : List S31} {w t : Int} {x B : Nat} {cb d c : Int} {Lb L : List Int} (h : PF l w t x (B + 1) (some (c, L))) (hd : stp l w t B x = some d) (hb : Bst l w t B 0 cb Lb) (hworse : NW c L (cb + d) (Lb ++ [(x : Int)])) : PF l w t x B (some (c, L)) := by
  obtain ⟨h0, h⟩ := h
  refine ⟨h0, fun a' L0 c0 d' hB h1 h2 => ?_⟩
  by_cases e : a' = B
  · subst e
    rw [hd] at h2
    obtain rfl := Option.some.inj h2
    exact hworse.trans (cand hd hb h1)
  · exact h a' L0 c0 d' (by omega) h1 h2
theorem PF.all {l : List S31} {w t : Int} {x B : Nat} {o : Option (Int × List Int)} (h : PF l w t x B o) (hB : B = 0 ∨ (B ≤ x ∧ fcB l (B - 1) = true)) : FinO l w t (x + 1) 0 o := by
  have out : ∀ (L : List Int) (c : Int), cost l w t (x + 1) 0 L = some c → ∃ a' L0 c0 d, B ≤ a' ∧ cost l w t a' 0 L0 = some c0 ∧ stp l w t a' x = some d ∧ c = c0 + d ∧ L = L0 ++ [(x : Int)] := by
    intro L c hc
    by_cases e : L = []
    · subst e
      simp only [cost] at hc
      split at hc
      · omega
      · cases hc
    · obtain ⟨x', a', L0, c0, d, rfl, hE, h1, h2, rfl⟩ := ZC L 0 c e hc
      obtain rfl : x = x' := by omega
      refine ⟨a', L0, c0, d, ?_, h1, h2, rfl, rfl⟩
      rcases hB with hB | ⟨hB, hf⟩
      · omega
      · by_cases e : B ≤ a'
        · exact e
        · have := ((Qp l a' x).1 (QI h2).1).2.2.2 (B - 1) (by omega) (by omega)
          rw [hf] at this; cases this
  match o, h with
  | none, h =>
    intro L
    cases hc : cost l w t (x + 1) 0 L with
    | none => rfl
    | some c =>
      obtain ⟨a', L0, c0, d, hB', h1, h2, _, _⟩ := out L c hc
      exact (h a' L0 c0 d hB' h1 h2).elim
  | some (c, L), ⟨h0, h⟩ =>
    refine ⟨h0, fun L' c' hc => ?_⟩
    obtain ⟨a', L0, c0, d, hB', h1, h2, rfl, rfl⟩ := out L' c' hc
    exact h a' L0 c0 d hB' h1 h2
end Go.Proofs.Ytfbanppdiglciaa.X
