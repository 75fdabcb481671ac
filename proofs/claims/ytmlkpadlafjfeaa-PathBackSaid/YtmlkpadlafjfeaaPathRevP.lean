/- A contour that begins on the curve, gone round the other way: the same points the other way. -/
import Derived.Test.YtmlkpadlafjfeaaPx0
import Derived.Test.YtmlkpadlafjfeaaPathAllP
set_option linter.unusedVariables false
set_option linter.unusedSimpArgs false
namespace Go.Proofs.Ytmlkpadlafjfeaa.P
open Go Go.RowKit Go.Proofs.YtmlkpadlafjfeaaW.PrintWords Go.Proofs.YtmlkpadlafjfeaaW.PrintLast Go.Proofs.YtmlkpadlafjfeaaW.PrintMore

theorem q1_rev (a c b n i : Int) : q1 a c b n i = q1 b c a n (n - i) := by
  unfold q1
  obtain ⟨j, hj⟩ : ∃ j, j = n - i := ⟨_, rfl⟩
  rw [← hj, show n - j = i by omega]
  grind
theorem c1_rev (a c d b n i : Int) : c1 a c d b n i = c1 b d c a n (n - i) := by
  unfold c1
  obtain ⟨j, hj⟩ : ∃ j, j = n - i := ⟨_, rfl⟩
  rw [← hj, show n - j = i by omega]
  grind
theorem qP_rev (a c b : S35) (n i : Int) : qP a c b n i = qP b c a n (n - i) := by unfold qP; rw [q1_rev a.f0, q1_rev a.f1]
theorem cP_rev (a c d b : S35) (n i : Int) : cP a c d b n i = cP b d c a n (n - i) := by unfold cP; rw [c1_rev a.f0, c1_rev a.f1]
theorem qP_0 {a c b : S35} {n : Int} (n1 : 1 ≤ n) (hn : n ≤ 16) : qP a c b n 0 = a := by
  rw [qP_rev, Int.sub_zero]; exact qP_end n1 hn
theorem cP_0 {a c d b : S35} {n : Int} (n1 : 1 ≤ n) (hn : n ≤ 16) : cP a c d b n 0 = a := by
  rw [cP_rev, Int.sub_zero]; exact cP_end n1 hn
/-- m points from the i-th on, told by a function. -/
def seq (f : Int → S35) : Nat → Int → List S35
  | 0, _ => []
  | m + 1, i => f i :: seq f m (i + 1)
theorem qPs_seq (a c b : S35) (n : Int) : ∀ (m : Nat) (i : Int), qPs a c b n m i = seq (qP a c b n) m i
  | 0, _ => rfl
  | m + 1, i => by rw [qPs, seq, qPs_seq a c b n m]
theorem cPs_seq (a c d b : S35) (n : Int) : ∀ (m : Nat) (i : Int), cPs a c d b n m i = seq (cP a c d b n) m i
  | 0, _ => rfl
  | m + 1, i => by rw [cPs, seq, cPs_seq a c d b n m]
theorem seq_snoc (f : Int → S35) : ∀ (m : Nat) (i : Int), seq f (m + 1) i = seq f m i ++ [f (i + m)]
  | 0, i => by simp [seq]
  | m + 1, i => by
    rw [seq, seq_snoc f m (i + 1), seq, List.cons_append, show i + 1 + (m : Int) = i + ((m + 1 : Nat) : Int) by omega]
theorem seq_rev (f g : Int → S35) (n : Int) (h : ∀ i, f i = g (n - i)) : ∀ (m : Nat) (i : Int), (seq f m i).reverse = seq g m (n - i - m + 1)
  | 0, i => rfl
  | m + 1, i => by
    rw [seq, List.reverse_cons, seq_rev f g n h m (i + 1), seq_snoc, h i]
    rw [show n - (i + 1) - (m : Int) + 1 = n - i - ((m + 1 : Nat) : Int) + 1 by omega, show n - i - ((m + 1 : Nat) : Int) + 1 + (m : Int) = n - i by omega]
theorem absI_comm (a b c : Int) : absI (a - 2 * b + c) = absI (c - 2 * b + a) := by rw [show a - 2 * b + c = c - 2 * b + a by omega]
theorem bend_rev (a c b : S35) : bendV a c b = bendV b c a := by unfold bendV; rw [absI_comm a.f0, absI_comm a.f1]
theorem quadV_rev (a c b : S35) : (a :: quadV a c b).reverse = b :: quadV b c a := by
  unfold quadV
  rw [bend_rev b c a]
  have hp := partsV_pos (bendV a c b)
  generalize partsV (bendV a c b) = n at hp
  rw [qPs_seq, qPs_seq]
  have e1 : a :: seq (qP a c b (n : Int)) n 1 = seq (qP a c b (n : Int)) (n + 1) 0 := by rw [seq, qP_0 (by omega) (by omega)]; rfl
  have e2 : b :: seq (qP b c a (n : Int)) n 1 = seq (qP b c a (n : Int)) (n + 1) 0 := by rw [seq, qP_0 (by omega) (by omega)]; rfl
  rw [e1, e2, seq_rev _ (qP b c a (n : Int)) (n : Int) (fun i => qP_rev a c b _ i)]
  rw [show (n : Int) - 0 - ((n + 1 : Nat) : Int) + 1 = 0 by omega]
theorem cubicV_rev (a c d b : S35) : (a :: cubicV a c d b).reverse = b :: cubicV b d c a := by
  unfold cubicV
  rw [bend_rev b d c, bend_rev d c a, Int.add_comm (bendV c d b)]
  have hp := partsV_pos (bendV a c d + bendV c d b)
  generalize partsV (bendV a c d + bendV c d b) = n at hp
  rw [cPs_seq, cPs_seq]
  have e1 : a :: seq (cP a c d b (n : Int)) n 1 = seq (cP a c d b (n : Int)) (n + 1) 0 := by rw [seq, cP_0 (by omega) (by omega)]; rfl
  have e2 : b :: seq (cP b d c a (n : Int)) n 1 = seq (cP b d c a (n : Int)) (n + 1) 0 := by rw [seq, cP_0 (by omega) (by omega)]; rfl
  rw [e1, e2, seq_rev _ (cP b d c a (n : Int)) (n : Int) (fun i => cP_rev a c d b _ i)]
  rw [show (n : Int) - 0 - ((n + 1 : Nat) : Int) + 1 = 0 by omega]
theorem midV_comm (a b : S40) : midV a b = midV b a := by unfold midV; rw [Int.add_comm a.f0, Int.add_comm a.f1]
/-! drawing up to a knot on the curve -/
def preL (p : List S35) : Option (List S35) → Option (List S35)
  | none => none
  | some r => some (p ++ r)
def draw : Nat → S35 → List S40 → Option (List S35)
  | 0, _, _ => some []
  | m + 1, now, [] => some []
  | m + 1, now, k :: r =>
    if k.f2 = 1 then preL [sp k] (draw m (sp k) r)
    else if k.f2 = 2 then
      match r with
      | [] => none
      | h :: r' => if h.f2 = 2 then preL (quadV now (sp k) (midV k h)) (draw m (midV k h) r)
        else if h.f2 = 3 then none
        else preL (quadV now (sp k) (sp h)) (draw m (sp h) r')
    else
      match r with
      | [] => none
      | [h] => none
      | h :: e :: r' => if h.f2 = 3 then (if e.f2 = 3 then none else if e.f2 = 2 then none else preL (cubicV now (sp k) (sp h) (sp e)) (draw m (sp e) r')) else none
theorem draw_nil (m : Nat) (now : S35) : draw m now [] = some [] := by cases m <;> rfl
theorem draw_on {now : S35} {m : Nat} {k : S40} {r : List S40} (h : k.f2 = 1) : draw (m + 1) now (k :: r) = preL [sp k] (draw m (sp k) r) := by
  conv => lhs; unfold draw
  simp only [if_pos h]
theorem draw_q0 {now : S35} {m : Nat} {k : S40} (h : k.f2 = 2) : draw (m + 1) now [k] = none := by
  conv => lhs; unfold draw
  simp only [if_pos h, if_neg (show ¬ k.f2 = 1 by omega)]
theorem draw_q1 {now : S35} {m : Nat} {k h : S40} {r : List S40} (e : k.f2 = 2) : draw (m + 1) now (k :: h :: r) = if h.f2 = 2 then preL (quadV now (sp k) (midV k h)) (draw m (midV k h) (h :: r)) else if h.f2 = 3 then none else preL (quadV now (sp k) (sp h)) (draw m (sp h) r) := by
  conv => lhs; unfold draw
  simp only [if_pos e, if_neg (show ¬ k.f2 = 1 by omega)]
theorem draw_c0 {now : S35} {m : Nat} {k : S40} (h1 : k.f2 ≠ 1) (h2 : k.f2 ≠ 2) : draw (m + 1) now [k] = none := by
  conv => lhs; unfold draw
  simp only [if_neg h1, if_neg h2]
theorem draw_c1 {now : S35} {m : Nat} {k h : S40} (h1 : k.f2 ≠ 1) (h2 : k.f2 ≠ 2) : draw (m + 1) now [k, h] = none := by
  conv => lhs; unfold draw
  simp only [if_neg h1, if_neg h2]
theorem draw_c2 {now : S35} {m : Nat} {k h e : S40} {r : List S40} (h1 : k.f2 ≠ 1) (h2 : k.f2 ≠ 2) : draw (m + 1) now (k :: h :: e :: r) = if h.f2 = 3 then (if e.f2 = 3 then none else if e.f2 = 2 then none else preL (cubicV now (sp k) (sp h) (sp e)) (draw m (sp e) r)) else none := by
  conv => lhs; unfold draw
  simp only [if_neg h1, if_neg h2]
theorem preL_some {p r : List S35} {q : Option (List S35)} (h : preL p q = some r) : ∃ r', q = some r' ∧ r = p ++ r' := by
  cases q with
  | none => cases h
  | some r' => simp only [preL, Option.some.injEq] at h; exact ⟨r', rfl, h.symm⟩
/-- Enough rounds are enough. -/
theorem draw_more : ∀ (m m' : Nat) (now : S35) (l : List S40), l.length ≤ m → l.length ≤ m' → draw m now l = draw m' now l
  | m, m', now, [], _, _ => by rw [draw_nil, draw_nil]
  | 0, _, _, _ :: _, h, _ => by simp at h
  | _ + 1, 0, _, _ :: _, _, h => by simp at h
  | m + 1, m' + 1, now, k :: r, h, h' => by
    simp only [List.length_cons] at h h'
    by_cases k1 : k.f2 = 1
    · rw [draw_on k1, draw_on k1, draw_more m m' _ r (by omega) (by omega)]
    by_cases k2 : k.f2 = 2
    · match r, h, h' with
      | [], _, _ => rw [draw_q0 k2, draw_q0 k2]
      | x :: r', h, h' =>
        simp only [List.length_cons] at h h'
        rw [draw_q1 k2, draw_q1 k2, draw_more m m' _ (x :: r') (by simp; omega) (by simp; omega), draw_more m m' _ r' (by omega) (by omega)]
    · match r, h, h' with
      | [], _, _ => rw [draw_c0 k1 k2, draw_c0 k1 k2]
      | [x], _, _ => rw [draw_c1 k1 k2, draw_c1 k1 k2]
      | x :: e :: r', h, h' =>
        simp only [List.length_cons] at h h'
        rw [draw_c2 k1 k2, draw_c2 k1 k2, draw_more m m' _ r' (by omega) (by omega)]
def drw (now : S35) (l : List S40) : Option (List S35) := draw l.length now l
theorem drw_eq {m : Nat} {now : S35} {l : List S40} (h : l.length ≤ m) : draw m now l = drw now l := draw_more _ _ _ _ h (Nat.le_refl _)
theorem drw_nil (now : S35) : drw now [] = some [] := rfl
theorem drw_on {now : S35} {k : S40} {r : List S40} (h : k.f2 = 1) : drw now (k :: r) = preL [sp k] (drw (sp k) r) := draw_on h
theorem drw_q0 {now : S35} {k : S40} (h : k.f2 = 2) : drw now [k] = none := draw_q0 h
theorem drw_q1 {now : S35} {k h : S40} {r : List S40} (e : k.f2 = 2) : drw now (k :: h :: r) = if h.f2 = 2 then preL (quadV now (sp k) (midV k h)) (drw (midV k h) (h :: r)) else if h.f2 = 3 then none else preL (quadV now (sp k) (sp h)) (drw (sp h) r) := by
  have := draw_q1 (now := now) (m := (h :: r).length) (k := k) (h := h) (r := r) e
  rw [drw_eq (m := (h :: r).length) (l := r) (by simp), drw_eq (m := (h :: r).length) (l := h :: r) (Nat.le_refl _)] at this
  exact this
theorem drw_c0 {now : S35} {k : S40} (h1 : k.f2 ≠ 1) (h2 : k.f2 ≠ 2) : drw now [k] = none := draw_c0 h1 h2
theorem drw_c1 {now : S35} {k h : S40} (h1 : k.f2 ≠ 1) (h2 : k.f2 ≠ 2) : drw now [k, h] = none := draw_c1 h1 h2
theorem drw_c2 {now : S35} {k h e : S40} {r : List S40} (h1 : k.f2 ≠ 1) (h2 : k.f2 ≠ 2) : drw now (k :: h :: e :: r) = if h.f2 = 3 then (if e.f2 = 3 then none else if e.f2 = 2 then none else preL (cubicV now (sp k) (sp h) (sp e)) (drw (sp e) r)) else none := by
  have := draw_c2 (now := now) (m := (h :: e :: r).length) (k := k) (h := h) (e := e) (r := r) h1 h2
  rw [drw_eq (m := (h :: e :: r).length) (l := r) (by simp; omega)] at this
  exact this
/-- The contour's points are the drawing's up to the start, but the start's. -/
def eqD (s : S35) : Option (List S35 × Bool) → Option (List S35)
  | none => none
  | some (q, true) => some q
  | some (q, false) => some (q ++ [s])
theorem eqD_pre (s : S35) (p : List S35) (r : Option (List S35 × Bool)) : eqD s (pre35 p r) = preL p (eqD s r) := by
  match r with
  | none => rfl
  | some (q, true) => rfl
  | some (q, false) => simp [pre35, eqD, preL]
theorem drw_ctW (s : S35) (S : S40) (hS : S.f2 = 1) (hs : sp S = s) : ∀ (m : Nat) (l : List S40) (now : S35), l.length < m → drw now (l ++ [S]) = eqD s (ctW s m l now)
  | 0, _, _, h => by omega
  | m + 1, [], now, h => by rw [ctW_nil, List.nil_append, drw_on hS, drw_nil, hs]; rfl
  | m + 1, k :: r, now, h => by
    simp only [List.length_cons] at h
    by_cases k1 : k.f2 = 1
    · rw [ctW_on k1, List.cons_append, drw_on k1, drw_ctW s S hS hs m r (sp k) (by omega), eqD_pre]
    by_cases k2 : k.f2 = 2
    · match r, h with
      | [], h =>
        rw [ctW_q0 k2, List.cons_append, List.nil_append, drw_q1 k2, if_neg (by omega), if_neg (by omega), drw_nil, hs]
        simp [preL, eqD]
      | x :: r', h =>
        simp only [List.length_cons] at h
        have a := drw_ctW s S hS hs m (x :: r') (midV k x) (by simp; omega)
        have b := drw_ctW s S hS hs m r' (sp x) (by omega)
        rw [List.cons_append] at a
        rw [ctW_q1 k2, List.cons_append, List.cons_append, drw_q1 k2, a, b]
        by_cases c1 : x.f2 = 2
        · rw [if_pos c1, if_pos c1, eqD_pre]
        · rw [if_neg c1, if_neg c1]
          by_cases c2 : x.f2 = 3
          · rw [if_pos c2, if_pos c2]; rfl
          · rw [if_neg c2, if_neg c2, eqD_pre]
    · match r, h with
      | [], h => rw [ctW_c0 k1 k2, List.cons_append, List.nil_append, drw_c1 k1 k2]; rfl
      | [x], h =>
        rw [ctW_c1 k1 k2, List.cons_append, List.cons_append, List.nil_append, drw_c2 k1 k2, drw_nil, hs, if_neg (show ¬ S.f2 = 3 by omega), if_neg (show ¬ S.f2 = 2 by omega)]
        by_cases c1 : x.f2 = 3
        · rw [if_pos c1, if_pos c1]; simp [preL, eqD]
        · rw [if_neg c1, if_neg c1]; rfl
      | x :: e :: r', h =>
        simp only [List.length_cons] at h
        have b := drw_ctW s S hS hs m r' (sp e) (by omega)
        rw [ctW_c2 k1 k2, List.cons_append, List.cons_append, List.cons_append, drw_c2 k1 k2, b]
        by_cases c1 : x.f2 = 3
        · rw [if_pos c1, if_pos c1]
          by_cases c2 : e.f2 = 3
          · rw [if_pos c2, if_pos c2]; rfl
          · rw [if_neg c2, if_neg c2]
            by_cases c3 : e.f2 = 2
            · rw [if_pos c3, if_pos c3]; rfl
            · rw [if_neg c3, if_neg c3, eqD_pre]
        · rw [if_neg c1, if_neg c1]; rfl
/-- What is known behind the place that is reached: back the way w leads through the points drawn. -/
theorem back_step {now nw A : S35} {done back p q : List S35} {w w' : List S40} (hb : now :: back = (A :: done).reverse) (hd : drw now w = some back) (hp : (now :: p).reverse = nw :: q) (hd' : drw nw w' = preL q (drw now w)) :
    ∃ back', drw nw w' = some back' ∧ nw :: back' = (A :: (done ++ p)).reverse := by
  rw [hd] at hd'
  refine ⟨q ++ back, hd', ?_⟩
  rw [List.reverse_cons] at hp
  rw [show A :: (done ++ p) = (A :: done) ++ p from rfl, List.reverse_append, ← hb, ← List.cons_append, ← hp, List.append_assoc]; rfl
/-- Two ways to stand: at a knot K on the curve; between two knots off it. -/
theorem rev_all (A B : S40) (hB : B.f2 = 1) : ∀ (n : Nat) (l : List S40), l.length ≤ n → (∀ x ∈ l, 1 ≤ x.f2 ∧ x.f2 ≤ 3) →
    (∀ (K : S40) (u w : List S40) (done back pts : List S35), K.f2 = 1 → K :: w = u → drw (sp K) w = some back → sp K :: back = (sp A :: done).reverse → drw (sp K) (l ++ [B]) = some pts →
      ∃ back', drw (sp B) (l.reverse ++ u) = some back' ∧ sp B :: back' = (sp A :: (done ++ pts)).reverse) ∧
    (∀ (k h : S40) (r w : List S40) (done back pts : List S35), l = h :: r → k.f2 = 2 → h.f2 = 2 → drw (midV k h) (k :: w) = some back → midV k h :: back = (sp A :: done).reverse → drw (midV k h) (l ++ [B]) = some pts →
      ∃ back', drw (sp B) (l.reverse ++ k :: w) = some back' ∧ sp B :: back' = (sp A :: (done ++ pts)).reverse)
  | 0, l, hl, hk => by
    obtain rfl : l = [] := List.length_eq_zero_iff.1 (by omega)
    constructor
    · intro K u w done back pts hK hu hd hb hp
      subst hu
      rw [List.nil_append, drw_on hB, drw_nil] at hp
      simp only [preL, Option.some.injEq] at hp
      subst hp
      exact back_step (p := [sp B] ++ []) (q := [sp K]) hb hd (by simp) (drw_on hK)
    · intro k h r w done back pts hl' hk2 hh hd hb hp; cases hl'
  | n + 1, [], hl, hk => by
    constructor
    · intro K u w done back pts hK hu hd hb hp
      subst hu
      rw [List.nil_append, drw_on hB, drw_nil] at hp
      simp only [preL, Option.some.injEq] at hp
      subst hp
      exact back_step (p := [sp B] ++ []) (q := [sp K]) hb hd (by simp) (drw_on hK)
    · intro k h r w done back pts hl' hk2 hh hd hb hp; cases hl'
  | n + 1, x :: r, hl, hk => by
    simp only [List.length_cons] at hl
    have hkr : ∀ y ∈ r, 1 ≤ y.f2 ∧ y.f2 ≤ 3 := fun y hy => hk y (List.mem_cons_of_mem _ hy)
    obtain ⟨hx1, hx3⟩ := hk x (by simp)
    -- a curve of one control from a place from which it leads back: to the next place
    have quad : x.f2 = 2 → ∀ (now : S35) (u w : List S40) (done back pts : List S35), drw now w = some back → now :: back = (sp A :: done).reverse → drw now (x :: r ++ [B]) = some pts →
        (∀ nw, drw nw (x :: u) = preL (quadV nw (sp x) now) (drw now w)) →
        ∃ back', drw (sp B) ((x :: r).reverse ++ u) = some back' ∧ sp B :: back' = (sp A :: (done ++ pts)).reverse := by
      intro x2 now u w done back pts hd hb hp hq
      match r, hl, hkr with
      | [], hl, hkr =>
        rw [List.cons_append, List.nil_append, drw_q1 x2, if_neg (by omega), if_neg (by omega)] at hp
        obtain ⟨p2, hp2, rfl⟩ := preL_some hp
        rw [drw_nil] at hp2
        simp only [Option.some.injEq] at hp2
        subst hp2
        rw [List.append_nil]
        exact back_step hb hd (quadV_rev now (sp x) (sp B)) (hq (sp B))
      | h :: r', hl, hkr =>
        simp only [List.length_cons] at hl
        rw [List.cons_append, List.cons_append, drw_q1 x2] at hp
        by_cases c1 : h.f2 = 2
        · rw [if_pos c1] at hp
          obtain ⟨p2, hp2, rfl⟩ := preL_some hp
          obtain ⟨b2, hd2, hb2⟩ := back_step hb hd (quadV_rev now (sp x) (midV x h)) (hq (midV x h))
          obtain ⟨b3, hd3, hb3⟩ := (rev_all A B hB n (h :: r') (by simp; omega) hkr).2 x h r' u (done ++ quadV now (sp x) (midV x h)) b2 p2 rfl x2 c1 hd2 hb2 hp2
          exact ⟨b3, by rw [List.reverse_cons, List.append_assoc]; exact hd3, by rw [hb3, List.append_assoc]⟩
        · rw [if_neg c1] at hp
          by_cases c2 : h.f2 = 3
          · rw [if_pos c2] at hp; cases hp
          · rw [if_neg c2] at hp
            have c3 : h.f2 = 1 := by have := hkr h (by simp); omega
            obtain ⟨p2, hp2, rfl⟩ := preL_some hp
            obtain ⟨b2, hd2, hb2⟩ := back_step hb hd (quadV_rev now (sp x) (sp h)) (hq (sp h))
            obtain ⟨b3, hd3, hb3⟩ := (rev_all A B hB n r' (by omega) (fun y hy => hkr y (List.mem_cons_of_mem _ hy))).1 h (h :: x :: u) (x :: u) (done ++ quadV now (sp x) (sp h)) b2 p2 c3 rfl hd2 hb2 hp2
            exact ⟨b3, by rw [List.reverse_cons, List.reverse_cons, List.append_assoc, List.append_assoc]; exact hd3, by rw [hb3, List.append_assoc]⟩
    constructor
    · intro K u w done back pts hK hu hd hb hp
      subst hu
      by_cases x1 : x.f2 = 1
      · rw [List.cons_append, drw_on x1] at hp
        obtain ⟨p2, hp2, rfl⟩ := preL_some hp
        obtain ⟨b2, hd2, hb2⟩ := back_step (nw := sp x) (p := [sp x]) (q := [sp K]) (w' := K :: w) hb hd (by simp) (drw_on hK)
        obtain ⟨b3, hd3, hb3⟩ := (rev_all A B hB n r (by omega) hkr).1 x (x :: K :: w) (K :: w) (done ++ [sp x]) b2 p2 x1 rfl hd2 hb2 hp2
        exact ⟨b3, by rw [List.reverse_cons, List.append_assoc]; exact hd3, by rw [hb3, List.append_assoc]⟩
      by_cases x2 : x.f2 = 2
      · exact quad x2 (sp K) (K :: w) w done back pts hd hb hp (fun nw => by rw [drw_q1 x2, if_neg (by omega), if_neg (by omega)])
      · match r, hl, hkr, hp with
        | [], hl, hkr, hp => rw [List.cons_append, List.nil_append, drw_c1 x1 x2] at hp; cases hp
        | [h], hl, hkr, hp =>
          rw [List.cons_append, List.cons_append, List.nil_append, drw_c2 x1 x2] at hp
          by_cases c1 : h.f2 = 3
          · rw [if_pos c1, if_neg (by omega), if_neg (by omega)] at hp
            obtain ⟨p2, hp2, rfl⟩ := preL_some hp
            rw [drw_nil] at hp2
            simp only [Option.some.injEq] at hp2
            subst hp2
            rw [List.append_nil]
            refine back_step (w' := h :: x :: K :: w) hb hd (cubicV_rev (sp K) (sp x) (sp h) (sp B)) ?_
            rw [drw_c2 (by omega) (by omega), if_pos (by omega), if_neg (by omega), if_neg (by omega)]
          · rw [if_neg c1] at hp; cases hp
        | h :: e :: r', hl, hkr, hp =>
          simp only [List.length_cons] at hl
          rw [List.cons_append, List.cons_append, List.cons_append, drw_c2 x1 x2] at hp
          by_cases c1 : h.f2 = 3
          · rw [if_pos c1] at hp
            by_cases c2 : e.f2 = 3
            · rw [if_pos c2] at hp; cases hp
            rw [if_neg c2] at hp
            by_cases c3 : e.f2 = 2
            · rw [if_pos c3] at hp; cases hp
            rw [if_neg c3] at hp
            have c4 : e.f2 = 1 := by have := hkr e (by simp); omega
            obtain ⟨p2, hp2, rfl⟩ := preL_some hp
            obtain ⟨b2, hd2, hb2⟩ := back_step (w' := h :: x :: K :: w) hb hd (cubicV_rev (sp K) (sp x) (sp h) (sp e)) (by rw [drw_c2 (by omega) (by omega), if_pos (by omega), if_neg (by omega), if_neg (by omega)])
            obtain ⟨b3, hd3, hb3⟩ := (rev_all A B hB n r' (by omega) (fun y hy => hkr y (by simp [hy]))).1 e (e :: h :: x :: K :: w) (h :: x :: K :: w) (done ++ cubicV (sp K) (sp x) (sp h) (sp e)) b2 p2 c4 rfl hd2 hb2 hp2
            exact ⟨b3, by rw [List.reverse_cons, List.reverse_cons, List.reverse_cons, List.append_assoc, List.append_assoc, List.append_assoc]; exact hd3, by rw [hb3, List.append_assoc]⟩
          · rw [if_neg c1] at hp; cases hp
    · intro k h r2 w done back pts hl' hk2 hh hd hb hp
      injection hl' with e1 e2
      subst e1 e2
      exact quad hh (midV k x) (k :: w) (k :: w) done back pts hd hb hp (fun nw => by rw [drw_q1 hh, if_pos hk2, midV_comm x k])
/-- The other way round: the same points the other way. -/
theorem drw_rev (A : S40) (hA : A.f2 = 1) (l : List S40) (hk : ∀ x ∈ l, 1 ≤ x.f2 ∧ x.f2 ≤ 3) (pts : List S35) (h : drw (sp A) (l ++ [A]) = some pts) : ∃ back, drw (sp A) (l.reverse ++ [A]) = some back ∧ sp A :: back = (sp A :: pts).reverse := by
  have := (rev_all A A hA l.length l (Nat.le_refl _) hk).1 A [A] [] [] [] pts hA rfl (drw_nil _) rfl h
  simpa using this
theorem drw_ne {now : S35} {l : List S40} {pts : List S35} (hl : l ≠ []) (h : drw now l = some pts) : pts ≠ [] := by
  match l, hl, h with
  | k :: r, _, h =>
    by_cases k1 : k.f2 = 1
    · rw [drw_on k1] at h; obtain ⟨q, _, rfl⟩ := preL_some h; simp
    by_cases k2 : k.f2 = 2
    · match r, h with
      | [], h => rw [drw_q0 k2] at h; cases h
      | x :: r', h =>
        rw [drw_q1 k2] at h
        by_cases c1 : x.f2 = 2
        · rw [if_pos c1] at h; obtain ⟨q, _, rfl⟩ := preL_some h
          have := quadV_len now (sp k) (midV k x); intro z; have := congrArg List.length z; rw [List.length_append] at this; simp only [List.length_nil] at this; omega
        · rw [if_neg c1] at h
          by_cases c2 : x.f2 = 3
          · rw [if_pos c2] at h; cases h
          · rw [if_neg c2] at h; obtain ⟨q, _, rfl⟩ := preL_some h
            have := quadV_len now (sp k) (sp x); intro z; have := congrArg List.length z; rw [List.length_append] at this; simp only [List.length_nil] at this; omega
    · match r, h with
      | [], h => rw [drw_c0 k1 k2] at h; cases h
      | [x], h => rw [drw_c1 k1 k2] at h; cases h
      | x :: e :: r', h =>
        rw [drw_c2 k1 k2] at h
        by_cases c1 : x.f2 = 3
        · rw [if_pos c1] at h
          by_cases c2 : e.f2 = 3
          · rw [if_pos c2] at h; cases h
          · rw [if_neg c2] at h
            by_cases c3 : e.f2 = 2
            · rw [if_pos c3] at h; cases h
            · rw [if_neg c3] at h; obtain ⟨q, _, rfl⟩ := preL_some h
              have := cubicV_len now (sp k) (sp x) (sp e); intro z; have := congrArg List.length z; rw [List.length_append] at this; simp only [List.length_nil] at this; omega
        · rw [if_neg c1] at h; cases h
theorem endC_drw (A : S40) (hA : A.f2 = 1) (l : List S40) : conV (A :: l) = match drw (sp A) (l ++ [A]) with | none => ([], false) | some pts => (sp A :: pts.dropLast, true) := by
  have hr : roundV (A :: l) = (sp A, l ++ [], true) := roundV_on (a := []) (by simp) hA
  rw [List.append_nil] at hr
  have e := drw_ctW (sp A) A hA rfl (l.length + 1) l (sp A) (by omega)
  have ne (pts : List S35) (h : drw (sp A) (l ++ [A]) = some pts) := drw_ne (by simp) h
  unfold conV
  rw [if_neg (by simp), hr]
  dsimp only
  rw [if_neg (by simp)]
  match hc : ctW (sp A) (l.length + 1) l (sp A) with
  | none => rw [hc] at e; rw [e]; rfl
  | some (q, true) =>
    rw [hc] at e
    have e : drw (sp A) (l ++ [A]) = some q := e
    have hq := ne q e
    rw [e]
    obtain ⟨a, r, rfl⟩ : ∃ a r, q = a :: r := by cases q with | nil => exact absurd rfl hq | cons a r => exact ⟨a, r, rfl⟩
    simp only [endC, clos]
    rw [if_pos ⟨trivial, by simp⟩, ← List.dropLast_eq_take]
    simp [List.dropLast]
  | some (q, false) =>
    rw [hc] at e
    have e : drw (sp A) (l ++ [A]) = some (q ++ [sp A]) := e
    rw [e]
    simp [endC, clos]
/-- The two ways round. -/
theorem back_con (A : S40) (hA : A.f2 = 1) (l : List S40) (hk : ∀ x ∈ l, 1 ≤ x.f2 ∧ x.f2 ≤ 3) : (conV (A :: l) = ([], false) ∧ conV (A :: l.reverse) = ([], false)) ∨ ∃ p, conV (A :: l) = (sp A :: p, true) ∧ conV (A :: l.reverse) = (sp A :: p.reverse, true) := by
  rw [endC_drw A hA l, endC_drw A hA l.reverse]
  cases h : drw (sp A) (l ++ [A]) with
  | none =>
    cases h2 : drw (sp A) (l.reverse ++ [A]) with
    | none => exact Or.inl ⟨rfl, rfl⟩
    | some q =>
      obtain ⟨b, hb, _⟩ := drw_rev A hA l.reverse (fun x hx => hk x (List.mem_reverse.1 hx)) q h2
      rw [List.reverse_reverse, h] at hb; cases hb
  | some pts =>
    obtain ⟨b, hb, he⟩ := drw_rev A hA l hk pts h
    rw [hb]
    have hn : pts ≠ [] := drw_ne (by simp) h
    have e1 : pts = pts.dropLast ++ [pts.getLast hn] := (List.dropLast_concat_getLast hn).symm
    generalize pts.dropLast = p at e1 ⊢
    generalize pts.getLast hn = z at e1
    subst e1
    rw [← List.cons_append, List.reverse_append, List.reverse_cons] at he
    simp only [List.reverse_cons, List.reverse_nil, List.nil_append, List.cons_append, List.cons.injEq] at he
    obtain ⟨e2, e3⟩ := he
    subst e3
    exact Or.inr ⟨p, by simp, by simp⟩
theorem any_rev {α : Type} (p : α → Bool) (l : List α) : l.reverse.any p = l.any p := by rw [List.any_reverse]
theorem CK_back (A : S40) (l : List S40) : CK [A :: l.reverse] = CK [A :: l] := by
  have e : tot [A :: l.reverse] = tot [A :: l] := by simp [tot]
  unfold CK
  rw [e]
  simp only [List.any_cons, List.any_nil, Bool.or_false, List.any_reverse, List.length_cons, List.length_nil]
/-- What PathBack compares. -/
theorem back_flat (A : S40) (hA : A.f2 = 1) (l : List S40) : ((FL [A :: l]).2 ≠ 0 ∧ (FL [A :: l.reverse]).2 = (FL [A :: l]).2) ∨ ∃ s p, FL [A :: l] = ([s :: p], 0) ∧ FL [A :: l.reverse] = ([s :: p.reverse], 0) := by
  have hc := CK_back A l
  by_cases c : CK [A :: l] = 0
  · have hk := (CK_ok c).2.2 (A :: l) (by simp)
    have e1 : FL [A :: l] = if (conV (A :: l)).2 = true then ([(conV (A :: l)).1], 0) else ([], 61) := by unfold FL; rw [if_pos c]; simp
    have e2 : FL [A :: l.reverse] = if (conV (A :: l.reverse)).2 = true then ([(conV (A :: l.reverse)).1], 0) else ([], 61) := by unfold FL; rw [hc, if_pos c]; simp
    rcases back_con A hA l (fun x hx => by have := hk.2 x (by simp [hx]); exact ⟨this.1, this.2.1⟩) with ⟨h1, h2⟩ | ⟨p, h1, h2⟩
    · left
      rw [e1, e2, h1, h2]
      simp
    · right
      rw [e1, e2, h1, h2]
      exact ⟨sp A, p, by simp, by simp⟩
  · left
    have e1 : FL [A :: l] = ([], CK [A :: l]) := by unfold FL; rw [if_neg c]
    have e2 : FL [A :: l.reverse] = ([], CK [A :: l]) := by unfold FL; rw [hc, if_neg c]
    rw [e1, e2]
    exact ⟨c, rfl⟩
end Go.Proofs.Ytmlkpadlafjfeaa.P
