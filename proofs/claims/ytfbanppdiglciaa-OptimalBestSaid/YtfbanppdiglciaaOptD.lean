import Derived.Test.YtfbanppdiglciaaXx0
import Derived.Test.YtfbanppdiglciaaXx11
import Derived.Test.YtfbanppdiglciaaXx13
import Derived.Test.YtfbanppdiglciaaXx9
import Derived.Test.YtfbanppdiglciaaOptC
set_option linter.unusedVariables false
set_option linter.unusedSimpArgs false
namespace Go.Proofs.Ytfbanppdiglciaa.X
open Go Go.RowKit Go.Proofs.YtfbanppdiglciaaW.PrintWords Go.Proofs.YtfbanppdiglciaaW.PrintLast Go.Proofs.YtfbanppdiglciaaW.PrintMore
def Seg (l : List S31) : Nat → List Int → Prop
  | a, [] => a = l.length + 1
  | a, x :: r => ∃ p : Nat, x = (p : Int) ∧ a ≤ p ∧ p ≤ l.length ∧ plE l p = true ∧ (∀ i, a ≤ i → i < p → plE l i = false) ∧ Seg l (p + 1) r
theorem seg_weak {l : List S31} {a : Nat} {P : List Int} (h : Seg l (a + 1) P) (hn : plE l a = false) : Seg l a P := by
  match P, h with
  | [], h =>
    have : a = l.length := by simp only [Seg] at h; omega
    subst this
    simp [plE] at hn
  | x :: r, ⟨p, h1, h2, h3, h4, h5, h6⟩ =>
    refine ⟨p, h1, by omega, h3, h4, fun i hi hi' => ?_, h6⟩
    by_cases e : i = a
    · subst e; exact hn
    · exact h5 i (by omega) hi'
theorem plF_seg (l : List S31) : ∀ d, d ≤ l.length → Seg l (l.length - d) (plF l d)
  | 0, _ => ⟨l.length, rfl, by omega, by omega, by simp [plE], fun i h h' => by omega, rfl⟩
  | d + 1, h => by
    have ih := plF_seg l d (by omega)
    have e : l.length - d = l.length - (d + 1) + 1 := by omega
    rw [e] at ih
    have pe : plE l (l.length - (d + 1)) = plB l (l.length - (d + 1)) := by unfold plE; rw [if_neg (by omega)]
    unfold plF
    split
    · rename_i c; exact ⟨l.length - (d + 1), rfl, by omega, by omega, by rw [pe]; exact c, fun i h h' => by omega, ih⟩
    · rename_i c; exact seg_weak ih (by rw [pe]; simpa using c)
theorem seg_at (l : List S31) : ∀ (P : List Int) (a i : Nat), Seg l a P → i < P.length → ∃ p : Nat, P.getD i 0 = (p : Int) ∧ (if i = 0 then a else (P.getD (i - 1) 0).toNat + 1) ≤ p ∧ p ≤ l.length ∧ plE l p = true ∧ ∀ x, (if i = 0 then a else (P.getD (i - 1) 0).toNat + 1) ≤ x → x < p → plE l x = false
  | [], _, i, _, h => by simp at h
  | x :: r, a, 0, ⟨p, h1, h2, h3, h4, h5, h6⟩, _ => ⟨p, by simpa using h1, by simpa using h2, h3, h4, by simpa using h5⟩
  | x :: r, a, i + 1, ⟨p, h1, h2, h3, h4, h5, h6⟩, h => by
    obtain ⟨q, g1, g2, g3, g4, g5⟩ := seg_at l r (p + 1) i h6 (by simpa using h)
    refine ⟨q, by simpa using g1, ?_⟩
    have e : (if i + 1 = 0 then a else ((x :: r).getD (i + 1 - 1) 0).toNat + 1) = (if i = 0 then p + 1 else (r.getD (i - 1) 0).toNat + 1) := by
      rw [if_neg (by omega)]
      cases i with
      | zero => subst h1; simp
      | succ i => simp
    rw [e]
    exact ⟨g2, g3, g4, g5⟩
theorem seg_last (l : List S31) : ∀ (P : List Int) (a : Nat), Seg l a P → P ≠ [] → (P.getD (P.length - 1) 0).toNat = l.length
  | [], _, _, h => absurd rfl h
  | [x], a, ⟨p, h1, h2, h3, h4, h5, h6⟩, _ => by simp only [Seg] at h6; subst h1; simp; omega
  | x :: y :: r, a, ⟨p, h1, h2, h3, h4, h5, h6⟩, _ => by
    have := seg_last l (y :: r) (p + 1) h6 (by simp)
    simpa using this
theorem plL_seg (l : List S31) : Seg l 0 (plL l) := by have := plF_seg l l.length (by omega); simpa [plL] using this
theorem plL_pos (l : List S31) : 0 < (plL l).length := by
  have h := plL_seg l
  cases e : plL l with
  | nil => rw [e] at h; simp [Seg] at h
  | cons x r => simp
theorem QF (l : List S31) : (plL l).length ≤ l.length + 1 := plF_len l l.length
def zu (l : List S31) (i : Nat) : Nat := (rd (plL l) (i : Int)).toNat
def stI (l : List S31) (i : Nat) : Nat := if i = 0 then 0 else zu l (i - 1) + 1
theorem jK (l : List S31) {i : Nat} (h : i < (plL l).length) : rd (plL l) (i : Int) = (zu l i : Int) ∧ stI l i ≤ zu l i ∧ zu l i ≤ l.length ∧ plE l (zu l i) = true ∧ ∀ x, stI l i ≤ x → x < zu l i → plE l x = false := by
  obtain ⟨p, g1, g2, g3, g4, g5⟩ := seg_at l (plL l) 0 i (plL_seg l) h
  have e : rd (plL l) (i : Int) = (p : Int) := by unfold rd; rw [show ((i : Int)).toNat = i by omega]; exact g1
  have ep : zu l i = p := by unfold zu; rw [e]; omega
  have es : stI l i = (if i = 0 then 0 else ((plL l).getD (i - 1) 0).toNat + 1) := by
    unfold stI zu rd; rw [show (((i - 1 : Nat) : Int)).toNat = i - 1 by omega]
  rw [ep, es]
  exact ⟨e, g2, g3, g4, g5⟩
theorem Qn (l : List S31) (i : Nat) : stI l (i + 1) = zu l i + 1 := by unfold stI; rw [if_neg (by omega)]; rfl
theorem JF (l : List S31) : stI l 0 = 0 := rfl
theorem Q3 (l : List S31) : stI l (plL l).length = l.length + 1 := by
  have h := plL_pos l
  have := seg_last l (plL l) 0 (plL_seg l) (by intro e; rw [e] at h; simp at h)
  unfold stI zu rd
  rw [if_neg (by omega), show ((((plL l).length - 1 : Nat) : Int)).toNat = (plL l).length - 1 by omega, this]
theorem QP (l : List S31) {i : Nat} : ∀ j, i ≤ j → j ≤ (plL l).length → stI l i ≤ stI l j
  | 0, h, _ => by have : i = 0 := by omega
                  subst this; omega
  | j + 1, h, h' => by
    by_cases e : i = j + 1
    · subst e; omega
    · have := QP l (i := i) j (by omega) (by omega)
      have := (jK l (i := j) (by omega)).2.1
      rw [Qn]; omega
theorem rdS {out : List S59} {i j : Nat} {v : S59} (h : j < out.length) : qX (out.set j v) (i : Int) = if i = j then v else qX out (i : Int) := by
  unfold qX
  rw [show ((i : Int)).toNat = i by omega, List.getD_eq_getElem?_getD, List.getD_eq_getElem?_getD]
  by_cases e : i = j
  · subst e; rw [if_pos rfl, List.getElem?_set_self h]; rfl
  · rw [if_neg e, List.getElem?_set_ne (fun z => e z.symm)]
def Ent (l : List S31) (w t : Int) (Ls : Nat → List Int) (out : List S59) (i : Nat) : Prop :=
  ((qX out (i : Int)).f2 = true → Bst l w t (l.length + 1) (stI l i) (qX out (i : Int)).f1 (Ls i) ∧
    (i < (plL l).length → ∃ j : Nat, (qX out (i : Int)).f0 = (j : Int) ∧ i ≤ j ∧ j < (plL l).length ∧ Ls i = (zu l j : Int) :: Ls (j + 1) ∧ (qX out ((j + 1 : Nat) : Int)).f2 = true) ∧ (i = (plL l).length → Ls i = [])) ∧
  ((qX out (i : Int)).f2 = false → Non l w t (l.length + 1) (stI l i))
def Done (l : List S31) (w t : Int) (out : List S59) (K : Nat) : Prop := out.length = (plL l).length + 1 ∧ ∃ Ls, ∀ i, K ≤ i → i ≤ (plL l).length → Ent l w t Ls out i
def CurE (l : List S31) (Ls : Nat → List Int) (out : List S59) (K : Nat) : Option (Int × List Int) → Prop
  | none => (qX out (K : Int)).f2 = false
  | some (c, L) => (qX out (K : Int)).f2 = true ∧ (qX out (K : Int)).f1 = c ∧ ∃ j0 : Nat, (qX out (K : Int)).f0 = (j0 : Int) ∧ K ≤ j0 ∧ j0 < (plL l).length ∧ L = (zu l j0 : Int) :: Ls (j0 + 1) ∧ (qX out ((j0 + 1 : Nat) : Int)).f2 = true
structure Mid (l : List S31) (w t : Int) (out : List S59) (K j : Nat) (Ls : Nat → List Int) (o : Option (Int × List Int)) : Prop where
  len : out.length = (plL l).length + 1
  ent : ∀ i, K < i → i ≤ (plL l).length → Ent l w t Ls out i
  cur : CurE l Ls out K o
  low : ∀ i, i < K → (qX out (i : Int)).f2 = false
  pb : PB l w t (l.length + 1) (stI l K) (stI l j) o
  nf : ∀ i, stI l K ≤ i → i < stI l j → fcB l i = false
theorem Mid.done {l : List S31} {w t : Int} {out : List S59} {K : Nat} {Ls : Nat → List Int} {o : Option (Int × List Int)} (hK : K < (plL l).length)
    (hl : out.length = (plL l).length + 1) (he : ∀ i, K < i → i ≤ (plL l).length → Ent l w t Ls out i) (hc : CurE l Ls out K o) (ha : FinO l w t (l.length + 1) (stI l K) o) : Done l w t out K := by
  match o, hc, ha with
  | none, hc, ha =>
    refine ⟨hl, Ls, fun i hi hi' => ?_⟩
    by_cases e : i = K
    · subst e
      have hc' : (qX out (i : Int)).f2 = false := hc
      exact ⟨fun h => by (rw [hc'] at h; cases h), fun _ => ha⟩
    · exact he i (by omega) hi'
  | some (c, L), ⟨c1, c2, j0, c3, c4, c5, c6, c7⟩, ha =>
    refine ⟨hl, fun i => if i = K then L else Ls i, fun i hi hi' => ?_⟩
    by_cases e : i = K
    · subst e
      refine ⟨fun _ => ⟨?_, fun _ => ⟨j0, c3, c4, c5, ?_, c7⟩, fun e => by omega⟩, fun h => by (rw [c1] at h; cases h)⟩
      · simp only [if_true]; rw [c2]; exact ha
      · simp only [if_true]; rw [if_neg (by omega)]; exact c6
    · have h := he i (by omega) hi'
      refine ⟨fun h1 => ?_, h.2⟩
      obtain ⟨g1, g2, g3⟩ := h.1 h1
      simp only [if_neg e]
      refine ⟨g1, fun hlt => ?_, g3⟩
      obtain ⟨j1, k1, k2, k3, k4, k5⟩ := g2 hlt
      exact ⟨j1, k1, k2, k3, by rw [if_neg (by omega)]; exact k4, k5⟩
def G0 (l : List S31) (w t : Int) (K : Nat) (out : List S59) : Prop := ∃ out', Ev (fun k => qd.l0 k (plL l) t out ((K : Int) - 1) l (zQ l) (zP l) w) (out', w) ∧ Done l w t out' 0
def G1 (l : List S31) (w t : Int) (K j : Nat) (out : List S59) : Prop := ∃ out', Ev (fun k => qd.l1 k (plL l) t out (K : Int) ((stI l K : Int) - 1) (j : Int) l (zQ l) (zP l) w) (out', w) ∧ Done l w t out' 0
def GF (l : List S31) (w t : Int) (K j : Nat) (out : List S59) : Prop := ∃ out', Ev (fun k => if fcB l (zu l j) = true then qd.l0 k (plL l) t out ((K : Int) - 1) l (zQ l) (zP l) w else qd.l1 k (plL l) t out (K : Int) ((stI l K : Int) - 1) ((j + 1 : Nat) : Int) l (zQ l) (zP l) w) (out', w) ∧ Done l w t out' 0
def Low (out : List S59) (K : Nat) : Prop := ∀ i, i < K → (qX out (i : Int)).f2 = false
theorem JD {l : List S31} {w t : Int} {K j : Nat} (hK : K < (plL l).length) (hj : K ≤ j) (hjm : j < (plL l).length)
    (next : ∀ out, Done l w t out K → Low out K → G0 l w t K out) (ih : ∀ out Ls o, Mid l w t out K (j + 1) Ls o → G1 l w t K (j + 1) out)
    (nf : ∀ i, stI l K ≤ i → i < zu l j → fcB l i = false) (Ls : Nat → List Int) (out1 : List S59) (o1 : Option (Int × List Int)) (hl1 : out1.length = (plL l).length + 1) (he1 : ∀ i, K < i → i ≤ (plL l).length → Ent l w t Ls out1 i)
    (hc1 : CurE l Ls out1 K o1) (lo1 : Low out1 K) (pb1 : PB l w t (l.length + 1) (stI l K) (zu l j + 1) o1) : GF l w t K j out1 := by
  obtain ⟨pe, p1, p2, p3, p4⟩ := jK l hjm
  have kj := QP l j hj (by omega)
  have skl : stI l K ≤ l.length := by have := (jK l hK).2; omega
  unfold GF
  by_cases c : fcB l (zu l j) = true
  · simp only [if_pos c]
    have all := pb1.all skl (.inr ⟨zu l j, by omega, by omega, c⟩)
    exact next out1 (Mid.done hK hl1 he1 hc1 all) lo1
  · simp only [if_neg c]
    refine ih out1 Ls o1 ⟨hl1, he1, hc1, lo1, by rw [Qn]; exact pb1, fun i hi hi' => ?_⟩
    rw [Qn] at hi'
    by_cases e : i = zu l j
    · subst e; simpa using c
    · exact nf i hi (by omega)
theorem best_no {l : List S31} {w t : Int} {K j : Nat} (hK : (K : Int) ≤ 5000) (hj : (j : Int) ≤ 5000) {out : List S59} (h : GF l w t K j out) (r b : Int) :
    ∃ out', Ev (fun k => qd.j3 k (plL l) t out (K : Int) ((stI l K : Int) - 1) (j : Int) (zu l j : Int) false l (zQ l) (zP l) w r b) (out', w) ∧ Done l w t out' 0 := by
  obtain ⟨out', h1, h2⟩ := h
  refine ⟨out', Ev.step (fun k => ?_) h1, h2⟩
  simp only [qd.j3]
  rw [if_neg (by simp), oforced]
  simp only [Option.bind_some]
  rw [w64 (n := (K : Int) - 1) (by omega) (by omega), w64 (n := (j : Int) + 1) (by omega) (by omega), show (j : Int) + 1 = ((j + 1 : Nat) : Int) by omega]
theorem j4_true {l : List S31} {w t : Int} {K j P : Nat} {out : List S59} {D g : Int} {s1 : List S81} {s2 : List Int} (h0 : (0 : Int) ≤ (K : Int)) (h1 : (K : Int) < (out.length : Int)) (k : Nat) :
    qd.j4 (k + 1) (plL l) t out (K : Int) g (j : Int) (P : Int) D true l s1 s2 w =
     if fcB l P = true then qd.l0 k (plL l) t (out.set K ⟨(j : Int), D, true⟩) (wrap64 ((K : Int) - 1)) l s1 s2 w else qd.l1 k (plL l) t (out.set K ⟨(j : Int), D, true⟩) (K : Int) g (wrap64 ((j : Int) + 1)) l s1 s2 w := by
  rw [qd.j4, if_pos rfl, if_pos h0, if_pos h1, Option.bind_some, oforced, Option.bind_some]
  rfl
theorem best_put {l : List S31} {w t : Int} {K j : Nat} (hK : (K : Int) ≤ 5000) (hj : (j : Int) ≤ 5000) {out : List S59} {D : Int} (hKl : K < out.length) (h : GF l w t K j (out.set K ⟨(j : Int), D, true⟩)) :
    ∃ out', Ev (fun k => qd.j4 k (plL l) t out (K : Int) ((stI l K : Int) - 1) (j : Int) (zu l j : Int) D true l (zQ l) (zP l) w) (out', w) ∧ Done l w t out' 0 := by
  obtain ⟨out', h1, h2⟩ := h
  refine ⟨out', Ev.step (fun k => ?_) h1, h2⟩
  have e := j4_true (K := K) (out := out) (w := w) (l := l) (j := j) (D := D) (P := zu l j) (t := t) (g := (stI l K : Int) - 1) (s1 := zQ l) (s2 := zP l) (by omega) (by omega) k
  rw [w64 (n := (K : Int) - 1) (by omega) (by omega), w64 (n := (j : Int) + 1) (by omega) (by omega), show (j : Int) + 1 = ((j + 1 : Nat) : Int) by omega] at e
  exact e
theorem j4_false {l : List S31} {w t : Int} {K j P : Nat} {out : List S59} {D g : Int} {s1 : List S81} {s2 : List Int} (k : Nat) :
    qd.j4 (k + 1) (plL l) t out (K : Int) g (j : Int) (P : Int) D false l s1 s2 w =
     if fcB l P = true then qd.l0 k (plL l) t out (wrap64 ((K : Int) - 1)) l s1 s2 w else qd.l1 k (plL l) t out (K : Int) g (wrap64 ((j : Int) + 1)) l s1 s2 w := by
  rw [qd.j4, if_neg (by simp), oforced, Option.bind_some]
theorem best_keep {l : List S31} {w t : Int} {K j : Nat} (hK : (K : Int) ≤ 5000) (hj : (j : Int) ≤ 5000) {out : List S59} {D : Int} (h : GF l w t K j out) :
    ∃ out', Ev (fun k => qd.j4 k (plL l) t out (K : Int) ((stI l K : Int) - 1) (j : Int) (zu l j : Int) D false l (zQ l) (zP l) w) (out', w) ∧ Done l w t out' 0 := by
  obtain ⟨out', h1, h2⟩ := h
  refine ⟨out', Ev.step (fun k => ?_) h1, h2⟩
  have e := j4_false (K := K) (out := out) (w := w) (l := l) (j := j) (D := D) (P := zu l j) (t := t) (g := (stI l K : Int) - 1) (s1 := zQ l) (s2 := zP l) k
  rw [w64 (n := (K : Int) - 1) (by omega) (by omega), w64 (n := (j : Int) + 1) (by omega) (by omega), show (j : Int) + 1 = ((j + 1 : Nat) : Int) by omega] at e
  exact e
theorem j3_true {l : List S31} {w t K j P r b g dd J D : Int} {pl : List Int} {out : List S59} {s1 : List S81} {s2 : List Int} (hdem : jl.f l s1 s2 w g P b = some (dd, w)) (e1 : wrap64 (j + 1) = J)
    (hD : wrap64 (dd + (qX out J).f1) = D) (h0 : 0 ≤ J) (h1 : J < (out.length : Int)) (h2 : 0 ≤ K) (h3 : K < (out.length : Int)) (k : Nat) :
    qd.j3 (k + 1) pl t out K g j P true l s1 s2 w r b = if (qX out K).f2 = true then qd.j4 k pl t out K g j P D (decide (D < (qX out K).f1)) l s1 s2 w
      else qd.j4 k pl t out K g j P D true l s1 s2 w := by
  rw [qd.j3, if_pos rfl, hdem, Option.bind_some, e1, hD, if_pos h0, if_pos h1, if_pos h2, if_pos h3]
theorem best_step3 {l : List S31} {w t : Int} (F : jL l w t) {K j : Nat} (hK : (K : Int) ≤ 5000) (hj : (j : Int) ≤ 5000) {out : List S59} (hKl : K < out.length) (hjl : j + 1 < out.length) {r b D : Int} (h0 : 0 ≤ b) (h1 : b ≤ 100000)
    (hD : wrap64 (QC l (stI l K) (zu l j) b + (qX out ((j + 1 : Nat) : Int)).f1) = D) (k : Nat) :
    qd.j3 (k + 1) (plL l) t out (K : Int) ((stI l K : Int) - 1) (j : Int) (zu l j : Int) true l (zQ l) (zP l) w r b =
      if (qX out (K : Int)).f2 = true then qd.j4 k (plL l) t out (K : Int) ((stI l K : Int) - 1) (j : Int) (zu l j : Int) D (decide (D < (qX out (K : Int)).f1)) l (zQ l) (zP l) w
      else qd.j4 k (plL l) t out (K : Int) ((stI l K : Int) - 1) (j : Int) (zu l j : Int) D true l (zQ l) (zP l) w := by
  have e1 : wrap64 ((j : Int) + 1) = ((j + 1 : Nat) : Int) := by rw [w64 (by omega) (by omega)]; omega
  exact j3_true (odem F (zQ l) (zP l) (stI l K) (zu l j) h0 h1) e1 hD (by omega) (by omega) (by omega) (by omega) k
theorem best_cand {l : List S31} {w t : Int} (F : jL l w t) {K j : Nat} (hK : K < (plL l).length) (hj : K ≤ j) (hjm : j < (plL l).length)
    (next : ∀ out, Done l w t out K → Low out K → G0 l w t K out) (ih : ∀ out Ls o, Mid l w t out K (j + 1) Ls o → G1 l w t K (j + 1) out)
    (nf : ∀ i, stI l K ≤ i → i < zu l j → fcB l i = false) {Ls : Nat → List Int} {out : List S59} {o : Option (Int × List Int)} (len : out.length = (plL l).length + 1) (ent : ∀ i, K < i → i ≤ (plL l).length → Ent l w t Ls out i)
    (cur : CurE l Ls out K o) (lo : Low out K) (pb : PB l w t (l.length + 1) (stI l K) (zu l j) o)
    (c1 : (jr l (stI l K) (zu l j) w).2.2 = true) (c2 : (jr l (stI l K) (zu l j) w).1 ≤ t) (c3 : (qX out ((j + 1 : Nat) : Int)).f2 = true) (r : Int) :
    ∃ out', Ev (fun k => qd.j3 k (plL l) t out (K : Int) ((stI l K : Int) - 1) (j : Int) (zu l j : Int) true l (zQ l) (zP l) w r (jr l (stI l K) (zu l j) w).2.1) (out', w) ∧ Done l w t out' 0 := by
  have n := F.len
  have pn := QF l
  obtain ⟨pe, p1, p2, p3, p4⟩ := jK l hjm
  have kj := QP l j hj (by omega)
  have gap : gapB l (stI l K) (zu l j) = true := (Qp l _ _).2 ⟨by omega, p2, p3, nf⟩
  have hstp : stp l w t (stI l K) (zu l j) = some (QC l (stI l K) (zu l j) (jr l (stI l K) (zu l j) w).2.1) := by
    unfold stp; rw [if_pos ⟨gap, c1, c2⟩]
  have lb := QB F (stI l K) (tt := zu l j) p2
  have bb : 0 ≤ (jr l (stI l K) (zu l j) w).2.1 ∧ (jr l (stI l K) (zu l j) w).2.1 ≤ 100000 := Jm lb.1.1 lb.2.1.1 lb.2.2.1 c1
  clear lb
  obtain ⟨B, _, _⟩ := (ent (j + 1) (by omega) (by omega)).1 c3
  rw [Qn] at B
  have db := stp_bd F hstp
  have cb := cost_bd F _ _ _ B.1
  have wd : wrap64 (QC l (stI l K) (zu l j) (jr l (stI l K) (zu l j) w).2.1 + (qX out ((j + 1 : Nat) : Int)).f1) = QC l (stI l K) (zu l j) (jr l (stI l K) (zu l j) w).2.1 + (qX out ((j + 1 : Nat) : Int)).f1 := w64 (by omega) (by omega)
  have WD := qa.mk wd
  clear wd db cb
  have hKl : K < out.length := by omega
  have step3 := fun k => best_step3 F (K := K) (j := j) (by omega) (by omega) hKl (by omega) (r := r) (w := w) (t := t) bb.1 bb.2 WD.out k
  generalize hD : QC l (stI l K) (zu l j) (jr l (stI l K) (zu l j) w).2.1 + (qX out ((j + 1 : Nat) : Int)).f1 = D at step3
  have put : (∀ c0 L0, o = some (c0, L0) → D < c0) → GF l w t K j (out.set K ⟨(j : Int), D, true⟩) := by
    intro hb
    have pb1 := PB.new pb hstp B (by rw [hD]; exact hb)
    rw [hD] at pb1
    refine JD hK hj hjm next ih nf Ls _ _ (by simpa using len) (fun i hi hi' => ?_) ?_ (fun i hi => ?_) pb1
    · have := ent i hi hi'
      unfold Ent at this ⊢
      rw [rdS hKl, if_neg (by omega)]
      refine ⟨fun h => ?_, this.2⟩
      obtain ⟨g1, g2, g3⟩ := this.1 h
      refine ⟨g1, fun hlt => ?_, g3⟩
      obtain ⟨j0, k1, k2, k3, k4, k5⟩ := g2 hlt
      exact ⟨j0, k1, k2, k3, k4, by rw [rdS hKl, if_neg (by omega)]; exact k5⟩
    · unfold CurE
      rw [rdS hKl, if_pos rfl]
      exact ⟨rfl, rfl, j, rfl, hj, hjm, rfl, by rw [rdS hKl, if_neg (by omega)]; exact c3⟩
    · rw [rdS hKl, if_neg (by omega)]; exact lo i hi
  match o, cur, pb, put with
  | none, hc, pb, put =>
    obtain ⟨out', h1, h2⟩ := best_put (by omega) (by omega) hKl (put (fun _ _ h => by cases h))
    have hc' : (qX out (K : Int)).f2 = false := hc
    refine ⟨out', Ev.step (fun k => ?_) h1, h2⟩
    rw [step3, hc', if_neg (by simp)]
  | some (c0, L0), hc, pb, put =>
    obtain ⟨hc1, hc2, _⟩ := id hc
    by_cases c4 : D < c0
    · obtain ⟨out', h1, h2⟩ := best_put (by omega) (by omega) hKl (put (fun _ _ h => by cases h; exact c4))
      refine ⟨out', Ev.step (fun k => ?_) h1, h2⟩
      rw [step3, hc1, if_pos rfl, hc2, decide_eq_true c4]
    · have pb1 := PB.keep pb hstp B (by omega)
      obtain ⟨out', h1, h2⟩ := best_keep (D := D) (by omega) (by omega) (JD hK hj hjm next ih nf Ls out _ len ent hc lo pb1)
      refine ⟨out', Ev.step (fun k => ?_) h1, h2⟩
      rw [step3, hc1, if_pos rfl, hc2, decide_eq_false c4]
theorem best_round {l : List S31} {w t : Int} (F : jL l w t) {K j : Nat} (hK : K < (plL l).length) (hj : K ≤ j) (hjm : j < (plL l).length)
    (next : ∀ out, Done l w t out K → Low out K → G0 l w t K out) (ih : ∀ out Ls o, Mid l w t out K (j + 1) Ls o → G1 l w t K (j + 1) out)
    {Ls : Nat → List Int} {out : List S59} {o : Option (Int × List Int)} (M : Mid l w t out K j Ls o) : G1 l w t K j out := by
  have n := F.len
  have pn := QF l
  have skl : stI l K ≤ l.length := by have := (jK l hK).2; omega
  obtain ⟨pe, p1, p2, p3, p4⟩ := jK l hjm
  have kj := QP l j hj (by omega)
  have len := M.len
  have pb : PB l w t (l.length + 1) (stI l K) (zu l j) o := M.pb.skip p1 (fun x r hx hx' => Q7 (by
    cases hs : stp l w t (stI l K) x with
    | none => rfl
    | some d => have := ((Qp l _ x).1 (QI hs).1).2.2.1; rw [p4 x hx hx'] at this; cases this) r)
  have nf : ∀ i, stI l K ≤ i → i < zu l j → fcB l i = false := fun i hi hi' => by
    by_cases c : i < stI l j
    · exact M.nf i hi c
    · cases hs : fcB l i with
      | false => rfl
      | true => have := fc_pl hs; rw [p4 i (by omega) hi'] at this; cases this
  have no : (stp l w t (stI l K) (zu l j) = none ∨ Non l w t (l.length + 1) (zu l j + 1)) → ∀ (r b : Int), ∃ out', Ev (fun k => qd.j3 k (plL l) t out (K : Int) ((stI l K : Int) - 1) (j : Int) (zu l j : Int) false l (zQ l) (zP l) w r b) (out', w) ∧ Done l w t out' 0 := by
    intro hn r b
    refine best_no (by omega) (by omega) (JD hK hj hjm next ih nf Ls out o M.len M.ent M.cur M.low (pb.skip (by omega) (fun x r hx hx' => ?_))) r b
    obtain rfl : x = zu l j := by omega
    rcases hn with hn | hn
    · exact Q7 hn r
    · exact none_rest hn r
  have hfit := ofit F (a := stI l K) (tt := zu l j) skl p2
  have q1 : (0 : Int) ≤ ((j + 1 : Nat) : Int) := by omega
  have q2 : ((j + 1 : Nat) : Int) < (out.length : Int) := by omega
  have q3 : (0 : Int) ≤ (j : Int) := by omega
  have q4 : (j : Int) < ((plL l).length : Int) := by omega
  suffices H : ∃ out', Ev (fun k => if (jr l (stI l K) (zu l j) w).2.2 = true then (if (jr l (stI l K) (zu l j) w).1 ≤ t then qd.j3 k (plL l) t out (K : Int) ((stI l K : Int) - 1) (j : Int) (zu l j : Int) ((qX out ((j + 1 : Nat) : Int)).f2) l (zQ l) (zP l) w (jr l (stI l K) (zu l j) w).1 (jr l (stI l K) (zu l j) w).2.1
      else qd.j3 k (plL l) t out (K : Int) ((stI l K : Int) - 1) (j : Int) (zu l j : Int) false l (zQ l) (zP l) w (jr l (stI l K) (zu l j) w).1 (jr l (stI l K) (zu l j) w).2.1) else qd.j3 k (plL l) t out (K : Int) ((stI l K : Int) - 1) (j : Int) (zu l j : Int) false l (zQ l) (zP l) w (jr l (stI l K) (zu l j) w).1 (jr l (stI l K) (zu l j) w).2.1) (out', w) ∧ Done l w t out' 0 by
    obtain ⟨out', h1, h2⟩ := H
    refine ⟨out', ?_, h2⟩
    have := Ev.bind (f := fun k bt => if bt.2.2.1 = true then (if bt.1 ≤ t then qd.j3 k (plL l) t out (K : Int) ((stI l K : Int) - 1) (j : Int) (zu l j : Int) ((qX out ((j + 1 : Nat) : Int)).f2) l (zQ l) (zP l) bt.2.2.2 bt.1 bt.2.1
      else qd.j3 k (plL l) t out (K : Int) ((stI l K : Int) - 1) (j : Int) (zu l j : Int) false l (zQ l) (zP l) bt.2.2.2 bt.1 bt.2.1) else qd.j3 k (plL l) t out (K : Int) ((stI l K : Int) - 1) (j : Int) (zu l j : Int) false l (zQ l) (zP l) bt.2.2.2 bt.1 bt.2.1) hfit h1
    refine Ev.step (fun k => ?_) this
    simp only [qd.l1]
    rw [w64 (n := (j : Int) + 1) (by omega) (by omega), show (j : Int) + 1 = ((j + 1 : Nat) : Int) by omega, pe]
    simp only [q1, q2, q3, q4, if_true]
  by_cases c1 : (jr l (stI l K) (zu l j) w).2.2 = true
  · simp only [if_pos c1]
    by_cases c2 : (jr l (stI l K) (zu l j) w).1 ≤ t
    · simp only [if_pos c2]
      by_cases c3 : (qX out ((j + 1 : Nat) : Int)).f2 = true
      · rw [c3]
        exact best_cand F hK hj hjm next ih nf M.len M.ent M.cur M.low pb c1 c2 c3 _
      · have c3' : (qX out ((j + 1 : Nat) : Int)).f2 = false := by simpa using c3
        rw [c3']
        have := (M.ent (j + 1) (by omega) (by omega)).2 c3'
        rw [Qn] at this
        exact no (.inr this) _ _
    · simp only [if_neg c2]
      exact no (.inl (by unfold stp; rw [if_neg (fun z => c2 z.2.2)])) _ _
  · simp only [if_neg c1]
    exact no (.inl (by unfold stp; rw [if_neg (fun z => c1 z.2.1)])) _ _
theorem best_l1 {l : List S31} {w t : Int} (F : jL l w t) {K : Nat} (hK : K < (plL l).length) (next : ∀ out, Done l w t out K → Low out K → G0 l w t K out) :
    ∀ (d : Nat) (j : Nat) (out : List S59) (Ls : Nat → List Int) (o : Option (Int × List Int)), (plL l).length - j = d → K ≤ j → j ≤ (plL l).length → Mid l w t out K j Ls o → G1 l w t K j out := by
  have n := F.len
  have pn := QF l
  have skl : stI l K ≤ l.length := by have := (jK l hK).2; omega
  intro d
  induction d with
  | zero =>
    intro j out Ls o e hj hj' M
    obtain rfl : j = (plL l).length := by omega
    have pb := M.pb
    rw [Q3] at pb
    have all := pb.all skl (.inl (by omega))
    obtain ⟨out', h1, h2⟩ := next out (Mid.done hK M.len M.ent M.cur all) M.low
    refine ⟨out', Ev.step (fun k => ?_) h1, h2⟩
    simp only [qd.l1]
    rw [if_neg (by omega), w64 (n := (K : Int) - 1) (by omega) (by omega)]
  | succ d ih =>
    intro j out Ls o e hj hj' M
    exact best_round F hK hj (by omega) next (fun out Ls o M => ih (j + 1) out Ls o (by omega) (by omega) (by omega) M) M
theorem best_l0 {l : List S31} {w t : Int} (F : jL l w t) : ∀ (K : Nat) (out : List S59), K ≤ (plL l).length → Done l w t out K → Low out K → G0 l w t K out
  | 0, out, _, D, _ => ⟨out, Ev.intro 1 fun k => by
      simp only [qd.l0]
      rw [if_neg (by omega)], D⟩
  | K + 1, out, hK, D, lo => by
    have n := F.len
    have pn := QF l
    obtain ⟨len, Ls, ent⟩ := D
    obtain ⟨out', h1, h2⟩ := best_l1 F (K := K) (by omega) (fun out D lo => best_l0 F K out (by omega) D lo) _ K out Ls none rfl (by omega) (by omega)
      ⟨len, fun i hi hi' => ent i (by omega) hi', lo K (by omega), fun i hi => lo i (by omega), PB.begin l w t _ _, fun i hi hi' => by omega⟩
    refine ⟨out', ?_, h2⟩
    refine Ev.step (f := fun k => qd.j1 k (plL l) t out (K : Int) ((stI l K : Int) - 1) l (zQ l) (zP l) w) (fun k => ?_) (Ev.step (fun k => ?_) h1)
    · simp only [qd.l0]
      rw [show ((K + 1 : Nat) : Int) - 1 = (K : Int) by omega, if_pos (by omega)]
      by_cases c : K = 0
      · subst c; rw [if_neg (by omega)]; rfl
      · have e := (jK l (i := K - 1) (by omega)).1
        rw [if_pos (by omega), w64 (n := (K : Int) - 1) (by omega) (by omega), if_pos (by omega), if_pos (by omega), show (K : Int) - 1 = ((K - 1 : Nat) : Int) by omega, e]
        unfold stI; rw [if_neg c]; congr 1; omega
    · simp only [qd.j1]
theorem best_f {l : List S31} {w t : Int} (F : jL l w t) : ∃ out, Ev (fun k => qd.f k l (zQ l) (zP l) w (plL l) t) (out, w) ∧ Done l w t out 0 := by
  have n := F.len
  have pn := QF l
  have hm : ((plL l).length + 1 : Nat) = (((plL l).length : Int) + 1).toNat := by omega
  have L : (List.replicate ((plL l).length + 1) z59).length = (plL l).length + 1 := by simp
  have R : ∀ i : Nat, qX (List.replicate ((plL l).length + 1) z59) (i : Int) = z59 := fun i => by
    unfold qX; rw [List.getD_eq_getElem?_getD, List.getElem?_replicate]; split <;> rfl
  obtain ⟨out, h1, h2⟩ := best_l0 F (plL l).length ((List.replicate ((plL l).length + 1) z59).set (plL l).length ⟨0, 0, true⟩) (by omega)
    ⟨by simp, fun _ => [], fun i hi hi' => by
      obtain rfl : i = (plL l).length := by omega
      unfold Ent
      rw [rdS (by rw [L]; omega), if_pos rfl]
      refine ⟨fun _ => ⟨⟨by simp [cost, Q3], fun L' c' hc => ?_⟩, fun h => by omega, fun _ => rfl⟩, fun h => by cases h⟩
      cases L' with
      | nil =>
        simp only [cost, Q3, if_true] at hc
        obtain rfl := Option.some.inj hc
        exact NW.refl _ _
      | cons x r => have := (ZO _ _ _ hc).2 (by simp); rw [Q3] at this; omega⟩
    (fun i hi => by rw [rdS (by rw [L]; omega), if_neg (by omega), R]; rfl)
  refine ⟨out, ?_, h2⟩
  unfold qd.f
  rw [w64 (n := ((plL l).length : Int) + 1) (by omega) (by omega), ← hm]
  have q0 : (0 : Int) ≤ ((plL l).length : Int) + 1 := by omega
  have q1 : (plL l).length + 1 ≤ 11728124029610 := by omega
  have q2 : (0 : Int) ≤ ((plL l).length : Int) := by omega
  have q3 : ((plL l).length : Int) < ((List.replicate ((plL l).length + 1) z59).length : Int) := by rw [L]; omega
  simp only [Option.bind_some, q0, q1, q2, q3, if_true]
  rw [w64 (n := ((plL l).length : Int) - 1) (by omega) (by omega)]
  rw [R, show (((plL l).length : Int)).toNat = (plL l).length by omega]
  exact h1
end Go.Proofs.Ytfbanppdiglciaa.X
