import Derived.Test.YtfbanppdiglciaaXx0
import Derived.Test.YtfbanppdiglciaaXx18
import Derived.Test.YtfbanppdiglciaaXx23
import Derived.Test.YtfbanppdiglciaaXx25
import Derived.Test.YtfbanppdiglciaaXx27
import Derived.Test.YtfbanppdiglciaaOptH
import Derived.Test.YtfbanppdiglciaaXx28
set_option linter.unusedVariables false
set_option linter.unusedSimpArgs false
namespace Go.Proofs.Ytfbanppdiglciaa.X
open Go Go.RowKit Go.Proofs.YtfbanppdiglciaaW.PrintWords Go.Proofs.YtfbanppdiglciaaW.PrintLast Go.Proofs.YtfbanppdiglciaaW.PrintMore
theorem JG {l : List S31} {w t : Int} {E : Nat} : ∀ (L : List Int) (a : Nat) (c : Int), cost l w t E a L = some c → L.length + a ≤ E
  | [], a, c, h => by
    simp only [cost] at h
    split at h
    · simp; omega
    · cases h
  | x :: r, a, c, h => by
    obtain ⟨d, c', h1, h2, _⟩ := Qd h
    have := (Jb (QM h1).2).1
    have := JG r _ c' h2
    simp only [List.length_cons]; omega
theorem non_zero (l : List S31) (w t : Int) {x : Nat} (h : plE l x = false) : Non l w t (x + 1) 0 := fun L => by
  cases hc : cost l w t (x + 1) 0 L with
  | none => rfl
  | some c =>
    by_cases e : L = []
    · subst e
      simp only [cost] at hc
      split at hc
      · omega
      · cases hc
    · obtain ⟨x', a', L0, c0, d, _, hE, _, h4, _⟩ := ZC L 0 c e hc
      obtain rfl : x = x' := by omega
      rw [((Qp l _ _).1 (QI h4).1).2.2.1] at h; cases h
theorem rem_skip {l : List S31} {w t : Int} (F : jL l w t) {acc : List Int} {from_ ch : Int} {j : Nat} (hj : j < (plL l).length) {X : List Int}
    (h : Ev (fun k => qp.l1 k l w acc from_ ch (zu l j : Int)) X) : ∀ (d x : Nat), zu l j - x = d → stI l j ≤ x → x ≤ zu l j → Ev (fun k => qp.l1 k l w acc from_ ch (x : Int)) X := by
  have n := F.len
  obtain ⟨p0, p1, p2, p3, p4⟩ := jK l hj
  intro d
  induction d with
  | zero =>
    intro x e h1 h2
    obtain rfl : x = zu l j := by omega
    exact h
  | succ d ih =>
    intro x e h1 h2
    refine Ev.step (fun k => ?_) (ih (x + 1) (by omega) (by omega) (by omega))
    rw [qp.l1, if_pos (by omega), rplace (by omega) (by omega), Option.bind_some, p4 x h1 (by omega), if_neg (by simp), w64 (n := (x : Int) + 1) (by omega) (by omega)]; rfl
theorem rem_l1 {l : List S31} {w t : Int} (F : jL l w t) {i : Nat} (hi : i < (plL l).length) {acc : List Int} (ha : acc.length ≤ 5000) {X : List Int} :
    ∀ (d j ch : Nat), (plL l).length - j = d → i ≤ j → j ≤ (plL l).length → ch < (plL l).length → (j = i → ch = i) →
    Ev (fun k => qp.l0 k l w (acc ++ [(zu l (emC l w (stI l i) d j ch) : Int)]) (zu l (emC l w (stI l i) d j ch) : Int)) X →
    Ev (fun k => qp.l1 k l w acc ((stI l i : Int) - 1) (if j = i then -1 else (zu l ch : Int)) (stI l j : Int)) X := by
  have n := F.len
  have pn := QF l
  intro d
  induction d with
  | zero =>
    intro j ch e hj hj' hch hji h
    refine Ev.step (fun k => ?_) h
    obtain rfl : j = (plL l).length := by omega
    simp only [emC]
    rw [Q3, qp.l1, if_neg (by omega), if_pos (by omega), if_neg (by omega)]
  | succ d ih =>
    intro j ch e hj hj' hch hji h
    have hjm : j < (plL l).length := by omega
    have pj := jK l hjm
    have sm := QP l (i := i) j hj (by omega)
    have lb := QB F (stI l i) (tt := zu l j) pj.2.2.1
    have q0 : acc.length < 17592186044416 := by omega
    refine rem_skip F hjm ?_ _ _ rfl (by omega) pj.2.1
    simp only [emC] at h
    have e1 : wrap64 ((zu l j : Int) + 1) = (stI l (j + 1) : Int) := by rw [Qn, w64 (by omega) (by omega)]; omega
    have E1 := qa.mk e1
    clear e1
    have e3 : wrap64 ((jq l (stI l i) (zu l j)).1 - (jq l (stI l i) (zu l j)).2.2) = (jq l (stI l i) (zu l j)).1 - (jq l (stI l i) (zu l j)).2.2 := w64 (by omega) (by omega)
    have E3 := qa.mk e3
    clear e3 lb
    have line := rline F (a := stI l i) (tt := zu l j) (by have := pj.2.1; omega) pj.2.2.1
    have yes : ∀ c0 : Int, (Ev (fun k => if fcB l (zu l j) = true then qp.l0 k l w (acc ++ [(zu l j : Int)]) (zu l j : Int) else qp.l1 k l w acc ((stI l i : Int) - 1) (zu l j : Int) (stI l (j + 1) : Int)) X) →
        Ev (fun k => qp.j2 k l w acc ((stI l i : Int) - 1) c0 (zu l j : Int) true) X := fun c0 h => by
      refine Ev.step (fun k => ?_) h
      rw [qp.j2, if_pos rfl, rforced pj.2.2.1, Option.bind_some, E1.out, if_pos q0]
    have nope : ∀ c0 : Int, (Ev (fun k => if fcB l (zu l j) = true then qp.l0 k l w (acc ++ [c0]) c0 else qp.l1 k l w acc ((stI l i : Int) - 1) c0 (stI l (j + 1) : Int)) X) →
        Ev (fun k => qp.j2 k l w acc ((stI l i : Int) - 1) c0 (zu l j : Int) false) X := fun c0 h => by
      refine Ev.step (fun k => ?_) h
      rw [qp.j2, if_neg (by simp), rforced pj.2.2.1, Option.bind_some, E1.out, if_pos q0]
    have start : ∀ c0 : Int, Ev (fun k => if c0 < 0 then qp.j2 k l w acc ((stI l i : Int) - 1) c0 (zu l j : Int) true else qp.j2 k l w acc ((stI l i : Int) - 1) c0 (zu l j : Int) (decide ((jq l (stI l i) (zu l j)).1 - (jq l (stI l i) (zu l j)).2.2 ≤ w))) X →
        Ev (fun k => qp.l1 k l w acc ((stI l i : Int) - 1) c0 (zu l j : Int)) X := fun c0 h => by
      rw [← E3.out] at h
      refine Ev.step (fun k => ?_) (Ev.bind (f := fun k bt => if c0 < 0 then qp.j2 k l w acc ((stI l i : Int) - 1) c0 (zu l j : Int) true else qp.j2 k l w acc ((stI l i : Int) - 1) c0 (zu l j : Int) (decide (wrap64 (bt.1 - bt.2.2) ≤ w))) line h)
      rw [qp.l1, if_pos (by have := pj.2.2.1; omega), rplace pj.2.2.1 (by omega), Option.bind_some, pj.2.2.2.1, if_pos rfl]
    have recj : ¬ fcB l (zu l j) = true → ∀ c, c < (plL l).length → Ev (fun k => qp.l0 k l w (acc ++ [(zu l (emC l w (stI l i) d (j + 1) c) : Int)]) (zu l (emC l w (stI l i) d (j + 1) c) : Int)) X → Ev (fun k => qp.l1 k l w acc ((stI l i : Int) - 1) (zu l c : Int) (stI l (j + 1) : Int)) X := fun _ c hc h => by
      have := ih (j + 1) c (by omega) (by omega) (by omega) hc (fun e => by omega) h
      rwa [if_neg (by omega)] at this
    refine start _ ?_
    by_cases ji : j = i
    · have : ch = j := by rw [ji]; exact hji ji
      subst this
      have hs : (if (jq l (stI l i) (zu l ch)).1 - (jq l (stI l i) (zu l ch)).2.2 ≤ w then ch else ch) = ch := by split <;> rfl
      rw [hs] at h
      simp only [if_pos ji, show (-1 : Int) < 0 by omega, if_true]
      refine yes _ ?_
      by_cases cf : fcB l (zu l ch) = true
      · simp only [if_pos cf] at h ⊢; exact h
      · simp only [if_neg cf] at h ⊢; exact recj cf ch hch h
    · simp only [if_neg ji, show ¬ (zu l ch : Int) < 0 by omega, if_false]
      by_cases c : (jq l (stI l i) (zu l j)).1 - (jq l (stI l i) (zu l j)).2.2 ≤ w
      · simp only [if_pos c, decide_eq_true c] at h ⊢
        refine yes _ ?_
        by_cases cf : fcB l (zu l j) = true
        · simp only [if_pos cf] at h ⊢; exact h
        · simp only [if_neg cf] at h ⊢; exact recj cf j hjm h
      · simp only [if_neg c, decide_eq_false c] at h ⊢
        refine nope _ ?_
        by_cases cf : fcB l (zu l j) = true
        · simp only [if_pos cf] at h ⊢; exact h
        · simp only [if_neg cf] at h ⊢; exact recj cf ch hch h
theorem rem_l0 {l : List S31} {w t : Int} (F : jL l w t) : ∀ (d i : Nat) (acc : List Int), (plL l).length - i ≤ d → i ≤ (plL l).length → acc.length ≤ i →
    Ev (fun k => qp.l0 k l w acc ((stI l i : Int) - 1)) (acc ++ emL l w d i)
  | d, i, acc, h, h', ha => by
    have n := F.len
    have pn := QF l
    by_cases c : i < (plL l).length
    · cases d with
      | zero => omega
      | succ d =>
        obtain ⟨e1, e2, e3⟩ := emC_at (w := w) c
        have pi := jK l c
        have ih := rem_l0 F d (emC l w (stI l i) ((plL l).length - i) i i + 1) (acc ++ [(zu l (emC l w (stI l i) ((plL l).length - i) i i) : Int)]) (by omega) (by omega) (by simp; omega)
        rw [Qn, show ((zu l (emC l w (stI l i) ((plL l).length - i) i i) + 1 : Nat) : Int) - 1 = (zu l (emC l w (stI l i) ((plL l).length - i) i i) : Int) by omega] at ih
        have := rem_l1 F c (acc := acc) (by omega) _ i i rfl (by omega) (by omega) c (fun _ => rfl) ih
        rw [if_pos rfl] at this
        refine Ev.step (fun k => ?_) (by simpa [emL, if_pos c] using this)
        have p1 := pi.2.1
        have p2 := pi.2.2.1
        rw [qp.l0, if_pos (by omega), w64 (n := (stI l i : Int) - 1 + 1) (by omega) (by omega), show (stI l i : Int) - 1 + 1 = (stI l i : Int) by omega]
    · have e : emL l w d i = [] := by cases d <;> simp [emL, c]
      rw [e, List.append_nil]
      obtain rfl : i = (plL l).length := by omega
      refine Ev.intro 1 fun k => ?_
      rw [qp.l0, Q3, if_neg (by omega)]
theorem rem_f {l : List S31} {w t : Int} (F : jL l w t) : Ev (fun k => qp.f k l w) (emL l w (plL l).length 0) := by
  have := rem_l0 F (plL l).length 0 [] (by omega) (by omega) (by simp)
  simpa [qp.f, JF] using this
def EntR (l : List S31) (w t : Int) (G : List Bool) (T : List Int) (Ls : List (List Int)) (a : Nat) : Prop :=
  (jN false G (a : Int) = true → Bst l w t a 0 (rd T (a : Int)) (jc Ls (a : Int))) ∧ (jN false G (a : Int) = false → Non l w t a 0)
structure Zt (l : List S31) (w t : Int) (G : List Bool) (T : List Int) (Ls : List (List Int)) (K : Nat) : Prop where
  hg : G.length = l.length + 2
  ht : T.length = l.length + 2
  hs : Ls.length = l.length + 2
  ent : ∀ a, a ≤ K → a ≤ l.length + 1 → EntR l w t G T Ls a
def CurR (G : List Bool) (T : List Int) (Ls : List (List Int)) (a : Nat) : Option (Int × List Int) → Prop
  | none => jN false G (a : Int) = false
  | some (c, L) => jN false G (a : Int) = true ∧ rd T (a : Int) = c ∧ jc Ls (a : Int) = L
def ZG (G : List Bool) (K : Nat) : Prop := ∀ a, K < a → jN false G (a : Int) = false
theorem Zp {α : Type} {z : α} {G : List α} {i j : Nat} {v : α} (h : j < G.length) : jN z (G.set j v) (i : Int) = if i = j then v else jN z G (i : Int) := by
  unfold jN
  rw [show ((i : Int)).toNat = i by omega, List.getD_eq_getElem?_getD, List.getD_eq_getElem?_getD]
  by_cases e : i = j
  · subst e; rw [if_pos rfl, List.getElem?_set_self h]; rfl
  · rw [if_neg e, List.getElem?_set_ne (fun z => e z.symm)]
theorem rdI_set {G : List Int} {i j : Nat} {v : Int} (h : j < G.length) : rd (G.set j v) (i : Int) = if i = j then v else rd G (i : Int) := Zp (z := (0 : Int)) h
theorem rdL_set {G : List (List Int)} {i j : Nat} {v : List Int} (h : j < G.length) : jc (G.set j v) (i : Int) = if i = j then v else jc G (i : Int) := Zp (z := ([] : List Int)) h
def Zl (l : List S31) (w t : Int) (R : List Int × Int × Bool × Int) : Prop := (∃ c L, Bst l w t (l.length + 1) 0 c L ∧ R = (L, c, false, 0)) ∨ (Non l w t (l.length + 1) 0 ∧ R = (emL l w (plL l).length 0, 0, true, 0))
def R0 (l : List S31) (w t : Int) (K : Nat) (G : List Bool) (T : List Int) (Ls : List (List Int)) : Prop := ∃ R, Ev (fun k => qf.l0 k l w t (l.length : Int) G T Ls (K : Int)) R ∧ Zl l w t R
def R1 (l : List S31) (w t : Int) (K B : Nat) (G : List Bool) (T : List Int) (Ls : List (List Int)) : Prop := ∃ R, Ev (fun k => qf.l1 k l w t (l.length : Int) G T Ls (K : Int) ((B : Int) - 2)) R ∧ Zl l w t R
structure ZF (l : List S31) (w t : Int) (G : List Bool) (T : List Int) (Ls : List (List Int)) (K B : Nat) (o : Option (Int × List Int)) : Prop where
  tab : Zt l w t G T Ls K
  cur : CurR G T Ls (K + 1) o
  low : ZG G (K + 1)
  pf : PF l w t K B o
  nf : ∀ i, B ≤ i + 1 → i < K → fcB l i = false
theorem ZF.done {l : List S31} {w t : Int} {G : List Bool} {T : List Int} {Ls : List (List Int)} {K : Nat} {o : Option (Int × List Int)} (tab : Zt l w t G T Ls K) (cur : CurR G T Ls (K + 1) o) (fin : FinO l w t (K + 1) 0 o) : Zt l w t G T Ls (K + 1) :=
  ⟨tab.hg, tab.ht, tab.hs, fun a ha ha' => by
    by_cases e : a = K + 1
    · subst e
      match o, cur, fin with
      | none, hc, hf =>
        have hc' : jN false G ((K + 1 : Nat) : Int) = false := hc
        exact ⟨fun h => by (rw [hc'] at h; cases h), fun _ => hf⟩
      | some (c, L), ⟨h1, h2, h3⟩, hf => exact ⟨fun _ => by rw [h2, h3]; exact hf, fun h => by (rw [h1] at h; cases h)⟩
    · exact tab.ent a (by omega) ha'⟩
def RF (l : List S31) (w t : Int) (K b : Nat) (G : List Bool) (T : List Int) (Ls : List (List Int)) : Prop :=
  ∃ R, Ev (fun k => if (b : Int) - 1 ≥ 0 then ((zx.f l ((b : Int) - 1)).bind fun t372 => (if t372 = true then (qf.l0 k l w t (l.length : Int) G T Ls (wrap64 ((K : Int) + 1))) else (qf.l1 k l w t (l.length : Int) G T Ls (K : Int) (wrap64 ((b : Int) - 1 - 1))))) else (qf.l1 k l w t (l.length : Int) G T Ls (K : Int) (wrap64 ((b : Int) - 1 - 1)))) R ∧ Zl l w t R
theorem rb_fin {l : List S31} {w t : Int} (n : l.length ≤ 4096) {K b : Nat} (hK : K ≤ l.length) (hb : b ≤ K) {G : List Bool} {T : List Int} {Ls : List (List Int)} {o : Option (Int × List Int)}
    (next : Zt l w t G T Ls (K + 1) → ZG G (K + 1) → R0 l w t (K + 1) G T Ls) (ih : ZF l w t G T Ls K b o → R1 l w t K b G T Ls)
    (tab : Zt l w t G T Ls K) (cur : CurR G T Ls (K + 1) o) (low : ZG G (K + 1)) (pf : PF l w t K b o) (nf : ∀ i, b ≤ i → i < K → fcB l i = false) : RF l w t K b G T Ls := by
  unfold RF
  have e1 : wrap64 ((K : Int) + 1) = ((K + 1 : Nat) : Int) := by rw [w64 (by omega) (by omega)]; omega
  have e2 : wrap64 ((b : Int) - 1 - 1) = (b : Int) - 2 := by rw [w64 (by omega) (by omega)]; omega
  rw [e1, e2]
  clear e1 e2
  by_cases c : b = 0
  · simp only [show ¬ (b : Int) - 1 ≥ 0 by omega, if_false]
    exact ih ⟨tab, cur, low, pf, fun i hi hi' => nf i (by omega) hi'⟩
  · simp only [show (b : Int) - 1 ≥ 0 by omega, if_true]
    rw [show (b : Int) - 1 = ((b - 1 : Nat) : Int) by omega, rforced (by omega)]
    simp only [Option.bind_some]
    by_cases cf : fcB l (b - 1) = true
    · simp only [if_pos cf]
      exact next (ZF.done tab cur (pf.all (.inr ⟨hb, cf⟩))) low
    · simp only [if_neg cf]
      refine ih ⟨tab, cur, low, pf, fun i hi hi' => ?_⟩
      by_cases e : i = b - 1
      · subst e; simpa using cf
      · exact nf i (by omega) hi'
theorem rb_no {l : List S31} {w t : Int} {K b : Nat} {G : List Bool} {T : List Int} {Ls : List (List Int)} (h : RF l w t K b G T Ls) (x : Int) : ∃ R, Ev (fun k => qf.j3 k l w t (l.length : Int) G T Ls (K : Int) ((b : Int) - 1) x false) R ∧ Zl l w t R := by
  obtain ⟨R, h1, h2⟩ := h
  refine ⟨R, Ev.step (fun k => ?_) h1, h2⟩
  rw [qf.j3, if_neg (by simp)]
theorem rb_keep {l : List S31} {w t : Int} {K b : Nat} {G : List Bool} {T : List Int} {Ls : List (List Int)} (h : RF l w t K b G T Ls) (D : Int) (L : List Int) : ∃ R, Ev (fun k => qf.j4 k l w t (l.length : Int) G T Ls (K : Int) ((b : Int) - 1) D L false) R ∧ Zl l w t R := by
  obtain ⟨R, h1, h2⟩ := h
  refine ⟨R, Ev.step (fun k => ?_) h1, h2⟩
  rw [qf.j4, if_neg (by simp)]
theorem rb_put {l : List S31} {w t : Int} (n : l.length ≤ 4096) {K b : Nat} (hK : K ≤ l.length) {G : List Bool} {T : List Int} {Ls : List (List Int)} (hg : G.length = l.length + 2) (ht : T.length = l.length + 2) (hs : Ls.length = l.length + 2) (D : Int) (L : List Int)
    (h : RF l w t K b (G.set (K + 1) true) (T.set (K + 1) D) (Ls.set (K + 1) L)) : ∃ R, Ev (fun k => qf.j4 k l w t (l.length : Int) G T Ls (K : Int) ((b : Int) - 1) D L true) R ∧ Zl l w t R := by
  obtain ⟨R, h1, h2⟩ := h
  refine ⟨R, Ev.step (fun k => ?_) h1, h2⟩
  have e1 : wrap64 ((K : Int) + 1) = ((K + 1 : Nat) : Int) := by rw [w64 (by omega) (by omega)]; omega
  rw [qf.j4, if_pos rfl, e1]
  have q0 : (0 : Int) ≤ ((K + 1 : Nat) : Int) := by omega
  have q1 : ((K + 1 : Nat) : Int) < (G.length : Int) := by omega
  have q2 : ((K + 1 : Nat) : Int) < (T.length : Int) := by omega
  have q3 : ((K + 1 : Nat) : Int) < (Ls.length : Int) := by omega
  rw [if_pos q0, if_pos q1, Option.bind_some, if_pos q2, Option.bind_some, if_pos q3, Option.bind_some, show (((K + 1 : Nat) : Int)).toNat = K + 1 by omega]
theorem rj3_true {l : List S31} {w t n K f x tb K1 b : Int} {Lb : List Int} {G : List Bool} {T : List Int} {Ls : List (List Int)} (e1 : wrap64 (K + 1) = K1) (e2 : wrap64 (f + 1) = b) (hT : rd T b = tb) (hL : jc Ls b = Lb)
    (q0 : 0 ≤ b) (q1 : b < (T.length : Int)) (q2 : b < (Ls.length : Int)) (q3 : ([] : List Int).length + Lb.length < 17592186044416) (q4 : Lb.length < 17592186044416) (q5 : 0 ≤ K1) (q6 : K1 < (G.length : Int)) (q7 : K1 < (T.length : Int)) (q8 : K1 < (Ls.length : Int)) (k : Nat) :
    qf.j3 (k + 1) l w t n G T Ls K f x true = (qQ.f k l f K x).bind fun d => if jN false G K1 = true then (if wrap64 (tb + d) < rd T K1 then qf.j4 k l w t n G T Ls K f (wrap64 (tb + d)) (Lb ++ [K]) true
      else if wrap64 (tb + d) = rd T K1 then ((za.f k (Lb ++ [K]) (jc Ls K1)).bind fun s => qf.j4 k l w t n G T Ls K f (wrap64 (tb + d)) (Lb ++ [K]) s) else qf.j4 k l w t n G T Ls K f (wrap64 (tb + d)) (Lb ++ [K]) false)
      else qf.j4 k l w t n G T Ls K f (wrap64 (tb + d)) (Lb ++ [K]) true := by
  rw [qf.j3, if_pos rfl, e2, e1, if_pos q0, if_pos q1, hT, hL]
  simp only [Option.bind_some, List.nil_append, q2, q3, q4, q5, q6, q7, q8, if_true]
theorem rb_cand {l : List S31} {w t : Int} (F : jL l w t) {K b : Nat} (hK : K ≤ l.length) (hb : b ≤ K) (hpl : plE l K = true) {G : List Bool} {T : List Int} {Ls : List (List Int)} {o : Option (Int × List Int)}
    (next : ∀ G T Ls, Zt l w t G T Ls (K + 1) → ZG G (K + 1) → R0 l w t (K + 1) G T Ls) (ih : ∀ G T Ls o, ZF l w t G T Ls K b o → R1 l w t K b G T Ls)
    (tab : Zt l w t G T Ls K) (cur : CurR G T Ls (K + 1) o) (low : ZG G (K + 1)) (pf : PF l w t K (b + 1) o) (nf : ∀ i, b ≤ i → i < K → fcB l i = false)
    (c1 : (jr l b K w).2.2 = true) (c2 : (jr l b K w).1 ≤ t) (c3 : jN false G (b : Int) = true) :
    ∃ R, Ev (fun k => qf.j3 k l w t (l.length : Int) G T Ls (K : Int) ((b : Int) - 1) (jr l b K w).2.1 true) R ∧ Zl l w t R := by
  have n := F.len
  have gap : gapB l b K = true := (Qp l _ _).2 ⟨by omega, hK, hpl, nf⟩
  have hstp : stp l w t b K = some (QC l b K (jr l b K w).2.1) := by unfold stp; rw [if_pos ⟨gap, c1, c2⟩]
  have lb := QB F b (tt := K) hK
  have bb : 0 ≤ (jr l b K w).2.1 ∧ (jr l b K w).2.1 ≤ 100000 := Jm lb.1.1 lb.2.1.1 lb.2.2.1 c1
  clear lb
  have B := (tab.ent b (by omega) (by omega)).1 c3
  have db := stp_bd F hstp
  have cb := cost_bd F _ _ _ B.1
  have ln := JG _ _ _ B.1
  have hdem := rdem F (a := b) (tt := K) hb hK bb.1 bb.2
  have hg := tab.hg
  have ht := tab.ht
  have hs := tab.hs
  generalize hD0 : QC l b K (jr l b K w).2.1 = d at *
  generalize hT : rd T (b : Int) = tb at *
  generalize hL : jc Ls (b : Int) = Lb at *
  have eD := qa.mk (show wrap64 (tb + d) = tb + d from w64 (by omega) (by omega))
  have put : (∀ c0 L0, o = some (c0, L0) → NW (tb + d) (Lb ++ [(K : Int)]) c0 L0) → ∃ R, Ev (fun k => qf.j4 k l w t (l.length : Int) G T Ls (K : Int) ((b : Int) - 1) (tb + d) (Lb ++ [(K : Int)]) true) R ∧ Zl l w t R := fun hbt => by
    have pf1 := PF.new pf hstp B hbt
    refine rb_put n hK hg ht hs _ _ (rb_fin n hK hb (next _ _ _) (ih _ _ _ _) ⟨by simpa using hg, by simpa using ht, by simpa using hs, fun a ha ha' => ?_⟩ ?_ (fun a ha => ?_) pf1 nf)
    · have := tab.ent a ha ha'
      unfold EntR at this ⊢
      rw [Zp (by omega), rdI_set (by omega), rdL_set (by omega), if_neg (by omega), if_neg (by omega), if_neg (by omega)]
      exact this
    · unfold CurR
      rw [Zp (by omega), rdI_set (by omega), rdL_set (by omega), if_pos rfl, if_pos rfl, if_pos rfl]
      exact ⟨rfl, rfl, rfl⟩
    · rw [Zp (by omega), if_neg (by omega)]; exact low a ha
  have keep : ∀ c0 L0, o = some (c0, L0) → NW c0 L0 (tb + d) (Lb ++ [(K : Int)]) → ∃ R, Ev (fun k => qf.j4 k l w t (l.length : Int) G T Ls (K : Int) ((b : Int) - 1) (tb + d) (Lb ++ [(K : Int)]) false) R ∧ Zl l w t R := fun c0 L0 ho hw => by
    subst ho
    exact rb_keep (rb_fin n hK hb (next _ _ _) (ih _ _ _ _) tab cur low (PF.keep pf hstp B hw) nf) _ _
  have e1 := qa.mk (show wrap64 ((K : Int) + 1) = ((K + 1 : Nat) : Int) by rw [w64 (by omega) (by omega)]; omega)
  have e2 := qa.mk (show wrap64 ((b : Int) - 1 + 1) = (b : Int) by rw [w64 (by omega) (by omega)]; omega)
  have start : ∀ R, Ev (fun k => if jN false G ((K + 1 : Nat) : Int) = true then (if tb + d < rd T ((K + 1 : Nat) : Int) then qf.j4 k l w t (l.length : Int) G T Ls (K : Int) ((b : Int) - 1) (tb + d) (Lb ++ [(K : Int)]) true
      else if tb + d = rd T ((K + 1 : Nat) : Int) then ((za.f k (Lb ++ [(K : Int)]) (jc Ls ((K + 1 : Nat) : Int))).bind fun s => qf.j4 k l w t (l.length : Int) G T Ls (K : Int) ((b : Int) - 1) (tb + d) (Lb ++ [(K : Int)]) s) else qf.j4 k l w t (l.length : Int) G T Ls (K : Int) ((b : Int) - 1) (tb + d) (Lb ++ [(K : Int)]) false)
      else qf.j4 k l w t (l.length : Int) G T Ls (K : Int) ((b : Int) - 1) (tb + d) (Lb ++ [(K : Int)]) true) R → Ev (fun k => qf.j3 k l w t (l.length : Int) G T Ls (K : Int) ((b : Int) - 1) (jr l b K w).2.1 true) R := fun R h => by
    rw [← eD.out] at h
    refine Ev.step (fun k => ?_) (Ev.bind (f := fun k d => if jN false G ((K + 1 : Nat) : Int) = true then (if wrap64 (tb + d) < rd T ((K + 1 : Nat) : Int) then qf.j4 k l w t (l.length : Int) G T Ls (K : Int) ((b : Int) - 1) (wrap64 (tb + d)) (Lb ++ [(K : Int)]) true
      else if wrap64 (tb + d) = rd T ((K + 1 : Nat) : Int) then ((za.f k (Lb ++ [(K : Int)]) (jc Ls ((K + 1 : Nat) : Int))).bind fun s => qf.j4 k l w t (l.length : Int) G T Ls (K : Int) ((b : Int) - 1) (wrap64 (tb + d)) (Lb ++ [(K : Int)]) s) else qf.j4 k l w t (l.length : Int) G T Ls (K : Int) ((b : Int) - 1) (wrap64 (tb + d)) (Lb ++ [(K : Int)]) false)
      else qf.j4 k l w t (l.length : Int) G T Ls (K : Int) ((b : Int) - 1) (wrap64 (tb + d)) (Lb ++ [(K : Int)]) true) hdem h)
    rw [rj3_true e1.out e2.out hT hL (by omega) (by omega) (by omega) (by simp; omega) (by omega) (by omega) (by omega) (by omega) (by omega)]
  match o, cur, put, keep with
  | none, hc, put, _ =>
    obtain ⟨R, h1, h2⟩ := put (fun _ _ h => by cases h)
    have hc' : jN false G ((K + 1 : Nat) : Int) = false := hc
    refine ⟨R, start R ?_, h2⟩
    simp only [hc', Bool.false_eq_true, if_false]
    exact h1
  | some (c0, L0), ⟨hc1, hc2, hc3⟩, put, keep =>
    by_cases p1 : tb + d < c0
    · obtain ⟨R, h1, h2⟩ := put (fun _ _ h => by cases h; exact .inl p1)
      refine ⟨R, start R ?_, h2⟩
      simp only [hc1, hc2, if_true, if_pos p1]; exact h1
    · by_cases p2 : tb + d = c0
      · have hso := rsooner (Lb ++ [(K : Int)]) L0 (by simp; omega)
        cases hb : jO (Lb ++ [(K : Int)]) L0 with
        | true =>
          have no : jO L0 (Lb ++ [(K : Int)]) = false := by
            cases hx : jO L0 (Lb ++ [(K : Int)]) with
            | false => rfl
            | true => have := ZY _ _ _ hb hx; rw [JH] at this; cases this
          obtain ⟨R, h1, h2⟩ := put (fun _ _ h => by cases h; exact .inr ⟨p2, no⟩)
          refine ⟨R, start R ?_, h2⟩
          simp only [hc1, hc2, hc3, if_true, if_neg p1, if_pos p2]
          rw [hb] at hso
          exact Ev.bind hso h1
        | false =>
          obtain ⟨R, h1, h2⟩ := keep c0 L0 rfl (.inr ⟨p2.symm, hb⟩)
          refine ⟨R, start R ?_, h2⟩
          simp only [hc1, hc2, hc3, if_true, if_neg p1, if_pos p2]
          rw [hb] at hso
          exact Ev.bind hso h1
      · obtain ⟨R, h1, h2⟩ := keep c0 L0 rfl (.inl (by omega))
        refine ⟨R, start R ?_, h2⟩
        simp only [hc1, hc2, if_true, if_neg p1, if_neg p2]; exact h1
theorem rb_round {l : List S31} {w t : Int} (F : jL l w t) {K b : Nat} (hK : K ≤ l.length) (hb : b ≤ K) (hpl : plE l K = true) {G : List Bool} {T : List Int} {Ls : List (List Int)} {o : Option (Int × List Int)}
    (next : ∀ G T Ls, Zt l w t G T Ls (K + 1) → ZG G (K + 1) → R0 l w t (K + 1) G T Ls) (ih : ∀ G T Ls o, ZF l w t G T Ls K b o → R1 l w t K b G T Ls) (M : ZF l w t G T Ls K (b + 1) o) : R1 l w t K (b + 1) G T Ls := by
  have n := F.len
  have hg := M.tab.hg
  have nf : ∀ i, b ≤ i → i < K → fcB l i = false := fun i hi hi' => M.nf i (by omega) hi'
  have e2 := qa.mk (show wrap64 ((b : Int) - 1 + 1) = (b : Int) by rw [w64 (by omega) (by omega)]; omega)
  have skip : (stp l w t b K = none ∨ Non l w t b 0) → RF l w t K b G T Ls := fun h => rb_fin n hK hb (next _ _ _) (ih _ _ _ _) M.tab M.cur M.low (M.pf.skip h) nf
  have hfit := rfit F (a := b) (tt := K) hb hK
  have j2 : ∃ R, Ev (fun k => qf.j2 k l w t (l.length : Int) G T Ls (K : Int) ((b : Int) - 1) false) R ∧ Zl l w t R := by
    suffices H : ∃ R, Ev (fun k => if (jr l b K w).2.2 = true then (if (jr l b K w).1 ≤ t then qf.j3 k l w t (l.length : Int) G T Ls (K : Int) ((b : Int) - 1) (jr l b K w).2.1 (jN false G (b : Int)) else qf.j3 k l w t (l.length : Int) G T Ls (K : Int) ((b : Int) - 1) (jr l b K w).2.1 false) else qf.j3 k l w t (l.length : Int) G T Ls (K : Int) ((b : Int) - 1) (jr l b K w).2.1 false) R ∧ Zl l w t R by
      obtain ⟨R, h1, h2⟩ := H
      refine ⟨R, Ev.step (fun k => ?_) (Ev.bind (f := fun k bt => if bt.2.2 = true then (if bt.1 ≤ t then qf.j3 k l w t (l.length : Int) G T Ls (K : Int) ((b : Int) - 1) bt.2.1 (jN false G (b : Int)) else qf.j3 k l w t (l.length : Int) G T Ls (K : Int) ((b : Int) - 1) bt.2.1 false) else qf.j3 k l w t (l.length : Int) G T Ls (K : Int) ((b : Int) - 1) bt.2.1 false) hfit h1), h2⟩
      have q0 : (0 : Int) ≤ (b : Int) := by omega
      have q1 : (b : Int) < (G.length : Int) := by omega
      rw [qf.j2, if_neg (by simp), e2.out]
      simp only [q0, q1, if_true]
    by_cases c1 : (jr l b K w).2.2 = true
    · simp only [if_pos c1]
      by_cases c2 : (jr l b K w).1 ≤ t
      · simp only [if_pos c2]
        cases c3 : jN false G (b : Int) with
        | true => exact rb_cand F hK hb hpl next ih M.tab M.cur M.low M.pf nf c1 c2 c3
        | false => exact rb_no (skip (.inr ((M.tab.ent b (by omega) (by omega)).2 c3))) _
      · simp only [if_neg c2]
        exact rb_no (skip (.inl (by unfold stp; rw [if_neg (fun z => c2 z.2.2)]))) _
    · simp only [if_neg c1]
      exact rb_no (skip (.inl (by unfold stp; rw [if_neg (fun z => c1 z.2.1)]))) _
  unfold R1
  rw [show ((b + 1 : Nat) : Int) - 2 = (b : Int) - 1 by omega]
  by_cases c : b = 0
  · obtain ⟨R, h1, h2⟩ := j2
    refine ⟨R, Ev.step (fun k => ?_) h1, h2⟩
    rw [qf.l1, if_pos (by omega), if_neg (by omega)]
  · have pl := rplace (l := l) (i := b - 1) (by omega) (by omega)
    rw [show ((b - 1 : Nat) : Int) = (b : Int) - 1 by omega] at pl
    cases hp : plE l (b - 1) with
    | true =>
      obtain ⟨R, h1, h2⟩ := j2
      refine ⟨R, Ev.step (fun k => ?_) h1, h2⟩
      rw [qf.l1, if_pos (by omega), if_pos (by omega), pl, Option.bind_some, hp]; rfl
    | false =>
      have M' : ZF l w t G T Ls K b o := ⟨M.tab, M.cur, M.low, M.pf.skip (.inr (by have := non_zero l w t hp; rwa [show b - 1 + 1 = b by omega] at this)), fun i hi hi' => by
        by_cases e : i + 1 = b
        · cases hs : fcB l i with
          | false => rfl
          | true => have := fc_pl hs; rw [show i = b - 1 by omega, hp] at this; cases this
        · exact nf i (by omega) hi'⟩
      obtain ⟨R, h1, h2⟩ := ih _ _ _ _ M'
      refine ⟨R, Ev.step (f := fun k => qf.j2 k l w t (l.length : Int) G T Ls (K : Int) ((b : Int) - 1) true) (fun k => ?_) (Ev.step (fun k => ?_) h1), h2⟩
      · rw [qf.l1, if_pos (by omega), if_pos (by omega), pl, Option.bind_some, hp]; rfl
      · rw [qf.j2, if_pos rfl, w64 (n := (b : Int) - 1 - 1) (by omega) (by omega), show (b : Int) - 1 - 1 = (b : Int) - 2 by omega]
theorem rb_l1 {l : List S31} {w t : Int} (F : jL l w t) {K : Nat} (hK : K ≤ l.length) (hpl : plE l K = true) (next : ∀ G T Ls, Zt l w t G T Ls (K + 1) → ZG G (K + 1) → R0 l w t (K + 1) G T Ls) :
    ∀ (B : Nat) (G : List Bool) (T : List Int) (Ls : List (List Int)) (o : Option (Int × List Int)), B ≤ K + 1 → ZF l w t G T Ls K B o → R1 l w t K B G T Ls
  | 0, G, T, Ls, o, _, M => by
    have n := F.len
    obtain ⟨R, h1, h2⟩ := next G T Ls (ZF.done M.tab M.cur (M.pf.all (.inl rfl))) M.low
    refine ⟨R, Ev.step (fun k => ?_) h1, h2⟩
    rw [qf.l1, if_neg (by omega), w64 (n := (K : Int) + 1) (by omega) (by omega)]; rfl
  | B + 1, G, T, Ls, o, h, M => rb_round F hK (by omega) hpl next (fun G T Ls o M => rb_l1 F hK hpl next B G T Ls o (by omega) M) M
theorem rb_l0 {l : List S31} {w t : Int} (F : jL l w t) : ∀ (d K : Nat) (G : List Bool) (T : List Int) (Ls : List (List Int)), l.length + 1 - K = d → K ≤ l.length + 1 → Zt l w t G T Ls K → ZG G K → R0 l w t K G T Ls := by
  have n := F.len
  intro d
  induction d with
  | zero =>
    intro K G T Ls e hK tab low
    obtain rfl : K = l.length + 1 := by omega
    have en := tab.ent (l.length + 1) (by omega) (by omega)
    have e1 : wrap64 ((l.length : Int) + 1) = ((l.length + 1 : Nat) : Int) := by rw [w64 (by omega) (by omega)]; omega
    have q0 : (0 : Int) ≤ ((l.length + 1 : Nat) : Int) := by omega
    have q1 : ((l.length + 1 : Nat) : Int) < (G.length : Int) := by have := tab.hg; omega
    have q2 : ((l.length + 1 : Nat) : Int) < (T.length : Int) := by have := tab.ht; omega
    have q3 : ((l.length + 1 : Nat) : Int) < (Ls.length : Int) := by have := tab.hs; omega
    cases hg : jN false G ((l.length + 1 : Nat) : Int) with
    | true =>
      refine ⟨_, Ev.intro 1 fun k => ?_, .inl ⟨_, _, en.1 hg, rfl⟩⟩
      rw [qf.l0, if_neg (by omega), e1, if_pos q0, if_pos q1, if_pos hg, if_pos q3, if_pos q2]
    | false =>
      refine ⟨_, Ev.step (fun k => ?_) (Ev.bind (f := fun _ x => some (x, (0 : Int), true, (0 : Int))) (rem_f F) (Ev.now (emL l w (plL l).length 0, 0, true, 0))), .inr ⟨en.2 hg, rfl⟩⟩
      rw [qf.l0, if_neg (by omega), e1, if_pos q0, if_pos q1, hg]
      rfl
  | succ d ih =>
    intro K G T Ls e hK tab low
    have hK' : K ≤ l.length := by omega
    have next : ∀ G T Ls, Zt l w t G T Ls (K + 1) → ZG G (K + 1) → R0 l w t (K + 1) G T Ls := fun G T Ls tab low => ih (K + 1) G T Ls (by omega) (by omega) tab low
    have cur : CurR G T Ls (K + 1) none := low (K + 1) (by omega)
    have low' : ZG G (K + 1) := fun a ha => low a (by omega)
    have pl := rplace (l := l) (i := K) hK' (by omega)
    cases hp : plE l K with
    | true =>
      obtain ⟨R, h1, h2⟩ := rb_l1 F hK' hp next (K + 1) G T Ls none (by omega) ⟨tab, cur, low', PF.begin l w t K, fun i hi hi' => by omega⟩
      refine ⟨R, Ev.step (fun k => ?_) h1, h2⟩
      rw [qf.l0, if_pos (by omega), pl, Option.bind_some, hp, if_pos rfl, w64 (n := (K : Int) - 1) (by omega) (by omega), show ((K + 1 : Nat) : Int) - 2 = (K : Int) - 1 by omega]
    | false =>
      obtain ⟨R, h1, h2⟩ := next G T Ls (ZF.done tab cur (non_zero l w t hp)) low'
      refine ⟨R, Ev.step (fun k => ?_) h1, h2⟩
      rw [qf.l0, if_pos (by omega), pl, Option.bind_some, hp, if_neg (by simp), w64 (n := (K : Int) + 1) (by omega) (by omega)]; rfl
theorem rbest_bad {l : List S31} {w t : Int} (h : QG l w t ≠ 0) : Ev (fun k => qf.f k l w t) ([], 0, false, QG l w t) := by
  unfold qf.f
  refine Ev.bind (rcheck l w t) ?_
  simp only [if_neg h]
  exact Ev.now _
theorem rbest {l : List S31} {w t : Int} (h : QG l w t = 0) : ∃ R, Ev (fun k => qf.f k l w t) R ∧ Zl l w t R := by
  have F := jL.of h
  have n := F.len
  have hg : ∀ i : Nat, jN false ((List.replicate (l.length + 2) false).set 0 true) (i : Int) = if i = 0 then true else false := fun i => by
    rw [Zp (by simp)]
    split
    · rfl
    · unfold jN; rw [List.getD_eq_getElem?_getD, List.getElem?_replicate]; split <;> rfl
  obtain ⟨R, h1, h2⟩ := rb_l0 F (l.length + 1) 0 ((List.replicate (l.length + 2) false).set 0 true) (List.replicate (l.length + 2) 0) (List.replicate (l.length + 2) []) (by omega) (by omega)
    ⟨by simp, by simp, by simp, fun a ha ha' => by
      obtain rfl : a = 0 := by omega
      unfold EntR
      rw [hg, if_pos rfl]
      refine ⟨fun _ => ⟨by simp [rd, jc, List.getD_eq_getElem?_getD, cost], fun L' c' hc => ?_⟩, fun h => by cases h⟩
      cases L' with
      | nil =>
        simp only [cost, if_true] at hc
        obtain rfl := Option.some.inj hc
        simp [rd, jc, List.getD_eq_getElem?_getD]
        exact NW.refl _ _
      | cons x r => have := (ZO _ _ _ hc).2 (by simp); omega⟩
    (fun a ha => by rw [hg, if_neg (by omega)])
  refine ⟨R, ?_, h2⟩
  unfold qf.f
  refine Ev.bind (rcheck l w t) ?_
  have e1 : wrap64 ((l.length : Int) + 2) = (l.length : Int) + 2 := w64 (by omega) (by omega)
  have e2 : ((l.length : Int) + 2).toNat = l.length + 2 := by omega
  have q0 : (0 : Int) ≤ (l.length : Int) + 2 := by omega
  have q1 : l.length + 2 ≤ 281474976710656 := by omega
  have q2 : l.length + 2 ≤ 35184372088832 := by omega
  have q3 : l.length + 2 ≤ 11728124029610 := by omega
  have q4 : (0 : Int) < ((List.replicate (l.length + 2) false).length : Int) := by rw [List.length_replicate]; omega
  rw [e1, e2]
  simp only [h, q0, q1, q2, q3, q4, if_true, Option.bind_some]
  exact h1
end Go.Proofs.Ytfbanppdiglciaa.X
