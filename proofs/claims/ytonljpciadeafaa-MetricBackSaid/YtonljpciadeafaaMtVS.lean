/- Measures within the limits, laid as tables, are read back: plain laws. -/
import Derived.Test.YtonljpciadeafaaSx0
import Derived.Test.YtonljpciadeafaaSx36
import Derived.Test.YtonljpciadeafaaSx40
import Derived.Test.YtonljpciadeafaaMtUS
import Derived.Test.YtonljpciadeafaaSx37
set_option linter.unusedVariables false
set_option linter.unusedSimpArgs false
namespace Go.Proofs.Ytonljpciadeafaa.S
open Go Go.RowKit Go.Proofs.YtonljpciadeafaaW.PrintWords Go.Proofs.YtonljpciadeafaaW.PrintLast Go.Proofs.YtonljpciadeafaaW.PrintMore

def cffP : S50 := ⟨⟨#[67, 70, 70, 32]⟩, []⟩
def bP (u2 t6 g2 hm : List Int) : List S50 := piecesL u2 t6 g2 hm [] ++ [cffP]
def bS (u2 t6 g2 hm : List Int) : List S50 := [cffP, ⟨⟨#[104, 101, 97, 100]⟩, headB u2⟩, ⟨⟨#[104, 104, 101, 97]⟩, hheaB t6 g2⟩, ⟨⟨#[104, 109, 116, 120]⟩, hm⟩, ⟨⟨#[109, 97, 120, 112]⟩, [0, 1, 0, 0] ++ g2⟩]
theorem bS_eq (u2 t6 g2 hm : List Int) : sortP (bP u2 t6 g2 hm) = bS u2 t6 g2 hm := by
  have f1 : ∀ x y, lessP ⟨⟨#[104, 104, 101, 97]⟩, x⟩ ⟨⟨#[104, 101, 97, 100]⟩, y⟩ = false := fun _ _ => show Op.bytesLess (ByteArray.toList ⟨#[104, 104, 101, 97]⟩) (ByteArray.toList ⟨#[104, 101, 97, 100]⟩) = false by decide +kernel
  have f2 : ∀ x y, lessP ⟨⟨#[104, 109, 116, 120]⟩, x⟩ ⟨⟨#[104, 101, 97, 100]⟩, y⟩ = false := fun _ _ => show Op.bytesLess (ByteArray.toList ⟨#[104, 109, 116, 120]⟩) (ByteArray.toList ⟨#[104, 101, 97, 100]⟩) = false by decide +kernel
  have f3 : ∀ x y, lessP ⟨⟨#[104, 109, 116, 120]⟩, x⟩ ⟨⟨#[104, 104, 101, 97]⟩, y⟩ = false := fun _ _ => show Op.bytesLess (ByteArray.toList ⟨#[104, 109, 116, 120]⟩) (ByteArray.toList ⟨#[104, 104, 101, 97]⟩) = false by decide +kernel
  have f4 : ∀ x y, lessP ⟨⟨#[109, 97, 120, 112]⟩, x⟩ ⟨⟨#[104, 101, 97, 100]⟩, y⟩ = false := fun _ _ => show Op.bytesLess (ByteArray.toList ⟨#[109, 97, 120, 112]⟩) (ByteArray.toList ⟨#[104, 101, 97, 100]⟩) = false by decide +kernel
  have f5 : ∀ x y, lessP ⟨⟨#[109, 97, 120, 112]⟩, x⟩ ⟨⟨#[104, 104, 101, 97]⟩, y⟩ = false := fun _ _ => show Op.bytesLess (ByteArray.toList ⟨#[109, 97, 120, 112]⟩) (ByteArray.toList ⟨#[104, 104, 101, 97]⟩) = false by decide +kernel
  have f6 : ∀ x y, lessP ⟨⟨#[109, 97, 120, 112]⟩, x⟩ ⟨⟨#[104, 109, 116, 120]⟩, y⟩ = false := fun _ _ => show Op.bytesLess (ByteArray.toList ⟨#[109, 97, 120, 112]⟩) (ByteArray.toList ⟨#[104, 109, 116, 120]⟩) = false by decide +kernel
  have f7 : ∀ x y, lessP ⟨⟨#[67, 70, 70, 32]⟩, x⟩ ⟨⟨#[104, 101, 97, 100]⟩, y⟩ = true := fun _ _ => show Op.bytesLess (ByteArray.toList ⟨#[67, 70, 70, 32]⟩) (ByteArray.toList ⟨#[104, 101, 97, 100]⟩) = true by decide +kernel
  unfold bP bS cffP piecesL
  simp [sortP, insP, stepP, f1, f2, f3, f4, f5, f6, f7]
theorem headB_at (a b : Int) : headB [a, b] = List.replicate 12 0 ++ [95, 15, 60, 245] ++ ([0, 0] ++ [a, b] ++ (List.replicate 30 0 ++ [0, 1] ++ [0, 0])) := rfl
theorem headV_w2 (u : Int) (h0 : 16 ≤ u) (h1 : u ≤ 16384) : headV (some (headB (w2 u))) = (0, u, 1) := by
  have e : headB (w2 u) = List.replicate 12 0 ++ [95, 15, 60, 245] ++ ([0, 0] ++ w2 u ++ (List.replicate 30 0 ++ [0, 1] ++ [0, 0])) := headB_at _ _
  have n1 : numV (headB (w2 u)) 12 4 = (1594834165, 0) := num_at (A := List.replicate 12 0) (X := [95, 15, 60, 245]) e rfl rfl
  have n2 : numV (headB (w2 u)) 18 2 = (numB (w2 u), 0) := num_at (A := List.replicate 12 0 ++ [95, 15, 60, 245] ++ [0, 0]) (B := List.replicate 30 0 ++ [0, 1] ++ [0, 0]) (by rw [e]; simp only [List.append_assoc]) rfl rfl
  have n3 : numV (headB (w2 u)) 50 2 = (1, 0) := num_at (A := List.replicate 12 0 ++ [95, 15, 60, 245] ++ [0, 0] ++ w2 u ++ List.replicate 30 0) (X := [0, 1]) (B := [0, 0]) (by rw [e]; simp only [List.append_assoc]) rfl rfl
  have n4 : numV (headB (w2 u)) 52 2 = (0, 0) := num_at (A := List.replicate 12 0 ++ [95, 15, 60, 245] ++ [0, 0] ++ w2 u ++ List.replicate 30 0 ++ [0, 1]) (X := [0, 0]) (B := []) (by rw [e]; simp only [List.append_assoc, List.append_nil]) rfl rfl
  rw [num_w2] at n2
  unfold headV
  dsimp only
  rw [n1, n2, n3, n4]
  dsimp only
  rw [if_neg (fun h => h rfl), if_neg (by omega), if_neg (by omega), if_neg (by decide), if_neg (fun h => h rfl)]
theorem maxpV_w2 (n : Int) (h0 : 1 ≤ n) (h1 : n ≤ 4096) : maxpV (some ([0, 1, 0, 0] ++ w2 n)) = (0, n) := by
  have n1 : numV ([0, 1, 0, 0] ++ w2 n) 0 4 = (65536, 0) := num_at (A := []) (X := [0, 1, 0, 0]) (B := w2 n) rfl rfl rfl
  have n2 : numV ([0, 1, 0, 0] ++ w2 n) 4 2 = (numB (w2 n), 0) := num_at (A := [0, 1, 0, 0]) (B := []) (by rw [List.append_nil]) rfl rfl
  rw [num_w2] at n2
  unfold maxpV
  dsimp only
  rw [n1, n2]
  dsimp only
  rw [if_pos (Or.inr rfl), if_neg (by omega), if_neg (by omega)]
theorem hheaB_at (a b c d e f g h : Int) : hheaB ([a, b] ++ [c, d] ++ [e, f]) [g, h] = List.replicate 4 0 ++ [a, b] ++ ([c, d] ++ ([e, f] ++ (List.replicate 24 0 ++ [g, h]))) := rfl
theorem hheaV_w2 (n m a d g : Int) (h0 : 1 ≤ m) (h1 : m ≤ n) (a0 : -32768 ≤ a) (a1 : a ≤ 32767) (d0 : -32768 ≤ d) (d1 : d ≤ 32767) (g0 : -32768 ≤ g) (g1 : g ≤ 32767) : hheaV n (some (hheaB (s2 a ++ s2 d ++ s2 g) (w2 m))) = (0, a, d, g, m) := by
  have e : hheaB (s2 a ++ s2 d ++ s2 g) (w2 m) = List.replicate 4 0 ++ s2 a ++ (s2 d ++ (s2 g ++ (List.replicate 24 0 ++ w2 m))) := hheaB_at _ _ _ _ _ _ _ _
  obtain ⟨L, hL⟩ : ∃ L, hheaB (s2 a ++ s2 d ++ s2 g) (w2 m) = L := ⟨_, rfl⟩
  rw [hL] at e ⊢
  have n1 : numV L 4 2 = (numB (s2 a), 0) := num_at (A := List.replicate 4 0) e rfl rfl
  have n2 : numV L 6 2 = (numB (s2 d), 0) := num_at (A := List.replicate 4 0 ++ s2 a) (B := s2 g ++ (List.replicate 24 0 ++ w2 m)) (by rw [e]; simp only [List.append_assoc]) rfl rfl
  have n3 : numV L 8 2 = (numB (s2 g), 0) := num_at (A := List.replicate 4 0 ++ s2 a ++ s2 d) (B := List.replicate 24 0 ++ w2 m) (by rw [e]; simp only [List.append_assoc]) rfl rfl
  have n4 : numV L 34 2 = (numB (w2 m), 0) := num_at (A := List.replicate 4 0 ++ s2 a ++ s2 d ++ s2 g ++ List.replicate 24 0) (B := []) (by rw [e]; simp only [List.append_assoc, List.append_nil]) rfl rfl
  rw [num_w2] at n4
  unfold hheaV
  dsimp only
  rw [n1, n2, n3, n4]
  dsimp only
  rw [sgn_s2 a a0 a1, sgn_s2 d d0 d1, sgn_s2 g g0 g1, if_neg (by omega), if_neg (by omega)]
theorem catL_len (f : Nat → List Int) (n : Nat) (h : ∀ i, i < n → (f i).length = 4) : (catL f n).length = 4 * n := by
  induction n with
  | zero => rfl
  | succ n ih =>
    rw [catL_succ, List.length_append, ih (fun i hi => h i (by omega)), h n (by omega)]
    omega
theorem catL_split (f : Nat → List Int) (i : Nat) : ∀ n, i < n → ∃ Z, catL f n = catL f i ++ f i ++ Z := by
  intro n
  induction n with
  | zero => intro h; omega
  | succ n ih =>
    intro h
    rw [catL_succ]
    by_cases c : i = n
    · subst c
      exact ⟨[], by rw [List.append_nil]⟩
    · obtain ⟨Z, hZ⟩ := ih (by omega)
      exact ⟨Z ++ f n, by rw [hZ]; simp only [List.append_assoc]⟩
def twL (adv bear : List Int) (i : Nat) : List Int := s2 (rd adv (i : Int)) ++ s2 (rd bear (i : Int))
theorem hmtx_at (adv bear : List Int) (m i : Nat) (hi : i < m) (a0 : 0 ≤ rd adv (i : Int)) (b0 : -32768 ≤ rd bear (i : Int)) (b1 : rd bear (i : Int) ≤ 32767) :
    advAt (catL (twL adv bear) m) (m : Int) i = rd adv (i : Int) ∧ bearAt (catL (twL adv bear) m) (m : Int) i = rd bear (i : Int) := by
  obtain ⟨Z, hZ⟩ := catL_split (twL adv bear) i m hi
  have lc := catL_len (twL adv bear) i (fun _ _ => rfl)
  have n1 : numV (catL (twL adv bear) m) (4 * (i : Int)) 2 = (numB (s2 (rd adv (i : Int))), 0) := num_at (A := catL (twL adv bear) i) (B := s2 (rd bear (i : Int)) ++ Z) (by rw [hZ]; unfold twL; simp only [List.append_assoc]) (by rw [lc]; push_cast; rfl) rfl
  have n2 : numV (catL (twL adv bear) m) (4 * (i : Int) + 2) 2 = (numB (s2 (rd bear (i : Int))), 0) := num_at (A := catL (twL adv bear) i ++ s2 (rd adv (i : Int))) (B := Z) (by rw [hZ]; unfold twL; simp only [List.append_assoc]) (by rw [List.length_append, lc]; push_cast; rfl) rfl
  unfold advAt bearAt
  rw [if_pos (by omega), if_pos (by omega), n1, n2]
  exact ⟨by dsimp only; rw [s2_nat _ a0, num_w2], sgn_s2 _ b0 b1⟩
theorem list_rd (l : List Int) (f : Nat → Int) (h : ∀ i, i < l.length → f i = rd l (i : Int)) : (List.range l.length).map f = l := by
  refine List.ext_getElem (by simp) (fun i h1 h2 => ?_)
  simp only [List.getElem_map, List.getElem_range]
  rw [h i h2]
  exact rdB h2
theorem same_go (l : List Int) (hl : l.length ≤ 4611686018427387904) : Ev (fun k => serifref02_SameInts.f k l l) true := by
  have h : ∀ (d i : Nat), l.length - i = d → i ≤ l.length → Ev (fun k => serifref02_SameInts.l0 k l l (l.length : Int) (i : Int)) true := by
    intro d
    induction d with
    | zero =>
      intro i hd hi
      obtain rfl : i = l.length := by omega
      refine Ev.step (f := fun _ => some true) (fun k => ?_) (Ev.now true)
      show (if (l.length : Int) < (l.length : Int) then _ else _) = _
      rw [if_neg (by omega)]
    | succ d ih =>
      intro i hd hi
      have wi : wrap64 ((i : Int) + 1) = ((i + 1 : Nat) : Int) := by rw [wrap_id (by omega) (by omega)]; push_cast; rfl
      refine Ev.step (f := fun k => serifref02_SameInts.l0 k l l (l.length : Int) ((i + 1 : Nat) : Int)) (fun k => ?_) (ih (i + 1) (by omega) (by omega))
      show (if (i : Int) < (l.length : Int) then _ else _) = _
      rw [if_pos (by omega), if_pos (by omega), if_pos (by omega), if_pos (by omega), if_pos rfl, wi]
  obtain ⟨K, hK⟩ := h l.length 0 (Nat.sub_zero _) (Nat.zero_le _)
  refine ⟨K, fun k hk => ?_⟩
  show (if (l.length : Int) = (l.length : Int) then _ else _) = _
  rw [if_pos rfl]
  exact hK k hk
theorem same_ev (a b c d e f : Int) (l m n : List Int) (h1 : l.length ≤ 4611686018427387904) (h2 : m.length ≤ 4611686018427387904) (h3 : n.length ≤ 4611686018427387904) : Ev (fun k => serifref04_Same.f k a b c d e f l m n a b c d e f l m n) true := by
  obtain ⟨K1, e1⟩ := same_go l h1
  obtain ⟨K2, e2⟩ := same_go m h2
  obtain ⟨K3, e3⟩ := same_go n h3
  refine ⟨K1 + K2 + K3, fun k hk => ?_⟩
  have e1 := e1 k (by omega)
  have e2 := e2 k (by omega)
  have e3 := e3 k (by omega)
  dsimp only at e1 e2 e3 ⊢
  unfold serifref04_Same.f
  rw [if_pos rfl, if_pos rfl, if_pos rfl, if_pos rfl, if_pos rfl, if_pos rfl, e1, Option.bind_some, if_pos rfl, e2, Option.bind_some, if_pos rfl, e3, Option.bind_some]
/-- The font's bytes. -/
def bB (u a d g : Int) (adv bear : List Int) : List Int := buildB 2 (bS (w2 u) (s2 a ++ s2 d ++ s2 g) (w2 (adv.length : Int)) (catL (twL adv bear) adv.length))
structure Lim (u a d g : Int) (adv bear : List Int) : Prop where
  u0 : 16 ≤ u
  u1 : u ≤ 16384
  n0 : 1 ≤ adv.length
  n1 : adv.length ≤ 4096
  lb : bear.length = adv.length
  va : ∀ i, i < adv.length → 0 ≤ rd adv (i : Int) ∧ rd adv (i : Int) ≤ 65535 ∧ -32768 ≤ rd bear (i : Int) ∧ rd bear (i : Int) ≤ 32767
  a0 : -32768 ≤ a
  a1 : a ≤ 32767
  d0 : -32768 ≤ d
  d1 : d ≤ 32767
  g0 : -32768 ≤ g
  g1 : g ≤ 32767
theorem len_headB (u : Int) : (headB (w2 u)).length = 54 := by
  have e : headB (w2 u) = List.replicate 12 0 ++ [95, 15, 60, 245] ++ ([0, 0] ++ w2 u ++ (List.replicate 30 0 ++ [0, 1] ++ [0, 0])) := headB_at _ _
  rw [e]
  rfl
theorem len_hheaB (a d g m : Int) : (hheaB (s2 a ++ s2 d ++ s2 g) (w2 m)).length = 36 := by
  have e : hheaB (s2 a ++ s2 d ++ s2 g) (w2 m) = List.replicate 4 0 ++ s2 a ++ (s2 d ++ (s2 g ++ (List.replicate 24 0 ++ w2 m))) := hheaB_at _ _ _ _ _ _ _ _
  rw [e]
  rfl
theorem okB_catL (f : Nat → List Int) (n : Nat) (h : ∀ i, i < n → okB (f i)) : okB (catL f n) := by
  induction n with
  | zero => intro x hx; cases hx
  | succ n ih =>
    rw [catL_succ]
    exact okB_app (ih (fun i hi => h i (by omega))) (h n (by omega))
theorem Lim.len {u a d g : Int} {adv bear : List Int} (h : Lim u a d g adv bear) : (catL (twL adv bear) adv.length).length = 4 * adv.length := catL_len _ _ (fun _ _ => rfl)
theorem len_w2 (x : Int) : (w2 x).length = 2 := rfl
theorem Lim.bnd {u a d g : Int} {adv bear : List Int} (h : Lim u a d g adv bear) : 12 + 16 * (bS (w2 u) (s2 a ++ s2 d ++ s2 g) (w2 (adv.length : Int)) (catL (twL adv bear) adv.length)).length + (datB (bS (w2 u) (s2 a ++ s2 d ++ s2 g) (w2 (adv.length : Int)) (catL (twL adv bear) adv.length))).length ≤ 1048576 := by
  have h1 := len_headB u
  have h2 := len_hheaB a d g (adv.length : Int)
  have h3 := h.len
  have h4 := h.n1
  simp only [bS, cffP, datB, List.length_append, len_padB, List.length_cons, List.length_nil, h1, h2, h3, padN, len_w2]
  omega
theorem Lim.rise (u2 t6 g2 hm : List Int) : Rise ⟨#[]⟩ (bS u2 t6 g2 hm) := by
  exact ⟨by kernel_rfl, by kernel_rfl, by kernel_rfl, by kernel_rfl, by kernel_rfl, by kernel_rfl, by kernel_rfl, by kernel_rfl, by kernel_rfl, by kernel_rfl, by kernel_rfl, by kernel_rfl, by kernel_rfl, by kernel_rfl, by kernel_rfl, trivial⟩
theorem Lim.ok {u a d g : Int} {adv bear : List Int} (h : Lim u a d g adv bear) : ∀ p ∈ bS (w2 u) (s2 a ++ s2 d ++ s2 g) (w2 (adv.length : Int)) (catL (twL adv bear) adv.length), okB p.f1 := by
  have z : ∀ n, okB (List.replicate n 0) := fun n x hx => by rw [(List.mem_replicate.1 hx).2]; decide
  have u0 := h.u0
  have u1 := h.u1
  have a0 := h.a0
  have a1 := h.a1
  have d0 := h.d0
  have d1 := h.d1
  have g0 := h.g0
  have g1 := h.g1
  have n0 := h.n0
  have n1 := h.n1
  intro p hp
  simp only [bS, List.mem_cons, List.not_mem_nil, or_false] at hp
  rcases hp with rfl | rfl | rfl | rfl | rfl
  · intro x hx
    cases hx
  · show okB (headB (w2 u))
    have e : headB (w2 u) = List.replicate 12 0 ++ [95, 15, 60, 245] ++ ([0, 0] ++ w2 u ++ (List.replicate 30 0 ++ [0, 1] ++ [0, 0])) := headB_at _ _
    rw [e]
    exact okB_app (okB_app (z _) (by unfold okB; decide)) (okB_app (okB_app (by unfold okB; decide) (ok_w2 _ (by omega) (by omega))) (okB_app (okB_app (z _) (by unfold okB; decide)) (by unfold okB; decide)))
  · show okB (hheaB (s2 a ++ s2 d ++ s2 g) (w2 (adv.length : Int)))
    have e : hheaB (s2 a ++ s2 d ++ s2 g) (w2 (adv.length : Int)) = List.replicate 4 0 ++ s2 a ++ (s2 d ++ (s2 g ++ (List.replicate 24 0 ++ w2 (adv.length : Int)))) := hheaB_at _ _ _ _ _ _ _ _
    rw [e]
    exact okB_app (okB_app (z _) (ok_s2 _ a0 (by omega))) (okB_app (ok_s2 _ d0 (by omega)) (okB_app (ok_s2 _ g0 (by omega)) (okB_app (z _) (ok_w2 _ (by omega) (by omega)))))
  · refine okB_catL _ _ (fun i hi => ?_)
    have v := h.va i hi
    exact okB_app (ok_s2 _ (by omega) (by omega)) (ok_s2 _ (by omega) (by omega))
  · exact okB_app (by unfold okB; decide) (ok_w2 _ (by omega) (by omega))
theorem back_build {u a d g : Int} {adv bear : List Int} (h : Lim u a d g adv bear) : Ev (fun k => serifref03_Build.f k 2 (bS (w2 u) (s2 a ++ s2 d ++ s2 g) (w2 (adv.length : Int)) (catL (twL adv bear) adv.length))) (bB u a d g adv bear, 0) := by
  obtain ⟨l, hl⟩ : ∃ l, bS (w2 u) (s2 a ++ s2 d ++ s2 g) (w2 (adv.length : Int)) (catL (twL adv bear) adv.length) = l := ⟨_, rfl⟩
  have ln : l.length = 5 := by rw [← hl]; rfl
  have ho := h.ok
  have hb := h.bnd
  unfold bB
  rw [hl] at ho hb ⊢
  refine build_ev 2 (Or.inr rfl) l (by omega) (by omega) (fun i hi => ?_) (fun i hi => ?_) hb
  · have e : rd_T50 l (i : Int) = l[i] := by
      unfold rd_T50
      rw [Int.toNat_natCast, List.getD_eq_getElem?_getD, List.getElem?_eq_getElem hi]
      rfl
    rw [e]
    exact ho _ (List.getElem_mem hi)
  · subst hl
    have : i = 0 ∨ i = 1 ∨ i = 2 ∨ i = 3 ∨ i = 4 := by omega
    rcases this with rfl | rfl | rfl | rfl | rfl
    · exact ⟨by kernel_rfl, fun h => absurd h (by decide)⟩
    all_goals exact ⟨by kernel_rfl, fun _ => by kernel_rfl⟩
theorem back_ok {u a d g : Int} {adv bear : List Int} (h : Lim u a d g adv bear) : okB (bB u a d g adv bear) := okB_built 2 _ (show 5 ≤ 64 by decide) h.ok h.bnd
theorem back_open {u a d g : Int} {adv bear : List Int} (h : Lim u a d g adv bear) : (openV (bB u a d g adv bear) 0).2 = 0 ∧ readV (bB u a d g adv bear) (openV (bB u a d g adv bear) 0).1.1 (openV (bB u a d g adv bear) 0).1.2 = (0, ⟨2, u, (adv.length : Int), a, d, g, adv, bear, []⟩) := by
  obtain ⟨ho, ht⟩ := open_built 2 (Or.inr rfl) (bS (w2 u) (s2 a ++ s2 d ++ s2 g) (w2 (adv.length : Int)) (catL (twL adv bear) adv.length)) (show 0 < 5 by decide) (show 5 ≤ 64 by decide) (Lim.rise _ _ _ _) h.bnd
  have hl := h.len
  unfold bB
  rw [ho]
  refine ⟨rfl, ?_⟩
  dsimp only
  obtain ⟨bs, hbs⟩ : ∃ bs, buildB 2 (bS (w2 u) (s2 a ++ s2 d ++ s2 g) (w2 (adv.length : Int)) (catL (twL adv bear) adv.length)) = bs := ⟨_, rfl⟩
  obtain ⟨rows, hrows⟩ : ∃ rows, rowS (12 + 16 * (bS (w2 u) (s2 a ++ s2 d ++ s2 g) (w2 (adv.length : Int)) (catL (twL adv bear) adv.length)).length) 0 (bS (w2 u) (s2 a ++ s2 d ++ s2 g) (w2 (adv.length : Int)) (catL (twL adv bear) adv.length)) = rows := ⟨_, rfl⟩
  rw [hbs, hrows] at ht ⊢
  obtain ⟨hm, hhm⟩ : ∃ hm, catL (twL adv bear) adv.length = hm := ⟨_, rfl⟩
  rw [hhm] at ht hl
  have t1 : tabN bs ⟨#[104, 101, 97, 100]⟩ 54 rows = some (headB (w2 u)) := by
    unfold tabN
    rw [ht, show lookP ⟨#[104, 101, 97, 100]⟩ (bS (w2 u) (s2 a ++ s2 d ++ s2 g) (w2 (adv.length : Int)) hm) = some (headB (w2 u)) by kernel_rfl]
    dsimp only
    rw [len_headB, if_pos (by decide)]
  have t2 : tabN bs ⟨#[109, 97, 120, 112]⟩ 6 rows = some ([0, 1, 0, 0] ++ w2 (adv.length : Int)) := by
    unfold tabN
    rw [ht, show lookP ⟨#[109, 97, 120, 112]⟩ (bS (w2 u) (s2 a ++ s2 d ++ s2 g) (w2 (adv.length : Int)) hm) = some ([0, 1, 0, 0] ++ w2 (adv.length : Int)) by kernel_rfl]
    rfl
  have t3 : tabN bs ⟨#[104, 104, 101, 97]⟩ 36 rows = some (hheaB (s2 a ++ s2 d ++ s2 g) (w2 (adv.length : Int))) := by
    unfold tabN
    rw [ht, show lookP ⟨#[104, 104, 101, 97]⟩ (bS (w2 u) (s2 a ++ s2 d ++ s2 g) (w2 (adv.length : Int)) hm) = some (hheaB (s2 a ++ s2 d ++ s2 g) (w2 (adv.length : Int))) by kernel_rfl]
    dsimp only
    rw [len_hheaB, if_pos (by decide)]
  have t4 : tabN bs ⟨#[104, 109, 116, 120]⟩ (4 * (adv.length : Int) + 2 * ((((adv.length : Int)).toNat : Int) - (adv.length : Int))) rows = some hm := by
    unfold tabN
    rw [ht, show lookP ⟨#[104, 109, 116, 120]⟩ (bS (w2 u) (s2 a ++ s2 d ++ s2 g) (w2 (adv.length : Int)) hm) = some hm by kernel_rfl]
    dsimp only
    rw [hl, if_pos (by omega)]
  have t5 : tabN bs ⟨#[67, 70, 70, 32]⟩ 0 rows = some [] := by
    unfold tabN
    rw [ht, show lookP ⟨#[67, 70, 70, 32]⟩ (bS (w2 u) (s2 a ++ s2 d ++ s2 g) (w2 (adv.length : Int)) hm) = some [] by kernel_rfl]
    rfl
  have v1 := headV_w2 u h.u0 h.u1
  have v2 := maxpV_w2 (adv.length : Int) (by have := h.n0; omega) (by have := h.n1; omega)
  have v3 := hheaV_w2 (adv.length : Int) (adv.length : Int) a d g (by have := h.n0; omega) (Int.le_refl _) h.a0 h.a1 h.d0 h.d1 h.g0 h.g1
  have A1 : advL hm (adv.length : Int) adv.length = adv := by
    rw [← hhm]
    exact list_rd adv _ (fun i hi => (hmtx_at adv bear adv.length i hi (h.va i hi).1 (h.va i hi).2.2.1 (h.va i hi).2.2.2).1)
  have A2 : bearL hm (adv.length : Int) adv.length = bear := by
    rw [← hhm]
    have q := list_rd bear (bearAt (catL (twL adv bear) adv.length) (adv.length : Int)) (fun i hi => by rw [h.lb] at hi; exact (hmtx_at adv bear adv.length i hi (h.va i hi).1 (h.va i hi).2.2.1 (h.va i hi).2.2.2).2)
    rw [h.lb] at q
    exact q
  have n0 : ¬ ((0 : Int) ≠ 0) := fun h => h rfl
  unfold readV
  rw [t1, v1, t2, v2, t3]
  dsimp only
  rw [if_neg n0, if_neg n0, v3]
  dsimp only
  rw [if_neg n0, t4]
  dsimp only
  rw [t5]
  unfold outV
  rw [if_pos rfl]
  dsimp only
  rw [Int.toNat_natCast, A1, A2]
end Go.Proofs.Ytonljpciadeafaa.S
