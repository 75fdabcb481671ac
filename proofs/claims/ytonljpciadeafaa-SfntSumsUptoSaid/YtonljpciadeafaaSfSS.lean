/- Sums of bytes: the program's and the reference's. -/
import Derived.Test.YtonljpciadeafaaSfWS
import Derived.Test.YtonljpciadeafaaSx1
import Derived.Test.YtonljpciadeafaaSx22
set_option linter.unusedVariables false
set_option linter.unusedSimpArgs false
namespace Go.Proofs.Ytonljpciadeafaa.S
open Go Go.RowKit Go.Proofs.YtonljpciadeafaaW.PrintWords Go.Proofs.YtonljpciadeafaaW.PrintLast Go.Proofs.YtonljpciadeafaaW.PrintMore

theorem wr_in {n : Int} (h0 : -9223372036854775808 ≤ n) (h1 : n ≤ 9223372036854775807) : wrap64 n = n := by unfold wrap64; omega
theorem rdB {l : List Int} {i : Nat} (h : i < l.length) : rd l (i : Int) = l[i] := by unfold rd; rw [Int.toNat_natCast, List.getD_eq_getElem?_getD, List.getElem?_eq_getElem h]; rfl
/-- The weight of a byte by its place. -/
def wg (i : Nat) : Int := if i % 4 = 0 then 16777216 else if i % 4 = 1 then 65536 else if i % 4 = 2 then 256 else 1
def sumA : Int → Nat → List Int → Int
  | s, _, [] => s
  | s, i, c :: l => sumA ((s + c * wg i) % 4294967296) (i + 1) l
/-- The sum of bytes taken four at a time. -/
def sumB (l : List Int) : Int := sumA 0 0 l
theorem shl_wg {c : Int} (h0 : 0 ≤ c) (h1 : c < 256) (i : Nat) (hi : (i : Int) ≤ 9223372036854775807) : 0 ≤ wrap64 (24 - wrap64 (8 * Int.tmod (i : Int) 4)) ∧ shl .u32 (c % 4294967296) (wrap64 (24 - wrap64 (8 * Int.tmod (i : Int) 4))) = c * wg i := by
  have hm : Int.tmod (i : Int) 4 = ((i % 4 : Nat) : Int) := by rw [Int.tmod_eq_emod_of_nonneg (by omega)]; omega
  have hc : c % 4294967296 = c := by omega
  rw [hm, hc]
  have h4 : i % 4 < 4 := Nat.mod_lt _ (by decide)
  unfold wg
  generalize i % 4 = m at h4
  have e : wrap64 (24 - wrap64 (8 * (m : Int))) = 24 - 8 * (m : Int) := by unfold wrap64; omega
  rw [e]
  have key : ∀ (n : Nat) (p : Int), (2 : Int) ^ min ((n : Int)).toNat IntKind.u32.bits = p → 0 ≤ p → p ≤ 16777216 → shl .u32 c (n : Int) = c * p := by
    intro n p hp p0 p1
    unfold shl
    rw [hp, IntKind.wrap_u32]
    have : c * p ≤ 255 * 16777216 := Int.le_trans (Int.mul_le_mul_of_nonneg_right (by omega) p0) (Int.mul_le_mul_of_nonneg_left p1 (by decide))
    have : 0 ≤ c * p := Int.mul_nonneg h0 p0
    omega
  match m, h4 with
  | 0, _ => exact ⟨by decide, key 24 16777216 (by decide) (by decide) (by decide)⟩
  | 1, _ => exact ⟨by decide, key 16 65536 (by decide) (by decide) (by decide)⟩
  | 2, _ => exact ⟨by decide, key 8 256 (by decide) (by decide) (by decide)⟩
  | 3, _ => exact ⟨by decide, key 0 1 (by decide) (by decide) (by decide)⟩
theorem sum_l0 (l : List Int) (ho : okB l) (hl : l.length ≤ 4611686018427387904) : ∀ (d i : Nat) (s : Int), l.length - i = d → i ≤ l.length → 0 ≤ s → s < 4294967296 →
    Ev (fun k => sfnt_Sum.l0 k s l (l.length : Int) (i : Int)) (sumA s i (l.drop i)) := by
  intro d
  induction d with
  | zero =>
    intro i s e hi s0 s1
    rw [List.drop_of_length_le (by omega)]
    refine Ev.step (f := fun _ => some s) (fun k => ?_) (Ev.now _)
    rw [sfnt_Sum.l0, if_neg (by omega), wr_in (by omega) (by omega)]
  | succ d ih =>
    intro i s e hi s0 s1
    have hlt : i < l.length := by omega
    have h1 : (i : Int) < (l.length : Int) := by omega
    have h2 : (0 : Int) ≤ (i : Int) := by omega
    have hc := ho _ (List.getElem_mem hlt)
    obtain ⟨w1, w2⟩ := shl_wg hc.1 hc.2 i (by omega)
    rw [List.drop_eq_getElem_cons hlt]
    refine Ev.step (fun k => ?_) (ih (i + 1) ((s + l[i] * wg i) % 4294967296) (by omega) (by omega) (by omega) (by omega))
    rw [sfnt_Sum.l0, if_pos h1, if_pos h2, if_pos h1, if_pos w1, rdB hlt, w2, wr_in (n := (i : Int) + 1) (by omega) (by omega)]
    rfl
theorem sum_ev (l : List Int) (ho : okB l) (hl : l.length ≤ 4611686018427387904) : Ev (fun k => sfnt_Sum.f k l) (sumB l) := by
  have := sum_l0 l ho hl l.length 0 0 (by omega) (by omega) (by omega) (by omega)
  rwa [List.drop_zero] at this
def x4 (r : List Int) : Int := ((r.getD 0 0 * 256 + r.getD 1 0) * 256 + r.getD 2 0) * 256 + r.getD 3 0
theorem wgs (i : Nat) (hi : i % 4 = 0) : wg i = 16777216 ∧ wg (i + 1) = 65536 ∧ wg (i + 2) = 256 ∧ wg (i + 3) = 1 := by
  refine ⟨by unfold wg; rw [if_pos hi], ?_, ?_, ?_⟩
  · unfold wg; rw [if_neg (by omega), if_pos (by omega)]
  · unfold wg; rw [if_neg (by omega), if_neg (by omega), if_pos (by omega)]
  · unfold wg; rw [if_neg (by omega), if_neg (by omega), if_neg (by omega)]
theorem sumA_four (s : Int) (i : Nat) (hi : i % 4 = 0) (r : List Int) (hs0 : 0 ≤ s) (hs : s < 4294967296) : sumA s i r = sumA ((s + x4 r) % 4294967296) (i + 4) (r.drop 4) := by
  obtain ⟨w0, w1, w2, w3⟩ := wgs i hi
  match r with
  | [] => simp only [sumA, x4, List.drop_nil, List.getD_nil]; omega
  | [a] => simp only [sumA, x4, List.drop_succ_cons, List.drop_nil, List.drop_zero, List.getD_cons_zero, List.getD_cons_succ, List.getD_nil, w0]; omega
  | [a, b] => simp only [sumA, x4, List.drop_succ_cons, List.drop_nil, List.drop_zero, List.getD_cons_zero, List.getD_cons_succ, List.getD_nil, w0, w1]; omega
  | [a, b, c] => simp only [sumA, x4, List.drop_succ_cons, List.drop_nil, List.drop_zero, List.getD_cons_zero, List.getD_cons_succ, List.getD_nil, w0, w1, w2]; omega
  | a :: b :: c :: d :: t =>
    simp only [sumA, x4, List.drop_succ_cons, List.drop_nil, List.drop_zero, List.getD_cons_zero, List.getD_cons_succ, List.getD_nil, w0, w1, w2, w3]
    congr 1
    omega
theorem atB {l : List Int} (ho : okB l) (n : Nat) : 0 ≤ l.getD n 0 ∧ l.getD n 0 < 256 := by
  rw [List.getD_eq_getElem?_getD]
  by_cases h : n < l.length
  · rw [List.getElem?_eq_getElem h]; exact ho _ (List.getElem_mem h)
  · rw [List.getElem?_eq_none (by omega)]; simp
theorem rs_l1 (l : List Int) (ho : okB l) (hl : l.length ≤ 4611686018427387904) (k i j : Nat) (s x : Int) (hi : i ≤ l.length) (hj : j < 4) (x0 : 0 ≤ x) (x1 : x ≤ 16777216) :
    serifref03_Sum.l1 (k + 1) l s (i : Int) x (j : Int) = serifref03_Sum.l1 k l s (i : Int) (x * 256 + l.getD (i + j) 0) ((j + 1 : Nat) : Int) := by
  have a := atB ho (i + j)
  have e1 : wrap64 ((i : Int) + (j : Int)) = ((i + j : Nat) : Int) := by rw [wr_in (by omega) (by omega)]; omega
  have e2 : wrap64 ((j : Int) + 1) = ((j + 1 : Nat) : Int) := by rw [wr_in (by omega) (by omega)]; omega
  have e3 : wrap64 (x * 256) = x * 256 := wr_in (by omega) (by omega)
  rw [serifref03_Sum.l1, if_pos (by omega), e1, e2, e3]
  by_cases h : i + j < l.length
  · have hg : l.getD (i + j) 0 = l[i + j] := by rw [List.getD_eq_getElem?_getD, List.getElem?_eq_getElem h]; rfl
    rw [hg] at a ⊢
    rw [if_pos (by omega), if_pos (by omega), rdB h, wr_in (n := l[i + j]) (by omega) (by omega), wr_in (n := x * 256 + l[i + j]) (by omega) (by omega)]
  · rw [if_neg (by omega)]
    have hg : l.getD (i + j) 0 = 0 := by rw [List.getD_eq_getElem?_getD, List.getElem?_eq_none (by omega)]; rfl
    rw [hg, Int.add_zero]
theorem rs_st {l : List Int} (ho : okB l) (hl : l.length ≤ 4611686018427387904) {i j : Nat} {s x r : Int} (hi : i ≤ l.length) (hj : j < 4) (x0 : 0 ≤ x) (x1 : x ≤ 16777216) (h : Ev (fun k => serifref03_Sum.l1 k l s (i : Int) (x * 256 + l.getD (i + j) 0) ((j + 1 : Nat) : Int)) r) : Ev (fun k => serifref03_Sum.l1 k l s (i : Int) x (j : Int)) r :=
  Ev.step (fun k => rs_l1 l ho hl k i j s x hi hj x0 x1) h
theorem rs_l0 (l : List Int) (ho : okB l) (hl : l.length ≤ 4611686018427387904) : ∀ (d i : Nat) (s : Int), l.length - i ≤ d → i % 4 = 0 → i ≤ l.length + 3 → 0 ≤ s → s < 4294967296 →
    Ev (fun k => serifref03_Sum.l0 k l s (i : Int)) (sumA s i (l.drop i)) := by
  intro d
  induction d with
  | zero =>
    intro i s e h4 hi s0 s1
    rw [List.drop_of_length_le (by omega)]
    refine Ev.step (f := fun _ => some s) (fun k => ?_) (Ev.now _)
    rw [serifref03_Sum.l0, if_neg (by omega)]
  | succ d ih =>
    intro i s e h4 hi s0 s1
    by_cases hlt : i < l.length
    · have a0 := atB ho (i + 0); have a1 := atB ho (i + 1); have a2 := atB ho (i + 2); have a3 := atB ho (i + 3)
      have hx : x4 (l.drop i) = ((l.getD (i + 0) 0 * 256 + l.getD (i + 1) 0) * 256 + l.getD (i + 2) 0) * 256 + l.getD (i + 3) 0 := by
        unfold x4
        simp only [List.getD_eq_getElem?_getD, List.getElem?_drop]
      have g := ih (i + 4) ((s + x4 (l.drop i)) % 4294967296) (by omega) (by omega) (by omega) (by omega) (by omega)
      rw [sumA_four s i h4 _ s0 s1, List.drop_drop]
      generalize hX : x4 (l.drop i) = X at *
      have e0 : (0 * 256 + l.getD (i + 0) 0) * 256 = l.getD (i + 0) 0 * 256 := by omega
      have e5 : (((0 * 256 + l.getD (i + 0) 0) * 256 + l.getD (i + 1) 0) * 256 + l.getD (i + 2) 0) * 256 + l.getD (i + 3) 0 = X := by rw [e0, hx]
      have g4 : Ev (fun k => serifref03_Sum.l1 k l s (i : Int) ((((0 * 256 + l.getD (i + 0) 0) * 256 + l.getD (i + 1) 0) * 256 + l.getD (i + 2) 0) * 256 + l.getD (i + 3) 0) ((4 : Nat) : Int)) (sumA ((s + X) % 4294967296) (i + 4) (l.drop (i + 4))) := by
        refine Ev.step (fun k => ?_) g
        rw [serifref03_Sum.l1, if_neg (by decide), e5, wr_in (n := s + X) (by omega) (by omega), wr_in (n := (i : Int) + 4) (by omega) (by omega), Int.tmod_eq_emod_of_nonneg (by omega)]
        rfl
      have g3 := rs_st (j := 3) (x := ((0 * 256 + l.getD (i + 0) 0) * 256 + l.getD (i + 1) 0) * 256 + l.getD (i + 2) 0) ho hl (by omega) (by decide) (by omega) (by omega) g4
      have g2 := rs_st (j := 2) (x := (0 * 256 + l.getD (i + 0) 0) * 256 + l.getD (i + 1) 0) ho hl (by omega) (by decide) (by omega) (by omega) g3
      have g1 := rs_st (j := 1) (x := 0 * 256 + l.getD (i + 0) 0) ho hl (by omega) (by decide) (by omega) (by omega) g2
      have g0 := rs_st (j := 0) (x := 0) ho hl (by omega) (by decide) (by omega) (by omega) g1
      refine Ev.step (fun k => ?_) g0
      rw [serifref03_Sum.l0, if_pos (by omega)]
      rfl
    · rw [List.drop_of_length_le (by omega)]
      refine Ev.step (f := fun _ => some s) (fun k => ?_) (Ev.now _)
      rw [serifref03_Sum.l0, if_neg (by omega)]
theorem rsum_ev (l : List Int) (ho : okB l) (hl : l.length ≤ 4611686018427387904) : Ev (fun k => serifref03_Sum.f k l) (sumB l) := by
  have := rs_l0 l ho hl l.length 0 0 (by omega) (by omega) (by omega) (by omega) (by omega)
  rwa [List.drop_zero] at this
theorem sumA_bd : ∀ (l : List Int) (s : Int) (i : Nat), 0 ≤ s → s < 4294967296 → 0 ≤ sumA s i l ∧ sumA s i l < 4294967296
  | [], s, i, h0, h1 => ⟨h0, h1⟩
  | c :: l, s, i, h0, h1 => sumA_bd l _ _ (by omega) (by omega)
theorem sumB_bd (l : List Int) : 0 ≤ sumB l ∧ sumB l < 4294967296 := sumA_bd l 0 0 (by decide) (by decide)
theorem sumA_add : ∀ (l : List Int) (s t : Int) (i j : Nat), i % 4 = j % 4 → 0 ≤ s → s < 4294967296 → 0 ≤ t → t < 4294967296 → sumA ((s + t) % 4294967296) i l = (s + sumA t j l) % 4294967296
  | [], s, t, i, j, _, h0, h1, _, _ => by simp only [sumA]
  | c :: l, s, t, i, j, hij, h0, h1, t0, t1 => by
    have hw : wg i = wg j := by unfold wg; rw [hij]
    have := sumA_add l s ((t + c * wg j) % 4294967296) (i + 1) (j + 1) (by omega) h0 h1 (by omega) (by omega)
    simp only [sumA]
    rw [← this, hw]
    congr 1
    omega
theorem sumA_append : ∀ (a b : List Int) (s : Int) (i : Nat), sumA s i (a ++ b) = sumA (sumA s i a) (i + a.length) b
  | [], b, s, i => by simp [sumA]
  | c :: a, b, s, i => by
    simp only [List.cons_append, sumA, List.length_cons]
    rw [sumA_append a b, show i + 1 + a.length = i + (a.length + 1) by omega]
/-- A sum of two rows, the first one of whole fours. -/
theorem sumB_append (a b : List Int) (h : a.length % 4 = 0) : sumB (a ++ b) = (sumB a + sumB b) % 4294967296 := by
  unfold sumB
  have := sumA_add b (sumA 0 0 a) 0 (0 + a.length) 0 (by omega) (sumB_bd a).1 (sumB_bd a).2 (by decide) (by decide)
  rw [Int.add_zero, Int.emod_eq_of_lt (show 0 ≤ sumA 0 0 a from (sumB_bd a).1) (show sumA 0 0 a < 4294967296 from (sumB_bd a).2)] at this
  rw [sumA_append, this]
end Go.Proofs.Ytonljpciadeafaa.S
