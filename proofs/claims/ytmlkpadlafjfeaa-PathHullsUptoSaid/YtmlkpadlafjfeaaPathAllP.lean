/- Texts of this claim, one after the other: DivP, DivBP, MulP, PathValP, PathConP, PathFlP, PathRefP. -/
import Derived.Test.YtmlkpadlafjfeaaPx90
import Derived.Laws.Bits64b
import Derived.Test.YtmlkpadlafjfeaaPx0
import Derived.Test.YtmlkpadlafjfeaaPathCubP
import Derived.Test.YtmlkpadlafjfeaaPx16
import Derived.Test.YtmlkpadlafjfeaaPx23
import Derived.Test.YtmlkpadlafjfeaaPx5
import Derived.Test.YtmlkpadlafjfeaaPx24
import Derived.Test.YtmlkpadlafjfeaaPx25
import Derived.Test.YtmlkpadlafjfeaaPx26
import Derived.Test.YtmlkpadlafjfeaaPx30
import Derived.Test.YtmlkpadlafjfeaaPx31

/- What bits.Mul64, bits.Len64, bits.LeadingZeros64 and bits.Div64 answer, in plain arithmetic. -/
set_option linter.unusedVariables false
set_option linter.unusedSimpArgs false
namespace Go.Proofs.Ytmlkpadlafjfeaa.P
open Go Go.RowKit Go.Proofs.YtmlkpadlafjfeaaW.PrintWords Go.Proofs.YtmlkpadlafjfeaaW.PrintLast Go.Proofs.YtmlkpadlafjfeaaW.PrintMore

theorem Ev.intro {α : Type} {g : Nat → Option α} {r : α} (m : Nat) (h : ∀ k, g (k + m) = some r) : Ev g r :=
  ⟨m, fun k hk => by have := h (k - m); rwa [Nat.sub_add_cancel hk] at this⟩
theorem Ev.shift {α : Type} {g f : Nat → Option α} {r : α} (m : Nat) (h : ∀ k, g (k + m) = f k) (k : Ev f r) : Ev g r := by
  obtain ⟨K, hK⟩ := k
  exact ⟨K + m, fun k hk => by have := h (k - m); rw [Nat.sub_add_cancel (by omega)] at this; rw [this]; exact hK _ (by omega)⟩

/-! arithmetic of the digit step -/
theorem dig_lt (y v1 v0 u d q r : Int) (hy : y = v1 * 4294967296 + v0) (hq : q * v1 + r = u) : (q * v0 > 4294967296 * r + d) ↔ (q * y > u * 4294967296 + d) := by
  have : q * y = (q * v1) * 4294967296 + q * v0 := by subst hy; grind
  omega
theorem le_of_mul_le {a b y : Int} (hy : 0 < y) (h : a * y < (b + 1) * y) : a ≤ b := by
  have := Int.lt_of_mul_lt_mul_right h (Int.le_of_lt hy)
  omega
theorem wrap_u (n : Int) : IntKind.u64.wrap n = n % 18446744073709551616 := IntKind.wrap_u64 n
theorem wrap_u_in {n : Int} (h0 : 0 ≤ n) (h1 : n < 18446744073709551616) : IntKind.u64.wrap n = n := by rw [wrap_u]; omega
theorem mul_lt_of {a b A B : Int} (ha : 0 ≤ a) (hb : 0 ≤ b) (hA : a ≤ A) (hB : b ≤ B) : a * b ≤ A * B :=
  Int.le_trans (Int.mul_le_mul_of_nonneg_right hA hb) (Int.mul_le_mul_of_nonneg_left hB (by omega))

/-- What is asked of a digit's step: y = v1 v0 is normal, u below it. -/
structure Dig (y v1 v0 u d qs : Int) : Prop where
  hy : y = v1 * 4294967296 + v0
  h1 : 2147483648 ≤ v1
  h1' : v1 < 4294967296
  h0 : 0 ≤ v0
  h0' : v0 < 4294967296
  hu : 0 ≤ u
  hu' : u < y
  hd : 0 ≤ d
  hd' : d < 4294967296
  lo : qs * y ≤ u * 4294967296 + d
  hi : u * 4294967296 + d < (qs + 1) * y

theorem Dig.qs_nonneg {y v1 v0 u d qs : Int} (D : Dig y v1 v0 u d qs) : 0 ≤ qs := by
  have := D.hi; have hy := D.hy; have h1 := D.h1; have hu := D.hu; have hd := D.hd; have h0 := D.h0
  by_cases h : 0 ≤ qs
  · exact h
  · have : (qs + 1) * y ≤ 0 * y := Int.mul_le_mul_of_nonneg_right (by omega) (by omega)
    omega
theorem Dig.qs_lt {y v1 v0 u d qs : Int} (D : Dig y v1 v0 u d qs) : qs < 4294967296 := by
  have h1 := D.lo; have hu := D.hu'; have hd := D.hd'
  by_cases h : qs < 4294967296
  · exact h
  · have : 4294967296 * y ≤ qs * y := Int.mul_le_mul_of_nonneg_right (by omega) (by have := D.hu; omega)
    omega

/-- The state of a digit's loop. -/
structure DigSt (v1 u qs q r : Int) : Prop where
  e : q * v1 + r = u
  ge : qs ≤ q
  le : q ≤ 4294967297
  r0 : 0 ≤ r
  r1 : r < 4294967296

theorem Dig.start {y v1 v0 u d qs : Int} (D : Dig y v1 v0 u d qs) : DigSt v1 u qs (u / v1) (u - u / v1 * v1) := by
  have hv := D.h1; have hv' := D.h1'; have hu := D.hu; have hu' := D.hu'; have hy := D.hy; have h0' := D.h0'; have h0 := D.h0
  have e1 := Int.emod_add_mul_ediv u v1
  have e2 := Int.emod_nonneg u (show v1 ≠ 0 by omega)
  have e3 := Int.emod_lt_of_pos u (show 0 < v1 by omega)
  have e4 : u / v1 * v1 = v1 * (u / v1) := Int.mul_comm _ _
  have q0 : 0 ≤ u / v1 := Int.ediv_nonneg hu (by omega)
  refine ⟨by omega, ?_, ?_, by omega, by omega⟩
  · -- qs y ≤ u B + d, qs v1 B ≤ u B + d
    have l := D.lo; have hd' := D.hd'; have n := D.qs_nonneg
    have : qs * y = (qs * v1) * 4294967296 + qs * v0 := by rw [hy]; grind
    have p : 0 ≤ qs * v0 := Int.mul_nonneg n h0
    have : qs * v1 ≤ u := by omega
    exact le_of_mul_le (y := v1) (by omega) (by rw [Int.add_mul]; omega)
  · refine le_of_mul_le (y := v1) (by omega) ?_
    rw [e4]; omega

/-- The test of a digit's loop. -/
def digB (v0 d q r : Int) : Bool := if q ≥ 4294967296 then true else decide ((IntKind.u64.wrap (q * v0)) > (IntKind.u64.wrap ((IntKind.u64.wrap (4294967296 * r)) + d)))
theorem DigSt.test {y v1 v0 u d qs q r : Int} (D : Dig y v1 v0 u d qs) (S : DigSt v1 u qs q r) : digB v0 d q r = true ↔ qs < q := by
  have h0 := D.h0; have h0' := D.h0'; have hd := D.hd; have hd' := D.hd'; have r0 := S.r0; have r1 := S.r1; have hl := D.qs_lt; have hn := D.qs_nonneg; have hg := S.ge
  unfold digB
  split
  · simp; omega
  · rename_i hq
    have b : q * v0 ≤ 4294967295 * 4294967295 := mul_lt_of (by omega) h0 (by omega) (by omega)
    have b0 : 0 ≤ q * v0 := Int.mul_nonneg (by omega) h0
    rw [wrap_u_in (n := q * v0) b0 (by omega), wrap_u_in (n := 4294967296 * r) (by omega) (by omega), wrap_u_in (n := 4294967296 * r + d) (by omega) (by omega)]
    have t := dig_lt y v1 v0 u d q r D.hy S.e
    simp only [decide_eq_true_eq]
    rw [t]
    have ypos : 0 < y := by have := D.hu; have := D.hu'; omega
    constructor
    · intro h
      have l := D.lo
      by_cases c : qs < q
      · exact c
      · have : q * y ≤ qs * y := Int.mul_le_mul_of_nonneg_right (by omega) (by omega)
        omega
    · intro h
      have l := D.hi
      have : (qs + 1) * y ≤ q * y := Int.mul_le_mul_of_nonneg_right (by omega) (by omega)
      omega
theorem DigSt.next {y v1 v0 u d qs q r : Int} (D : Dig y v1 v0 u d qs) (S : DigSt v1 u qs q r) (h : qs < q) (hr : r + v1 < 4294967296) : DigSt v1 u qs (q - 1) (r + v1) :=
  ⟨by have := S.e; rw [Int.sub_mul]; omega, by omega, by have := S.le; omega, by have := S.r0; have := D.h1; omega, hr⟩
theorem DigSt.break {y v1 v0 u d qs q r : Int} (D : Dig y v1 v0 u d qs) (S : DigSt v1 u qs q r) (h : qs < q) (hr : 4294967296 ≤ r + v1) : q - 1 = qs := by
  have h0 := D.h0; have h0' := D.h0'; have hl := S.le; have hn := D.qs_nonneg
  have b : (q - 1) * v0 ≤ 4294967296 * 4294967295 := mul_lt_of (by omega) h0 (by omega) (by omega)
  have t := dig_lt y v1 v0 u d (q - 1) (r + v1) D.hy (by have := S.e; rw [Int.sub_mul]; omega)
  have ypos : 0 < y := by have := D.hu; have := D.hu'; omega
  have : ¬ ((q - 1) * v0 > 4294967296 * (r + v1) + d) := by have := D.hd; omega
  rw [t] at this
  have l := D.hi
  have : q - 1 ≤ qs := le_of_mul_le ypos (by omega)
  omega

theorem l0_ev {y s v1 v0 u d un0 qs : Int} (D : Dig y v1 v0 u d qs) : ∀ (n : Nat) (q r : Int), (q - qs).toNat = n → DigSt v1 u qs q r →
    ∃ m, ∀ k, bits_Div64.l0 (k + m) y s v1 v0 u d un0 q r = bits_Div64.j2 k y s v1 v0 u d un0 qs := by
  have h1 := D.h1; have h1' := D.h1'; have hn := D.qs_nonneg
  intro n
  induction n with
  | zero =>
    intro q r e S
    have hg := S.ge
    have hq : q = qs := by omega
    refine ⟨2, fun k => ?_⟩
    have t := S.test D
    have tf : digB v0 d q r = false := by
      cases h : digB v0 d q r with
      | false => rfl
      | true => have := t.1 h; omega
    have : bits_Div64.l0 (k + 2) y s v1 v0 u d un0 q r = bits_Div64.j1 (k + 1) y s v1 v0 u d un0 q r (digB v0 d q r) := by
      rw [show k + 2 = (k + 1) + 1 from rfl]; simp only [bits_Div64.l0]; unfold digB; split <;> simp_all
    rw [this, tf]
    simp only [bits_Div64.j1, hq]; simp
  | succ n ih =>
    intro q r e S
    have r0 := S.r0; have r1 := S.r1; have hl := S.le
    have hlt : qs < q := by omega
    have tt := (S.test D).2 hlt
    have one : ∀ k, bits_Div64.l0 (k + 2) y s v1 v0 u d un0 q r = bits_Div64.j1 (k + 1) y s v1 v0 u d un0 q r true := by
      intro k
      rw [← tt, show k + 2 = (k + 1) + 1 from rfl]; simp only [bits_Div64.l0]; unfold digB; split <;> simp_all
    have w1 : IntKind.u64.wrap (r + v1) = r + v1 := wrap_u_in (by omega) (by omega)
    have w2 : IntKind.u64.wrap (q - 1) = q - 1 := wrap_u_in (by omega) (by omega)
    by_cases hb : 4294967296 ≤ r + v1
    · refine ⟨2, fun k => ?_⟩
      rw [one]; simp only [bits_Div64.j1, w1, w2]
      rw [if_pos trivial, if_pos hb, S.break D hlt hb]
    · obtain ⟨m, hm⟩ := ih (q - 1) (r + v1) (by omega) (S.next D hlt (by omega))
      refine ⟨m + 2, fun k => ?_⟩
      rw [show k + (m + 2) = (k + m) + 2 by omega, one]; simp only [bits_Div64.j1, w1, w2]
      rw [if_pos trivial, if_neg hb, hm]

/-- What the second digit's loop ends in. -/
def divEnd (y s q1 un21 un0 q0 : Int) : Int × Int := (IntKind.u64.wrap ((IntKind.u64.wrap (q1 * 4294967296)) + q0), shr .u64 (IntKind.u64.wrap ((IntKind.u64.wrap ((IntKind.u64.wrap (un21 * 4294967296)) + un0)) - (IntKind.u64.wrap (q0 * y)))) s)
theorem l1_ev {y s v1 v0 q1 u d qs : Int} (hs : 0 ≤ s) (D : Dig y v1 v0 u d qs) : ∀ (n : Nat) (q r : Int), (q - qs).toNat = n → DigSt v1 u qs q r →
    ∃ m, ∀ k, bits_Div64.l1 (k + m) y s v1 v0 d q1 r u q = some (divEnd y s q1 u d qs) := by
  have h1 := D.h1; have h1' := D.h1'; have hn := D.qs_nonneg
  intro n
  induction n with
  | zero =>
    intro q r e S
    have hg := S.ge
    have hq : q = qs := by omega
    refine ⟨2, fun k => ?_⟩
    have t := S.test D
    have tf : digB v0 d q r = false := by
      cases h : digB v0 d q r with
      | false => rfl
      | true => have := t.1 h; omega
    have : bits_Div64.l1 (k + 2) y s v1 v0 d q1 r u q = bits_Div64.j4 (k + 1) y s v1 v0 d q1 r u q (digB v0 d q r) := by
      rw [show k + 2 = (k + 1) + 1 from rfl]; simp only [bits_Div64.l1]; unfold digB; split <;> simp_all
    rw [this, tf]
    simp only [bits_Div64.j4, hq]; simp [hs, divEnd]
  | succ n ih =>
    intro q r e S
    have r0 := S.r0; have r1 := S.r1; have hl := S.le
    have hlt : qs < q := by omega
    have tt := (S.test D).2 hlt
    have one : ∀ k, bits_Div64.l1 (k + 2) y s v1 v0 d q1 r u q = bits_Div64.j4 (k + 1) y s v1 v0 d q1 r u q true := by
      intro k
      rw [← tt, show k + 2 = (k + 1) + 1 from rfl]; simp only [bits_Div64.l1]; unfold digB; split <;> simp_all
    have w1 : IntKind.u64.wrap (r + v1) = r + v1 := wrap_u_in (by omega) (by omega)
    have w2 : IntKind.u64.wrap (q - 1) = q - 1 := wrap_u_in (by omega) (by omega)
    by_cases hb : 4294967296 ≤ r + v1
    · refine ⟨2, fun k => ?_⟩
      rw [one]; simp only [bits_Div64.j4, w1, w2]
      rw [if_pos trivial, if_pos hb, if_pos hs, S.break D hlt hb]; rfl
    · obtain ⟨m, hm⟩ := ih (q - 1) (r + v1) (by omega) (S.next D hlt (by omega))
      refine ⟨m + 2, fun k => ?_⟩
      rw [show k + (m + 2) = (k + m) + 2 by omega, one]; simp only [bits_Div64.j4, w1, w2]
      rw [if_pos trivial, if_neg hb, hm]
end Go.Proofs.Ytmlkpadlafjfeaa.P

/- bits.Len64, bits.LeadingZeros64, bits.Mul64 and bits.Div64, whole. -/
set_option linter.unusedVariables false
set_option linter.unusedSimpArgs false
namespace Go.Proofs.Ytmlkpadlafjfeaa.P
open Go Go.RowKit Go.Proofs.YtmlkpadlafjfeaaW.PrintWords Go.Proofs.YtmlkpadlafjfeaaW.PrintLast Go.Proofs.YtmlkpadlafjfeaaW.PrintMore

def len8 : ByteArray := ⟨#[0, 1, 2, 2, 3, 3, 3, 3, 4, 4, 4, 4, 4, 4, 4, 4, 5, 5, 5, 5, 5, 5, 5, 5, 5, 5, 5, 5, 5, 5, 5, 5, 6, 6, 6, 6, 6, 6, 6, 6, 6, 6, 6, 6, 6, 6, 6, 6, 6, 6, 6, 6, 6, 6, 6, 6, 6, 6, 6, 6, 6, 6, 6, 6, 7, 7, 7, 7, 7, 7, 7, 7, 7, 7, 7, 7, 7, 7, 7, 7, 7, 7, 7, 7, 7, 7, 7, 7, 7, 7, 7, 7, 7, 7, 7, 7, 7, 7, 7, 7, 7, 7, 7, 7, 7, 7, 7, 7, 7, 7, 7, 7, 7, 7, 7, 7, 7, 7, 7, 7, 7, 7, 7, 7, 7, 7, 7, 7, 8, 8, 8, 8, 8, 8, 8, 8, 8, 8, 8, 8, 8, 8, 8, 8, 8, 8, 8, 8, 8, 8, 8, 8, 8, 8, 8, 8, 8, 8, 8, 8, 8, 8, 8, 8, 8, 8, 8, 8, 8, 8, 8, 8, 8, 8, 8, 8, 8, 8, 8, 8, 8, 8, 8, 8, 8, 8, 8, 8, 8, 8, 8, 8, 8, 8, 8, 8, 8, 8, 8, 8, 8, 8, 8, 8, 8, 8, 8, 8, 8, 8, 8, 8, 8, 8, 8, 8, 8, 8, 8, 8, 8, 8, 8, 8, 8, 8, 8, 8, 8, 8, 8, 8, 8, 8, 8, 8, 8, 8, 8, 8, 8, 8, 8, 8, 8, 8, 8, 8, 8, 8, 8, 8, 8, 8, 8, 8]⟩
def lenOk (x L : Nat) : Bool := decide (L ≤ 8) && decide (x < 2 ^ L) && (L == 0 || decide (2 ^ (L - 1) ≤ x)) && (decide (x = 0) || L != 0)
theorem len8_all : ∀ i : Fin 256, lenOk i.1 (bt len8 (i.1 : Int)).toNat = true := by decide +kernel
theorem bt_nn (s : ByteArray) (i : Int) : 0 ≤ bt s i := by unfold bt; split <;> omega
/-- the length of a byte -/
theorem len8_at {x : Int} (h0 : 0 ≤ x) (h1 : x < 256) : ∃ L : Nat, bt len8 x = (L : Int) ∧ L ≤ 8 ∧ x < 2 ^ L ∧ (x ≠ 0 → 1 ≤ L ∧ (2 : Int) ^ (L - 1) ≤ x) := by
  obtain ⟨n, rfl⟩ := Int.eq_ofNat_of_zero_le h0
  have hn : n < 256 := by omega
  have h := len8_all ⟨n, hn⟩
  have e : bt len8 (n : Int) = ((bt len8 (n : Int)).toNat : Int) := by have := bt_nn len8 n; omega
  refine ⟨(bt len8 (n : Int)).toNat, e, ?_⟩
  generalize (bt len8 (n : Int)).toNat = L at h
  simp only [lenOk, Bool.and_eq_true, Bool.or_eq_true, decide_eq_true_eq, bne_iff_ne, beq_iff_eq] at h
  obtain ⟨⟨⟨a, b⟩, c⟩, d⟩ := h
  refine ⟨a, by exact_mod_cast b, fun hx => ?_⟩
  have hl : L ≠ 0 := by rcases d with d | d <;> omega
  refine ⟨by omega, ?_⟩
  rcases c with c | c
  · exact absurd c hl
  · exact_mod_cast c

/-- L is x's length in bits. -/
def IsLen (x : Int) (L : Int) : Prop := ∃ n : Nat, L = n ∧ n ≤ 64 ∧ x < 2 ^ n ∧ (x ≠ 0 → 1 ≤ n ∧ (2 : Int) ^ (n - 1) ≤ x)
theorem IsLen.up {x : Int} {L : Nat} (m : Nat) (hx : 0 < x / 2 ^ m) (hL : L ≤ 64 - m) (hm : m ≤ 64) (h1 : x / 2 ^ m < 2 ^ L) (h2 : x / 2 ^ m ≠ 0 → 1 ≤ L ∧ (2 : Int) ^ (L - 1) ≤ x / 2 ^ m) : IsLen x (m + L : Nat) := by
  have p : (0 : Int) < 2 ^ m := Int.pow_pos (by decide)
  obtain ⟨l1, l2⟩ := h2 (by omega)
  have a : x < (x / 2 ^ m + 1) * 2 ^ m := by
    have := Int.emod_add_mul_ediv x (2 ^ m); have := Int.emod_lt_of_pos x p
    rw [Int.add_mul, Int.mul_comm (x / 2 ^ m)]; omega
  have b : x / 2 ^ m * 2 ^ m ≤ x := Int.ediv_mul_le x (by omega)
  refine ⟨m + L, by omega, by omega, ?_, fun _ => ⟨by omega, ?_⟩⟩
  · have : (x / 2 ^ m + 1) * 2 ^ m ≤ 2 ^ L * 2 ^ m := Int.mul_le_mul_of_nonneg_right (by omega) (by omega)
    rw [Int.pow_add, Int.mul_comm (2 ^ m)]; omega
  · have : 2 ^ (L - 1) * 2 ^ m ≤ x / 2 ^ m * 2 ^ m := Int.mul_le_mul_of_nonneg_right l2 (by omega)
    rw [show m + L - 1 = m + (L - 1) by omega, Int.pow_add, Int.mul_comm (2 ^ m)]; omega

theorem wrap64_in' {n : Int} (h0 : -9223372036854775808 ≤ n) (h1 : n ≤ 9223372036854775807) : wrap64 n = n := by unfold wrap64; omega

def lenJ (T : ByteArray) (X m : Int) : Option Int := (if X ≥ 65536 then (if (X / 65536) ≥ 256 then (if 0 ≤ (((X / 65536) / 256) % 256) then (if (((X / 65536) / 256) % 256) < 256 then (some (wrap64 ((wrap64 ((wrap64 (m + 16)) + 8)) + (wrap64 (bt T (((X / 65536) / 256) % 256)))))) else (none)) else (none)) else (if 0 ≤ ((X / 65536) % 256) then (if ((X / 65536) % 256) < 256 then (some (wrap64 ((wrap64 (m + 16)) + (wrap64 (bt T ((X / 65536) % 256)))))) else (none)) else (none))) else (if X ≥ 256 then (if 0 ≤ ((X / 256) % 256) then (if ((X / 256) % 256) < 256 then (some (wrap64 ((wrap64 (m + 8)) + (wrap64 (bt T ((X / 256) % 256)))))) else (none)) else (none)) else (if 0 ≤ ((X) % 256) then (if ((X) % 256) < 256 then (some (wrap64 (m + (wrap64 (bt T ((X) % 256)))))) else (none)) else (none))))
theorem w_16 (m : Nat) (h : m ≤ 32) : wrap64 ((m : Int) + 16) = (m : Int) + 16 := wrap64_in' (by omega) (by omega)
theorem w_8 (m : Nat) (h : m ≤ 32) : wrap64 ((m : Int) + 8) = (m : Int) + 8 := wrap64_in' (by omega) (by omega)
theorem w_24 (m : Nat) (h : m ≤ 32) : wrap64 (wrap64 ((m : Int) + 16) + 8) = (m : Int) + 24 := by rw [w_16 m h, wrap64_in' (by omega) (by omega)]; omega
theorem lenJ_ok (T : ByteArray) (hT : ∀ x : Int, 0 ≤ x → x < 256 → ∃ L : Nat, bt T x = (L : Int) ∧ L ≤ 8 ∧ x < 2 ^ L ∧ (x ≠ 0 → 1 ≤ L ∧ (2 : Int) ^ (L - 1) ≤ x)) (x : Int) (m : Nat) (hm : m = 0 ∨ m = 32) (h0 : 0 ≤ x / 2 ^ m) (h1 : x / 2 ^ m < 4294967296) (hb : m = 32 → 0 < x / 2 ^ m) (x0 : 0 ≤ x) :
    ∃ L, lenJ T (x / 2 ^ m) (m : Int) = some L ∧ IsLen x L := by
  have two : ∀ a b : Nat, x / 2 ^ a / 2 ^ b = x / 2 ^ (a + b) := fun a b => by rw [Int.pow_add, Int.ediv_ediv_of_nonneg (Int.le_of_lt (Int.pow_pos (by decide)))]
  have p16 : (2 : Int) ^ 16 = 65536 := rfl
  have p8 : (2 : Int) ^ 8 = 256 := rfl
  have d16 : x / 2 ^ m / 65536 = x / 2 ^ (m + 16) := by rw [← p16]; exact two m 16
  have d8 : x / 2 ^ m / 256 = x / 2 ^ (m + 8) := by rw [← p8]; exact two m 8
  have d24 : x / 2 ^ m / 65536 / 256 = x / 2 ^ (m + 24) := by rw [d16, ← p8]; exact two (m + 16) 8
  have fin : ∀ (s : Nat) (y : Int), y = x / 2 ^ (m + s) → s ≤ 24 → 0 ≤ y → y < 256 → (0 < y ∨ m + s = 0) → ∀ z : Int, z = ((m + s : Nat) : Int) →
      ∃ L, (if 0 ≤ y % 256 then (if y % 256 < 256 then (some (wrap64 (z + (wrap64 (bt T (y % 256)))))) else none) else none) = some L ∧ IsLen x L := by
    intro s y hy hs hy0 hy1 hp z hz
    have e : y % 256 = y := by omega
    rw [e, if_pos hy0, if_pos hy1]
    obtain ⟨L, l0, l1, l2, l3⟩ := hT _ hy0 hy1
    refine ⟨_, rfl, ?_⟩
    rw [l0, wrap64_in' (n := (L : Int)) (by omega) (by omega), wrap64_in' (by omega) (by omega)]
    rcases Nat.eq_zero_or_pos (m + s) with h | h
    · rw [hz, h]
      have ex : y = x := by rw [hy, h]; simp
      rw [ex] at l2 l3
      exact ⟨L, by omega, by omega, l2, l3⟩
    · have : z + (L : Int) = ((m + s + L : Nat) : Int) := by omega
      rw [this]
      subst hy
      exact IsLen.up (m + s) (by omega) (by omega) (by omega) l2 l3
  have ml : m ≤ 32 := by omega
  unfold lenJ
  by_cases c1 : x / 2 ^ m ≥ 65536
  · rw [if_pos c1]
    by_cases c2 : x / 2 ^ m / 65536 ≥ 256
    · rw [if_pos c2, w_24 m ml]
      exact fin 24 _ d24 (by omega) (by omega) (by omega) (.inl (by omega)) _ (by omega)
    · rw [if_neg c2, w_16 m ml]
      exact fin 16 _ d16 (by omega) (by omega) (by omega) (.inl (by omega)) _ (by omega)
  · rw [if_neg c1]
    by_cases c2 : x / 2 ^ m ≥ 256
    · rw [if_pos c2, w_8 m ml]
      exact fin 8 _ d8 (by omega) (by omega) (by omega) (.inl (by omega)) _ (by omega)
    · rw [if_neg c2]
      exact fin 0 (x / 2 ^ m) (by rw [Nat.add_zero]) (by omega) h0 (by omega) (by rcases hm with h | h; exact .inr (by omega); exact .inl (hb h)) _ (by omega)

set_option maxRecDepth 100000 in
theorem j0_eq (k : Nat) (X m : Int) : bits_Len64.j0 (k + 1) X m = lenJ len8 X m := rfl
theorem len64_j (x : Int) (m : Nat) (hm : m = 0 ∨ m = 32) (k : Nat) (h0 : 0 ≤ x / 2 ^ m) (h1 : x / 2 ^ m < 4294967296) (hb : m = 32 → 0 < x / 2 ^ m) (x0 : 0 ≤ x) :
    ∃ L, bits_Len64.j0 (k + 1) (x / 2 ^ m) (m : Int) = some L ∧ IsLen x L := by
  rw [j0_eq]; exact lenJ_ok len8 (fun x a b => len8_at a b) x m hm h0 h1 hb x0

theorem len64 (x : Int) (h0 : 0 ≤ x) (h1 : x < 18446744073709551616) (k : Nat) : ∃ L, bits_Len64.f (k + 1) x = some L ∧ IsLen x L := by
  unfold bits_Len64.f
  by_cases c : x ≥ 4294967296
  · rw [if_pos c]
    exact len64_j x 32 (.inr rfl) k (by omega) (by omega) (fun _ => by omega) h0
  · rw [if_neg c]
    have := len64_j x 0 (.inl rfl) k (by simpa using h0) (by simp; omega) (fun h => by omega) h0
    simpa using this
theorem lz64 (x : Int) (h0 : 0 < x) (h1 : x < 18446744073709551616) (k : Nat) :
    ∃ s : Nat, bits_LeadingZeros64.f (k + 1) x = some (s : Int) ∧ s ≤ 63 ∧ 9223372036854775808 ≤ x * 2 ^ s ∧ x * 2 ^ s < 18446744073709551616 := by
  obtain ⟨L, e, n, rfl, hn, hlt, hge⟩ := len64 x (by omega) h1 k
  obtain ⟨n1, hle⟩ := hge (by omega)
  refine ⟨64 - n, ?_, by omega, ?_, ?_⟩
  · unfold bits_LeadingZeros64.f
    rw [e]; simp only [Option.bind_some]
    rw [wrap64_in' (by omega) (by omega)]
    congr 1; omega
  · have p : (2 : Int) ^ (n - 1) * 2 ^ (64 - n) = 9223372036854775808 := by rw [← Int.pow_add, show n - 1 + (64 - n) = 63 by omega]; rfl
    have z : (0 : Int) < 2 ^ (64 - n) := Int.pow_pos (by decide)
    have := Int.mul_le_mul_of_nonneg_right hle (Int.le_of_lt z)
    omega
  · have p : (2 : Int) ^ n * 2 ^ (64 - n) = 18446744073709551616 := by rw [← Int.pow_add, show n + (64 - n) = 64 by omega]; rfl
    have z : (0 : Int) < 2 ^ (64 - n) := Int.pow_pos (by decide)
    have := Int.mul_lt_mul_of_pos_right hlt z
    omega

theorem mask32 {x : Int} (h0 : 0 ≤ x) (h1 : x < 18446744073709551616) : Go.bits .and .u64 x 4294967295 = x % 4294967296 :=
  bits_mask .u64 64 (by decide) (fun n a b => wrap_u_in a (by omega)) 32 (by decide) x h0 (by omega)

/-- bits.Mul64 -/
theorem mul64 (a b : Int) (a0 : 0 ≤ a) (a1 : a < 18446744073709551616) (b0 : 0 ≤ b) (b1 : b < 18446744073709551616) :
    bits_Mul64.f a b = some (a * b / 18446744073709551616, a * b % 18446744073709551616) := by
  unfold bits_Mul64.f
  rw [mask32 a0 a1, mask32 b0 b1]
  have ea : a = a / 4294967296 * 4294967296 + a % 4294967296 := by omega
  have eb : b = b / 4294967296 * 4294967296 + b % 4294967296 := by omega
  have ah : 0 ≤ a / 4294967296 ∧ a / 4294967296 ≤ 4294967295 := by omega
  have al : 0 ≤ a % 4294967296 ∧ a % 4294967296 ≤ 4294967295 := by omega
  have bh : 0 ≤ b / 4294967296 ∧ b / 4294967296 ≤ 4294967295 := by omega
  have bl : 0 ≤ b % 4294967296 ∧ b % 4294967296 ≤ 4294967295 := by omega
  generalize a / 4294967296 = p at *
  generalize a % 4294967296 = q at *
  generalize b / 4294967296 = r at *
  generalize b % 4294967296 = s at *
  have e : a * b = (p * r) * 18446744073709551616 + (p * s) * 4294967296 + (q * r) * 4294967296 + q * s := by subst ea eb; grind
  have pr := mul_lt_of ah.1 bh.1 ah.2 bh.2
  have ps := mul_lt_of ah.1 bl.1 ah.2 bl.2
  have qr := mul_lt_of al.1 bh.1 al.2 bh.2
  have qs := mul_lt_of al.1 bl.1 al.2 bl.2
  have pr0 := Int.mul_nonneg ah.1 bh.1
  have ps0 := Int.mul_nonneg ah.1 bl.1
  have qr0 := Int.mul_nonneg al.1 bh.1
  have qs0 := Int.mul_nonneg al.1 bl.1
  rw [wrap_u (a * b), e]
  generalize p * r = A at *
  generalize p * s = B at *
  generalize q * r = C at *
  generalize q * s = D at *
  rw [wrap_u_in (n := A) pr0 (by omega), wrap_u_in (n := B) ps0 (by omega), wrap_u_in (n := C) qr0 (by omega), wrap_u_in (n := D) qs0 (by omega)]
  rw [wrap_u_in (n := B + D / 4294967296) (by omega) (by omega)]
  rw [mask32 (by omega) (by omega)]
  rw [wrap_u_in (n := A + (B + D / 4294967296) / 4294967296) (by omega) (by omega)]
  rw [wrap_u_in (n := (B + D / 4294967296) % 4294967296 + C) (by omega) (by omega)]
  rw [wrap_u_in (by omega) (by omega)]
  simp only [Option.some.injEq, Prod.mk.injEq, and_true]
  omega

theorem or_join {x y : Int} (i : Nat) (hx0 : 0 ≤ x) (hx : x % 2 ^ i = 0) (hx1 : x < 18446744073709551616) (hy0 : 0 ≤ y) (hy : y < 2 ^ i) (hy1 : y < 18446744073709551616) : Go.bits .or .u64 x y = x + y :=
  bits_join .u64 64 (by decide) (fun n a b => wrap_u_in a (by omega)) i x y hx0 hx (by omega) hy0 hy (by omega)

/-- bits.Div64 -/
theorem div64 (hi lo y : Int) (h0 : 0 ≤ hi) (h1 : hi < y) (l0 : 0 ≤ lo) (l1 : lo < 18446744073709551616) (y1 : y < 18446744073709551616) :
    Ev (fun k => bits_Div64.f k hi lo y) ((hi * 18446744073709551616 + lo) / y, (hi * 18446744073709551616 + lo) % y) := by
  by_cases hz : hi = 0
  · subst hz
    refine Ev.intro 0 fun k => ?_
    simp only [bits_Div64.f]
    rw [if_neg (by omega), if_neg (by omega), if_pos trivial, Int.tdiv_eq_ediv_of_nonneg l0, Int.tmod_eq_emod_of_nonneg l0]
    have : lo / y ≤ lo := Int.ediv_le_self y l0
    have := Int.ediv_nonneg l0 (show 0 ≤ y by omega)
    rw [wrap_u_in (by omega) (by omega)]; simp
  · obtain ⟨s, es, hs, g1, g2⟩ := lz64 y (by omega) y1 0
    have es : ∀ k, bits_LeadingZeros64.f (k + 1) y = some (s : Int) := fun k => at_rounds (bits_LeadingZeros64.mono y) (show 0 + 1 ≤ k + 1 by omega) es
    have PQ : (2 : Int) ^ s * 2 ^ (64 - s) = 18446744073709551616 := by rw [← Int.pow_add, show s + (64 - s) = 64 by omega]; rfl
    have Pp : (0 : Int) < 2 ^ s := Int.pow_pos (by decide)
    have Qp : (0 : Int) < 2 ^ (64 - s) := Int.pow_pos (by decide)
    have hyP : hi * 2 ^ s + 2 ^ s ≤ y * 2 ^ s := by have := Int.mul_le_mul_of_nonneg_right (show hi + 1 ≤ y by omega) (Int.le_of_lt Pp); rw [Int.add_mul] at this; omega
    have hP0 : 0 ≤ hi * 2 ^ s := Int.mul_nonneg h0 (by omega)
    have c1 : IntKind.u64.wrap (s : Int) = s := wrap_u_in (by omega) (by omega)
    have c2 : IntKind.u64.wrap (64 - (s : Int)) = (64 - s : Nat) := by rw [wrap_u_in (by omega) (by omega)]; omega
    have t1 : ((s : Int)).toNat = s := by omega
    have t2 : (((64 - s : Nat) : Int)).toNat = 64 - s := by omega
    have s1 : shl .u64 y (s : Int) = y * 2 ^ s := by unfold shl; rw [t1, Nat.min_eq_left (show s ≤ IntKind.u64.bits by show s ≤ 64; omega), wrap_u_in (by omega) g2]
    have s2 : shl .u64 hi (s : Int) = hi * 2 ^ s := by unfold shl; rw [t1, Nat.min_eq_left (show s ≤ IntKind.u64.bits by show s ≤ 64; omega), wrap_u_in hP0 (by omega)]
    have s3 : shl .u64 lo (s : Int) = (lo * 2 ^ s) % 18446744073709551616 := by unfold shl; rw [t1, Nat.min_eq_left (show s ≤ IntKind.u64.bits by show s ≤ 64; omega), wrap_u]
    have s4 : shr .u64 lo ((64 - s : Nat) : Int) = lo / 2 ^ (64 - s) := by unfold shr; rw [t2, Nat.min_eq_left (show 64 - s ≤ IntKind.u64.bits by show 64 - s ≤ 64; omega)]
    have a0 := Int.emod_add_mul_ediv lo (2 ^ (64 - s))
    have a1 := Int.emod_nonneg lo (show (2 : Int) ^ (64 - s) ≠ 0 by omega)
    have a2 := Int.emod_lt_of_pos lo Qp
    have a3 : 0 ≤ lo / 2 ^ (64 - s) := Int.ediv_nonneg l0 (by omega)
    have a4 : lo / 2 ^ (64 - s) < 2 ^ s := Int.ediv_lt_of_lt_mul Qp (by rw [PQ]; exact l1)
    have j1 : Go.bits .or .u64 (hi * 2 ^ s) (lo / 2 ^ (64 - s)) = hi * 2 ^ s + lo / 2 ^ (64 - s) :=
      or_join s hP0 (Int.mul_emod_left _ _) (by omega) a3 a4 (by omega)
    have lo2 : lo * 2 ^ s = (lo / 2 ^ (64 - s)) * 18446744073709551616 + (lo % 2 ^ (64 - s)) * 2 ^ s := by
      have : lo * 2 ^ s = (lo % 2 ^ (64 - s) + 2 ^ (64 - s) * (lo / 2 ^ (64 - s))) * 2 ^ s := by rw [a0]
      rw [this, ← PQ]; grind
    have rs0 : 0 ≤ (lo % 2 ^ (64 - s)) * 2 ^ s := Int.mul_nonneg a1 (by omega)
    have rs1 : (lo % 2 ^ (64 - s)) * 2 ^ s < 18446744073709551616 := by have := Int.mul_lt_mul_of_pos_right a2 Pp; rw [Int.mul_comm (2 ^ (64 - s)), PQ] at this; exact this
    have s3' : shl .u64 lo (s : Int) = (lo % 2 ^ (64 - s)) * 2 ^ s := by rw [s3, lo2]; omega
    -- names for the pieces
    have fe : ∀ k, bits_Div64.f (k + 1) hi lo y = bits_Div64.l0 (k + 1) (y * 2 ^ s) s (y * 2 ^ s / 4294967296) (y * 2 ^ s % 4294967296) (hi * 2 ^ s + lo / 2 ^ (64 - s)) ((lo % 2 ^ (64 - s)) * 2 ^ s / 4294967296) ((lo % 2 ^ (64 - s)) * 2 ^ s % 4294967296) ((hi * 2 ^ s + lo / 2 ^ (64 - s)) / (y * 2 ^ s / 4294967296)) ((hi * 2 ^ s + lo / 2 ^ (64 - s)) - (hi * 2 ^ s + lo / 2 ^ (64 - s)) / (y * 2 ^ s / 4294967296) * (y * 2 ^ s / 4294967296)) := by
      intro k
      simp only [bits_Div64.f]
      rw [if_neg (by omega), if_neg (by omega), if_neg hz, es k]
      simp only [Option.bind_some]
      rw [c1, c2, if_pos (by omega), if_pos (by omega), s1, s2, s3', s4, j1, if_neg (by omega)]
      rw [mask32 (by omega) g2, mask32 rs0 rs1]
      have u0 : 0 ≤ hi * 2 ^ s + lo / 2 ^ (64 - s) := by omega
      rw [Int.tdiv_eq_ediv_of_nonneg u0]
      have uu : hi * 2 ^ s + lo / 2 ^ (64 - s) < 18446744073709551616 := by omega
      generalize hi * 2 ^ s + lo / 2 ^ (64 - s) = u at *
      have v1 : 2147483648 ≤ y * 2 ^ s / 4294967296 := by omega
      have qle : u / (y * 2 ^ s / 4294967296) ≤ u := Int.ediv_le_self _ u0
      have q0 : 0 ≤ u / (y * 2 ^ s / 4294967296) := Int.ediv_nonneg u0 (by omega)
      have qm : u / (y * 2 ^ s / 4294967296) * (y * 2 ^ s / 4294967296) ≤ u := Int.ediv_mul_le u (by omega)
      have qm0 : 0 ≤ u / (y * 2 ^ s / 4294967296) * (y * 2 ^ s / 4294967296) := Int.mul_nonneg q0 (by omega)
      rw [wrap_u_in (n := u / _) q0 (by omega), wrap_u_in (n := _ * _) qm0 (by omega), wrap_u_in (n := u - _) (by omega) (by omega)]
    have tot : (hi * 18446744073709551616 + lo) * 2 ^ s = (hi * 2 ^ s + lo / 2 ^ (64 - s)) * 18446744073709551616 + (lo % 2 ^ (64 - s)) * 2 ^ s := by
      rw [Int.add_mul, lo2]; grind
    have hu1 : hi * 2 ^ s + lo / 2 ^ (64 - s) < y * 2 ^ s := by omega
    have hu0 : 0 ≤ hi * 2 ^ s + lo / 2 ^ (64 - s) := by omega
    generalize hi * 2 ^ s + lo / 2 ^ (64 - s) = u at *
    generalize (lo % 2 ^ (64 - s)) * 2 ^ s = z at *
    clear s1 s2 s3 s3' s4 j1 lo2 a0 a1 a2 a3 a4
    have yd : y * 2 ^ s = y * 2 ^ s / 4294967296 * 4294967296 + y * 2 ^ s % 4294967296 := by omega
    have ypos : 0 < y * 2 ^ s := by omega
    -- the first digit
    have D1 : Dig (y * 2 ^ s) (y * 2 ^ s / 4294967296) (y * 2 ^ s % 4294967296) u (z / 4294967296) ((u * 4294967296 + z / 4294967296) / (y * 2 ^ s)) :=
      ⟨yd, by omega, by omega, by omega, by omega, hu0, hu1, by omega, by omega, Int.ediv_mul_le _ (by omega), Int.lt_ediv_add_one_mul_self _ ypos⟩
    obtain ⟨m1, e1⟩ := l0_ev (s := (s : Int)) (un0 := z % 4294967296) D1 _ _ _ rfl D1.start
    have q1n := D1.qs_nonneg
    have q1l := D1.qs_lt
    have q1lo := D1.lo
    have q1hi := D1.hi
    rw [Int.add_mul] at q1hi
    generalize hq1 : (u * 4294967296 + z / 4294967296) / (y * 2 ^ s) = q1 at *
    -- the second digit
    have u2 : IntKind.u64.wrap ((IntKind.u64.wrap ((IntKind.u64.wrap (u * 4294967296)) + z / 4294967296)) - (IntKind.u64.wrap (q1 * (y * 2 ^ s)))) = u * 4294967296 + z / 4294967296 - q1 * (y * 2 ^ s) := by
      simp only [wrap_u]; omega
    have D2 : Dig (y * 2 ^ s) (y * 2 ^ s / 4294967296) (y * 2 ^ s % 4294967296) (u * 4294967296 + z / 4294967296 - q1 * (y * 2 ^ s)) (z % 4294967296) (((u * 4294967296 + z / 4294967296 - q1 * (y * 2 ^ s)) * 4294967296 + z % 4294967296) / (y * 2 ^ s)) :=
      ⟨yd, by omega, by omega, by omega, by omega, by omega, by omega, by omega, by omega, Int.ediv_mul_le _ (by omega), Int.lt_ediv_add_one_mul_self _ ypos⟩
    obtain ⟨m2, e2⟩ := l1_ev (s := (s : Int)) (q1 := q1) (by omega) D2 _ _ _ rfl D2.start
    have q2n := D2.qs_nonneg
    have q2l := D2.qs_lt
    have q2lo := D2.lo
    have q2hi := D2.hi
    rw [Int.add_mul] at q2hi
    generalize hu2 : u * 4294967296 + z / 4294967296 - q1 * (y * 2 ^ s) = w at *
    generalize hq2 : (w * 4294967296 + z % 4294967296) / (y * 2 ^ s) = q2 at *
    -- the whole
    have W : (hi * 18446744073709551616 + lo) * 2 ^ s = (q1 * 4294967296 + q2) * (y * 2 ^ s) + (w * 4294967296 + z % 4294967296 - q2 * (y * 2 ^ s)) := by
      have : (q1 * 4294967296 + q2) * (y * 2 ^ s) = (q1 * (y * 2 ^ s)) * 4294967296 + q2 * (y * 2 ^ s) := by grind
      rw [tot, this]; omega
    have R : w * 4294967296 + z % 4294967296 - q2 * (y * 2 ^ s) = (hi * 18446744073709551616 + lo - (q1 * 4294967296 + q2) * y) * 2 ^ s := by
      have : (hi * 18446744073709551616 + lo - (q1 * 4294967296 + q2) * y) * 2 ^ s = (hi * 18446744073709551616 + lo) * 2 ^ s - (q1 * 4294967296 + q2) * (y * 2 ^ s) := by grind
      rw [this, W]; omega
    have R0 : 0 ≤ hi * 18446744073709551616 + lo - (q1 * 4294967296 + q2) * y := by
      have : 0 * 2 ^ s ≤ (hi * 18446744073709551616 + lo - (q1 * 4294967296 + q2) * y) * 2 ^ s := by rw [← R]; omega
      exact Int.le_of_mul_le_mul_right this Pp
    have R1 : hi * 18446744073709551616 + lo - (q1 * 4294967296 + q2) * y < y := by
      have : (hi * 18446744073709551616 + lo - (q1 * 4294967296 + q2) * y) * 2 ^ s < y * 2 ^ s := by rw [← R]; omega
      exact Int.lt_of_mul_lt_mul_right this (by omega)
    have Q : (hi * 18446744073709551616 + lo) / y = q1 * 4294967296 + q2 ∧ (hi * 18446744073709551616 + lo) % y = hi * 18446744073709551616 + lo - (q1 * 4294967296 + q2) * y := by
      have h := Int.ediv_emod_unique (a := hi * 18446744073709551616 + lo) (b := y) (q := q1 * 4294967296 + q2) (r := hi * 18446744073709551616 + lo - (q1 * 4294967296 + q2) * y) (by omega)
      exact h.2 ⟨by rw [Int.mul_comm y]; omega, R0, R1⟩
    rw [Q.1, Q.2]
    have fin : divEnd (y * 2 ^ s) s q1 w (z % 4294967296) q2 = (q1 * 4294967296 + q2, hi * 18446744073709551616 + lo - (q1 * 4294967296 + q2) * y) := by
      unfold divEnd
      have e3 : IntKind.u64.wrap ((IntKind.u64.wrap ((IntKind.u64.wrap (w * 4294967296)) + z % 4294967296)) - (IntKind.u64.wrap (q2 * (y * 2 ^ s)))) = w * 4294967296 + z % 4294967296 - q2 * (y * 2 ^ s) := by
        simp only [wrap_u]; omega
      rw [e3, R, wrap_u_in (n := q1 * 4294967296) (by omega) (by omega), wrap_u_in (by omega) (by omega)]
      unfold shr
      rw [t1, Nat.min_eq_left (show s ≤ IntKind.u64.bits by show s ≤ 64; omega), Int.mul_ediv_cancel _ (by omega)]
    have st := D2.start
    refine Ev.intro (m1 + m2 + 1 + 1) fun k => ?_
    rw [show k + (m1 + m2 + 1 + 1) = (k + m1 + m2 + 1) + 1 by omega, fe, show k + m1 + m2 + 1 + 1 = (k + m2 + 1 + 1) + m1 by omega, e1]
    simp only [bits_Div64.j2]
    rw [if_neg (by omega), u2, Int.tdiv_eq_ediv_of_nonneg (by omega)]
    have s0 := st.ge; have s1 := st.le; have s2 := st.r0; have s3 := st.r1
    have v1 : 2147483648 ≤ y * 2 ^ s / 4294967296 := by omega
    have qm0 : 0 ≤ w / (y * 2 ^ s / 4294967296) * (y * 2 ^ s / 4294967296) := Int.mul_nonneg (by omega) (by omega)
    rw [wrap_u_in (n := w / (y * 2 ^ s / 4294967296)) (by omega) (by omega), wrap_u_in (n := _ * _) qm0 (by omega), wrap_u_in (n := w - _) (by omega) (by omega)]
    rw [show k + m2 + 1 = (k + 1) + m2 by omega, e2, fin]
end Go.Proofs.Ytmlkpadlafjfeaa.P

/- fixed.MulDiv and its kin, in plain arithmetic. -/
set_option linter.unusedVariables false
set_option linter.unusedSimpArgs false
namespace Go.Proofs.Ytmlkpadlafjfeaa.P
open Go Go.RowKit Go.Proofs.YtmlkpadlafjfeaaW.PrintWords Go.Proofs.YtmlkpadlafjfeaaW.PrintLast Go.Proofs.YtmlkpadlafjfeaaW.PrintMore

def absI (n : Int) : Int := if n < 0 then -n else n
theorem absI_nonneg (n : Int) : 0 ≤ absI n := by unfold absI; split <;> omega
theorem absI_nat (n : Int) : absI n = (n.natAbs : Int) := by unfold absI; split <;> omega
theorem absI_mul (a b : Int) : absI (a * b) = absI a * absI b := by rw [absI_nat, absI_nat, absI_nat, Int.natAbs_mul]; simp
def I64 (n : Int) : Prop := -9223372036854775808 ≤ n ∧ n ≤ 9223372036854775807
theorem absI_le {n : Int} (h : I64 n) : absI n ≤ 9223372036854775808 := by unfold absI; obtain ⟨h0, h1⟩ := h; split <;> omega

theorem size_f {n : Int} (h : I64 n) : fixed_size.f n = some (absI n) := by
  obtain ⟨h0, h1⟩ := h
  unfold fixed_size.f absI
  split
  · congr 1; rw [wrap_u, wrap_u]; omega
  · congr 1; exact wrap_u_in (by omega) (by omega)
theorem times_f {a b : Int} (ha : I64 a) (hb : I64 b) :
    fixed_times.f a b = some (absI a * absI b / 18446744073709551616, absI a * absI b % 18446744073709551616, ((decide (a < 0)) != (decide (b < 0)))) := by
  unfold fixed_times.f
  have a1 := absI_le ha; have b1 := absI_le hb
  rw [size_f ha, size_f hb]; simp only [Option.bind_some]
  rw [mul64 _ _ (absI_nonneg a) (by omega) (absI_nonneg b) (by omega)]; rfl

/-- The nearest of n by d, halves up: n from 0 on, d above 0. -/
def nearest (n d : Int) : Int := (2 * n + d) / (2 * d)
theorem nearest_eq (n d : Int) (hd : 0 < d) : nearest n d = if 2 * (n % d) ≥ d then n / d + 1 else n / d := by
  unfold nearest
  have e := Int.emod_add_mul_ediv n d
  have r0 := Int.emod_nonneg n (show d ≠ 0 by omega)
  have r1 := Int.emod_lt_of_pos n hd
  generalize n % d = r at *
  generalize n / d = q at *
  subst e
  have : (2 * (r + d * q) + d) = (2 * r + d) + q * (2 * d) := by grind
  rw [this, Int.add_mul_ediv_right _ _ (by omega)]
  split
  · have : (2 * r + d) / (2 * d) = 1 := by
      rw [Int.ediv_eq_iff_of_pos (by omega)]; omega
    omega
  · have : (2 * r + d) / (2 * d) = 0 := Int.ediv_eq_zero_of_lt (by omega) (by omega)
    omega

def mulDneg (a b c : Int) : Bool := ((decide (a < 0)) != (decide (b < 0))) != (decide (c < 0))
/-- What fixed.MulDiv answers. -/
def mulD (a b c : Int) : Int × Int :=
  if c = 0 then (0, 14) else
  if nearest (absI a * absI b) (absI c) > 2147483647 then (0, 14) else
  if mulDneg a b c = true then (-(nearest (absI a * absI b) (absI c)), 0) else (nearest (absI a * absI b) (absI c), 0)

theorem nearest_nonneg {n d : Int} (h0 : 0 ≤ n) (hd : 0 < d) : 0 ≤ nearest n d := by unfold nearest; exact Int.ediv_nonneg (by omega) (by omega)

theorem mulDiv_j2 {c q : Int} (h0 : 0 ≤ q) (hq : q < 18446744073709551616) (x y : Int) (m : Bool) (k : Nat) :
    fixed_MulDiv.j2 (k + 1) c q x y m = some (if q > 2147483647 then (0, 14) else if (m != decide (c < 0)) = true then (-q, 0) else (q, 0)) := by
  simp only [fixed_MulDiv.j2]
  split
  · rfl
  · rename_i h
    rw [wrap64_in' (n := q) (by omega) (by omega), wrap64_in' (n := -q) (by omega) (by omega)]
    split <;> rfl

theorem mulDiv_ev {a b c : Int} (ha : I64 a) (hb : I64 b) (hc : I64 c) : Ev (fun k => fixed_MulDiv.f k a b c) (mulD a b c) := by
  unfold fixed_MulDiv.f
  rw [times_f ha hb, size_f hc]; simp only [Option.bind_some]
  unfold mulD
  have a0 := absI_nonneg a; have b0 := absI_nonneg b
  have n0 : 0 ≤ absI a * absI b := Int.mul_nonneg a0 b0
  have n1 : absI a * absI b ≤ 9223372036854775808 * 9223372036854775808 := mul_lt_of a0 b0 (absI_le ha) (absI_le hb)
  by_cases hz : c = 0
  · simp only [if_pos hz]
    exact Ev.intro 1 fun k => by simp only [fixed_MulDiv.j0]; rfl
  · simp only [if_neg hz]
    have d0 : 0 < absI c := by unfold absI; split <;> omega
    have d1 := absI_le hc
    have hn : ((((decide (a < 0)) != (decide (b < 0))) != (decide (c < 0))) = true) = (mulDneg a b c = true) := rfl
    generalize hm : ((decide (a < 0)) != (decide (b < 0))) = m
    rw [hm] at hn
    generalize absI a * absI b = n at *
    generalize absI c = d at *
    have q0 := nearest_nonneg n0 d0
    by_cases hh : n / 18446744073709551616 ≥ d
    · have big : nearest n d > 2147483647 := by
        have : 18446744073709551616 * d ≤ n := by omega
        have h1 : 2147483648 * (2 * d) ≤ 2 * n + d := by omega
        have : 2147483648 ≤ nearest n d := by unfold nearest; exact Int.le_ediv_of_mul_le (by omega) h1
        omega
      rw [if_pos big]
      exact Ev.intro 1 fun k => by simp only [fixed_MulDiv.j0, decide_eq_true hh]; rfl
    · have e := div64 (n / 18446744073709551616) (n % 18446744073709551616) d (by omega) (by omega) (by omega) (by omega) (by omega)
      have en : n / 18446744073709551616 * 18446744073709551616 + n % 18446744073709551616 = n := by omega
      rw [en] at e
      have ne := nearest_eq n d d0
      have r0 := Int.emod_nonneg n (show d ≠ 0 by omega)
      have r1 := Int.emod_lt_of_pos n d0
      have t0 : 0 ≤ n / d := Int.ediv_nonneg n0 (by omega)
      have t1 : n / d < 18446744073709551616 := Int.ediv_lt_of_lt_mul d0 (by omega)
      refine Ev.shift 1 (f := fun k => fixed_MulDiv.j0 (k + 1) c d (decide (n / 18446744073709551616 ≥ d)) (n / 18446744073709551616) (n % 18446744073709551616) m) (fun k => rfl) ?_
      simp only [fixed_MulDiv.j0]
      rw [decide_eq_false hh]
      simp only [Bool.false_eq_true, if_false]
      refine Ev.bind e ?_
      rw [wrap_u_in (n := d - n % d) (by omega) (by omega)]
      by_cases h2 : n % d ≥ d - n % d
      · simp only [if_pos h2]
        rw [if_pos (show 2 * (n % d) ≥ d by omega)] at ne
        by_cases h3 : n / d ≤ 2147483647
        · refine Ev.intro 2 fun k => ?_
          simp only [decide_eq_true h3]
          rw [show k + 2 = (k + 1) + 1 from rfl]; simp only [fixed_MulDiv.j1, if_true]
          rw [wrap_u_in (n := n / d + 1) (by omega) (by omega), mulDiv_j2 (by omega) (by omega), ← ne]
          simp only [hn]
        · refine Ev.intro 2 fun k => ?_
          simp only [decide_eq_false h3]
          rw [show k + 2 = (k + 1) + 1 from rfl]; simp only [fixed_MulDiv.j1, Bool.false_eq_true, if_false]
          rw [mulDiv_j2 t0 t1, if_pos (by omega), if_pos (by omega)]
      · simp only [if_neg h2]
        rw [if_neg (show ¬ 2 * (n % d) ≥ d by omega)] at ne
        refine Ev.intro 2 fun k => ?_
        rw [show k + 2 = (k + 1) + 1 from rfl]; simp only [fixed_MulDiv.j1, Bool.false_eq_true, if_false]
        rw [mulDiv_j2 t0 t1, ← ne]
        simp only [hn]
end Go.Proofs.Ytmlkpadlafjfeaa.P

/- The points of lines and curves, in plain numbers: what path.near, middle, bend, parts, quad and cubic answer for coordinates within the limit. -/
set_option linter.unusedVariables false
set_option linter.unusedSimpArgs false
namespace Go.Proofs.Ytmlkpadlafjfeaa.P
open Go Go.RowKit Go.Proofs.YtmlkpadlafjfeaaW.PrintWords Go.Proofs.YtmlkpadlafjfeaaW.PrintLast Go.Proofs.YtmlkpadlafjfeaaW.PrintMore

theorem w64 {n : Int} (h0 : -9223372036854775808 ≤ n) (h1 : n ≤ 9223372036854775807) : wrap64 n = n := by unfold wrap64; omega
theorem nx64 {i : Nat} (h : i ≤ 9000000000000000000) : wrap64 ((i : Int) + 1) = ((i + 1 : Nat) : Int) := by rw [w64 (by omega) (by omega)]; omega
theorem rd40 {l : List S40} {i : Nat} (h : i < l.length) : rd_T40 l (i : Int) = l[i] := by unfold rd_T40; rw [Int.toNat_natCast, List.getD_eq_getElem?_getD, List.getElem?_eq_getElem h]; rfl
theorem rd35 {l : List S35} {i : Nat} (h : i < l.length) : rd_T35 l (i : Int) = l[i] := by unfold rd_T35; rw [Int.toNat_natCast, List.getD_eq_getElem?_getD, List.getElem?_eq_getElem h]; rfl
theorem Ev.to {α : Type} {g : Nat → Option α} {r r' : α} (h : Ev g r) (e : r = r') : Ev g r' := e ▸ h
def fixB (n : Int) : Prop := -2147483647 ≤ n ∧ n ≤ 2147483647
/-- n's size is A at most. -/
def Bd (n A : Int) : Prop := -A ≤ n ∧ n ≤ A
theorem Bd.add {a b A B : Int} (h : Bd a A) (h' : Bd b B) : Bd (a + b) (A + B) := by unfold Bd at *; omega
theorem Bd.mul {a A j : Int} (h : Bd a A) (hj : 0 ≤ j) : Bd (a * j) (A * j) := by
  refine ⟨?_, Int.mul_le_mul_of_nonneg_right h.2 hj⟩
  rw [← Int.neg_mul]
  exact Int.mul_le_mul_of_nonneg_right h.1 hj
theorem Bd.wide {a A B : Int} (h : Bd a A) (hb : A ≤ B) : Bd a B := by unfold Bd at *; omega
theorem Bd.mulc {a A j : Int} (J : Int) (h : Bd a A) (hA : 0 ≤ A) (hj : 0 ≤ j) (hJ : j ≤ J) : Bd (a * j) (A * J) := (h.mul hj).wide (Int.mul_le_mul_of_nonneg_left hJ hA)
theorem Bd.w {a A : Int} (h : Bd a A) (hA : A ≤ 9223372036854775807) : wrap64 a = a := w64 (by have := h.1; omega) (by have := h.2; omega)

/-- The nearest of a by b, halves away from 0. -/
def nearV (a b : Int) : Int := if a < 0 then -nearest (-a) b else nearest a b
theorem nearest_le {n d M : Int} (hd : 0 < d) (h : n ≤ M * d) (hM : 0 ≤ M) : nearest n d ≤ M := by
  unfold nearest
  have : (2 * n + d) / (2 * d) < M + 1 := Int.ediv_lt_of_lt_mul (by omega) (by rw [Int.add_mul, Int.one_mul, show M * (2 * d) = 2 * (M * d) by rw [Int.mul_left_comm]]; omega)
  omega
theorem nearV_fix {a b : Int} (hb : 0 < b) (h : Bd a (2147483647 * b)) : fixB (nearV a b) := by
  unfold nearV
  split
  · have := nearest_le hb (n := -a) (M := 2147483647) (by have := h.1; omega) (by omega)
    have := nearest_nonneg (n := -a) (d := b) (by omega) hb
    unfold fixB; omega
  · have := nearest_le hb (n := a) (M := 2147483647) h.2 (by omega)
    have := nearest_nonneg (n := a) (d := b) (by omega) hb
    unfold fixB; omega
theorem near_ev {a b : Int} (hb : 0 < b) (hb1 : b ≤ 4294967296) (h : Bd a (2147483647 * b)) : Ev (fun k => path_near.f k a b) (nearV a b) := by
  unfold path_near.f
  have h0 := h.1; have h1 := h.2
  refine Ev.bind (mulDiv_ev (a := a) (b := 1) (c := b) (by unfold I64; omega) (by unfold I64; omega) (by unfold I64; omega)) ?_
  have e1 : absI 1 = 1 := by decide
  have eb : absI b = b := by unfold absI; rw [if_neg (by omega)]
  have ea : absI a = if a < 0 then -a else a := rfl
  unfold mulD
  rw [if_neg (by omega), e1, eb, Int.mul_one]
  have lm : nearest (absI a) b ≤ 2147483647 := nearest_le hb (by unfold absI; split <;> omega) (by omega)
  rw [if_neg (by omega)]
  unfold mulDneg nearV
  by_cases c : a < 0
  · rw [decide_eq_true c, decide_eq_false (show ¬ (1 : Int) < 0 by omega), decide_eq_false (show ¬ b < 0 by omega), if_pos c, ea, if_pos c]
    exact Ev.now _
  · rw [decide_eq_false c, decide_eq_false (show ¬ (1 : Int) < 0 by omega), decide_eq_false (show ¬ b < 0 by omega), if_neg c, ea, if_neg c]
    exact Ev.now _
theorem nearest_mul {a b : Int} (hb : 0 < b) : nearest (a * b) b = a := by
  unfold nearest
  rw [Int.ediv_eq_iff_of_pos (by omega)]
  have e1 : a * (2 * b) = 2 * (a * b) := by rw [Int.mul_left_comm]
  constructor
  · rw [e1]; omega
  · rw [e1]; omega
theorem nearV_mul {a b : Int} (hb : 0 < b) : nearV (a * b) b = a := by
  unfold nearV
  split
  · rw [← Int.neg_mul, nearest_mul hb]; omega
  · exact nearest_mul hb
/-- Within the limit: a knot, a point. -/
def fix40 (x : S40) : Prop := fixB x.f0 ∧ fixB x.f1
def fix35 (x : S35) : Prop := fixB x.f0 ∧ fixB x.f1
def sp (x : S40) : S35 := ⟨x.f0, x.f1⟩
theorem sp_fix {x : S40} (h : fix40 x) : fix35 (sp x) := h
def midV (a b : S40) : S35 := ⟨nearV (a.f0 + b.f0) 2, nearV (a.f1 + b.f1) 2⟩
theorem mid_fix {a b : S40} (ha : fix40 a) (hb : fix40 b) : fix35 (midV a b) := by
  obtain ⟨⟨a0, a1⟩, a2, a3⟩ := ha
  obtain ⟨⟨b0, b1⟩, b2, b3⟩ := hb
  exact ⟨nearV_fix (by omega) ⟨by omega, by omega⟩, nearV_fix (by omega) ⟨by omega, by omega⟩⟩
theorem mid_ev {a b : S40} (ha : fix40 a) (hb : fix40 b) : Ev (fun k => path_middle.f k a.f0 a.f1 a.f2 b.f0 b.f1 b.f2) ((midV a b).f0, (midV a b).f1) := by
  obtain ⟨⟨a0, a1⟩, a2, a3⟩ := ha
  obtain ⟨⟨b0, b1⟩, b2, b3⟩ := hb
  unfold path_middle.f
  rw [w64 (n := a.f0 + b.f0) (by omega) (by omega), w64 (n := a.f1 + b.f1) (by omega) (by omega)]
  exact Ev.bind (near_ev (by omega) (by omega) ⟨by omega, by omega⟩) (Ev.bind (near_ev (by omega) (by omega) ⟨by omega, by omega⟩) (Ev.now _))
theorem size_abs {n : Int} (h : Bd n 9000000000000000000) : path_size.f n = some (absI n) := by
  unfold path_size.f
  have h0 := h.1; have h1 := h.2
  rw [w64 (n := -n) (by omega) (by omega)]
  unfold mx absI
  congr 1
  split <;> split <;> omega
def bendV (a b c : S35) : Int := absI (a.f0 - 2 * b.f0 + c.f0) + absI (a.f1 - 2 * b.f1 + c.f1)
theorem absI_b {n A : Int} (h : Bd n A) : 0 ≤ absI n ∧ absI n ≤ A := by unfold absI; unfold Bd at h; split <;> omega
theorem bend_b {a b c : S35} (ha : fix35 a) (hb : fix35 b) (hc : fix35 c) : 0 ≤ bendV a b c ∧ bendV a b c ≤ 17179869176 := by
  obtain ⟨⟨a0, a1⟩, a2, a3⟩ := ha
  obtain ⟨⟨b0, b1⟩, b2, b3⟩ := hb
  obtain ⟨⟨c0, c1⟩, c2, c3⟩ := hc
  have h1 := absI_b (n := a.f0 - 2 * b.f0 + c.f0) (A := 8589934588) ⟨by omega, by omega⟩
  have h2 := absI_b (n := a.f1 - 2 * b.f1 + c.f1) (A := 8589934588) ⟨by omega, by omega⟩
  unfold bendV; omega
theorem bend_f {a b c : S35} (ha : fix35 a) (hb : fix35 b) (hc : fix35 c) : path_bend.f a.f0 a.f1 b.f0 b.f1 c.f0 c.f1 = some (bendV a b c) := by
  have hbb := bend_b ha hb hc
  obtain ⟨⟨a0, a1⟩, a2, a3⟩ := ha
  obtain ⟨⟨b0, b1⟩, b2, b3⟩ := hb
  obtain ⟨⟨c0, c1⟩, c2, c3⟩ := hc
  unfold path_bend.f
  rw [w64 (n := 2 * b.f0) (by omega) (by omega), w64 (n := 2 * b.f1) (by omega) (by omega), w64 (n := a.f0 - 2 * b.f0) (by omega) (by omega), w64 (n := a.f1 - 2 * b.f1) (by omega) (by omega), w64 (n := a.f0 - 2 * b.f0 + c.f0) (by omega) (by omega), w64 (n := a.f1 - 2 * b.f1 + c.f1) (by omega) (by omega)]
  rw [size_abs ⟨by omega, by omega⟩, Option.bind_some, size_abs ⟨by omega, by omega⟩, Option.bind_some]
  unfold bendV at hbb ⊢
  rw [w64 (by omega) (by omega)]
/-- How many lines stand for a curve that bends so far. -/
def partsV (d : Int) : Nat := if d ≤ 4 then 1 else if d ≤ 16 then 2 else if d ≤ 64 then 4 else if d ≤ 256 then 8 else 16
theorem partsV_in (d : Int) : partsV d = 1 ∨ partsV d = 2 ∨ partsV d = 4 ∨ partsV d = 8 ∨ partsV d = 16 := by
  unfold partsV; repeat' split
  all_goals simp
theorem partsV_pos (d : Int) : 1 ≤ partsV d ∧ partsV d ≤ 16 := by have := partsV_in d; omega
theorem parts_ev (d : Int) : Ev (fun k => path_parts.f k d) (partsV d : Int) := by
  unfold path_parts.f
  refine ⟨5, fun k hk => ?_⟩
  obtain ⟨k, rfl⟩ : ∃ q, k = q + 5 := ⟨k - 5, by omega⟩
  have e1 : wrap64 (wrap64 (4 * 1) * 1) = 4 := by decide +kernel
  have e2 : wrap64 (wrap64 (4 * 2) * 2) = 16 := by decide +kernel
  have e3 : wrap64 (wrap64 (4 * 4) * 4) = 64 := by decide +kernel
  have e4 : wrap64 (wrap64 (4 * 8) * 8) = 256 := by decide +kernel
  have f1 : wrap64 (1 * 2) = 2 := by decide +kernel
  have f2 : wrap64 (2 * 2) = 4 := by decide +kernel
  have f3 : wrap64 (4 * 2) = 8 := by decide +kernel
  have f4 : wrap64 (8 * 2) = 16 := by decide +kernel
  have g (j : Nat) : path_parts.l0 (j + 1) d 16 = some 16 := by simp only [path_parts.l0]; rfl
  unfold partsV
  show path_parts.l0 (k + 4 + 1) d 1 = _
  rw [path_parts.l0, if_pos (by omega), e1, f1]
  by_cases c1 : d ≤ 4
  · rw [if_neg (by omega), if_pos c1]; rfl
  rw [if_pos (by omega), if_neg c1]
  show path_parts.l0 (k + 3 + 1) d 2 = _
  rw [path_parts.l0, if_pos (by omega), e2, f2]
  by_cases c2 : d ≤ 16
  · rw [if_neg (by omega), if_pos c2]; rfl
  rw [if_pos (by omega), if_neg c2]
  show path_parts.l0 (k + 2 + 1) d 4 = _
  rw [path_parts.l0, if_pos (by omega), e3, f3]
  by_cases c3 : d ≤ 64
  · rw [if_neg (by omega), if_pos c3]; rfl
  rw [if_pos (by omega), if_neg c3]
  show path_parts.l0 (k + 1 + 1) d 8 = _
  rw [path_parts.l0, if_pos (by omega), e4, f4]
  by_cases c4 : d ≤ 256
  · rw [if_neg (by omega), if_pos c4]; rfl
  rw [if_pos (by omega), if_neg c4]
  exact g k
/-! curves of one control -/
def q1 (a c b n i : Int) : Int := a * (n - i) * (n - i) + 2 * c * i * (n - i) + b * i * i
theorem q1_bd {a c b n i : Int} (ha : fixB a) (hc : fixB c) (hb : fixB b) (h0 : 0 ≤ i) (h1 : i ≤ n) : Bd (q1 a c b n i) (2147483647 * (n * n)) := by
  unfold q1
  obtain ⟨j, hj⟩ : ∃ j, j = n - i := ⟨_, rfl⟩
  rw [← hj]
  have j0 : 0 ≤ j := by omega
  have A := (show Bd a 2147483647 from ⟨ha.1, ha.2⟩).mul (Int.mul_nonneg j0 j0)
  have C := (show Bd c 2147483647 from ⟨hc.1, hc.2⟩).mul (show 0 ≤ 2 * (i * j) by have := Int.mul_nonneg h0 j0; omega)
  have B := (show Bd b 2147483647 from ⟨hb.1, hb.2⟩).mul (Int.mul_nonneg h0 h0)
  have S := (A.add C).add B
  have e1 : a * j * j + 2 * c * i * j + b * i * i = a * (j * j) + c * (2 * (i * j)) + b * (i * i) := by grind
  have e2 : 2147483647 * (j * j) + 2147483647 * (2 * (i * j)) + 2147483647 * (i * i) = 2147483647 * (n * n) := by
    have : n = i + j := by omega
    subst this; grind
  rw [e1, ← e2]; exact S
theorem qX_q1 {a c b n i : Int} (ha : fixB a) (hc : fixB c) (hb : fixB b) (h0 : 0 ≤ i) (h1 : i ≤ n) (hn : n ≤ 16) : qX a c b n i = q1 a c b n i := by
  unfold qX q1
  obtain ⟨j, hj⟩ : ∃ j, j = n - i := ⟨_, rfl⟩
  rw [← hj]
  have A1 := (show Bd a 2147483647 from ⟨ha.1, ha.2⟩).mulc (j := j) 16 (by omega) (by omega) (by omega)
  have A2 := A1.mulc (j := j) 16 (by omega) (by omega) (by omega)
  have C0 : Bd (2 * c) 4294967294 := ⟨by have := hc.1; omega, by have := hc.2; omega⟩
  have C1 := C0.mulc (j := i) 16 (by omega) (by omega) (by omega)
  have C2 := C1.mulc (j := j) 16 (by omega) (by omega) (by omega)
  have B1 := (show Bd b 2147483647 from ⟨hb.1, hb.2⟩).mulc (j := i) 16 (by omega) (by omega) (by omega)
  have B2 := B1.mulc (j := i) 16 (by omega) (by omega) (by omega)
  rw [A1.w (by decide), A2.w (by decide), C0.w (by decide), C1.w (by decide), C2.w (by decide), B1.w (by decide), B2.w (by decide), (A2.add C2).w (by decide), ((A2.add C2).add B2).w (by decide)]
theorem sq_w {n : Int} (h0 : 0 ≤ n) (hn : n ≤ 16) : wrap64 (n * n) = n * n := ((show Bd n 16 from ⟨by omega, by omega⟩).mulc (j := n) 16 (by omega) h0 hn).w (by decide)
theorem cu_w {n : Int} (h0 : 0 ≤ n) (hn : n ≤ 16) : wrap64 (wrap64 (n * n) * n) = n * n * n := by
  rw [sq_w h0 hn]
  exact (((show Bd n 16 from ⟨by omega, by omega⟩).mulc (j := n) 16 (by omega) h0 hn).mulc (j := n) 16 (by omega) h0 hn).w (by decide)
/-- The i-th point of a curve of one control in n parts. -/
def qP (a c b : S35) (n i : Int) : S35 := ⟨nearV (q1 a.f0 c.f0 b.f0 n i) (n * n), nearV (q1 a.f1 c.f1 b.f1 n i) (n * n)⟩
theorem sq_b {n : Int} (h0 : 1 ≤ n) (hn : n ≤ 16) : 0 < n * n ∧ n * n ≤ 256 := by
  have h1 : 1 * 1 ≤ n * n := Int.mul_le_mul h0 h0 (by omega) (by omega)
  have h2 : n * n ≤ 16 * 16 := Int.mul_le_mul hn hn (by omega) (by omega)
  omega
theorem cu_b {n : Int} (h0 : 1 ≤ n) (hn : n ≤ 16) : 0 < n * n * n ∧ n * n * n ≤ 4096 := by
  have := sq_b h0 hn
  have h1 : 1 * 1 ≤ n * n * n := Int.mul_le_mul (by omega) h0 (by omega) (by omega)
  have h2 : n * n * n ≤ 256 * 16 := Int.mul_le_mul (by omega) hn (by omega) (by omega)
  omega
theorem qP_fix {a c b : S35} {n i : Int} (ha : fix35 a) (hc : fix35 c) (hb : fix35 b) (h0 : 0 ≤ i) (h1 : i ≤ n) (n1 : 1 ≤ n) (hn : n ≤ 16) : fix35 (qP a c b n i) :=
  ⟨nearV_fix (sq_b n1 hn).1 (q1_bd ha.1 hc.1 hb.1 h0 h1), nearV_fix (sq_b n1 hn).1 (q1_bd ha.2 hc.2 hb.2 h0 h1)⟩
theorem qP_end {a c b : S35} {n : Int} (n1 : 1 ≤ n) (hn : n ≤ 16) : qP a c b n n = b := by
  have h (x y z : Int) : q1 x y z n n = z * (n * n) := by unfold q1; rw [Int.sub_self, Int.mul_zero, Int.mul_zero, Int.mul_assoc]; omega
  unfold qP
  rw [h, h, nearV_mul (sq_b n1 hn).1, nearV_mul (sq_b n1 hn).1]
def qPs (a c b : S35) (n : Int) : Nat → Int → List S35
  | 0, _ => []
  | m + 1, i => qP a c b n i :: qPs a c b n m (i + 1)
theorem qL_ev {a c b : S35} {n : Int} (ha : fix35 a) (hc : fix35 c) (hb : fix35 b) (n1 : 1 ≤ n) (hn : n ≤ 16) : ∀ (m : Nat) (i : Int), 0 ≤ i → i + m ≤ n + 1 → Ev (fun k => qL k a.f0 a.f1 c.f0 c.f1 b.f0 b.f1 n m i) (qPs a c b n m i)
  | 0, i, _, _ => Ev.now _
  | m + 1, i, h0, h1 => by
    have hi : i ≤ n := by omega
    simp only [qL, qPs]
    have hs := sq_b n1 hn
    rw [qX_q1 ha.1 hc.1 hb.1 h0 hi hn, qX_q1 ha.2 hc.2 hb.2 h0 hi hn, sq_w (by omega) hn]
    exact Ev.bind (near_ev hs.1 (by omega) (q1_bd ha.1 hc.1 hb.1 h0 hi)) (Ev.bind (near_ev hs.1 (by omega) (q1_bd ha.2 hc.2 hb.2 h0 hi)) (Ev.bind (qL_ev ha hc hb n1 hn m (i + 1) (by omega) (by omega)) (Ev.now _)))
def quadV (a c b : S35) : List S35 := qPs a c b (partsV (bendV a c b)) (partsV (bendV a c b)) 1
theorem quad_ev {a c b : S35} (ha : fix35 a) (hc : fix35 c) (hb : fix35 b) : Ev (fun k => quadF k a.f0 a.f1 c.f0 c.f1 b.f0 b.f1) (quadV a c b) := by
  unfold quadF
  rw [bend_f ha hc hb]
  simp only [Option.bind_some]
  have hp := partsV_pos (bendV a c b)
  refine Ev.bind (parts_ev (bendV a c b)) ?_
  simp only [if_pos (show (0 : Int) ≤ (partsV (bendV a c b) : Int) ∧ (partsV (bendV a c b) : Int) ≤ 100 by omega), Int.toNat_natCast]
  exact qL_ev ha hc hb (by omega) (by omega) _ _ (by omega) (by omega)
theorem qPs_len {a c b : S35} {n : Int} : ∀ (m : Nat) (i : Int), (qPs a c b n m i).length = m
  | 0, _ => rfl
  | m + 1, i => by simp only [qPs, List.length_cons, qPs_len m]
theorem qPs_last {a c b : S35} {n : Int} : ∀ (m : Nat) (i : Int), (qPs a c b n (m + 1) i).getLast? = some (qP a c b n (i + m))
  | 0, i => by simp [qPs]
  | m + 1, i => by
    have h := qPs_last (a := a) (c := c) (b := b) (n := n) m (i + 1)
    rw [qPs]
    have e : qPs a c b n (m + 1) (i + 1) ≠ [] := by simp [qPs]
    rw [List.getLast?_cons, h]
    simp only [Option.getD_some]
    rw [show i + 1 + (m : Int) = i + ((m + 1 : Nat) : Int) by omega]
theorem qPs_fix {a c b : S35} {n : Int} (ha : fix35 a) (hc : fix35 c) (hb : fix35 b) (n1 : 1 ≤ n) (hn : n ≤ 16) : ∀ (m : Nat) (i : Int), 0 ≤ i → i + m ≤ n + 1 → ∀ x ∈ qPs a c b n m i, fix35 x
  | 0, i, _, _ => by simp [qPs]
  | m + 1, i, h0, h1 => by
    intro x hx
    rw [qPs] at hx
    rcases List.mem_cons.1 hx with e | e
    · rw [e]; exact qP_fix ha hc hb h0 (by omega) n1 hn
    · exact qPs_fix ha hc hb n1 hn m (i + 1) (by omega) (by omega) x e
theorem quadV_len (a c b : S35) : 1 ≤ (quadV a c b).length ∧ (quadV a c b).length ≤ 16 := by unfold quadV; rw [qPs_len]; exact partsV_pos _
theorem quadV_last (a c b : S35) : (quadV a c b).getLast? = some b := by
  unfold quadV
  have hp := partsV_pos (bendV a c b)
  generalize partsV (bendV a c b) = n at hp
  obtain ⟨m, rfl⟩ : ∃ m, n = m + 1 := ⟨n - 1, by omega⟩
  rw [qPs_last, show (1 : Int) + (m : Int) = ((m + 1 : Nat) : Int) by omega, qP_end (by omega) (by omega)]
theorem quadV_lastS (a c b : S35) (x y : Int) : lastS x y (quadV a c b) = b := by unfold lastS; rw [quadV_last]; rfl
theorem quadV_fix {a c b : S35} (ha : fix35 a) (hc : fix35 c) (hb : fix35 b) : ∀ x ∈ quadV a c b, fix35 x := by
  have hp := partsV_pos (bendV a c b)
  exact qPs_fix ha hc hb (by omega) (by omega) _ _ (by omega) (by omega)
/-! curves of two controls -/
def c1 (a c d b n i : Int) : Int := a * (n - i) * (n - i) * (n - i) + 3 * c * i * (n - i) * (n - i) + 3 * d * i * i * (n - i) + b * i * i * i
theorem c1_bd {a c d b n i : Int} (ha : fixB a) (hc : fixB c) (hd : fixB d) (hb : fixB b) (h0 : 0 ≤ i) (h1 : i ≤ n) : Bd (c1 a c d b n i) (2147483647 * (n * n * n)) := by
  unfold c1
  obtain ⟨j, hj⟩ : ∃ j, j = n - i := ⟨_, rfl⟩
  rw [← hj]
  have j0 : 0 ≤ j := by omega
  have ij := Int.mul_nonneg h0 j0
  have A := (show Bd a 2147483647 from ⟨ha.1, ha.2⟩).mul (Int.mul_nonneg (Int.mul_nonneg j0 j0) j0)
  have C := (show Bd c 2147483647 from ⟨hc.1, hc.2⟩).mul (show 0 ≤ 3 * (i * j * j) by have := Int.mul_nonneg ij j0; omega)
  have D := (show Bd d 2147483647 from ⟨hd.1, hd.2⟩).mul (show 0 ≤ 3 * (i * j * i) by have := Int.mul_nonneg ij h0; omega)
  have B := (show Bd b 2147483647 from ⟨hb.1, hb.2⟩).mul (Int.mul_nonneg (Int.mul_nonneg h0 h0) h0)
  have S := ((A.add C).add D).add B
  have e1 : a * j * j * j + 3 * c * i * j * j + 3 * d * i * i * j + b * i * i * i = a * (j * j * j) + c * (3 * (i * j * j)) + d * (3 * (i * j * i)) + b * (i * i * i) := by grind
  have e2 : 2147483647 * (j * j * j) + 2147483647 * (3 * (i * j * j)) + 2147483647 * (3 * (i * j * i)) + 2147483647 * (i * i * i) = 2147483647 * (n * n * n) := by
    have : n = i + j := by omega
    subst this; grind
  rw [e1, ← e2]; exact S
theorem cXj_c1 {a c d b n i : Int} (ha : fixB a) (hc : fixB c) (hd : fixB d) (hb : fixB b) (h0 : 0 ≤ i) (h1 : i ≤ n) (hn : n ≤ 16) : cXj a c d b i (n - i) = c1 a c d b n i := by
  unfold cXj c1
  obtain ⟨j, hj⟩ : ∃ j, j = n - i := ⟨_, rfl⟩
  rw [← hj]
  have A1 := (show Bd a 2147483647 from ⟨ha.1, ha.2⟩).mulc (j := j) 16 (by omega) (by omega) (by omega)
  have A2 := A1.mulc (j := j) 16 (by omega) (by omega) (by omega)
  have A3 := A2.mulc (j := j) 16 (by omega) (by omega) (by omega)
  have C0 : Bd (3 * c) 6442450941 := ⟨by have := hc.1; omega, by have := hc.2; omega⟩
  have C1 := C0.mulc (j := i) 16 (by omega) (by omega) (by omega)
  have C2 := C1.mulc (j := j) 16 (by omega) (by omega) (by omega)
  have C3 := C2.mulc (j := j) 16 (by omega) (by omega) (by omega)
  have D0 : Bd (3 * d) 6442450941 := ⟨by have := hd.1; omega, by have := hd.2; omega⟩
  have D1 := D0.mulc (j := i) 16 (by omega) (by omega) (by omega)
  have D2 := D1.mulc (j := i) 16 (by omega) (by omega) (by omega)
  have D3 := D2.mulc (j := j) 16 (by omega) (by omega) (by omega)
  have B1 := (show Bd b 2147483647 from ⟨hb.1, hb.2⟩).mulc (j := i) 16 (by omega) (by omega) (by omega)
  have B2 := B1.mulc (j := i) 16 (by omega) (by omega) (by omega)
  have B3 := B2.mulc (j := i) 16 (by omega) (by omega) (by omega)
  rw [A1.w (by decide), A2.w (by decide), A3.w (by decide), C0.w (by decide), C1.w (by decide), C2.w (by decide), C3.w (by decide), D0.w (by decide), D1.w (by decide), D2.w (by decide), D3.w (by decide), B1.w (by decide), B2.w (by decide), B3.w (by decide), (A3.add C3).w (by decide), ((A3.add C3).add D3).w (by decide), (((A3.add C3).add D3).add B3).w (by decide)]
def cP (a c d b : S35) (n i : Int) : S35 := ⟨nearV (c1 a.f0 c.f0 d.f0 b.f0 n i) (n * n * n), nearV (c1 a.f1 c.f1 d.f1 b.f1 n i) (n * n * n)⟩
theorem cP_fix {a c d b : S35} {n i : Int} (ha : fix35 a) (hc : fix35 c) (hd : fix35 d) (hb : fix35 b) (h0 : 0 ≤ i) (h1 : i ≤ n) (n1 : 1 ≤ n) (hn : n ≤ 16) : fix35 (cP a c d b n i) :=
  ⟨nearV_fix (cu_b n1 hn).1 (c1_bd ha.1 hc.1 hd.1 hb.1 h0 h1), nearV_fix (cu_b n1 hn).1 (c1_bd ha.2 hc.2 hd.2 hb.2 h0 h1)⟩
theorem cP_end {a c d b : S35} {n : Int} (n1 : 1 ≤ n) (hn : n ≤ 16) : cP a c d b n n = b := by
  have h (x y z t : Int) : c1 x y z t n n = t * (n * n * n) := by
    have e : t * n * n * n = t * (n * n * n) := by grind
    unfold c1; rw [Int.sub_self, Int.mul_zero, Int.mul_zero, Int.mul_zero]; omega
  unfold cP
  rw [h, h, nearV_mul (cu_b n1 hn).1, nearV_mul (cu_b n1 hn).1]
def cPs (a c d b : S35) (n : Int) : Nat → Int → List S35
  | 0, _ => []
  | m + 1, i => cP a c d b n i :: cPs a c d b n m (i + 1)
theorem cL_ev {a c d b : S35} {n : Int} (ha : fix35 a) (hc : fix35 c) (hd : fix35 d) (hb : fix35 b) (n1 : 1 ≤ n) (hn : n ≤ 16) : ∀ (m : Nat) (i : Int), 0 ≤ i → i + m ≤ n + 1 → Ev (fun k => cL k a.f0 a.f1 c.f0 c.f1 d.f0 d.f1 b.f0 b.f1 n m i) (cPs a c d b n m i)
  | 0, i, _, _ => Ev.now _
  | m + 1, i, h0, h1 => by
    have hi : i ≤ n := by omega
    simp only [cL, cPs]
    have hs := cu_b n1 hn
    rw [cXj_c1 ha.1 hc.1 hd.1 hb.1 h0 hi hn, cXj_c1 ha.2 hc.2 hd.2 hb.2 h0 hi hn, cu_w (by omega) hn]
    exact Ev.bind (near_ev hs.1 (by omega) (c1_bd ha.1 hc.1 hd.1 hb.1 h0 hi)) (Ev.bind (near_ev hs.1 (by omega) (c1_bd ha.2 hc.2 hd.2 hb.2 h0 hi)) (Ev.bind (cL_ev ha hc hd hb n1 hn m (i + 1) (by omega) (by omega)) (Ev.now _)))
def cubicV (a c d b : S35) : List S35 := cPs a c d b (partsV (bendV a c d + bendV c d b)) (partsV (bendV a c d + bendV c d b)) 1
theorem cubic_ev {a c d b : S35} (ha : fix35 a) (hc : fix35 c) (hd : fix35 d) (hb : fix35 b) : Ev (fun k => cubicF k a.f0 a.f1 c.f0 c.f1 d.f0 d.f1 b.f0 b.f1) (cubicV a c d b) := by
  unfold cubicF
  rw [bend_f ha hc hd, bend_f hc hd hb]
  simp only [Option.bind_some]
  have b1 := bend_b ha hc hd
  have b2 := bend_b hc hd hb
  rw [w64 (n := bendV a c d + bendV c d b) (by omega) (by omega)]
  have hp := partsV_pos (bendV a c d + bendV c d b)
  refine Ev.bind (parts_ev (bendV a c d + bendV c d b)) ?_
  simp only [if_pos (show (0 : Int) ≤ (partsV (bendV a c d + bendV c d b) : Int) ∧ (partsV (bendV a c d + bendV c d b) : Int) ≤ 100 by omega), Int.toNat_natCast]
  exact cL_ev ha hc hd hb (by omega) (by omega) _ _ (by omega) (by omega)
theorem cPs_len {a c d b : S35} {n : Int} : ∀ (m : Nat) (i : Int), (cPs a c d b n m i).length = m
  | 0, _ => rfl
  | m + 1, i => by simp only [cPs, List.length_cons, cPs_len m]
theorem cPs_last {a c d b : S35} {n : Int} : ∀ (m : Nat) (i : Int), (cPs a c d b n (m + 1) i).getLast? = some (cP a c d b n (i + m))
  | 0, i => by simp [cPs]
  | m + 1, i => by
    have h := cPs_last (a := a) (c := c) (d := d) (b := b) (n := n) m (i + 1)
    rw [cPs, List.getLast?_cons, h]
    simp only [Option.getD_some]
    rw [show i + 1 + (m : Int) = i + ((m + 1 : Nat) : Int) by omega]
theorem cPs_fix {a c d b : S35} {n : Int} (ha : fix35 a) (hc : fix35 c) (hd : fix35 d) (hb : fix35 b) (n1 : 1 ≤ n) (hn : n ≤ 16) : ∀ (m : Nat) (i : Int), 0 ≤ i → i + m ≤ n + 1 → ∀ x ∈ cPs a c d b n m i, fix35 x
  | 0, i, _, _ => by simp [cPs]
  | m + 1, i, h0, h1 => by
    intro x hx
    rw [cPs] at hx
    rcases List.mem_cons.1 hx with e | e
    · rw [e]; exact cP_fix ha hc hd hb h0 (by omega) n1 hn
    · exact cPs_fix ha hc hd hb n1 hn m (i + 1) (by omega) (by omega) x e
theorem cubicV_len (a c d b : S35) : 1 ≤ (cubicV a c d b).length ∧ (cubicV a c d b).length ≤ 16 := by unfold cubicV; rw [cPs_len]; exact partsV_pos _
theorem cubicV_last (a c d b : S35) : (cubicV a c d b).getLast? = some b := by
  unfold cubicV
  have hp := partsV_pos (bendV a c d + bendV c d b)
  generalize partsV (bendV a c d + bendV c d b) = n at hp
  obtain ⟨m, rfl⟩ : ∃ m, n = m + 1 := ⟨n - 1, by omega⟩
  rw [cPs_last, show (1 : Int) + (m : Int) = ((m + 1 : Nat) : Int) by omega, cP_end (by omega) (by omega)]
theorem cubicV_lastS (a c d b : S35) (x y : Int) : lastS x y (cubicV a c d b) = b := by unfold lastS; rw [cubicV_last]; rfl
theorem cubicV_fix {a c d b : S35} (ha : fix35 a) (hc : fix35 c) (hd : fix35 d) (hb : fix35 b) : ∀ x ∈ cubicV a c d b, fix35 x := by
  have hp := partsV_pos (bendV a c d + bendV c d b)
  exact cPs_fix ha hc hd hb (by omega) (by omega) _ _ (by omega) (by omega)
end Go.Proofs.Ytmlkpadlafjfeaa.P

/- A contour's polygon, in plain lists: what path.round and path.contour answer. -/
set_option linter.unusedVariables false
set_option linter.unusedSimpArgs false
namespace Go.Proofs.Ytmlkpadlafjfeaa.P
open Go Go.RowKit Go.Proofs.YtmlkpadlafjfeaaW.PrintWords Go.Proofs.YtmlkpadlafjfeaaW.PrintLast Go.Proofs.YtmlkpadlafjfeaaW.PrintMore

/-- A knot of a right kind, within the limit. -/
def okK (x : S40) : Prop := 1 ≤ x.f2 ∧ x.f2 ≤ 3 ∧ fix40 x
def pre35 (p : List S35) : Option (List S35 × Bool) → Option (List S35 × Bool)
  | none => none
  | some r => some (p ++ r.1, r.2)
/-- The points drawn from a place on, and whether a curve closed the contour; none: the knots make no curves. -/
def ctW (s : S35) : Nat → List S40 → S35 → Option (List S35 × Bool)
  | 0, _, _ => some ([], false)
  | m + 1, [], now => some ([], false)
  | m + 1, k :: r, now =>
    if k.f2 = 1 then pre35 [sp k] (ctW s m r (sp k))
    else if k.f2 = 2 then
      match r with
      | [] => some (quadV now (sp k) s, true)
      | h :: r' => if h.f2 = 2 then pre35 (quadV now (sp k) (midV k h)) (ctW s m r (midV k h))
        else if h.f2 = 3 then none
        else pre35 (quadV now (sp k) (sp h)) (ctW s m r' (sp h))
    else
      match r with
      | [] => none
      | [h] => if h.f2 = 3 then some (cubicV now (sp k) (sp h) s, true) else none
      | h :: e :: r' => if h.f2 = 3 then (if e.f2 = 3 then none else if e.f2 = 2 then none else pre35 (cubicV now (sp k) (sp h) (sp e)) (ctW s m r' (sp e))) else none
theorem ctW_nil (s : S35) (m : Nat) (now : S35) : ctW s m [] now = some ([], false) := by cases m <;> rfl
theorem ctW_on {s now : S35} {m : Nat} {k : S40} {r : List S40} (h : k.f2 = 1) : ctW s (m + 1) (k :: r) now = pre35 [sp k] (ctW s m r (sp k)) := by
  conv => lhs; unfold ctW
  simp only [if_pos h]
theorem ctW_q0 {s now : S35} {m : Nat} {k : S40} (h : k.f2 = 2) : ctW s (m + 1) [k] now = some (quadV now (sp k) s, true) := by
  conv => lhs; unfold ctW
  simp only [if_pos h, if_neg (show ¬ k.f2 = 1 by omega)]
theorem ctW_q1 {s now : S35} {m : Nat} {k h : S40} {r : List S40} (e : k.f2 = 2) : ctW s (m + 1) (k :: h :: r) now = if h.f2 = 2 then pre35 (quadV now (sp k) (midV k h)) (ctW s m (h :: r) (midV k h)) else if h.f2 = 3 then none else pre35 (quadV now (sp k) (sp h)) (ctW s m r (sp h)) := by
  conv => lhs; unfold ctW
  simp only [if_pos e, if_neg (show ¬ k.f2 = 1 by omega)]
theorem ctW_c0 {s now : S35} {m : Nat} {k : S40} (h1 : k.f2 ≠ 1) (h2 : k.f2 ≠ 2) : ctW s (m + 1) [k] now = none := by
  conv => lhs; unfold ctW
  simp only [if_neg h1, if_neg h2]
theorem ctW_c1 {s now : S35} {m : Nat} {k h : S40} (h1 : k.f2 ≠ 1) (h2 : k.f2 ≠ 2) : ctW s (m + 1) [k, h] now = if h.f2 = 3 then some (cubicV now (sp k) (sp h) s, true) else none := by
  conv => lhs; unfold ctW
  simp only [if_neg h1, if_neg h2]
theorem ctW_c2 {s now : S35} {m : Nat} {k h e : S40} {r : List S40} (h1 : k.f2 ≠ 1) (h2 : k.f2 ≠ 2) : ctW s (m + 1) (k :: h :: e :: r) now = if h.f2 = 3 then (if e.f2 = 3 then none else if e.f2 = 2 then none else pre35 (cubicV now (sp k) (sp h) (sp e)) (ctW s m r (sp e))) else none := by
  conv => lhs; unfold ctW
  simp only [if_neg h1, if_neg h2]
def clos (out : List S35) (cl : Bool) : List S35 := if cl = true ∧ 1 < out.length then out.take (out.length - 1) else out
def endC (out : List S35) : Option (List S35 × Bool) → List S35 × Bool
  | none => ([], false)
  | some r => (clos (out ++ r.1) r.2, true)
theorem endC_pre (out p : List S35) (r : Option (List S35 × Bool)) : endC out (pre35 p r) = endC (out ++ p) r := by
  cases r with
  | none => rfl
  | some r => simp [pre35, endC]
theorem kdF_at {rest : List S40} {i : Nat} (h : i < rest.length) : kdF rest (i : Int) = rest[i].f2 := by unfold kdF; rw [if_pos (by omega), rd40 h]
theorem kdF_out {rest : List S40} {i : Nat} (h : rest.length ≤ i) : kdF rest (i : Int) = 0 := by unfold kdF; rw [if_neg (by omega)]
theorem quad_evK {a b : S35} {X : S40} (ha : fix35 a) (hc : fix40 X) (hb : fix35 b) : Ev (fun k => quadF k a.f0 a.f1 X.f0 X.f1 b.f0 b.f1) (quadV a (sp X) b) := by
  have h := quad_ev ha (sp_fix hc) hb
  exact h
theorem quad_evKK {a : S35} {X Y : S40} (ha : fix35 a) (hc : fix40 X) (hb : fix40 Y) : Ev (fun k => quadF k a.f0 a.f1 X.f0 X.f1 Y.f0 Y.f1) (quadV a (sp X) (sp Y)) := by
  have h := quad_ev ha (sp_fix hc) (sp_fix hb)
  exact h
theorem cubic_evK {a b : S35} {X Y : S40} (ha : fix35 a) (hc : fix40 X) (hd : fix40 Y) (hb : fix35 b) : Ev (fun k => cubicF k a.f0 a.f1 X.f0 X.f1 Y.f0 Y.f1 b.f0 b.f1) (cubicV a (sp X) (sp Y) b) := by
  have h := cubic_ev ha (sp_fix hc) (sp_fix hd) hb
  exact h
theorem cubic_evKK {a : S35} {X Y Z : S40} (ha : fix35 a) (hc : fix40 X) (hd : fix40 Y) (hb : fix40 Z) : Ev (fun k => cubicF k a.f0 a.f1 X.f0 X.f1 Y.f0 Y.f1 Z.f0 Z.f1) (cubicV a (sp X) (sp Y) (sp Z)) := by
  have h := cubic_ev ha (sp_fix hc) (sp_fix hd) (sp_fix hb)
  exact h
theorem sp_f0 (X : S40) : (sp X).f0 = X.f0 := rfl
theorem sp_f1 (X : S40) : (sp X).f1 = X.f1 := rfl
set_option maxHeartbeats 4000000 in
theorem ctL_ev (s : S35) (hs : fix35 s) (rest : List S40) (hr : ∀ x ∈ rest, okK x) (hl : rest.length ≤ 4096) : ∀ (m i : Nat) (out : List S35) (now : S35), fix35 now → rest.length < i + m → i ≤ rest.length → out.length + 16 * (rest.length - i) ≤ 800000 →
    Ev (fun k => ctL k s.f0 s.f1 rest m (i : Int) out now.f0 now.f1 false) (endC out (ctW s m (rest.drop i) now))
  | 0, i, out, now, hn, h1, h2, h3 => by omega
  | m + 1, i, out, now, hn, h1, h2, h3 => by
    have nx : (i : Int) + 1 = ((i + 1 : Nat) : Int) := by omega
    have nx2 : (i : Int) + 2 = ((i + 2 : Nat) : Int) := by omega
    have nx3 : (i : Int) + 3 = ((i + 3 : Nat) : Int) := by omega
    by_cases c : i < rest.length
    case neg =>
      refine ⟨0, fun k _ => ?_⟩
      show ctL k s.f0 s.f1 rest (m + 1) (i : Int) out now.f0 now.f1 false = _
      rw [ctL, if_neg (by omega), List.drop_of_length_le (by omega)]
      rw [ctW_nil]; simp [endC, clos]
    obtain ⟨q1, q2, q3⟩ := hr _ (List.getElem_mem c)
    have er : rest.drop i = rest[i] :: rest.drop (i + 1) := List.drop_eq_getElem_cons c
    simp only [ctL]
    rw [er]
    simp only [if_pos (show (i : Int) < (rest.length : Int) by omega), if_neg (show ¬ 800000 < out.length by omega), rd40 c]
    generalize hX : rest[i] = X at *
    have qX : fix35 (sp X) := q3
    by_cases k1 : X.f2 = 1
    · rw [ctW_on k1, endC_pre]
      simp only [if_pos k1]
      rw [nx]
      exact ctL_ev s hs rest hr hl m (i + 1) _ (sp X) qX (by omega) (by omega) (by rw [List.length_append]; simp; omega)
    simp only [if_neg k1]
    by_cases k2 : X.f2 = 2
    · simp only [if_pos k2]
      rw [nx]
      by_cases c2 : i + 1 < rest.length
      · have er2 : rest.drop (i + 1) = rest[i + 1] :: rest.drop (i + 1 + 1) := List.drop_eq_getElem_cons c2
        obtain ⟨p1, p2, p3⟩ := hr _ (List.getElem_mem c2)
        rw [er2, kdF_at c2, rd40 c2]
        generalize hY : rest[i + 1] = Y at *
        have qY : fix35 (sp Y) := p3
        rw [ctW_q1 k2]
        by_cases j2 : Y.f2 = 2
        · simp only [if_pos j2]
          rw [endC_pre, ← er2]
          have hm := mid_ev q3 p3
          rw [k2] at hm
          refine Ev.bind hm ?_
          dsimp only
          refine Ev.bind (quad_evK hn q3 (mid_fix q3 p3)) ?_
          rw [quadV_lastS]
          exact ctL_ev s hs rest hr hl m (i + 1) _ (midV X Y) (mid_fix q3 p3) (by omega) (by omega) (by have := quadV_len now (sp X) (midV X Y); rw [List.length_append]; omega)
        · simp only [if_neg j2]
          by_cases j3 : Y.f2 = 3
          · simp only [if_pos j3]; exact Ev.now _
          · simp only [if_neg j3, if_neg (show ¬ ((i + 1 : Nat) : Int) = (rest.length : Int) by omega)]
            rw [endC_pre]
            refine Ev.bind (quad_evKK hn q3 p3) ?_
            rw [quadV_lastS, nx2]
            exact ctL_ev s hs rest hr hl m (i + 2) _ (sp Y) qY (by omega) (by omega) (by have := quadV_len now (sp X) (sp Y); rw [List.length_append]; omega)
      · rw [List.drop_of_length_le (i := i + 1) (by omega), kdF_out (by omega), ctW_q0 k2]
        simp only [if_neg (show ¬ (0 : Int) = 2 by omega), if_neg (show ¬ (0 : Int) = 3 by omega), if_pos (show ((i + 1 : Nat) : Int) = (rest.length : Int) by omega)]
        refine Ev.bind (quad_evK hn q3 hs) ?_
        obtain ⟨m, rfl⟩ : ∃ q, m = q + 1 := ⟨m - 1, by omega⟩
        refine ⟨0, fun k _ => ?_⟩
        show ctL k s.f0 s.f1 rest (m + 1) _ _ _ _ true = _
        rw [ctL, if_neg (by omega)]; rfl
    · have k3 : X.f2 = 3 := by omega
      simp only [if_neg k2, if_pos k3]
      rw [nx, nx2]
      by_cases c2 : i + 1 < rest.length
      · have er2 : rest.drop (i + 1) = rest[i + 1] :: rest.drop (i + 1 + 1) := List.drop_eq_getElem_cons c2
        obtain ⟨p1, p2, p3⟩ := hr _ (List.getElem_mem c2)
        rw [er2, kdF_at c2, rd40 c2]
        generalize hY : rest[i + 1] = Y at *
        have qY : fix35 (sp Y) := p3
        by_cases c3 : i + 2 < rest.length
        · have er3 : rest.drop (i + 1 + 1) = rest[i + 2] :: rest.drop (i + 3) := List.drop_eq_getElem_cons c3
          obtain ⟨t1, t2, t3⟩ := hr _ (List.getElem_mem c3)
          rw [er3, kdF_at c3, rd40 c3]
          generalize hZ : rest[i + 2] = Z at *
          have qZ : fix35 (sp Z) := t3
          rw [ctW_c2 k1 k2]
          by_cases j3 : Y.f2 = 3
          · simp only [if_neg (show ¬ Y.f2 ≠ 3 from fun z => z j3), if_pos j3]
            by_cases l3 : Z.f2 = 3
            · simp only [if_pos l3]; exact Ev.now _
            · simp only [if_neg l3]
              by_cases l2 : Z.f2 = 2
              · simp only [if_pos l2]; exact Ev.now _
              · simp only [if_neg l2, if_neg (show ¬ ((i + 2 : Nat) : Int) = (rest.length : Int) by omega)]
                rw [endC_pre]
                refine Ev.bind (cubic_evKK hn q3 p3 t3) ?_
                rw [cubicV_lastS, nx3]
                exact ctL_ev s hs rest hr hl m (i + 3) _ (sp Z) qZ (by omega) (by omega) (by have := cubicV_len now (sp X) (sp Y) (sp Z); rw [List.length_append]; omega)
          · simp only [if_pos (show Y.f2 ≠ 3 from j3), if_neg j3]; exact Ev.now _
        · rw [List.drop_of_length_le (i := i + 1 + 1) (by omega), kdF_out (i := i + 2) (by omega), ctW_c1 k1 k2]
          by_cases j3 : Y.f2 = 3
          · simp only [if_neg (show ¬ Y.f2 ≠ 3 from fun z => z j3), if_pos j3, if_neg (show ¬ (0 : Int) = 3 by omega), if_neg (show ¬ (0 : Int) = 2 by omega), if_pos (show ((i + 2 : Nat) : Int) = (rest.length : Int) by omega)]
            refine Ev.bind (cubic_evK hn q3 p3 hs) ?_
            obtain ⟨m, rfl⟩ : ∃ q, m = q + 1 := ⟨m - 1, by omega⟩
            refine ⟨0, fun k _ => ?_⟩
            show ctL k s.f0 s.f1 rest (m + 1) _ _ _ _ true = _
            rw [ctL, if_neg (by omega)]; rfl
          · simp only [if_pos (show Y.f2 ≠ 3 from j3), if_neg j3]; exact Ev.now _
      · rw [List.drop_of_length_le (i := i + 1) (by omega), kdF_out (by omega), ctW_c0 k1 k2]
        simp only [if_pos (show (0 : Int) ≠ 3 by omega)]
        exact Ev.now _
/-! where a contour begins -/
def onK (x : S40) : Bool := x.f2 == 1
def offs (c : List S40) : List S40 := c.takeWhile (fun x => !onK x)
/-- The start, the knots from it round to it, and whether they may make curves. -/
def roundV (c : List S40) : S35 × List S40 × Bool :=
  match c.dropWhile (fun x => !onK x) with
  | k :: b => (sp k, b ++ offs c, true)
  | [] => (midV (c.getLastD z40) (c.headD z40), c, (c.headD z40).f2 == 2)
theorem offs_split (c : List S40) : c = offs c ++ c.dropWhile (fun x => !onK x) := by unfold offs; rw [List.takeWhile_append_dropWhile]
theorem round_none (k : Nat) (c : List S40) (i : Int) (hc : c.length ≤ 4096) (l0 : 0 < c.length) (hi : (c.length : Int) ≤ i) : path_round.l0 (k + 1) c c (c.length : Int) i = (path_middle.f k (c.getLastD z40).f0 (c.getLastD z40).f1 (c.getLastD z40).f2 (c.headD z40).f0 (c.headD z40).f1 (c.headD z40).f2).bind fun bt => some (bt.1, bt.2, c, (c.headD z40).f2 == 2) := by
  have eh : rd_T40 c 0 = c.headD z40 := by
    cases c with
    | nil => exact absurd l0 (by simp)
    | cons a r => rfl
  have el : rd_T40 c (wrap64 ((c.length : Int) - 1)) = c.getLastD z40 := by
    rw [w64 (n := (c.length : Int) - 1) (by omega) (by omega), show (c.length : Int) - 1 = ((c.length - 1 : Nat) : Int) by omega, rd40 (by omega), List.getLastD_eq_getLast?, List.getLast?_eq_getElem?, List.getElem?_eq_getElem (by omega)]; rfl
  have w0 : 0 ≤ wrap64 ((c.length : Int) - 1) ∧ wrap64 ((c.length : Int) - 1) < (c.length : Int) := by
    rw [w64 (n := (c.length : Int) - 1) (by omega) (by omega)]; omega
  have hp : (0 : Int) < (c.length : Int) := by omega
  have hn : ¬ i < (c.length : Int) := by omega
  rw [path_round.l0]
  rw [if_neg hn, if_pos w0.1, if_pos w0.2, if_pos hp, eh, el]
theorem round_on (k : Nat) (c : List S40) (i : Nat) (hc : c.length ≤ 4096) (hlt : i < c.length) (k1 : c[i].f2 = 1) : path_round.l0 (k + 1) c c (c.length : Int) (i : Int) = some (c[i].f0, c[i].f1, c.drop (i + 1) ++ c.take i, true) := by
  have e1 := rd40 hlt
  have h1 : (i : Int) < (c.length : Int) := by omega
  have h2 : (0 : Int) ≤ (i : Int) := by omega
  have h3 : 0 ≤ wrap64 ((i : Int) + 1) ∧ wrap64 ((i : Int) + 1) ≤ (c.length : Int) := by rw [nx64 (by omega)]; omega
  have h4 : (wrap64 ((i : Int) + 1)).toNat = i + 1 := by rw [nx64 (by omega), Int.toNat_natCast]
  have h5 : (i : Int) ≤ (c.length : Int) := by omega
  have h6 : ([] : List S40).length + (c.drop (i + 1)).length < 5864062014805 := by simp; omega
  have h7 : ([] ++ c.drop (i + 1)).length + (c.take i).length < 5864062014805 := by simp; omega
  have hs (a b d : Int) : path_spot.f a b d = some (a, b) := rfl
  rw [path_round.l0]
  rw [if_pos h1, if_pos h2, if_pos h1, e1, if_pos k1, Option.bind_some, if_pos h3.1, if_pos h3.2, Option.bind_some, h4, if_pos h6, Option.bind_some, hs, Option.bind_some, if_pos h5, Option.bind_some, Int.toNat_natCast, if_pos h7, List.nil_append]
theorem round_off (k : Nat) (c : List S40) (i : Nat) (hc : c.length ≤ 4096) (hlt : i < c.length) (k1 : c[i].f2 ≠ 1) : path_round.l0 (k + 1) c c (c.length : Int) (i : Int) = path_round.l0 k c c (c.length : Int) ((i + 1 : Nat) : Int) := by
  have e1 := rd40 hlt
  have h1 : (i : Int) < (c.length : Int) := by omega
  have h2 : (0 : Int) ≤ (i : Int) := by omega
  have h3 : wrap64 ((i : Int) + 1) = ((i + 1 : Nat) : Int) := nx64 (by omega)
  rw [path_round.l0]
  rw [if_pos h1, if_pos h2, if_pos h1, e1, if_neg k1, h3]
theorem offs_none {c : List S40} (h : ∀ x ∈ c, (!onK x) = true) : c.dropWhile (fun x => !onK x) = [] := by
  induction c with
  | nil => rfl
  | cons a r ih => rw [List.dropWhile_cons, if_pos (h a (by simp))]; exact ih (fun x hx => h x (by simp [hx]))
theorem offs_on {a b : List S40} {k : S40} (h : ∀ x ∈ a, (!onK x) = true) (hk : k.f2 = 1) : (a ++ k :: b).takeWhile (fun x => !onK x) = a ∧ (a ++ k :: b).dropWhile (fun x => !onK x) = k :: b := by
  have h2 : ¬ (!onK k) = true := by simp [onK, hk]
  constructor
  · rw [List.takeWhile_append_of_pos h, List.takeWhile_cons, if_neg h2, List.append_nil]
  · rw [List.dropWhile_append_of_pos h, List.dropWhile_cons, if_neg h2]
theorem roundV_off {c : List S40} (h : ∀ x ∈ c, (!onK x) = true) : roundV c = (midV (c.getLastD z40) (c.headD z40), c, (c.headD z40).f2 == 2) := by
  unfold roundV; rw [offs_none h]
theorem roundV_on {a b : List S40} {k : S40} (h : ∀ x ∈ a, (!onK x) = true) (hk : k.f2 = 1) : roundV (a ++ k :: b) = (sp k, b ++ a, true) := by
  unfold roundV offs; rw [(offs_on h hk).1, (offs_on h hk).2]
theorem round_l0 (c : List S40) (hc : c.length ≤ 4096) (n0 : c ≠ []) (hk : ∀ x ∈ c, okK x) : ∀ (d i : Nat), c.length - i = d → i ≤ c.length → (∀ j, j < i → ∀ h : j < c.length, c[j].f2 ≠ 1) →
    Ev (fun k => path_round.l0 k c c (c.length : Int) (i : Int)) ((roundV c).1.f0, (roundV c).1.f1, (roundV c).2.1, (roundV c).2.2) := by
  have l0 : 0 < c.length := List.length_pos_iff.2 n0
  intro d
  induction d with
  | zero =>
    intro i e hi hj
    have hoff : ∀ x ∈ c, (!onK x) = true := by
      intro x hx
      obtain ⟨j, h, rfl⟩ := List.getElem_of_mem hx
      have := hj j (by omega) h
      simp [onK, this]
    rw [roundV_off hoff]
    have m1 : c.headD z40 ∈ c := by
      cases c with
      | nil => exact absurd rfl n0
      | cons a r => simp
    have m2 : c.getLastD z40 ∈ c := by
      rw [List.getLastD_eq_getLast?, List.getLast?_eq_some_getLast n0]; exact List.getLast_mem n0
    exact Ev.step (fun k => round_none k c i hc l0 (by omega)) (Ev.bind (mid_ev (hk _ m2).2.2 (hk _ m1).2.2) (Ev.now _))
  | succ d ih =>
    intro i e hi hj
    have hlt : i < c.length := by omega
    by_cases k1 : c[i].f2 = 1
    · have h1 : ∀ x ∈ c.take i, (!onK x) = true := by
        intro x hx
        obtain ⟨j, h, rfl⟩ := List.getElem_of_mem hx
        rw [List.length_take] at h
        rw [List.getElem_take]
        have := hj j (by omega) (by omega)
        simp [onK, this]
      have e1 := roundV_on (b := c.drop (i + 1)) h1 k1
      rw [← List.drop_eq_getElem_cons hlt, List.take_append_drop] at e1
      rw [e1]
      exact Ev.step (f := fun _ => some (c[i].f0, c[i].f1, c.drop (i + 1) ++ c.take i, true)) (fun k => round_on k c i hc hlt k1) (Ev.now _)
    · refine Ev.step (fun k => round_off k c i hc hlt k1) (ih (i + 1) (by omega) (by omega) (fun j hji h => ?_))
      by_cases e : j = i
      · subst e; exact k1
      · exact hj j (by omega) h
theorem round_ev (c : List S40) (hc : c.length ≤ 4096) (n0 : c ≠ []) (hk : ∀ x ∈ c, okK x) : Ev (fun k => path_round.f k c) ((roundV c).1.f0, (roundV c).1.f1, (roundV c).2.1, (roundV c).2.2) := by
  unfold path_round.f
  exact round_l0 c hc n0 hk c.length 0 (by omega) (by omega) (fun j h => by omega)
theorem roundV_in (c : List S40) (n0 : c ≠ []) (hk : ∀ x ∈ c, okK x) : fix35 (roundV c).1 ∧ (∀ x ∈ (roundV c).2.1, okK x) ∧ (roundV c).2.1.length ≤ c.length := by
  have sp' := offs_split c
  have m1 : c.headD z40 ∈ c := by
    cases c with
    | nil => exact absurd rfl n0
    | cons a r => simp
  have m2 : c.getLastD z40 ∈ c := by
    rw [List.getLastD_eq_getLast?, List.getLast?_eq_some_getLast n0]; exact List.getLast_mem n0
  unfold roundV
  cases hd : c.dropWhile (fun x => !onK x) with
  | nil => exact ⟨mid_fix (hk _ m2).2.2 (hk _ m1).2.2, hk, Nat.le_refl _⟩
  | cons k b =>
    rw [hd] at sp'
    dsimp only
    refine ⟨(hk k (by rw [sp']; simp)).2.2, fun x hx => hk x ?_, ?_⟩
    · rw [sp']
      rcases List.mem_append.1 hx with h | h
      · simp [h]
      · exact List.mem_append_left _ h
    · have := congrArg List.length sp'
      rw [List.length_append, List.length_cons] at this
      rw [List.length_append]; omega
/-- A contour's polygon; false: its knots make no curves. -/
def conV (c : List S40) : List S35 × Bool :=
  if c = [] then ([], true) else if (roundV c).2.2 = false then ([], false) else endC [(roundV c).1] (ctW (roundV c).1 ((roundV c).2.1.length + 1) (roundV c).2.1 (roundV c).1)
theorem con_ev (c : List S40) (hc : c.length ≤ 4096) (hk : ∀ x ∈ c, okK x) : Ev (fun k => path_contour.f k c) (conV c) := by
  unfold path_contour.f conV
  by_cases n0 : c = []
  · subst n0; exact Ev.now _
  · simp only [if_neg (show ¬ c.length = 0 from fun z => n0 (List.length_eq_zero_iff.1 z)), if_neg n0]
    obtain ⟨r1, r2, r3⟩ := roundV_in c n0 hk
    refine Ev.bind (round_ev c hc n0 hk) ?_
    dsimp only
    cases h : (roundV c).2.2 with
    | false => simp only [if_true]; exact Ev.now _
    | true =>
      simp only [Bool.true_eq_false, if_false, if_pos (show (roundV c).2.1.length ≤ 100000 by omega)]
      exact ctL_ev (roundV c).1 r1 (roundV c).2.1 r2 (by omega) _ 0 _ (roundV c).1 r1 (by omega) (by omega) (by simp; omega)
end Go.Proofs.Ytmlkpadlafjfeaa.P

/- Outlines: what check, Check, Flat, Copy and SameSpots answer, in plain lists. -/
set_option linter.unusedVariables false
set_option linter.unusedSimpArgs false
namespace Go.Proofs.Ytmlkpadlafjfeaa.P
open Go Go.RowKit Go.Proofs.YtmlkpadlafjfeaaW.PrintWords Go.Proofs.YtmlkpadlafjfeaaW.PrintLast Go.Proofs.YtmlkpadlafjfeaaW.PrintMore

def badK (x : S40) : Bool := decide (x.f2 < 1) || decide (x.f2 > 3)
def farN (n : Int) : Bool := decide (n < -2147483647) || decide (n > 2147483647)
def farK (x : S40) : Bool := farN x.f0 || farN x.f1
def tot (o : List (List S40)) : Nat := (o.map List.length).sum
/-- The error for which an outline is refused. -/
def CK (o : List (List S40)) : Int :=
  if 256 < o.length ∨ 4096 < tot o then 63 else if o.any (fun c => c.any badK) = true then 61 else if o.any (fun c => c.any farK) = true then 64 else 0
/-- Lengths that lie in memory. -/
def memO {α : Type} (o : List (List α)) : Prop := o.length ≤ 5864062014634 ∧ ∀ c ∈ o, c.length ≤ 5864062014634
theorem rdL2 {o : List (List S40)} {i : Nat} (h : i < o.length) : rd_L2 o (i : Int) = o[i] := by unfold rd_L2; rw [Int.toNat_natCast, List.getD_eq_getElem?_getD, List.getElem?_eq_getElem h]; rfl
theorem any_drop {α : Type} (p : α → Bool) {l : List α} {i : Nat} (h : i < l.length) : (l.drop i).any p = (p l[i] || (l.drop (i + 1)).any p) := by rw [List.drop_eq_getElem_cons h, List.any_cons]
theorem any_end {α : Type} (p : α → Bool) {l : List α} {i : Nat} (h : l.length ≤ i) : (l.drop i).any p = false := by rw [List.drop_of_length_le h]; rfl
theorem chk_f (n : Int) : fixed_Check.f n = some (if farN n = true then 14 else 0) := by
  unfold fixed_Check.f farN
  by_cases h1 : n < -2147483647
  · simp [h1]
  · by_cases h2 : n > 2147483647
    · simp [h1, h2]
    · simp [h1, h2]
section
variable {x0 x10 : List (List S40)} {n x11 i : Int} {row : List S40}
theorem check_l1 (hr : row.length ≤ 9000000000000000000) (r : Int) : ∀ (d j : Nat) (odd wide : Bool), row.length - j = d → j ≤ row.length →
    Ev (fun k => path_check.l0 k x0 n (odd || (row.drop j).any badK) (wide || (row.drop j).any farK) x10 x11 (wrap64 (i + 1))) r →
    Ev (fun k => path_check.l1 k x0 n odd wide x10 x11 i row (row.length : Int) (j : Int)) r := by
  intro d
  induction d with
  | zero =>
    intro j odd wide e hj h
    rw [any_end _ (by omega), any_end _ (by omega), Bool.or_false, Bool.or_false] at h
    refine Ev.step (fun k => ?_) h
    rw [path_check.l1, if_neg (by omega)]
  | succ d ih =>
    intro j odd wide e hj h
    have hlt : j < row.length := by omega
    rw [any_drop _ hlt, any_drop _ hlt, ← Bool.or_assoc, ← Bool.or_assoc] at h
    have h := ih (j + 1) _ _ (by omega) (by omega) h
    refine Ev.step (fun k => ?_) h
    have h1 : (j : Int) < (row.length : Int) := by omega
    have h2 : (0 : Int) ≤ (j : Int) := by omega
    rw [path_check.l1, if_pos h1, if_pos h2, if_pos h1, rd40 hlt, nx64 (by omega), chk_f, chk_f]
    generalize row[j] = X
    generalize hG : path_check.l1 k x0 n = G
    clear ih h
    have b1 : badK X = (decide (X.f2 < 1) || decide (X.f2 > 3)) := rfl
    have b2 : farK X = (farN X.f0 || farN X.f1) := rfl
    rw [b1, b2]
    cases odd <;> cases wide <;> by_cases c1 : X.f2 < 1 <;> cases c2 : farN X.f0 <;> cases c3 : farN X.f1 <;> simp [c1, c2, c3]
end
theorem check_l0 (o : List (List S40)) (hm : memO o) : ∀ (d i : Nat) (n : Nat) (odd wide : Bool), o.length - i = d → i ≤ o.length → n ≤ 4096 →
    Ev (fun k => path_check.l0 k o (n : Int) odd wide o (o.length : Int) (i : Int)) (if 256 < o.length ∨ 4096 < n + tot (o.drop i) then 63 else if (odd || (o.drop i).any (fun c => c.any badK)) = true then 61 else if (wide || (o.drop i).any (fun c => c.any farK)) = true then 64 else 0) := by
  have hl := hm.1
  intro d
  induction d with
  | zero =>
    intro i n odd wide e hi hn
    rw [List.drop_of_length_le (by omega)]
    refine Ev.step (f := fun _ => some _) (fun k => ?_) (Ev.now _)
    rw [path_check.l0, if_neg (by omega)]
    have ht : tot [] = 0 := rfl
    rw [ht]
    by_cases c : 256 < o.length
    · rw [if_pos (by omega), if_pos (Or.inl c)]
    · rw [if_neg (show ¬ (o.length : Int) > 256 by omega), if_neg (show ¬ (256 < o.length ∨ 4096 < n + 0) by omega)]
      cases odd <;> cases wide <;> rfl
  | succ d ih =>
    intro i n odd wide e hi hn
    have hlt : i < o.length := by omega
    have hrow := hm.2 _ (List.getElem_mem hlt)
    have er : o.drop i = o[i] :: o.drop (i + 1) := List.drop_eq_getElem_cons hlt
    have ht : tot (o.drop i) = o[i].length + tot (o.drop (i + 1)) := by rw [er]; unfold tot; rw [List.map_cons, List.sum_cons]
    have h1 : (i : Int) < (o.length : Int) := by omega
    have h2 : (0 : Int) ≤ (i : Int) := by omega
    have hw : wrap64 ((n : Int) + (o[i].length : Int)) = ((n + o[i].length : Nat) : Int) := by rw [w64 (by omega) (by omega)]; omega
    rw [ht]
    by_cases c : 4096 < n + o[i].length
    · refine Ev.step (f := fun _ => some 63) (fun k => ?_) ?_
      · rw [path_check.l0, if_pos h1, if_pos h2, if_pos h1, rdL2 hlt, hw, if_pos (by omega)]
      · rw [if_pos (Or.inr (by omega))]; exact Ev.now _
    · have h := ih (i + 1) (n + o[i].length) (odd || o[i].any badK) (wide || o[i].any farK) (by omega) (by omega) (by omega)
      rw [Nat.add_assoc, Bool.or_assoc, Bool.or_assoc] at h
      rw [er, List.any_cons, List.any_cons]
      rw [← nx64 (by omega)] at h
      have h := check_l1 (x0 := o) (x10 := o) (n := ((n + o[i].length : Nat) : Int)) (x11 := (o.length : Int)) (i := (i : Int)) (row := o[i]) (by omega) _ o[i].length 0 odd wide (by omega) (by omega) h
      refine Ev.step (fun k => ?_) h
      rw [path_check.l0, if_pos h1, if_pos h2, if_pos h1, rdL2 hlt, hw, if_neg (by omega)]; rfl
theorem check_ev (o : List (List S40)) (hm : memO o) : Ev (fun k => path_check.f k o) (CK o) := by
  have h := check_l0 o hm o.length 0 0 false false (by omega) (by omega) (by omega)
  rw [List.drop_zero, Nat.zero_add, Bool.false_or, Bool.false_or] at h
  exact h
/-- What an outline that is taken is like. -/
theorem CK_ok {o : List (List S40)} (h : CK o = 0) : o.length ≤ 256 ∧ tot o ≤ 4096 ∧ ∀ c ∈ o, c.length ≤ 4096 ∧ ∀ x ∈ c, okK x := by
  unfold CK at h
  by_cases c1 : 256 < o.length ∨ 4096 < tot o
  · rw [if_pos c1] at h; omega
  · rw [if_neg c1] at h
    by_cases c2 : o.any (fun c => c.any badK) = true
    · rw [if_pos c2] at h; omega
    · rw [if_neg c2] at h
      by_cases c3 : o.any (fun c => c.any farK) = true
      · rw [if_pos c3] at h; omega
      · refine ⟨by omega, by omega, fun c hc => ⟨?_, fun x hx => ?_⟩⟩
        · have : c.length ≤ tot o := by
            clear h c1 c2 c3
            induction o with
            | nil => cases hc
            | cons a r ih =>
              have e : tot (a :: r) = a.length + tot r := by unfold tot; rw [List.map_cons, List.sum_cons]
              rcases List.mem_cons.1 hc with e1 | e1
              · subst e1; omega
              · have := ih e1; omega
          omega
        · have e2 : badK x = false := by
            rw [Bool.eq_false_iff]; intro z
            exact c2 (List.any_eq_true.2 ⟨c, hc, List.any_eq_true.2 ⟨x, hx, z⟩⟩)
          have e3 : farK x = false := by
            rw [Bool.eq_false_iff]; intro z
            exact c3 (List.any_eq_true.2 ⟨c, hc, List.any_eq_true.2 ⟨x, hx, z⟩⟩)
          unfold badK at e2; unfold farK farN at e3
          simp only [Bool.or_eq_false_iff, decide_eq_false_iff_not] at e2 e3
          exact ⟨by omega, by omega, ⟨by omega, by omega⟩, by omega, by omega⟩
theorem tot_append (a b : List (List S40)) : tot (a ++ b) = tot a + tot b := by unfold tot; rw [List.map_append, List.sum_append]
theorem CK_append {a b : List (List S40)} (h : CK (a ++ b) = 0) : CK a = 0 ∧ CK b = 0 := by
  have hk := CK_ok h
  rw [List.length_append, tot_append] at hk
  obtain ⟨h1, h2, _⟩ := hk
  unfold CK at h
  rw [List.length_append, tot_append, if_neg (by omega), List.any_append, List.any_append] at h
  unfold CK
  rw [if_neg (show ¬ (256 < a.length ∨ 4096 < tot a) by omega), if_neg (show ¬ (256 < b.length ∨ 4096 < tot b) by omega)]
  cases e1 : a.any (fun c => c.any badK) <;> cases e2 : b.any (fun c => c.any badK) <;> cases e3 : a.any (fun c => c.any farK) <;> cases e4 : b.any (fun c => c.any farK) <;> simp [e1, e2, e3, e4] at h ⊢
/-- An outline's polygons, and the error. -/
def FL (o : List (List S40)) : List (List S35) × Int :=
  if CK o = 0 then (if o.all (fun c => (conV c).2) = true then (o.map (fun c => (conV c).1), 0) else ([], 61)) else ([], CK o)
theorem set_mid {α : Type} (a : List α) (x y : α) (b : List α) : (a ++ x :: b).set a.length y = (a ++ [y]) ++ b := by
  rw [List.set_append_right _ _ (Nat.le_refl _), Nat.sub_self, List.set_cons_zero, List.append_assoc]; rfl
theorem flat_l0 (o : List (List S40)) (hl : o.length ≤ 256) (hk : ∀ c ∈ o, c.length ≤ 4096 ∧ ∀ x ∈ c, okK x) : ∀ (d i : Nat), o.length - i = d → i ≤ o.length →
    Ev (fun k => path_Flat.l0 k ((o.take i).map (fun c => (conV c).1) ++ List.replicate (o.length - i) []) o (o.length : Int) (i : Int)) (if (o.drop i).all (fun c => (conV c).2) = true then (o.map (fun c => (conV c).1), 0) else ([], 61)) := by
  intro d
  induction d with
  | zero =>
    intro i e hi
    refine Ev.step (f := fun _ => some _) (fun k => ?_) (Ev.now _)
    rw [path_Flat.l0, if_neg (by omega), List.drop_of_length_le (by omega), List.take_of_length_le (by omega), e]
    simp
  | succ d ih =>
    intro i e hi
    have hlt : i < o.length := by omega
    have er : o.drop i = o[i] :: o.drop (i + 1) := List.drop_eq_getElem_cons hlt
    have h1 : (i : Int) < (o.length : Int) := by omega
    have h2 : (0 : Int) ≤ (i : Int) := by omega
    obtain ⟨q1, q2⟩ := hk _ (List.getElem_mem hlt)
    have lt : ((o.take i).map (fun c => (conV c).1)).length = i := by rw [List.length_map, List.length_take]; omega
    have e5 : List.replicate (o.length - i) ([] : List S35) = [] :: List.replicate (o.length - (i + 1)) [] := by
      rw [show o.length - i = (o.length - (i + 1)) + 1 by omega]; rfl
    have h3 : (i : Int) < ((((o.take i).map (fun c => (conV c).1)) ++ List.replicate (o.length - i) ([] : List S35)).length : Int) := by
      rw [List.length_append, lt, List.length_replicate]; omega
    have es : (((o.take i).map (fun c => (conV c).1)) ++ List.replicate (o.length - i) ([] : List S35)).set ((i : Int)).toNat (conV o[i]).1 = (o.take (i + 1)).map (fun c => (conV c).1) ++ List.replicate (o.length - (i + 1)) [] := by
      have := set_mid ((o.take i).map (fun c => (conV c).1)) [] (conV o[i]).1 (List.replicate (o.length - (i + 1)) [])
      rw [lt] at this
      rw [e5, Int.toNat_natCast, this, List.take_add_one, List.map_append, List.getElem?_eq_getElem hlt]; rfl
    rw [er, List.all_cons]
    refine Ev.step (f := fun k => (path_contour.f k o[i]).bind fun bt => if bt.2 = true then path_Flat.l0 k ((((o.take i).map (fun c => (conV c).1)) ++ List.replicate (o.length - i) ([] : List S35)).set ((i : Int)).toNat bt.1) o (o.length : Int) ((i + 1 : Nat) : Int) else some ([], 61)) (fun k => ?_) ?_
    · rw [path_Flat.l0, if_pos h1, if_pos h2, if_pos h1, rdL2 hlt, nx64 (by omega)]
      simp only [if_pos h3]
    · refine Ev.bind (con_ev o[i] q1 q2) ?_
      cases hc : (conV o[i]).2 with
      | false => simp only [Bool.false_eq_true, if_false, Bool.false_and]; exact Ev.now _
      | true =>
        simp only [if_true, Bool.true_and]
        rw [es]
        exact ih (i + 1) (by omega) (by omega)
theorem flat_big (k : Nat) (o : List (List S40)) (hl : o.length ≤ 256) : (if 0 ≤ (o.length : Int) then (if ((o.length : Int) : Int).toNat ≤ 11728124029610 then (path_Flat.l0 k (List.replicate ((o.length : Int) : Int).toNat []) o (o.length : Int) 0) else (none)) else (none)) = path_Flat.l0 k (List.replicate o.length []) o (o.length : Int) ((0 : Nat) : Int) := by
  have h1 : ((o.length : Int)).toNat ≤ 11728124029610 := by rw [Int.toNat_natCast]; omega
  rw [if_pos (by omega), if_pos h1, Int.toNat_natCast]; rfl
theorem flat_ev (o : List (List S40)) (hm : memO o) : Ev (fun k => path_Flat.f k o) (FL o) := by
  unfold path_Flat.f FL
  refine Ev.bind (check_ev o hm) ?_
  by_cases c : CK o = 0
  · obtain ⟨h1, h2, h3⟩ := CK_ok c
    simp only [if_pos c]
    refine Ev.congr (fun k => flat_big k o h1) ?_
    have h := flat_l0 o h1 h3 o.length 0 (by omega) (by omega)
    rw [List.take_zero, List.map_nil, List.nil_append, Nat.sub_zero, List.drop_zero] at h
    exact h
  · simp only [if_neg c]; exact Ev.now _
end Go.Proofs.Ytmlkpadlafjfeaa.P

/- The reference's Check, Copy and SameSpots of one and the same, in plain lists. -/
set_option linter.unusedVariables false
set_option linter.unusedSimpArgs false
namespace Go.Proofs.Ytmlkpadlafjfeaa.P
open Go Go.RowKit Go.Proofs.YtmlkpadlafjfeaaW.PrintWords Go.Proofs.YtmlkpadlafjfeaaW.PrintLast Go.Proofs.YtmlkpadlafjfeaaW.PrintMore

theorem pal_ev : Ev (fun k => seriflaw06_pathAlive.f k) true := Ev.of seriflaw06_pathAlive.mono (k := 60) (by decide +kernel)
theorem fix_f (n : Int) : serifref01_Fix.f n = some (!farN n) := by
  unfold serifref01_Fix.f farN
  by_cases h1 : n < -2147483647
  · have : ¬ n ≥ -2147483647 := by omega
    simp [h1, this]
  · have h0 : n ≥ -2147483647 := by omega
    by_cases h2 : n > 2147483647
    · have : ¬ n ≤ 2147483647 := by omega
      simp [h1, h2, h0, this]
    · have : n ≤ 2147483647 := by omega
      simp [h1, h2, h0, this]
section
variable {x0 x32 x54 : List (List S40)} {x33 i x55 : Int} {row : List S40}
theorem chk_l2 (hr : row.length ≤ 9000000000000000000) (r : Int) : ∀ (d j : Nat), row.length - j = d → j ≤ row.length →
    Ev (fun k => if (row.drop j).any badK = true then some 61 else serifref06_Check.l1 k x0 x32 x33 (wrap64 (i + 1))) r →
    Ev (fun k => serifref06_Check.l2 k x0 x32 x33 i row (row.length : Int) (j : Int)) r := by
  intro d
  induction d with
  | zero =>
    intro j e hj h
    rw [any_end _ (by omega)] at h
    refine Ev.step (fun k => ?_) h
    rw [serifref06_Check.l2, if_neg (by omega)]; rfl
  | succ d ih =>
    intro j e hj h
    have hlt : j < row.length := by omega
    rw [any_drop _ hlt] at h
    have h1 : (j : Int) < (row.length : Int) := by omega
    have h2 : (0 : Int) ≤ (j : Int) := by omega
    by_cases c : badK row[j] = true
    · rw [c, Bool.true_or] at h
      refine Ev.step (f := fun _ => some 61) (fun k => ?_) (by simpa using h)
      rw [serifref06_Check.l2, if_pos h1, if_pos h2, if_pos h1, rd40 hlt]
      unfold badK at c
      rw [Bool.or_eq_true, decide_eq_true_eq, decide_eq_true_eq] at c
      by_cases c1 : row[j].f2 < 1
      · rw [if_pos c1]
      · rw [if_neg c1, if_pos (by omega)]
    · rw [Bool.not_eq_true] at c
      rw [c, Bool.false_or] at h
      refine Ev.step (fun k => ?_) (ih (j + 1) (by omega) (by omega) h)
      rw [serifref06_Check.l2, if_pos h1, if_pos h2, if_pos h1, rd40 hlt, nx64 (by omega)]
      unfold badK at c
      rw [Bool.or_eq_false_iff, decide_eq_false_iff_not, decide_eq_false_iff_not] at c
      rw [if_neg c.1, if_neg c.2]
theorem chk_l4 (hr : row.length ≤ 9000000000000000000) (r : Int) : ∀ (d j : Nat), row.length - j = d → j ≤ row.length →
    Ev (fun k => if (row.drop j).any farK = true then some 64 else serifref06_Check.l3 k x54 x55 (wrap64 (i + 1))) r →
    Ev (fun k => serifref06_Check.l4 k x54 x55 i row (row.length : Int) (j : Int)) r := by
  intro d
  induction d with
  | zero =>
    intro j e hj h
    rw [any_end _ (by omega)] at h
    refine Ev.step (fun k => ?_) h
    rw [serifref06_Check.l4, if_neg (by omega)]; rfl
  | succ d ih =>
    intro j e hj h
    have hlt : j < row.length := by omega
    rw [any_drop _ hlt] at h
    have h1 : (j : Int) < (row.length : Int) := by omega
    have h2 : (0 : Int) ≤ (j : Int) := by omega
    have b2 : farK row[j] = (farN row[j].f0 || farN row[j].f1) := rfl
    cases c : farK row[j] with
    | true =>
      rw [c, Bool.true_or] at h
      refine Ev.step (f := fun _ => some 64) (fun k => ?_) (by simpa using h)
      rw [serifref06_Check.l4, if_pos h1, if_pos h2, if_pos h1, rd40 hlt, fix_f, fix_f]
      rw [b2] at c
      cases c0 : farN row[j].f0 <;> cases c1 : farN row[j].f1 <;> simp [c0, c1] at c ⊢
    | false =>
      rw [c, Bool.false_or] at h
      refine Ev.step (fun k => ?_) (ih (j + 1) (by omega) (by omega) h)
      rw [serifref06_Check.l4, if_pos h1, if_pos h2, if_pos h1, rd40 hlt, nx64 (by omega), fix_f, fix_f]
      rw [b2, Bool.or_eq_false_iff] at c
      rw [c.1, c.2]; rfl
end
theorem chk_l3 (o : List (List S40)) (hm : memO o) : ∀ (d i : Nat), o.length - i = d → i ≤ o.length → Ev (fun k => serifref06_Check.l3 k o (o.length : Int) (i : Int)) (if (o.drop i).any (fun c => c.any farK) = true then 64 else 0) := by
  have hl := hm.1
  intro d
  induction d with
  | zero =>
    intro i e hi
    rw [any_end _ (by omega)]
    refine Ev.step (f := fun _ => some 0) (fun k => ?_) (Ev.now _)
    rw [serifref06_Check.l3, if_neg (by omega)]
  | succ d ih =>
    intro i e hi
    have hlt : i < o.length := by omega
    have hrow := hm.2 _ (List.getElem_mem hlt)
    have h1 : (i : Int) < (o.length : Int) := by omega
    have h2 : (0 : Int) ≤ (i : Int) := by omega
    rw [any_drop _ hlt]
    refine Ev.step (f := fun k => serifref06_Check.l4 k o (o.length : Int) (i : Int) o[i] (o[i].length : Int) ((0 : Nat) : Int)) (fun k => ?_) (chk_l4 (row := o[i]) (by omega) _ o[i].length 0 (by omega) (by omega) ?_)
    · rw [serifref06_Check.l3, if_pos h1, if_pos h2, if_pos h1, rdL2 hlt]; rfl
    · rw [List.drop_zero, nx64 (by omega)]
      cases c : o[i].any farK with
      | true => simp only [if_true, Bool.true_or]; exact Ev.now _
      | false => simp only [Bool.false_eq_true, if_false, Bool.false_or]; exact ih (i + 1) (by omega) (by omega)
theorem chk_l1 (o : List (List S40)) (hm : memO o) : ∀ (d i : Nat), o.length - i = d → i ≤ o.length → Ev (fun k => serifref06_Check.l1 k o o (o.length : Int) (i : Int)) (if (o.drop i).any (fun c => c.any badK) = true then 61 else if o.any (fun c => c.any farK) = true then 64 else 0) := by
  have hl := hm.1
  intro d
  induction d with
  | zero =>
    intro i e hi
    rw [any_end _ (by omega)]
    refine Ev.step (f := fun k => serifref06_Check.l3 k o (o.length : Int) ((0 : Nat) : Int)) (fun k => ?_) (by have h := chk_l3 o hm o.length 0 (by omega) (by omega); rw [List.drop_zero] at h; exact h)
    rw [serifref06_Check.l1, if_neg (by omega)]; rfl
  | succ d ih =>
    intro i e hi
    have hlt : i < o.length := by omega
    have hrow := hm.2 _ (List.getElem_mem hlt)
    have h1 : (i : Int) < (o.length : Int) := by omega
    have h2 : (0 : Int) ≤ (i : Int) := by omega
    rw [any_drop _ hlt]
    refine Ev.step (f := fun k => serifref06_Check.l2 k o o (o.length : Int) (i : Int) o[i] (o[i].length : Int) ((0 : Nat) : Int)) (fun k => ?_) (chk_l2 (row := o[i]) (by omega) _ o[i].length 0 (by omega) (by omega) ?_)
    · rw [serifref06_Check.l1, if_pos h1, if_pos h2, if_pos h1, rdL2 hlt]; rfl
    · rw [List.drop_zero, nx64 (by omega)]
      cases c : o[i].any badK with
      | true => simp only [if_true, Bool.true_or]; exact Ev.now _
      | false => simp only [Bool.false_eq_true, if_false, Bool.false_or]; exact ih (i + 1) (by omega) (by omega)
theorem chk_big (o : List (List S40)) (hm : memO o) (hb : 256 < o.length) : ∀ (d i : Nat) (n : Int), o.length - i = d → i ≤ o.length → Ev (fun k => serifref06_Check.l0 k o n o (o.length : Int) (i : Int)) 63 := by
  have hl := hm.1
  intro d
  induction d with
  | zero =>
    intro i n e hi
    refine Ev.step (f := fun k => serifref06_Check.j1 k o true) (fun k => ?_) (Ev.step (f := fun _ => some 63) (fun k => ?_) (Ev.now _))
    · rw [serifref06_Check.l0, if_neg (by omega), if_pos (by omega)]
    · rw [serifref06_Check.j1, if_pos rfl]
  | succ d ih =>
    intro i n e hi
    have hlt : i < o.length := by omega
    have h1 : (i : Int) < (o.length : Int) := by omega
    have h2 : (0 : Int) ≤ (i : Int) := by omega
    refine Ev.step (fun k => ?_) (ih (i + 1) (wrap64 (n + (o[i].length : Int))) (by omega) (by omega))
    rw [serifref06_Check.l0, if_pos h1, if_pos h2, if_pos h1, rdL2 hlt, nx64 (by omega)]
theorem chk_small (o : List (List S40)) (hm : memO o) (hb : o.length ≤ 256) (r : Int) (hr : Ev (fun k => serifref06_Check.j1 k o (decide (((tot o : Nat) : Int) > 4096))) r) : ∀ (d i : Nat) (n : Nat), o.length - i = d → i ≤ o.length → n ≤ 5864062014634 * i → n + tot (o.drop i) = tot o → Ev (fun k => serifref06_Check.l0 k o (n : Int) o (o.length : Int) (i : Int)) r := by
  intro d
  induction d with
  | zero =>
    intro i n e hi hn ht
    rw [List.drop_of_length_le (by omega)] at ht
    have ht : n = tot o := ht
    refine Ev.step (fun k => ?_) hr
    rw [serifref06_Check.l0, if_neg (by omega), if_neg (by omega), ht]
  | succ d ih =>
    intro i n e hi hn ht
    have hlt : i < o.length := by omega
    have hrow := hm.2 _ (List.getElem_mem hlt)
    have er : o.drop i = o[i] :: o.drop (i + 1) := List.drop_eq_getElem_cons hlt
    have h0 : tot (o.drop i) = o[i].length + tot (o.drop (i + 1)) := by rw [er]; unfold tot; rw [List.map_cons, List.sum_cons]
    have h1 : (i : Int) < (o.length : Int) := by omega
    have h2 : (0 : Int) ≤ (i : Int) := by omega
    refine Ev.step (fun k => ?_) (ih (i + 1) (n + o[i].length) (by omega) (by omega) (by omega) (by omega))
    rw [serifref06_Check.l0, if_pos h1, if_pos h2, if_pos h1, rdL2 hlt, nx64 (by omega), w64 (n := (n : Int) + (o[i].length : Int)) (by omega) (by omega)]
    rfl
theorem rcheck_ev (o : List (List S40)) (hm : memO o) : Ev (fun k => serifref06_Check.f k o) (CK o) := by
  unfold serifref06_Check.f CK
  by_cases c : 256 < o.length
  · rw [if_pos (Or.inl c)]; exact chk_big o hm c o.length 0 0 (by omega) (by omega)
  · refine chk_small o hm (by omega) _ ?_ o.length 0 0 (by omega) (by omega) (by omega) (by rw [List.drop_zero]; omega)
    by_cases c2 : 4096 < tot o
    · rw [if_pos (Or.inr c2)]
      refine Ev.step (f := fun _ => some 63) (fun k => ?_) (Ev.now _)
      rw [serifref06_Check.j1, decide_eq_true (by omega), if_pos rfl]
    · rw [if_neg (by omega)]
      have h := chk_l1 o hm o.length 0 (by omega) (by omega)
      rw [List.drop_zero] at h
      refine Ev.step (fun k => ?_) h
      rw [serifref06_Check.j1, decide_eq_false (by omega), if_neg (by simp)]; rfl
theorem copy_step (k : Nat) (o : List (List S40)) (i : Nat) (x3 : List (List S40)) (hm : memO o) (hlt : i < o.length) (hx : x3.length ≤ o.length) : serifref06_Copy.l0 (k + 1) x3 o (o.length : Int) (i : Int) = serifref06_Copy.l0 k (x3 ++ [o[i]]) o (o.length : Int) ((i + 1 : Nat) : Int) := by
  have hl := hm.1
  have hrow := hm.2 _ (List.getElem_mem hlt)
  have h1 : (i : Int) < (o.length : Int) := by omega
  have h2 : (0 : Int) ≤ (i : Int) := by omega
  have h3 : ([] : List S40).length + o[i].length < 5864062014805 := by
    have : ([] : List S40).length = 0 := rfl
    omega
  have h4 : x3.length < 5864062014805 := by omega
  rw [serifref06_Copy.l0, if_pos h1, if_pos h2, if_pos h1, Option.bind_some, rdL2 hlt, if_pos h3, if_pos h4, nx64 (by omega), List.nil_append]
theorem copy_l0 (o : List (List S40)) (hm : memO o) : ∀ (d i : Nat) (x3 : List (List S40)), o.length - i = d → i ≤ o.length → x3 = o.take i → Ev (fun k => serifref06_Copy.l0 k x3 o (o.length : Int) (i : Int)) o := by
  intro d
  induction d with
  | zero =>
    intro i x3 e hi hx
    refine Ev.step (f := fun _ => some o) (fun k => ?_) (Ev.now _)
    rw [serifref06_Copy.l0, if_neg (by omega), hx, List.take_of_length_le (by omega)]
  | succ d ih =>
    intro i x3 e hi hx
    have hlt : i < o.length := by omega
    refine Ev.step (fun k => copy_step k o i x3 hm hlt (by rw [hx, List.length_take]; omega)) (ih (i + 1) (x3 ++ [o[i]]) (by omega) (by omega) ?_)
    rw [hx, List.take_add_one, List.getElem?_eq_getElem hlt]; rfl
theorem copy_ev (o : List (List S40)) (hm : memO o) : Ev (fun k => serifref06_Copy.f k o) o := copy_l0 o hm o.length 0 [] (by omega) (by omega) rfl
theorem rdL4 {o : List (List S35)} {i : Nat} (h : i < o.length) : rd_L4 o (i : Int) = o[i] := by unfold rd_L4; rw [Int.toNat_natCast, List.getD_eq_getElem?_getD, List.getElem?_eq_getElem h]; rfl
theorem sameS_l1 (o : List (List S35)) (i : Nat) (hi : i < o.length) (hr : o[i].length ≤ 9000000000000000000) (r : Bool) (h : Ev (fun k => serifref06_SameSpots.l0 k o o (o.length : Int) (wrap64 ((i : Int) + 1))) r) : ∀ (d j : Nat), o[i].length - j = d → j ≤ o[i].length →
    Ev (fun k => serifref06_SameSpots.l1 k o o (i : Int) (o.length : Int) (i : Int) (o[i].length : Int) (j : Int)) r := by
  intro d
  induction d with
  | zero =>
    intro j e hj
    refine Ev.step (fun k => ?_) h
    rw [serifref06_SameSpots.l1, if_neg (by omega)]
  | succ d ih =>
    intro j e hj
    have hlt : j < o[i].length := by omega
    have h1 : (j : Int) < (o[i].length : Int) := by omega
    have h2 : (0 : Int) ≤ (j : Int) := by omega
    have h3 : (i : Int) < (o.length : Int) := by omega
    have h4 : (0 : Int) ≤ (i : Int) := by omega
    refine Ev.step (fun k => ?_) (ih (j + 1) (by omega) (by omega))
    rw [serifref06_SameSpots.l1, rdL4 hi, if_pos h1, if_pos h4, if_pos h3, if_pos h2, if_pos h1, if_pos h3, if_pos h1, if_neg (by simp), nx64 (by omega)]
theorem sameS_l0 (o : List (List S35)) (hl : o.length ≤ 9000000000000000000) (hr : ∀ c ∈ o, c.length ≤ 9000000000000000000) : ∀ (d i : Nat), o.length - i = d → i ≤ o.length → Ev (fun k => serifref06_SameSpots.l0 k o o (o.length : Int) (i : Int)) true := by
  intro d
  induction d with
  | zero =>
    intro i e hi
    refine Ev.step (f := fun _ => some true) (fun k => ?_) (Ev.now _)
    rw [serifref06_SameSpots.l0, if_neg (by omega)]
  | succ d ih =>
    intro i e hi
    have hlt : i < o.length := by omega
    have h1 : (i : Int) < (o.length : Int) := by omega
    have h2 : (0 : Int) ≤ (i : Int) := by omega
    have h := ih (i + 1) (by omega) (by omega)
    rw [← nx64 (by omega)] at h
    have h := sameS_l1 o i hlt (hr _ (List.getElem_mem hlt)) true h o[i].length 0 (by omega) (by omega)
    refine Ev.step (fun k => ?_) h
    rw [serifref06_SameSpots.l0, if_pos h1, if_pos h2, if_pos h1, if_pos h1, rdL4 hlt, if_pos rfl]; rfl
theorem sameS_ev (o : List (List S35)) (hl : o.length ≤ 9000000000000000000) (hr : ∀ c ∈ o, c.length ≤ 9000000000000000000) : Ev (fun k => serifref06_SameSpots.f k o o) true := by
  unfold serifref06_SameSpots.f
  simp only [if_true]
  exact sameS_l0 o hl hr o.length 0 (by omega) (by omega)
end Go.Proofs.Ytmlkpadlafjfeaa.P
