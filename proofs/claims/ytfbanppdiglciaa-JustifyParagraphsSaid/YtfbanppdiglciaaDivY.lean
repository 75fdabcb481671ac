/- What bits.Mul64, bits.Len64, bits.LeadingZeros64 and bits.Div64 answer, in plain arithmetic. -/
import Derived.Test.YtfbanppdiglciaaYx0
import Derived.Test.YtfbanppdiglciaaYx9
import Derived.Laws.Bits64b
set_option linter.unusedVariables false
set_option linter.unusedSimpArgs false
namespace Go.Proofs.Ytfbanppdiglciaa.Y
open Go Go.RowKit Go.Proofs.YtfbanppdiglciaaW.PrintWords Go.Proofs.YtfbanppdiglciaaW.PrintLast Go.Proofs.YtfbanppdiglciaaW.PrintMore

theorem Ev.intro {α : Type} {g : Nat → Option α} {r : α} (m : Nat) (h : ∀ k, g (k + m) = some r) : Ev g r :=
  ⟨m, fun k hk => by have := h (k - m); rwa [Nat.sub_add_cancel hk] at this⟩
theorem Ev.shift {α : Type} {g f : Nat → Option α} {r : α} (m : Nat) (h : ∀ k, g (k + m) = f k) (k : Ev f r) : Ev g r := by
  obtain ⟨K, hK⟩ := k
  exact ⟨K + m, fun k hk => by have := h (k - m); rw [Nat.sub_add_cancel (by omega)] at this; rw [this]; exact hK _ (by omega)⟩

/-! arithmetic of the digit step -/
theorem dig_lt (y v1 v0 u d q r : Int) (hy : y = v1 * 4294967296 + v0) (hq : q * v1 + r = u) : (q * v0 > 4294967296 * r + d) ↔ (q * y > u * 4294967296 + d) := by
  have : q * y = (q * v1) * 4294967296 + q * v0 := by subst hy; grind
  omega
theorem le_of_mul_le {a b y : Int} (hy : 0 < y) (h : a * y < (b + 1) * y) : a ≤ b := by
  have := Int.lt_of_mul_lt_mul_right h (Int.le_of_lt hy)
  omega
theorem wrap_u (n : Int) : IntKind.u64.wrap n = n % 18446744073709551616 := IntKind.wrap_u64 n
theorem wrap_u_in {n : Int} (h0 : 0 ≤ n) (h1 : n < 18446744073709551616) : IntKind.u64.wrap n = n := by rw [wrap_u]; omega
theorem mul_lt_of {a b A B : Int} (ha : 0 ≤ a) (hb : 0 ≤ b) (hA : a ≤ A) (hB : b ≤ B) : a * b ≤ A * B :=
  Int.le_trans (Int.mul_le_mul_of_nonneg_right hA hb) (Int.mul_le_mul_of_nonneg_left hB (by omega))

/-- What is asked of a digit's step: y = v1 v0 is normal, u below it. -/
structure Dig (y v1 v0 u d qs : Int) : Prop where
  hy : y = v1 * 4294967296 + v0
  h1 : 2147483648 ≤ v1
  h1' : v1 < 4294967296
  h0 : 0 ≤ v0
  h0' : v0 < 4294967296
  hu : 0 ≤ u
  hu' : u < y
  hd : 0 ≤ d
  hd' : d < 4294967296
  lo : qs * y ≤ u * 4294967296 + d
  hi : u * 4294967296 + d < (qs + 1) * y

theorem Dig.qs_nonneg {y v1 v0 u d qs : Int} (D : Dig y v1 v0 u d qs) : 0 ≤ qs := by
  have := D.hi; have hy := D.hy; have h1 := D.h1; have hu := D.hu; have hd := D.hd; have h0 := D.h0
  by_cases h : 0 ≤ qs
  · exact h
  · have : (qs + 1) * y ≤ 0 * y := Int.mul_le_mul_of_nonneg_right (by omega) (by omega)
    omega
theorem Dig.qs_lt {y v1 v0 u d qs : Int} (D : Dig y v1 v0 u d qs) : qs < 4294967296 := by
  have h1 := D.lo; have hu := D.hu'; have hd := D.hd'
  by_cases h : qs < 4294967296
  · exact h
  · have : 4294967296 * y ≤ qs * y := Int.mul_le_mul_of_nonneg_right (by omega) (by have := D.hu; omega)
    omega

/-- The state of a digit's loop. -/
structure DigSt (v1 u qs q r : Int) : Prop where
  e : q * v1 + r = u
  ge : qs ≤ q
  le : q ≤ 4294967297
  r0 : 0 ≤ r
  r1 : r < 4294967296

theorem Dig.start {y v1 v0 u d qs : Int} (D : Dig y v1 v0 u d qs) : DigSt v1 u qs (u / v1) (u - u / v1 * v1) := by
  have hv := D.h1; have hv' := D.h1'; have hu := D.hu; have hu' := D.hu'; have hy := D.hy; have h0' := D.h0'; have h0 := D.h0
  have e1 := Int.emod_add_mul_ediv u v1
  have e2 := Int.emod_nonneg u (show v1 ≠ 0 by omega)
  have e3 := Int.emod_lt_of_pos u (show 0 < v1 by omega)
  have e4 : u / v1 * v1 = v1 * (u / v1) := Int.mul_comm _ _
  have q0 : 0 ≤ u / v1 := Int.ediv_nonneg hu (by omega)
  refine ⟨by omega, ?_, ?_, by omega, by omega⟩
  · -- qs y ≤ u B + d, qs v1 B ≤ u B + d
    have l := D.lo; have hd' := D.hd'; have n := D.qs_nonneg
    have : qs * y = (qs * v1) * 4294967296 + qs * v0 := by rw [hy]; grind
    have p : 0 ≤ qs * v0 := Int.mul_nonneg n h0
    have : qs * v1 ≤ u := by omega
    exact le_of_mul_le (y := v1) (by omega) (by rw [Int.add_mul]; omega)
  · refine le_of_mul_le (y := v1) (by omega) ?_
    rw [e4]; omega

/-- The test of a digit's loop. -/
def digB (v0 d q r : Int) : Bool := if q ≥ 4294967296 then true else decide ((IntKind.u64.wrap (q * v0)) > (IntKind.u64.wrap ((IntKind.u64.wrap (4294967296 * r)) + d)))
theorem DigSt.test {y v1 v0 u d qs q r : Int} (D : Dig y v1 v0 u d qs) (S : DigSt v1 u qs q r) : digB v0 d q r = true ↔ qs < q := by
  have h0 := D.h0; have h0' := D.h0'; have hd := D.hd; have hd' := D.hd'; have r0 := S.r0; have r1 := S.r1; have hl := D.qs_lt; have hn := D.qs_nonneg; have hg := S.ge
  unfold digB
  split
  · simp; omega
  · rename_i hq
    have b : q * v0 ≤ 4294967295 * 4294967295 := mul_lt_of (by omega) h0 (by omega) (by omega)
    have b0 : 0 ≤ q * v0 := Int.mul_nonneg (by omega) h0
    rw [wrap_u_in (n := q * v0) b0 (by omega), wrap_u_in (n := 4294967296 * r) (by omega) (by omega), wrap_u_in (n := 4294967296 * r + d) (by omega) (by omega)]
    have t := dig_lt y v1 v0 u d q r D.hy S.e
    simp only [decide_eq_true_eq]
    rw [t]
    have ypos : 0 < y := by have := D.hu; have := D.hu'; omega
    constructor
    · intro h
      have l := D.lo
      by_cases c : qs < q
      · exact c
      · have : q * y ≤ qs * y := Int.mul_le_mul_of_nonneg_right (by omega) (by omega)
        omega
    · intro h
      have l := D.hi
      have : (qs + 1) * y ≤ q * y := Int.mul_le_mul_of_nonneg_right (by omega) (by omega)
      omega
theorem DigSt.next {y v1 v0 u d qs q r : Int} (D : Dig y v1 v0 u d qs) (S : DigSt v1 u qs q r) (h : qs < q) (hr : r + v1 < 4294967296) : DigSt v1 u qs (q - 1) (r + v1) :=
  ⟨by have := S.e; rw [Int.sub_mul]; omega, by omega, by have := S.le; omega, by have := S.r0; have := D.h1; omega, hr⟩
theorem DigSt.break {y v1 v0 u d qs q r : Int} (D : Dig y v1 v0 u d qs) (S : DigSt v1 u qs q r) (h : qs < q) (hr : 4294967296 ≤ r + v1) : q - 1 = qs := by
  have h0 := D.h0; have h0' := D.h0'; have hl := S.le; have hn := D.qs_nonneg
  have b : (q - 1) * v0 ≤ 4294967296 * 4294967295 := mul_lt_of (by omega) h0 (by omega) (by omega)
  have t := dig_lt y v1 v0 u d (q - 1) (r + v1) D.hy (by have := S.e; rw [Int.sub_mul]; omega)
  have ypos : 0 < y := by have := D.hu; have := D.hu'; omega
  have : ¬ ((q - 1) * v0 > 4294967296 * (r + v1) + d) := by have := D.hd; omega
  rw [t] at this
  have l := D.hi
  have : q - 1 ≤ qs := le_of_mul_le ypos (by omega)
  omega

theorem l0_ev {y s v1 v0 u d un0 qs : Int} (D : Dig y v1 v0 u d qs) : ∀ (n : Nat) (q r : Int), (q - qs).toNat = n → DigSt v1 u qs q r →
    ∃ m, ∀ k, bits_Div64.l0 (k + m) y s v1 v0 u d un0 q r = bits_Div64.j2 k y s v1 v0 u d un0 qs := by
  have h1 := D.h1; have h1' := D.h1'; have hn := D.qs_nonneg
  intro n
  induction n with
  | zero =>
    intro q r e S
    have hg := S.ge
    have hq : q = qs := by omega
    refine ⟨2, fun k => ?_⟩
    have t := S.test D
    have tf : digB v0 d q r = false := by
      cases h : digB v0 d q r with
      | false => rfl
      | true => have := t.1 h; omega
    have : bits_Div64.l0 (k + 2) y s v1 v0 u d un0 q r = bits_Div64.j1 (k + 1) y s v1 v0 u d un0 q r (digB v0 d q r) := by
      rw [show k + 2 = (k + 1) + 1 from rfl]; simp only [bits_Div64.l0]; unfold digB; split <;> simp_all
    rw [this, tf]
    simp only [bits_Div64.j1, hq]; simp
  | succ n ih =>
    intro q r e S
    have r0 := S.r0; have r1 := S.r1; have hl := S.le
    have hlt : qs < q := by omega
    have tt := (S.test D).2 hlt
    have one : ∀ k, bits_Div64.l0 (k + 2) y s v1 v0 u d un0 q r = bits_Div64.j1 (k + 1) y s v1 v0 u d un0 q r true := by
      intro k
      rw [← tt, show k + 2 = (k + 1) + 1 from rfl]; simp only [bits_Div64.l0]; unfold digB; split <;> simp_all
    have w1 : IntKind.u64.wrap (r + v1) = r + v1 := wrap_u_in (by omega) (by omega)
    have w2 : IntKind.u64.wrap (q - 1) = q - 1 := wrap_u_in (by omega) (by omega)
    by_cases hb : 4294967296 ≤ r + v1
    · refine ⟨2, fun k => ?_⟩
      rw [one]; simp only [bits_Div64.j1, w1, w2]
      rw [if_pos trivial, if_pos hb, S.break D hlt hb]
    · obtain ⟨m, hm⟩ := ih (q - 1) (r + v1) (by omega) (S.next D hlt (by omega))
      refine ⟨m + 2, fun k => ?_⟩
      rw [show k + (m + 2) = (k + m) + 2 by omega, one]; simp only [bits_Div64.j1, w1, w2]
      rw [if_pos trivial, if_neg hb, hm]

/-- What the second digit's loop ends in. -/
def divEnd (y s q1 un21 un0 q0 : Int) : Int × Int := (IntKind.u64.wrap ((IntKind.u64.wrap (q1 * 4294967296)) + q0), shr .u64 (IntKind.u64.wrap ((IntKind.u64.wrap ((IntKind.u64.wrap (un21 * 4294967296)) + un0)) - (IntKind.u64.wrap (q0 * y)))) s)
theorem l1_ev {y s v1 v0 q1 u d qs : Int} (hs : 0 ≤ s) (D : Dig y v1 v0 u d qs) : ∀ (n : Nat) (q r : Int), (q - qs).toNat = n → DigSt v1 u qs q r →
    ∃ m, ∀ k, bits_Div64.l1 (k + m) y s v1 v0 d q1 r u q = some (divEnd y s q1 u d qs) := by
  have h1 := D.h1; have h1' := D.h1'; have hn := D.qs_nonneg
  intro n
  induction n with
  | zero =>
    intro q r e S
    have hg := S.ge
    have hq : q = qs := by omega
    refine ⟨2, fun k => ?_⟩
    have t := S.test D
    have tf : digB v0 d q r = false := by
      cases h : digB v0 d q r with
      | false => rfl
      | true => have := t.1 h; omega
    have : bits_Div64.l1 (k + 2) y s v1 v0 d q1 r u q = bits_Div64.j4 (k + 1) y s v1 v0 d q1 r u q (digB v0 d q r) := by
      rw [show k + 2 = (k + 1) + 1 from rfl]; simp only [bits_Div64.l1]; unfold digB; split <;> simp_all
    rw [this, tf]
    simp only [bits_Div64.j4, hq]; simp [hs, divEnd]
  | succ n ih =>
    intro q r e S
    have r0 := S.r0; have r1 := S.r1; have hl := S.le
    have hlt : qs < q := by omega
    have tt := (S.test D).2 hlt
    have one : ∀ k, bits_Div64.l1 (k + 2) y s v1 v0 d q1 r u q = bits_Div64.j4 (k + 1) y s v1 v0 d q1 r u q true := by
      intro k
      rw [← tt, show k + 2 = (k + 1) + 1 from rfl]; simp only [bits_Div64.l1]; unfold digB; split <;> simp_all
    have w1 : IntKind.u64.wrap (r + v1) = r + v1 := wrap_u_in (by omega) (by omega)
    have w2 : IntKind.u64.wrap (q - 1) = q - 1 := wrap_u_in (by omega) (by omega)
    by_cases hb : 4294967296 ≤ r + v1
    · refine ⟨2, fun k => ?_⟩
      rw [one]; simp only [bits_Div64.j4, w1, w2]
      rw [if_pos trivial, if_pos hb, if_pos hs, S.break D hlt hb]; rfl
    · obtain ⟨m, hm⟩ := ih (q - 1) (r + v1) (by omega) (S.next D hlt (by omega))
      refine ⟨m + 2, fun k => ?_⟩
      rw [show k + (m + 2) = (k + m) + 2 by omega, one]; simp only [bits_Div64.j4, w1, w2]
      rw [if_pos trivial, if_neg hb, hm]
end Go.Proofs.Ytfbanppdiglciaa.Y
