import Derived.Test.YtmlkpadlafjfeaaPx12
import Derived.Laws.Bits64b
import Derived.Test.YtmlkpadlafjfeaaPx90
import Derived.Test.YtmlkpadlafjfeaaPx13
import Derived.Test.YtmlkpadlafjfeaaPx14
import Derived.Test.YtmlkpadlafjfeaaPx15
import Derived.Test.YtmlkpadlafjfeaaPx20
import Derived.Test.YtmlkpadlafjfeaaPathCubP
import Derived.Test.YtmlkpadlafjfeaaPx16
import Derived.Test.YtmlkpadlafjfeaaPx23
import Derived.Test.YtmlkpadlafjfeaaPx5
import Derived.Test.YtmlkpadlafjfeaaPx24
import Derived.Test.YtmlkpadlafjfeaaLongP
import Derived.Test.YtmlkpadlafjfeaaPx54
import Derived.Test.YtmlkpadlafjfeaaPx58
import Derived.Test.YtmlkpadlafjfeaaPx59
import Derived.Test.YtmlkpadlafjfeaaPx70
import Derived.Test.YtmlkpadlafjfeaaPx25
import Derived.Test.YtmlkpadlafjfeaaPx26
import Derived.Test.YtmlkpadlafjfeaaPx31
import Derived.Test.YtmlkpadlafjfeaaPx53
import Derived.Test.YtmlkpadlafjfeaaPx60
import Derived.Test.YtmlkpadlafjfeaaPx61
import Derived.Test.YtmlkpadlafjfeaaPx40
set_option linter.unusedVariables false
set_option linter.unusedSimpArgs false
namespace Go.Proofs.Ytmlkpadlafjfeaa.P
open Go Go.RowKit Go.Proofs.YtmlkpadlafjfeaaW.PrintWords Go.Proofs.YtmlkpadlafjfeaaW.PrintLast Go.Proofs.YtmlkpadlafjfeaaW.PrintMore
theorem Ev.intro {α : Type} {g : Nat → Option α} {r : α} (m : Nat) (h : ∀ k, g (k + m) = some r) : Ev g r :=
  ⟨m, fun k hk => by have := h (k - m); rwa [Nat.sub_add_cancel hk] at this⟩
theorem Ev.shift {α : Type} {g f : Nat → Option α} {r : α} (m : Nat) (h : ∀ k, g (k + m) = f k) (k : Ev f r) : Ev g r := by
  obtain ⟨K, hK⟩ := k
  exact ⟨K + m, fun k hk => by have := h (k - m); rw [Nat.sub_add_cancel (by omega)] at this; rw [this]; exact hK _ (by omega)⟩
theorem dig_lt (y v1 v0 u d q r : Int) (hy : y = v1 * 4294967296 + v0) (hq : q * v1 + r = u) : (q * v0 > 4294967296 * r + d) ↔ (q * y > u * 4294967296 + d) := by
  have : q * y = (q * v1) * 4294967296 + q * v0 := by subst hy; grind
  omega
theorem Jj {a b y : Int} (hy : 0 < y) (h : a * y < (b + 1) * y) : a ≤ b := by
  have := Int.lt_of_mul_lt_mul_right h (Int.le_of_lt hy)
  omega
theorem Jk (n : Int) : IntKind.u64.wrap n = n % 18446744073709551616 := IntKind.wrap_u64 n
theorem zQ {n : Int} (h0 : 0 ≤ n) (h1 : n < 18446744073709551616) : IntKind.u64.wrap n = n := by rw [Jk]; omega
theorem QA {a b A B : Int} (ha : 0 ≤ a) (hb : 0 ≤ b) (hA : a ≤ A) (hB : b ≤ B) : a * b ≤ A * B :=
  Int.le_trans (Int.mul_le_mul_of_nonneg_right hA hb) (Int.mul_le_mul_of_nonneg_left hB (by omega))
structure Dig (y v1 v0 u d qs : Int) : Prop where
  hy : y = v1 * 4294967296 + v0
  h1 : 2147483648 ≤ v1
  h1' : v1 < 4294967296
  h0 : 0 ≤ v0
  h0' : v0 < 4294967296
  hu : 0 ≤ u
  hu' : u < y
  hd : 0 ≤ d
  hd' : d < 4294967296
  lo : qs * y ≤ u * 4294967296 + d
  hi : u * 4294967296 + d < (qs + 1) * y
theorem Dig.Zi {y v1 v0 u d qs : Int} (D : Dig y v1 v0 u d qs) : 0 ≤ qs := by
  have := D.hi; have hy := D.hy; have h1 := D.h1; have hu := D.hu; have hd := D.hd; have h0 := D.h0
  by_cases h : 0 ≤ qs
  · exact h
  · have : (qs + 1) * y ≤ 0 * y := Int.mul_le_mul_of_nonneg_right (by omega) (by omega)
    omega
theorem Dig.qs_lt {y v1 v0 u d qs : Int} (D : Dig y v1 v0 u d qs) : qs < 4294967296 := by
  have h1 := D.lo; have hu := D.hu'; have hd := D.hd'
  by_cases h : qs < 4294967296
  · exact h
  · have : 4294967296 * y ≤ qs * y := Int.mul_le_mul_of_nonneg_right (by omega) (by have := D.hu; omega)
    omega
structure ZW (v1 u qs q r : Int) : Prop where
  e : q * v1 + r = u
  ge : qs ≤ q
  le : q ≤ 4294967297
  r0 : 0 ≤ r
  r1 : r < 4294967296
theorem Dig.start {y v1 v0 u d qs : Int} (D : Dig y v1 v0 u d qs) : ZW v1 u qs (u / v1) (u - u / v1 * v1) := by
  have hv := D.h1; have hv' := D.h1'; have hu := D.hu; have hu' := D.hu'; have hy := D.hy; have h0' := D.h0'; have h0 := D.h0
  have e1 := Int.emod_add_mul_ediv u v1
  have e2 := Int.emod_nonneg u (show v1 ≠ 0 by omega)
  have e3 := Int.emod_lt_of_pos u (show 0 < v1 by omega)
  have e4 : u / v1 * v1 = v1 * (u / v1) := Int.mul_comm _ _
  have q0 : 0 ≤ u / v1 := Int.ediv_nonneg hu (by omega)
  refine ⟨by omega, ?_, ?_, by omega, by omega⟩
  ·
    have l := D.lo; have hd' := D.hd'; have n := D.Zi
    have : qs * y = (qs * v1) * 4294967296 + qs * v0 := by rw [hy]; grind
    have p : 0 ≤ qs * v0 := Int.mul_nonneg n h0
    have : qs * v1 ≤ u := by omega
    exact Jj (y := v1) (by omega) (by rw [Int.add_mul]; omega)
  · refine Jj (y := v1) (by omega) ?_
    rw [e4]; omega
def Z9 (v0 d q r : Int) : Bool := if q ≥ 4294967296 then true else decide ((IntKind.u64.wrap (q * v0)) > (IntKind.u64.wrap ((IntKind.u64.wrap (4294967296 * r)) + d)))
theorem ZW.test {y v1 v0 u d qs q r : Int} (D : Dig y v1 v0 u d qs) (S : ZW v1 u qs q r) : Z9 v0 d q r = true ↔ qs < q := by
  have h0 := D.h0; have h0' := D.h0'; have hd := D.hd; have hd' := D.hd'; have r0 := S.r0; have r1 := S.r1; have hl := D.qs_lt; have hn := D.Zi; have hg := S.ge
  unfold Z9
  split
  · simp; omega
  · rename_i hq
    have b : q * v0 ≤ 4294967295 * 4294967295 := QA (by omega) h0 (by omega) (by omega)
    have b0 : 0 ≤ q * v0 := Int.mul_nonneg (by omega) h0
    rw [zQ (n := q * v0) b0 (by omega), zQ (n := 4294967296 * r) (by omega) (by omega), zQ (n := 4294967296 * r + d) (by omega) (by omega)]
    have t := dig_lt y v1 v0 u d q r D.hy S.e
    simp only [decide_eq_true_eq]
    rw [t]
    have ypos : 0 < y := by have := D.hu; have := D.hu'; omega
    constructor
    · intro h
      have l := D.lo
      by_cases c : qs < q
      · exact c
      · have : q * y ≤ qs * y := Int.mul_le_mul_of_nonneg_right (by omega) (by omega)
        omega
    · intro h
      have l := D.hi
      have : (qs + 1) * y ≤ q * y := Int.mul_le_mul_of_nonneg_right (by omega) (by omega)
      omega
theorem ZW.next {y v1 v0 u d qs q r : Int} (D : Dig y v1 v0 u d qs) (S : ZW v1 u qs q r) (h : qs < q) (hr : r + v1 < 4294967296) : ZW v1 u qs (q - 1) (r + v1) :=
  ⟨by have := S.e; rw [Int.sub_mul]; omega, by omega, by have := S.le; omega, by have := S.r0; have := D.h1; omega, hr⟩
theorem ZW.break {y v1 v0 u d qs q r : Int} (D : Dig y v1 v0 u d qs) (S : ZW v1 u qs q r) (h : qs < q) (hr : 4294967296 ≤ r + v1) : q - 1 = qs := by
  have h0 := D.h0; have h0' := D.h0'; have hl := S.le; have hn := D.Zi
  have b : (q - 1) * v0 ≤ 4294967296 * 4294967295 := QA (by omega) h0 (by omega) (by omega)
  have t := dig_lt y v1 v0 u d (q - 1) (r + v1) D.hy (by have := S.e; rw [Int.sub_mul]; omega)
  have ypos : 0 < y := by have := D.hu; have := D.hu'; omega
  have : ¬ ((q - 1) * v0 > 4294967296 * (r + v1) + d) := by have := D.hd; omega
  rw [t] at this
  have l := D.hi
  have : q - 1 ≤ qs := Jj ypos (by omega)
  omega
theorem l0_ev {y s v1 v0 u d un0 qs : Int} (D : Dig y v1 v0 u d qs) : ∀ (n : Nat) (q r : Int), (q - qs).toNat = n → ZW v1 u qs q r →
    ∃ m, ∀ k, qD.l0 (k + m) y s v1 v0 u d un0 q r = qD.j2 k y s v1 v0 u d un0 qs := by
  have h1 := D.h1; have h1' := D.h1'; have hn := D.Zi
  intro n
  induction n with
  | zero =>
    intro q r e S
    have hg := S.ge
    have hq : q = qs := by omega
    refine ⟨2, fun k => ?_⟩
    have t := S.test D
    have tf : Z9 v0 d q r = false := by
      cases h : Z9 v0 d q r with
      | false => rfl
      | true => have := t.1 h; omega
    have : qD.l0 (k + 2) y s v1 v0 u d un0 q r = qD.j1 (k + 1) y s v1 v0 u d un0 q r (Z9 v0 d q r) := by
      rw [show k + 2 = (k + 1) + 1 from rfl]; simp only [qD.l0]; unfold Z9; split <;> simp_all
    rw [this, tf]
    simp only [qD.j1, hq]; simp
  | succ n ih =>
    intro q r e S
    have r0 := S.r0; have r1 := S.r1; have hl := S.le
    have hlt : qs < q := by omega
    have tt := (S.test D).2 hlt
    have one : ∀ k, qD.l0 (k + 2) y s v1 v0 u d un0 q r = qD.j1 (k + 1) y s v1 v0 u d un0 q r true := by
      intro k
      rw [← tt, show k + 2 = (k + 1) + 1 from rfl]; simp only [qD.l0]; unfold Z9; split <;> simp_all
    have w1 : IntKind.u64.wrap (r + v1) = r + v1 := zQ (by omega) (by omega)
    have w2 : IntKind.u64.wrap (q - 1) = q - 1 := zQ (by omega) (by omega)
    by_cases hb : 4294967296 ≤ r + v1
    · refine ⟨2, fun k => ?_⟩
      rw [one]; simp only [qD.j1, w1, w2]
      rw [if_pos trivial, if_pos hb, S.break D hlt hb]
    · obtain ⟨m, hm⟩ := ih (q - 1) (r + v1) (by omega) (S.next D hlt (by omega))
      refine ⟨m + 2, fun k => ?_⟩
      rw [show k + (m + 2) = (k + m) + 2 by omega, one]; simp only [qD.j1, w1, w2]
      rw [if_pos trivial, if_neg hb, hm]
def divEnd (y s q1 un21 un0 q0 : Int) : Int × Int := (IntKind.u64.wrap ((IntKind.u64.wrap (q1 * 4294967296)) + q0), shr .u64 (IntKind.u64.wrap ((IntKind.u64.wrap ((IntKind.u64.wrap (un21 * 4294967296)) + un0)) - (IntKind.u64.wrap (q0 * y)))) s)
theorem l1_ev {y s v1 v0 q1 u d qs : Int} (hs : 0 ≤ s) (D : Dig y v1 v0 u d qs) : ∀ (n : Nat) (q r : Int), (q - qs).toNat = n → ZW v1 u qs q r →
    ∃ m, ∀ k, qD.l1 (k + m) y s v1 v0 d q1 r u q = some (divEnd y s q1 u d qs) := by
  have h1 := D.h1; have h1' := D.h1'; have hn := D.Zi
  intro n
  induction n with
  | zero =>
    intro q r e S
    have hg := S.ge
    have hq : q = qs := by omega
    refine ⟨2, fun k => ?_⟩
    have t := S.test D
    have tf : Z9 v0 d q r = false := by
      cases h : Z9 v0 d q r with
      | false => rfl
      | true => have := t.1 h; omega
    have : qD.l1 (k + 2) y s v1 v0 d q1 r u q = qD.j4 (k + 1) y s v1 v0 d q1 r u q (Z9 v0 d q r) := by
      rw [show k + 2 = (k + 1) + 1 from rfl]; simp only [qD.l1]; unfold Z9; split <;> simp_all
    rw [this, tf]
    simp only [qD.j4, hq]; simp [hs, divEnd]
  | succ n ih =>
    intro q r e S
    have r0 := S.r0; have r1 := S.r1; have hl := S.le
    have hlt : qs < q := by omega
    have tt := (S.test D).2 hlt
    have one : ∀ k, qD.l1 (k + 2) y s v1 v0 d q1 r u q = qD.j4 (k + 1) y s v1 v0 d q1 r u q true := by
      intro k
      rw [← tt, show k + 2 = (k + 1) + 1 from rfl]; simp only [qD.l1]; unfold Z9; split <;> simp_all
    have w1 : IntKind.u64.wrap (r + v1) = r + v1 := zQ (by omega) (by omega)
    have w2 : IntKind.u64.wrap (q - 1) = q - 1 := zQ (by omega) (by omega)
    by_cases hb : 4294967296 ≤ r + v1
    · refine ⟨2, fun k => ?_⟩
      rw [one]; simp only [qD.j4, w1, w2]
      rw [if_pos trivial, if_pos hb, if_pos hs, S.break D hlt hb]; rfl
    · obtain ⟨m, hm⟩ := ih (q - 1) (r + v1) (by omega) (S.next D hlt (by omega))
      refine ⟨m + 2, fun k => ?_⟩
      rw [show k + (m + 2) = (k + m) + 2 by omega, one]; simp only [qD.j4, w1, w2]
      rw [if_pos trivial, if_neg hb, hm]
end Go.Proofs.Ytmlkpadlafjfeaa.P
set_option linter.unusedVariables false
set_option linter.unusedSimpArgs false
namespace Go.Proofs.Ytmlkpadlafjfeaa.P
open Go Go.RowKit Go.Proofs.YtmlkpadlafjfeaaW.PrintWords Go.Proofs.YtmlkpadlafjfeaaW.PrintLast Go.Proofs.YtmlkpadlafjfeaaW.PrintMore
def len8 : ByteArray := ⟨#[0, 1, 2, 2, 3, 3, 3, 3, 4, 4, 4, 4, 4, 4, 4, 4, 5, 5, 5, 5, 5, 5, 5, 5, 5, 5, 5, 5, 5, 5, 5, 5, 6, 6, 6, 6, 6, 6, 6, 6, 6, 6, 6, 6, 6, 6, 6, 6, 6, 6, 6, 6, 6, 6, 6, 6, 6, 6, 6, 6, 6, 6, 6, 6, 7, 7, 7, 7, 7, 7, 7, 7, 7, 7, 7, 7, 7, 7, 7, 7, 7, 7, 7, 7, 7, 7, 7, 7, 7, 7, 7, 7, 7, 7, 7, 7, 7, 7, 7, 7, 7, 7, 7, 7, 7, 7, 7, 7, 7, 7, 7, 7, 7, 7, 7, 7, 7, 7, 7, 7, 7, 7, 7, 7, 7, 7, 7, 7, 8, 8, 8, 8, 8, 8, 8, 8, 8, 8, 8, 8, 8, 8, 8, 8, 8, 8, 8, 8, 8, 8, 8, 8, 8, 8, 8, 8, 8, 8, 8, 8, 8, 8, 8, 8, 8, 8, 8, 8, 8, 8, 8, 8, 8, 8, 8, 8, 8, 8, 8, 8, 8, 8, 8, 8, 8, 8, 8, 8, 8, 8, 8, 8, 8, 8, 8, 8, 8, 8, 8, 8, 8, 8, 8, 8, 8, 8, 8, 8, 8, 8, 8, 8, 8, 8, 8, 8, 8, 8, 8, 8, 8, 8, 8, 8, 8, 8, 8, 8, 8, 8, 8, 8, 8, 8, 8, 8, 8, 8, 8, 8, 8, 8, 8, 8, 8, 8, 8, 8, 8, 8, 8, 8, 8, 8, 8, 8]⟩
def lenOk (x L : Nat) : Bool := decide (L ≤ 8) && decide (x < 2 ^ L) && (L == 0 || decide (2 ^ (L - 1) ≤ x)) && (decide (x = 0) || L != 0)
theorem len8_all : ∀ i : Fin 256, lenOk i.1 (bt len8 (i.1 : Int)).toNat = true := by decide +kernel
theorem bt_nn (s : ByteArray) (i : Int) : 0 ≤ bt s i := by unfold bt; split <;> omega
theorem len8_at {x : Int} (h0 : 0 ≤ x) (h1 : x < 256) : ∃ L : Nat, bt len8 x = (L : Int) ∧ L ≤ 8 ∧ x < 2 ^ L ∧ (x ≠ 0 → 1 ≤ L ∧ (2 : Int) ^ (L - 1) ≤ x) := by
  obtain ⟨n, rfl⟩ := Int.eq_ofNat_of_zero_le h0
  have hn : n < 256 := by omega
  have h := len8_all ⟨n, hn⟩
  have e : bt len8 (n : Int) = ((bt len8 (n : Int)).toNat : Int) := by have := bt_nn len8 n; omega
  refine ⟨(bt len8 (n : Int)).toNat, e, ?_⟩
  generalize (bt len8 (n : Int)).toNat = L at h
  simp only [lenOk, Bool.and_eq_true, Bool.or_eq_true, decide_eq_true_eq, bne_iff_ne, beq_iff_eq] at h
  obtain ⟨⟨⟨a, b⟩, c⟩, d⟩ := h
  refine ⟨a, by exact_mod_cast b, fun hx => ?_⟩
  have hl : L ≠ 0 := by rcases d with d | d <;> omega
  refine ⟨by omega, ?_⟩
  rcases c with c | c
  · exact absurd c hl
  · exact_mod_cast c
def JU (x : Int) (L : Int) : Prop := ∃ n : Nat, L = n ∧ n ≤ 64 ∧ x < 2 ^ n ∧ (x ≠ 0 → 1 ≤ n ∧ (2 : Int) ^ (n - 1) ≤ x)
theorem JU.up {x : Int} {L : Nat} (m : Nat) (hx : 0 < x / 2 ^ m) (hL : L ≤ 64 - m) (hm : m ≤ 64) (h1 : x / 2 ^ m < 2 ^ L) (h2 : x / 2 ^ m ≠ 0 → 1 ≤ L ∧ (2 : Int) ^ (L - 1) ≤ x / 2 ^ m) : JU x (m + L : Nat) := by
  have p : (0 : Int) < 2 ^ m := Int.pow_pos (by decide)
  obtain ⟨l1, l2⟩ := h2 (by omega)
  have a : x < (x / 2 ^ m + 1) * 2 ^ m := by
    have := Int.emod_add_mul_ediv x (2 ^ m); have := Int.emod_lt_of_pos x p
    rw [Int.add_mul, Int.mul_comm (x / 2 ^ m)]; omega
  have b : x / 2 ^ m * 2 ^ m ≤ x := Int.ediv_mul_le x (by omega)
  refine ⟨m + L, by omega, by omega, ?_, fun _ => ⟨by omega, ?_⟩⟩
  · have : (x / 2 ^ m + 1) * 2 ^ m ≤ 2 ^ L * 2 ^ m := Int.mul_le_mul_of_nonneg_right (by omega) (by omega)
    rw [Int.pow_add, Int.mul_comm (2 ^ m)]; omega
  · have : 2 ^ (L - 1) * 2 ^ m ≤ x / 2 ^ m * 2 ^ m := Int.mul_le_mul_of_nonneg_right l2 (by omega)
    rw [show m + L - 1 = m + (L - 1) by omega, Int.pow_add, Int.mul_comm (2 ^ m)]; omega
theorem je {n : Int} (h0 : -9223372036854775808 ≤ n) (h1 : n ≤ 9223372036854775807) : wrap64 n = n := by unfold wrap64; omega
def lenJ (T : ByteArray) (X m : Int) : Option Int := (if X ≥ 65536 then (if (X / 65536) ≥ 256 then (if 0 ≤ (((X / 65536) / 256) % 256) then (if (((X / 65536) / 256) % 256) < 256 then (some (wrap64 ((wrap64 ((wrap64 (m + 16)) + 8)) + (wrap64 (bt T (((X / 65536) / 256) % 256)))))) else (none)) else (none)) else (if 0 ≤ ((X / 65536) % 256) then (if ((X / 65536) % 256) < 256 then (some (wrap64 ((wrap64 (m + 16)) + (wrap64 (bt T ((X / 65536) % 256)))))) else (none)) else (none))) else (if X ≥ 256 then (if 0 ≤ ((X / 256) % 256) then (if ((X / 256) % 256) < 256 then (some (wrap64 ((wrap64 (m + 8)) + (wrap64 (bt T ((X / 256) % 256)))))) else (none)) else (none)) else (if 0 ≤ ((X) % 256) then (if ((X) % 256) < 256 then (some (wrap64 (m + (wrap64 (bt T ((X) % 256)))))) else (none)) else (none))))
theorem w_16 (m : Nat) (h : m ≤ 32) : wrap64 ((m : Int) + 16) = (m : Int) + 16 := je (by omega) (by omega)
theorem w_8 (m : Nat) (h : m ≤ 32) : wrap64 ((m : Int) + 8) = (m : Int) + 8 := je (by omega) (by omega)
theorem w_24 (m : Nat) (h : m ≤ 32) : wrap64 (wrap64 ((m : Int) + 16) + 8) = (m : Int) + 24 := by rw [w_16 m h, je (by omega) (by omega)]; omega
theorem lenJ_ok (T : ByteArray) (hT : ∀ x : Int, 0 ≤ x → x < 256 → ∃ L : Nat, bt T x = (L : Int) ∧ L ≤ 8 ∧ x < 2 ^ L ∧ (x ≠ 0 → 1 ≤ L ∧ (2 : Int) ^ (L - 1) ≤ x)) (x : Int) (m : Nat) (hm : m = 0 ∨ m = 32) (h0 : 0 ≤ x / 2 ^ m) (h1 : x / 2 ^ m < 4294967296) (hb : m = 32 → 0 < x / 2 ^ m) (x0 : 0 ≤ x) :
    ∃ L, lenJ T (x / 2 ^ m) (m : Int) = some L ∧ JU x L := by
  have two : ∀ a b : Nat, x / 2 ^ a / 2 ^ b = x / 2 ^ (a + b) := fun a b => by rw [Int.pow_add, Int.ediv_ediv_of_nonneg (Int.le_of_lt (Int.pow_pos (by decide)))]
  have p16 : (2 : Int) ^ 16 = 65536 := rfl
  have p8 : (2 : Int) ^ 8 = 256 := rfl
  have d16 : x / 2 ^ m / 65536 = x / 2 ^ (m + 16) := by rw [← p16]; exact two m 16
  have d8 : x / 2 ^ m / 256 = x / 2 ^ (m + 8) := by rw [← p8]; exact two m 8
  have d24 : x / 2 ^ m / 65536 / 256 = x / 2 ^ (m + 24) := by rw [d16, ← p8]; exact two (m + 16) 8
  have fin : ∀ (s : Nat) (y : Int), y = x / 2 ^ (m + s) → s ≤ 24 → 0 ≤ y → y < 256 → (0 < y ∨ m + s = 0) → ∀ z : Int, z = ((m + s : Nat) : Int) →
      ∃ L, (if 0 ≤ y % 256 then (if y % 256 < 256 then (some (wrap64 (z + (wrap64 (bt T (y % 256)))))) else none) else none) = some L ∧ JU x L := by
    intro s y hy hs hy0 hy1 hp z hz
    have e : y % 256 = y := by omega
    rw [e, if_pos hy0, if_pos hy1]
    obtain ⟨L, l0, l1, l2, l3⟩ := hT _ hy0 hy1
    refine ⟨_, rfl, ?_⟩
    rw [l0, je (n := (L : Int)) (by omega) (by omega), je (by omega) (by omega)]
    rcases Nat.eq_zero_or_pos (m + s) with h | h
    · rw [hz, h]
      have ex : y = x := by rw [hy, h]; simp
      rw [ex] at l2 l3
      exact ⟨L, by omega, by omega, l2, l3⟩
    · have : z + (L : Int) = ((m + s + L : Nat) : Int) := by omega
      rw [this]
      subst hy
      exact JU.up (m + s) (by omega) (by omega) (by omega) l2 l3
  have ml : m ≤ 32 := by omega
  unfold lenJ
  by_cases c1 : x / 2 ^ m ≥ 65536
  · rw [if_pos c1]
    by_cases c2 : x / 2 ^ m / 65536 ≥ 256
    · rw [if_pos c2, w_24 m ml]
      exact fin 24 _ d24 (by omega) (by omega) (by omega) (.inl (by omega)) _ (by omega)
    · rw [if_neg c2, w_16 m ml]
      exact fin 16 _ d16 (by omega) (by omega) (by omega) (.inl (by omega)) _ (by omega)
  · rw [if_neg c1]
    by_cases c2 : x / 2 ^ m ≥ 256
    · rw [if_pos c2, w_8 m ml]
      exact fin 8 _ d8 (by omega) (by omega) (by omega) (.inl (by omega)) _ (by omega)
    · rw [if_neg c2]
      exact fin 0 (x / 2 ^ m) (by rw [Nat.add_zero]) (by omega) h0 (by omega) (by rcases hm with h | h; exact .inr (by omega); exact .inl (hb h)) _ (by omega)
set_option maxRecDepth 100000 in
theorem j0_eq (k : Nat) (X m : Int) : bits_Len64.j0 (k + 1) X m = lenJ len8 X m := rfl
theorem len64_j (x : Int) (m : Nat) (hm : m = 0 ∨ m = 32) (k : Nat) (h0 : 0 ≤ x / 2 ^ m) (h1 : x / 2 ^ m < 4294967296) (hb : m = 32 → 0 < x / 2 ^ m) (x0 : 0 ≤ x) :
    ∃ L, bits_Len64.j0 (k + 1) (x / 2 ^ m) (m : Int) = some L ∧ JU x L := by
  rw [j0_eq]; exact lenJ_ok len8 (fun x a b => len8_at a b) x m hm h0 h1 hb x0
theorem len64 (x : Int) (h0 : 0 ≤ x) (h1 : x < 18446744073709551616) (k : Nat) : ∃ L, bits_Len64.f (k + 1) x = some L ∧ JU x L := by
  unfold bits_Len64.f
  by_cases c : x ≥ 4294967296
  · rw [if_pos c]
    exact len64_j x 32 (.inr rfl) k (by omega) (by omega) (fun _ => by omega) h0
  · rw [if_neg c]
    have := len64_j x 0 (.inl rfl) k (by simpa using h0) (by simp; omega) (fun h => by omega) h0
    simpa using this
theorem lz64 (x : Int) (h0 : 0 < x) (h1 : x < 18446744073709551616) (k : Nat) :
    ∃ s : Nat, bits_LeadingZeros64.f (k + 1) x = some (s : Int) ∧ s ≤ 63 ∧ 9223372036854775808 ≤ x * 2 ^ s ∧ x * 2 ^ s < 18446744073709551616 := by
  obtain ⟨L, e, n, rfl, hn, hlt, hge⟩ := len64 x (by omega) h1 k
  obtain ⟨n1, hle⟩ := hge (by omega)
  refine ⟨64 - n, ?_, by omega, ?_, ?_⟩
  · unfold bits_LeadingZeros64.f
    rw [e]; simp only [Option.bind_some]
    rw [je (by omega) (by omega)]
    congr 1; omega
  · have p : (2 : Int) ^ (n - 1) * 2 ^ (64 - n) = 9223372036854775808 := by rw [← Int.pow_add, show n - 1 + (64 - n) = 63 by omega]; rfl
    have z : (0 : Int) < 2 ^ (64 - n) := Int.pow_pos (by decide)
    have := Int.mul_le_mul_of_nonneg_right hle (Int.le_of_lt z)
    omega
  · have p : (2 : Int) ^ n * 2 ^ (64 - n) = 18446744073709551616 := by rw [← Int.pow_add, show n + (64 - n) = 64 by omega]; rfl
    have z : (0 : Int) < 2 ^ (64 - n) := Int.pow_pos (by decide)
    have := Int.mul_lt_mul_of_pos_right hlt z
    omega
theorem mask32 {x : Int} (h0 : 0 ≤ x) (h1 : x < 18446744073709551616) : Go.bits .and .u64 x 4294967295 = x % 4294967296 :=
  bits_mask .u64 64 (by decide) (fun n a b => zQ a (by omega)) 32 (by decide) x h0 (by omega)
theorem mul64 (a b : Int) (a0 : 0 ≤ a) (a1 : a < 18446744073709551616) (b0 : 0 ≤ b) (b1 : b < 18446744073709551616) :
    bits_Mul64.f a b = some (a * b / 18446744073709551616, a * b % 18446744073709551616) := by
  unfold bits_Mul64.f
  rw [mask32 a0 a1, mask32 b0 b1]
  have ea : a = a / 4294967296 * 4294967296 + a % 4294967296 := by omega
  have eb : b = b / 4294967296 * 4294967296 + b % 4294967296 := by omega
  have ah : 0 ≤ a / 4294967296 ∧ a / 4294967296 ≤ 4294967295 := by omega
  have al : 0 ≤ a % 4294967296 ∧ a % 4294967296 ≤ 4294967295 := by omega
  have bh : 0 ≤ b / 4294967296 ∧ b / 4294967296 ≤ 4294967295 := by omega
  have bl : 0 ≤ b % 4294967296 ∧ b % 4294967296 ≤ 4294967295 := by omega
  generalize a / 4294967296 = p at *
  generalize a % 4294967296 = q at *
  generalize b / 4294967296 = r at *
  generalize b % 4294967296 = s at *
  have e : a * b = (p * r) * 18446744073709551616 + (p * s) * 4294967296 + (q * r) * 4294967296 + q * s := by subst ea eb; grind
  have pr := QA ah.1 bh.1 ah.2 bh.2
  have ps := QA ah.1 bl.1 ah.2 bl.2
  have qr := QA al.1 bh.1 al.2 bh.2
  have qs := QA al.1 bl.1 al.2 bl.2
  have pr0 := Int.mul_nonneg ah.1 bh.1
  have ps0 := Int.mul_nonneg ah.1 bl.1
  have qr0 := Int.mul_nonneg al.1 bh.1
  have qs0 := Int.mul_nonneg al.1 bl.1
  rw [Jk (a * b), e]
  generalize p * r = A at *
  generalize p * s = B at *
  generalize q * r = C at *
  generalize q * s = D at *
  rw [zQ (n := A) pr0 (by omega), zQ (n := B) ps0 (by omega), zQ (n := C) qr0 (by omega), zQ (n := D) qs0 (by omega)]
  rw [zQ (n := B + D / 4294967296) (by omega) (by omega)]
  rw [mask32 (by omega) (by omega)]
  rw [zQ (n := A + (B + D / 4294967296) / 4294967296) (by omega) (by omega)]
  rw [zQ (n := (B + D / 4294967296) % 4294967296 + C) (by omega) (by omega)]
  rw [zQ (by omega) (by omega)]
  simp only [Option.some.injEq, Prod.mk.injEq, and_true]
  omega
theorem or_join {x y : Int} (i : Nat) (hx0 : 0 ≤ x) (hx : x % 2 ^ i = 0) (hx1 : x < 18446744073709551616) (hy0 : 0 ≤ y) (hy : y < 2 ^ i) (hy1 : y < 18446744073709551616) : Go.bits .or .u64 x y = x + y :=
  bits_join .u64 64 (by decide) (fun n a b => zQ a (by omega)) i x y hx0 hx (by omega) hy0 hy (by omega)
theorem div64 (hi lo y : Int) (h0 : 0 ≤ hi) (h1 : hi < y) (l0 : 0 ≤ lo) (l1 : lo < 18446744073709551616) (y1 : y < 18446744073709551616) :
    Ev (fun k => qD.f k hi lo y) ((hi * 18446744073709551616 + lo) / y, (hi * 18446744073709551616 + lo) % y) := by
  by_cases hz : hi = 0
  · subst hz
    refine Ev.intro 0 fun k => ?_
    simp only [qD.f]
    rw [if_neg (by omega), if_neg (by omega), if_pos trivial, Int.tdiv_eq_ediv_of_nonneg l0, Int.tmod_eq_emod_of_nonneg l0]
    have : lo / y ≤ lo := Int.ediv_le_self y l0
    have := Int.ediv_nonneg l0 (show 0 ≤ y by omega)
    rw [zQ (by omega) (by omega)]; simp
  · obtain ⟨s, es, hs, g1, g2⟩ := lz64 y (by omega) y1 0
    have es : ∀ k, bits_LeadingZeros64.f (k + 1) y = some (s : Int) := fun k => at_rounds (bits_LeadingZeros64.mono y) (show 0 + 1 ≤ k + 1 by omega) es
    have PQ : (2 : Int) ^ s * 2 ^ (64 - s) = 18446744073709551616 := by rw [← Int.pow_add, show s + (64 - s) = 64 by omega]; rfl
    have Pp : (0 : Int) < 2 ^ s := Int.pow_pos (by decide)
    have Qp : (0 : Int) < 2 ^ (64 - s) := Int.pow_pos (by decide)
    have hyP : hi * 2 ^ s + 2 ^ s ≤ y * 2 ^ s := by have := Int.mul_le_mul_of_nonneg_right (show hi + 1 ≤ y by omega) (Int.le_of_lt Pp); rw [Int.add_mul] at this; omega
    have hP0 : 0 ≤ hi * 2 ^ s := Int.mul_nonneg h0 (by omega)
    have c1 : IntKind.u64.wrap (s : Int) = s := zQ (by omega) (by omega)
    have c2 : IntKind.u64.wrap (64 - (s : Int)) = (64 - s : Nat) := by rw [zQ (by omega) (by omega)]; omega
    have t1 : ((s : Int)).toNat = s := by omega
    have t2 : (((64 - s : Nat) : Int)).toNat = 64 - s := by omega
    have s1 : shl .u64 y (s : Int) = y * 2 ^ s := by unfold shl; rw [t1, Nat.min_eq_left (show s ≤ IntKind.u64.bits by show s ≤ 64; omega), zQ (by omega) g2]
    have s2 : shl .u64 hi (s : Int) = hi * 2 ^ s := by unfold shl; rw [t1, Nat.min_eq_left (show s ≤ IntKind.u64.bits by show s ≤ 64; omega), zQ hP0 (by omega)]
    have s3 : shl .u64 lo (s : Int) = (lo * 2 ^ s) % 18446744073709551616 := by unfold shl; rw [t1, Nat.min_eq_left (show s ≤ IntKind.u64.bits by show s ≤ 64; omega), Jk]
    have s4 : shr .u64 lo ((64 - s : Nat) : Int) = lo / 2 ^ (64 - s) := by unfold shr; rw [t2, Nat.min_eq_left (show 64 - s ≤ IntKind.u64.bits by show 64 - s ≤ 64; omega)]
    have a0 := Int.emod_add_mul_ediv lo (2 ^ (64 - s))
    have a1 := Int.emod_nonneg lo (show (2 : Int) ^ (64 - s) ≠ 0 by omega)
    have a2 := Int.emod_lt_of_pos lo Qp
    have a3 : 0 ≤ lo / 2 ^ (64 - s) := Int.ediv_nonneg l0 (by omega)
    have a4 : lo / 2 ^ (64 - s) < 2 ^ s := Int.ediv_lt_of_lt_mul Qp (by rw [PQ]; exact l1)
    have j1 : Go.bits .or .u64 (hi * 2 ^ s) (lo / 2 ^ (64 - s)) = hi * 2 ^ s + lo / 2 ^ (64 - s) :=
      or_join s hP0 (Int.mul_emod_left _ _) (by omega) a3 a4 (by omega)
    have lo2 : lo * 2 ^ s = (lo / 2 ^ (64 - s)) * 18446744073709551616 + (lo % 2 ^ (64 - s)) * 2 ^ s := by
      have : lo * 2 ^ s = (lo % 2 ^ (64 - s) + 2 ^ (64 - s) * (lo / 2 ^ (64 - s))) * 2 ^ s := by rw [a0]
      rw [this, ← PQ]; grind
    have rs0 : 0 ≤ (lo % 2 ^ (64 - s)) * 2 ^ s := Int.mul_nonneg a1 (by omega)
    have rs1 : (lo % 2 ^ (64 - s)) * 2 ^ s < 18446744073709551616 := by have := Int.mul_lt_mul_of_pos_right a2 Pp; rw [Int.mul_comm (2 ^ (64 - s)), PQ] at this; exact this
    have s3' : shl .u64 lo (s : Int) = (lo % 2 ^ (64 - s)) * 2 ^ s := by rw [s3, lo2]; omega
    have fe : ∀ k, qD.f (k + 1) hi lo y = qD.l0 (k + 1) (y * 2 ^ s) s (y * 2 ^ s / 4294967296) (y * 2 ^ s % 4294967296) (hi * 2 ^ s + lo / 2 ^ (64 - s)) ((lo % 2 ^ (64 - s)) * 2 ^ s / 4294967296) ((lo % 2 ^ (64 - s)) * 2 ^ s % 4294967296) ((hi * 2 ^ s + lo / 2 ^ (64 - s)) / (y * 2 ^ s / 4294967296)) ((hi * 2 ^ s + lo / 2 ^ (64 - s)) - (hi * 2 ^ s + lo / 2 ^ (64 - s)) / (y * 2 ^ s / 4294967296) * (y * 2 ^ s / 4294967296)) := by
      intro k
      simp only [qD.f]
      rw [if_neg (by omega), if_neg (by omega), if_neg hz, es k]
      simp only [Option.bind_some]
      rw [c1, c2, if_pos (by omega), if_pos (by omega), s1, s2, s3', s4, j1, if_neg (by omega)]
      rw [mask32 (by omega) g2, mask32 rs0 rs1]
      have u0 : 0 ≤ hi * 2 ^ s + lo / 2 ^ (64 - s) := by omega
      rw [Int.tdiv_eq_ediv_of_nonneg u0]
      have uu : hi * 2 ^ s + lo / 2 ^ (64 - s) < 18446744073709551616 := by omega
      generalize hi * 2 ^ s + lo / 2 ^ (64 - s) = u at *
      have v1 : 2147483648 ≤ y * 2 ^ s / 4294967296 := by omega
      have qle : u / (y * 2 ^ s / 4294967296) ≤ u := Int.ediv_le_self _ u0
      have q0 : 0 ≤ u / (y * 2 ^ s / 4294967296) := Int.ediv_nonneg u0 (by omega)
      have qm : u / (y * 2 ^ s / 4294967296) * (y * 2 ^ s / 4294967296) ≤ u := Int.ediv_mul_le u (by omega)
      have qm0 : 0 ≤ u / (y * 2 ^ s / 4294967296) * (y * 2 ^ s / 4294967296) := Int.mul_nonneg q0 (by omega)
      rw [zQ (n := u / _) q0 (by omega), zQ (n := _ * _) qm0 (by omega), zQ (n := u - _) (by omega) (by omega)]
    have tot : (hi * 18446744073709551616 + lo) * 2 ^ s = (hi * 2 ^ s + lo / 2 ^ (64 - s)) * 18446744073709551616 + (lo % 2 ^ (64 - s)) * 2 ^ s := by
      rw [Int.add_mul, lo2]; grind
    have hu1 : hi * 2 ^ s + lo / 2 ^ (64 - s) < y * 2 ^ s := by omega
    have hu0 : 0 ≤ hi * 2 ^ s + lo / 2 ^ (64 - s) := by omega
    generalize hi * 2 ^ s + lo / 2 ^ (64 - s) = u at *
    generalize (lo % 2 ^ (64 - s)) * 2 ^ s = z at *
    clear s1 s2 s3 s3' s4 j1 lo2 a0 a1 a2 a3 a4
    have yd : y * 2 ^ s = y * 2 ^ s / 4294967296 * 4294967296 + y * 2 ^ s % 4294967296 := by omega
    have ypos : 0 < y * 2 ^ s := by omega
    have D1 : Dig (y * 2 ^ s) (y * 2 ^ s / 4294967296) (y * 2 ^ s % 4294967296) u (z / 4294967296) ((u * 4294967296 + z / 4294967296) / (y * 2 ^ s)) :=
      ⟨yd, by omega, by omega, by omega, by omega, hu0, hu1, by omega, by omega, Int.ediv_mul_le _ (by omega), Int.lt_ediv_add_one_mul_self _ ypos⟩
    obtain ⟨m1, e1⟩ := l0_ev (s := (s : Int)) (un0 := z % 4294967296) D1 _ _ _ rfl D1.start
    have q1n := D1.Zi
    have q1l := D1.qs_lt
    have q1lo := D1.lo
    have q1hi := D1.hi
    rw [Int.add_mul] at q1hi
    generalize hq1 : (u * 4294967296 + z / 4294967296) / (y * 2 ^ s) = q1 at *
    have u2 : IntKind.u64.wrap ((IntKind.u64.wrap ((IntKind.u64.wrap (u * 4294967296)) + z / 4294967296)) - (IntKind.u64.wrap (q1 * (y * 2 ^ s)))) = u * 4294967296 + z / 4294967296 - q1 * (y * 2 ^ s) := by
      simp only [Jk]; omega
    have D2 : Dig (y * 2 ^ s) (y * 2 ^ s / 4294967296) (y * 2 ^ s % 4294967296) (u * 4294967296 + z / 4294967296 - q1 * (y * 2 ^ s)) (z % 4294967296) (((u * 4294967296 + z / 4294967296 - q1 * (y * 2 ^ s)) * 4294967296 + z % 4294967296) / (y * 2 ^ s)) :=
      ⟨yd, by omega, by omega, by omega, by omega, by omega, by omega, by omega, by omega, Int.ediv_mul_le _ (by omega), Int.lt_ediv_add_one_mul_self _ ypos⟩
    obtain ⟨m2, e2⟩ := l1_ev (s := (s : Int)) (q1 := q1) (by omega) D2 _ _ _ rfl D2.start
    have q2n := D2.Zi
    have q2l := D2.qs_lt
    have q2lo := D2.lo
    have q2hi := D2.hi
    rw [Int.add_mul] at q2hi
    generalize hu2 : u * 4294967296 + z / 4294967296 - q1 * (y * 2 ^ s) = w at *
    generalize hq2 : (w * 4294967296 + z % 4294967296) / (y * 2 ^ s) = q2 at *
    have W : (hi * 18446744073709551616 + lo) * 2 ^ s = (q1 * 4294967296 + q2) * (y * 2 ^ s) + (w * 4294967296 + z % 4294967296 - q2 * (y * 2 ^ s)) := by
      have : (q1 * 4294967296 + q2) * (y * 2 ^ s) = (q1 * (y * 2 ^ s)) * 4294967296 + q2 * (y * 2 ^ s) := by grind
      rw [tot, this]; omega
    have R : w * 4294967296 + z % 4294967296 - q2 * (y * 2 ^ s) = (hi * 18446744073709551616 + lo - (q1 * 4294967296 + q2) * y) * 2 ^ s := by
      have : (hi * 18446744073709551616 + lo - (q1 * 4294967296 + q2) * y) * 2 ^ s = (hi * 18446744073709551616 + lo) * 2 ^ s - (q1 * 4294967296 + q2) * (y * 2 ^ s) := by grind
      rw [this, W]; omega
    have R0 : 0 ≤ hi * 18446744073709551616 + lo - (q1 * 4294967296 + q2) * y := by
      have : 0 * 2 ^ s ≤ (hi * 18446744073709551616 + lo - (q1 * 4294967296 + q2) * y) * 2 ^ s := by rw [← R]; omega
      exact Int.le_of_mul_le_mul_right this Pp
    have R1 : hi * 18446744073709551616 + lo - (q1 * 4294967296 + q2) * y < y := by
      have : (hi * 18446744073709551616 + lo - (q1 * 4294967296 + q2) * y) * 2 ^ s < y * 2 ^ s := by rw [← R]; omega
      exact Int.lt_of_mul_lt_mul_right this (by omega)
    have Q : (hi * 18446744073709551616 + lo) / y = q1 * 4294967296 + q2 ∧ (hi * 18446744073709551616 + lo) % y = hi * 18446744073709551616 + lo - (q1 * 4294967296 + q2) * y := by
      have h := Int.ediv_emod_unique (a := hi * 18446744073709551616 + lo) (b := y) (q := q1 * 4294967296 + q2) (r := hi * 18446744073709551616 + lo - (q1 * 4294967296 + q2) * y) (by omega)
      exact h.2 ⟨by rw [Int.mul_comm y]; omega, R0, R1⟩
    rw [Q.1, Q.2]
    have fin : divEnd (y * 2 ^ s) s q1 w (z % 4294967296) q2 = (q1 * 4294967296 + q2, hi * 18446744073709551616 + lo - (q1 * 4294967296 + q2) * y) := by
      unfold divEnd
      have e3 : IntKind.u64.wrap ((IntKind.u64.wrap ((IntKind.u64.wrap (w * 4294967296)) + z % 4294967296)) - (IntKind.u64.wrap (q2 * (y * 2 ^ s)))) = w * 4294967296 + z % 4294967296 - q2 * (y * 2 ^ s) := by
        simp only [Jk]; omega
      rw [e3, R, zQ (n := q1 * 4294967296) (by omega) (by omega), zQ (by omega) (by omega)]
      unfold shr
      rw [t1, Nat.min_eq_left (show s ≤ IntKind.u64.bits by show s ≤ 64; omega), Int.mul_ediv_cancel _ (by omega)]
    have st := D2.start
    refine Ev.intro (m1 + m2 + 1 + 1) fun k => ?_
    rw [show k + (m1 + m2 + 1 + 1) = (k + m1 + m2 + 1) + 1 by omega, fe, show k + m1 + m2 + 1 + 1 = (k + m2 + 1 + 1) + m1 by omega, e1]
    simp only [qD.j2]
    rw [if_neg (by omega), u2, Int.tdiv_eq_ediv_of_nonneg (by omega)]
    have s0 := st.ge; have s1 := st.le; have s2 := st.r0; have s3 := st.r1
    have v1 : 2147483648 ≤ y * 2 ^ s / 4294967296 := by omega
    have qm0 : 0 ≤ w / (y * 2 ^ s / 4294967296) * (y * 2 ^ s / 4294967296) := Int.mul_nonneg (by omega) (by omega)
    rw [zQ (n := w / (y * 2 ^ s / 4294967296)) (by omega) (by omega), zQ (n := _ * _) qm0 (by omega), zQ (n := w - _) (by omega) (by omega)]
    rw [show k + m2 + 1 = (k + 1) + m2 by omega, e2, fin]
end Go.Proofs.Ytmlkpadlafjfeaa.P
set_option linter.unusedVariables false
set_option linter.unusedSimpArgs false
namespace Go.Proofs.Ytmlkpadlafjfeaa.P
open Go Go.RowKit Go.Proofs.YtmlkpadlafjfeaaW.PrintWords Go.Proofs.YtmlkpadlafjfeaaW.PrintLast Go.Proofs.YtmlkpadlafjfeaaW.PrintMore
def zx (n : Int) : Int := if n < 0 then -n else n
theorem Qn (n : Int) : 0 ≤ zx n := by unfold zx; split <;> omega
theorem absI_nat (n : Int) : zx n = (n.natAbs : Int) := by unfold zx; split <;> omega
theorem absI_mul (a b : Int) : zx (a * b) = zx a * zx b := by rw [absI_nat, absI_nat, absI_nat, Int.natAbs_mul]; simp
def I64 (n : Int) : Prop := -9223372036854775808 ≤ n ∧ n ≤ 9223372036854775807
theorem ZB {n : Int} (h : I64 n) : zx n ≤ 9223372036854775808 := by unfold zx; obtain ⟨h0, h1⟩ := h; split <;> omega
theorem size_f {n : Int} (h : I64 n) : jO.f n = some (zx n) := by
  obtain ⟨h0, h1⟩ := h
  unfold jO.f zx
  split
  · congr 1; rw [Jk, Jk]; omega
  · congr 1; exact zQ (by omega) (by omega)
theorem times_f {a b : Int} (ha : I64 a) (hb : I64 b) :
    QK.f a b = some (zx a * zx b / 18446744073709551616, zx a * zx b % 18446744073709551616, ((decide (a < 0)) != (decide (b < 0)))) := by
  unfold QK.f
  have a1 := ZB ha; have b1 := ZB hb
  rw [size_f ha, size_f hb]; simp only [Option.bind_some]
  rw [mul64 _ _ (Qn a) (by omega) (Qn b) (by omega)]; rfl
def nearest (n d : Int) : Int := (2 * n + d) / (2 * d)
theorem J4 (n d : Int) (hd : 0 < d) : nearest n d = if 2 * (n % d) ≥ d then n / d + 1 else n / d := by
  unfold nearest
  have e := Int.emod_add_mul_ediv n d
  have r0 := Int.emod_nonneg n (show d ≠ 0 by omega)
  have r1 := Int.emod_lt_of_pos n hd
  generalize n % d = r at *
  generalize n / d = q at *
  subst e
  have : (2 * (r + d * q) + d) = (2 * r + d) + q * (2 * d) := by grind
  rw [this, Int.add_mul_ediv_right _ _ (by omega)]
  split
  · have : (2 * r + d) / (2 * d) = 1 := by
      rw [Int.ediv_eq_iff_of_pos (by omega)]; omega
    omega
  · have : (2 * r + d) / (2 * d) = 0 := Int.ediv_eq_zero_of_lt (by omega) (by omega)
    omega
def ZL (a b c : Int) : Bool := ((decide (a < 0)) != (decide (b < 0))) != (decide (c < 0))
def ZP (a b c : Int) : Int × Int :=
  if c = 0 then (0, 14) else
  if nearest (zx a * zx b) (zx c) > 2147483647 then (0, 14) else
  if ZL a b c = true then (-(nearest (zx a * zx b) (zx c)), 0) else (nearest (zx a * zx b) (zx c), 0)
theorem ZM {n d : Int} (h0 : 0 ≤ n) (hd : 0 < d) : 0 ≤ nearest n d := by unfold nearest; exact Int.ediv_nonneg (by omega) (by omega)
theorem qav {c q : Int} (h0 : 0 ≤ q) (hq : q < 18446744073709551616) (x y : Int) (m : Bool) (k : Nat) :
    qI.j2 (k + 1) c q x y m = some (if q > 2147483647 then (0, 14) else if (m != decide (c < 0)) = true then (-q, 0) else (q, 0)) := by
  simp only [qI.j2]
  split
  · rfl
  · rename_i h
    rw [je (n := q) (by omega) (by omega), je (n := -q) (by omega) (by omega)]
    split <;> rfl
theorem Jy {a b c : Int} (ha : I64 a) (hb : I64 b) (hc : I64 c) : Ev (fun k => qI.f k a b c) (ZP a b c) := by
  unfold qI.f
  rw [times_f ha hb, size_f hc]; simp only [Option.bind_some]
  unfold ZP
  have a0 := Qn a; have b0 := Qn b
  have n0 : 0 ≤ zx a * zx b := Int.mul_nonneg a0 b0
  have n1 : zx a * zx b ≤ 9223372036854775808 * 9223372036854775808 := QA a0 b0 (ZB ha) (ZB hb)
  by_cases hz : c = 0
  · simp only [if_pos hz]
    exact Ev.intro 1 fun k => by simp only [qI.j0]; rfl
  · simp only [if_neg hz]
    have d0 : 0 < zx c := by unfold zx; split <;> omega
    have d1 := ZB hc
    have hn : ((((decide (a < 0)) != (decide (b < 0))) != (decide (c < 0))) = true) = (ZL a b c = true) := rfl
    generalize hm : ((decide (a < 0)) != (decide (b < 0))) = m
    rw [hm] at hn
    generalize zx a * zx b = n at *
    generalize zx c = d at *
    have q0 := ZM n0 d0
    by_cases hh : n / 18446744073709551616 ≥ d
    · have big : nearest n d > 2147483647 := by
        have : 18446744073709551616 * d ≤ n := by omega
        have h1 : 2147483648 * (2 * d) ≤ 2 * n + d := by omega
        have : 2147483648 ≤ nearest n d := by unfold nearest; exact Int.le_ediv_of_mul_le (by omega) h1
        omega
      rw [if_pos big]
      exact Ev.intro 1 fun k => by simp only [qI.j0, decide_eq_true hh]; rfl
    · have e := div64 (n / 18446744073709551616) (n % 18446744073709551616) d (by omega) (by omega) (by omega) (by omega) (by omega)
      have en : n / 18446744073709551616 * 18446744073709551616 + n % 18446744073709551616 = n := by omega
      rw [en] at e
      have ne := J4 n d d0
      have r0 := Int.emod_nonneg n (show d ≠ 0 by omega)
      have r1 := Int.emod_lt_of_pos n d0
      have t0 : 0 ≤ n / d := Int.ediv_nonneg n0 (by omega)
      have t1 : n / d < 18446744073709551616 := Int.ediv_lt_of_lt_mul d0 (by omega)
      refine Ev.shift 1 (f := fun k => qI.j0 (k + 1) c d (decide (n / 18446744073709551616 ≥ d)) (n / 18446744073709551616) (n % 18446744073709551616) m) (fun k => rfl) ?_
      simp only [qI.j0]
      rw [decide_eq_false hh]
      simp only [Bool.false_eq_true, if_false]
      refine Ev.bind e ?_
      rw [zQ (n := d - n % d) (by omega) (by omega)]
      by_cases h2 : n % d ≥ d - n % d
      · simp only [if_pos h2]
        rw [if_pos (show 2 * (n % d) ≥ d by omega)] at ne
        by_cases h3 : n / d ≤ 2147483647
        · refine Ev.intro 2 fun k => ?_
          simp only [decide_eq_true h3]
          rw [show k + 2 = (k + 1) + 1 from rfl]; simp only [qI.j1, if_true]
          rw [zQ (n := n / d + 1) (by omega) (by omega), qav (by omega) (by omega), ← ne]
          simp only [hn]
        · refine Ev.intro 2 fun k => ?_
          simp only [decide_eq_false h3]
          rw [show k + 2 = (k + 1) + 1 from rfl]; simp only [qI.j1, Bool.false_eq_true, if_false]
          rw [qav t0 t1, if_pos (by omega), if_pos (by omega)]
      · simp only [if_neg h2]
        rw [if_neg (show ¬ 2 * (n % d) ≥ d by omega)] at ne
        refine Ev.intro 2 fun k => ?_
        rw [show k + 2 = (k + 1) + 1 from rfl]; simp only [qI.j1, Bool.false_eq_true, if_false]
        rw [qav t0 t1, ← ne]
        simp only [hn]
end Go.Proofs.Ytmlkpadlafjfeaa.P
set_option linter.unusedVariables false
set_option linter.unusedSimpArgs false
namespace Go.Proofs.Ytmlkpadlafjfeaa.P
open Go Go.RowKit Go.Proofs.YtmlkpadlafjfeaaW.PrintWords Go.Proofs.YtmlkpadlafjfeaaW.PrintLast Go.Proofs.YtmlkpadlafjfeaaW.PrintMore
theorem w64 {n : Int} (h0 : -9223372036854775808 ≤ n) (h1 : n ≤ 9223372036854775807) : wrap64 n = n := by unfold wrap64; omega
theorem QV {i : Nat} (h : i ≤ 9000000000000000000) : wrap64 ((i : Int) + 1) = ((i + 1 : Nat) : Int) := by rw [w64 (by omega) (by omega)]; omega
theorem Ze {l : List S40} {i : Nat} (h : i < l.length) : ql l (i : Int) = l[i] := by unfold ql; rw [Int.toNat_natCast, List.getD_eq_getElem?_getD, List.getElem?_eq_getElem h]; rfl
theorem rd35 {l : List S35} {i : Nat} (h : i < l.length) : jX l (i : Int) = l[i] := by unfold jX; rw [Int.toNat_natCast, List.getD_eq_getElem?_getD, List.getElem?_eq_getElem h]; rfl
theorem Ev.to {α : Type} {g : Nat → Option α} {r r' : α} (h : Ev g r) (e : r = r') : Ev g r' := e ▸ h
def QG (n : Int) : Prop := -2147483647 ≤ n ∧ n ≤ 2147483647
def Bd (n A : Int) : Prop := -A ≤ n ∧ n ≤ A
theorem Bd.add {a b A B : Int} (h : Bd a A) (h' : Bd b B) : Bd (a + b) (A + B) := by unfold Bd at *; omega
theorem Bd.mul {a A j : Int} (h : Bd a A) (hj : 0 ≤ j) : Bd (a * j) (A * j) := by
  refine ⟨?_, Int.mul_le_mul_of_nonneg_right h.2 hj⟩
  rw [← Int.neg_mul]
  exact Int.mul_le_mul_of_nonneg_right h.1 hj
theorem Bd.wide {a A B : Int} (h : Bd a A) (hb : A ≤ B) : Bd a B := by unfold Bd at *; omega
theorem Bd.mulc {a A j : Int} (J : Int) (h : Bd a A) (hA : 0 ≤ A) (hj : 0 ≤ j) (hJ : j ≤ J) : Bd (a * j) (A * J) := (h.mul hj).wide (Int.mul_le_mul_of_nonneg_left hJ hA)
theorem Bd.w {a A : Int} (h : Bd a A) (hA : A ≤ 9223372036854775807) : wrap64 a = a := w64 (by have := h.1; omega) (by have := h.2; omega)
def Zu (a b : Int) : Int := if a < 0 then -nearest (-a) b else nearest a b
theorem JQ {n d M : Int} (hd : 0 < d) (h : n ≤ M * d) (hM : 0 ≤ M) : nearest n d ≤ M := by
  unfold nearest
  have : (2 * n + d) / (2 * d) < M + 1 := Int.ediv_lt_of_lt_mul (by omega) (by rw [Int.add_mul, Int.one_mul, show M * (2 * d) = 2 * (M * d) by rw [Int.mul_left_comm]]; omega)
  omega
theorem ZC {a b : Int} (hb : 0 < b) (h : Bd a (2147483647 * b)) : QG (Zu a b) := by
  unfold Zu
  split
  · have := JQ hb (n := -a) (M := 2147483647) (by have := h.1; omega) (by omega)
    have := ZM (n := -a) (d := b) (by omega) hb
    unfold QG; omega
  · have := JQ hb (n := a) (M := 2147483647) h.2 (by omega)
    have := ZM (n := a) (d := b) (by omega) hb
    unfold QG; omega
theorem Jf {a b : Int} (hb : 0 < b) (hb1 : b ≤ 4294967296) (h : Bd a (2147483647 * b)) : Ev (fun k => zZ.f k a b) (Zu a b) := by
  unfold zZ.f
  have h0 := h.1; have h1 := h.2
  refine Ev.bind (Jy (a := a) (b := 1) (c := b) (by unfold I64; omega) (by unfold I64; omega) (by unfold I64; omega)) ?_
  have e1 : zx 1 = 1 := by decide
  have eb : zx b = b := by unfold zx; rw [if_neg (by omega)]
  have ea : zx a = if a < 0 then -a else a := rfl
  unfold ZP
  rw [if_neg (by omega), e1, eb, Int.mul_one]
  have lm : nearest (zx a) b ≤ 2147483647 := JQ hb (by unfold zx; split <;> omega) (by omega)
  rw [if_neg (by omega)]
  unfold ZL Zu
  by_cases c : a < 0
  · rw [decide_eq_true c, decide_eq_false (show ¬ (1 : Int) < 0 by omega), decide_eq_false (show ¬ b < 0 by omega), if_pos c, ea, if_pos c]
    exact Ev.now _
  · rw [decide_eq_false c, decide_eq_false (show ¬ (1 : Int) < 0 by omega), decide_eq_false (show ¬ b < 0 by omega), if_neg c, ea, if_neg c]
    exact Ev.now _
theorem qaM {a b : Int} (hb : 0 < b) : nearest (a * b) b = a := by
  unfold nearest
  rw [Int.ediv_eq_iff_of_pos (by omega)]
  have e1 : a * (2 * b) = 2 * (a * b) := by rw [Int.mul_left_comm]
  constructor
  · rw [e1]; omega
  · rw [e1]; omega
theorem Ju {a b : Int} (hb : 0 < b) : Zu (a * b) b = a := by
  unfold Zu
  split
  · rw [← Int.neg_mul, qaM hb]; omega
  · exact qaM hb
def Zd (x : S40) : Prop := QG x.f0 ∧ QG x.f1
def zN (x : S35) : Prop := QG x.f0 ∧ QG x.f1
def sp (x : S40) : S35 := ⟨x.f0, x.f1⟩
theorem ZZ {x : S40} (h : Zd x) : zN (sp x) := h
def Jo (a b : S40) : S35 := ⟨Zu (a.f0 + b.f0) 2, Zu (a.f1 + b.f1) 2⟩
theorem mid_fix {a b : S40} (ha : Zd a) (hb : Zd b) : zN (Jo a b) := by
  obtain ⟨⟨a0, a1⟩, a2, a3⟩ := ha
  obtain ⟨⟨b0, b1⟩, b2, b3⟩ := hb
  exact ⟨ZC (by omega) ⟨by omega, by omega⟩, ZC (by omega) ⟨by omega, by omega⟩⟩
theorem mid_ev {a b : S40} (ha : Zd a) (hb : Zd b) : Ev (fun k => zM.f k a.f0 a.f1 a.f2 b.f0 b.f1 b.f2) ((Jo a b).f0, (Jo a b).f1) := by
  obtain ⟨⟨a0, a1⟩, a2, a3⟩ := ha
  obtain ⟨⟨b0, b1⟩, b2, b3⟩ := hb
  unfold zM.f
  rw [w64 (n := a.f0 + b.f0) (by omega) (by omega), w64 (n := a.f1 + b.f1) (by omega) (by omega)]
  exact Ev.bind (Jf (by omega) (by omega) ⟨by omega, by omega⟩) (Ev.bind (Jf (by omega) (by omega) ⟨by omega, by omega⟩) (Ev.now _))
theorem size_abs {n : Int} (h : Bd n 9000000000000000000) : Qo.f n = some (zx n) := by
  unfold Qo.f
  have h0 := h.1; have h1 := h.2
  rw [w64 (n := -n) (by omega) (by omega)]
  unfold mx zx
  congr 1
  split <;> split <;> omega
def jE (a b c : S35) : Int := zx (a.f0 - 2 * b.f0 + c.f0) + zx (a.f1 - 2 * b.f1 + c.f1)
theorem absI_b {n A : Int} (h : Bd n A) : 0 ≤ zx n ∧ zx n ≤ A := by unfold zx; unfold Bd at h; split <;> omega
theorem bend_b {a b c : S35} (ha : zN a) (hb : zN b) (hc : zN c) : 0 ≤ jE a b c ∧ jE a b c ≤ 17179869176 := by
  obtain ⟨⟨a0, a1⟩, a2, a3⟩ := ha
  obtain ⟨⟨b0, b1⟩, b2, b3⟩ := hb
  obtain ⟨⟨c0, c1⟩, c2, c3⟩ := hc
  have h1 := absI_b (n := a.f0 - 2 * b.f0 + c.f0) (A := 8589934588) ⟨by omega, by omega⟩
  have h2 := absI_b (n := a.f1 - 2 * b.f1 + c.f1) (A := 8589934588) ⟨by omega, by omega⟩
  unfold jE; omega
theorem bend_f {a b c : S35} (ha : zN a) (hb : zN b) (hc : zN c) : jo.f a.f0 a.f1 b.f0 b.f1 c.f0 c.f1 = some (jE a b c) := by
  have hbb := bend_b ha hb hc
  obtain ⟨⟨a0, a1⟩, a2, a3⟩ := ha
  obtain ⟨⟨b0, b1⟩, b2, b3⟩ := hb
  obtain ⟨⟨c0, c1⟩, c2, c3⟩ := hc
  unfold jo.f
  rw [w64 (n := 2 * b.f0) (by omega) (by omega), w64 (n := 2 * b.f1) (by omega) (by omega), w64 (n := a.f0 - 2 * b.f0) (by omega) (by omega), w64 (n := a.f1 - 2 * b.f1) (by omega) (by omega), w64 (n := a.f0 - 2 * b.f0 + c.f0) (by omega) (by omega), w64 (n := a.f1 - 2 * b.f1 + c.f1) (by omega) (by omega)]
  rw [size_abs ⟨by omega, by omega⟩, Option.bind_some, size_abs ⟨by omega, by omega⟩, Option.bind_some]
  unfold jE at hbb ⊢
  rw [w64 (by omega) (by omega)]
def jZ (d : Int) : Nat := if d ≤ 4 then 1 else if d ≤ 16 then 2 else if d ≤ 64 then 4 else if d ≤ 256 then 8 else 16
theorem partsV_in (d : Int) : jZ d = 1 ∨ jZ d = 2 ∨ jZ d = 4 ∨ jZ d = 8 ∨ jZ d = 16 := by
  unfold jZ; repeat' split
  all_goals simp
theorem QI (d : Int) : 1 ≤ jZ d ∧ jZ d ≤ 16 := by have := partsV_in d; omega
theorem parts_ev (d : Int) : Ev (fun k => zt.f k d) (jZ d : Int) := by
  unfold zt.f
  refine ⟨5, fun k hk => ?_⟩
  obtain ⟨k, rfl⟩ : ∃ q, k = q + 5 := ⟨k - 5, by omega⟩
  have e1 : wrap64 (wrap64 (4 * 1) * 1) = 4 := by decide +kernel
  have e2 : wrap64 (wrap64 (4 * 2) * 2) = 16 := by decide +kernel
  have e3 : wrap64 (wrap64 (4 * 4) * 4) = 64 := by decide +kernel
  have e4 : wrap64 (wrap64 (4 * 8) * 8) = 256 := by decide +kernel
  have f1 : wrap64 (1 * 2) = 2 := by decide +kernel
  have f2 : wrap64 (2 * 2) = 4 := by decide +kernel
  have f3 : wrap64 (4 * 2) = 8 := by decide +kernel
  have f4 : wrap64 (8 * 2) = 16 := by decide +kernel
  have g (j : Nat) : zt.l0 (j + 1) d 16 = some 16 := by simp only [zt.l0]; rfl
  unfold jZ
  show zt.l0 (k + 4 + 1) d 1 = _
  rw [zt.l0, if_pos (by omega), e1, f1]
  by_cases c1 : d ≤ 4
  · rw [if_neg (by omega), if_pos c1]; rfl
  rw [if_pos (by omega), if_neg c1]
  show zt.l0 (k + 3 + 1) d 2 = _
  rw [zt.l0, if_pos (by omega), e2, f2]
  by_cases c2 : d ≤ 16
  · rw [if_neg (by omega), if_pos c2]; rfl
  rw [if_pos (by omega), if_neg c2]
  show zt.l0 (k + 2 + 1) d 4 = _
  rw [zt.l0, if_pos (by omega), e3, f3]
  by_cases c3 : d ≤ 64
  · rw [if_neg (by omega), if_pos c3]; rfl
  rw [if_pos (by omega), if_neg c3]
  show zt.l0 (k + 1 + 1) d 8 = _
  rw [zt.l0, if_pos (by omega), e4, f4]
  by_cases c4 : d ≤ 256
  · rw [if_neg (by omega), if_pos c4]; rfl
  rw [if_pos (by omega), if_neg c4]
  exact g k
def q1 (a c b n i : Int) : Int := a * (n - i) * (n - i) + 2 * c * i * (n - i) + b * i * i
theorem q1_bd {a c b n i : Int} (ha : QG a) (hc : QG c) (hb : QG b) (h0 : 0 ≤ i) (h1 : i ≤ n) : Bd (q1 a c b n i) (2147483647 * (n * n)) := by
  unfold q1
  obtain ⟨j, hj⟩ : ∃ j, j = n - i := ⟨_, rfl⟩
  rw [← hj]
  have j0 : 0 ≤ j := by omega
  have A := (show Bd a 2147483647 from ⟨ha.1, ha.2⟩).mul (Int.mul_nonneg j0 j0)
  have C := (show Bd c 2147483647 from ⟨hc.1, hc.2⟩).mul (show 0 ≤ 2 * (i * j) by have := Int.mul_nonneg h0 j0; omega)
  have B := (show Bd b 2147483647 from ⟨hb.1, hb.2⟩).mul (Int.mul_nonneg h0 h0)
  have S := (A.add C).add B
  have e1 : a * j * j + 2 * c * i * j + b * i * i = a * (j * j) + c * (2 * (i * j)) + b * (i * i) := by grind
  have e2 : 2147483647 * (j * j) + 2147483647 * (2 * (i * j)) + 2147483647 * (i * i) = 2147483647 * (n * n) := by
    have : n = i + j := by omega
    subst this; grind
  rw [e1, ← e2]; exact S
theorem qX_q1 {a c b n i : Int} (ha : QG a) (hc : QG c) (hb : QG b) (h0 : 0 ≤ i) (h1 : i ≤ n) (hn : n ≤ 16) : qX a c b n i = q1 a c b n i := by
  unfold qX q1
  obtain ⟨j, hj⟩ : ∃ j, j = n - i := ⟨_, rfl⟩
  rw [← hj]
  have A1 := (show Bd a 2147483647 from ⟨ha.1, ha.2⟩).mulc (j := j) 16 (by omega) (by omega) (by omega)
  have A2 := A1.mulc (j := j) 16 (by omega) (by omega) (by omega)
  have C0 : Bd (2 * c) 4294967294 := ⟨by have := hc.1; omega, by have := hc.2; omega⟩
  have C1 := C0.mulc (j := i) 16 (by omega) (by omega) (by omega)
  have C2 := C1.mulc (j := j) 16 (by omega) (by omega) (by omega)
  have B1 := (show Bd b 2147483647 from ⟨hb.1, hb.2⟩).mulc (j := i) 16 (by omega) (by omega) (by omega)
  have B2 := B1.mulc (j := i) 16 (by omega) (by omega) (by omega)
  rw [A1.w (by decide), A2.w (by decide), C0.w (by decide), C1.w (by decide), C2.w (by decide), B1.w (by decide), B2.w (by decide), (A2.add C2).w (by decide), ((A2.add C2).add B2).w (by decide)]
theorem sq_w {n : Int} (h0 : 0 ≤ n) (hn : n ≤ 16) : wrap64 (n * n) = n * n := ((show Bd n 16 from ⟨by omega, by omega⟩).mulc (j := n) 16 (by omega) h0 hn).w (by decide)
theorem cu_w {n : Int} (h0 : 0 ≤ n) (hn : n ≤ 16) : wrap64 (wrap64 (n * n) * n) = n * n * n := by
  rw [sq_w h0 hn]
  exact (((show Bd n 16 from ⟨by omega, by omega⟩).mulc (j := n) 16 (by omega) h0 hn).mulc (j := n) 16 (by omega) h0 hn).w (by decide)
def qP (a c b : S35) (n i : Int) : S35 := ⟨Zu (q1 a.f0 c.f0 b.f0 n i) (n * n), Zu (q1 a.f1 c.f1 b.f1 n i) (n * n)⟩
theorem sq_b {n : Int} (h0 : 1 ≤ n) (hn : n ≤ 16) : 0 < n * n ∧ n * n ≤ 256 := by
  have h1 : 1 * 1 ≤ n * n := Int.mul_le_mul h0 h0 (by omega) (by omega)
  have h2 : n * n ≤ 16 * 16 := Int.mul_le_mul hn hn (by omega) (by omega)
  omega
theorem cu_b {n : Int} (h0 : 1 ≤ n) (hn : n ≤ 16) : 0 < n * n * n ∧ n * n * n ≤ 4096 := by
  have := sq_b h0 hn
  have h1 : 1 * 1 ≤ n * n * n := Int.mul_le_mul (by omega) h0 (by omega) (by omega)
  have h2 : n * n * n ≤ 256 * 16 := Int.mul_le_mul (by omega) hn (by omega) (by omega)
  omega
theorem qP_fix {a c b : S35} {n i : Int} (ha : zN a) (hc : zN c) (hb : zN b) (h0 : 0 ≤ i) (h1 : i ≤ n) (n1 : 1 ≤ n) (hn : n ≤ 16) : zN (qP a c b n i) :=
  ⟨ZC (sq_b n1 hn).1 (q1_bd ha.1 hc.1 hb.1 h0 h1), ZC (sq_b n1 hn).1 (q1_bd ha.2 hc.2 hb.2 h0 h1)⟩
theorem qP_end {a c b : S35} {n : Int} (n1 : 1 ≤ n) (hn : n ≤ 16) : qP a c b n n = b := by
  have h (x y z : Int) : q1 x y z n n = z * (n * n) := by unfold q1; rw [Int.sub_self, Int.mul_zero, Int.mul_zero, Int.mul_assoc]; omega
  unfold qP
  rw [h, h, Ju (sq_b n1 hn).1, Ju (sq_b n1 hn).1]
def qPs (a c b : S35) (n : Int) : Nat → Int → List S35
  | 0, _ => []
  | m + 1, i => qP a c b n i :: qPs a c b n m (i + 1)
theorem qL_ev {a c b : S35} {n : Int} (ha : zN a) (hc : zN c) (hb : zN b) (n1 : 1 ≤ n) (hn : n ≤ 16) : ∀ (m : Nat) (i : Int), 0 ≤ i → i + m ≤ n + 1 → Ev (fun k => qL k a.f0 a.f1 c.f0 c.f1 b.f0 b.f1 n m i) (qPs a c b n m i)
  | 0, i, _, _ => Ev.now _
  | m + 1, i, h0, h1 => by
    have hi : i ≤ n := by omega
    simp only [qL, qPs]
    have hs := sq_b n1 hn
    rw [qX_q1 ha.1 hc.1 hb.1 h0 hi hn, qX_q1 ha.2 hc.2 hb.2 h0 hi hn, sq_w (by omega) hn]
    exact Ev.bind (Jf hs.1 (by omega) (q1_bd ha.1 hc.1 hb.1 h0 hi)) (Ev.bind (Jf hs.1 (by omega) (q1_bd ha.2 hc.2 hb.2 h0 hi)) (Ev.bind (qL_ev ha hc hb n1 hn m (i + 1) (by omega) (by omega)) (Ev.now _)))
def QQ (a c b : S35) : List S35 := qPs a c b (jZ (jE a c b)) (jZ (jE a c b)) 1
theorem quad_ev {a c b : S35} (ha : zN a) (hc : zN c) (hb : zN b) : Ev (fun k => Zw k a.f0 a.f1 c.f0 c.f1 b.f0 b.f1) (QQ a c b) := by
  unfold Zw
  rw [bend_f ha hc hb]
  simp only [Option.bind_some]
  have hp := QI (jE a c b)
  refine Ev.bind (parts_ev (jE a c b)) ?_
  simp only [if_pos (show (0 : Int) ≤ (jZ (jE a c b) : Int) ∧ (jZ (jE a c b) : Int) ≤ 100 by omega), Int.toNat_natCast]
  exact qL_ev ha hc hb (by omega) (by omega) _ _ (by omega) (by omega)
theorem qPs_len {a c b : S35} {n : Int} : ∀ (m : Nat) (i : Int), (qPs a c b n m i).length = m
  | 0, _ => rfl
  | m + 1, i => by simp only [qPs, List.length_cons, qPs_len m]
theorem qPs_last {a c b : S35} {n : Int} : ∀ (m : Nat) (i : Int), (qPs a c b n (m + 1) i).getLast? = some (qP a c b n (i + m))
  | 0, i => by simp [qPs]
  | m + 1, i => by
    have h := qPs_last (a := a) (c := c) (b := b) (n := n) m (i + 1)
    rw [qPs]
    have e : qPs a c b n (m + 1) (i + 1) ≠ [] := by simp [qPs]
    rw [List.getLast?_cons, h]
    simp only [Option.getD_some]
    rw [show i + 1 + (m : Int) = i + ((m + 1 : Nat) : Int) by omega]
theorem qPs_fix {a c b : S35} {n : Int} (ha : zN a) (hc : zN c) (hb : zN b) (n1 : 1 ≤ n) (hn : n ≤ 16) : ∀ (m : Nat) (i : Int), 0 ≤ i → i + m ≤ n + 1 → ∀ x ∈ qPs a c b n m i, zN x
  | 0, i, _, _ => by simp [qPs]
  | m + 1, i, h0, h1 => by
    intro x hx
    rw [qPs] at hx
    rcases List.mem_cons.1 hx with e | e
    · rw [e]; exact qP_fix ha hc hb h0 (by omega) n1 hn
    · exact qPs_fix ha hc hb n1 hn m (i + 1) (by omega) (by omega) x e
theorem quadV_len (a c b : S35) : 1 ≤ (QQ a c b).length ∧ (QQ a c b).length ≤ 16 := by unfold QQ; rw [qPs_len]; exact QI _
theorem quadV_last (a c b : S35) : (QQ a c b).getLast? = some b := by
  unfold QQ
  have hp := QI (jE a c b)
  generalize jZ (jE a c b) = n at hp
  obtain ⟨m, rfl⟩ : ∃ m, n = m + 1 := ⟨n - 1, by omega⟩
  rw [qPs_last, show (1 : Int) + (m : Int) = ((m + 1 : Nat) : Int) by omega, qP_end (by omega) (by omega)]
theorem qaO (a c b : S35) (x y : Int) : Qi x y (QQ a c b) = b := by unfold Qi; rw [quadV_last]; rfl
theorem quadV_fix {a c b : S35} (ha : zN a) (hc : zN c) (hb : zN b) : ∀ x ∈ QQ a c b, zN x := by
  have hp := QI (jE a c b)
  exact qPs_fix ha hc hb (by omega) (by omega) _ _ (by omega) (by omega)
def c1 (a c d b n i : Int) : Int := a * (n - i) * (n - i) * (n - i) + 3 * c * i * (n - i) * (n - i) + 3 * d * i * i * (n - i) + b * i * i * i
theorem c1_bd {a c d b n i : Int} (ha : QG a) (hc : QG c) (hd : QG d) (hb : QG b) (h0 : 0 ≤ i) (h1 : i ≤ n) : Bd (c1 a c d b n i) (2147483647 * (n * n * n)) := by
  unfold c1
  obtain ⟨j, hj⟩ : ∃ j, j = n - i := ⟨_, rfl⟩
  rw [← hj]
  have j0 : 0 ≤ j := by omega
  have ij := Int.mul_nonneg h0 j0
  have A := (show Bd a 2147483647 from ⟨ha.1, ha.2⟩).mul (Int.mul_nonneg (Int.mul_nonneg j0 j0) j0)
  have C := (show Bd c 2147483647 from ⟨hc.1, hc.2⟩).mul (show 0 ≤ 3 * (i * j * j) by have := Int.mul_nonneg ij j0; omega)
  have D := (show Bd d 2147483647 from ⟨hd.1, hd.2⟩).mul (show 0 ≤ 3 * (i * j * i) by have := Int.mul_nonneg ij h0; omega)
  have B := (show Bd b 2147483647 from ⟨hb.1, hb.2⟩).mul (Int.mul_nonneg (Int.mul_nonneg h0 h0) h0)
  have S := ((A.add C).add D).add B
  have e1 : a * j * j * j + 3 * c * i * j * j + 3 * d * i * i * j + b * i * i * i = a * (j * j * j) + c * (3 * (i * j * j)) + d * (3 * (i * j * i)) + b * (i * i * i) := by grind
  have e2 : 2147483647 * (j * j * j) + 2147483647 * (3 * (i * j * j)) + 2147483647 * (3 * (i * j * i)) + 2147483647 * (i * i * i) = 2147483647 * (n * n * n) := by
    have : n = i + j := by omega
    subst this; grind
  rw [e1, ← e2]; exact S
theorem cXj_c1 {a c d b n i : Int} (ha : QG a) (hc : QG c) (hd : QG d) (hb : QG b) (h0 : 0 ≤ i) (h1 : i ≤ n) (hn : n ≤ 16) : cXj a c d b i (n - i) = c1 a c d b n i := by
  unfold cXj c1
  obtain ⟨j, hj⟩ : ∃ j, j = n - i := ⟨_, rfl⟩
  rw [← hj]
  have A1 := (show Bd a 2147483647 from ⟨ha.1, ha.2⟩).mulc (j := j) 16 (by omega) (by omega) (by omega)
  have A2 := A1.mulc (j := j) 16 (by omega) (by omega) (by omega)
  have A3 := A2.mulc (j := j) 16 (by omega) (by omega) (by omega)
  have C0 : Bd (3 * c) 6442450941 := ⟨by have := hc.1; omega, by have := hc.2; omega⟩
  have C1 := C0.mulc (j := i) 16 (by omega) (by omega) (by omega)
  have C2 := C1.mulc (j := j) 16 (by omega) (by omega) (by omega)
  have C3 := C2.mulc (j := j) 16 (by omega) (by omega) (by omega)
  have D0 : Bd (3 * d) 6442450941 := ⟨by have := hd.1; omega, by have := hd.2; omega⟩
  have D1 := D0.mulc (j := i) 16 (by omega) (by omega) (by omega)
  have D2 := D1.mulc (j := i) 16 (by omega) (by omega) (by omega)
  have D3 := D2.mulc (j := j) 16 (by omega) (by omega) (by omega)
  have B1 := (show Bd b 2147483647 from ⟨hb.1, hb.2⟩).mulc (j := i) 16 (by omega) (by omega) (by omega)
  have B2 := B1.mulc (j := i) 16 (by omega) (by omega) (by omega)
  have B3 := B2.mulc (j := i) 16 (by omega) (by omega) (by omega)
  rw [A1.w (by decide), A2.w (by decide), A3.w (by decide), C0.w (by decide), C1.w (by decide), C2.w (by decide), C3.w (by decide), D0.w (by decide), D1.w (by decide), D2.w (by decide), D3.w (by decide), B1.w (by decide), B2.w (by decide), B3.w (by decide), (A3.add C3).w (by decide), ((A3.add C3).add D3).w (by decide), (((A3.add C3).add D3).add B3).w (by decide)]
def cP (a c d b : S35) (n i : Int) : S35 := ⟨Zu (c1 a.f0 c.f0 d.f0 b.f0 n i) (n * n * n), Zu (c1 a.f1 c.f1 d.f1 b.f1 n i) (n * n * n)⟩
theorem cP_fix {a c d b : S35} {n i : Int} (ha : zN a) (hc : zN c) (hd : zN d) (hb : zN b) (h0 : 0 ≤ i) (h1 : i ≤ n) (n1 : 1 ≤ n) (hn : n ≤ 16) : zN (cP a c d b n i) :=
  ⟨ZC (cu_b n1 hn).1 (c1_bd ha.1 hc.1 hd.1 hb.1 h0 h1), ZC (cu_b n1 hn).1 (c1_bd ha.2 hc.2 hd.2 hb.2 h0 h1)⟩
theorem cP_end {a c d b : S35} {n : Int} (n1 : 1 ≤ n) (hn : n ≤ 16) : cP a c d b n n = b := by
  have h (x y z t : Int) : c1 x y z t n n = t * (n * n * n) := by
    have e : t * n * n * n = t * (n * n * n) := by grind
    unfold c1; rw [Int.sub_self, Int.mul_zero, Int.mul_zero, Int.mul_zero]; omega
  unfold cP
  rw [h, h, Ju (cu_b n1 hn).1, Ju (cu_b n1 hn).1]
def cPs (a c d b : S35) (n : Int) : Nat → Int → List S35
  | 0, _ => []
  | m + 1, i => cP a c d b n i :: cPs a c d b n m (i + 1)
theorem cL_ev {a c d b : S35} {n : Int} (ha : zN a) (hc : zN c) (hd : zN d) (hb : zN b) (n1 : 1 ≤ n) (hn : n ≤ 16) : ∀ (m : Nat) (i : Int), 0 ≤ i → i + m ≤ n + 1 → Ev (fun k => cL k a.f0 a.f1 c.f0 c.f1 d.f0 d.f1 b.f0 b.f1 n m i) (cPs a c d b n m i)
  | 0, i, _, _ => Ev.now _
  | m + 1, i, h0, h1 => by
    have hi : i ≤ n := by omega
    simp only [cL, cPs]
    have hs := cu_b n1 hn
    rw [cXj_c1 ha.1 hc.1 hd.1 hb.1 h0 hi hn, cXj_c1 ha.2 hc.2 hd.2 hb.2 h0 hi hn, cu_w (by omega) hn]
    exact Ev.bind (Jf hs.1 (by omega) (c1_bd ha.1 hc.1 hd.1 hb.1 h0 hi)) (Ev.bind (Jf hs.1 (by omega) (c1_bd ha.2 hc.2 hd.2 hb.2 h0 hi)) (Ev.bind (cL_ev ha hc hd hb n1 hn m (i + 1) (by omega) (by omega)) (Ev.now _)))
def QJ (a c d b : S35) : List S35 := cPs a c d b (jZ (jE a c d + jE c d b)) (jZ (jE a c d + jE c d b)) 1
theorem cubic_ev {a c d b : S35} (ha : zN a) (hc : zN c) (hd : zN d) (hb : zN b) : Ev (fun k => Zf k a.f0 a.f1 c.f0 c.f1 d.f0 d.f1 b.f0 b.f1) (QJ a c d b) := by
  unfold Zf
  rw [bend_f ha hc hd, bend_f hc hd hb]
  simp only [Option.bind_some]
  have b1 := bend_b ha hc hd
  have b2 := bend_b hc hd hb
  rw [w64 (n := jE a c d + jE c d b) (by omega) (by omega)]
  have hp := QI (jE a c d + jE c d b)
  refine Ev.bind (parts_ev (jE a c d + jE c d b)) ?_
  simp only [if_pos (show (0 : Int) ≤ (jZ (jE a c d + jE c d b) : Int) ∧ (jZ (jE a c d + jE c d b) : Int) ≤ 100 by omega), Int.toNat_natCast]
  exact cL_ev ha hc hd hb (by omega) (by omega) _ _ (by omega) (by omega)
theorem cPs_len {a c d b : S35} {n : Int} : ∀ (m : Nat) (i : Int), (cPs a c d b n m i).length = m
  | 0, _ => rfl
  | m + 1, i => by simp only [cPs, List.length_cons, cPs_len m]
theorem cPs_last {a c d b : S35} {n : Int} : ∀ (m : Nat) (i : Int), (cPs a c d b n (m + 1) i).getLast? = some (cP a c d b n (i + m))
  | 0, i => by simp [cPs]
  | m + 1, i => by
    have h := cPs_last (a := a) (c := c) (d := d) (b := b) (n := n) m (i + 1)
    rw [cPs, List.getLast?_cons, h]
    simp only [Option.getD_some]
    rw [show i + 1 + (m : Int) = i + ((m + 1 : Nat) : Int) by omega]
theorem cPs_fix {a c d b : S35} {n : Int} (ha : zN a) (hc : zN c) (hd : zN d) (hb : zN b) (n1 : 1 ≤ n) (hn : n ≤ 16) : ∀ (m : Nat) (i : Int), 0 ≤ i → i + m ≤ n + 1 → ∀ x ∈ cPs a c d b n m i, zN x
  | 0, i, _, _ => by simp [cPs]
  | m + 1, i, h0, h1 => by
    intro x hx
    rw [cPs] at hx
    rcases List.mem_cons.1 hx with e | e
    · rw [e]; exact cP_fix ha hc hd hb h0 (by omega) n1 hn
    · exact cPs_fix ha hc hd hb n1 hn m (i + 1) (by omega) (by omega) x e
theorem cubicV_len (a c d b : S35) : 1 ≤ (QJ a c d b).length ∧ (QJ a c d b).length ≤ 16 := by unfold QJ; rw [cPs_len]; exact QI _
theorem cubicV_last (a c d b : S35) : (QJ a c d b).getLast? = some b := by
  unfold QJ
  have hp := QI (jE a c d + jE c d b)
  generalize jZ (jE a c d + jE c d b) = n at hp
  obtain ⟨m, rfl⟩ : ∃ m, n = m + 1 := ⟨n - 1, by omega⟩
  rw [cPs_last, show (1 : Int) + (m : Int) = ((m + 1 : Nat) : Int) by omega, cP_end (by omega) (by omega)]
theorem cubicV_lastS (a c d b : S35) (x y : Int) : Qi x y (QJ a c d b) = b := by unfold Qi; rw [cubicV_last]; rfl
theorem cubicV_fix {a c d b : S35} (ha : zN a) (hc : zN c) (hd : zN d) (hb : zN b) : ∀ x ∈ QJ a c d b, zN x := by
  have hp := QI (jE a c d + jE c d b)
  exact cPs_fix ha hc hd hb (by omega) (by omega) _ _ (by omega) (by omega)
end Go.Proofs.Ytmlkpadlafjfeaa.P
set_option linter.unusedVariables false
set_option linter.unusedSimpArgs false
namespace Go.Proofs.Ytmlkpadlafjfeaa.P
open Go Go.RowKit Go.Proofs.YtmlkpadlafjfeaaW.PrintWords Go.Proofs.YtmlkpadlafjfeaaW.PrintLast Go.Proofs.YtmlkpadlafjfeaaW.PrintMore
def okK (x : S40) : Prop := 1 ≤ x.f2 ∧ x.f2 ≤ 3 ∧ Zd x
def ZV (p : List S35) : Option (List S35 × Bool) → Option (List S35 × Bool)
  | none => none
  | some r => some (p ++ r.1, r.2)
def ctW (s : S35) : Nat → List S40 → S35 → Option (List S35 × Bool)
  | 0, _, _ => some ([], false)
  | m + 1, [], now => some ([], false)
  | m + 1, k :: r, now =>
    if k.f2 = 1 then ZV [sp k] (ctW s m r (sp k))
    else if k.f2 = 2 then
      match r with
      | [] => some (QQ now (sp k) s, true)
      | h :: r' => if h.f2 = 2 then ZV (QQ now (sp k) (Jo k h)) (ctW s m r (Jo k h))
        else if h.f2 = 3 then none
        else ZV (QQ now (sp k) (sp h)) (ctW s m r' (sp h))
    else
      match r with
      | [] => none
      | [h] => if h.f2 = 3 then some (QJ now (sp k) (sp h) s, true) else none
      | h :: e :: r' => if h.f2 = 3 then (if e.f2 = 3 then none else if e.f2 = 2 then none else ZV (QJ now (sp k) (sp h) (sp e)) (ctW s m r' (sp e))) else none
theorem ctW_nil (s : S35) (m : Nat) (now : S35) : ctW s m [] now = some ([], false) := by cases m <;> rfl
theorem ctW_on {s now : S35} {m : Nat} {k : S40} {r : List S40} (h : k.f2 = 1) : ctW s (m + 1) (k :: r) now = ZV [sp k] (ctW s m r (sp k)) := by
  conv => lhs; unfold ctW
  simp only [if_pos h]
theorem ctW_q0 {s now : S35} {m : Nat} {k : S40} (h : k.f2 = 2) : ctW s (m + 1) [k] now = some (QQ now (sp k) s, true) := by
  conv => lhs; unfold ctW
  simp only [if_pos h, if_neg (show ¬ k.f2 = 1 by omega)]
theorem ctW_q1 {s now : S35} {m : Nat} {k h : S40} {r : List S40} (e : k.f2 = 2) : ctW s (m + 1) (k :: h :: r) now = if h.f2 = 2 then ZV (QQ now (sp k) (Jo k h)) (ctW s m (h :: r) (Jo k h)) else if h.f2 = 3 then none else ZV (QQ now (sp k) (sp h)) (ctW s m r (sp h)) := by
  conv => lhs; unfold ctW
  simp only [if_pos e, if_neg (show ¬ k.f2 = 1 by omega)]
theorem ctW_c0 {s now : S35} {m : Nat} {k : S40} (h1 : k.f2 ≠ 1) (h2 : k.f2 ≠ 2) : ctW s (m + 1) [k] now = none := by
  conv => lhs; unfold ctW
  simp only [if_neg h1, if_neg h2]
theorem ctW_c1 {s now : S35} {m : Nat} {k h : S40} (h1 : k.f2 ≠ 1) (h2 : k.f2 ≠ 2) : ctW s (m + 1) [k, h] now = if h.f2 = 3 then some (QJ now (sp k) (sp h) s, true) else none := by
  conv => lhs; unfold ctW
  simp only [if_neg h1, if_neg h2]
theorem ctW_c2 {s now : S35} {m : Nat} {k h e : S40} {r : List S40} (h1 : k.f2 ≠ 1) (h2 : k.f2 ≠ 2) : ctW s (m + 1) (k :: h :: e :: r) now = if h.f2 = 3 then (if e.f2 = 3 then none else if e.f2 = 2 then none else ZV (QJ now (sp k) (sp h) (sp e)) (ctW s m r (sp e))) else none := by
  conv => lhs; unfold ctW
  simp only [if_neg h1, if_neg h2]
def clos (out : List S35) (cl : Bool) : List S35 := if cl = true ∧ 1 < out.length then out.take (out.length - 1) else out
def endC (out : List S35) : Option (List S35 × Bool) → List S35 × Bool
  | none => ([], false)
  | some r => (clos (out ++ r.1) r.2, true)
theorem JW (out p : List S35) (r : Option (List S35 × Bool)) : endC out (ZV p r) = endC (out ++ p) r := by
  cases r with
  | none => rfl
  | some r => simp [ZV, endC]
theorem kdF_at {rest : List S40} {i : Nat} (h : i < rest.length) : kdF rest (i : Int) = rest[i].f2 := by unfold kdF; rw [if_pos (by omega), Ze h]
theorem kdF_out {rest : List S40} {i : Nat} (h : rest.length ≤ i) : kdF rest (i : Int) = 0 := by unfold kdF; rw [if_neg (by omega)]
theorem quad_evK {a b : S35} {X : S40} (ha : zN a) (hc : Zd X) (hb : zN b) : Ev (fun k => Zw k a.f0 a.f1 X.f0 X.f1 b.f0 b.f1) (QQ a (sp X) b) := by
  have h := quad_ev ha (ZZ hc) hb
  exact h
theorem quad_evKK {a : S35} {X Y : S40} (ha : zN a) (hc : Zd X) (hb : Zd Y) : Ev (fun k => Zw k a.f0 a.f1 X.f0 X.f1 Y.f0 Y.f1) (QQ a (sp X) (sp Y)) := by
  have h := quad_ev ha (ZZ hc) (ZZ hb)
  exact h
theorem cubic_evK {a b : S35} {X Y : S40} (ha : zN a) (hc : Zd X) (hd : Zd Y) (hb : zN b) : Ev (fun k => Zf k a.f0 a.f1 X.f0 X.f1 Y.f0 Y.f1 b.f0 b.f1) (QJ a (sp X) (sp Y) b) := by
  have h := cubic_ev ha (ZZ hc) (ZZ hd) hb
  exact h
theorem cubic_evKK {a : S35} {X Y Z : S40} (ha : zN a) (hc : Zd X) (hd : Zd Y) (hb : Zd Z) : Ev (fun k => Zf k a.f0 a.f1 X.f0 X.f1 Y.f0 Y.f1 Z.f0 Z.f1) (QJ a (sp X) (sp Y) (sp Z)) := by
  have h := cubic_ev ha (ZZ hc) (ZZ hd) (ZZ hb)
  exact h
theorem sp_f0 (X : S40) : (sp X).f0 = X.f0 := rfl
theorem sp_f1 (X : S40) : (sp X).f1 = X.f1 := rfl
set_option maxHeartbeats 4000000 in
theorem ctL_ev (s : S35) (hs : zN s) (rest : List S40) (hr : ∀ x ∈ rest, okK x) (hl : rest.length ≤ 4096) : ∀ (m i : Nat) (out : List S35) (now : S35), zN now → rest.length < i + m → i ≤ rest.length → out.length + 16 * (rest.length - i) ≤ 800000 →
    Ev (fun k => ctL k s.f0 s.f1 rest m (i : Int) out now.f0 now.f1 false) (endC out (ctW s m (rest.drop i) now))
  | 0, i, out, now, hn, h1, h2, h3 => by omega
  | m + 1, i, out, now, hn, h1, h2, h3 => by
    have nx : (i : Int) + 1 = ((i + 1 : Nat) : Int) := by omega
    have nx2 : (i : Int) + 2 = ((i + 2 : Nat) : Int) := by omega
    have nx3 : (i : Int) + 3 = ((i + 3 : Nat) : Int) := by omega
    by_cases c : i < rest.length
    case neg =>
      refine ⟨0, fun k _ => ?_⟩
      show ctL k s.f0 s.f1 rest (m + 1) (i : Int) out now.f0 now.f1 false = _
      rw [ctL, if_neg (by omega), List.drop_of_length_le (by omega)]
      rw [ctW_nil]; simp [endC, clos]
    obtain ⟨q1, q2, q3⟩ := hr _ (List.getElem_mem c)
    have er : rest.drop i = rest[i] :: rest.drop (i + 1) := List.drop_eq_getElem_cons c
    simp only [ctL]
    rw [er]
    simp only [if_pos (show (i : Int) < (rest.length : Int) by omega), if_neg (show ¬ 800000 < out.length by omega), Ze c]
    generalize hX : rest[i] = X at *
    have qX : zN (sp X) := q3
    by_cases k1 : X.f2 = 1
    · rw [ctW_on k1, JW]
      simp only [if_pos k1]
      rw [nx]
      exact ctL_ev s hs rest hr hl m (i + 1) _ (sp X) qX (by omega) (by omega) (by rw [List.length_append]; simp; omega)
    simp only [if_neg k1]
    by_cases k2 : X.f2 = 2
    · simp only [if_pos k2]
      rw [nx]
      by_cases c2 : i + 1 < rest.length
      · have er2 : rest.drop (i + 1) = rest[i + 1] :: rest.drop (i + 1 + 1) := List.drop_eq_getElem_cons c2
        obtain ⟨p1, p2, p3⟩ := hr _ (List.getElem_mem c2)
        rw [er2, kdF_at c2, Ze c2]
        generalize hY : rest[i + 1] = Y at *
        have qY : zN (sp Y) := p3
        rw [ctW_q1 k2]
        by_cases j2 : Y.f2 = 2
        · simp only [if_pos j2]
          rw [JW, ← er2]
          have hm := mid_ev q3 p3
          rw [k2] at hm
          refine Ev.bind hm ?_
          dsimp only
          refine Ev.bind (quad_evK hn q3 (mid_fix q3 p3)) ?_
          rw [qaO]
          exact ctL_ev s hs rest hr hl m (i + 1) _ (Jo X Y) (mid_fix q3 p3) (by omega) (by omega) (by have := quadV_len now (sp X) (Jo X Y); rw [List.length_append]; omega)
        · simp only [if_neg j2]
          by_cases j3 : Y.f2 = 3
          · simp only [if_pos j3]; exact Ev.now _
          · simp only [if_neg j3, if_neg (show ¬ ((i + 1 : Nat) : Int) = (rest.length : Int) by omega)]
            rw [JW]
            refine Ev.bind (quad_evKK hn q3 p3) ?_
            rw [qaO, nx2]
            exact ctL_ev s hs rest hr hl m (i + 2) _ (sp Y) qY (by omega) (by omega) (by have := quadV_len now (sp X) (sp Y); rw [List.length_append]; omega)
      · rw [List.drop_of_length_le (i := i + 1) (by omega), kdF_out (by omega), ctW_q0 k2]
        simp only [if_neg (show ¬ (0 : Int) = 2 by omega), if_neg (show ¬ (0 : Int) = 3 by omega), if_pos (show ((i + 1 : Nat) : Int) = (rest.length : Int) by omega)]
        refine Ev.bind (quad_evK hn q3 hs) ?_
        obtain ⟨m, rfl⟩ : ∃ q, m = q + 1 := ⟨m - 1, by omega⟩
        refine ⟨0, fun k _ => ?_⟩
        show ctL k s.f0 s.f1 rest (m + 1) _ _ _ _ true = _
        rw [ctL, if_neg (by omega)]; rfl
    · have k3 : X.f2 = 3 := by omega
      simp only [if_neg k2, if_pos k3]
      rw [nx, nx2]
      by_cases c2 : i + 1 < rest.length
      · have er2 : rest.drop (i + 1) = rest[i + 1] :: rest.drop (i + 1 + 1) := List.drop_eq_getElem_cons c2
        obtain ⟨p1, p2, p3⟩ := hr _ (List.getElem_mem c2)
        rw [er2, kdF_at c2, Ze c2]
        generalize hY : rest[i + 1] = Y at *
        have qY : zN (sp Y) := p3
        by_cases c3 : i + 2 < rest.length
        · have er3 : rest.drop (i + 1 + 1) = rest[i + 2] :: rest.drop (i + 3) := List.drop_eq_getElem_cons c3
          obtain ⟨t1, t2, t3⟩ := hr _ (List.getElem_mem c3)
          rw [er3, kdF_at c3, Ze c3]
          generalize hZ : rest[i + 2] = Z at *
          have qZ : zN (sp Z) := t3
          rw [ctW_c2 k1 k2]
          by_cases j3 : Y.f2 = 3
          · simp only [if_neg (show ¬ Y.f2 ≠ 3 from fun z => z j3), if_pos j3]
            by_cases l3 : Z.f2 = 3
            · simp only [if_pos l3]; exact Ev.now _
            · simp only [if_neg l3]
              by_cases l2 : Z.f2 = 2
              · simp only [if_pos l2]; exact Ev.now _
              · simp only [if_neg l2, if_neg (show ¬ ((i + 2 : Nat) : Int) = (rest.length : Int) by omega)]
                rw [JW]
                refine Ev.bind (cubic_evKK hn q3 p3 t3) ?_
                rw [cubicV_lastS, nx3]
                exact ctL_ev s hs rest hr hl m (i + 3) _ (sp Z) qZ (by omega) (by omega) (by have := cubicV_len now (sp X) (sp Y) (sp Z); rw [List.length_append]; omega)
          · simp only [if_pos (show Y.f2 ≠ 3 from j3), if_neg j3]; exact Ev.now _
        · rw [List.drop_of_length_le (i := i + 1 + 1) (by omega), kdF_out (i := i + 2) (by omega), ctW_c1 k1 k2]
          by_cases j3 : Y.f2 = 3
          · simp only [if_neg (show ¬ Y.f2 ≠ 3 from fun z => z j3), if_pos j3, if_neg (show ¬ (0 : Int) = 3 by omega), if_neg (show ¬ (0 : Int) = 2 by omega), if_pos (show ((i + 2 : Nat) : Int) = (rest.length : Int) by omega)]
            refine Ev.bind (cubic_evK hn q3 p3 hs) ?_
            obtain ⟨m, rfl⟩ : ∃ q, m = q + 1 := ⟨m - 1, by omega⟩
            refine ⟨0, fun k _ => ?_⟩
            show ctL k s.f0 s.f1 rest (m + 1) _ _ _ _ true = _
            rw [ctL, if_neg (by omega)]; rfl
          · simp only [if_pos (show Y.f2 ≠ 3 from j3), if_neg j3]; exact Ev.now _
      · rw [List.drop_of_length_le (i := i + 1) (by omega), kdF_out (by omega), ctW_c0 k1 k2]
        simp only [if_pos (show (0 : Int) ≠ 3 by omega)]
        exact Ev.now _
def onK (x : S40) : Bool := x.f2 == 1
def offs (c : List S40) : List S40 := c.takeWhile (fun x => !onK x)
def jL (c : List S40) : S35 × List S40 × Bool :=
  match c.dropWhile (fun x => !onK x) with
  | k :: b => (sp k, b ++ offs c, true)
  | [] => (Jo (c.getLastD z40) (c.headD z40), c, (c.headD z40).f2 == 2)
theorem offs_split (c : List S40) : c = offs c ++ c.dropWhile (fun x => !onK x) := by unfold offs; rw [List.takeWhile_append_dropWhile]
theorem round_none (k : Nat) (c : List S40) (i : Int) (hc : c.length ≤ 4096) (l0 : 0 < c.length) (hi : (c.length : Int) ≤ i) : zg.l0 (k + 1) c c (c.length : Int) i = (zM.f k (c.getLastD z40).f0 (c.getLastD z40).f1 (c.getLastD z40).f2 (c.headD z40).f0 (c.headD z40).f1 (c.headD z40).f2).bind fun bt => some (bt.1, bt.2, c, (c.headD z40).f2 == 2) := by
  have eh : ql c 0 = c.headD z40 := by
    cases c with
    | nil => exact absurd l0 (by simp)
    | cons a r => rfl
  have el : ql c (wrap64 ((c.length : Int) - 1)) = c.getLastD z40 := by
    rw [w64 (n := (c.length : Int) - 1) (by omega) (by omega), show (c.length : Int) - 1 = ((c.length - 1 : Nat) : Int) by omega, Ze (by omega), List.getLastD_eq_getLast?, List.getLast?_eq_getElem?, List.getElem?_eq_getElem (by omega)]; rfl
  have w0 : 0 ≤ wrap64 ((c.length : Int) - 1) ∧ wrap64 ((c.length : Int) - 1) < (c.length : Int) := by
    rw [w64 (n := (c.length : Int) - 1) (by omega) (by omega)]; omega
  have hp : (0 : Int) < (c.length : Int) := by omega
  have hn : ¬ i < (c.length : Int) := by omega
  rw [zg.l0]
  rw [if_neg hn, if_pos w0.1, if_pos w0.2, if_pos hp, eh, el]
theorem round_on (k : Nat) (c : List S40) (i : Nat) (hc : c.length ≤ 4096) (hlt : i < c.length) (k1 : c[i].f2 = 1) : zg.l0 (k + 1) c c (c.length : Int) (i : Int) = some (c[i].f0, c[i].f1, c.drop (i + 1) ++ c.take i, true) := by
  have e1 := Ze hlt
  have h1 : (i : Int) < (c.length : Int) := by omega
  have h2 : (0 : Int) ≤ (i : Int) := by omega
  have h3 : 0 ≤ wrap64 ((i : Int) + 1) ∧ wrap64 ((i : Int) + 1) ≤ (c.length : Int) := by rw [QV (by omega)]; omega
  have h4 : (wrap64 ((i : Int) + 1)).toNat = i + 1 := by rw [QV (by omega), Int.toNat_natCast]
  have h5 : (i : Int) ≤ (c.length : Int) := by omega
  have h6 : ([] : List S40).length + (c.drop (i + 1)).length < 5864062014805 := by simp; omega
  have h7 : ([] ++ c.drop (i + 1)).length + (c.take i).length < 5864062014805 := by simp; omega
  have hs (a b d : Int) : jD.f a b d = some (a, b) := rfl
  rw [zg.l0]
  rw [if_pos h1, if_pos h2, if_pos h1, e1, if_pos k1, Option.bind_some, if_pos h3.1, if_pos h3.2, Option.bind_some, h4, if_pos h6, Option.bind_some, hs, Option.bind_some, if_pos h5, Option.bind_some, Int.toNat_natCast, if_pos h7, List.nil_append]
theorem round_off (k : Nat) (c : List S40) (i : Nat) (hc : c.length ≤ 4096) (hlt : i < c.length) (k1 : c[i].f2 ≠ 1) : zg.l0 (k + 1) c c (c.length : Int) (i : Int) = zg.l0 k c c (c.length : Int) ((i + 1 : Nat) : Int) := by
  have e1 := Ze hlt
  have h1 : (i : Int) < (c.length : Int) := by omega
  have h2 : (0 : Int) ≤ (i : Int) := by omega
  have h3 : wrap64 ((i : Int) + 1) = ((i + 1 : Nat) : Int) := QV (by omega)
  rw [zg.l0]
  rw [if_pos h1, if_pos h2, if_pos h1, e1, if_neg k1, h3]
theorem offs_none {c : List S40} (h : ∀ x ∈ c, (!onK x) = true) : c.dropWhile (fun x => !onK x) = [] := by
  induction c with
  | nil => rfl
  | cons a r ih => rw [List.dropWhile_cons, if_pos (h a (by simp))]; exact ih (fun x hx => h x (by simp [hx]))
theorem offs_on {a b : List S40} {k : S40} (h : ∀ x ∈ a, (!onK x) = true) (hk : k.f2 = 1) : (a ++ k :: b).takeWhile (fun x => !onK x) = a ∧ (a ++ k :: b).dropWhile (fun x => !onK x) = k :: b := by
  have h2 : ¬ (!onK k) = true := by simp [onK, hk]
  constructor
  · rw [List.takeWhile_append_of_pos h, List.takeWhile_cons, if_neg h2, List.append_nil]
  · rw [List.dropWhile_append_of_pos h, List.dropWhile_cons, if_neg h2]
theorem roundV_off {c : List S40} (h : ∀ x ∈ c, (!onK x) = true) : jL c = (Jo (c.getLastD z40) (c.headD z40), c, (c.headD z40).f2 == 2) := by
  unfold jL; rw [offs_none h]
theorem roundV_on {a b : List S40} {k : S40} (h : ∀ x ∈ a, (!onK x) = true) (hk : k.f2 = 1) : jL (a ++ k :: b) = (sp k, b ++ a, true) := by
  unfold jL offs; rw [(offs_on h hk).1, (offs_on h hk).2]
theorem round_l0 (c : List S40) (hc : c.length ≤ 4096) (n0 : c ≠ []) (hk : ∀ x ∈ c, okK x) : ∀ (d i : Nat), c.length - i = d → i ≤ c.length → (∀ j, j < i → ∀ h : j < c.length, c[j].f2 ≠ 1) →
    Ev (fun k => zg.l0 k c c (c.length : Int) (i : Int)) ((jL c).1.f0, (jL c).1.f1, (jL c).2.1, (jL c).2.2) := by
  have l0 : 0 < c.length := List.length_pos_iff.2 n0
  intro d
  induction d with
  | zero =>
    intro i e hi hj
    have hoff : ∀ x ∈ c, (!onK x) = true := by
      intro x hx
      obtain ⟨j, h, rfl⟩ := List.getElem_of_mem hx
      have := hj j (by omega) h
      simp [onK, this]
    rw [roundV_off hoff]
    have m1 : c.headD z40 ∈ c := by
      cases c with
      | nil => exact absurd rfl n0
      | cons a r => simp
    have m2 : c.getLastD z40 ∈ c := by
      rw [List.getLastD_eq_getLast?, List.getLast?_eq_some_getLast n0]; exact List.getLast_mem n0
    exact Ev.step (fun k => round_none k c i hc l0 (by omega)) (Ev.bind (mid_ev (hk _ m2).2.2 (hk _ m1).2.2) (Ev.now _))
  | succ d ih =>
    intro i e hi hj
    have hlt : i < c.length := by omega
    by_cases k1 : c[i].f2 = 1
    · have h1 : ∀ x ∈ c.take i, (!onK x) = true := by
        intro x hx
        obtain ⟨j, h, rfl⟩ := List.getElem_of_mem hx
        rw [List.length_take] at h
        rw [List.getElem_take]
        have := hj j (by omega) (by omega)
        simp [onK, this]
      have e1 := roundV_on (b := c.drop (i + 1)) h1 k1
      rw [← List.drop_eq_getElem_cons hlt, List.take_append_drop] at e1
      rw [e1]
      exact Ev.step (f := fun _ => some (c[i].f0, c[i].f1, c.drop (i + 1) ++ c.take i, true)) (fun k => round_on k c i hc hlt k1) (Ev.now _)
    · refine Ev.step (fun k => round_off k c i hc hlt k1) (ih (i + 1) (by omega) (by omega) (fun j hji h => ?_))
      by_cases e : j = i
      · subst e; exact k1
      · exact hj j (by omega) h
theorem round_ev (c : List S40) (hc : c.length ≤ 4096) (n0 : c ≠ []) (hk : ∀ x ∈ c, okK x) : Ev (fun k => zg.f k c) ((jL c).1.f0, (jL c).1.f1, (jL c).2.1, (jL c).2.2) := by
  unfold zg.f
  exact round_l0 c hc n0 hk c.length 0 (by omega) (by omega) (fun j h => by omega)
theorem roundV_in (c : List S40) (n0 : c ≠ []) (hk : ∀ x ∈ c, okK x) : zN (jL c).1 ∧ (∀ x ∈ (jL c).2.1, okK x) ∧ (jL c).2.1.length ≤ c.length := by
  have sp' := offs_split c
  have m1 : c.headD z40 ∈ c := by
    cases c with
    | nil => exact absurd rfl n0
    | cons a r => simp
  have m2 : c.getLastD z40 ∈ c := by
    rw [List.getLastD_eq_getLast?, List.getLast?_eq_some_getLast n0]; exact List.getLast_mem n0
  unfold jL
  cases hd : c.dropWhile (fun x => !onK x) with
  | nil => exact ⟨mid_fix (hk _ m2).2.2 (hk _ m1).2.2, hk, Nat.le_refl _⟩
  | cons k b =>
    rw [hd] at sp'
    dsimp only
    refine ⟨(hk k (by rw [sp']; simp)).2.2, fun x hx => hk x ?_, ?_⟩
    · rw [sp']
      rcases List.mem_append.1 hx with h | h
      · simp [h]
      · exact List.mem_append_left _ h
    · have := congrArg List.length sp'
      rw [List.length_append, List.length_cons] at this
      rw [List.length_append]; omega
def Zo (c : List S40) : List S35 × Bool :=
  if c = [] then ([], true) else if (jL c).2.2 = false then ([], false) else endC [(jL c).1] (ctW (jL c).1 ((jL c).2.1.length + 1) (jL c).2.1 (jL c).1)
theorem con_ev (c : List S40) (hc : c.length ≤ 4096) (hk : ∀ x ∈ c, okK x) : Ev (fun k => jm.f k c) (Zo c) := by
  unfold jm.f Zo
  by_cases n0 : c = []
  · subst n0; exact Ev.now _
  · simp only [if_neg (show ¬ c.length = 0 from fun z => n0 (List.length_eq_zero_iff.1 z)), if_neg n0]
    obtain ⟨r1, r2, r3⟩ := roundV_in c n0 hk
    refine Ev.bind (round_ev c hc n0 hk) ?_
    dsimp only
    cases h : (jL c).2.2 with
    | false => simp only [if_true]; exact Ev.now _
    | true =>
      simp only [Bool.true_eq_false, if_false, if_pos (show (jL c).2.1.length ≤ 100000 by omega)]
      exact ctL_ev (jL c).1 r1 (jL c).2.1 r2 (by omega) _ 0 _ (jL c).1 r1 (by omega) (by omega) (by simp; omega)
end Go.Proofs.Ytmlkpadlafjfeaa.P
set_option linter.unusedVariables false
set_option linter.unusedSimpArgs false
namespace Go.Proofs.Ytmlkpadlafjfeaa.P
open Go Go.RowKit Go.Proofs.YtmlkpadlafjfeaaW.PrintWords Go.Proofs.YtmlkpadlafjfeaaW.PrintLast Go.Proofs.YtmlkpadlafjfeaaW.PrintMore
def Zp (x : S40) : Bool := decide (x.f2 < 1) || decide (x.f2 > 3)
def Zh (n : Int) : Bool := decide (n < -2147483647) || decide (n > 2147483647)
def Zn (x : S40) : Bool := Zh x.f0 || Zh x.f1
def tot (o : List (List S40)) : Nat := (o.map List.length).sum
def CK (o : List (List S40)) : Int :=
  if 256 < o.length ∨ 4096 < tot o then 63 else if o.any (fun c => c.any Zp) = true then 61 else if o.any (fun c => c.any Zn) = true then 64 else 0
def Qb {α : Type} (o : List (List α)) : Prop := o.length ≤ 5864062014634 ∧ ∀ c ∈ o, c.length ≤ 5864062014634
theorem ZF {o : List (List S40)} {i : Nat} (h : i < o.length) : qp o (i : Int) = o[i] := by unfold qp; rw [Int.toNat_natCast, List.getD_eq_getElem?_getD, List.getElem?_eq_getElem h]; rfl
theorem ZJ {α : Type} (p : α → Bool) {l : List α} {i : Nat} (h : i < l.length) : (l.drop i).any p = (p l[i] || (l.drop (i + 1)).any p) := by rw [List.drop_eq_getElem_cons h, List.any_cons]
theorem Jg {α : Type} (p : α → Bool) {l : List α} {i : Nat} (h : l.length ≤ i) : (l.drop i).any p = false := by rw [List.drop_of_length_le h]; rfl
theorem chk_f (n : Int) : zm.f n = some (if Zh n = true then 14 else 0) := by
  unfold zm.f Zh
  by_cases h1 : n < -2147483647
  · simp [h1]
  · by_cases h2 : n > 2147483647
    · simp [h1, h2]
    · simp [h1, h2]
section
variable {x0 x10 : List (List S40)} {n x11 i : Int} {row : List S40}
theorem check_l1 (hr : row.length ≤ 9000000000000000000) (r : Int) : ∀ (d j : Nat) (odd wide : Bool), row.length - j = d → j ≤ row.length →
    Ev (fun k => qN.l0 k x0 n (odd || (row.drop j).any Zp) (wide || (row.drop j).any Zn) x10 x11 (wrap64 (i + 1))) r →
    Ev (fun k => qN.l1 k x0 n odd wide x10 x11 i row (row.length : Int) (j : Int)) r := by
  intro d
  induction d with
  | zero =>
    intro j odd wide e hj h
    rw [Jg _ (by omega), Jg _ (by omega), Bool.or_false, Bool.or_false] at h
    refine Ev.step (fun k => ?_) h
    rw [qN.l1, if_neg (by omega)]
  | succ d ih =>
    intro j odd wide e hj h
    have hlt : j < row.length := by omega
    rw [ZJ _ hlt, ZJ _ hlt, ← Bool.or_assoc, ← Bool.or_assoc] at h
    have h := ih (j + 1) _ _ (by omega) (by omega) h
    refine Ev.step (fun k => ?_) h
    have h1 : (j : Int) < (row.length : Int) := by omega
    have h2 : (0 : Int) ≤ (j : Int) := by omega
    rw [qN.l1, if_pos h1, if_pos h2, if_pos h1, Ze hlt, QV (by omega), chk_f, chk_f]
    generalize row[j] = X
    generalize hG : qN.l1 k x0 n = G
    clear ih h
    have b1 : Zp X = (decide (X.f2 < 1) || decide (X.f2 > 3)) := rfl
    have b2 : Zn X = (Zh X.f0 || Zh X.f1) := rfl
    rw [b1, b2]
    cases odd <;> cases wide <;> by_cases c1 : X.f2 < 1 <;> cases c2 : Zh X.f0 <;> cases c3 : Zh X.f1 <;> simp [c1, c2, c3]
end
theorem check_l0 (o : List (List S40)) (hm : Qb o) : ∀ (d i : Nat) (n : Nat) (odd wide : Bool), o.length - i = d → i ≤ o.length → n ≤ 4096 →
    Ev (fun k => qN.l0 k o (n : Int) odd wide o (o.length : Int) (i : Int)) (if 256 < o.length ∨ 4096 < n + tot (o.drop i) then 63 else if (odd || (o.drop i).any (fun c => c.any Zp)) = true then 61 else if (wide || (o.drop i).any (fun c => c.any Zn)) = true then 64 else 0) := by
  have hl := hm.1
  intro d
  induction d with
  | zero =>
    intro i n odd wide e hi hn
    rw [List.drop_of_length_le (by omega)]
    refine Ev.step (f := fun _ => some _) (fun k => ?_) (Ev.now _)
    rw [qN.l0, if_neg (by omega)]
    have ht : tot [] = 0 := rfl
    rw [ht]
    by_cases c : 256 < o.length
    · rw [if_pos (by omega), if_pos (Or.inl c)]
    · rw [if_neg (show ¬ (o.length : Int) > 256 by omega), if_neg (show ¬ (256 < o.length ∨ 4096 < n + 0) by omega)]
      cases odd <;> cases wide <;> rfl
  | succ d ih =>
    intro i n odd wide e hi hn
    have hlt : i < o.length := by omega
    have hrow := hm.2 _ (List.getElem_mem hlt)
    have er : o.drop i = o[i] :: o.drop (i + 1) := List.drop_eq_getElem_cons hlt
    have ht : tot (o.drop i) = o[i].length + tot (o.drop (i + 1)) := by rw [er]; unfold tot; rw [List.map_cons, List.sum_cons]
    have h1 : (i : Int) < (o.length : Int) := by omega
    have h2 : (0 : Int) ≤ (i : Int) := by omega
    have hw : wrap64 ((n : Int) + (o[i].length : Int)) = ((n + o[i].length : Nat) : Int) := by rw [w64 (by omega) (by omega)]; omega
    rw [ht]
    by_cases c : 4096 < n + o[i].length
    · refine Ev.step (f := fun _ => some 63) (fun k => ?_) ?_
      · rw [qN.l0, if_pos h1, if_pos h2, if_pos h1, ZF hlt, hw, if_pos (by omega)]
      · rw [if_pos (Or.inr (by omega))]; exact Ev.now _
    · have h := ih (i + 1) (n + o[i].length) (odd || o[i].any Zp) (wide || o[i].any Zn) (by omega) (by omega) (by omega)
      rw [Nat.add_assoc, Bool.or_assoc, Bool.or_assoc] at h
      rw [er, List.any_cons, List.any_cons]
      rw [← QV (by omega)] at h
      have h := check_l1 (x0 := o) (x10 := o) (n := ((n + o[i].length : Nat) : Int)) (x11 := (o.length : Int)) (i := (i : Int)) (row := o[i]) (by omega) _ o[i].length 0 odd wide (by omega) (by omega) h
      refine Ev.step (fun k => ?_) h
      rw [qN.l0, if_pos h1, if_pos h2, if_pos h1, ZF hlt, hw, if_neg (by omega)]; rfl
theorem JV (o : List (List S40)) (hm : Qb o) : Ev (fun k => qN.f k o) (CK o) := by
  have h := check_l0 o hm o.length 0 0 false false (by omega) (by omega) (by omega)
  rw [List.drop_zero, Nat.zero_add, Bool.false_or, Bool.false_or] at h
  exact h
theorem CK_ok {o : List (List S40)} (h : CK o = 0) : o.length ≤ 256 ∧ tot o ≤ 4096 ∧ ∀ c ∈ o, c.length ≤ 4096 ∧ ∀ x ∈ c, okK x := by
  unfold CK at h
  by_cases c1 : 256 < o.length ∨ 4096 < tot o
  · rw [if_pos c1] at h; omega
  · rw [if_neg c1] at h
    by_cases c2 : o.any (fun c => c.any Zp) = true
    · rw [if_pos c2] at h; omega
    · rw [if_neg c2] at h
      by_cases c3 : o.any (fun c => c.any Zn) = true
      · rw [if_pos c3] at h; omega
      · refine ⟨by omega, by omega, fun c hc => ⟨?_, fun x hx => ?_⟩⟩
        · have : c.length ≤ tot o := by
            clear h c1 c2 c3
            induction o with
            | nil => cases hc
            | cons a r ih =>
              have e : tot (a :: r) = a.length + tot r := by unfold tot; rw [List.map_cons, List.sum_cons]
              rcases List.mem_cons.1 hc with e1 | e1
              · subst e1; omega
              · have := ih e1; omega
          omega
        · have e2 : Zp x = false := by
            rw [Bool.eq_false_iff]; intro z
            exact c2 (List.any_eq_true.2 ⟨c, hc, List.any_eq_true.2 ⟨x, hx, z⟩⟩)
          have e3 : Zn x = false := by
            rw [Bool.eq_false_iff]; intro z
            exact c3 (List.any_eq_true.2 ⟨c, hc, List.any_eq_true.2 ⟨x, hx, z⟩⟩)
          unfold Zp at e2; unfold Zn Zh at e3
          simp only [Bool.or_eq_false_iff, decide_eq_false_iff_not] at e2 e3
          exact ⟨by omega, by omega, ⟨by omega, by omega⟩, by omega, by omega⟩
theorem qa8 (a b : List (List S40)) : tot (a ++ b) = tot a + tot b := by unfold tot; rw [List.map_append, List.sum_append]
theorem CK_append {a b : List (List S40)} (h : CK (a ++ b) = 0) : CK a = 0 ∧ CK b = 0 := by
  have hk := CK_ok h
  rw [List.length_append, qa8] at hk
  obtain ⟨h1, h2, _⟩ := hk
  unfold CK at h
  rw [List.length_append, qa8, if_neg (by omega), List.any_append, List.any_append] at h
  unfold CK
  rw [if_neg (show ¬ (256 < a.length ∨ 4096 < tot a) by omega), if_neg (show ¬ (256 < b.length ∨ 4096 < tot b) by omega)]
  cases e1 : a.any (fun c => c.any Zp) <;> cases e2 : b.any (fun c => c.any Zp) <;> cases e3 : a.any (fun c => c.any Zn) <;> cases e4 : b.any (fun c => c.any Zn) <;> simp [e1, e2, e3, e4] at h ⊢
def FL (o : List (List S40)) : List (List S35) × Int :=
  if CK o = 0 then (if o.all (fun c => (Zo c).2) = true then (o.map (fun c => (Zo c).1), 0) else ([], 61)) else ([], CK o)
theorem set_mid {α : Type} (a : List α) (x y : α) (b : List α) : (a ++ x :: b).set a.length y = (a ++ [y]) ++ b := by
  rw [List.set_append_right _ _ (Nat.le_refl _), Nat.sub_self, List.set_cons_zero, List.append_assoc]; rfl
theorem flat_l0 (o : List (List S40)) (hl : o.length ≤ 256) (hk : ∀ c ∈ o, c.length ≤ 4096 ∧ ∀ x ∈ c, okK x) : ∀ (d i : Nat), o.length - i = d → i ≤ o.length →
    Ev (fun k => zy.l0 k ((o.take i).map (fun c => (Zo c).1) ++ List.replicate (o.length - i) []) o (o.length : Int) (i : Int)) (if (o.drop i).all (fun c => (Zo c).2) = true then (o.map (fun c => (Zo c).1), 0) else ([], 61)) := by
  intro d
  induction d with
  | zero =>
    intro i e hi
    refine Ev.step (f := fun _ => some _) (fun k => ?_) (Ev.now _)
    rw [zy.l0, if_neg (by omega), List.drop_of_length_le (by omega), List.take_of_length_le (by omega), e]
    simp
  | succ d ih =>
    intro i e hi
    have hlt : i < o.length := by omega
    have er : o.drop i = o[i] :: o.drop (i + 1) := List.drop_eq_getElem_cons hlt
    have h1 : (i : Int) < (o.length : Int) := by omega
    have h2 : (0 : Int) ≤ (i : Int) := by omega
    obtain ⟨q1, q2⟩ := hk _ (List.getElem_mem hlt)
    have lt : ((o.take i).map (fun c => (Zo c).1)).length = i := by rw [List.length_map, List.length_take]; omega
    have e5 : List.replicate (o.length - i) ([] : List S35) = [] :: List.replicate (o.length - (i + 1)) [] := by
      rw [show o.length - i = (o.length - (i + 1)) + 1 by omega]; rfl
    have h3 : (i : Int) < ((((o.take i).map (fun c => (Zo c).1)) ++ List.replicate (o.length - i) ([] : List S35)).length : Int) := by
      rw [List.length_append, lt, List.length_replicate]; omega
    have es : (((o.take i).map (fun c => (Zo c).1)) ++ List.replicate (o.length - i) ([] : List S35)).set ((i : Int)).toNat (Zo o[i]).1 = (o.take (i + 1)).map (fun c => (Zo c).1) ++ List.replicate (o.length - (i + 1)) [] := by
      have := set_mid ((o.take i).map (fun c => (Zo c).1)) [] (Zo o[i]).1 (List.replicate (o.length - (i + 1)) [])
      rw [lt] at this
      rw [e5, Int.toNat_natCast, this, List.take_add_one, List.map_append, List.getElem?_eq_getElem hlt]; rfl
    rw [er, List.all_cons]
    refine Ev.step (f := fun k => (jm.f k o[i]).bind fun bt => if bt.2 = true then zy.l0 k ((((o.take i).map (fun c => (Zo c).1)) ++ List.replicate (o.length - i) ([] : List S35)).set ((i : Int)).toNat bt.1) o (o.length : Int) ((i + 1 : Nat) : Int) else some ([], 61)) (fun k => ?_) ?_
    · rw [zy.l0, if_pos h1, if_pos h2, if_pos h1, ZF hlt, QV (by omega)]
      simp only [if_pos h3]
    · refine Ev.bind (con_ev o[i] q1 q2) ?_
      cases hc : (Zo o[i]).2 with
      | false => simp only [Bool.false_eq_true, if_false, Bool.false_and]; exact Ev.now _
      | true =>
        simp only [if_true, Bool.true_and]
        rw [es]
        exact ih (i + 1) (by omega) (by omega)
theorem flat_big (k : Nat) (o : List (List S40)) (hl : o.length ≤ 256) : (if 0 ≤ (o.length : Int) then (if ((o.length : Int) : Int).toNat ≤ 11728124029610 then (zy.l0 k (List.replicate ((o.length : Int) : Int).toNat []) o (o.length : Int) 0) else (none)) else (none)) = zy.l0 k (List.replicate o.length []) o (o.length : Int) ((0 : Nat) : Int) := by
  have h1 : ((o.length : Int)).toNat ≤ 11728124029610 := by rw [Int.toNat_natCast]; omega
  rw [if_pos (by omega), if_pos h1, Int.toNat_natCast]; rfl
theorem flat_ev (o : List (List S40)) (hm : Qb o) : Ev (fun k => zy.f k o) (FL o) := by
  unfold zy.f FL
  refine Ev.bind (JV o hm) ?_
  by_cases c : CK o = 0
  · obtain ⟨h1, h2, h3⟩ := CK_ok c
    simp only [if_pos c]
    refine Ev.congr (fun k => flat_big k o h1) ?_
    have h := flat_l0 o h1 h3 o.length 0 (by omega) (by omega)
    rw [List.take_zero, List.map_nil, List.nil_append, Nat.sub_zero, List.drop_zero] at h
    exact h
  · simp only [if_neg c]; exact Ev.now _
end Go.Proofs.Ytmlkpadlafjfeaa.P
set_option linter.unusedVariables false
set_option linter.unusedSimpArgs false
namespace Go.Proofs.Ytmlkpadlafjfeaa.P
open Go Go.RowKit Go.Proofs.YtmlkpadlafjfeaaW.PrintWords Go.Proofs.YtmlkpadlafjfeaaW.PrintLast Go.Proofs.YtmlkpadlafjfeaaW.PrintMore
def okI (sA sB sC : Nat) (k : Nat) : Prop := (sA ≤ k ∧ k < sB) ∨ sC ≤ k
def zO {α : Type} (d : Kd α) (e e2 : Nat) (w7 : World) (sA sB sC : Nat) (v : Value) (n : Nat) (P : List (List α) → Prop) (wr : World) : Prop :=
  ∃ rows : List (List α), rows.length = n ∧ Kd.S (Kd.slice e d) e2 wr sA (okI sA sB sC) v rows ∧ P rows ∧ (∀ k, k < sC → ¬ (sA ≤ k ∧ k < sB) → wr.heap[k]? = w7.heap[k]?) ∧ sC ≤ wr.heap.size
theorem zO.weak {α : Type} {d : Kd α} {e e2 : Nat} {w7 : World} {sA sB sC : Nat} {v : Value} {n : Nat} {P Q : List (List α) → Prop} {wr : World} (h : zO d e e2 w7 sA sB sC v n P wr) (hp : ∀ r, P r → Q r) : zO d e e2 w7 sA sB sC v n Q wr := by
  obtain ⟨rows, h1, h2, h3, h4, h5⟩ := h
  exact ⟨rows, h1, h2, hp _ h3, h4, h5⟩
theorem zO.start {α : Type} {d : Kd α} {e e2 : Nat} {w7 : World} {sA sB : Nat} {v : Value} {rows : List (List α)} {P : List (List α) → Prop} (h : Kd.S (Kd.slice e d) e2 w7 sA (fun k => sA ≤ k ∧ k < sB) v rows) (hp : P rows) : zO d e e2 w7 sA sB w7.heap.size v rows.length P w7 :=
  ⟨rows, rfl, Kd.jr h (fun k hk => Or.inl hk), hp, fun _ _ _ => rfl, Nat.le_refl _⟩
section
variable {α : Type} {d : Kd α} {e e2 n cap g sA sB sC : Nat} {w7 wr : World} {P : List (List α) → Prop}
theorem zO.get (h : zO d e e2 w7 sA sB sC (.slice (some ⟨g, 0, none⟩) n cap) n P wr) {i : Nat} (hi : i < n) : ∃ (Ai : Option Addr) (ci : Nat) (rows : List (List α)), P rows ∧ rows.length = n ∧ wr.cell? ⟨g, i, none⟩ = some (.slice Ai (rows.getD i []).length ci) ∧ (rows.getD i []).length ≤ ci ∧ zO d e e2 w7 sA sB sC (.slice (some ⟨g, 0, none⟩) n cap) n (fun r => P r ∧ r = rows) wr := by
  obtain ⟨rows, h1, h2, h3, h4, h5⟩ := h
  obtain ⟨oki, c, hcl, hM, hcc, hoki, hback⟩ := Kd.S_borrow h2 [] (i : Int) (by omega) (by omega)
  rw [Int.toNat_natCast] at hM hcc
  obtain ⟨A, cc, rfl, hle, hC⟩ := (Kd.slice e d).K_of_M hM
  have hc0 := hcc 0 _ rfl
  rw [show i * (Kd.slice e d).sz + 0 = i from by show i * 1 + 0 = i; omega] at hc0
  have e0 : (⟨g, 0, none⟩ : Addr).add i = ⟨g, i, none⟩ := by rw [add_at, Nat.zero_add]
  rw [e0] at hc0
  exact ⟨A, cc, rows, h3, h1, hc0, hle, rows, h1, h2, ⟨h3, rfl⟩, h4, h5⟩
theorem zO.put (h : zO d e e2 w7 sA sB sC (.slice (some ⟨g, 0, none⟩) n cap) n P wr) {i j : Nat} (hi : i < n) (hP : ∀ rows, P rows → j < (rows.getD i []).length) (y : α) (cs : List Value) (hcs : cs.length = d.sz) (hy : ∀ W b, d.M W b (fun _ => False) y cs) :
    ∃ (gi L ci : Nat) (rows : List (List α)) (c0 : List Value), P rows ∧ L = (rows.getD i []).length ∧ j < L ∧ wr.cell? ⟨g, i, none⟩ = some (.slice (some ⟨gi, 0, none⟩) L ci) ∧ c0.length = d.sz ∧ (∀ m u, c0[m]? = some u → wr.cell? ⟨gi, j * d.sz + m, none⟩ = some u) ∧ (∀ m, wr.frozen? ⟨gi, j * d.sz + m, none⟩ = false) ∧ sA ≤ gi ∧
      zO d e e2 w7 sA sB sC (.slice (some ⟨g, 0, none⟩) n cap) n (fun r => ∃ rows, P rows ∧ r = rows.set i ((rows.getD i []).set j y)) (wr.setCells gi (j * d.sz) cs) := by
  obtain ⟨rows, h1, h2, h3, h4, h5⟩ := h
  have hj := hP rows h3
  obtain ⟨oki, c, hcl, hM, hcc, hoki, hback⟩ := Kd.S_borrow h2 [] (i : Int) (by omega) (by omega)
  rw [Int.toNat_natCast] at hM hcc
  obtain ⟨v', rfl, hR⟩ := hM
  have hrl : 0 < (rows.getD i []).length := by omega
  obtain ⟨gi, ci, ev, hb, hlt, _⟩ := Kd.R_form hR hrl
  subst ev
  have hgi : oki gi := hR.1 gi (by simp [Value.ownBlock])
  obtain ⟨c0, hc0, hM0, hcc0, hfr⟩ := Kd.R_elem hR y (j : Int) (by omega) (by omega)
  rw [Int.toNat_natCast] at hM0 hcc0 hfr
  have hcs0 : c0.take 0 ++ cs ++ c0.drop (0 + cs.length) = cs := by
    rw [List.take_zero, List.nil_append, List.drop_of_length_le (by omega), List.append_nil]
  obtain ⟨hR1, hg1⟩ := Kd.R_seg hR (j : Int) (by omega) (by omega) (c := c0) (seg := cs) (j := 0) hc0 (by rw [Int.toNat_natCast]; exact hcc0) (by omega) (x' := y) (okp := fun _ => False) (by rw [hcs0]; exact hy _ _) (fun k hk => hk.elim)
  rw [Int.toNat_natCast, Nat.add_zero] at hR1 hg1
  have hS1 := hback hg1 (fun k hk => by injection hk with hk; subst hk; exact hgi) (Kd.M_row hR1)
  rw [Int.toNat_natCast] at hS1
  have hc1 := hcc 0 _ rfl
  rw [show i * (Kd.slice e d).sz + 0 = i from by show i * 1 + 0 = i; omega] at hc1
  have e0 : (⟨g, 0, none⟩ : Addr).add i = ⟨g, i, none⟩ := by rw [add_at, Nat.zero_add]
  rw [e0] at hc1
  refine ⟨gi, _, ci, rows, c0, h3, rfl, hj, hc1, hc0, hcc0, hfr, hb, rows.set i ((rows.getD i []).set j y), by rw [List.length_set]; exact h1, hS1, ⟨rows, h3, rfl⟩, fun k hk hn => ?_, Nat.le_trans h5 hg1.size⟩
  rw [hg1.block k (by omega) (fun z => ?_)]
  · exact h4 k hk hn
  · injection z with z
    subst z
    rcases (hoki _ hgi).1 with q | q
    · exact hn q
    · omega
theorem zO.app (h : zO d e e2 w7 sA sB sC (.slice (some ⟨g, 0, none⟩) n cap) n P wr) {i : Nat} (hi : i < n) (hAC : sA ≤ sC) :
    ∃ (v' : Value) (rows : List (List α)) (oki : Nat → Prop), P rows ∧ wr.cell? ⟨g, i, none⟩ = some v' ∧ Kd.R d e wr sA oki v' (rows.getD i []) ∧ (∀ k, oki k → k ≠ g) ∧ g < wr.heap.size ∧ sA ≤ wr.heap.size ∧
      ∀ (w1 : World) (v1 : Value) (row' : List α), Kd.R d e w1 sA (fun k => oki k ∨ wr.heap.size ≤ k) v1 row' → wr.grownBy w1 v'.ownBlock → w1.frozen? ⟨g, i, none⟩ = false ∧ w1.cell? ⟨g, i, none⟩ = some v' ∧ zO d e e2 w7 sA sB sC (.slice (some ⟨g, 0, none⟩) n cap) n (fun r => r = rows.set i row') (w1.setCell ⟨g, i, none⟩ v1) := by
  obtain ⟨rows, h1, h2, h3, h4, h5⟩ := h
  have h2' : Kd.S (Kd.slice e d) e2 wr sA (fun k => okI sA sB sC k ∧ ¬ (wr.heap.size ≤ k)) (.slice (some ⟨g, 0, none⟩) n cap) rows := Kd.jr (Kd.Qw h2) (fun k hk => ⟨hk.1, by have := hk.2.2.1; omega⟩)
  obtain ⟨oki, c, hcl, hM, hcc, hfr, hoki, hH⟩ := Kd.S_elem h2' [] (i : Int) (by omega) (by omega)
  rw [Int.toNat_natCast] at hM hcc hfr
  obtain ⟨v', rfl, hR⟩ := hM
  have hc1 := hcc 0 _ rfl
  rw [show i * (Kd.slice e d).sz + 0 = i from by show i * 1 + 0 = i; omega] at hc1
  have hf1 := hfr 0
  rw [show i * (Kd.slice e d).sz + 0 = i from by show i * 1 + 0 = i; omega] at hf1
  have hgl := Kd.S_lt h2 g (by simp [Value.ownBlock])
  have hbase := Kd.Jm h2 g (by simp [Value.ownBlock])
  have hown : some g ≠ v'.ownBlock := fun z => (hoki g (hR.1 g z.symm)).2 rfl
  obtain ⟨cells, hty⟩ := Kd.ZO h2 g (by simp [Value.ownBlock])
  refine ⟨v', rows, oki, h3, hc1, hR, fun k hk => (hoki k hk).2, hgl, by omega, fun w1 v1 row' hR1 hg1 => ?_⟩
  have hty1 := Qy hty hg1 hown
  have hH1 := Kd.H_grown hH hg1 (fun k hk => hR.1 k hk)
  refine ⟨qo hty1 i, cell_grown hg1 hc1 hown, rows.set i row', by rw [List.length_set]; exact h1, ?_⟩
  obtain ⟨hS2, hg2⟩ := Kd.S_seg (okg := fun k => wr.heap.size ≤ k) hH1 (by omega) (by omega) (seg := [v1]) (j := 0) (by show 0 + 1 ≤ 1; omega) (x' := row') (okp := fun k => oki k ∨ wr.heap.size ≤ k) (Kd.M_row hR1) (fun k hk => hk) (fun k hk => ⟨Or.inr (by omega), by omega⟩)
  rw [Int.toNat_natCast] at hS2 hg2
  have es : w1.setCells g (i * (Kd.slice e d).sz + 0) [v1] = w1.setCell ⟨g, i, none⟩ v1 := by
    rw [show i * (Kd.slice e d).sz + 0 = i from by show i * 1 + 0 = i; omega]; rfl
  rw [es] at hS2 hg2
  refine ⟨hS2, rfl, fun k hk hn => ?_, Nat.le_trans h5 (Nat.le_trans hg1.size hg2.size)⟩
  have hkw : k < wr.heap.size := by omega
  rw [hg2.block k (Nat.lt_of_lt_of_le hkw hg1.size) (fun z => ?_), hg1.block k hkw (fun z => ?_)]
  · exact h4 k hk hn
  · have q := (hoki k (hR.1 k z.symm)).1.1
    rcases q with q | q
    · exact hn q
    · omega
  · injection z with z
    subst z
    have q := (Kd.S_R h2).1 k (by simp [Value.ownBlock])
    rcases q with q | q
    · exact hn q
    · omega
end
end Go.Proofs.Ytmlkpadlafjfeaa.P
set_option linter.unusedVariables false
set_option linter.unusedSimpArgs false
namespace Go.Proofs.Ytmlkpadlafjfeaa.P
open Go Go.RowKit Go.Proofs.YtmlkpadlafjfeaaW.PrintWords Go.Proofs.YtmlkpadlafjfeaaW.PrintLast Go.Proofs.YtmlkpadlafjfeaaW.PrintMore
def NK (u v : Int → Int → Int × Int) (X : S40) : S40 := ⟨(u X.f0 X.f1).1, (v X.f0 X.f1).1, X.f2⟩
def OKK (u v : Int → Int → Int × Int) (X : S40) : Bool := decide ((u X.f0 X.f1).2 = 0) && decide ((v X.f0 X.f1).2 = 0)
def Qh (u v : Int → Int → Int × Int) (o : List (List S40)) : List (List S40) × Int :=
  if CK o = 0 then (if o.all (fun c => c.all (OKK u v)) = true then (o.map (fun c => c.map (NK u v)), 0) else ([], 64)) else ([], CK o)
def jF (u v : Int → Int → Int × Int) (o : List (List S40)) (i j : Nat) : List (List S40) :=
  (o.take i).map (fun c => c.map (NK u v)) ++ (match o[i]? with | some row => ((row.take j).map (NK u v)) :: List.replicate (o.length - i - 1) [] | none => [])
theorem J8 (u v : Int → Int → Int × Int) (o : List (List S40)) : jF u v o 0 0 = List.replicate o.length [] := by
  unfold jF
  cases o with
  | nil => rfl
  | cons c o => simp [List.replicate_succ]
theorem qai (u v : Int → Int → Int × Int) (o : List (List S40)) : jF u v o o.length 0 = o.map (fun c => c.map (NK u v)) := by
  unfold jF
  rw [List.getElem?_eq_none (Nat.le_refl _), List.take_length]; simp
theorem qak (u v : Int → Int → Int × Int) (o : List (List S40)) {i : Nat} (hi : i < o.length) : jF u v o i o[i].length = jF u v o (i + 1) 0 := by
  unfold jF
  rw [List.getElem?_eq_getElem hi, List.take_add_one, List.getElem?_eq_getElem hi, List.map_append, List.append_assoc]
  congr 1
  dsimp only
  rw [List.take_length]
  by_cases h : i + 1 < o.length
  · rw [List.getElem?_eq_getElem h, show o.length - i - 1 = (o.length - (i + 1) - 1) + 1 by omega, List.replicate_succ]
    rfl
  · rw [List.getElem?_eq_none (by omega), show o.length - i - 1 = 0 by omega]
    rfl
theorem Jv (u v : Int → Int → Int × Int) (o : List (List S40)) {i : Nat} (hi : i < o.length) (j : Nat) : (jF u v o i j).getD i [] = (o[i].take j).map (NK u v) := by
  unfold jF
  rw [List.getElem?_eq_getElem hi, List.getD_eq_getElem?_getD, List.getElem?_append_right (by simp; omega)]
  simp [List.length_take, Nat.min_eq_left (Nat.le_of_lt hi)]
theorem JO (u v : Int → Int → Int × Int) (o : List (List S40)) {i j : Nat} (hi : i < o.length) (hj : j < o[i].length) : (jF u v o i j).set i ((jF u v o i j).getD i [] ++ [NK u v o[i][j]]) = jF u v o i (j + 1) := by
  rw [Jv u v o hi]
  unfold jF
  have hl : ((o.take i).map (fun c => c.map (NK u v))).length = i := by rw [List.length_map, List.length_take]; omega
  rw [List.getElem?_eq_getElem hi, List.set_append_right _ _ (by omega), hl, Nat.sub_self]
  dsimp only
  rw [List.take_add_one, List.getElem?_eq_getElem hj, List.map_append]
  rfl
theorem zO.below {α : Type} {d : Kd α} {e e2 : Nat} {w7 : World} {sA sB sC : Nat} {v : Value} {n : Nat} {P : List (List α) → Prop} {wr w1 : World} (h : zO d e e2 w7 sA sB sC v n P wr) (hb : Below wr.heap.size wr w1) : zO d e e2 w7 sA sB sC v n P w1 := by
  obtain ⟨rows, h1, h2, h3, h4, h5⟩ := h
  exact ⟨rows, h1, Kd.jg h2 hb, h3, fun k hk hn => (hb.block k (by omega)).trans (h4 k hk hn), Nat.le_trans h5 (qx hb)⟩
set_option maxRecDepth 100000 in
set_option maxHeartbeats 8000000 in
theorem mapped36 (u v : Int → Int → Int × Int) (o : List (List S40)) (A : Option Addr) (c : Nat) (g1 g2 : Nat) (w : World) (hr : Kd.C (Kd.slice 40 k40) w A o.length o) (hc : o.length ≤ c) (hm : Qb o)
    (hT : CK o = 0 → ∀ row ∈ o, ∀ X ∈ row, ∀ w1, Below w.heap.size w w1 → Calls Try.prog 36 #[.int .i64 X.f0, .int .i64 X.f1, .pointer (some ⟨g1, 0, none⟩), .pointer (some ⟨g2, 0, none⟩)] w1 fun q w' => q = .returned (.tuple #[.int .i64 (u X.f0 X.f1).1, .int .i64 (v X.f0 X.f1).1, .int .i64 (u X.f0 X.f1).2, .int .i64 (v X.f0 X.f1).2]) ∧ Below w1.heap.size w1 w') :
    Calls Try.prog 35 #[.slice A o.length c, .func (Fn.func 36) #[] #[.pointer (some ⟨g1, 0, none⟩), .pointer (some ⟨g2, 0, none⟩)]] w fun q w' => ∃ v0 : Value, q = .returned (.tuple #[v0, .int .i64 (Qh u v o).2]) ∧ Kd.S (Kd.slice 40 k40) 37 w' w.heap.size (fun _ => True) v0 (Qh u v o).1 ∧ Below w.heap.size w w' := by
  have HR := qa.mk hr
  have HC := qa.mk hc
  have lm := hm.1
  obtain ⟨kc, cp⟩ := (JV o hm).rounds
  have CP := qa.mk cp
  have HM := qa.mk hm
  clear hr hc cp hm
  unfold Qh
  by_cases ck : CK o = 0
  case neg =>
    rw [if_neg ck]
    have cb0 : (CK o == 0) = false := beq_eq_false_iff_ne.mpr ck
    have cb1 : (CK o != 0) = true := bne_iff_ne.mpr ck
    clear hT
    generalize CK o = e at *
    go_enter Try.func35, Try.ntmps35
    go_wp2_with (go_at_call 28; refine (qN.calls kc A c o e w HR.out HC.out CP.out).mono ?_; rintro q w1 ⟨rfl, hb1⟩; have B1 := qa.mk hb1; clear hb1)
    go_ret2
    exact ⟨_, rfl, Kd.Zl _ _ _ _ _, B1.out⟩
  case pos =>
    rw [if_pos ck]
    obtain ⟨R1, R2, hR⟩ : ∃ a b, (if o.all (fun c => c.all (OKK u v)) = true then (o.map (fun c => c.map (NK u v)), 0) else (([] : List (List S40)), (64 : Int))) = (a, b) := ⟨_, _, rfl⟩
    rw [hR]
    have FT : qa (o.all (fun c => c.all (OKK u v)) = true → R1 = o.map (fun c => c.map (NK u v)) ∧ R2 = 0) := ⟨fun z => by rw [if_pos z] at hR; injection hR with h1 h2; exact ⟨h1.symm, h2.symm⟩⟩
    have FF : qa (o.all (fun c => c.all (OKK u v)) = false → R1 = [] ∧ R2 = 64) := ⟨fun z => by rw [if_neg (by rw [z]; decide)] at hR; injection hR with h1 h2; exact ⟨h1.symm, h2.symm⟩⟩
    clear hR
    have HT := qa.mk (hT ck)
    rw [ck] at CP
    clear hT ck
    have lt2 : ((o.length : Nat) : Int).toNat ≤ 11728124029610 := by omega
    go_enter Try.func35, Try.ntmps35
    go_wp2_with (first | (go_at_call 28; refine (qN.calls kc A c o 0 w HR.out HC.out CP.out).mono ?_; rintro q w1 ⟨rfl, hb1⟩; have B1 := qa.mk hb1; clear hb1) | ((with_reducible refine zl (N := 23) rfl ?_); refine Kd.S_make (Kd.slice 40 k40) _ 37 rfl (N := 23) rfl 23 _ _ rfl (o.length : Int) rfl rfl Try.underlying23 (.slice none 0 0) 24 info37 rfl (by decide) (by omega) [] (ok := fun _ => True) (okp := fun _ => True) ⟨_, rfl, Kd.QF _ _ _ _ _⟩ (fun _ hk => hk) trivial (by omega) (Nat.le_trans (Nat.mul_le_mul_right _ (lt2)) (by omega)) (Below.refl _ _) (Nat.le_refl _) ?_; intro v7 w7 ho7 hb7 hg_ hnew_; clear hg_ hnew_; obtain ⟨A7, c7, rfl⟩ := Kd.zX (Kd.S_R ho7); have S7 := qa.mk ho7; have W7 := qa.mk hb7; clear ho7 hb7))
    have D7 := qa.mk (qh B1.out W7.out)
    have sA := qx B1.out
    have q1 : w1.heap.size ≤ w7.heap.size := qx W7.out
    have I7 := qa.mk (zO.start (P := fun r => r = jF u v o 0 0) (Kd.jr (Kd.Qw S7.out) (ok' := fun k => w1.heap.size ≤ k ∧ k < w7.heap.size) (fun k hk => ⟨hk.2.1, hk.2.2.1⟩)) (by rw [J8, Int.toNat_natCast]))
    rw [List.length_replicate, Int.toNat_natCast] at I7
    have A0 : qa (∀ row ∈ o.take 0, row.all (OKK u v) = true) := ⟨fun row h => by simp at h⟩
    try rw [List.length_replicate, Int.toNat_natCast]
    go_loopw [26] (fun v26 wr => ∃ (i : Nat), v26 = .int .i64 i ∧ i ≤ o.length ∧ qa (∀ row ∈ o.take i, row.all (OKK u v) = true) ∧ qa (zO k40 40 37 w7 w1.heap.size w7.heap.size w7.heap.size (.slice A7 o.length c7) o.length (fun r => r = jF u v o i 0) wr) ∧ qa (Below w.heap.size w wr)) (fun v26 _ => o.length - (intOf v26).toNat)
    case atStart => exact ⟨0, rfl, Nat.zero_le _, A0, I7, D7⟩
    case round =>
      obtain ⟨i, rfl, hi, HA, HI, HB⟩ := hrel
      by_cases hlt : i < o.length
      · have ilt := eq_true (show (i : Int) < (o.length : Int) by omega)
        have ilt2 := eq_true hlt
        have ip := eq_true (show (0 : Int) ≤ (i : Int) by omega)
        obtain ⟨g, rfl⟩ : ∃ g, A7 = some ⟨g, 0, none⟩ := by
          obtain ⟨rows, h1, h2, _⟩ := HI.out
          obtain ⟨g, cap, ev, _⟩ := Kd.Jr h2 (by omega)
          injection ev with ev1
          exact ⟨g, ev1⟩
        obtain ⟨ad, Ai, ci, ea, x0, hci, hC⟩ := Qm HR.out (i : Int) (by omega) (by omega)
        subst ea
        rw [Int.toNat_natCast] at x0
        rw [ZF hlt] at x0 hci hC
        replace x0 := qc HB.out x0
        have hrow := HM.out.2 _ (List.getElem_mem hlt)
        have A1 : qa (∀ X ∈ (o[i]).take 0, OKK u v X = true) := ⟨fun row h => by simp at h⟩
        have MR := qa.mk (HT.out o[i] (List.getElem_mem hlt))
        have hd := qa.mk (fun j (hj : j < o[i].length) => JO u v o hlt hj)
        have he := qa.mk (qak u v o hlt)
        have hg := qa.mk (fun j => Jv u v o hlt j)
        have ht : qa (∀ (P : List S40 → Prop), (∀ row ∈ o.take i, P row) → P o[i] → ∀ row ∈ o.take (i + 1), P row) := ⟨fun P h1 h2 row hr => by
          rw [List.take_add_one, List.getElem?_eq_getElem hlt] at hr
          rcases List.mem_append.mp hr with h | h
          · exact h1 row h
          · rw [Option.toList_some, List.mem_singleton] at h; subst h; exact h2⟩
        have hno : qa (∀ X ∈ o[i], OKK u v X = false → o.all (fun c => c.all (OKK u v)) = false) := ⟨fun X hX hf => by
          rw [← Bool.not_eq_true]; intro z
          have z1 := List.all_eq_true.mp (List.all_eq_true.mp z _ (List.getElem_mem hlt)) X hX
          rw [hf] at z1; cases z1⟩
        obtain ⟨row, hrw⟩ : ∃ r, r = o[i] := ⟨_, rfl⟩
        rw [← hrw] at x0 hci hC hrow A1 MR hd he hg ht hno
        have HC' := qa.mk hC
        have lm2 := hrow
        clear hrw hC
        go_wp2
        go_loopw [33] (fun v33 wq => ∃ (j : Nat), v33 = .int .i64 j ∧ j ≤ row.length ∧ qa (∀ X ∈ row.take j, OKK u v X = true) ∧ qa (zO k40 40 37 w7 w1.heap.size w7.heap.size w7.heap.size (.slice (some ⟨g, 0, none⟩) o.length c7) o.length (fun r => r = jF u v o i j) wq) ∧ qa (Below w.heap.size w wq)) (fun v33 _ => row.length - (intOf v33).toNat)
        case atStart => exact ⟨0, rfl, Nat.zero_le _, A1, HI, HB⟩
        case round =>
          obtain ⟨j, rfl, hj, JA, JI, JB⟩ := hrel
          by_cases jlt : j < row.length
          · have jl := eq_true (show (j : Int) < (row.length : Int) by omega)
            have jl2 := eq_true jlt
            have jp := eq_true (show (0 : Int) ≤ (j : Int) by omega)
            obtain ⟨ad2, ea2, y0, y1, y2⟩ := jh HC'.out (j : Int) (by omega) (by omega)
            subst ea2
            rw [Int.toNat_natCast] at y0 y1 y2
            rw [Ze jlt] at y0 y1 y2
            replace y0 := qc JB.out y0
            replace y1 := qc JB.out y1
            replace y2 := qc JB.out y2
            have MX := qa.mk (MR.out row[j] (List.getElem_mem jlt))
            have hdj := qa.mk (hd.out j jlt)
            have hnX := qa.mk (hno.out row[j] (List.getElem_mem jlt))
            have htj : qa (OKK u v row[j] = true → ∀ X ∈ row.take (j + 1), OKK u v X = true) := ⟨fun h2 X hr => by
              rw [List.take_add_one, List.getElem?_eq_getElem jlt] at hr
              rcases List.mem_append.mp hr with h | h
              · exact JA.out X h
              · rw [Option.toList_some, List.mem_singleton] at h; subst h; exact h2⟩
            obtain ⟨X, hX⟩ : ∃ X, X = row[j] := ⟨_, rfl⟩
            rw [← hX] at y0 y1 y2 MX hdj hnX htj
            clear hX
            have hNK : NK u v X = ⟨(u X.f0 X.f1).1, (v X.f0 X.f1).1, X.f2⟩ := rfl
            have hOK : OKK u v X = (decide ((u X.f0 X.f1).2 = 0) && decide ((v X.f0 X.f1).2 = 0)) := rfl
            obtain ⟨a, e, hue⟩ : ∃ a e, u X.f0 X.f1 = (a, e) := ⟨_, _, rfl⟩
            obtain ⟨b, f, hvf⟩ : ∃ a e, v X.f0 X.f1 = (a, e) := ⟨_, _, rfl⟩
            rw [hue, hvf] at MX hNK hOK
            dsimp only at MX hNK hOK
            rw [hNK] at hdj
            rw [hOK] at hnX htj
            clear hNK hOK hue hvf
            go_upto_region 11 with fail
            obtain ⟨W2, bk, hW2, hbk, b2, l2⟩ : ∃ W2 bk, W2 = wr.alloc (Obj.cells #[.int .i64 X.f0, .int .i64 X.f1, .int .i64 X.f2] 40) ∧ wr.heap.size = bk ∧ W2.heap[bk]? = some (Obj.cells #[.int .i64 X.f0, .int .i64 X.f1, .int .i64 X.f2] 40 (0, 0)) ∧ Below wr.heap.size wr W2 := ⟨_, _, rfl, rfl, zu _ _, qw (Below.refl _ _) _⟩
            rw [← hW2, hbk]
            have B2 := qa.mk (qh JB.out l2)
            have I2 := qa.mk (zO.below JI.out l2)
            have K2 := qa.mk b2
            have z0 : W2.cell? ⟨bk, 0, none⟩ = some (.int .i64 X.f0) := (qb b2 0).trans rfl
            have z1 : W2.cell? ⟨bk, 1, none⟩ = some (.int .i64 X.f1) := (qb b2 1).trans rfl
            clear hW2 hbk b2 l2 y0 y1 y2
            by_cases ce : e = 0 ∧ f = 0
            · obtain ⟨rfl, rfl⟩ := ce
              go_upto_region 12 with (go_at_call 36; refine (MX.out W2 B2.out).mono ?_; rintro q w6 ⟨rfl, hb6⟩; have I6 := qa.mk (zO.below I2.out hb6); have B6 := qa.mk (qh B2.out hb6); have K6 := qa.mk ((hb6.block _ (qy K2.out)).trans K2.out); clear hb6)
              go_upto_region 14 with fail
              have i9 := zO.below I6.out (jf (Below.refl _ _))
              have x2 : w6.drew.cell? ⟨bk, 2, none⟩ = some (.int .i64 X.f2) := (qb (qd K6.out) 2).trans rfl
              have B9 := qa.mk (jf B6.out)
              obtain ⟨v', rowsM, oki, hPM, cv, hRM, hokg, hgl, hbl, hNM⟩ := zO.app i9 hlt q1
              have HRM := qa.mk hRM
              have lr : (rowsM.getD i []).length ≤ 5864062014634 := by rw [hPM, hg.out, List.length_map, List.length_take]; omega
              have hgw : w.heap.size ≤ g := by
                obtain ⟨rowsG, _, hsG, _⟩ := I6.out
                exact Nat.le_trans sA (Kd.Jm hsG g (by simp [Value.ownBlock]))
              clear hRM i9
              obtain ⟨A', c', rfl⟩ := Kd.zX HRM.out
              obtain ⟨L, hL⟩ : ∃ L, L = (rowsM.getD i []).length := ⟨_, rfl⟩
              rw [← hL] at cv HRM hNM
              refine jS (n := 15) (S := fun w' => w'.cell? ⟨g, i, none⟩ = some (.slice A' L c') ∧ w'.cell? ⟨bk, 2, none⟩ = some (.int .i64 X.f2)) (ds := [12, 14]) #[false, false, false, false, false, false, false, false, false, false, false, false, false, false, false] (by kernel_rfl) rfl rfl ⟨cv, x2⟩ (fun hHeld => ?_)
              generalize w6.drew = w9 at cv x2 B9 HRM hgl hbl hNM hHeld ⊢
              refine za (i := 0) (N := some 54) (v := ?_) (a' := ?_) #[true, false, false, false, false, false, false, false, false, false, false, false, false, false, false] rfl rfl (by kernel_rfl) (fun _ _ _ h => h) (Or.inl ⟨by rfl, ?_⟩) ?_ ?_
              rotate_left
              · intro w'
                go_simp
                with_reducible rfl
              rotate_left
              · simp only [Act.put, List.setIfInBounds_toArray, List.set_cons_zero, List.set_cons_succ, qz, qA]
                rfl
              refine za (i := 1) (N := some 55) (v := ?_) (a' := ?_) #[true, true, false, false, false, false, false, false, false, false, false, false, false, false, false] rfl rfl (by kernel_rfl) (fun _ _ _ h => h) (Or.inl ⟨by rfl, ?_⟩) ?_ ?_
              rotate_left
              · intro w'
                go_simp
                with_reducible rfl
              rotate_left
              · simp only [Act.put, List.setIfInBounds_toArray, List.set_cons_zero, List.set_cons_succ, qz, qA]
                rfl
              refine za (i := 2) (N := some 56) (v := ?_) (a' := ?_) #[true, true, true, false, false, false, false, false, false, false, false, false, false, false, false] rfl rfl (by kernel_rfl) (fun _ _ _ h => h) (Or.inl ⟨by rfl, ?_⟩) ?_ ?_
              rotate_left
              · intro w'
                go_simp
                with_reducible rfl
              rotate_left
              · simp only [Act.put, List.setIfInBounds_toArray, List.set_cons_zero, List.set_cons_succ, qz, qA]
                rfl
              refine za (i := 3) (N := some 57) (v := ?_) (a' := ?_) #[true, true, true, true, false, false, false, false, false, false, false, false, false, false, false] rfl rfl (by kernel_rfl) (fun _ _ _ h => h) (Or.inl ⟨by rfl, ?_⟩) ?_ ?_
              rotate_left
              · intro w'
                go_simp
                with_reducible rfl
              rotate_left
              · simp only [Act.put, List.setIfInBounds_toArray, List.set_cons_zero, List.set_cons_succ, qz, qA]
                rfl
              refine za (i := 4) (N := some 58) (v := ?_) (a' := ?_) #[true, true, true, true, true, false, false, false, false, false, false, false, false, false, false] rfl rfl (by kernel_rfl) (fun _ _ _ h => h) (Or.inl ⟨by rfl, ?_⟩) ?_ ?_
              rotate_left
              · intro w'
                go_simp
                with_reducible rfl
              rotate_left
              · simp only [Act.put, List.setIfInBounds_toArray, List.set_cons_zero, List.set_cons_succ, qz, qA]
                rfl
              refine za (i := 6) (N := some 60) (v := ?_) (a' := ?_) #[true, true, true, true, true, false, true, false, false, false, false, false, false, false, false] rfl rfl (by kernel_rfl) (fun _ _ _ h => h) (Or.inl ⟨by rfl, ?_⟩) ?_ ?_
              rotate_left
              · intro w'
                go_simp
                with_reducible rfl
              rotate_left
              · simp only [Act.put, List.setIfInBounds_toArray, List.set_cons_zero, List.set_cons_succ, qz, qA]
                rfl
              refine za (i := 7) (N := some 61) (v := ?_) (a' := ?_) #[true, true, true, true, true, false, true, true, false, false, false, false, false, false, false] rfl rfl (by kernel_rfl) (fun _ _ _ h => h) (Or.inl ⟨by rfl, ?_⟩) ?_ ?_
              rotate_left
              · intro w'
                go_simp
                with_reducible rfl
              rotate_left
              · simp only [Act.put, List.setIfInBounds_toArray, List.set_cons_zero, List.set_cons_succ, qz, qA]
                rfl
              refine za (i := 8) (N := some 62) (v := ?_) (a' := ?_) #[true, true, true, true, true, false, true, true, true, false, false, false, false, false, false] rfl rfl (by kernel_rfl) (fun _ _ _ h => h) (Or.inl ⟨by rfl, ?_⟩) ?_ ?_
              rotate_left
              · intro w'
                go_simp
                with_reducible rfl
              rotate_left
              · simp only [Act.put, List.setIfInBounds_toArray, List.set_cons_zero, List.set_cons_succ, qz, qA]
                rfl
              refine zD (i := 5) (N := some 59) (v := ?_) (a' := ?_) #[true, true, true, true, true, true, true, true, true, false, false, false, false, false, false] rfl rfl (by kernel_rfl) (fun _ _ _ h => h) (Or.inl ⟨by rfl, ?_⟩) hHeld ?_ ?_
              rotate_left
              · rintro w' ⟨s0, s1⟩
                go_simp
                with_reducible rfl
              rotate_left
              · simp only [Act.put, List.setIfInBounds_toArray, List.set_cons_zero, List.set_cons_succ, qz, qA]
                rfl
              refine zD (i := 9) (N := some 63) (v := ?_) (a' := ?_) #[true, true, true, true, true, true, true, true, true, true, false, false, false, false, false] rfl rfl (by kernel_rfl) (fun _ _ _ h => h) (Or.inl ⟨by rfl, ?_⟩) hHeld ?_ ?_
              rotate_left
              · rintro w' ⟨s0, s1⟩
                go_simp
                with_reducible rfl
              rotate_left
              · simp only [Act.put, List.setIfInBounds_toArray, List.set_cons_zero, List.set_cons_succ, qz, qA]
                rfl
              refine za (i := 10) (N := some 64) (v := ?_) (a' := ?_) #[true, true, true, true, true, true, true, true, true, true, true, false, false, false, false] rfl rfl (by kernel_rfl) (fun _ _ _ h => h) (Or.inl ⟨by rfl, ?_⟩) ?_ ?_
              rotate_left
              · intro w'
                go_simp
                with_reducible rfl
              rotate_left
              · simp only [Act.put, List.setIfInBounds_toArray, List.set_cons_zero, List.set_cons_succ, qz, qA]
                rfl
              refine jd (i := 11) (N := some 65) #[true, true, true, true, true, true, true, true, true, true, true, true, false, false, false] rfl rfl (by kernel_rfl) (by decide) (fun K hK => ?_)
              refine Z5 (w1 := ?_) (v := ?_) (by rfl) rfl ?_ ?_
              rotate_left 2
              · go_simp
                constructor
                · rfl
                · rfl
              refine hK.out _ _ ⟨(World.cell?_alloc_lt _ _ _ (World.block_lt_of_cell? _ _ hHeld.1)).trans hHeld.1, (World.cell?_alloc_lt _ _ _ (World.block_lt_of_cell? _ _ hHeld.2)).trans hHeld.2⟩ (fun hHeld => ?_)
              clear hK K
              refine zo (a' := ?_) ?_ ?_
              rotate_left
              · show Act.put _ (some 65) _ = _
                simp only [Act.put, List.setIfInBounds_toArray, List.set_cons_zero, List.set_cons_succ, qz, qA]
                rfl
              refine QP (i := 12) (N := some 66) #[true, true, true, true, true, true, true, true, true, true, true, true, true, false, false] rfl rfl (by kernel_rfl) (by decide) (fun K hK => ?_)
              refine Kd.Zv k40 (w0 := w9) w1.heap.size (by rfl) (.tmp 59) (.tmp 65) 37 40 (.agg #[(.int .i64 0), (.int .i64 0), (.int .i64 0)]) 24 rfl Try.underlying37 QW rfl (by decide) (by omega) (.slice A' L c') (rowsM.getD i []) (⟨a, b, X.f2⟩ : S40) [.int .i64 a, .int .i64 b, .int .i64 X.f2] (fun k => oki k ∨ w9.heap.size ≤ k) (fun _ => False) (by first | rfl | (go_simp; done) | (go_simp; rfl)) rfl ?aP (fun _ hk => hk.elim) ?aF ?aO ?aB ?aS ?aL ?_
              (case aP => exact Qf _ _ _ (⟨a, b, X.f2⟩ : S40))
              (case aF => exact fun _ h => Or.inr h)
              (case aO => exact Kd.zV HRM.out (fun _ hk => Or.inl hk))
              (case aB => exact Below.refl _ _)
              (case aS => exact hbl)
              (case aL => omega)
              intro v8 w8 r8 b8 hg8 hat
              obtain ⟨A8, c8, rfl⟩ := Kd.zX r8
              have B8 := qa.mk b8
              obtain ⟨zz1, zz2, zz3⟩ := hNM w8 _ _ r8 hg8
              have Z3 := qa.mk zz3
              clear r8 b8 hg8 hat zz3
              refine hK.out _ _ ?_
              clear hK K
              refine zo (a' := ?_) ?_ ?_
              rotate_left
              · show Act.put _ (some 66) _ = _
                simp only [Act.put, List.setIfInBounds_toArray, List.set_cons_zero, List.set_cons_succ, qz, qA]
                rfl
              refine za (i := 13) (N := some 67) (v := ?_) (a' := ?_) #[true, true, true, true, true, true, true, true, true, true, true, true, true, true, false] rfl rfl (by kernel_rfl) (fun _ _ _ h => h) (Or.inl ⟨by rfl, ?_⟩) ?_ ?_
              rotate_left
              · intro w'
                go_simp
                with_reducible rfl
              rotate_left
              · simp only [Act.put, List.setIfInBounds_toArray, List.set_cons_zero, List.set_cons_succ, qz, qA]
                rfl
              refine QP (i := 14) (N := none) #[true, true, true, true, true, true, true, true, true, true, true, true, true, true, true] rfl rfl (by kernel_rfl) (by decide) (fun K hK => ?_)
              refine ZT (w1 := ?_) (by rfl) rfl ?_ ?_
              rotate_left
              · go_simp
                rfl
              refine hK.out _ _ ?_
              clear hK K
              refine Qa (by kernel_rfl) ?_
              have ez : ((jF u v o i j)[i]?.getD []).length + 1 = (rowsM.getD i [] ++ [(⟨a, b, X.f2⟩ : S40)]).length := by rw [hPM]; simp
              have Z4 := qa.mk (zO.weak (Q := fun r => r = jF u v o i (j + 1)) Z3.out (fun r h => by rw [h, hPM]; exact hdj.out))
              have B10 : qa (Below w.heap.size w (w8.setCell ⟨g, i, none⟩ (.slice A8 (rowsM.getD i [] ++ [(⟨a, b, X.f2⟩ : S40)]).length c8))) := ⟨qf (QT B9.out sA B8.out) hgw⟩
              have A10 : qa (∀ X ∈ row.take (j + 1), OKK u v X = true) := ⟨htj.out (by simp)⟩
              rw [ez]
              generalize w8.setCell ⟨g, i, none⟩ (.slice A8 (rowsM.getD i [] ++ [(⟨a, b, X.f2⟩ : S40)]).length c8) = w10 at Z4 B10 ⊢
              clear hHeld hNM hokg hbl hgl cv x2 lr hgw Z3 zz1 zz2 B8 B9 HRM ez hPM hdj htj hnX MX
              go_wp2
              refine ⟨⟨j + 1, by push_cast; rfl, by omega, A10, Z4, B10⟩, ?_⟩
              show (_ : Nat) < _
              simp only [intOf]; omega
            · have hno' : o.all (fun c => c.all (OKK u v)) = false := hnX.out (by
                by_cases c1 : e = 0
                · rw [decide_eq_true c1, Bool.true_and]; exact decide_eq_false (fun z => ce ⟨c1, z⟩)
                · rw [decide_eq_false c1, Bool.false_and])
              obtain ⟨e1, e2⟩ := FF.out hno'
              subst e1; subst e2
              by_cases c1 : e = 0
              · subst c1
                have c2 : f ≠ 0 := fun z => ce ⟨rfl, z⟩
                have c2b : (f != 0) = true := bne_iff_ne.mpr c2
                have c2c : (f == 0) = false := beq_eq_false_iff_ne.mpr c2
                clear hnX htj ce c2 FT
                go_wp2_with (go_at_call 36; refine (MX.out W2 B2.out).mono ?_; rintro q w6 ⟨rfl, hb6⟩; have B6 := qa.mk (qh B2.out hb6); clear hb6)
                go_ret2
                exact ⟨_, rfl, Kd.Zl _ _ _ _ _, B6.out⟩
              · have c1b : (e != 0) = true := bne_iff_ne.mpr c1
                have c1c : (e == 0) = false := beq_eq_false_iff_ne.mpr c1
                clear hnX htj ce c1 FT
                go_wp2_with (go_at_call 36; refine (MX.out W2 B2.out).mono ?_; rintro q w6 ⟨rfl, hb6⟩; have B6 := qa.mk (qh B2.out hb6); clear hb6)
                go_ret2
                exact ⟨_, rfl, Kd.Zl _ _ _ _ _, B6.out⟩
          · have jl := eq_false (show ¬ (j : Int) < (row.length : Int) by omega)
            have jl2 := eq_false jlt
            obtain rfl : j = row.length := by omega
            have J2 := JI
            rw [show (fun r => r = jF u v o i row.length) = (fun r => r = jF u v o (i + 1) 0) from by rw [he.out]] at J2
            have A2 : qa (∀ c ∈ o.take (i + 1), c.all (OKK u v) = true) := ⟨ht.out _ HA.out (List.all_eq_true.mpr (by have := JA.out; rw [List.take_length] at this; exact this))⟩
            go_wp2
            refine ⟨⟨i + 1, by push_cast; rfl, by omega, A2, J2, JB⟩, ?_⟩
            show (_ : Nat) < _
            simp only [intOf]; omega
      · have iln := eq_false (show ¬ (i : Int) < (o.length : Int) by omega)
        have iln2 := eq_false hlt
        obtain rfl : i = o.length := by omega
        have ea : o.all (fun c => c.all (OKK u v)) = true := List.all_eq_true.mpr (by have := HA.out; rw [List.take_length] at this; exact this)
        obtain ⟨e1, e2⟩ := FT.out ea
        subst e1; subst e2
        have hS : qa (Kd.S (Kd.slice 40 k40) 37 wr w.heap.size (fun _ => True) (.slice A7 o.length c7) (o.map (fun c => c.map (NK u v)))) := ⟨by
          obtain ⟨rows, h1, h2, h3, _⟩ := HI.out
          rw [qai] at h3
          subst h3
          exact Kd.jr (Kd.Zm h2 sA) (fun _ _ => trivial)⟩
        go_wp2
        go_ret2
        exact ⟨_, rfl, hS.out, HB.out⟩
set_option maxRecDepth 100000 in
set_option maxHeartbeats 8000000 in
theorem mapped38 (u v : Int → Int → Int × Int) (o : List (List S40)) (A : Option Addr) (c : Nat) (g1 : Nat) (w : World) (hr : Kd.C (Kd.slice 40 k40) w A o.length o) (hc : o.length ≤ c) (hm : Qb o)
    (hT : CK o = 0 → ∀ row ∈ o, ∀ X ∈ row, ∀ w1, Below w.heap.size w w1 → Calls Try.prog 38 #[.int .i64 X.f0, .int .i64 X.f1, .pointer (some ⟨g1, 0, none⟩)] w1 fun q w' => q = .returned (.tuple #[.int .i64 (u X.f0 X.f1).1, .int .i64 (v X.f0 X.f1).1, .int .i64 (u X.f0 X.f1).2, .int .i64 (v X.f0 X.f1).2]) ∧ Below w1.heap.size w1 w') :
    Calls Try.prog 35 #[.slice A o.length c, .func (Fn.func 38) #[] #[.pointer (some ⟨g1, 0, none⟩)]] w fun q w' => ∃ v0 : Value, q = .returned (.tuple #[v0, .int .i64 (Qh u v o).2]) ∧ Kd.S (Kd.slice 40 k40) 37 w' w.heap.size (fun _ => True) v0 (Qh u v o).1 ∧ Below w.heap.size w w' := by
  have HR := qa.mk hr
  have HC := qa.mk hc
  have lm := hm.1
  obtain ⟨kc, cp⟩ := (JV o hm).rounds
  have CP := qa.mk cp
  have HM := qa.mk hm
  clear hr hc cp hm
  unfold Qh
  by_cases ck : CK o = 0
  case neg =>
    rw [if_neg ck]
    have cb0 : (CK o == 0) = false := beq_eq_false_iff_ne.mpr ck
    have cb1 : (CK o != 0) = true := bne_iff_ne.mpr ck
    clear hT
    generalize CK o = e at *
    go_enter Try.func35, Try.ntmps35
    go_wp2_with (go_at_call 28; refine (qN.calls kc A c o e w HR.out HC.out CP.out).mono ?_; rintro q w1 ⟨rfl, hb1⟩; have B1 := qa.mk hb1; clear hb1)
    go_ret2
    exact ⟨_, rfl, Kd.Zl _ _ _ _ _, B1.out⟩
  case pos =>
    rw [if_pos ck]
    obtain ⟨R1, R2, hR⟩ : ∃ a b, (if o.all (fun c => c.all (OKK u v)) = true then (o.map (fun c => c.map (NK u v)), 0) else (([] : List (List S40)), (64 : Int))) = (a, b) := ⟨_, _, rfl⟩
    rw [hR]
    have FT : qa (o.all (fun c => c.all (OKK u v)) = true → R1 = o.map (fun c => c.map (NK u v)) ∧ R2 = 0) := ⟨fun z => by rw [if_pos z] at hR; injection hR with h1 h2; exact ⟨h1.symm, h2.symm⟩⟩
    have FF : qa (o.all (fun c => c.all (OKK u v)) = false → R1 = [] ∧ R2 = 64) := ⟨fun z => by rw [if_neg (by rw [z]; decide)] at hR; injection hR with h1 h2; exact ⟨h1.symm, h2.symm⟩⟩
    clear hR
    have HT := qa.mk (hT ck)
    rw [ck] at CP
    clear hT ck
    have lt2 : ((o.length : Nat) : Int).toNat ≤ 11728124029610 := by omega
    go_enter Try.func35, Try.ntmps35
    go_wp2_with (first | (go_at_call 28; refine (qN.calls kc A c o 0 w HR.out HC.out CP.out).mono ?_; rintro q w1 ⟨rfl, hb1⟩; have B1 := qa.mk hb1; clear hb1) | ((with_reducible refine zl (N := 23) rfl ?_); refine Kd.S_make (Kd.slice 40 k40) _ 37 rfl (N := 23) rfl 23 _ _ rfl (o.length : Int) rfl rfl Try.underlying23 (.slice none 0 0) 24 info37 rfl (by decide) (by omega) [] (ok := fun _ => True) (okp := fun _ => True) ⟨_, rfl, Kd.QF _ _ _ _ _⟩ (fun _ hk => hk) trivial (by omega) (Nat.le_trans (Nat.mul_le_mul_right _ (lt2)) (by omega)) (Below.refl _ _) (Nat.le_refl _) ?_; intro v7 w7 ho7 hb7 hg_ hnew_; clear hg_ hnew_; obtain ⟨A7, c7, rfl⟩ := Kd.zX (Kd.S_R ho7); have S7 := qa.mk ho7; have W7 := qa.mk hb7; clear ho7 hb7))
    have D7 := qa.mk (qh B1.out W7.out)
    have sA := qx B1.out
    have q1 : w1.heap.size ≤ w7.heap.size := qx W7.out
    have I7 := qa.mk (zO.start (P := fun r => r = jF u v o 0 0) (Kd.jr (Kd.Qw S7.out) (ok' := fun k => w1.heap.size ≤ k ∧ k < w7.heap.size) (fun k hk => ⟨hk.2.1, hk.2.2.1⟩)) (by rw [J8, Int.toNat_natCast]))
    rw [List.length_replicate, Int.toNat_natCast] at I7
    have A0 : qa (∀ row ∈ o.take 0, row.all (OKK u v) = true) := ⟨fun row h => by simp at h⟩
    try rw [List.length_replicate, Int.toNat_natCast]
    go_loopw [26] (fun v26 wr => ∃ (i : Nat), v26 = .int .i64 i ∧ i ≤ o.length ∧ qa (∀ row ∈ o.take i, row.all (OKK u v) = true) ∧ qa (zO k40 40 37 w7 w1.heap.size w7.heap.size w7.heap.size (.slice A7 o.length c7) o.length (fun r => r = jF u v o i 0) wr) ∧ qa (Below w.heap.size w wr)) (fun v26 _ => o.length - (intOf v26).toNat)
    case atStart => exact ⟨0, rfl, Nat.zero_le _, A0, I7, D7⟩
    case round =>
      obtain ⟨i, rfl, hi, HA, HI, HB⟩ := hrel
      by_cases hlt : i < o.length
      · have ilt := eq_true (show (i : Int) < (o.length : Int) by omega)
        have ilt2 := eq_true hlt
        have ip := eq_true (show (0 : Int) ≤ (i : Int) by omega)
        obtain ⟨g, rfl⟩ : ∃ g, A7 = some ⟨g, 0, none⟩ := by
          obtain ⟨rows, h1, h2, _⟩ := HI.out
          obtain ⟨g, cap, ev, _⟩ := Kd.Jr h2 (by omega)
          injection ev with ev1
          exact ⟨g, ev1⟩
        obtain ⟨ad, Ai, ci, ea, x0, hci, hC⟩ := Qm HR.out (i : Int) (by omega) (by omega)
        subst ea
        rw [Int.toNat_natCast] at x0
        rw [ZF hlt] at x0 hci hC
        replace x0 := qc HB.out x0
        have hrow := HM.out.2 _ (List.getElem_mem hlt)
        have A1 : qa (∀ X ∈ (o[i]).take 0, OKK u v X = true) := ⟨fun row h => by simp at h⟩
        have MR := qa.mk (HT.out o[i] (List.getElem_mem hlt))
        have hd := qa.mk (fun j (hj : j < o[i].length) => JO u v o hlt hj)
        have he := qa.mk (qak u v o hlt)
        have hg := qa.mk (fun j => Jv u v o hlt j)
        have ht : qa (∀ (P : List S40 → Prop), (∀ row ∈ o.take i, P row) → P o[i] → ∀ row ∈ o.take (i + 1), P row) := ⟨fun P h1 h2 row hr => by
          rw [List.take_add_one, List.getElem?_eq_getElem hlt] at hr
          rcases List.mem_append.mp hr with h | h
          · exact h1 row h
          · rw [Option.toList_some, List.mem_singleton] at h; subst h; exact h2⟩
        have hno : qa (∀ X ∈ o[i], OKK u v X = false → o.all (fun c => c.all (OKK u v)) = false) := ⟨fun X hX hf => by
          rw [← Bool.not_eq_true]; intro z
          have z1 := List.all_eq_true.mp (List.all_eq_true.mp z _ (List.getElem_mem hlt)) X hX
          rw [hf] at z1; cases z1⟩
        obtain ⟨row, hrw⟩ : ∃ r, r = o[i] := ⟨_, rfl⟩
        rw [← hrw] at x0 hci hC hrow A1 MR hd he hg ht hno
        have HC' := qa.mk hC
        have lm2 := hrow
        clear hrw hC
        go_wp2
        go_loopw [33] (fun v33 wq => ∃ (j : Nat), v33 = .int .i64 j ∧ j ≤ row.length ∧ qa (∀ X ∈ row.take j, OKK u v X = true) ∧ qa (zO k40 40 37 w7 w1.heap.size w7.heap.size w7.heap.size (.slice (some ⟨g, 0, none⟩) o.length c7) o.length (fun r => r = jF u v o i j) wq) ∧ qa (Below w.heap.size w wq)) (fun v33 _ => row.length - (intOf v33).toNat)
        case atStart => exact ⟨0, rfl, Nat.zero_le _, A1, HI, HB⟩
        case round =>
          obtain ⟨j, rfl, hj, JA, JI, JB⟩ := hrel
          by_cases jlt : j < row.length
          · have jl := eq_true (show (j : Int) < (row.length : Int) by omega)
            have jl2 := eq_true jlt
            have jp := eq_true (show (0 : Int) ≤ (j : Int) by omega)
            obtain ⟨ad2, ea2, y0, y1, y2⟩ := jh HC'.out (j : Int) (by omega) (by omega)
            subst ea2
            rw [Int.toNat_natCast] at y0 y1 y2
            rw [Ze jlt] at y0 y1 y2
            replace y0 := qc JB.out y0
            replace y1 := qc JB.out y1
            replace y2 := qc JB.out y2
            have MX := qa.mk (MR.out row[j] (List.getElem_mem jlt))
            have hdj := qa.mk (hd.out j jlt)
            have hnX := qa.mk (hno.out row[j] (List.getElem_mem jlt))
            have htj : qa (OKK u v row[j] = true → ∀ X ∈ row.take (j + 1), OKK u v X = true) := ⟨fun h2 X hr => by
              rw [List.take_add_one, List.getElem?_eq_getElem jlt] at hr
              rcases List.mem_append.mp hr with h | h
              · exact JA.out X h
              · rw [Option.toList_some, List.mem_singleton] at h; subst h; exact h2⟩
            obtain ⟨X, hX⟩ : ∃ X, X = row[j] := ⟨_, rfl⟩
            rw [← hX] at y0 y1 y2 MX hdj hnX htj
            clear hX
            have hNK : NK u v X = ⟨(u X.f0 X.f1).1, (v X.f0 X.f1).1, X.f2⟩ := rfl
            have hOK : OKK u v X = (decide ((u X.f0 X.f1).2 = 0) && decide ((v X.f0 X.f1).2 = 0)) := rfl
            obtain ⟨a, e, hue⟩ : ∃ a e, u X.f0 X.f1 = (a, e) := ⟨_, _, rfl⟩
            obtain ⟨b, f, hvf⟩ : ∃ a e, v X.f0 X.f1 = (a, e) := ⟨_, _, rfl⟩
            rw [hue, hvf] at MX hNK hOK
            dsimp only at MX hNK hOK
            rw [hNK] at hdj
            rw [hOK] at hnX htj
            clear hNK hOK hue hvf
            go_upto_region 11 with fail
            obtain ⟨W2, bk, hW2, hbk, b2, l2⟩ : ∃ W2 bk, W2 = wr.alloc (Obj.cells #[.int .i64 X.f0, .int .i64 X.f1, .int .i64 X.f2] 40) ∧ wr.heap.size = bk ∧ W2.heap[bk]? = some (Obj.cells #[.int .i64 X.f0, .int .i64 X.f1, .int .i64 X.f2] 40 (0, 0)) ∧ Below wr.heap.size wr W2 := ⟨_, _, rfl, rfl, zu _ _, qw (Below.refl _ _) _⟩
            rw [← hW2, hbk]
            have B2 := qa.mk (qh JB.out l2)
            have I2 := qa.mk (zO.below JI.out l2)
            have K2 := qa.mk b2
            have z0 : W2.cell? ⟨bk, 0, none⟩ = some (.int .i64 X.f0) := (qb b2 0).trans rfl
            have z1 : W2.cell? ⟨bk, 1, none⟩ = some (.int .i64 X.f1) := (qb b2 1).trans rfl
            clear hW2 hbk b2 l2 y0 y1 y2
            by_cases ce : e = 0 ∧ f = 0
            · obtain ⟨rfl, rfl⟩ := ce
              go_upto_region 12 with (go_at_call 38; refine (MX.out W2 B2.out).mono ?_; rintro q w6 ⟨rfl, hb6⟩; have I6 := qa.mk (zO.below I2.out hb6); have B6 := qa.mk (qh B2.out hb6); have K6 := qa.mk ((hb6.block _ (qy K2.out)).trans K2.out); clear hb6)
              go_upto_region 14 with fail
              have i9 := zO.below I6.out (jf (Below.refl _ _))
              have x2 : w6.drew.cell? ⟨bk, 2, none⟩ = some (.int .i64 X.f2) := (qb (qd K6.out) 2).trans rfl
              have B9 := qa.mk (jf B6.out)
              obtain ⟨v', rowsM, oki, hPM, cv, hRM, hokg, hgl, hbl, hNM⟩ := zO.app i9 hlt q1
              have HRM := qa.mk hRM
              have lr : (rowsM.getD i []).length ≤ 5864062014634 := by rw [hPM, hg.out, List.length_map, List.length_take]; omega
              have hgw : w.heap.size ≤ g := by
                obtain ⟨rowsG, _, hsG, _⟩ := I6.out
                exact Nat.le_trans sA (Kd.Jm hsG g (by simp [Value.ownBlock]))
              clear hRM i9
              obtain ⟨A', c', rfl⟩ := Kd.zX HRM.out
              obtain ⟨L, hL⟩ : ∃ L, L = (rowsM.getD i []).length := ⟨_, rfl⟩
              rw [← hL] at cv HRM hNM
              refine jS (n := 15) (S := fun w' => w'.cell? ⟨g, i, none⟩ = some (.slice A' L c') ∧ w'.cell? ⟨bk, 2, none⟩ = some (.int .i64 X.f2)) (ds := [12, 14]) #[false, false, false, false, false, false, false, false, false, false, false, false, false, false, false] (by kernel_rfl) rfl rfl ⟨cv, x2⟩ (fun hHeld => ?_)
              generalize w6.drew = w9 at cv x2 B9 HRM hgl hbl hNM hHeld ⊢
              refine za (i := 0) (N := some 54) (v := ?_) (a' := ?_) #[true, false, false, false, false, false, false, false, false, false, false, false, false, false, false] rfl rfl (by kernel_rfl) (fun _ _ _ h => h) (Or.inl ⟨by rfl, ?_⟩) ?_ ?_
              rotate_left
              · intro w'
                go_simp
                with_reducible rfl
              rotate_left
              · simp only [Act.put, List.setIfInBounds_toArray, List.set_cons_zero, List.set_cons_succ, qz, qA]
                rfl
              refine za (i := 1) (N := some 55) (v := ?_) (a' := ?_) #[true, true, false, false, false, false, false, false, false, false, false, false, false, false, false] rfl rfl (by kernel_rfl) (fun _ _ _ h => h) (Or.inl ⟨by rfl, ?_⟩) ?_ ?_
              rotate_left
              · intro w'
                go_simp
                with_reducible rfl
              rotate_left
              · simp only [Act.put, List.setIfInBounds_toArray, List.set_cons_zero, List.set_cons_succ, qz, qA]
                rfl
              refine za (i := 2) (N := some 56) (v := ?_) (a' := ?_) #[true, true, true, false, false, false, false, false, false, false, false, false, false, false, false] rfl rfl (by kernel_rfl) (fun _ _ _ h => h) (Or.inl ⟨by rfl, ?_⟩) ?_ ?_
              rotate_left
              · intro w'
                go_simp
                with_reducible rfl
              rotate_left
              · simp only [Act.put, List.setIfInBounds_toArray, List.set_cons_zero, List.set_cons_succ, qz, qA]
                rfl
              refine za (i := 3) (N := some 57) (v := ?_) (a' := ?_) #[true, true, true, true, false, false, false, false, false, false, false, false, false, false, false] rfl rfl (by kernel_rfl) (fun _ _ _ h => h) (Or.inl ⟨by rfl, ?_⟩) ?_ ?_
              rotate_left
              · intro w'
                go_simp
                with_reducible rfl
              rotate_left
              · simp only [Act.put, List.setIfInBounds_toArray, List.set_cons_zero, List.set_cons_succ, qz, qA]
                rfl
              refine za (i := 4) (N := some 58) (v := ?_) (a' := ?_) #[true, true, true, true, true, false, false, false, false, false, false, false, false, false, false] rfl rfl (by kernel_rfl) (fun _ _ _ h => h) (Or.inl ⟨by rfl, ?_⟩) ?_ ?_
              rotate_left
              · intro w'
                go_simp
                with_reducible rfl
              rotate_left
              · simp only [Act.put, List.setIfInBounds_toArray, List.set_cons_zero, List.set_cons_succ, qz, qA]
                rfl
              refine za (i := 6) (N := some 60) (v := ?_) (a' := ?_) #[true, true, true, true, true, false, true, false, false, false, false, false, false, false, false] rfl rfl (by kernel_rfl) (fun _ _ _ h => h) (Or.inl ⟨by rfl, ?_⟩) ?_ ?_
              rotate_left
              · intro w'
                go_simp
                with_reducible rfl
              rotate_left
              · simp only [Act.put, List.setIfInBounds_toArray, List.set_cons_zero, List.set_cons_succ, qz, qA]
                rfl
              refine za (i := 7) (N := some 61) (v := ?_) (a' := ?_) #[true, true, true, true, true, false, true, true, false, false, false, false, false, false, false] rfl rfl (by kernel_rfl) (fun _ _ _ h => h) (Or.inl ⟨by rfl, ?_⟩) ?_ ?_
              rotate_left
              · intro w'
                go_simp
                with_reducible rfl
              rotate_left
              · simp only [Act.put, List.setIfInBounds_toArray, List.set_cons_zero, List.set_cons_succ, qz, qA]
                rfl
              refine za (i := 8) (N := some 62) (v := ?_) (a' := ?_) #[true, true, true, true, true, false, true, true, true, false, false, false, false, false, false] rfl rfl (by kernel_rfl) (fun _ _ _ h => h) (Or.inl ⟨by rfl, ?_⟩) ?_ ?_
              rotate_left
              · intro w'
                go_simp
                with_reducible rfl
              rotate_left
              · simp only [Act.put, List.setIfInBounds_toArray, List.set_cons_zero, List.set_cons_succ, qz, qA]
                rfl
              refine zD (i := 5) (N := some 59) (v := ?_) (a' := ?_) #[true, true, true, true, true, true, true, true, true, false, false, false, false, false, false] rfl rfl (by kernel_rfl) (fun _ _ _ h => h) (Or.inl ⟨by rfl, ?_⟩) hHeld ?_ ?_
              rotate_left
              · rintro w' ⟨s0, s1⟩
                go_simp
                with_reducible rfl
              rotate_left
              · simp only [Act.put, List.setIfInBounds_toArray, List.set_cons_zero, List.set_cons_succ, qz, qA]
                rfl
              refine zD (i := 9) (N := some 63) (v := ?_) (a' := ?_) #[true, true, true, true, true, true, true, true, true, true, false, false, false, false, false] rfl rfl (by kernel_rfl) (fun _ _ _ h => h) (Or.inl ⟨by rfl, ?_⟩) hHeld ?_ ?_
              rotate_left
              · rintro w' ⟨s0, s1⟩
                go_simp
                with_reducible rfl
              rotate_left
              · simp only [Act.put, List.setIfInBounds_toArray, List.set_cons_zero, List.set_cons_succ, qz, qA]
                rfl
              refine za (i := 10) (N := some 64) (v := ?_) (a' := ?_) #[true, true, true, true, true, true, true, true, true, true, true, false, false, false, false] rfl rfl (by kernel_rfl) (fun _ _ _ h => h) (Or.inl ⟨by rfl, ?_⟩) ?_ ?_
              rotate_left
              · intro w'
                go_simp
                with_reducible rfl
              rotate_left
              · simp only [Act.put, List.setIfInBounds_toArray, List.set_cons_zero, List.set_cons_succ, qz, qA]
                rfl
              refine jd (i := 11) (N := some 65) #[true, true, true, true, true, true, true, true, true, true, true, true, false, false, false] rfl rfl (by kernel_rfl) (by decide) (fun K hK => ?_)
              refine Z5 (w1 := ?_) (v := ?_) (by rfl) rfl ?_ ?_
              rotate_left 2
              · go_simp
                constructor
                · rfl
                · rfl
              refine hK.out _ _ ⟨(World.cell?_alloc_lt _ _ _ (World.block_lt_of_cell? _ _ hHeld.1)).trans hHeld.1, (World.cell?_alloc_lt _ _ _ (World.block_lt_of_cell? _ _ hHeld.2)).trans hHeld.2⟩ (fun hHeld => ?_)
              clear hK K
              refine zo (a' := ?_) ?_ ?_
              rotate_left
              · show Act.put _ (some 65) _ = _
                simp only [Act.put, List.setIfInBounds_toArray, List.set_cons_zero, List.set_cons_succ, qz, qA]
                rfl
              refine QP (i := 12) (N := some 66) #[true, true, true, true, true, true, true, true, true, true, true, true, true, false, false] rfl rfl (by kernel_rfl) (by decide) (fun K hK => ?_)
              refine Kd.Zv k40 (w0 := w9) w1.heap.size (by rfl) (.tmp 59) (.tmp 65) 37 40 (.agg #[(.int .i64 0), (.int .i64 0), (.int .i64 0)]) 24 rfl Try.underlying37 QW rfl (by decide) (by omega) (.slice A' L c') (rowsM.getD i []) (⟨a, b, X.f2⟩ : S40) [.int .i64 a, .int .i64 b, .int .i64 X.f2] (fun k => oki k ∨ w9.heap.size ≤ k) (fun _ => False) (by first | rfl | (go_simp; done) | (go_simp; rfl)) rfl ?aP (fun _ hk => hk.elim) ?aF ?aO ?aB ?aS ?aL ?_
              (case aP => exact Qf _ _ _ (⟨a, b, X.f2⟩ : S40))
              (case aF => exact fun _ h => Or.inr h)
              (case aO => exact Kd.zV HRM.out (fun _ hk => Or.inl hk))
              (case aB => exact Below.refl _ _)
              (case aS => exact hbl)
              (case aL => omega)
              intro v8 w8 r8 b8 hg8 hat
              obtain ⟨A8, c8, rfl⟩ := Kd.zX r8
              have B8 := qa.mk b8
              obtain ⟨zz1, zz2, zz3⟩ := hNM w8 _ _ r8 hg8
              have Z3 := qa.mk zz3
              clear r8 b8 hg8 hat zz3
              refine hK.out _ _ ?_
              clear hK K
              refine zo (a' := ?_) ?_ ?_
              rotate_left
              · show Act.put _ (some 66) _ = _
                simp only [Act.put, List.setIfInBounds_toArray, List.set_cons_zero, List.set_cons_succ, qz, qA]
                rfl
              refine za (i := 13) (N := some 67) (v := ?_) (a' := ?_) #[true, true, true, true, true, true, true, true, true, true, true, true, true, true, false] rfl rfl (by kernel_rfl) (fun _ _ _ h => h) (Or.inl ⟨by rfl, ?_⟩) ?_ ?_
              rotate_left
              · intro w'
                go_simp
                with_reducible rfl
              rotate_left
              · simp only [Act.put, List.setIfInBounds_toArray, List.set_cons_zero, List.set_cons_succ, qz, qA]
                rfl
              refine QP (i := 14) (N := none) #[true, true, true, true, true, true, true, true, true, true, true, true, true, true, true] rfl rfl (by kernel_rfl) (by decide) (fun K hK => ?_)
              refine ZT (w1 := ?_) (by rfl) rfl ?_ ?_
              rotate_left
              · go_simp
                rfl
              refine hK.out _ _ ?_
              clear hK K
              refine Qa (by kernel_rfl) ?_
              have ez : ((jF u v o i j)[i]?.getD []).length + 1 = (rowsM.getD i [] ++ [(⟨a, b, X.f2⟩ : S40)]).length := by rw [hPM]; simp
              have Z4 := qa.mk (zO.weak (Q := fun r => r = jF u v o i (j + 1)) Z3.out (fun r h => by rw [h, hPM]; exact hdj.out))
              have B10 : qa (Below w.heap.size w (w8.setCell ⟨g, i, none⟩ (.slice A8 (rowsM.getD i [] ++ [(⟨a, b, X.f2⟩ : S40)]).length c8))) := ⟨qf (QT B9.out sA B8.out) hgw⟩
              have A10 : qa (∀ X ∈ row.take (j + 1), OKK u v X = true) := ⟨htj.out (by simp)⟩
              rw [ez]
              generalize w8.setCell ⟨g, i, none⟩ (.slice A8 (rowsM.getD i [] ++ [(⟨a, b, X.f2⟩ : S40)]).length c8) = w10 at Z4 B10 ⊢
              clear hHeld hNM hokg hbl hgl cv x2 lr hgw Z3 zz1 zz2 B8 B9 HRM ez hPM hdj htj hnX MX
              go_wp2
              refine ⟨⟨j + 1, by push_cast; rfl, by omega, A10, Z4, B10⟩, ?_⟩
              show (_ : Nat) < _
              simp only [intOf]; omega
            · have hno' : o.all (fun c => c.all (OKK u v)) = false := hnX.out (by
                by_cases c1 : e = 0
                · rw [decide_eq_true c1, Bool.true_and]; exact decide_eq_false (fun z => ce ⟨c1, z⟩)
                · rw [decide_eq_false c1, Bool.false_and])
              obtain ⟨e1, e2⟩ := FF.out hno'
              subst e1; subst e2
              by_cases c1 : e = 0
              · subst c1
                have c2 : f ≠ 0 := fun z => ce ⟨rfl, z⟩
                have c2b : (f != 0) = true := bne_iff_ne.mpr c2
                have c2c : (f == 0) = false := beq_eq_false_iff_ne.mpr c2
                clear hnX htj ce c2 FT
                go_wp2_with (go_at_call 38; refine (MX.out W2 B2.out).mono ?_; rintro q w6 ⟨rfl, hb6⟩; have B6 := qa.mk (qh B2.out hb6); clear hb6)
                go_ret2
                exact ⟨_, rfl, Kd.Zl _ _ _ _ _, B6.out⟩
              · have c1b : (e != 0) = true := bne_iff_ne.mpr c1
                have c1c : (e == 0) = false := beq_eq_false_iff_ne.mpr c1
                clear hnX htj ce c1 FT
                go_wp2_with (go_at_call 38; refine (MX.out W2 B2.out).mono ?_; rintro q w6 ⟨rfl, hb6⟩; have B6 := qa.mk (qh B2.out hb6); clear hb6)
                go_ret2
                exact ⟨_, rfl, Kd.Zl _ _ _ _ _, B6.out⟩
          · have jl := eq_false (show ¬ (j : Int) < (row.length : Int) by omega)
            have jl2 := eq_false jlt
            obtain rfl : j = row.length := by omega
            have J2 := JI
            rw [show (fun r => r = jF u v o i row.length) = (fun r => r = jF u v o (i + 1) 0) from by rw [he.out]] at J2
            have A2 : qa (∀ c ∈ o.take (i + 1), c.all (OKK u v) = true) := ⟨ht.out _ HA.out (List.all_eq_true.mpr (by have := JA.out; rw [List.take_length] at this; exact this))⟩
            go_wp2
            refine ⟨⟨i + 1, by push_cast; rfl, by omega, A2, J2, JB⟩, ?_⟩
            show (_ : Nat) < _
            simp only [intOf]; omega
      · have iln := eq_false (show ¬ (i : Int) < (o.length : Int) by omega)
        have iln2 := eq_false hlt
        obtain rfl : i = o.length := by omega
        have ea : o.all (fun c => c.all (OKK u v)) = true := List.all_eq_true.mpr (by have := HA.out; rw [List.take_length] at this; exact this)
        obtain ⟨e1, e2⟩ := FT.out ea
        subst e1; subst e2
        have hS : qa (Kd.S (Kd.slice 40 k40) 37 wr w.heap.size (fun _ => True) (.slice A7 o.length c7) (o.map (fun c => c.map (NK u v)))) := ⟨by
          obtain ⟨rows, h1, h2, h3, _⟩ := HI.out
          rw [qai] at h3
          subst h3
          exact Kd.jr (Kd.Zm h2 sA) (fun _ _ => trivial)⟩
        go_wp2
        go_ret2
        exact ⟨_, rfl, hS.out, HB.out⟩
set_option maxRecDepth 100000 in
set_option maxHeartbeats 8000000 in
theorem mapped40 (u v : Int → Int → Int × Int) (o : List (List S40)) (A : Option Addr) (c : Nat) (g1 g2 : Nat) (w : World) (hr : Kd.C (Kd.slice 40 k40) w A o.length o) (hc : o.length ≤ c) (hm : Qb o)
    (hT : CK o = 0 → ∀ row ∈ o, ∀ X ∈ row, ∀ w1, Below w.heap.size w w1 → Calls Try.prog 40 #[.int .i64 X.f0, .int .i64 X.f1, .pointer (some ⟨g1, 0, none⟩), .pointer (some ⟨g2, 0, none⟩)] w1 fun q w' => q = .returned (.tuple #[.int .i64 (u X.f0 X.f1).1, .int .i64 (v X.f0 X.f1).1, .int .i64 (u X.f0 X.f1).2, .int .i64 (v X.f0 X.f1).2]) ∧ Below w1.heap.size w1 w') :
    Calls Try.prog 35 #[.slice A o.length c, .func (Fn.func 40) #[] #[.pointer (some ⟨g1, 0, none⟩), .pointer (some ⟨g2, 0, none⟩)]] w fun q w' => ∃ v0 : Value, q = .returned (.tuple #[v0, .int .i64 (Qh u v o).2]) ∧ Kd.S (Kd.slice 40 k40) 37 w' w.heap.size (fun _ => True) v0 (Qh u v o).1 ∧ Below w.heap.size w w' := by
  have HR := qa.mk hr
  have HC := qa.mk hc
  have lm := hm.1
  obtain ⟨kc, cp⟩ := (JV o hm).rounds
  have CP := qa.mk cp
  have HM := qa.mk hm
  clear hr hc cp hm
  unfold Qh
  by_cases ck : CK o = 0
  case neg =>
    rw [if_neg ck]
    have cb0 : (CK o == 0) = false := beq_eq_false_iff_ne.mpr ck
    have cb1 : (CK o != 0) = true := bne_iff_ne.mpr ck
    clear hT
    generalize CK o = e at *
    go_enter Try.func35, Try.ntmps35
    go_wp2_with (go_at_call 28; refine (qN.calls kc A c o e w HR.out HC.out CP.out).mono ?_; rintro q w1 ⟨rfl, hb1⟩; have B1 := qa.mk hb1; clear hb1)
    go_ret2
    exact ⟨_, rfl, Kd.Zl _ _ _ _ _, B1.out⟩
  case pos =>
    rw [if_pos ck]
    obtain ⟨R1, R2, hR⟩ : ∃ a b, (if o.all (fun c => c.all (OKK u v)) = true then (o.map (fun c => c.map (NK u v)), 0) else (([] : List (List S40)), (64 : Int))) = (a, b) := ⟨_, _, rfl⟩
    rw [hR]
    have FT : qa (o.all (fun c => c.all (OKK u v)) = true → R1 = o.map (fun c => c.map (NK u v)) ∧ R2 = 0) := ⟨fun z => by rw [if_pos z] at hR; injection hR with h1 h2; exact ⟨h1.symm, h2.symm⟩⟩
    have FF : qa (o.all (fun c => c.all (OKK u v)) = false → R1 = [] ∧ R2 = 64) := ⟨fun z => by rw [if_neg (by rw [z]; decide)] at hR; injection hR with h1 h2; exact ⟨h1.symm, h2.symm⟩⟩
    clear hR
    have HT := qa.mk (hT ck)
    rw [ck] at CP
    clear hT ck
    have lt2 : ((o.length : Nat) : Int).toNat ≤ 11728124029610 := by omega
    go_enter Try.func35, Try.ntmps35
    go_wp2_with (first | (go_at_call 28; refine (qN.calls kc A c o 0 w HR.out HC.out CP.out).mono ?_; rintro q w1 ⟨rfl, hb1⟩; have B1 := qa.mk hb1; clear hb1) | ((with_reducible refine zl (N := 23) rfl ?_); refine Kd.S_make (Kd.slice 40 k40) _ 37 rfl (N := 23) rfl 23 _ _ rfl (o.length : Int) rfl rfl Try.underlying23 (.slice none 0 0) 24 info37 rfl (by decide) (by omega) [] (ok := fun _ => True) (okp := fun _ => True) ⟨_, rfl, Kd.QF _ _ _ _ _⟩ (fun _ hk => hk) trivial (by omega) (Nat.le_trans (Nat.mul_le_mul_right _ (lt2)) (by omega)) (Below.refl _ _) (Nat.le_refl _) ?_; intro v7 w7 ho7 hb7 hg_ hnew_; clear hg_ hnew_; obtain ⟨A7, c7, rfl⟩ := Kd.zX (Kd.S_R ho7); have S7 := qa.mk ho7; have W7 := qa.mk hb7; clear ho7 hb7))
    have D7 := qa.mk (qh B1.out W7.out)
    have sA := qx B1.out
    have q1 : w1.heap.size ≤ w7.heap.size := qx W7.out
    have I7 := qa.mk (zO.start (P := fun r => r = jF u v o 0 0) (Kd.jr (Kd.Qw S7.out) (ok' := fun k => w1.heap.size ≤ k ∧ k < w7.heap.size) (fun k hk => ⟨hk.2.1, hk.2.2.1⟩)) (by rw [J8, Int.toNat_natCast]))
    rw [List.length_replicate, Int.toNat_natCast] at I7
    have A0 : qa (∀ row ∈ o.take 0, row.all (OKK u v) = true) := ⟨fun row h => by simp at h⟩
    try rw [List.length_replicate, Int.toNat_natCast]
    go_loopw [26] (fun v26 wr => ∃ (i : Nat), v26 = .int .i64 i ∧ i ≤ o.length ∧ qa (∀ row ∈ o.take i, row.all (OKK u v) = true) ∧ qa (zO k40 40 37 w7 w1.heap.size w7.heap.size w7.heap.size (.slice A7 o.length c7) o.length (fun r => r = jF u v o i 0) wr) ∧ qa (Below w.heap.size w wr)) (fun v26 _ => o.length - (intOf v26).toNat)
    case atStart => exact ⟨0, rfl, Nat.zero_le _, A0, I7, D7⟩
    case round =>
      obtain ⟨i, rfl, hi, HA, HI, HB⟩ := hrel
      by_cases hlt : i < o.length
      · have ilt := eq_true (show (i : Int) < (o.length : Int) by omega)
        have ilt2 := eq_true hlt
        have ip := eq_true (show (0 : Int) ≤ (i : Int) by omega)
        obtain ⟨g, rfl⟩ : ∃ g, A7 = some ⟨g, 0, none⟩ := by
          obtain ⟨rows, h1, h2, _⟩ := HI.out
          obtain ⟨g, cap, ev, _⟩ := Kd.Jr h2 (by omega)
          injection ev with ev1
          exact ⟨g, ev1⟩
        obtain ⟨ad, Ai, ci, ea, x0, hci, hC⟩ := Qm HR.out (i : Int) (by omega) (by omega)
        subst ea
        rw [Int.toNat_natCast] at x0
        rw [ZF hlt] at x0 hci hC
        replace x0 := qc HB.out x0
        have hrow := HM.out.2 _ (List.getElem_mem hlt)
        have A1 : qa (∀ X ∈ (o[i]).take 0, OKK u v X = true) := ⟨fun row h => by simp at h⟩
        have MR := qa.mk (HT.out o[i] (List.getElem_mem hlt))
        have hd := qa.mk (fun j (hj : j < o[i].length) => JO u v o hlt hj)
        have he := qa.mk (qak u v o hlt)
        have hg := qa.mk (fun j => Jv u v o hlt j)
        have ht : qa (∀ (P : List S40 → Prop), (∀ row ∈ o.take i, P row) → P o[i] → ∀ row ∈ o.take (i + 1), P row) := ⟨fun P h1 h2 row hr => by
          rw [List.take_add_one, List.getElem?_eq_getElem hlt] at hr
          rcases List.mem_append.mp hr with h | h
          · exact h1 row h
          · rw [Option.toList_some, List.mem_singleton] at h; subst h; exact h2⟩
        have hno : qa (∀ X ∈ o[i], OKK u v X = false → o.all (fun c => c.all (OKK u v)) = false) := ⟨fun X hX hf => by
          rw [← Bool.not_eq_true]; intro z
          have z1 := List.all_eq_true.mp (List.all_eq_true.mp z _ (List.getElem_mem hlt)) X hX
          rw [hf] at z1; cases z1⟩
        obtain ⟨row, hrw⟩ : ∃ r, r = o[i] := ⟨_, rfl⟩
        rw [← hrw] at x0 hci hC hrow A1 MR hd he hg ht hno
        have HC' := qa.mk hC
        have lm2 := hrow
        clear hrw hC
        go_wp2
        go_loopw [33] (fun v33 wq => ∃ (j : Nat), v33 = .int .i64 j ∧ j ≤ row.length ∧ qa (∀ X ∈ row.take j, OKK u v X = true) ∧ qa (zO k40 40 37 w7 w1.heap.size w7.heap.size w7.heap.size (.slice (some ⟨g, 0, none⟩) o.length c7) o.length (fun r => r = jF u v o i j) wq) ∧ qa (Below w.heap.size w wq)) (fun v33 _ => row.length - (intOf v33).toNat)
        case atStart => exact ⟨0, rfl, Nat.zero_le _, A1, HI, HB⟩
        case round =>
          obtain ⟨j, rfl, hj, JA, JI, JB⟩ := hrel
          by_cases jlt : j < row.length
          · have jl := eq_true (show (j : Int) < (row.length : Int) by omega)
            have jl2 := eq_true jlt
            have jp := eq_true (show (0 : Int) ≤ (j : Int) by omega)
            obtain ⟨ad2, ea2, y0, y1, y2⟩ := jh HC'.out (j : Int) (by omega) (by omega)
            subst ea2
            rw [Int.toNat_natCast] at y0 y1 y2
            rw [Ze jlt] at y0 y1 y2
            replace y0 := qc JB.out y0
            replace y1 := qc JB.out y1
            replace y2 := qc JB.out y2
            have MX := qa.mk (MR.out row[j] (List.getElem_mem jlt))
            have hdj := qa.mk (hd.out j jlt)
            have hnX := qa.mk (hno.out row[j] (List.getElem_mem jlt))
            have htj : qa (OKK u v row[j] = true → ∀ X ∈ row.take (j + 1), OKK u v X = true) := ⟨fun h2 X hr => by
              rw [List.take_add_one, List.getElem?_eq_getElem jlt] at hr
              rcases List.mem_append.mp hr with h | h
              · exact JA.out X h
              · rw [Option.toList_some, List.mem_singleton] at h; subst h; exact h2⟩
            obtain ⟨X, hX⟩ : ∃ X, X = row[j] := ⟨_, rfl⟩
            rw [← hX] at y0 y1 y2 MX hdj hnX htj
            clear hX
            have hNK : NK u v X = ⟨(u X.f0 X.f1).1, (v X.f0 X.f1).1, X.f2⟩ := rfl
            have hOK : OKK u v X = (decide ((u X.f0 X.f1).2 = 0) && decide ((v X.f0 X.f1).2 = 0)) := rfl
            obtain ⟨a, e, hue⟩ : ∃ a e, u X.f0 X.f1 = (a, e) := ⟨_, _, rfl⟩
            obtain ⟨b, f, hvf⟩ : ∃ a e, v X.f0 X.f1 = (a, e) := ⟨_, _, rfl⟩
            rw [hue, hvf] at MX hNK hOK
            dsimp only at MX hNK hOK
            rw [hNK] at hdj
            rw [hOK] at hnX htj
            clear hNK hOK hue hvf
            go_upto_region 11 with fail
            obtain ⟨W2, bk, hW2, hbk, b2, l2⟩ : ∃ W2 bk, W2 = wr.alloc (Obj.cells #[.int .i64 X.f0, .int .i64 X.f1, .int .i64 X.f2] 40) ∧ wr.heap.size = bk ∧ W2.heap[bk]? = some (Obj.cells #[.int .i64 X.f0, .int .i64 X.f1, .int .i64 X.f2] 40 (0, 0)) ∧ Below wr.heap.size wr W2 := ⟨_, _, rfl, rfl, zu _ _, qw (Below.refl _ _) _⟩
            rw [← hW2, hbk]
            have B2 := qa.mk (qh JB.out l2)
            have I2 := qa.mk (zO.below JI.out l2)
            have K2 := qa.mk b2
            have z0 : W2.cell? ⟨bk, 0, none⟩ = some (.int .i64 X.f0) := (qb b2 0).trans rfl
            have z1 : W2.cell? ⟨bk, 1, none⟩ = some (.int .i64 X.f1) := (qb b2 1).trans rfl
            clear hW2 hbk b2 l2 y0 y1 y2
            by_cases ce : e = 0 ∧ f = 0
            · obtain ⟨rfl, rfl⟩ := ce
              go_upto_region 12 with (go_at_call 40; refine (MX.out W2 B2.out).mono ?_; rintro q w6 ⟨rfl, hb6⟩; have I6 := qa.mk (zO.below I2.out hb6); have B6 := qa.mk (qh B2.out hb6); have K6 := qa.mk ((hb6.block _ (qy K2.out)).trans K2.out); clear hb6)
              go_upto_region 14 with fail
              have i9 := zO.below I6.out (jf (Below.refl _ _))
              have x2 : w6.drew.cell? ⟨bk, 2, none⟩ = some (.int .i64 X.f2) := (qb (qd K6.out) 2).trans rfl
              have B9 := qa.mk (jf B6.out)
              obtain ⟨v', rowsM, oki, hPM, cv, hRM, hokg, hgl, hbl, hNM⟩ := zO.app i9 hlt q1
              have HRM := qa.mk hRM
              have lr : (rowsM.getD i []).length ≤ 5864062014634 := by rw [hPM, hg.out, List.length_map, List.length_take]; omega
              have hgw : w.heap.size ≤ g := by
                obtain ⟨rowsG, _, hsG, _⟩ := I6.out
                exact Nat.le_trans sA (Kd.Jm hsG g (by simp [Value.ownBlock]))
              clear hRM i9
              obtain ⟨A', c', rfl⟩ := Kd.zX HRM.out
              obtain ⟨L, hL⟩ : ∃ L, L = (rowsM.getD i []).length := ⟨_, rfl⟩
              rw [← hL] at cv HRM hNM
              refine jS (n := 15) (S := fun w' => w'.cell? ⟨g, i, none⟩ = some (.slice A' L c') ∧ w'.cell? ⟨bk, 2, none⟩ = some (.int .i64 X.f2)) (ds := [12, 14]) #[false, false, false, false, false, false, false, false, false, false, false, false, false, false, false] (by kernel_rfl) rfl rfl ⟨cv, x2⟩ (fun hHeld => ?_)
              generalize w6.drew = w9 at cv x2 B9 HRM hgl hbl hNM hHeld ⊢
              refine za (i := 0) (N := some 54) (v := ?_) (a' := ?_) #[true, false, false, false, false, false, false, false, false, false, false, false, false, false, false] rfl rfl (by kernel_rfl) (fun _ _ _ h => h) (Or.inl ⟨by rfl, ?_⟩) ?_ ?_
              rotate_left
              · intro w'
                go_simp
                with_reducible rfl
              rotate_left
              · simp only [Act.put, List.setIfInBounds_toArray, List.set_cons_zero, List.set_cons_succ, qz, qA]
                rfl
              refine za (i := 1) (N := some 55) (v := ?_) (a' := ?_) #[true, true, false, false, false, false, false, false, false, false, false, false, false, false, false] rfl rfl (by kernel_rfl) (fun _ _ _ h => h) (Or.inl ⟨by rfl, ?_⟩) ?_ ?_
              rotate_left
              · intro w'
                go_simp
                with_reducible rfl
              rotate_left
              · simp only [Act.put, List.setIfInBounds_toArray, List.set_cons_zero, List.set_cons_succ, qz, qA]
                rfl
              refine za (i := 2) (N := some 56) (v := ?_) (a' := ?_) #[true, true, true, false, false, false, false, false, false, false, false, false, false, false, false] rfl rfl (by kernel_rfl) (fun _ _ _ h => h) (Or.inl ⟨by rfl, ?_⟩) ?_ ?_
              rotate_left
              · intro w'
                go_simp
                with_reducible rfl
              rotate_left
              · simp only [Act.put, List.setIfInBounds_toArray, List.set_cons_zero, List.set_cons_succ, qz, qA]
                rfl
              refine za (i := 3) (N := some 57) (v := ?_) (a' := ?_) #[true, true, true, true, false, false, false, false, false, false, false, false, false, false, false] rfl rfl (by kernel_rfl) (fun _ _ _ h => h) (Or.inl ⟨by rfl, ?_⟩) ?_ ?_
              rotate_left
              · intro w'
                go_simp
                with_reducible rfl
              rotate_left
              · simp only [Act.put, List.setIfInBounds_toArray, List.set_cons_zero, List.set_cons_succ, qz, qA]
                rfl
              refine za (i := 4) (N := some 58) (v := ?_) (a' := ?_) #[true, true, true, true, true, false, false, false, false, false, false, false, false, false, false] rfl rfl (by kernel_rfl) (fun _ _ _ h => h) (Or.inl ⟨by rfl, ?_⟩) ?_ ?_
              rotate_left
              · intro w'
                go_simp
                with_reducible rfl
              rotate_left
              · simp only [Act.put, List.setIfInBounds_toArray, List.set_cons_zero, List.set_cons_succ, qz, qA]
                rfl
              refine za (i := 6) (N := some 60) (v := ?_) (a' := ?_) #[true, true, true, true, true, false, true, false, false, false, false, false, false, false, false] rfl rfl (by kernel_rfl) (fun _ _ _ h => h) (Or.inl ⟨by rfl, ?_⟩) ?_ ?_
              rotate_left
              · intro w'
                go_simp
                with_reducible rfl
              rotate_left
              · simp only [Act.put, List.setIfInBounds_toArray, List.set_cons_zero, List.set_cons_succ, qz, qA]
                rfl
              refine za (i := 7) (N := some 61) (v := ?_) (a' := ?_) #[true, true, true, true, true, false, true, true, false, false, false, false, false, false, false] rfl rfl (by kernel_rfl) (fun _ _ _ h => h) (Or.inl ⟨by rfl, ?_⟩) ?_ ?_
              rotate_left
              · intro w'
                go_simp
                with_reducible rfl
              rotate_left
              · simp only [Act.put, List.setIfInBounds_toArray, List.set_cons_zero, List.set_cons_succ, qz, qA]
                rfl
              refine za (i := 8) (N := some 62) (v := ?_) (a' := ?_) #[true, true, true, true, true, false, true, true, true, false, false, false, false, false, false] rfl rfl (by kernel_rfl) (fun _ _ _ h => h) (Or.inl ⟨by rfl, ?_⟩) ?_ ?_
              rotate_left
              · intro w'
                go_simp
                with_reducible rfl
              rotate_left
              · simp only [Act.put, List.setIfInBounds_toArray, List.set_cons_zero, List.set_cons_succ, qz, qA]
                rfl
              refine zD (i := 5) (N := some 59) (v := ?_) (a' := ?_) #[true, true, true, true, true, true, true, true, true, false, false, false, false, false, false] rfl rfl (by kernel_rfl) (fun _ _ _ h => h) (Or.inl ⟨by rfl, ?_⟩) hHeld ?_ ?_
              rotate_left
              · rintro w' ⟨s0, s1⟩
                go_simp
                with_reducible rfl
              rotate_left
              · simp only [Act.put, List.setIfInBounds_toArray, List.set_cons_zero, List.set_cons_succ, qz, qA]
                rfl
              refine zD (i := 9) (N := some 63) (v := ?_) (a' := ?_) #[true, true, true, true, true, true, true, true, true, true, false, false, false, false, false] rfl rfl (by kernel_rfl) (fun _ _ _ h => h) (Or.inl ⟨by rfl, ?_⟩) hHeld ?_ ?_
              rotate_left
              · rintro w' ⟨s0, s1⟩
                go_simp
                with_reducible rfl
              rotate_left
              · simp only [Act.put, List.setIfInBounds_toArray, List.set_cons_zero, List.set_cons_succ, qz, qA]
                rfl
              refine za (i := 10) (N := some 64) (v := ?_) (a' := ?_) #[true, true, true, true, true, true, true, true, true, true, true, false, false, false, false] rfl rfl (by kernel_rfl) (fun _ _ _ h => h) (Or.inl ⟨by rfl, ?_⟩) ?_ ?_
              rotate_left
              · intro w'
                go_simp
                with_reducible rfl
              rotate_left
              · simp only [Act.put, List.setIfInBounds_toArray, List.set_cons_zero, List.set_cons_succ, qz, qA]
                rfl
              refine jd (i := 11) (N := some 65) #[true, true, true, true, true, true, true, true, true, true, true, true, false, false, false] rfl rfl (by kernel_rfl) (by decide) (fun K hK => ?_)
              refine Z5 (w1 := ?_) (v := ?_) (by rfl) rfl ?_ ?_
              rotate_left 2
              · go_simp
                constructor
                · rfl
                · rfl
              refine hK.out _ _ ⟨(World.cell?_alloc_lt _ _ _ (World.block_lt_of_cell? _ _ hHeld.1)).trans hHeld.1, (World.cell?_alloc_lt _ _ _ (World.block_lt_of_cell? _ _ hHeld.2)).trans hHeld.2⟩ (fun hHeld => ?_)
              clear hK K
              refine zo (a' := ?_) ?_ ?_
              rotate_left
              · show Act.put _ (some 65) _ = _
                simp only [Act.put, List.setIfInBounds_toArray, List.set_cons_zero, List.set_cons_succ, qz, qA]
                rfl
              refine QP (i := 12) (N := some 66) #[true, true, true, true, true, true, true, true, true, true, true, true, true, false, false] rfl rfl (by kernel_rfl) (by decide) (fun K hK => ?_)
              refine Kd.Zv k40 (w0 := w9) w1.heap.size (by rfl) (.tmp 59) (.tmp 65) 37 40 (.agg #[(.int .i64 0), (.int .i64 0), (.int .i64 0)]) 24 rfl Try.underlying37 QW rfl (by decide) (by omega) (.slice A' L c') (rowsM.getD i []) (⟨a, b, X.f2⟩ : S40) [.int .i64 a, .int .i64 b, .int .i64 X.f2] (fun k => oki k ∨ w9.heap.size ≤ k) (fun _ => False) (by first | rfl | (go_simp; done) | (go_simp; rfl)) rfl ?aP (fun _ hk => hk.elim) ?aF ?aO ?aB ?aS ?aL ?_
              (case aP => exact Qf _ _ _ (⟨a, b, X.f2⟩ : S40))
              (case aF => exact fun _ h => Or.inr h)
              (case aO => exact Kd.zV HRM.out (fun _ hk => Or.inl hk))
              (case aB => exact Below.refl _ _)
              (case aS => exact hbl)
              (case aL => omega)
              intro v8 w8 r8 b8 hg8 hat
              obtain ⟨A8, c8, rfl⟩ := Kd.zX r8
              have B8 := qa.mk b8
              obtain ⟨zz1, zz2, zz3⟩ := hNM w8 _ _ r8 hg8
              have Z3 := qa.mk zz3
              clear r8 b8 hg8 hat zz3
              refine hK.out _ _ ?_
              clear hK K
              refine zo (a' := ?_) ?_ ?_
              rotate_left
              · show Act.put _ (some 66) _ = _
                simp only [Act.put, List.setIfInBounds_toArray, List.set_cons_zero, List.set_cons_succ, qz, qA]
                rfl
              refine za (i := 13) (N := some 67) (v := ?_) (a' := ?_) #[true, true, true, true, true, true, true, true, true, true, true, true, true, true, false] rfl rfl (by kernel_rfl) (fun _ _ _ h => h) (Or.inl ⟨by rfl, ?_⟩) ?_ ?_
              rotate_left
              · intro w'
                go_simp
                with_reducible rfl
              rotate_left
              · simp only [Act.put, List.setIfInBounds_toArray, List.set_cons_zero, List.set_cons_succ, qz, qA]
                rfl
              refine QP (i := 14) (N := none) #[true, true, true, true, true, true, true, true, true, true, true, true, true, true, true] rfl rfl (by kernel_rfl) (by decide) (fun K hK => ?_)
              refine ZT (w1 := ?_) (by rfl) rfl ?_ ?_
              rotate_left
              · go_simp
                rfl
              refine hK.out _ _ ?_
              clear hK K
              refine Qa (by kernel_rfl) ?_
              have ez : ((jF u v o i j)[i]?.getD []).length + 1 = (rowsM.getD i [] ++ [(⟨a, b, X.f2⟩ : S40)]).length := by rw [hPM]; simp
              have Z4 := qa.mk (zO.weak (Q := fun r => r = jF u v o i (j + 1)) Z3.out (fun r h => by rw [h, hPM]; exact hdj.out))
              have B10 : qa (Below w.heap.size w (w8.setCell ⟨g, i, none⟩ (.slice A8 (rowsM.getD i [] ++ [(⟨a, b, X.f2⟩ : S40)]).length c8))) := ⟨qf (QT B9.out sA B8.out) hgw⟩
              have A10 : qa (∀ X ∈ row.take (j + 1), OKK u v X = true) := ⟨htj.out (by simp)⟩
              rw [ez]
              generalize w8.setCell ⟨g, i, none⟩ (.slice A8 (rowsM.getD i [] ++ [(⟨a, b, X.f2⟩ : S40)]).length c8) = w10 at Z4 B10 ⊢
              clear hHeld hNM hokg hbl hgl cv x2 lr hgw Z3 zz1 zz2 B8 B9 HRM ez hPM hdj htj hnX MX
              go_wp2
              refine ⟨⟨j + 1, by push_cast; rfl, by omega, A10, Z4, B10⟩, ?_⟩
              show (_ : Nat) < _
              simp only [intOf]; omega
            · have hno' : o.all (fun c => c.all (OKK u v)) = false := hnX.out (by
                by_cases c1 : e = 0
                · rw [decide_eq_true c1, Bool.true_and]; exact decide_eq_false (fun z => ce ⟨c1, z⟩)
                · rw [decide_eq_false c1, Bool.false_and])
              obtain ⟨e1, e2⟩ := FF.out hno'
              subst e1; subst e2
              by_cases c1 : e = 0
              · subst c1
                have c2 : f ≠ 0 := fun z => ce ⟨rfl, z⟩
                have c2b : (f != 0) = true := bne_iff_ne.mpr c2
                have c2c : (f == 0) = false := beq_eq_false_iff_ne.mpr c2
                clear hnX htj ce c2 FT
                go_wp2_with (go_at_call 40; refine (MX.out W2 B2.out).mono ?_; rintro q w6 ⟨rfl, hb6⟩; have B6 := qa.mk (qh B2.out hb6); clear hb6)
                go_ret2
                exact ⟨_, rfl, Kd.Zl _ _ _ _ _, B6.out⟩
              · have c1b : (e != 0) = true := bne_iff_ne.mpr c1
                have c1c : (e == 0) = false := beq_eq_false_iff_ne.mpr c1
                clear hnX htj ce c1 FT
                go_wp2_with (go_at_call 40; refine (MX.out W2 B2.out).mono ?_; rintro q w6 ⟨rfl, hb6⟩; have B6 := qa.mk (qh B2.out hb6); clear hb6)
                go_ret2
                exact ⟨_, rfl, Kd.Zl _ _ _ _ _, B6.out⟩
          · have jl := eq_false (show ¬ (j : Int) < (row.length : Int) by omega)
            have jl2 := eq_false jlt
            obtain rfl : j = row.length := by omega
            have J2 := JI
            rw [show (fun r => r = jF u v o i row.length) = (fun r => r = jF u v o (i + 1) 0) from by rw [he.out]] at J2
            have A2 : qa (∀ c ∈ o.take (i + 1), c.all (OKK u v) = true) := ⟨ht.out _ HA.out (List.all_eq_true.mpr (by have := JA.out; rw [List.take_length] at this; exact this))⟩
            go_wp2
            refine ⟨⟨i + 1, by push_cast; rfl, by omega, A2, J2, JB⟩, ?_⟩
            show (_ : Nat) < _
            simp only [intOf]; omega
      · have iln := eq_false (show ¬ (i : Int) < (o.length : Int) by omega)
        have iln2 := eq_false hlt
        obtain rfl : i = o.length := by omega
        have ea : o.all (fun c => c.all (OKK u v)) = true := List.all_eq_true.mpr (by have := HA.out; rw [List.take_length] at this; exact this)
        obtain ⟨e1, e2⟩ := FT.out ea
        subst e1; subst e2
        have hS : qa (Kd.S (Kd.slice 40 k40) 37 wr w.heap.size (fun _ => True) (.slice A7 o.length c7) (o.map (fun c => c.map (NK u v)))) := ⟨by
          obtain ⟨rows, h1, h2, h3, _⟩ := HI.out
          rw [qai] at h3
          subst h3
          exact Kd.jr (Kd.Zm h2 sA) (fun _ _ => trivial)⟩
        go_wp2
        go_ret2
        exact ⟨_, rfl, hS.out, HB.out⟩
end Go.Proofs.Ytmlkpadlafjfeaa.P
set_option linter.unusedVariables false
set_option linter.unusedSimpArgs false
namespace Go.Proofs.Ytmlkpadlafjfeaa.P
open Go Go.RowKit Go.Proofs.YtmlkpadlafjfeaaW.PrintWords Go.Proofs.YtmlkpadlafjfeaaW.PrintLast Go.Proofs.YtmlkpadlafjfeaaW.PrintMore
theorem i64_of_wf {n : Int} (h : (Lit.int .i64 n).wf = true) : I64 n := by
  have : (decide (IntKind.i64.min ≤ n) && decide (n ≤ IntKind.i64.max)) = true := h
  rw [Bool.and_eq_true, decide_eq_true_eq, decide_eq_true_eq] at this
  exact this
def jT (n : Int) : Bool := decide (-2147483647 ≤ n) && decide (n ≤ 2147483647)
theorem Z7 {n : Int} : jT n = true ↔ -2147483647 ≤ n ∧ n ≤ 2147483647 := by unfold jT; simp
theorem isFix_not {n : Int} : jT n = false ↔ ¬ (-2147483647 ≤ n ∧ n ≤ 2147483647) := by rw [← Z7]; simp
theorem check_f (n : Int) : zm.f n = some (if jT n = true then 0 else 14) := by
  unfold zm.f
  by_cases h1 : n < -2147483647
  · rw [if_pos h1, if_neg (by rw [Z7]; omega)]
  · rw [if_neg h1]
    by_cases h2 : n > 2147483647
    · rw [if_pos h2, if_neg (by rw [Z7]; omega)]
    · rw [if_neg h2, if_pos (by rw [Z7]; omega)]
theorem all_l0 (l : List Int) (hl : (l.length : Int) < 9223372036854775807) : ∀ (d : Nat) (i : Nat), l.length - i = d → i ≤ l.length →
    Ev (fun k => zA.l0 k l (l.length : Int) (i : Int)) ((l.drop i).all jT) := by
  intro d
  induction d with
  | zero =>
    intro i e hi
    have : i = l.length := by omega
    subst this
    refine Ev.intro 1 fun k => ?_
    simp only [zA.l0]; rw [if_neg (by omega)]; simp
  | succ d ih =>
    intro i e hi
    have hlt : i < l.length := by omega
    refine Ev.step (f := fun k => if jT (l[i]) = true then zA.l0 k l (l.length : Int) ((i + 1 : Nat) : Int) else some false) (fun k => ?_) ?_
    · simp only [zA.l0]
      rw [if_pos (by omega), if_pos (by omega), if_pos (by omega), check_f]
      have : rd l (i : Int) = l[i] := by unfold rd; rw [show ((i : Int)).toNat = i by omega, List.getD_eq_getElem?_getD, List.getElem?_eq_getElem hlt]; rfl
      rw [this]; simp only [Option.bind_some]
      rw [je (n := (i : Int) + 1) (by omega) (by omega)]
      by_cases c : jT l[i] = true
      · simp only [c, if_true]; rfl
      · simp [c]
    · rw [List.drop_eq_getElem_cons hlt]
      by_cases c : jT l[i] = true
      · simp only [c, if_true, List.all_cons, Bool.true_and]; exact ih (i + 1) (by omega) (by omega)
      · simp only [c, List.all_cons]
        exact Ev.now false
theorem all_ev (l : List Int) (hl : (l.length : Int) < 9223372036854775807) : Ev (fun k => zA.f k l) (l.all jT) := by
  have := all_l0 l hl l.length 0 (by omega) (by omega)
  simpa [zA.f] using this
end Go.Proofs.Ytmlkpadlafjfeaa.P
set_option linter.unusedVariables false
set_option linter.unusedSimpArgs false
namespace Go.Proofs.Ytmlkpadlafjfeaa.P
open Go Go.RowKit Go.Proofs.YtmlkpadlafjfeaaW.PrintWords Go.Proofs.YtmlkpadlafjfeaaW.PrintLast Go.Proofs.YtmlkpadlafjfeaaW.PrintMore
theorem val5_digs {u : Int} (h0 : 0 ≤ u) (h1 : u < 1208925819614629174706176) : jH (digs u).1 (digs u).2.1 (digs u).2.2.1 (digs u).2.2.2.1 (digs u).2.2.2.2.1 = u := by
  simp only [digs, jH]; omega
theorem sizeD {n : Int} (h : I64 n) : qV.f n = some (digs (zx n)) := by
  unfold qV.f
  rw [if_pos (show -9223372036854775808 ≤ n ∧ n ≤ 9223372036854775807 from h)]; rfl
theorem timesD {u v : Int} (h0 : 0 ≤ u) (h1 : u < 1208925819614629174706176) (g0 : 0 ≤ v) (g1 : v < 1208925819614629174706176) :
    ze.f (digs u).1 (digs u).2.1 (digs u).2.2.1 (digs u).2.2.2.1 (digs u).2.2.2.2.1 (digs u).2.2.2.2.2.1 (digs u).2.2.2.2.2.2.1 (digs u).2.2.2.2.2.2.2.1 (digs u).2.2.2.2.2.2.2.2.1 (digs u).2.2.2.2.2.2.2.2.2 (digs v).1 (digs v).2.1 (digs v).2.2.1 (digs v).2.2.2.1 (digs v).2.2.2.2.1 (digs v).2.2.2.2.2.1 (digs v).2.2.2.2.2.2.1 (digs v).2.2.2.2.2.2.2.1 (digs v).2.2.2.2.2.2.2.2.1 (digs v).2.2.2.2.2.2.2.2.2 = some (digs (u * v)) := by
  obtain ⟨a0, a1, a2, a3, a4, _⟩ := ZN u
  obtain ⟨b0, b1, b2, b3, b4, _⟩ := ZN v
  unfold ze.f timesL
  rw [if_pos (by simp [ZG, a0, a1, a2, a3, a4, b0, b1, b2, b3, b4]), val5_digs h0 h1, val5_digs g0 g1]
theorem underD {u v : Int} (h0 : 0 ≤ u) (h1 : u < 1461501637330902918203684832716283019655932542976) (g0 : 0 ≤ v) (g1 : v < 1461501637330902918203684832716283019655932542976) :
    zw.f (digs u).1 (digs u).2.1 (digs u).2.2.1 (digs u).2.2.2.1 (digs u).2.2.2.2.1 (digs u).2.2.2.2.2.1 (digs u).2.2.2.2.2.2.1 (digs u).2.2.2.2.2.2.2.1 (digs u).2.2.2.2.2.2.2.2.1 (digs u).2.2.2.2.2.2.2.2.2 (digs v).1 (digs v).2.1 (digs v).2.2.1 (digs v).2.2.2.1 (digs v).2.2.2.2.1 (digs v).2.2.2.2.2.1 (digs v).2.2.2.2.2.2.1 (digs v).2.2.2.2.2.2.2.1 (digs v).2.2.2.2.2.2.2.2.1 (digs v).2.2.2.2.2.2.2.2.2 = some (decide (u < v)) := by
  obtain ⟨a0, a1, a2, a3, a4, a5, a6, a7, a8, a9⟩ := ZN u
  obtain ⟨b0, b1, b2, b3, b4, b5, b6, b7, b8, b9⟩ := ZN v
  unfold zw.f underL
  rw [if_pos (by simp [ZG, a0, a1, a2, a3, a4, a5, a6, a7, a8, a9, b0, b1, b2, b3, b4, b5, b6, b7, b8, b9]), Je h0 h1, Je g0 g1]
end Go.Proofs.Ytmlkpadlafjfeaa.P
set_option linter.unusedVariables false
set_option linter.unusedSimpArgs false
namespace Go.Proofs.Ytmlkpadlafjfeaa.P
open Go Go.RowKit Go.Proofs.YtmlkpadlafjfeaaW.PrintWords Go.Proofs.YtmlkpadlafjfeaaW.PrintLast Go.Proofs.YtmlkpadlafjfeaaW.PrintMore
theorem plusD {u v : Int} (h0 : 0 ≤ u) (h1 : u < 1461501637330902918203684832716283019655932542976) (g0 : 0 ≤ v) (g1 : v < 1461501637330902918203684832716283019655932542976) :
    jc.f (digs u).1 (digs u).2.1 (digs u).2.2.1 (digs u).2.2.2.1 (digs u).2.2.2.2.1 (digs u).2.2.2.2.2.1 (digs u).2.2.2.2.2.2.1 (digs u).2.2.2.2.2.2.2.1 (digs u).2.2.2.2.2.2.2.2.1 (digs u).2.2.2.2.2.2.2.2.2 (digs v).1 (digs v).2.1 (digs v).2.2.1 (digs v).2.2.2.1 (digs v).2.2.2.2.1 (digs v).2.2.2.2.2.1 (digs v).2.2.2.2.2.2.1 (digs v).2.2.2.2.2.2.2.1 (digs v).2.2.2.2.2.2.2.2.1 (digs v).2.2.2.2.2.2.2.2.2 = some (digs (u + v)) := by
  obtain ⟨a0, a1, a2, a3, a4, a5, a6, a7, a8, a9⟩ := ZN u
  obtain ⟨b0, b1, b2, b3, b4, b5, b6, b7, b8, b9⟩ := ZN v
  unfold jc.f plusL
  rw [if_pos (by simp [ZG, a0, a1, a2, a3, a4, a5, a6, a7, a8, a9, b0, b1, b2, b3, b4, b5, b6, b7, b8, b9]), Je h0 h1, Je g0 g1]
def IsNear (p d q : Int) : Prop := 0 ≤ q ∧ q * (2 * d) ≤ 2 * p + d ∧ (2 * p + d < (q + 1) * (2 * d) ∨ q = 4294967295)
theorem near_l0 (p d : Int) (p0 : 0 ≤ p) (p1 : p ≤ 85070591730234615865843651857942052864) (d0 : 0 < d) (d1 : d ≤ 9223372036854775808) : ∀ (j : Nat) (q : Int), j ≤ 32 → 0 ≤ q → q * (2 * d) ≤ 2 * p + d → (2 * p + d < (q + 2 ^ j) * (2 * d) ∨ q + 2 ^ j = 4294967296) → q + 2 ^ j ≤ 4294967296 →
    ∃ s, IsNear p d s ∧ Ev (fun k => qB.l0 k q (if j = 0 then 0 else 2 ^ (j - 1)) (digs p).1 (digs p).2.1 (digs p).2.2.1 (digs p).2.2.2.1 (digs p).2.2.2.2.1 (digs p).2.2.2.2.2.1 (digs p).2.2.2.2.2.2.1 (digs p).2.2.2.2.2.2.2.1 (digs p).2.2.2.2.2.2.2.2.1 (digs p).2.2.2.2.2.2.2.2.2 (digs d).1 (digs d).2.1 (digs d).2.2.1 (digs d).2.2.2.1 (digs d).2.2.2.2.1 (digs d).2.2.2.2.2.1 (digs d).2.2.2.2.2.2.1 (digs d).2.2.2.2.2.2.2.1 (digs d).2.2.2.2.2.2.2.2.1 (digs d).2.2.2.2.2.2.2.2.2 (digs 2).1 (digs 2).2.1 (digs 2).2.2.1 (digs 2).2.2.2.1 (digs 2).2.2.2.2.1 (digs 2).2.2.2.2.2.1 (digs 2).2.2.2.2.2.2.1 (digs 2).2.2.2.2.2.2.2.1 (digs 2).2.2.2.2.2.2.2.2.1 (digs 2).2.2.2.2.2.2.2.2.2) s := by
  intro j
  induction j with
  | zero =>
    intro q _ hq hl hu _
    refine ⟨q, ⟨hq, hl, by simpa using (by rcases hu with h | h; exact .inl (by simpa using h); exact .inr (by simp at h; omega) : 2 * p + d < (q + 1) * (2 * d) ∨ q = 4294967295)⟩, Ev.intro 1 fun k => ?_⟩
    simp [qB.l0]
  | succ j ih =>
    intro q hj hq hl hu hb
    have p1' : (2 : Int) ^ (j + 1) = 2 * 2 ^ j := by rw [Int.pow_succ]; omega
    have p0' : (0 : Int) < 2 ^ j := Int.pow_pos (by decide)
    have half : (2 : Int) ^ j / 2 = if j = 0 then 0 else 2 ^ (j - 1) := by
      cases j with
      | zero => simp
      | succ j => simp only [Nat.succ_ne_zero, if_false, Nat.add_sub_cancel]; rw [Int.pow_succ]; omega
    have e : (if j + 1 = 0 then (0 : Int) else 2 ^ (j + 1 - 1)) = 2 ^ j := by simp
    rw [p1'] at hu hb
    have t0 : 0 ≤ q + 2 ^ j := by omega
    have t1 : q + 2 ^ j ≤ 4294967296 := by omega
    have td0 : 0 ≤ (q + 2 ^ j) * 2 * d := Int.mul_nonneg (by omega) (by omega)
    have td1 : (q + 2 ^ j) * 2 * d ≤ 8589934592 * 9223372036854775808 := QA (by omega) (by omega) (by omega) d1
    have step : ∀ k, qB.l0 (k + 1) q (2 ^ j) (digs p).1 (digs p).2.1 (digs p).2.2.1 (digs p).2.2.2.1 (digs p).2.2.2.2.1 (digs p).2.2.2.2.2.1 (digs p).2.2.2.2.2.2.1 (digs p).2.2.2.2.2.2.2.1 (digs p).2.2.2.2.2.2.2.2.1 (digs p).2.2.2.2.2.2.2.2.2 (digs d).1 (digs d).2.1 (digs d).2.2.1 (digs d).2.2.2.1 (digs d).2.2.2.2.1 (digs d).2.2.2.2.2.1 (digs d).2.2.2.2.2.2.1 (digs d).2.2.2.2.2.2.2.1 (digs d).2.2.2.2.2.2.2.2.1 (digs d).2.2.2.2.2.2.2.2.2 (digs 2).1 (digs 2).2.1 (digs 2).2.2.1 (digs 2).2.2.2.1 (digs 2).2.2.2.2.1 (digs 2).2.2.2.2.2.1 (digs 2).2.2.2.2.2.2.1 (digs 2).2.2.2.2.2.2.2.1 (digs 2).2.2.2.2.2.2.2.2.1 (digs 2).2.2.2.2.2.2.2.2.2 = if 2 * p + d < (q + 2 ^ j) * (2 * d) then qB.l0 k q (2 ^ j / 2) (digs p).1 (digs p).2.1 (digs p).2.2.1 (digs p).2.2.2.1 (digs p).2.2.2.2.1 (digs p).2.2.2.2.2.1 (digs p).2.2.2.2.2.2.1 (digs p).2.2.2.2.2.2.2.1 (digs p).2.2.2.2.2.2.2.2.1 (digs p).2.2.2.2.2.2.2.2.2 (digs d).1 (digs d).2.1 (digs d).2.2.1 (digs d).2.2.2.1 (digs d).2.2.2.2.1 (digs d).2.2.2.2.2.1 (digs d).2.2.2.2.2.2.1 (digs d).2.2.2.2.2.2.2.1 (digs d).2.2.2.2.2.2.2.2.1 (digs d).2.2.2.2.2.2.2.2.2 (digs 2).1 (digs 2).2.1 (digs 2).2.2.1 (digs 2).2.2.2.1 (digs 2).2.2.2.2.1 (digs 2).2.2.2.2.2.1 (digs 2).2.2.2.2.2.2.1 (digs 2).2.2.2.2.2.2.2.1 (digs 2).2.2.2.2.2.2.2.2.1 (digs 2).2.2.2.2.2.2.2.2.2 else qB.l0 k (q + 2 ^ j) (2 ^ j / 2) (digs p).1 (digs p).2.1 (digs p).2.2.1 (digs p).2.2.2.1 (digs p).2.2.2.2.1 (digs p).2.2.2.2.2.1 (digs p).2.2.2.2.2.2.1 (digs p).2.2.2.2.2.2.2.1 (digs p).2.2.2.2.2.2.2.2.1 (digs p).2.2.2.2.2.2.2.2.2 (digs d).1 (digs d).2.1 (digs d).2.2.1 (digs d).2.2.2.1 (digs d).2.2.2.2.1 (digs d).2.2.2.2.2.1 (digs d).2.2.2.2.2.2.1 (digs d).2.2.2.2.2.2.2.1 (digs d).2.2.2.2.2.2.2.2.1 (digs d).2.2.2.2.2.2.2.2.2 (digs 2).1 (digs 2).2.1 (digs 2).2.2.1 (digs 2).2.2.2.1 (digs 2).2.2.2.2.1 (digs 2).2.2.2.2.2.1 (digs 2).2.2.2.2.2.2.1 (digs 2).2.2.2.2.2.2.2.1 (digs 2).2.2.2.2.2.2.2.2.1 (digs 2).2.2.2.2.2.2.2.2.2 := by
      intro k
      have w1 : wrap64 (q + 2 ^ j) = q + 2 ^ j := je (by omega) (by omega)
      have w2 : wrap64 (Int.tdiv (2 ^ j) 2) = 2 ^ j / 2 := by rw [Int.tdiv_eq_ediv_of_nonneg (by omega)]; exact je (by omega) (by omega)
      have a0 : zx (q + 2 ^ j) = q + 2 ^ j := by unfold zx; rw [if_neg (by omega)]
      simp only [qB.l0]
      rw [if_pos (by omega), w1, w2, sizeD (by unfold I64; omega), a0]
      simp only [Option.bind_some]
      rw [timesD t0 (by omega) (by omega) (by omega)]
      simp only [Option.bind_some]
      rw [timesD (by omega) (by omega) (by omega) (by omega), plusD p0 (by omega) p0 (by omega)]
      simp only [Option.bind_some]
      rw [plusD (by omega) (by omega) (by omega) (by omega)]
      simp only [Option.bind_some]
      rw [underD (by omega) (by omega) td0 (by omega)]
      simp only [Option.bind_some, decide_eq_true_eq]
      have e1 : p + p + d = 2 * p + d := by omega
      have e2 : (q + 2 ^ j) * 2 * d = (q + 2 ^ j) * (2 * d) := by rw [Int.mul_assoc]
      rw [e1, e2]
    rw [e]
    by_cases c : 2 * p + d < (q + 2 ^ j) * (2 * d)
    · obtain ⟨s, hs, hev⟩ := ih q (by omega) hq hl (.inl c) (by omega)
      exact ⟨s, hs, Ev.step (f := fun k => qB.l0 k q (2 ^ j / 2) (digs p).1 (digs p).2.1 (digs p).2.2.1 (digs p).2.2.2.1 (digs p).2.2.2.2.1 (digs p).2.2.2.2.2.1 (digs p).2.2.2.2.2.2.1 (digs p).2.2.2.2.2.2.2.1 (digs p).2.2.2.2.2.2.2.2.1 (digs p).2.2.2.2.2.2.2.2.2 (digs d).1 (digs d).2.1 (digs d).2.2.1 (digs d).2.2.2.1 (digs d).2.2.2.2.1 (digs d).2.2.2.2.2.1 (digs d).2.2.2.2.2.2.1 (digs d).2.2.2.2.2.2.2.1 (digs d).2.2.2.2.2.2.2.2.1 (digs d).2.2.2.2.2.2.2.2.2 (digs 2).1 (digs 2).2.1 (digs 2).2.2.1 (digs 2).2.2.2.1 (digs 2).2.2.2.2.1 (digs 2).2.2.2.2.2.1 (digs 2).2.2.2.2.2.2.1 (digs 2).2.2.2.2.2.2.2.1 (digs 2).2.2.2.2.2.2.2.2.1 (digs 2).2.2.2.2.2.2.2.2.2) (fun k => by rw [step, if_pos c]) (by rw [half]; exact hev)⟩
    · obtain ⟨s, hs, hev⟩ := ih (q + 2 ^ j) (by omega) (by omega) (by omega) (by rw [show q + 2 ^ j + 2 ^ j = q + 2 * 2 ^ j by omega]; exact hu) (by omega)
      exact ⟨s, hs, Ev.step (f := fun k => qB.l0 k (q + 2 ^ j) (2 ^ j / 2) (digs p).1 (digs p).2.1 (digs p).2.2.1 (digs p).2.2.2.1 (digs p).2.2.2.2.1 (digs p).2.2.2.2.2.1 (digs p).2.2.2.2.2.2.1 (digs p).2.2.2.2.2.2.2.1 (digs p).2.2.2.2.2.2.2.2.1 (digs p).2.2.2.2.2.2.2.2.2 (digs d).1 (digs d).2.1 (digs d).2.2.1 (digs d).2.2.2.1 (digs d).2.2.2.2.1 (digs d).2.2.2.2.2.1 (digs d).2.2.2.2.2.2.1 (digs d).2.2.2.2.2.2.2.1 (digs d).2.2.2.2.2.2.2.2.1 (digs d).2.2.2.2.2.2.2.2.2 (digs 2).1 (digs 2).2.1 (digs 2).2.2.1 (digs 2).2.2.2.1 (digs 2).2.2.2.2.1 (digs 2).2.2.2.2.2.1 (digs 2).2.2.2.2.2.2.1 (digs 2).2.2.2.2.2.2.2.1 (digs 2).2.2.2.2.2.2.2.2.1 (digs 2).2.2.2.2.2.2.2.2.2) (fun k => by rw [step, if_neg c]) (by rw [half]; exact hev)⟩
theorem rnearest_ev (p d : Int) (p0 : 0 ≤ p) (p1 : p ≤ 85070591730234615865843651857942052864) (d0 : 0 < d) (d1 : d ≤ 9223372036854775808) :
    ∃ s, IsNear p d s ∧ Ev (fun k => qB.f k (digs p).1 (digs p).2.1 (digs p).2.2.1 (digs p).2.2.2.1 (digs p).2.2.2.2.1 (digs p).2.2.2.2.2.1 (digs p).2.2.2.2.2.2.1 (digs p).2.2.2.2.2.2.2.1 (digs p).2.2.2.2.2.2.2.2.1 (digs p).2.2.2.2.2.2.2.2.2 (digs d).1 (digs d).2.1 (digs d).2.2.1 (digs d).2.2.2.1 (digs d).2.2.2.2.1 (digs d).2.2.2.2.2.1 (digs d).2.2.2.2.2.2.1 (digs d).2.2.2.2.2.2.2.1 (digs d).2.2.2.2.2.2.2.2.1 (digs d).2.2.2.2.2.2.2.2.2) s := by
  obtain ⟨s, hs, hev⟩ := near_l0 p d p0 p1 d0 d1 32 0 (by omega) (by omega) (by omega) (.inr (by simp)) (by simp)
  refine ⟨s, hs, ?_⟩
  unfold qB.f
  rw [sizeD (by unfold I64; omega)]
  simp only [Option.bind_some]
  rw [show zx 2 = 2 by decide]
  simpa using hev
theorem IsNear.spec {p d q : Int} (h : IsNear p d q) (d0 : 0 < d) : q = nearest p d ∨ (q = 4294967295 ∧ nearest p d ≥ 4294967295) := by
  obtain ⟨h0, h1, h2⟩ := h
  have a : q ≤ nearest p d := by unfold nearest; exact Int.le_ediv_of_mul_le (by omega) h1
  rcases h2 with h2 | h2
  · left
    have : nearest p d < q + 1 := by unfold nearest; exact Int.ediv_lt_of_lt_mul (by omega) h2
    omega
  · by_cases c : q = nearest p d
    · exact .inl c
    · exact .inr ⟨h2, by omega⟩
theorem sgn_l0 (q a b c : Int) (hq : 0 ≤ q) (hq1 : q ≤ 2147483647) : Ev (fun k => qW.l0 k q 0 [a, b, c] 3 0) (if ZL a b c = true then (-q, 0) else (q, 0)) := by
  have w : ∀ n : Int, -4 ≤ n → n ≤ 4 → wrap64 n = n := fun n h0 h1 => je (by omega) (by omega)
  have wq : wrap64 (-q) = -q := je (by omega) (by omega)
  refine Ev.intro 4 fun k => ?_
  have r0 : rd [a, b, c] 0 = a := rfl
  have r1 : rd [a, b, c] 1 = b := rfl
  have r2 : rd [a, b, c] 2 = c := rfl
  have w1 := w 1 (by omega) (by omega)
  have w2 := w 2 (by omega) (by omega)
  have w3 := w 3 (by omega) (by omega)
  have n1 : ((0 : Int) + 1) = 1 := rfl
  have n2 : ((1 : Int) + 1) = 2 := rfl
  have n3 : ((2 : Int) + 1) = 3 := rfl
  have len : (([a, b, c] : List Int).length : Int) = 3 := rfl
  have m0 : Int.tmod 0 2 = 0 := rfl
  have m1 : Int.tmod 1 2 = 1 := rfl
  have m2 : Int.tmod 2 2 = 0 := rfl
  have m3 : Int.tmod 3 2 = 1 := rfl
  unfold ZL
  by_cases ha : a < 0 <;> by_cases hb : b < 0 <;> by_cases hc : c < 0 <;>
    simp [qW.l0, r0, r1, r2, w1, w2, w3, n1, n2, n3, len, ha, hb, hc, wq, m0, m1, m2, m3]
theorem qbf {a b c : Int} (ha : I64 a) (hb : I64 b) (hc : I64 c) : Ev (fun k => qW.f k a b c) (ZP a b c) := by
  unfold qW.f ZP
  by_cases hz : c = 0
  · simp only [if_pos hz]; exact Ev.now _
  · simp only [if_neg hz]
    have a0 := Qn a; have b0 := Qn b; have c0 := Qn c
    have a1 := ZB ha; have b1 := ZB hb; have c1 := ZB hc
    have d0 : 0 < zx c := by unfold zx; split <;> omega
    have n0 : 0 ≤ zx a * zx b := Int.mul_nonneg a0 b0
    have n1 : zx a * zx b ≤ 9223372036854775808 * 9223372036854775808 := QA a0 b0 a1 b1
    have z0 : 0 ≤ zx c * 8589934592 := by omega
    rw [sizeD ha, sizeD hb, sizeD hc, sizeD (n := 8589934592) (by unfold I64; omega), show zx 8589934592 = 8589934592 by decide]
    simp only [Option.bind_some]
    rw [timesD a0 (by omega) b0 (by omega), timesD c0 (by omega) (by omega) (by omega)]
    simp only [Option.bind_some]
    rw [underD n0 (by omega) z0 (by omega)]
    simp only [Option.bind_some, decide_eq_true_eq]
    by_cases hu : zx a * zx b < zx c * 8589934592
    · simp only [if_pos hu]
      obtain ⟨q, hq, hev⟩ := rnearest_ev (zx a * zx b) (zx c) n0 (by omega) d0 c1
      refine Ev.bind hev ?_
      have q0 := hq.1
      rcases hq.spec d0 with e | ⟨e1, e2⟩
      · rw [← e]
        by_cases hb' : q > 2147483647
        · simp only [if_pos hb']; exact Ev.now _
        · simp only [if_neg hb']
          exact sgn_l0 q a b c q0 (by omega)
      · have : q > 2147483647 := by omega
        simp only [if_pos this]
        rw [if_pos (by omega)]; exact Ev.now _
    · simp only [if_neg hu]
      have big : nearest (zx a * zx b) (zx c) > 2147483647 := by
        have h1 : 2147483648 * (2 * zx c) ≤ 2 * (zx a * zx b) + zx c := by omega
        have : 2147483648 ≤ nearest (zx a * zx b) (zx c) := by unfold nearest; exact Int.le_ediv_of_mul_le (by omega) h1
        omega
      rw [if_pos big]; exact Ev.now _
end Go.Proofs.Ytmlkpadlafjfeaa.P
set_option linter.unusedVariables false
set_option linter.unusedSimpArgs false
namespace Go.Proofs.Ytmlkpadlafjfeaa.P
open Go Go.RowKit Go.Proofs.YtmlkpadlafjfeaaW.PrintWords Go.Proofs.YtmlkpadlafjfeaaW.PrintLast Go.Proofs.YtmlkpadlafjfeaaW.PrintMore
theorem Jn {fn : Func} {t u v x : Tmp} (h : fn.results = #[.tmp t, .tmp u, .tmp v, .tmp x]) (tmps : Array Value) (P : Program) (w : World) :
    (results fn tmps).run P w = .ok (.tuple #[tmps.getD t undef, tmps.getD u undef, tmps.getD v undef, tmps.getD x undef]) w := by
  simp [results, h]
set_option maxRecDepth 100000 in
set_option maxHeartbeats 1000000 in
theorem clo38 (k k' : Nat) (x y m0 m1 m2 m3 a e b f : Int) (g1 T : Nat) (w : World) (h1 : w.heap[g1]? = some (Obj.cells #[.int .i64 m0, .int .i64 m1, .int .i64 m2, .int .i64 m3] T (0, 0))) (ha : jQ.f k m0 m1 x y = some (a, e)) (hb : jQ.f k' m2 m3 x y = some (b, f)) :
    Calls Try.prog 38 #[.int .i64 x, .int .i64 y, .pointer (some ⟨g1, 0, none⟩)] w fun r w' => r = .returned (.tuple #[.int .i64 a, .int .i64 b, .int .i64 e, .int .i64 f]) ∧ Below w.heap.size w w' := by
  have hu := Try.underlying51
  have c0 : w.cell? ⟨g1, 0, none⟩ = some (.int .i64 m0) := (qb h1 0).trans rfl
  have c1 : w.cell? ⟨g1, 1, none⟩ = some (.int .i64 m1) := (qb h1 1).trans rfl
  have HA := qa.mk ha
  have HB := qa.mk hb
  have H1 := qa.mk h1
  clear ha hb h1
  go_enter Try.func38, Try.ntmps38
  go_upto_region 2 with (go_at_call 39; refine (jQ.calls k m0 m1 x y a e w HA.out).mono ?_; rintro r w6 ⟨rfl, hb6⟩; have B6 := qa.mk hb6; have d2 : w6.cell? ⟨g1, 2, none⟩ = some (.int .i64 m2) := (qb ((hb6.block _ (qy H1.out)).trans H1.out) 2).trans rfl; have d3 : w6.cell? ⟨g1, 3, none⟩ = some (.int .i64 m3) := (qb ((hb6.block _ (qy H1.out)).trans H1.out) 3).trans rfl; clear hb6)
  clear c0 c1
  go_wp2_with (go_at_call 39; refine (jQ.calls k' m2 m3 x y b f w6 HB.out).mono ?_; rintro r w7 ⟨rfl, hb7⟩; have B7 := qa.mk (qh B6.out hb7); clear hb7)
  (try simp only [Exit.inBlock, Exit.then])
  refine bodyPost_ret (Jn rfl _ _ _) rfl ?_
  exact ⟨rfl, B7.out⟩
set_option maxRecDepth 100000 in
set_option maxHeartbeats 1000000 in
theorem clo36 (k k' : Nat) (x y p q a e b f : Int) (g1 g2 : Nat) (w : World) (h1 : w.heap[g1]? = some (Obj.cells #[.int .i64 p] 3 (0, 0))) (h2 : w.heap[g2]? = some (Obj.cells #[.int .i64 q] 3 (0, 0))) (ha : jI.f k x p = some (a, e)) (hb : jI.f k' y q = some (b, f)) :
    Calls Try.prog 36 #[.int .i64 x, .int .i64 y, .pointer (some ⟨g1, 0, none⟩), .pointer (some ⟨g2, 0, none⟩)] w fun r w' => r = .returned (.tuple #[.int .i64 a, .int .i64 b, .int .i64 e, .int .i64 f]) ∧ Below w.heap.size w w' := by
  have c1 : w.cell? ⟨g1, 0, none⟩ = some (.int .i64 p) := (qb h1 0).trans rfl
  have c2 : w.cell? ⟨g2, 0, none⟩ = some (.int .i64 q) := (qb h2 0).trans rfl
  have HA := qa.mk ha
  have HB := qa.mk hb
  have H1 := qa.mk h1
  have H2 := qa.mk h2
  clear ha hb h1 h2
  go_enter Try.func36, Try.ntmps36
  go_upto_region 2 with (go_at_call 37; refine (jI.calls k x p a e w HA.out).mono ?_; rintro r w6 ⟨rfl, hb6⟩; have B6 := qa.mk hb6; have d1 : w6.cell? ⟨g1, 0, none⟩ = some (.int .i64 p) := (qb ((hb6.block _ (qy H1.out)).trans H1.out) 0).trans rfl; have d2 : w6.cell? ⟨g2, 0, none⟩ = some (.int .i64 q) := (qb ((hb6.block _ (qy H2.out)).trans H2.out) 0).trans rfl; clear hb6)
  clear c1 c2
  go_wp2_with (go_at_call 37; refine (jI.calls k' y q b f w6 HB.out).mono ?_; rintro r w7 ⟨rfl, hb7⟩; have B7 := qa.mk (qh B6.out hb7); clear hb7)
  (try simp only [Exit.inBlock, Exit.then])
  refine bodyPost_ret (Jn rfl _ _ _) rfl ?_
  exact ⟨rfl, B7.out⟩
set_option maxRecDepth 100000 in
set_option maxHeartbeats 1000000 in
theorem clo40 (k k' : Nat) (x y p q a e b f : Int) (g1 g2 : Nat) (w : World) (h1 : w.heap[g1]? = some (Obj.cells #[.int .i64 p] 3 (0, 0))) (h2 : w.heap[g2]? = some (Obj.cells #[.int .i64 q] 3 (0, 0))) (ha : qI.f k x p q = some (a, e)) (hb : qI.f k' y p q = some (b, f)) :
    Calls Try.prog 40 #[.int .i64 x, .int .i64 y, .pointer (some ⟨g1, 0, none⟩), .pointer (some ⟨g2, 0, none⟩)] w fun r w' => r = .returned (.tuple #[.int .i64 a, .int .i64 b, .int .i64 e, .int .i64 f]) ∧ Below w.heap.size w w' := by
  have c1 : w.cell? ⟨g1, 0, none⟩ = some (.int .i64 p) := (qb h1 0).trans rfl
  have c2 : w.cell? ⟨g2, 0, none⟩ = some (.int .i64 q) := (qb h2 0).trans rfl
  have HA := qa.mk ha
  have HB := qa.mk hb
  have H1 := qa.mk h1
  have H2 := qa.mk h2
  clear ha hb h1 h2
  go_enter Try.func40, Try.ntmps40
  go_upto_region 2 with (go_at_call 41; refine (qI.calls k x p q a e w HA.out).mono ?_; rintro r w6 ⟨rfl, hb6⟩; have B6 := qa.mk hb6; have d1 : w6.cell? ⟨g1, 0, none⟩ = some (.int .i64 p) := (qb ((hb6.block _ (qy H1.out)).trans H1.out) 0).trans rfl; have d2 : w6.cell? ⟨g2, 0, none⟩ = some (.int .i64 q) := (qb ((hb6.block _ (qy H2.out)).trans H2.out) 0).trans rfl; clear hb6)
  clear c1 c2
  go_wp2_with (go_at_call 41; refine (qI.calls k' y p q b f w6 HB.out).mono ?_; rintro r w7 ⟨rfl, hb7⟩; have B7 := qa.mk (qh B6.out hb7); clear hb7)
  (try simp only [Exit.inBlock, Exit.then])
  refine bodyPost_ret (Jn rfl _ _ _) rfl ?_
  exact ⟨rfl, B7.out⟩
end Go.Proofs.Ytmlkpadlafjfeaa.P
set_option linter.unusedVariables false
set_option linter.unusedSimpArgs false
namespace Go.Proofs.Ytmlkpadlafjfeaa.P
open Go Go.RowKit Go.Proofs.YtmlkpadlafjfeaaW.PrintWords Go.Proofs.YtmlkpadlafjfeaaW.PrintLast Go.Proofs.YtmlkpadlafjfeaaW.PrintMore
set_option maxRecDepth 100000 in
set_option maxHeartbeats 1000000 in
theorem move_calls (u v : Int → Int → Int × Int) (o : List (List S40)) (A : Option Addr) (c : Nat) (p q : Int) (w : World) (hr : Kd.C (Kd.slice 40 k40) w A o.length o) (hc : o.length ≤ c) (hm : Qb o)
    (hT : CK o = 0 → ∀ row ∈ o, ∀ X ∈ row, (∃ k, jI.f k X.f0 p = some (u X.f0 X.f1)) ∧ ∃ k, jI.f k X.f1 q = some (v X.f0 X.f1)) :
    Calls Try.prog 23 #[.slice A o.length c, .int .i64 p, .int .i64 q] w fun r w' => ∃ v0 : Value, r = .returned (.tuple #[v0, .int .i64 (Qh u v o).2]) ∧ Kd.S (Kd.slice 40 k40) 37 w' w.heap.size (fun _ => True) v0 (Qh u v o).1 ∧ Below w.heap.size w w' := by
  have HR := qa.mk hr
  have HC := qa.mk hc
  have HM := qa.mk hm
  have HT := qa.mk hT
  clear hr hc hm hT
  generalize hG : Qh u v o = G
  have EG := qa.mk hG
  clear hG
  go_enter Try.func23, Try.ntmps23
  go_upto_region 1 with fail
  obtain ⟨W, g1, g2, hW, e1, e2, b1, b2, lW⟩ : ∃ W g1 g2, W = (w.alloc (Obj.cells #[.int .i64 p] 3)).alloc (Obj.cells #[.int .i64 q] 3) ∧ w.heap.size = g1 ∧ w.heap.size + 1 = g2 ∧ W.heap[g1]? = some (Obj.cells #[.int .i64 p] 3 (0, 0)) ∧ W.heap[g2]? = some (Obj.cells #[.int .i64 q] 3 (0, 0)) ∧ Below w.heap.size w W :=
    ⟨_, _, _, rfl, rfl, rfl, qg (zu _ _) _, by rw [← QM w (Obj.cells #[.int .i64 p] 3)]; exact zu _ _, qw (qw (Below.refl _ _) _) _⟩
  rw [← hW, e2, e1]
  have LW := qa.mk lW
  have CW := qa.mk (Kd.jb HR.out lW)
  have hcall := mapped36 u v o A c g1 g2 W CW.out HC.out HM.out (fun ck row hrow X hX w1 hb => by
    obtain ⟨⟨k, h1⟩, ⟨k', h2⟩⟩ := HT.out ck row hrow X hX
    exact clo36 k k' X.f0 X.f1 p q _ _ _ _ g1 g2 w1 ((hb.block _ (qy b1)).trans b1) ((hb.block _ (qy b2)).trans b2) h1 h2)
  rw [EG.out] at hcall
  have HK := qa.mk hcall
  clear hcall hW e1 e2 b1 b2 lW
  go_wp2_with (go_at_call 35; refine HK.out.mono ?_; rintro r w6 ⟨v0, rfl, s6, hb6⟩; have B6 := qa.mk (qh LW.out hb6); have S6 := qa.mk (Kd.Zm s6 (qx LW.out)); clear s6 hb6)
  go_ret2
  exact ⟨_, rfl, S6.out, B6.out⟩
set_option maxRecDepth 100000 in
set_option maxHeartbeats 1000000 in
theorem resize_calls (u v : Int → Int → Int × Int) (o : List (List S40)) (A : Option Addr) (c : Nat) (p q : Int) (w : World) (hr : Kd.C (Kd.slice 40 k40) w A o.length o) (hc : o.length ≤ c) (hm : Qb o)
    (hT : CK o = 0 → ∀ row ∈ o, ∀ X ∈ row, (∃ k, qI.f k X.f0 p q = some (u X.f0 X.f1)) ∧ ∃ k, qI.f k X.f1 p q = some (v X.f0 X.f1)) :
    Calls Try.prog 25 #[.slice A o.length c, .int .i64 p, .int .i64 q] w fun r w' => ∃ v0 : Value, r = .returned (.tuple #[v0, .int .i64 (Qh u v o).2]) ∧ Kd.S (Kd.slice 40 k40) 37 w' w.heap.size (fun _ => True) v0 (Qh u v o).1 ∧ Below w.heap.size w w' := by
  have HR := qa.mk hr
  have HC := qa.mk hc
  have HM := qa.mk hm
  have HT := qa.mk hT
  clear hr hc hm hT
  generalize hG : Qh u v o = G
  have EG := qa.mk hG
  clear hG
  go_enter Try.func25, Try.ntmps25
  go_upto_region 1 with fail
  obtain ⟨W, g1, g2, hW, e1, e2, b1, b2, lW⟩ : ∃ W g1 g2, W = (w.alloc (Obj.cells #[.int .i64 p] 3)).alloc (Obj.cells #[.int .i64 q] 3) ∧ w.heap.size = g1 ∧ w.heap.size + 1 = g2 ∧ W.heap[g1]? = some (Obj.cells #[.int .i64 p] 3 (0, 0)) ∧ W.heap[g2]? = some (Obj.cells #[.int .i64 q] 3 (0, 0)) ∧ Below w.heap.size w W :=
    ⟨_, _, _, rfl, rfl, rfl, qg (zu _ _) _, by rw [← QM w (Obj.cells #[.int .i64 p] 3)]; exact zu _ _, qw (qw (Below.refl _ _) _) _⟩
  rw [← hW, e2, e1]
  have LW := qa.mk lW
  have CW := qa.mk (Kd.jb HR.out lW)
  have hcall := mapped40 u v o A c g1 g2 W CW.out HC.out HM.out (fun ck row hrow X hX w1 hb => by
    obtain ⟨⟨k, h1⟩, ⟨k', h2⟩⟩ := HT.out ck row hrow X hX
    exact clo40 k k' X.f0 X.f1 p q _ _ _ _ g1 g2 w1 ((hb.block _ (qy b1)).trans b1) ((hb.block _ (qy b2)).trans b2) h1 h2)
  rw [EG.out] at hcall
  have HK := qa.mk hcall
  clear hcall hW e1 e2 b1 b2 lW
  go_wp2_with (go_at_call 35; refine HK.out.mono ?_; rintro r w6 ⟨v0, rfl, s6, hb6⟩; have B6 := qa.mk (qh LW.out hb6); have S6 := qa.mk (Kd.Zm s6 (qx LW.out)); clear s6 hb6)
  go_ret2
  exact ⟨_, rfl, S6.out, B6.out⟩
set_option maxRecDepth 100000 in
set_option maxHeartbeats 1000000 in
theorem turn_calls (u v : Int → Int → Int × Int) (o : List (List S40)) (A : Option Addr) (c : Nat) (m0 m1 m2 m3 : Int) (w : World) (hr : Kd.C (Kd.slice 40 k40) w A o.length o) (hc : o.length ≤ c) (hm : Qb o)
    (hT : CK o = 0 → ∀ row ∈ o, ∀ X ∈ row, (∃ k, jQ.f k m0 m1 X.f0 X.f1 = some (u X.f0 X.f1)) ∧ ∃ k, jQ.f k m2 m3 X.f0 X.f1 = some (v X.f0 X.f1)) :
    Calls Try.prog 24 #[.slice A o.length c, .agg #[.int .i64 m0, .int .i64 m1, .int .i64 m2, .int .i64 m3]] w fun r w' => ∃ v0 : Value, r = .returned (.tuple #[v0, .int .i64 (Qh u v o).2]) ∧ Kd.S (Kd.slice 40 k40) 37 w' w.heap.size (fun _ => True) v0 (Qh u v o).1 ∧ Below w.heap.size w w' := by
  have HR := qa.mk hr
  have HC := qa.mk hc
  have HM := qa.mk hm
  have HT := qa.mk hT
  clear hr hc hm hT
  generalize hG : Qh u v o = G
  have EG := qa.mk hG
  clear hG
  go_enter Try.func24, Try.ntmps24
  go_upto_region 1 with fail
  obtain ⟨W, g1, hW, e1, b1, lW⟩ : ∃ W g1, W = w.alloc (Obj.cells #[.int .i64 m0, .int .i64 m1, .int .i64 m2, .int .i64 m3] 51) ∧ w.heap.size = g1 ∧ W.heap[g1]? = some (Obj.cells #[.int .i64 m0, .int .i64 m1, .int .i64 m2, .int .i64 m3] 51 (0, 0)) ∧ Below w.heap.size w W :=
    ⟨_, _, rfl, rfl, zu _ _, qw (Below.refl _ _) _⟩
  rw [← hW, e1]
  have LW := qa.mk lW
  have CW := qa.mk (Kd.jb HR.out lW)
  have hcall := mapped38 u v o A c g1 W CW.out HC.out HM.out (fun ck row hrow X hX w1 hb => by
    obtain ⟨⟨k, h1⟩, ⟨k', h2⟩⟩ := HT.out ck row hrow X hX
    exact clo38 k k' X.f0 X.f1 m0 m1 m2 m3 _ _ _ _ g1 51 w1 ((hb.block _ (qy b1)).trans b1) h1 h2)
  rw [EG.out] at hcall
  have HK := qa.mk hcall
  clear hcall hW e1 b1 lW
  go_wp2_with (go_at_call 35; refine HK.out.mono ?_; rintro r w6 ⟨v0, rfl, s6, hb6⟩; have B6 := qa.mk (qh LW.out hb6); have S6 := qa.mk (Kd.Zm s6 (qx LW.out)); clear s6 hb6)
  go_ret2
  exact ⟨_, rfl, S6.out, B6.out⟩
end Go.Proofs.Ytmlkpadlafjfeaa.P
set_option linter.unusedVariables false
set_option linter.unusedSimpArgs false
namespace Go.Proofs.Ytmlkpadlafjfeaa.P
open Go Go.RowKit Go.Proofs.YtmlkpadlafjfeaaW.PrintWords Go.Proofs.YtmlkpadlafjfeaaW.PrintLast Go.Proofs.YtmlkpadlafjfeaaW.PrintMore
theorem pal_ev : Ev (fun k => ji.f k) true := Ev.of ji.mono (k := 60) (by decide +kernel)
theorem fix_f (n : Int) : qM.f n = some (!Zh n) := by
  unfold qM.f Zh
  by_cases h1 : n < -2147483647
  · have : ¬ n ≥ -2147483647 := by omega
    simp [h1, this]
  · have h0 : n ≥ -2147483647 := by omega
    by_cases h2 : n > 2147483647
    · have : ¬ n ≤ 2147483647 := by omega
      simp [h1, h2, h0, this]
    · have : n ≤ 2147483647 := by omega
      simp [h1, h2, h0, this]
section
variable {x0 x32 x54 : List (List S40)} {x33 i x55 : Int} {row : List S40}
theorem chk_l2 (hr : row.length ≤ 9000000000000000000) (r : Int) : ∀ (d j : Nat), row.length - j = d → j ≤ row.length →
    Ev (fun k => if (row.drop j).any Zp = true then some 61 else qi.l1 k x0 x32 x33 (wrap64 (i + 1))) r →
    Ev (fun k => qi.l2 k x0 x32 x33 i row (row.length : Int) (j : Int)) r := by
  intro d
  induction d with
  | zero =>
    intro j e hj h
    rw [Jg _ (by omega)] at h
    refine Ev.step (fun k => ?_) h
    rw [qi.l2, if_neg (by omega)]; rfl
  | succ d ih =>
    intro j e hj h
    have hlt : j < row.length := by omega
    rw [ZJ _ hlt] at h
    have h1 : (j : Int) < (row.length : Int) := by omega
    have h2 : (0 : Int) ≤ (j : Int) := by omega
    by_cases c : Zp row[j] = true
    · rw [c, Bool.true_or] at h
      refine Ev.step (f := fun _ => some 61) (fun k => ?_) (by simpa using h)
      rw [qi.l2, if_pos h1, if_pos h2, if_pos h1, Ze hlt]
      unfold Zp at c
      rw [Bool.or_eq_true, decide_eq_true_eq, decide_eq_true_eq] at c
      by_cases c1 : row[j].f2 < 1
      · rw [if_pos c1]
      · rw [if_neg c1, if_pos (by omega)]
    · rw [Bool.not_eq_true] at c
      rw [c, Bool.false_or] at h
      refine Ev.step (fun k => ?_) (ih (j + 1) (by omega) (by omega) h)
      rw [qi.l2, if_pos h1, if_pos h2, if_pos h1, Ze hlt, QV (by omega)]
      unfold Zp at c
      rw [Bool.or_eq_false_iff, decide_eq_false_iff_not, decide_eq_false_iff_not] at c
      rw [if_neg c.1, if_neg c.2]
theorem chk_l4 (hr : row.length ≤ 9000000000000000000) (r : Int) : ∀ (d j : Nat), row.length - j = d → j ≤ row.length →
    Ev (fun k => if (row.drop j).any Zn = true then some 64 else qi.l3 k x54 x55 (wrap64 (i + 1))) r →
    Ev (fun k => qi.l4 k x54 x55 i row (row.length : Int) (j : Int)) r := by
  intro d
  induction d with
  | zero =>
    intro j e hj h
    rw [Jg _ (by omega)] at h
    refine Ev.step (fun k => ?_) h
    rw [qi.l4, if_neg (by omega)]; rfl
  | succ d ih =>
    intro j e hj h
    have hlt : j < row.length := by omega
    rw [ZJ _ hlt] at h
    have h1 : (j : Int) < (row.length : Int) := by omega
    have h2 : (0 : Int) ≤ (j : Int) := by omega
    have b2 : Zn row[j] = (Zh row[j].f0 || Zh row[j].f1) := rfl
    cases c : Zn row[j] with
    | true =>
      rw [c, Bool.true_or] at h
      refine Ev.step (f := fun _ => some 64) (fun k => ?_) (by simpa using h)
      rw [qi.l4, if_pos h1, if_pos h2, if_pos h1, Ze hlt, fix_f, fix_f]
      rw [b2] at c
      cases c0 : Zh row[j].f0 <;> cases c1 : Zh row[j].f1 <;> simp [c0, c1] at c ⊢
    | false =>
      rw [c, Bool.false_or] at h
      refine Ev.step (fun k => ?_) (ih (j + 1) (by omega) (by omega) h)
      rw [qi.l4, if_pos h1, if_pos h2, if_pos h1, Ze hlt, QV (by omega), fix_f, fix_f]
      rw [b2, Bool.or_eq_false_iff] at c
      rw [c.1, c.2]; rfl
end
theorem chk_l3 (o : List (List S40)) (hm : Qb o) : ∀ (d i : Nat), o.length - i = d → i ≤ o.length → Ev (fun k => qi.l3 k o (o.length : Int) (i : Int)) (if (o.drop i).any (fun c => c.any Zn) = true then 64 else 0) := by
  have hl := hm.1
  intro d
  induction d with
  | zero =>
    intro i e hi
    rw [Jg _ (by omega)]
    refine Ev.step (f := fun _ => some 0) (fun k => ?_) (Ev.now _)
    rw [qi.l3, if_neg (by omega)]
  | succ d ih =>
    intro i e hi
    have hlt : i < o.length := by omega
    have hrow := hm.2 _ (List.getElem_mem hlt)
    have h1 : (i : Int) < (o.length : Int) := by omega
    have h2 : (0 : Int) ≤ (i : Int) := by omega
    rw [ZJ _ hlt]
    refine Ev.step (f := fun k => qi.l4 k o (o.length : Int) (i : Int) o[i] (o[i].length : Int) ((0 : Nat) : Int)) (fun k => ?_) (chk_l4 (row := o[i]) (by omega) _ o[i].length 0 (by omega) (by omega) ?_)
    · rw [qi.l3, if_pos h1, if_pos h2, if_pos h1, ZF hlt]; rfl
    · rw [List.drop_zero, QV (by omega)]
      cases c : o[i].any Zn with
      | true => simp only [if_true, Bool.true_or]; exact Ev.now _
      | false => simp only [Bool.false_eq_true, if_false, Bool.false_or]; exact ih (i + 1) (by omega) (by omega)
theorem chk_l1 (o : List (List S40)) (hm : Qb o) : ∀ (d i : Nat), o.length - i = d → i ≤ o.length → Ev (fun k => qi.l1 k o o (o.length : Int) (i : Int)) (if (o.drop i).any (fun c => c.any Zp) = true then 61 else if o.any (fun c => c.any Zn) = true then 64 else 0) := by
  have hl := hm.1
  intro d
  induction d with
  | zero =>
    intro i e hi
    rw [Jg _ (by omega)]
    refine Ev.step (f := fun k => qi.l3 k o (o.length : Int) ((0 : Nat) : Int)) (fun k => ?_) (by have h := chk_l3 o hm o.length 0 (by omega) (by omega); rw [List.drop_zero] at h; exact h)
    rw [qi.l1, if_neg (by omega)]; rfl
  | succ d ih =>
    intro i e hi
    have hlt : i < o.length := by omega
    have hrow := hm.2 _ (List.getElem_mem hlt)
    have h1 : (i : Int) < (o.length : Int) := by omega
    have h2 : (0 : Int) ≤ (i : Int) := by omega
    rw [ZJ _ hlt]
    refine Ev.step (f := fun k => qi.l2 k o o (o.length : Int) (i : Int) o[i] (o[i].length : Int) ((0 : Nat) : Int)) (fun k => ?_) (chk_l2 (row := o[i]) (by omega) _ o[i].length 0 (by omega) (by omega) ?_)
    · rw [qi.l1, if_pos h1, if_pos h2, if_pos h1, ZF hlt]; rfl
    · rw [List.drop_zero, QV (by omega)]
      cases c : o[i].any Zp with
      | true => simp only [if_true, Bool.true_or]; exact Ev.now _
      | false => simp only [Bool.false_eq_true, if_false, Bool.false_or]; exact ih (i + 1) (by omega) (by omega)
theorem chk_big (o : List (List S40)) (hm : Qb o) (hb : 256 < o.length) : ∀ (d i : Nat) (n : Int), o.length - i = d → i ≤ o.length → Ev (fun k => qi.l0 k o n o (o.length : Int) (i : Int)) 63 := by
  have hl := hm.1
  intro d
  induction d with
  | zero =>
    intro i n e hi
    refine Ev.step (f := fun k => qi.j1 k o true) (fun k => ?_) (Ev.step (f := fun _ => some 63) (fun k => ?_) (Ev.now _))
    · rw [qi.l0, if_neg (by omega), if_pos (by omega)]
    · rw [qi.j1, if_pos rfl]
  | succ d ih =>
    intro i n e hi
    have hlt : i < o.length := by omega
    have h1 : (i : Int) < (o.length : Int) := by omega
    have h2 : (0 : Int) ≤ (i : Int) := by omega
    refine Ev.step (fun k => ?_) (ih (i + 1) (wrap64 (n + (o[i].length : Int))) (by omega) (by omega))
    rw [qi.l0, if_pos h1, if_pos h2, if_pos h1, ZF hlt, QV (by omega)]
theorem chk_small (o : List (List S40)) (hm : Qb o) (hb : o.length ≤ 256) (r : Int) (hr : Ev (fun k => qi.j1 k o (decide (((tot o : Nat) : Int) > 4096))) r) : ∀ (d i : Nat) (n : Nat), o.length - i = d → i ≤ o.length → n ≤ 5864062014634 * i → n + tot (o.drop i) = tot o → Ev (fun k => qi.l0 k o (n : Int) o (o.length : Int) (i : Int)) r := by
  intro d
  induction d with
  | zero =>
    intro i n e hi hn ht
    rw [List.drop_of_length_le (by omega)] at ht
    have ht : n = tot o := ht
    refine Ev.step (fun k => ?_) hr
    rw [qi.l0, if_neg (by omega), if_neg (by omega), ht]
  | succ d ih =>
    intro i n e hi hn ht
    have hlt : i < o.length := by omega
    have hrow := hm.2 _ (List.getElem_mem hlt)
    have er : o.drop i = o[i] :: o.drop (i + 1) := List.drop_eq_getElem_cons hlt
    have h0 : tot (o.drop i) = o[i].length + tot (o.drop (i + 1)) := by rw [er]; unfold tot; rw [List.map_cons, List.sum_cons]
    have h1 : (i : Int) < (o.length : Int) := by omega
    have h2 : (0 : Int) ≤ (i : Int) := by omega
    refine Ev.step (fun k => ?_) (ih (i + 1) (n + o[i].length) (by omega) (by omega) (by omega) (by omega))
    rw [qi.l0, if_pos h1, if_pos h2, if_pos h1, ZF hlt, QV (by omega), w64 (n := (n : Int) + (o[i].length : Int)) (by omega) (by omega)]
    rfl
theorem rcheck_ev (o : List (List S40)) (hm : Qb o) : Ev (fun k => qi.f k o) (CK o) := by
  unfold qi.f CK
  by_cases c : 256 < o.length
  · rw [if_pos (Or.inl c)]; exact chk_big o hm c o.length 0 0 (by omega) (by omega)
  · refine chk_small o hm (by omega) _ ?_ o.length 0 0 (by omega) (by omega) (by omega) (by rw [List.drop_zero]; omega)
    by_cases c2 : 4096 < tot o
    · rw [if_pos (Or.inr c2)]
      refine Ev.step (f := fun _ => some 63) (fun k => ?_) (Ev.now _)
      rw [qi.j1, decide_eq_true (by omega), if_pos rfl]
    · rw [if_neg (by omega)]
      have h := chk_l1 o hm o.length 0 (by omega) (by omega)
      rw [List.drop_zero] at h
      refine Ev.step (fun k => ?_) h
      rw [qi.j1, decide_eq_false (by omega), if_neg (by simp)]; rfl
theorem copy_step (k : Nat) (o : List (List S40)) (i : Nat) (x3 : List (List S40)) (hm : Qb o) (hlt : i < o.length) (hx : x3.length ≤ o.length) : zi.l0 (k + 1) x3 o (o.length : Int) (i : Int) = zi.l0 k (x3 ++ [o[i]]) o (o.length : Int) ((i + 1 : Nat) : Int) := by
  have hl := hm.1
  have hrow := hm.2 _ (List.getElem_mem hlt)
  have h1 : (i : Int) < (o.length : Int) := by omega
  have h2 : (0 : Int) ≤ (i : Int) := by omega
  have h3 : ([] : List S40).length + o[i].length < 5864062014805 := by
    have : ([] : List S40).length = 0 := rfl
    omega
  have h4 : x3.length < 5864062014805 := by omega
  rw [zi.l0, if_pos h1, if_pos h2, if_pos h1, Option.bind_some, ZF hlt, if_pos h3, if_pos h4, QV (by omega), List.nil_append]
theorem copy_l0 (o : List (List S40)) (hm : Qb o) : ∀ (d i : Nat) (x3 : List (List S40)), o.length - i = d → i ≤ o.length → x3 = o.take i → Ev (fun k => zi.l0 k x3 o (o.length : Int) (i : Int)) o := by
  intro d
  induction d with
  | zero =>
    intro i x3 e hi hx
    refine Ev.step (f := fun _ => some o) (fun k => ?_) (Ev.now _)
    rw [zi.l0, if_neg (by omega), hx, List.take_of_length_le (by omega)]
  | succ d ih =>
    intro i x3 e hi hx
    have hlt : i < o.length := by omega
    refine Ev.step (fun k => copy_step k o i x3 hm hlt (by rw [hx, List.length_take]; omega)) (ih (i + 1) (x3 ++ [o[i]]) (by omega) (by omega) ?_)
    rw [hx, List.take_add_one, List.getElem?_eq_getElem hlt]; rfl
theorem copy_ev (o : List (List S40)) (hm : Qb o) : Ev (fun k => zi.f k o) o := copy_l0 o hm o.length 0 [] (by omega) (by omega) rfl
theorem rdL4 {o : List (List S35)} {i : Nat} (h : i < o.length) : zY o (i : Int) = o[i] := by unfold zY; rw [Int.toNat_natCast, List.getD_eq_getElem?_getD, List.getElem?_eq_getElem h]; rfl
theorem sameS_l1 (o : List (List S35)) (i : Nat) (hi : i < o.length) (hr : o[i].length ≤ 9000000000000000000) (r : Bool) (h : Ev (fun k => qH.l0 k o o (o.length : Int) (wrap64 ((i : Int) + 1))) r) : ∀ (d j : Nat), o[i].length - j = d → j ≤ o[i].length →
    Ev (fun k => qH.l1 k o o (i : Int) (o.length : Int) (i : Int) (o[i].length : Int) (j : Int)) r := by
  intro d
  induction d with
  | zero =>
    intro j e hj
    refine Ev.step (fun k => ?_) h
    rw [qH.l1, if_neg (by omega)]
  | succ d ih =>
    intro j e hj
    have hlt : j < o[i].length := by omega
    have h1 : (j : Int) < (o[i].length : Int) := by omega
    have h2 : (0 : Int) ≤ (j : Int) := by omega
    have h3 : (i : Int) < (o.length : Int) := by omega
    have h4 : (0 : Int) ≤ (i : Int) := by omega
    refine Ev.step (fun k => ?_) (ih (j + 1) (by omega) (by omega))
    rw [qH.l1, rdL4 hi, if_pos h1, if_pos h4, if_pos h3, if_pos h2, if_pos h1, if_pos h3, if_pos h1, if_neg (by simp), QV (by omega)]
theorem sameS_l0 (o : List (List S35)) (hl : o.length ≤ 9000000000000000000) (hr : ∀ c ∈ o, c.length ≤ 9000000000000000000) : ∀ (d i : Nat), o.length - i = d → i ≤ o.length → Ev (fun k => qH.l0 k o o (o.length : Int) (i : Int)) true := by
  intro d
  induction d with
  | zero =>
    intro i e hi
    refine Ev.step (f := fun _ => some true) (fun k => ?_) (Ev.now _)
    rw [qH.l0, if_neg (by omega)]
  | succ d ih =>
    intro i e hi
    have hlt : i < o.length := by omega
    have h1 : (i : Int) < (o.length : Int) := by omega
    have h2 : (0 : Int) ≤ (i : Int) := by omega
    have h := ih (i + 1) (by omega) (by omega)
    rw [← QV (by omega)] at h
    have h := sameS_l1 o i hlt (hr _ (List.getElem_mem hlt)) true h o[i].length 0 (by omega) (by omega)
    refine Ev.step (fun k => ?_) h
    rw [qH.l0, if_pos h1, if_pos h2, if_pos h1, if_pos h1, rdL4 hlt, if_pos rfl]; rfl
theorem sameS_ev (o : List (List S35)) (hl : o.length ≤ 9000000000000000000) (hr : ∀ c ∈ o, c.length ≤ 9000000000000000000) : Ev (fun k => qH.f k o o) true := by
  unfold qH.f
  simp only [if_true]
  exact sameS_l0 o hl hr o.length 0 (by omega) (by omega)
end Go.Proofs.Ytmlkpadlafjfeaa.P
set_option linter.unusedVariables false
set_option linter.unusedSimpArgs false
namespace Go.Proofs.Ytmlkpadlafjfeaa.P
open Go Go.RowKit Go.Proofs.YtmlkpadlafjfeaaW.PrintWords Go.Proofs.YtmlkpadlafjfeaaW.PrintLast Go.Proofs.YtmlkpadlafjfeaaW.PrintMore
theorem fix_f2 (n : Int) : qM.f n = some (jT n) := by
  unfold qM.f jT
  by_cases h : n ≥ -2147483647
  · rw [if_pos h, decide_eq_true (show -2147483647 ≤ n by omega), Bool.true_and]
  · rw [if_neg h, decide_eq_false (show ¬ -2147483647 ≤ n by omega), Bool.false_and]
theorem fix_mul {a b : Int} (ha : jT a = true) (hb : jT b = true) : -4611686014132420609 ≤ a * b ∧ a * b ≤ 4611686014132420609 := by
  rw [Z7] at ha hb
  have e : zx (a * b) = zx a * zx b := absI_mul a b
  have a1 : zx a ≤ 2147483647 := by unfold zx; split <;> omega
  have b1 : zx b ≤ 2147483647 := by unfold zx; split <;> omega
  have m := QA (Qn a) (Qn b) a1 b1
  rw [← e] at m
  unfold zx at m
  split at m <;> omega
def dotS (n : Int) : Int × Int :=
  if nearest (zx n) 16384 > 2147483647 then (0, 14) else if n < 0 then (-(nearest (zx n) 16384), 0) else (nearest (zx n) 16384, 0)
theorem mulD_one (n : Int) : ZP n 1 16384 = dotS n := by
  unfold ZP dotS
  have e : zx n * zx 1 = zx n := by rw [show zx 1 = 1 by decide, Int.mul_one]
  rw [if_neg (by decide), e, show zx 16384 = 16384 by decide]
  have : (ZL n 1 16384 = true) = (n < 0) := by
    unfold ZL
    by_cases h : n < 0 <;> simp [h]
  simp only [this]
theorem rdot_j0 (a b c d n : Int) (hn : wrap64 (wrap64 (a * c) + wrap64 (b * d)) = n) (h0 : -9223372036854775807 ≤ n) (h1 : n ≤ 9223372036854775807) (k : Nat) : qO.j0 (k + 1) a b c d false = some (dotS n) := by
  simp only [qO.j0, Bool.false_eq_true, if_false, hn]
  unfold dotS
  by_cases hlt : n < 0
  · rw [if_pos hlt, je (n := -n) (by omega) (by omega), Int.tmod_eq_emod_of_nonneg (by omega), Int.tdiv_eq_ediv_of_nonneg (by omega), je (n := -n / 16384) (by omega) (by omega), je (n := -n / 16384 + 1) (by omega) (by omega)]
    have e : zx n = -n := by unfold zx; rw [if_pos hlt]
    rw [e, J4 _ _ (by omega)]
    by_cases c1 : -n % 16384 ≥ 8192
    · rw [if_pos c1, if_pos (show 2 * (-n % 16384) ≥ 16384 by omega), je (n := -(-n / 16384 + 1)) (by omega) (by omega)]
      by_cases c2 : -n / 16384 + 1 > 2147483647
      · rw [if_pos c2, if_pos c2]
      · rw [if_neg c2, if_neg c2, if_pos hlt]
    · rw [if_neg c1, if_neg (show ¬ 2 * (-n % 16384) ≥ 16384 by omega), je (n := -(-n / 16384)) (by omega) (by omega)]
      by_cases c2 : -n / 16384 > 2147483647
      · rw [if_pos c2, if_pos c2]
      · rw [if_neg c2, if_neg c2, if_pos hlt]
  · rw [if_neg hlt, Int.tmod_eq_emod_of_nonneg (by omega), Int.tdiv_eq_ediv_of_nonneg (by omega), je (n := n / 16384) (by omega) (by omega), je (n := n / 16384 + 1) (by omega) (by omega)]
    have e : zx n = n := by unfold zx; rw [if_neg hlt]
    rw [e, J4 _ _ (by omega)]
    by_cases c1 : n % 16384 ≥ 8192
    · rw [if_pos c1, if_pos (show 2 * (n % 16384) ≥ 16384 by omega)]
      by_cases c2 : n / 16384 + 1 > 2147483647
      · rw [if_pos c2, if_pos c2]
      · rw [if_neg c2, if_neg c2, if_neg hlt]
    · rw [if_neg c1, if_neg (show ¬ 2 * (n % 16384) ≥ 16384 by omega)]
      by_cases c2 : n / 16384 > 2147483647
      · rw [if_pos c2, if_pos c2]
      · rw [if_neg c2, if_neg c2, if_neg hlt]
theorem dot_both (a b c d : Int) : ∃ r, Ev (fun k => qO.f k a b c d) r ∧ Ev (fun k => jQ.f k a b c d) r := by
  have al := all_ev [a, b, c, d] (by simp)
  by_cases h : jT a = true ∧ jT b = true ∧ jT c = true ∧ jT d = true
  · obtain ⟨ha, hb, hc, hd⟩ := h
    have m1 := fix_mul ha hc; have m2 := fix_mul hb hd
    have w : wrap64 (wrap64 (a * c) + wrap64 (b * d)) = a * c + b * d := by
      rw [je (n := a * c) (by omega) (by omega), je (n := b * d) (by omega) (by omega), je (by omega) (by omega)]
    refine ⟨dotS (a * c + b * d), ?_, ?_⟩
    · refine Ev.intro 1 fun k => ?_
      simp only [qO.f, fix_f2, Option.bind_some, ha, hb, hc, hd, if_true, Bool.not_true]
      exact rdot_j0 a b c d _ w (by omega) (by omega) k
    · unfold jQ.f
      refine Ev.bind al ?_
      simp only [List.all_cons, List.all_nil, ha, hb, hc, hd, Bool.and_self, if_true, w]
      refine Ev.bind (Jy (by unfold I64; omega) (by unfold I64; omega) (by unfold I64; omega)) ?_
      rw [mulD_one]; exact Ev.now _
  · refine ⟨(0, 14), ?_, ?_⟩
    · refine Ev.intro 1 fun k => ?_
      simp only [qO.f, fix_f2, Option.bind_some]
      by_cases ha : jT a = true
      · by_cases hb : jT b = true
        · by_cases hc : jT c = true
          · have hd : jT d = false := by
              by_cases hd : jT d = true
              · exact absurd ⟨ha, hb, hc, hd⟩ h
              · simpa using hd
            simp [ha, hb, hc, hd, qO.j0]
          · simp [ha, hb, hc, qO.j0]
        · simp [ha, hb, qO.j0]
      · simp [ha, qO.j0]
    · unfold jQ.f
      refine Ev.bind al ?_
      have : [a, b, c, d].all jT = false := by
        rw [← Bool.not_eq_true]; intro z; apply h; simpa using z
      rw [this]; exact Ev.now _
theorem sum_both (a b : Int) : ∃ r, jJ.f a b = some r ∧ Ev (fun k => jI.f k a b) r := by
  have al := all_ev [a, b] (by simp)
  unfold jJ.f
  simp only [fix_f2, Option.bind_some]
  by_cases ha : jT a = true
  · by_cases hb : jT b = true
    · have e : [a, b].all jT = true := by simp [ha, hb]
      rw [e] at al
      by_cases hs : jT (wrap64 (a + b)) = true
      · refine ⟨(wrap64 (a + b), 0), by simp [ha, hb, hs], ?_⟩
        unfold jI.f
        refine Ev.bind al ?_
        simp only [if_true, Qz.f, check_f, hs, Option.bind_some]
        exact Ev.now _
      · refine ⟨(0, 14), by simp [ha, hb, hs], ?_⟩
        unfold jI.f
        refine Ev.bind al ?_
        simp only [if_true, Qz.f, check_f, hs, Option.bind_some]
        exact Ev.now _
    · refine ⟨(0, 14), by simp [ha, hb], ?_⟩
      have e : [a, b].all jT = false := by simp [ha, hb]
      rw [e] at al
      unfold jI.f
      refine Ev.bind al ?_
      exact Ev.now _
  · refine ⟨(0, 14), by simp [ha], ?_⟩
    have e : [a, b].all jT = false := by simp [ha]
    rw [e] at al
    unfold jI.f
    refine Ev.bind al ?_
    exact Ev.now _
noncomputable def sumV (a b : Int) : Int × Int := (sum_both a b).choose
theorem rsum_eq (a b : Int) : jJ.f a b = some (sumV a b) := (sum_both a b).choose_spec.1
theorem add_ev (a b : Int) : Ev (fun k => jI.f k a b) (sumV a b) := (sum_both a b).choose_spec.2
noncomputable def dotV (a b c d : Int) : Int × Int := (dot_both a b c d).choose
theorem rdot_ev (a b c d : Int) : Ev (fun k => qO.f k a b c d) (dotV a b c d) := (dot_both a b c d).choose_spec.1
theorem dot_ev (a b c d : Int) : Ev (fun k => jQ.f k a b c d) (dotV a b c d) := (dot_both a b c d).choose_spec.2
theorem far_fix {n : Int} (h : Zh n = false) : I64 n := by
  unfold Zh at h
  rw [Bool.or_eq_false_iff, decide_eq_false_iff_not, decide_eq_false_iff_not] at h
  unfold I64; omega
theorem one_fin (u v : Int × Int) (z : Int) : (if u.2 = 0 then some (u.1, v.1, z, (v.2 == 0)) else some (u.1, v.1, z, false)) = some (u.1, v.1, z, (decide (u.2 = 0) && decide (v.2 = 0))) := by
  by_cases h : u.2 = 0
  · rw [if_pos h, decide_eq_true h, Bool.true_and]; rfl
  · rw [if_neg h, decide_eq_false h, Bool.false_and]
theorem one_ev1 (x y z a b c d : Int) : Ev (fun k => zz.f k x y z 1 a b c d) ((sumV x a).1, (sumV y b).1, z, (decide ((sumV x a).2 = 0) && decide ((sumV y b).2 = 0))) := by
  unfold zz.f
  simp only [if_true, rsum_eq, Option.bind_some, one_fin]
  exact Ev.now _
theorem one_ev2 (x y z a b c d : Int) : Ev (fun k => zz.f k x y z 2 a b c d) ((dotV a b x y).1, (dotV c d x y).1, z, (decide ((dotV a b x y).2 = 0) && decide ((dotV c d x y).2 = 0))) := by
  unfold zz.f
  simp only [show ¬ (2 : Int) = 1 by decide, if_false, if_true]
  refine Ev.bind (rdot_ev _ _ _ _) (Ev.bind (rdot_ev _ _ _ _) ?_)
  rw [one_fin]
  exact Ev.now _
theorem one_ev3 (x y z a b c d : Int) (hx : I64 x) (hy : I64 y) (ha : I64 a) (hb : I64 b) : Ev (fun k => zz.f k x y z 3 a b c d) ((ZP x a b).1, (ZP y a b).1, z, (decide ((ZP x a b).2 = 0) && decide ((ZP y a b).2 = 0))) := by
  unfold zz.f
  simp only [show ¬ (3 : Int) = 1 by decide, show ¬ (3 : Int) = 2 by decide, if_false]
  refine Ev.bind (qbf hx ha hb) (Ev.bind (qbf hy ha hb) ?_)
  rw [one_fin]
  exact Ev.now _
section
variable {o : List (List S40)} {u v : Int → Int → Int × Int} {a0 a1 a2 a3 a4 : Int}
theorem apply_l1 (hO : ∀ row ∈ o, ∀ X ∈ row, Ev (fun k => zz.f k X.f0 X.f1 X.f2 a0 a1 a2 a3 a4) ((u X.f0 X.f1).1, (v X.f0 X.f1).1, X.f2, OKK u v X)) (x7 : List (List S40)) (i : Nat) (hi : i < o.length) (hm : Qb o) (h7 : x7.length = i) (r : List (List S40) × Int)
    (h : Ev (fun k => if o[i].all (OKK u v) = true then qQ.l0 k (x7 ++ [o[i].map (NK u v)]) o (o.length : Int) ((i + 1 : Nat) : Int) a0 a1 a2 a3 a4 else some ([], 64)) r) :
    ∀ (d j : Nat), o[i].length - j = d → j ≤ o[i].length → (∀ X ∈ o[i].take j, OKK u v X = true) →
    Ev (fun k => qQ.l1 k x7 ((o[i].take j).map (NK u v)) o (o.length : Int) (i : Int) o[i] (o[i].length : Int) (j : Int) a0 a1 a2 a3 a4) r := by
  have hl := hm.1
  have hrow := hm.2 _ (List.getElem_mem hi)
  intro d
  induction d with
  | zero =>
    intro j e hj hA
    obtain rfl : j = o[i].length := by omega
    rw [List.take_length] at hA ⊢
    have hT : o[i].all (OKK u v) = true := List.all_eq_true.mpr hA
    simp only [hT, if_true] at h
    refine Ev.step (fun k => ?_) h
    rw [qQ.l1, if_neg (by omega), if_pos (by omega), QV (by omega)]
  | succ d ih =>
    intro j e hj hA
    have hlt : j < o[i].length := by omega
    have h1 : (j : Int) < (o[i].length : Int) := by omega
    have h2 : (0 : Int) ≤ (j : Int) := by omega
    have ho := hO _ (List.getElem_mem hi) _ (List.getElem_mem hlt)
    have hx : ((o[i].take j).map (NK u v)).length < 5864062014805 := by rw [List.length_map, List.length_take]; omega
    refine Ev.step (f := fun k => (zz.f k o[i][j].f0 o[i][j].f1 o[i][j].f2 a0 a1 a2 a3 a4).bind (fun p => if p.2.2.2 = true then qQ.l1 k x7 ((o[i].take j).map (NK u v) ++ [(⟨p.1, p.2.1, p.2.2.1⟩ : S40)]) o (o.length : Int) (i : Int) o[i] (o[i].length : Int) ((j + 1 : Nat) : Int) a0 a1 a2 a3 a4 else some ([], 64))) (fun k => ?_) (Ev.bind ho ?_)
    · rw [qQ.l1, if_pos h1, if_pos h2, if_pos h1, Ze hlt]
      simp only [if_pos hx, QV (show j ≤ 9000000000000000000 by omega)]
    · cases c : OKK u v o[i][j] with
      | true =>
        have hA' : ∀ X ∈ o[i].take (j + 1), OKK u v X = true := fun X hr => by
          rw [List.take_add_one, List.getElem?_eq_getElem hlt] at hr
          rcases List.mem_append.mp hr with q | q
          · exact hA X q
          · rw [Option.toList_some, List.mem_singleton] at q; subst q; exact c
        have g := ih (j + 1) (by omega) (by omega) hA'
        rw [List.take_add_one, List.getElem?_eq_getElem hlt, List.map_append] at g
        simp only [if_true]
        exact g
      | false =>
        have hT : o[i].all (OKK u v) = false := by
          rw [← Bool.not_eq_true]; intro z
          have := List.all_eq_true.mp z _ (List.getElem_mem hlt)
          rw [c] at this; cases this
        simp only [hT, Bool.false_eq_true, if_false] at h ⊢
        exact h
theorem apply_l0 (hO : ∀ row ∈ o, ∀ X ∈ row, Ev (fun k => zz.f k X.f0 X.f1 X.f2 a0 a1 a2 a3 a4) ((u X.f0 X.f1).1, (v X.f0 X.f1).1, X.f2, OKK u v X)) (hm : Qb o) : ∀ (d i : Nat), o.length - i = d → i ≤ o.length →
    Ev (fun k => qQ.l0 k ((o.take i).map (fun c => c.map (NK u v))) o (o.length : Int) (i : Int) a0 a1 a2 a3 a4) (if (o.drop i).all (fun c => c.all (OKK u v)) = true then (o.map (fun c => c.map (NK u v)), 0) else ([], 64)) := by
  have hl := hm.1
  intro d
  induction d with
  | zero =>
    intro i e hi
    obtain rfl : i = o.length := by omega
    rw [List.drop_of_length_le (Nat.le_refl _), List.take_length]
    refine Ev.step (f := fun _ => some (o.map (fun c => c.map (NK u v)), 0)) (fun k => ?_) (Ev.now _)
    rw [qQ.l0, if_neg (by omega)]
  | succ d ih =>
    intro i e hi
    have hlt : i < o.length := by omega
    have h1 : (i : Int) < (o.length : Int) := by omega
    have h2 : (0 : Int) ≤ (i : Int) := by omega
    have g := ih (i + 1) (by omega) (by omega)
    rw [List.take_add_one, List.getElem?_eq_getElem hlt, List.map_append] at g
    have ed : (o.drop i).all (fun c => c.all (OKK u v)) = (o[i].all (OKK u v) && (o.drop (i + 1)).all (fun c => c.all (OKK u v))) := by rw [List.drop_eq_getElem_cons hlt, List.all_cons]
    rw [ed]
    have h := apply_l1 hO ((o.take i).map (fun c => c.map (NK u v))) i hlt hm (by rw [List.length_map, List.length_take]; omega) (if (o[i].all (OKK u v) && (o.drop (i + 1)).all (fun c => c.all (OKK u v))) = true then (o.map (fun c => c.map (NK u v)), 0) else ([], 64)) (by
      cases c : o[i].all (OKK u v) with
      | true => simp only [if_true, Bool.true_and]; exact g
      | false => simp only [Bool.false_eq_true, if_false, Bool.false_and]; exact Ev.now _) o[i].length 0 (by omega) (by omega) (fun X hX => by simp at hX)
    refine Ev.step (fun k => ?_) h
    rw [qQ.l0, if_pos h1, if_pos h2, if_pos h1, ZF hlt]
    rfl
end
theorem apply_ev (o : List (List S40)) (u v : Int → Int → Int × Int) (a0 a1 a2 a3 a4 : Int) (hm : Qb o) (hO : CK o = 0 → ∀ row ∈ o, ∀ X ∈ row, Ev (fun k => zz.f k X.f0 X.f1 X.f2 a0 a1 a2 a3 a4) ((u X.f0 X.f1).1, (v X.f0 X.f1).1, X.f2, OKK u v X)) : Ev (fun k => qQ.f k o a0 a1 a2 a3 a4) (Qh u v o) := by
  unfold qQ.f Qh
  refine Ev.bind (rcheck_ev o hm) ?_
  by_cases c : CK o = 0
  · simp only [if_pos c]
    have h := apply_l0 (hO c) hm o.length 0 (by omega) (by omega)
    rw [List.drop_zero, List.take_zero] at h
    exact h
  · simp only [if_neg c]
    exact Ev.now _
theorem okK_I64 {x : S40} (h : okK x) : I64 x.f0 ∧ I64 x.f1 := by
  obtain ⟨_, _, h1, h2⟩ := h
  unfold QG at h1 h2
  unfold I64
  omega
theorem JY (u v : Int → Int → Int × Int) (o : List (List S40)) : (Qh u v o).1.length ≤ 256 ∧ ∀ c ∈ (Qh u v o).1, c.length ≤ 100000 := by
  unfold Qh
  by_cases c : CK o = 0
  · rw [if_pos c]
    have h := CK_ok c
    split
    · refine ⟨by rw [List.length_map]; exact h.1, fun r hr => ?_⟩
      obtain ⟨r', hr', rfl⟩ := List.mem_map.1 hr
      rw [List.length_map]
      have := (h.2.2 r' hr').1
      omega
    · exact ⟨Nat.zero_le _, fun r hr => by cases hr⟩
  · rw [if_neg c]
    exact ⟨Nat.zero_le _, fun r hr => by cases hr⟩
noncomputable def mv1 (p q : Int) (o : List (List S40)) := Qh (fun x _ => sumV x p) (fun _ y => sumV y q) o
noncomputable def mv2 (a b c d : Int) (o : List (List S40)) := Qh (fun x y => dotV a b x y) (fun x y => dotV c d x y) o
def mv3 (p q : Int) (o : List (List S40)) := Qh (fun x _ => ZP x p q) (fun _ y => ZP y p q) o
theorem apply1_ev (o : List (List S40)) (a b c d : Int) (hm : Qb o) : Ev (fun k => qQ.f k o 1 a b c d) (mv1 a b o) :=
  apply_ev o _ _ 1 a b c d hm (fun _ row _ X _ => one_ev1 X.f0 X.f1 X.f2 a b c d)
theorem apply2_ev (o : List (List S40)) (a b c d : Int) (hm : Qb o) : Ev (fun k => qQ.f k o 2 a b c d) (mv2 a b c d o) :=
  apply_ev o _ _ 2 a b c d hm (fun _ row _ X _ => one_ev2 X.f0 X.f1 X.f2 a b c d)
theorem apply3_ev (o : List (List S40)) (a b c d : Int) (hm : Qb o) (ha : I64 a) (hb : I64 b) : Ev (fun k => qQ.f k o 3 a b c d) (mv3 a b o) :=
  apply_ev o _ _ 3 a b c d hm (fun ck row hr X hX => by
    obtain ⟨h1, h2⟩ := okK_I64 (((CK_ok ck).2.2 row hr).2 X hX)
    exact one_ev3 X.f0 X.f1 X.f2 a b c d h1 h2 ha hb)
section
variable (o : List (List S40)) (A : Option Addr) (c : Nat) (w : World) (hr : Kd.C (Kd.slice 40 k40) w A o.length o) (hc : o.length ≤ c) (hm : Qb o)
include hr hc hm
theorem move_is (p q : Int) : Calls Try.prog 23 #[.slice A o.length c, .int .i64 p, .int .i64 q] w fun r w' => ∃ v0 : Value, r = .returned (.tuple #[v0, .int .i64 (mv1 p q o).2]) ∧ Kd.S (Kd.slice 40 k40) 37 w' w.heap.size (fun _ => True) v0 (mv1 p q o).1 ∧ Below w.heap.size w w' :=
  move_calls _ _ o A c p q w hr hc hm (fun _ row _ X _ => ⟨(add_ev _ _).rounds, (add_ev _ _).rounds⟩)
theorem turn_is (m0 m1 m2 m3 : Int) : Calls Try.prog 24 #[.slice A o.length c, .agg #[.int .i64 m0, .int .i64 m1, .int .i64 m2, .int .i64 m3]] w fun r w' => ∃ v0 : Value, r = .returned (.tuple #[v0, .int .i64 (mv2 m0 m1 m2 m3 o).2]) ∧ Kd.S (Kd.slice 40 k40) 37 w' w.heap.size (fun _ => True) v0 (mv2 m0 m1 m2 m3 o).1 ∧ Below w.heap.size w w' :=
  turn_calls _ _ o A c m0 m1 m2 m3 w hr hc hm (fun _ row _ X _ => ⟨(dot_ev _ _ _ _).rounds, (dot_ev _ _ _ _).rounds⟩)
theorem resize_is (p q : Int) (hp : I64 p) (hq : I64 q) : Calls Try.prog 25 #[.slice A o.length c, .int .i64 p, .int .i64 q] w fun r w' => ∃ v0 : Value, r = .returned (.tuple #[v0, .int .i64 (mv3 p q o).2]) ∧ Kd.S (Kd.slice 40 k40) 37 w' w.heap.size (fun _ => True) v0 (mv3 p q o).1 ∧ Below w.heap.size w w' :=
  resize_calls _ _ o A c p q w hr hc hm (fun ck row hrow X hX => by
    obtain ⟨h1, h2⟩ := okK_I64 (((CK_ok ck).2.2 row hrow).2 X hX)
    exact ⟨(Jy h1 hp hq).rounds, (Jy h2 hp hq).rounds⟩)
end
end Go.Proofs.Ytmlkpadlafjfeaa.P
set_option linter.unusedVariables false
set_option linter.unusedSimpArgs false
namespace Go.Proofs.Ytmlkpadlafjfeaa.P
open Go Go.RowKit Go.Proofs.YtmlkpadlafjfeaaW.PrintWords Go.Proofs.YtmlkpadlafjfeaaW.PrintLast Go.Proofs.YtmlkpadlafjfeaaW.PrintMore
theorem sameO_l1 (o : List (List S40)) (i : Nat) (hi : i < o.length) (hr : o[i].length ≤ 9000000000000000000) (r : Bool) (h : Ev (fun k => qG.l0 k o o (o.length : Int) (wrap64 ((i : Int) + 1))) r) : ∀ (d j : Nat), o[i].length - j = d → j ≤ o[i].length →
    Ev (fun k => qG.l1 k o o (i : Int) (o.length : Int) (i : Int) (o[i].length : Int) (j : Int)) r := by
  intro d
  induction d with
  | zero =>
    intro j e hj
    refine Ev.step (fun k => ?_) h
    rw [qG.l1, if_neg (by omega)]
  | succ d ih =>
    intro j e hj
    have hlt : j < o[i].length := by omega
    have h1 : (j : Int) < (o[i].length : Int) := by omega
    have h2 : (0 : Int) ≤ (j : Int) := by omega
    have h3 : (i : Int) < (o.length : Int) := by omega
    have h4 : (0 : Int) ≤ (i : Int) := by omega
    refine Ev.step (fun k => ?_) (ih (j + 1) (by omega) (by omega))
    rw [qG.l1, ZF hi, if_pos h1, if_pos h4, if_pos h3, if_pos h2, if_pos h1, if_pos h3, if_pos h1, if_neg (by simp), QV (by omega)]
theorem sameO_l0 (o : List (List S40)) (hl : o.length ≤ 9000000000000000000) (hr : ∀ c ∈ o, c.length ≤ 9000000000000000000) : ∀ (d i : Nat), o.length - i = d → i ≤ o.length → Ev (fun k => qG.l0 k o o (o.length : Int) (i : Int)) true := by
  intro d
  induction d with
  | zero =>
    intro i e hi
    refine Ev.step (f := fun _ => some true) (fun k => ?_) (Ev.now _)
    rw [qG.l0, if_neg (by omega)]
  | succ d ih =>
    intro i e hi
    have hlt : i < o.length := by omega
    have h1 : (i : Int) < (o.length : Int) := by omega
    have h2 : (0 : Int) ≤ (i : Int) := by omega
    have h := ih (i + 1) (by omega) (by omega)
    rw [← QV (by omega)] at h
    have h := sameO_l1 o i hlt (hr _ (List.getElem_mem hlt)) true h o[i].length 0 (by omega) (by omega)
    refine Ev.step (fun k => ?_) h
    rw [qG.l0, if_pos h1, if_pos h2, if_pos h1, if_pos h1, ZF hlt, if_pos rfl]; rfl
theorem sameO_ev (o : List (List S40)) (hm : Qb o) : Ev (fun k => qG.f k o o) true := by
  unfold qG.f
  simp only [if_true]
  exact sameO_l0 o (by have := hm.1; omega) (fun c hc => by have := hm.2 c hc; omega) o.length 0 (by omega) (by omega)
theorem palK : ji.f 60 = some true := by decide +kernel
theorem Qc {w w' : World} (h : qE w w') : Below w.heap.size w w' := by obtain ⟨q, rfl⟩ := h.out; exact qC (Below.refl _ _) q
def jG {α : Type} (n i : Nat) (r : List (List α)) : Prop := r.length = n ∧ ∀ m, i ≤ m → (r.getD m []).length ≤ 100000
theorem JP {α : Type} (r : List (List α)) (i m : Nat) (x : List α) (hi : i < r.length) : (r.set i x).getD m [] = if m = i then x else r.getD m [] := by
  rw [List.getD_eq_getElem?_getD, List.getElem?_set, List.getD_eq_getElem?_getD]
  by_cases h : m = i
  · subst h; rw [if_pos rfl, if_pos hi, if_pos rfl]; rfl
  · rw [if_neg (fun z => h z.symm), if_neg h]
theorem qau {α : Type} {n i j L : Nat} {y : α} {rows r : List (List α)} (hi : i < n) (h : jG n i rows ∧ (rows.getD i []).length = L) (e : r = rows.set i ((rows.getD i []).set j y)) : jG n i r ∧ (r.getD i []).length = L := by
  subst e
  have hi : i < rows.length := by have := h.1.1; omega
  refine ⟨⟨by rw [List.length_set]; exact h.1.1, fun m hm => ?_⟩, ?_⟩
  · rw [JP _ _ _ _ hi]
    split
    · rw [List.length_set]; exact h.1.2 i (Nat.le_refl _)
    · exact h.1.2 m hm
  · rw [JP _ _ _ _ hi, if_pos rfl, List.length_set]; exact h.2
theorem qaf {α : Type} {n i j : Nat} {y : α} {rows r : List (List α)} (hi : i < n) (h : jG n (i + 1) rows ∧ (rows.getD i []).length ≤ 100000 + j) (e : r = rows.set i (rows.getD i [] ++ [y])) : jG n (i + 1) r ∧ (r.getD i []).length ≤ 100000 + (j + 1) := by
  subst e
  have hi : i < rows.length := by have := h.1.1; omega
  refine ⟨⟨by rw [List.length_set]; exact h.1.1, fun m hm => ?_⟩, ?_⟩
  · rw [JP _ _ _ _ hi, if_neg (by omega)]; exact h.1.2 m hm
  · rw [JP _ _ _ _ hi, if_pos rfl, List.length_append, List.length_singleton]; have := h.2; omega
def Known (o : List (List S40)) (kd : Int) (fn : Nat) (args : List Value) (m0 m1 m2 m3 : Int) (F : List (List S40)) (e : Int) : Prop :=
  (∃ k, qQ.f k o kd m0 m1 m2 m3 = some (F, e)) ∧ (∃ k, qG.f k F F = some true) ∧ (F.length ≤ 256 ∧ ∀ c ∈ F, c.length ≤ 100000) ∧
  ∀ (A : Option Addr) (c : Nat) (w : World), Kd.C (Kd.slice 40 k40) w A o.length o → o.length ≤ c → Calls Try.prog fn (Value.slice A o.length c :: args).toArray w fun r w' => ∃ v0 : Value, r = .returned (.tuple #[v0, .int .i64 e]) ∧ Kd.S (Kd.slice 40 k40) 37 w' w.heap.size (fun _ => True) v0 F ∧ Below w.heap.size w w'
theorem JN (u v : Int → Int → Int × Int) (o : List (List S40)) : ∃ k, qG.f k (Qh u v o).1 (Qh u v o).1 = some true := by
  have h := JY u v o
  exact (sameO_ev _ ⟨by omega, fun c hc => by have := h.2 c hc; omega⟩).rounds
theorem known1 (o : List (List S40)) (hm : Qb o) (m0 m1 m2 m3 : Int) : Known o 1 23 [.int .i64 m0, .int .i64 m1] m0 m1 m2 m3 (mv1 m0 m1 o).1 (mv1 m0 m1 o).2 :=
  ⟨(apply1_ev o m0 m1 m2 m3 hm).rounds, JN _ _ _, JY _ _ _, fun A c w hr hc => move_is o A c w hr hc hm m0 m1⟩
theorem known2 (o : List (List S40)) (hm : Qb o) (m0 m1 m2 m3 : Int) : Known o 2 24 [.agg #[.int .i64 m0, .int .i64 m1, .int .i64 m2, .int .i64 m3]] m0 m1 m2 m3 (mv2 m0 m1 m2 m3 o).1 (mv2 m0 m1 m2 m3 o).2 :=
  ⟨(apply2_ev o m0 m1 m2 m3 hm).rounds, JN _ _ _, JY _ _ _, fun A c w hr hc => turn_is o A c w hr hc hm m0 m1 m2 m3⟩
theorem known3 (o : List (List S40)) (hm : Qb o) (m0 m1 m2 m3 : Int) (h0 : I64 m0) (h1 : I64 m1) : Known o 3 25 [.int .i64 m0, .int .i64 m1] m0 m1 m2 m3 (mv3 m0 m1 o).1 (mv3 m0 m1 o).2 :=
  ⟨(apply3_ev o m0 m1 m2 m3 hm h0 h1).rounds, JN _ _ _, JY _ _ _, fun A c w hr hc => resize_is o A c w hr hc hm m0 m1 h0 h1⟩
set_option maxRecDepth 100000 in
set_option maxHeartbeats 16000000 in
theorem maps_walk (o : List (List S40)) (A : Option Addr) (c : Nat) (m0 m1 m2 m3 : Int) (w : World) (hr : Kd.C (Kd.slice 40 k40) w A o.length o) (hc : o.length ≤ c) (hm : Qb o) (h0 : I64 m0) (h1 : I64 m1) :
    Calls Try.prog 9 #[.slice A o.length c, .agg #[.int .i64 m0, .int .i64 m1, .int .i64 m2, .int .i64 m3]] w fun e w' => e = .returned (.bool true) ∧ Below w.heap.size w w' := by
  have HR := qa.mk hr
  have HC := qa.mk hc
  have HM := qa.mk hm
  obtain ⟨kc, cp⟩ := (copy_ev o hm).rounds
  obtain ⟨ko, op⟩ := (sameO_ev o hm).rounds
  have CP := qa.mk cp
  have OP := qa.mk op
  obtain ⟨F1, e1, N1⟩ : ∃ F e, qa (Known o 1 23 [.int .i64 m0, .int .i64 m1] m0 m1 m2 m3 F e) := ⟨_, _, ⟨known1 o hm m0 m1 m2 m3⟩⟩
  obtain ⟨F2, e2, N2⟩ : ∃ F e, qa (Known o 2 24 [.agg #[.int .i64 m0, .int .i64 m1, .int .i64 m2, .int .i64 m3]] m0 m1 m2 m3 F e) := ⟨_, _, ⟨known2 o hm m0 m1 m2 m3⟩⟩
  obtain ⟨F3, e3, N3⟩ : ∃ F e, qa (Known o 3 25 [.int .i64 m0, .int .i64 m1] m0 m1 m2 m3 F e) := ⟨_, _, ⟨known3 o hm m0 m1 m2 m3 h0 h1⟩⟩
  clear cp op hr hc hm h0 h1
  go_enter Try.func9, Try.ntmps9
  go_upto_region 1 with fail
  obtain ⟨W, g, hW, eg, bW, lW⟩ : ∃ W g, W = w.alloc (Obj.cells #[.int .i64 m0, .int .i64 m1, .int .i64 m2, .int .i64 m3] 51) ∧ w.heap.size = g ∧ W.heap[g]? = some (Obj.cells #[.int .i64 m0, .int .i64 m1, .int .i64 m2, .int .i64 m3] 51 (0, 0)) ∧ Below w.heap.size w W :=
    ⟨_, _, rfl, rfl, zu _ _, qw (Below.refl _ _) _⟩
  rw [← hW, eg]
  have LW := qa.mk lW
  have CW := qa.mk (Kd.jb HR.out lW)
  have BW := qa.mk bW
  clear hW eg lW bW
  go_upto_region 4 with (go_at_call 10; refine (ji.calls 60 true W palK).mono ?_; rintro e' w1 ⟨rfl, hb1⟩; have HB1 := qa.mk hb1; clear hb1)
  go_loopw [5] (fun v5 wr => ∃ (z : Int), v5 = .int .i64 z ∧ (z = 1 ∨ z = 2 ∨ z = 3 ∨ z = 4) ∧ qa (Below W.heap.size W wr)) (fun v5 _ => 4 - (intOf v5).toNat)
  case atStart => exact ⟨1, rfl, Or.inl rfl, HB1⟩
  case round =>
    obtain ⟨z, rfl, hz, HB⟩ := hrel
    have CR := qa.mk (Kd.jb CW.out HB.out)
    have KB := qa.mk ((HB.out.block _ (qy BW.out)).trans BW.out)
    rcases hz with rfl | rfl | rfl | rfl
    · clear N2 N3
      obtain ⟨⟨ka, pa⟩, ⟨ks, ps⟩, fl, mv⟩ := N1.out
      have PA := qa.mk pa
      have PS := qa.mk ps
      have FLL := qa.mk fl
      have MV := qa.mk mv
      have be : (e1 != e1) = false := by simp
      clear pa ps fl mv N1
      generalize F1 = F at *
      generalize e1 = e at *
      obtain ⟨wz, ez⟩ : ∃ wz, wz = wr := ⟨_, rfl⟩
      rw [← ez] at HB CR KB ⊢
      clear ez wr
      go_upto_region 8 with (first | (go_at_call 11; refine (zi.calls kc A c o o wz CR.out HC.out CP.out).mono ?_; rintro e' w2 ⟨v2, rfl, s2, hb2⟩; obtain ⟨A2, c2, rfl⟩ := Kd.zX (Kd.S_R s2); have S2 := qa.mk s2; have B2 := qa.mk (qh HB.out hb2); have C2 := qa.mk (Kd.jb CR.out hb2); have K2 := qa.mk ((hb2.block _ (qy KB.out)).trans KB.out); have x0 : w2.cell? ⟨g, 0, none⟩ = some (.int .i64 m0) := (qb K2.out 0).trans rfl; have x1 : w2.cell? ⟨g, 1, none⟩ = some (.int .i64 m1) := (qb K2.out 1).trans rfl; have x2 : w2.cell? ⟨g, 2, none⟩ = some (.int .i64 m2) := (qb K2.out 2).trans rfl; have x3 : w2.cell? ⟨g, 3, none⟩ = some (.int .i64 m3) := (qb K2.out 3).trans rfl; clear s2 hb2) | (go_at_call 22; refine (qQ.calls ka A c o 1 m0 m1 m2 m3 F e w2 C2.out HC.out PA.out).mono ?_; rintro e' w3 ⟨v3, rfl, s3, hb3⟩; obtain ⟨A3, c3, rfl⟩ := Kd.zX (Kd.S_R s3); have S3 := qa.mk s3; have B3 := qa.mk (qh B2.out hb3); have W3 := qa.mk hb3; have O3 := qa.mk (Kd.jg S2.out hb3); have K3 := qa.mk ((hb3.block _ (qy K2.out)).trans K2.out); clear x0 x1 x2 x3; have y0 : w3.cell? ⟨g, 0, none⟩ = some (.int .i64 m0) := (qb K3.out 0).trans rfl; have y1 : w3.cell? ⟨g, 1, none⟩ = some (.int .i64 m1) := (qb K3.out 1).trans rfl; have y2 : w3.cell? ⟨g, 2, none⟩ = some (.int .i64 m2) := (qb K3.out 2).trans rfl; have y3 : w3.cell? ⟨g, 3, none⟩ = some (.int .i64 m3) := (qb K3.out 3).trans rfl; clear s3 hb3))
      go_upto_region 17 with (go_at_call 23; refine (MV.out A2 c2 w3 (Kd.jk O3.out).2.2 (Kd.jk O3.out).2.1).mono ?_; rintro e' w4 ⟨v4, rfl, s4, hb4⟩; obtain ⟨A4, c4, rfl⟩ := Kd.zX (Kd.S_R s4); have S4 := qa.mk s4; have W4 := qa.mk hb4; have B4 := qa.mk (qh B3.out hb4); clear s4 hb4 y0 y1 y2 y3)
      go_upto_region 19 with (go_at_call 15; refine (qG.calls ks A4 c4 F A3 c3 F true w4 (Kd.jk S4.out).2.2 (Kd.jk S4.out).2.1 (Kd.jk (Kd.jg S3.out W4.out)).2.2 (Kd.jk (Kd.jg S3.out W4.out)).2.1 PS.out).mono ?_; rintro e' w5 ⟨rfl, hd5⟩; have W5 := qa.mk (Qc hd5); have B5 := qa.mk (qh B4.out (Qc hd5)); clear hd5)
      obtain ⟨sA, hA⟩ : ∃ s, s = w3.heap.size := ⟨_, rfl⟩
      obtain ⟨sB, hB⟩ : ∃ s, s = w4.heap.size := ⟨_, rfl⟩
      obtain ⟨sC, hC⟩ : ∃ s, s = w5.heap.size := ⟨_, rfl⟩
      have SZ := qa.mk (And.intro hA (And.intro hB hC))
      have q1 : sA ≤ sC := by
        have a := qx W4.out; have b := qx W5.out
        omega
      have A7 := qa.mk (Kd.jg (Kd.jr (Kd.Qw S4.out) (ok' := fun k => sA ≤ k ∧ k < sB) (fun k hk => ⟨by rw [hA]; exact hk.2.1, by rw [hB]; exact hk.2.2.1⟩)) W5.out)
      rw [← hA] at A7
      have I7 := qa.mk (zO.start (P := jG F.length 0) A7.out ⟨rfl, fun m _ => by
        rw [List.getD_eq_getElem?_getD]
        by_cases h : m < F.length
        · rw [List.getElem?_eq_getElem h]; exact FLL.out.2 _ (List.getElem_mem h)
        · rw [List.getElem?_eq_none (by omega)]; simp⟩)
      rw [← hC] at I7
      have fn : F.length ≤ 256 := FLL.out.1
      obtain ⟨n, hn⟩ : ∃ n, n = F.length := ⟨_, rfl⟩
      rw [← hn] at I7 fn
      have HN := qa.mk hn
      rw [← hn]
      clear hA hB hC A7 hn
      go_wp2
      go_loopw [79] (fun v79 wv => ∃ (i : Nat), v79 = .int .i64 i ∧ i ≤ n ∧ qa (zO k40 40 37 w5 sA sB sC (.slice A4 n c4) n (jG n i) wv) ∧ qa (Below W.heap.size W wv)) (fun v79 _ => n - (intOf v79).toNat)
      case atStart => exact ⟨0, rfl, Nat.zero_le _, I7, B5⟩
      case round =>
        obtain ⟨i, rfl, hi, HI, HBi⟩ := hrel
        by_cases hlt : i < n
        · have ilt := eq_true (show (i : Int) < (n : Int) by omega)
          have ilt2 := eq_true hlt
          have ip := eq_true (show (0 : Int) ≤ (i : Int) by omega)
          obtain ⟨g', rfl⟩ : ∃ g, A4 = some ⟨g, 0, none⟩ := by
            obtain ⟨rows, h1, h2, _⟩ := HI.out
            obtain ⟨g, cap, ev, _⟩ := Kd.Jr h2 (by omega)
            injection ev with ev1
            exact ⟨g, ev1⟩
          obtain ⟨Ai, ci, rows, hP, hrl, cell, hci, HJ⟩ := zO.get HI.out hlt
          obtain ⟨L, hL⟩ : ∃ L, L = (rows.getD i []).length := ⟨_, rfl⟩
          rw [← hL] at cell hci
          have J0 := qa.mk (zO.weak (Q := fun r => jG n i r ∧ (r.getD i []).length = L) HJ (fun r h => ⟨h.1, by rw [h.2, hL]⟩))
          have Lb : L ≤ 100000 := by rw [hL]; exact hP.2 i (Nat.le_refl _)
          clear HJ hL hP hrl
          go_wp2
          go_loopw [87] (fun v87 wq => ∃ (j : Nat), v87 = .int .i64 j ∧ j ≤ L ∧ qa (zO k40 40 37 w5 sA sB sC (.slice (some ⟨g', 0, none⟩) n c4) n (fun r => jG n i r ∧ (r.getD i []).length = L) wq) ∧ qa (Below W.heap.size W wq)) (fun v87 _ => L - (intOf v87).toNat)
          case atStart => exact ⟨0, rfl, Nat.zero_le _, J0, HBi⟩
          case round =>
            obtain ⟨j, rfl, hj, HK, HBq⟩ := hrel
            by_cases jlt : j < L
            · have jl := eq_true (show (j : Int) < (L : Int) by omega)
              have jl2 := eq_true jlt
              have jp := eq_true (show (0 : Int) ≤ (j : Int) by omega)
              obtain ⟨gi, L', cj, rows', c0, hP', eL, hjL, cq, hc0, hcc, hfr, hgb, HN2⟩ := zO.put HK.out hlt (j := j) (fun r h => by rw [h.2]; exact jlt) (⟨1, 2, 9⟩ : S40) [.int .i64 1, .int .i64 2, .int .i64 9] rfl (fun W b => Qf W b _ (⟨1, 2, 9⟩ : S40))
              obtain rfl : L' = L := by rw [eL]; exact hP'.2
              obtain ⟨u0, u1, u2, rfl⟩ : ∃ a b d, c0 = [a, b, d] := by
                match c0, hc0 with
                | [a, b, d], _ => exact ⟨a, b, d, rfl⟩
              have x0 : wr.cell? ⟨gi, j * 3, none⟩ = some u0 := hcc 0 _ rfl
              have x1 : wr.cell? ⟨gi, j * 3 + 1, none⟩ = some u1 := hcc 1 _ rfl
              have x2 : wr.cell? ⟨gi, j * 3 + 2, none⟩ = some u2 := hcc 2 _ rfl
              have f0 : wr.frozen? ⟨gi, j * 3, none⟩ = false := hfr 0
              have f1 : wr.frozen? ⟨gi, j * 3 + 1, none⟩ = false := hfr 1
              have f2 : wr.frozen? ⟨gi, j * 3 + 2, none⟩ = false := hfr 2
              have HN3 := qa.mk (zO.weak (Q := fun r => jG n i r ∧ (r.getD i []).length = L') HN2 (fun r h => by
                obtain ⟨rw_, hp_, e_⟩ := h
                exact qau hlt hp_ e_))
              have GE : W.heap.size ≤ gi := Nat.le_trans (qx B3.out) (by rw [← SZ.out.1]; exact hgb)
              clear HN2 hcc hfr hc0 eL hP'
              go_wp2
              refine ⟨⟨j + 1, by push_cast; rfl, by omega, HN3, ⟨qf (qf (qf HBq.out GE) GE) GE⟩⟩, ?_⟩
              show (_ : Nat) < _
              simp only [intOf]; omega
            · have jl := eq_false (show ¬ (j : Int) < (L : Int) by omega)
              have jl2 := eq_false jlt
              obtain rfl : j = L := by omega
              have J2 := qa.mk (zO.weak (Q := fun r => jG n (i + 1) r ∧ (r.getD i []).length ≤ 100000 + 0) HK.out (fun r h => ⟨⟨h.1.1, fun m hm => h.1.2 m (by omega)⟩, h.1.2 i (Nat.le_refl _)⟩))
              go_wp2
              go_loopw [13] (fun v13 wq => ∃ (m : Nat), v13 = .int .i64 m ∧ m ≤ 9 ∧ qa (zO k40 40 37 w5 sA sB sC (.slice (some ⟨g', 0, none⟩) n c4) n (fun r => jG n (i + 1) r ∧ (r.getD i []).length ≤ 100000 + m) wq) ∧ qa (Below W.heap.size W wq)) (fun v13 _ => 9 - (intOf v13).toNat)
              case atStart => exact ⟨0, rfl, by omega, J2, HBq⟩
              case round =>
                obtain ⟨m, rfl, hm9, HM9, HBm⟩ := hrel
                by_cases mlt : m < 9
                · have ml := eq_true (show (m : Int) < 9 by omega)
                  have ml2 := eq_true mlt
                  obtain ⟨v', rowsM, oki, hPM, cv, hRM, hokg, hgl, hbl, hNM⟩ := zO.app HM9.out hlt q1
                  have HRM := qa.mk hRM
                  have lr : (rowsM.getD i []).length ≤ 100009 := by have := hPM.2; omega
                  clear hRM
                  obtain ⟨A', c', rfl⟩ := Kd.zX HRM.out
                  have hsa : W.heap.size ≤ sA := by rw [SZ.out.1]; exact qx B3.out
                  have hgw : W.heap.size ≤ g' := by
                    obtain ⟨rowsG, _, hsG, _⟩ := HM9.out
                    exact Nat.le_trans hsa (Kd.Jm hsG g' (by simp [Value.ownBlock]))
                  go_wp2_with ((with_reducible refine Qq (b := .append) (xs := #[.tmp 107, .tmp 109]) rfl ?_); at_builtin; refine Kd.Jl k40 (w0 := wr) sA rfl (.tmp 107) (.tmp 109) 37 40 (.agg #[(.int .i64 0), (.int .i64 0), (.int .i64 0)]) 24 rfl Try.underlying37 QW rfl (by decide) (by omega) (.slice A' (rowsM.getD i []).length c') (rowsM.getD i []) (⟨0, 0, 8⟩ : S40) [.int .i64 0, .int .i64 0, .int .i64 8] (fun k => oki k ∨ wr.heap.size ≤ k) (fun _ => False) rfl (by first | (go_simp; done) | (go_simp; rfl)) ?aP (fun _ hk => hk.elim) ?aF ?aO ?aB ?aS ?aL ?_; (case aP => exact Qf _ _ _ (⟨0, 0, 8⟩ : S40)); (case aF => exact fun _ h => Or.inr h); (case aO => exact Kd.zV HRM.out (fun _ hk => Or.inl hk)); (case aB => exact Below.refl _ _); (case aS => exact hbl); (case aL => omega); intro v8 w8 r8 b8 hg hat; obtain ⟨A8, c8, rfl⟩ := Kd.zX r8; have R8 := qa.mk r8; have B8 := qa.mk b8; have G8 := qa.mk hg; obtain ⟨z1, z2, z3⟩ := hNM w8 _ _ r8 hg; have Z3 := qa.mk z3; clear r8 b8 hg hat z3)
                  have ez : (rowsM[i]?.getD []).length + 1 = (rowsM.getD i [] ++ [(⟨0, 0, 8⟩ : S40)]).length := by simp
                  rw [ez]
                  refine ⟨⟨m + 1, by push_cast; rfl, by omega, ⟨zO.weak Z3.out (fun r h => qaf hlt hPM h)⟩, ⟨qf (QT HBm.out hsa B8.out) hgw⟩⟩, ?_⟩
                  show (_ : Nat) < _
                  simp only [intOf]; omega
                · have ml := eq_false (show ¬ (m : Int) < 9 by omega)
                  have ml2 := eq_false mlt
                  have HE := qa.mk (zO.weak (Q := jG n (i + 1)) HM9.out (fun r h => h.1))
                  go_wp2
                  refine ⟨⟨i + 1, by push_cast; rfl, by omega, HE, HBm⟩, ?_⟩
                  show (_ : Nat) < _
                  simp only [intOf]; omega
        · have iln := eq_false (show ¬ (i : Int) < (n : Int) by omega)
          have iln2 := eq_false hlt
          obtain ⟨rowsE, hrE, hsE, hpE, hfE, hzE⟩ := HI.out
          have OE := qa.mk (Kd.jb CW.out HBi.out)
          have bE : Kd.S (Kd.slice 40 k40) 37 wr wz.heap.size (fun _ => True) (.slice A2 o.length c2) o := by
            refine Kd.jr (Kd.S_step (Kd.jg (Kd.jg (Kd.jg (Kd.jr (Kd.Qw S2.out) (ok' := fun k => k < w2.heap.size) (fun k hk => hk.2.2.1)) W3.out) W4.out) W5.out) (fun k hk hlt => ?_)) (fun _ _ => trivial)
            exact hfE k (by rw [SZ.out.2.2]; exact hlt) (fun z => by have := z.1; rw [SZ.out.1] at this; have := qx W3.out; omega)
          have BE := qa.mk bE
          clear bE hrE hsE hpE hfE hzE
          go_wp2_with (go_at_call 15; refine (qG.calls ko A2 c2 o A c o true wr (Kd.jk BE.out).2.2 (Kd.jk BE.out).2.1 OE.out HC.out OP.out).mono ?_; rintro e' w9 ⟨rfl, hd9⟩; have B9 := qa.mk (qh HBi.out (Qc hd9)); clear hd9)
          refine ⟨⟨2, rfl, by decide, B9⟩, ?_⟩
          show (_ : Nat) < _
          decide
    · clear N1 N3
      obtain ⟨⟨ka, pa⟩, ⟨ks, ps⟩, fl, mv⟩ := N2.out
      have PA := qa.mk pa
      have PS := qa.mk ps
      have FLL := qa.mk fl
      have MV := qa.mk mv
      have be : (e2 != e2) = false := by simp
      clear pa ps fl mv N2
      generalize F2 = F at *
      generalize e2 = e at *
      obtain ⟨wz, ez⟩ : ∃ wz, wz = wr := ⟨_, rfl⟩
      rw [← ez] at HB CR KB ⊢
      clear ez wr
      go_upto_region 8 with (first | (go_at_call 11; refine (zi.calls kc A c o o wz CR.out HC.out CP.out).mono ?_; rintro e' w2 ⟨v2, rfl, s2, hb2⟩; obtain ⟨A2, c2, rfl⟩ := Kd.zX (Kd.S_R s2); have S2 := qa.mk s2; have B2 := qa.mk (qh HB.out hb2); have C2 := qa.mk (Kd.jb CR.out hb2); have K2 := qa.mk ((hb2.block _ (qy KB.out)).trans KB.out); have x0 : w2.cell? ⟨g, 0, none⟩ = some (.int .i64 m0) := (qb K2.out 0).trans rfl; have x1 : w2.cell? ⟨g, 1, none⟩ = some (.int .i64 m1) := (qb K2.out 1).trans rfl; have x2 : w2.cell? ⟨g, 2, none⟩ = some (.int .i64 m2) := (qb K2.out 2).trans rfl; have x3 : w2.cell? ⟨g, 3, none⟩ = some (.int .i64 m3) := (qb K2.out 3).trans rfl; clear s2 hb2) | (go_at_call 22; refine (qQ.calls ka A c o 2 m0 m1 m2 m3 F e w2 C2.out HC.out PA.out).mono ?_; rintro e' w3 ⟨v3, rfl, s3, hb3⟩; obtain ⟨A3, c3, rfl⟩ := Kd.zX (Kd.S_R s3); have S3 := qa.mk s3; have B3 := qa.mk (qh B2.out hb3); have W3 := qa.mk hb3; have O3 := qa.mk (Kd.jg S2.out hb3); have K3 := qa.mk ((hb3.block _ (qy K2.out)).trans K2.out); clear x0 x1 x2 x3; have y0 : w3.cell? ⟨g, 0, none⟩ = some (.int .i64 m0) := (qb K3.out 0).trans rfl; have y1 : w3.cell? ⟨g, 1, none⟩ = some (.int .i64 m1) := (qb K3.out 1).trans rfl; have y2 : w3.cell? ⟨g, 2, none⟩ = some (.int .i64 m2) := (qb K3.out 2).trans rfl; have y3 : w3.cell? ⟨g, 3, none⟩ = some (.int .i64 m3) := (qb K3.out 3).trans rfl; clear s3 hb3))
      go_upto_region 17 with (go_at_call 24; refine (MV.out A2 c2 w3 (Kd.jk O3.out).2.2 (Kd.jk O3.out).2.1).mono ?_; rintro e' w4 ⟨v4, rfl, s4, hb4⟩; obtain ⟨A4, c4, rfl⟩ := Kd.zX (Kd.S_R s4); have S4 := qa.mk s4; have W4 := qa.mk hb4; have B4 := qa.mk (qh B3.out hb4); clear s4 hb4 y0 y1 y2 y3)
      go_upto_region 19 with (go_at_call 15; refine (qG.calls ks A4 c4 F A3 c3 F true w4 (Kd.jk S4.out).2.2 (Kd.jk S4.out).2.1 (Kd.jk (Kd.jg S3.out W4.out)).2.2 (Kd.jk (Kd.jg S3.out W4.out)).2.1 PS.out).mono ?_; rintro e' w5 ⟨rfl, hd5⟩; have W5 := qa.mk (Qc hd5); have B5 := qa.mk (qh B4.out (Qc hd5)); clear hd5)
      obtain ⟨sA, hA⟩ : ∃ s, s = w3.heap.size := ⟨_, rfl⟩
      obtain ⟨sB, hB⟩ : ∃ s, s = w4.heap.size := ⟨_, rfl⟩
      obtain ⟨sC, hC⟩ : ∃ s, s = w5.heap.size := ⟨_, rfl⟩
      have SZ := qa.mk (And.intro hA (And.intro hB hC))
      have q1 : sA ≤ sC := by
        have a := qx W4.out; have b := qx W5.out
        omega
      have A7 := qa.mk (Kd.jg (Kd.jr (Kd.Qw S4.out) (ok' := fun k => sA ≤ k ∧ k < sB) (fun k hk => ⟨by rw [hA]; exact hk.2.1, by rw [hB]; exact hk.2.2.1⟩)) W5.out)
      rw [← hA] at A7
      have I7 := qa.mk (zO.start (P := jG F.length 0) A7.out ⟨rfl, fun m _ => by
        rw [List.getD_eq_getElem?_getD]
        by_cases h : m < F.length
        · rw [List.getElem?_eq_getElem h]; exact FLL.out.2 _ (List.getElem_mem h)
        · rw [List.getElem?_eq_none (by omega)]; simp⟩)
      rw [← hC] at I7
      have fn : F.length ≤ 256 := FLL.out.1
      obtain ⟨n, hn⟩ : ∃ n, n = F.length := ⟨_, rfl⟩
      rw [← hn] at I7 fn
      have HN := qa.mk hn
      rw [← hn]
      clear hA hB hC A7 hn
      go_wp2
      go_loopw [79] (fun v79 wv => ∃ (i : Nat), v79 = .int .i64 i ∧ i ≤ n ∧ qa (zO k40 40 37 w5 sA sB sC (.slice A4 n c4) n (jG n i) wv) ∧ qa (Below W.heap.size W wv)) (fun v79 _ => n - (intOf v79).toNat)
      case atStart => exact ⟨0, rfl, Nat.zero_le _, I7, B5⟩
      case round =>
        obtain ⟨i, rfl, hi, HI, HBi⟩ := hrel
        by_cases hlt : i < n
        · have ilt := eq_true (show (i : Int) < (n : Int) by omega)
          have ilt2 := eq_true hlt
          have ip := eq_true (show (0 : Int) ≤ (i : Int) by omega)
          obtain ⟨g', rfl⟩ : ∃ g, A4 = some ⟨g, 0, none⟩ := by
            obtain ⟨rows, h1, h2, _⟩ := HI.out
            obtain ⟨g, cap, ev, _⟩ := Kd.Jr h2 (by omega)
            injection ev with ev1
            exact ⟨g, ev1⟩
          obtain ⟨Ai, ci, rows, hP, hrl, cell, hci, HJ⟩ := zO.get HI.out hlt
          obtain ⟨L, hL⟩ : ∃ L, L = (rows.getD i []).length := ⟨_, rfl⟩
          rw [← hL] at cell hci
          have J0 := qa.mk (zO.weak (Q := fun r => jG n i r ∧ (r.getD i []).length = L) HJ (fun r h => ⟨h.1, by rw [h.2, hL]⟩))
          have Lb : L ≤ 100000 := by rw [hL]; exact hP.2 i (Nat.le_refl _)
          clear HJ hL hP hrl
          go_wp2
          go_loopw [87] (fun v87 wq => ∃ (j : Nat), v87 = .int .i64 j ∧ j ≤ L ∧ qa (zO k40 40 37 w5 sA sB sC (.slice (some ⟨g', 0, none⟩) n c4) n (fun r => jG n i r ∧ (r.getD i []).length = L) wq) ∧ qa (Below W.heap.size W wq)) (fun v87 _ => L - (intOf v87).toNat)
          case atStart => exact ⟨0, rfl, Nat.zero_le _, J0, HBi⟩
          case round =>
            obtain ⟨j, rfl, hj, HK, HBq⟩ := hrel
            by_cases jlt : j < L
            · have jl := eq_true (show (j : Int) < (L : Int) by omega)
              have jl2 := eq_true jlt
              have jp := eq_true (show (0 : Int) ≤ (j : Int) by omega)
              obtain ⟨gi, L', cj, rows', c0, hP', eL, hjL, cq, hc0, hcc, hfr, hgb, HN2⟩ := zO.put HK.out hlt (j := j) (fun r h => by rw [h.2]; exact jlt) (⟨1, 2, 9⟩ : S40) [.int .i64 1, .int .i64 2, .int .i64 9] rfl (fun W b => Qf W b _ (⟨1, 2, 9⟩ : S40))
              obtain rfl : L' = L := by rw [eL]; exact hP'.2
              obtain ⟨u0, u1, u2, rfl⟩ : ∃ a b d, c0 = [a, b, d] := by
                match c0, hc0 with
                | [a, b, d], _ => exact ⟨a, b, d, rfl⟩
              have x0 : wr.cell? ⟨gi, j * 3, none⟩ = some u0 := hcc 0 _ rfl
              have x1 : wr.cell? ⟨gi, j * 3 + 1, none⟩ = some u1 := hcc 1 _ rfl
              have x2 : wr.cell? ⟨gi, j * 3 + 2, none⟩ = some u2 := hcc 2 _ rfl
              have f0 : wr.frozen? ⟨gi, j * 3, none⟩ = false := hfr 0
              have f1 : wr.frozen? ⟨gi, j * 3 + 1, none⟩ = false := hfr 1
              have f2 : wr.frozen? ⟨gi, j * 3 + 2, none⟩ = false := hfr 2
              have HN3 := qa.mk (zO.weak (Q := fun r => jG n i r ∧ (r.getD i []).length = L') HN2 (fun r h => by
                obtain ⟨rw_, hp_, e_⟩ := h
                exact qau hlt hp_ e_))
              have GE : W.heap.size ≤ gi := Nat.le_trans (qx B3.out) (by rw [← SZ.out.1]; exact hgb)
              clear HN2 hcc hfr hc0 eL hP'
              go_wp2
              refine ⟨⟨j + 1, by push_cast; rfl, by omega, HN3, ⟨qf (qf (qf HBq.out GE) GE) GE⟩⟩, ?_⟩
              show (_ : Nat) < _
              simp only [intOf]; omega
            · have jl := eq_false (show ¬ (j : Int) < (L : Int) by omega)
              have jl2 := eq_false jlt
              obtain rfl : j = L := by omega
              have J2 := qa.mk (zO.weak (Q := fun r => jG n (i + 1) r ∧ (r.getD i []).length ≤ 100000 + 0) HK.out (fun r h => ⟨⟨h.1.1, fun m hm => h.1.2 m (by omega)⟩, h.1.2 i (Nat.le_refl _)⟩))
              go_wp2
              go_loopw [13] (fun v13 wq => ∃ (m : Nat), v13 = .int .i64 m ∧ m ≤ 9 ∧ qa (zO k40 40 37 w5 sA sB sC (.slice (some ⟨g', 0, none⟩) n c4) n (fun r => jG n (i + 1) r ∧ (r.getD i []).length ≤ 100000 + m) wq) ∧ qa (Below W.heap.size W wq)) (fun v13 _ => 9 - (intOf v13).toNat)
              case atStart => exact ⟨0, rfl, by omega, J2, HBq⟩
              case round =>
                obtain ⟨m, rfl, hm9, HM9, HBm⟩ := hrel
                by_cases mlt : m < 9
                · have ml := eq_true (show (m : Int) < 9 by omega)
                  have ml2 := eq_true mlt
                  obtain ⟨v', rowsM, oki, hPM, cv, hRM, hokg, hgl, hbl, hNM⟩ := zO.app HM9.out hlt q1
                  have HRM := qa.mk hRM
                  have lr : (rowsM.getD i []).length ≤ 100009 := by have := hPM.2; omega
                  clear hRM
                  obtain ⟨A', c', rfl⟩ := Kd.zX HRM.out
                  have hsa : W.heap.size ≤ sA := by rw [SZ.out.1]; exact qx B3.out
                  have hgw : W.heap.size ≤ g' := by
                    obtain ⟨rowsG, _, hsG, _⟩ := HM9.out
                    exact Nat.le_trans hsa (Kd.Jm hsG g' (by simp [Value.ownBlock]))
                  go_wp2_with ((with_reducible refine Qq (b := .append) (xs := #[.tmp 107, .tmp 109]) rfl ?_); at_builtin; refine Kd.Jl k40 (w0 := wr) sA rfl (.tmp 107) (.tmp 109) 37 40 (.agg #[(.int .i64 0), (.int .i64 0), (.int .i64 0)]) 24 rfl Try.underlying37 QW rfl (by decide) (by omega) (.slice A' (rowsM.getD i []).length c') (rowsM.getD i []) (⟨0, 0, 8⟩ : S40) [.int .i64 0, .int .i64 0, .int .i64 8] (fun k => oki k ∨ wr.heap.size ≤ k) (fun _ => False) rfl (by first | (go_simp; done) | (go_simp; rfl)) ?aP (fun _ hk => hk.elim) ?aF ?aO ?aB ?aS ?aL ?_; (case aP => exact Qf _ _ _ (⟨0, 0, 8⟩ : S40)); (case aF => exact fun _ h => Or.inr h); (case aO => exact Kd.zV HRM.out (fun _ hk => Or.inl hk)); (case aB => exact Below.refl _ _); (case aS => exact hbl); (case aL => omega); intro v8 w8 r8 b8 hg hat; obtain ⟨A8, c8, rfl⟩ := Kd.zX r8; have R8 := qa.mk r8; have B8 := qa.mk b8; have G8 := qa.mk hg; obtain ⟨z1, z2, z3⟩ := hNM w8 _ _ r8 hg; have Z3 := qa.mk z3; clear r8 b8 hg hat z3)
                  have ez : (rowsM[i]?.getD []).length + 1 = (rowsM.getD i [] ++ [(⟨0, 0, 8⟩ : S40)]).length := by simp
                  rw [ez]
                  refine ⟨⟨m + 1, by push_cast; rfl, by omega, ⟨zO.weak Z3.out (fun r h => qaf hlt hPM h)⟩, ⟨qf (QT HBm.out hsa B8.out) hgw⟩⟩, ?_⟩
                  show (_ : Nat) < _
                  simp only [intOf]; omega
                · have ml := eq_false (show ¬ (m : Int) < 9 by omega)
                  have ml2 := eq_false mlt
                  have HE := qa.mk (zO.weak (Q := jG n (i + 1)) HM9.out (fun r h => h.1))
                  go_wp2
                  refine ⟨⟨i + 1, by push_cast; rfl, by omega, HE, HBm⟩, ?_⟩
                  show (_ : Nat) < _
                  simp only [intOf]; omega
        · have iln := eq_false (show ¬ (i : Int) < (n : Int) by omega)
          have iln2 := eq_false hlt
          obtain ⟨rowsE, hrE, hsE, hpE, hfE, hzE⟩ := HI.out
          have OE := qa.mk (Kd.jb CW.out HBi.out)
          have bE : Kd.S (Kd.slice 40 k40) 37 wr wz.heap.size (fun _ => True) (.slice A2 o.length c2) o := by
            refine Kd.jr (Kd.S_step (Kd.jg (Kd.jg (Kd.jg (Kd.jr (Kd.Qw S2.out) (ok' := fun k => k < w2.heap.size) (fun k hk => hk.2.2.1)) W3.out) W4.out) W5.out) (fun k hk hlt => ?_)) (fun _ _ => trivial)
            exact hfE k (by rw [SZ.out.2.2]; exact hlt) (fun z => by have := z.1; rw [SZ.out.1] at this; have := qx W3.out; omega)
          have BE := qa.mk bE
          clear bE hrE hsE hpE hfE hzE
          go_wp2_with (go_at_call 15; refine (qG.calls ko A2 c2 o A c o true wr (Kd.jk BE.out).2.2 (Kd.jk BE.out).2.1 OE.out HC.out OP.out).mono ?_; rintro e' w9 ⟨rfl, hd9⟩; have B9 := qa.mk (qh HBi.out (Qc hd9)); clear hd9)
          refine ⟨⟨3, rfl, by decide, B9⟩, ?_⟩
          show (_ : Nat) < _
          decide
    · clear N1 N2
      obtain ⟨⟨ka, pa⟩, ⟨ks, ps⟩, fl, mv⟩ := N3.out
      have PA := qa.mk pa
      have PS := qa.mk ps
      have FLL := qa.mk fl
      have MV := qa.mk mv
      have be : (e3 != e3) = false := by simp
      clear pa ps fl mv N3
      generalize F3 = F at *
      generalize e3 = e at *
      obtain ⟨wz, ez⟩ : ∃ wz, wz = wr := ⟨_, rfl⟩
      rw [← ez] at HB CR KB ⊢
      clear ez wr
      go_upto_region 8 with (first | (go_at_call 11; refine (zi.calls kc A c o o wz CR.out HC.out CP.out).mono ?_; rintro e' w2 ⟨v2, rfl, s2, hb2⟩; obtain ⟨A2, c2, rfl⟩ := Kd.zX (Kd.S_R s2); have S2 := qa.mk s2; have B2 := qa.mk (qh HB.out hb2); have C2 := qa.mk (Kd.jb CR.out hb2); have K2 := qa.mk ((hb2.block _ (qy KB.out)).trans KB.out); have x0 : w2.cell? ⟨g, 0, none⟩ = some (.int .i64 m0) := (qb K2.out 0).trans rfl; have x1 : w2.cell? ⟨g, 1, none⟩ = some (.int .i64 m1) := (qb K2.out 1).trans rfl; have x2 : w2.cell? ⟨g, 2, none⟩ = some (.int .i64 m2) := (qb K2.out 2).trans rfl; have x3 : w2.cell? ⟨g, 3, none⟩ = some (.int .i64 m3) := (qb K2.out 3).trans rfl; clear s2 hb2) | (go_at_call 22; refine (qQ.calls ka A c o 3 m0 m1 m2 m3 F e w2 C2.out HC.out PA.out).mono ?_; rintro e' w3 ⟨v3, rfl, s3, hb3⟩; obtain ⟨A3, c3, rfl⟩ := Kd.zX (Kd.S_R s3); have S3 := qa.mk s3; have B3 := qa.mk (qh B2.out hb3); have W3 := qa.mk hb3; have O3 := qa.mk (Kd.jg S2.out hb3); have K3 := qa.mk ((hb3.block _ (qy K2.out)).trans K2.out); clear x0 x1 x2 x3; have y0 : w3.cell? ⟨g, 0, none⟩ = some (.int .i64 m0) := (qb K3.out 0).trans rfl; have y1 : w3.cell? ⟨g, 1, none⟩ = some (.int .i64 m1) := (qb K3.out 1).trans rfl; have y2 : w3.cell? ⟨g, 2, none⟩ = some (.int .i64 m2) := (qb K3.out 2).trans rfl; have y3 : w3.cell? ⟨g, 3, none⟩ = some (.int .i64 m3) := (qb K3.out 3).trans rfl; clear s3 hb3))
      go_upto_region 17 with (go_at_call 25; refine (MV.out A2 c2 w3 (Kd.jk O3.out).2.2 (Kd.jk O3.out).2.1).mono ?_; rintro e' w4 ⟨v4, rfl, s4, hb4⟩; obtain ⟨A4, c4, rfl⟩ := Kd.zX (Kd.S_R s4); have S4 := qa.mk s4; have W4 := qa.mk hb4; have B4 := qa.mk (qh B3.out hb4); clear s4 hb4 y0 y1 y2 y3)
      go_upto_region 19 with (go_at_call 15; refine (qG.calls ks A4 c4 F A3 c3 F true w4 (Kd.jk S4.out).2.2 (Kd.jk S4.out).2.1 (Kd.jk (Kd.jg S3.out W4.out)).2.2 (Kd.jk (Kd.jg S3.out W4.out)).2.1 PS.out).mono ?_; rintro e' w5 ⟨rfl, hd5⟩; have W5 := qa.mk (Qc hd5); have B5 := qa.mk (qh B4.out (Qc hd5)); clear hd5)
      obtain ⟨sA, hA⟩ : ∃ s, s = w3.heap.size := ⟨_, rfl⟩
      obtain ⟨sB, hB⟩ : ∃ s, s = w4.heap.size := ⟨_, rfl⟩
      obtain ⟨sC, hC⟩ : ∃ s, s = w5.heap.size := ⟨_, rfl⟩
      have SZ := qa.mk (And.intro hA (And.intro hB hC))
      have q1 : sA ≤ sC := by
        have a := qx W4.out; have b := qx W5.out
        omega
      have A7 := qa.mk (Kd.jg (Kd.jr (Kd.Qw S4.out) (ok' := fun k => sA ≤ k ∧ k < sB) (fun k hk => ⟨by rw [hA]; exact hk.2.1, by rw [hB]; exact hk.2.2.1⟩)) W5.out)
      rw [← hA] at A7
      have I7 := qa.mk (zO.start (P := jG F.length 0) A7.out ⟨rfl, fun m _ => by
        rw [List.getD_eq_getElem?_getD]
        by_cases h : m < F.length
        · rw [List.getElem?_eq_getElem h]; exact FLL.out.2 _ (List.getElem_mem h)
        · rw [List.getElem?_eq_none (by omega)]; simp⟩)
      rw [← hC] at I7
      have fn : F.length ≤ 256 := FLL.out.1
      obtain ⟨n, hn⟩ : ∃ n, n = F.length := ⟨_, rfl⟩
      rw [← hn] at I7 fn
      have HN := qa.mk hn
      rw [← hn]
      clear hA hB hC A7 hn
      go_wp2
      go_loopw [79] (fun v79 wv => ∃ (i : Nat), v79 = .int .i64 i ∧ i ≤ n ∧ qa (zO k40 40 37 w5 sA sB sC (.slice A4 n c4) n (jG n i) wv) ∧ qa (Below W.heap.size W wv)) (fun v79 _ => n - (intOf v79).toNat)
      case atStart => exact ⟨0, rfl, Nat.zero_le _, I7, B5⟩
      case round =>
        obtain ⟨i, rfl, hi, HI, HBi⟩ := hrel
        by_cases hlt : i < n
        · have ilt := eq_true (show (i : Int) < (n : Int) by omega)
          have ilt2 := eq_true hlt
          have ip := eq_true (show (0 : Int) ≤ (i : Int) by omega)
          obtain ⟨g', rfl⟩ : ∃ g, A4 = some ⟨g, 0, none⟩ := by
            obtain ⟨rows, h1, h2, _⟩ := HI.out
            obtain ⟨g, cap, ev, _⟩ := Kd.Jr h2 (by omega)
            injection ev with ev1
            exact ⟨g, ev1⟩
          obtain ⟨Ai, ci, rows, hP, hrl, cell, hci, HJ⟩ := zO.get HI.out hlt
          obtain ⟨L, hL⟩ : ∃ L, L = (rows.getD i []).length := ⟨_, rfl⟩
          rw [← hL] at cell hci
          have J0 := qa.mk (zO.weak (Q := fun r => jG n i r ∧ (r.getD i []).length = L) HJ (fun r h => ⟨h.1, by rw [h.2, hL]⟩))
          have Lb : L ≤ 100000 := by rw [hL]; exact hP.2 i (Nat.le_refl _)
          clear HJ hL hP hrl
          go_wp2
          go_loopw [87] (fun v87 wq => ∃ (j : Nat), v87 = .int .i64 j ∧ j ≤ L ∧ qa (zO k40 40 37 w5 sA sB sC (.slice (some ⟨g', 0, none⟩) n c4) n (fun r => jG n i r ∧ (r.getD i []).length = L) wq) ∧ qa (Below W.heap.size W wq)) (fun v87 _ => L - (intOf v87).toNat)
          case atStart => exact ⟨0, rfl, Nat.zero_le _, J0, HBi⟩
          case round =>
            obtain ⟨j, rfl, hj, HK, HBq⟩ := hrel
            by_cases jlt : j < L
            · have jl := eq_true (show (j : Int) < (L : Int) by omega)
              have jl2 := eq_true jlt
              have jp := eq_true (show (0 : Int) ≤ (j : Int) by omega)
              obtain ⟨gi, L', cj, rows', c0, hP', eL, hjL, cq, hc0, hcc, hfr, hgb, HN2⟩ := zO.put HK.out hlt (j := j) (fun r h => by rw [h.2]; exact jlt) (⟨1, 2, 9⟩ : S40) [.int .i64 1, .int .i64 2, .int .i64 9] rfl (fun W b => Qf W b _ (⟨1, 2, 9⟩ : S40))
              obtain rfl : L' = L := by rw [eL]; exact hP'.2
              obtain ⟨u0, u1, u2, rfl⟩ : ∃ a b d, c0 = [a, b, d] := by
                match c0, hc0 with
                | [a, b, d], _ => exact ⟨a, b, d, rfl⟩
              have x0 : wr.cell? ⟨gi, j * 3, none⟩ = some u0 := hcc 0 _ rfl
              have x1 : wr.cell? ⟨gi, j * 3 + 1, none⟩ = some u1 := hcc 1 _ rfl
              have x2 : wr.cell? ⟨gi, j * 3 + 2, none⟩ = some u2 := hcc 2 _ rfl
              have f0 : wr.frozen? ⟨gi, j * 3, none⟩ = false := hfr 0
              have f1 : wr.frozen? ⟨gi, j * 3 + 1, none⟩ = false := hfr 1
              have f2 : wr.frozen? ⟨gi, j * 3 + 2, none⟩ = false := hfr 2
              have HN3 := qa.mk (zO.weak (Q := fun r => jG n i r ∧ (r.getD i []).length = L') HN2 (fun r h => by
                obtain ⟨rw_, hp_, e_⟩ := h
                exact qau hlt hp_ e_))
              have GE : W.heap.size ≤ gi := Nat.le_trans (qx B3.out) (by rw [← SZ.out.1]; exact hgb)
              clear HN2 hcc hfr hc0 eL hP'
              go_wp2
              refine ⟨⟨j + 1, by push_cast; rfl, by omega, HN3, ⟨qf (qf (qf HBq.out GE) GE) GE⟩⟩, ?_⟩
              show (_ : Nat) < _
              simp only [intOf]; omega
            · have jl := eq_false (show ¬ (j : Int) < (L : Int) by omega)
              have jl2 := eq_false jlt
              obtain rfl : j = L := by omega
              have J2 := qa.mk (zO.weak (Q := fun r => jG n (i + 1) r ∧ (r.getD i []).length ≤ 100000 + 0) HK.out (fun r h => ⟨⟨h.1.1, fun m hm => h.1.2 m (by omega)⟩, h.1.2 i (Nat.le_refl _)⟩))
              go_wp2
              go_loopw [13] (fun v13 wq => ∃ (m : Nat), v13 = .int .i64 m ∧ m ≤ 9 ∧ qa (zO k40 40 37 w5 sA sB sC (.slice (some ⟨g', 0, none⟩) n c4) n (fun r => jG n (i + 1) r ∧ (r.getD i []).length ≤ 100000 + m) wq) ∧ qa (Below W.heap.size W wq)) (fun v13 _ => 9 - (intOf v13).toNat)
              case atStart => exact ⟨0, rfl, by omega, J2, HBq⟩
              case round =>
                obtain ⟨m, rfl, hm9, HM9, HBm⟩ := hrel
                by_cases mlt : m < 9
                · have ml := eq_true (show (m : Int) < 9 by omega)
                  have ml2 := eq_true mlt
                  obtain ⟨v', rowsM, oki, hPM, cv, hRM, hokg, hgl, hbl, hNM⟩ := zO.app HM9.out hlt q1
                  have HRM := qa.mk hRM
                  have lr : (rowsM.getD i []).length ≤ 100009 := by have := hPM.2; omega
                  clear hRM
                  obtain ⟨A', c', rfl⟩ := Kd.zX HRM.out
                  have hsa : W.heap.size ≤ sA := by rw [SZ.out.1]; exact qx B3.out
                  have hgw : W.heap.size ≤ g' := by
                    obtain ⟨rowsG, _, hsG, _⟩ := HM9.out
                    exact Nat.le_trans hsa (Kd.Jm hsG g' (by simp [Value.ownBlock]))
                  go_wp2_with ((with_reducible refine Qq (b := .append) (xs := #[.tmp 107, .tmp 109]) rfl ?_); at_builtin; refine Kd.Jl k40 (w0 := wr) sA rfl (.tmp 107) (.tmp 109) 37 40 (.agg #[(.int .i64 0), (.int .i64 0), (.int .i64 0)]) 24 rfl Try.underlying37 QW rfl (by decide) (by omega) (.slice A' (rowsM.getD i []).length c') (rowsM.getD i []) (⟨0, 0, 8⟩ : S40) [.int .i64 0, .int .i64 0, .int .i64 8] (fun k => oki k ∨ wr.heap.size ≤ k) (fun _ => False) rfl (by first | (go_simp; done) | (go_simp; rfl)) ?aP (fun _ hk => hk.elim) ?aF ?aO ?aB ?aS ?aL ?_; (case aP => exact Qf _ _ _ (⟨0, 0, 8⟩ : S40)); (case aF => exact fun _ h => Or.inr h); (case aO => exact Kd.zV HRM.out (fun _ hk => Or.inl hk)); (case aB => exact Below.refl _ _); (case aS => exact hbl); (case aL => omega); intro v8 w8 r8 b8 hg hat; obtain ⟨A8, c8, rfl⟩ := Kd.zX r8; have R8 := qa.mk r8; have B8 := qa.mk b8; have G8 := qa.mk hg; obtain ⟨z1, z2, z3⟩ := hNM w8 _ _ r8 hg; have Z3 := qa.mk z3; clear r8 b8 hg hat z3)
                  have ez : (rowsM[i]?.getD []).length + 1 = (rowsM.getD i [] ++ [(⟨0, 0, 8⟩ : S40)]).length := by simp
                  rw [ez]
                  refine ⟨⟨m + 1, by push_cast; rfl, by omega, ⟨zO.weak Z3.out (fun r h => qaf hlt hPM h)⟩, ⟨qf (QT HBm.out hsa B8.out) hgw⟩⟩, ?_⟩
                  show (_ : Nat) < _
                  simp only [intOf]; omega
                · have ml := eq_false (show ¬ (m : Int) < 9 by omega)
                  have ml2 := eq_false mlt
                  have HE := qa.mk (zO.weak (Q := jG n (i + 1)) HM9.out (fun r h => h.1))
                  go_wp2
                  refine ⟨⟨i + 1, by push_cast; rfl, by omega, HE, HBm⟩, ?_⟩
                  show (_ : Nat) < _
                  simp only [intOf]; omega
        · have iln := eq_false (show ¬ (i : Int) < (n : Int) by omega)
          have iln2 := eq_false hlt
          obtain ⟨rowsE, hrE, hsE, hpE, hfE, hzE⟩ := HI.out
          have OE := qa.mk (Kd.jb CW.out HBi.out)
          have bE : Kd.S (Kd.slice 40 k40) 37 wr wz.heap.size (fun _ => True) (.slice A2 o.length c2) o := by
            refine Kd.jr (Kd.S_step (Kd.jg (Kd.jg (Kd.jg (Kd.jr (Kd.Qw S2.out) (ok' := fun k => k < w2.heap.size) (fun k hk => hk.2.2.1)) W3.out) W4.out) W5.out) (fun k hk hlt => ?_)) (fun _ _ => trivial)
            exact hfE k (by rw [SZ.out.2.2]; exact hlt) (fun z => by have := z.1; rw [SZ.out.1] at this; have := qx W3.out; omega)
          have BE := qa.mk bE
          clear bE hrE hsE hpE hfE hzE
          go_wp2_with (go_at_call 15; refine (qG.calls ko A2 c2 o A c o true wr (Kd.jk BE.out).2.2 (Kd.jk BE.out).2.1 OE.out HC.out OP.out).mono ?_; rintro e' w9 ⟨rfl, hd9⟩; have B9 := qa.mk (qh HBi.out (Qc hd9)); clear hd9)
          refine ⟨⟨4, rfl, by decide, B9⟩, ?_⟩
          show (_ : Nat) < _
          decide
    · go_wp2
      go_ret
      exact ⟨rfl, qh LW.out HB.out⟩
end Go.Proofs.Ytmlkpadlafjfeaa.P
