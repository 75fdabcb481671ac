import Derived.Test.YtmlkpadlafjfeaaPx90
import Derived.Laws.Bits64b
import Derived.Test.YtmlkpadlafjfeaaPx0
import Derived.Test.YtmlkpadlafjfeaaPathCubP
import Derived.Test.YtmlkpadlafjfeaaPx15
import Derived.Test.YtmlkpadlafjfeaaPx22
import Derived.Test.YtmlkpadlafjfeaaPx4
import Derived.Test.YtmlkpadlafjfeaaPx23
import Derived.Test.YtmlkpadlafjfeaaPx24
import Derived.Test.YtmlkpadlafjfeaaPx25
import Derived.Test.YtmlkpadlafjfeaaPx29
import Derived.Test.YtmlkpadlafjfeaaPx30
import Derived.Test.YtmlkpadlafjfeaaPx33
import Derived.Test.YtmlkpadlafjfeaaPx37
import Derived.Test.YtmlkpadlafjfeaaPx38
import Derived.Test.YtmlkpadlafjfeaaPx39
import Derived.Test.YtmlkpadlafjfeaaLongP
set_option linter.unusedVariables false
set_option linter.unusedSimpArgs false
namespace Go.Proofs.Ytmlkpadlafjfeaa.P
open Go Go.RowKit Go.Proofs.YtmlkpadlafjfeaaW.PrintWords Go.Proofs.YtmlkpadlafjfeaaW.PrintLast Go.Proofs.YtmlkpadlafjfeaaW.PrintMore
theorem Ev.intro {α : Type} {g : Nat → Option α} {r : α} (m : Nat) (h : ∀ k, g (k + m) = some r) : Ev g r :=
  ⟨m, fun k hk => by have := h (k - m); rwa [Nat.sub_add_cancel hk] at this⟩
theorem Ev.shift {α : Type} {g f : Nat → Option α} {r : α} (m : Nat) (h : ∀ k, g (k + m) = f k) (k : Ev f r) : Ev g r := by
  obtain ⟨K, hK⟩ := k
  exact ⟨K + m, fun k hk => by have := h (k - m); rw [Nat.sub_add_cancel (by omega)] at this; rw [this]; exact hK _ (by omega)⟩
theorem dig_lt (y v1 v0 u d q r : Int) (hy : y = v1 * 4294967296 + v0) (hq : q * v1 + r = u) : (q * v0 > 4294967296 * r + d) ↔ (q * y > u * 4294967296 + d) := by
  have : q * y = (q * v1) * 4294967296 + q * v0 := by subst hy; grind
  omega
theorem Jz {a b y : Int} (hy : 0 < y) (h : a * y < (b + 1) * y) : a ≤ b := by
  have := Int.lt_of_mul_lt_mul_right h (Int.le_of_lt hy)
  omega
theorem Jp (n : Int) : IntKind.u64.wrap n = n % 18446744073709551616 := IntKind.wrap_u64 n
theorem zO {n : Int} (h0 : 0 ≤ n) (h1 : n < 18446744073709551616) : IntKind.u64.wrap n = n := by rw [Jp]; omega
theorem Zj {a b A B : Int} (ha : 0 ≤ a) (hb : 0 ≤ b) (hA : a ≤ A) (hB : b ≤ B) : a * b ≤ A * B :=
  Int.le_trans (Int.mul_le_mul_of_nonneg_right hA hb) (Int.mul_le_mul_of_nonneg_left hB (by omega))
structure Dig (y v1 v0 u d qs : Int) : Prop where
  hy : y = v1 * 4294967296 + v0
  h1 : 2147483648 ≤ v1
  h1' : v1 < 4294967296
  h0 : 0 ≤ v0
  h0' : v0 < 4294967296
  hu : 0 ≤ u
  hu' : u < y
  hd : 0 ≤ d
  hd' : d < 4294967296
  lo : qs * y ≤ u * 4294967296 + d
  hi : u * 4294967296 + d < (qs + 1) * y
theorem Dig.Zg {y v1 v0 u d qs : Int} (D : Dig y v1 v0 u d qs) : 0 ≤ qs := by
  have := D.hi; have hy := D.hy; have h1 := D.h1; have hu := D.hu; have hd := D.hd; have h0 := D.h0
  by_cases h : 0 ≤ qs
  · exact h
  · have : (qs + 1) * y ≤ 0 * y := Int.mul_le_mul_of_nonneg_right (by omega) (by omega)
    omega
theorem Dig.qs_lt {y v1 v0 u d qs : Int} (D : Dig y v1 v0 u d qs) : qs < 4294967296 := by
  have h1 := D.lo; have hu := D.hu'; have hd := D.hd'
  by_cases h : qs < 4294967296
  · exact h
  · have : 4294967296 * y ≤ qs * y := Int.mul_le_mul_of_nonneg_right (by omega) (by have := D.hu; omega)
    omega
structure ZZ (v1 u qs q r : Int) : Prop where
  e : q * v1 + r = u
  ge : qs ≤ q
  le : q ≤ 4294967297
  r0 : 0 ≤ r
  r1 : r < 4294967296
theorem Dig.start {y v1 v0 u d qs : Int} (D : Dig y v1 v0 u d qs) : ZZ v1 u qs (u / v1) (u - u / v1 * v1) := by
  have hv := D.h1; have hv' := D.h1'; have hu := D.hu; have hu' := D.hu'; have hy := D.hy; have h0' := D.h0'; have h0 := D.h0
  have e1 := Int.emod_add_mul_ediv u v1
  have e2 := Int.emod_nonneg u (show v1 ≠ 0 by omega)
  have e3 := Int.emod_lt_of_pos u (show 0 < v1 by omega)
  have e4 : u / v1 * v1 = v1 * (u / v1) := Int.mul_comm _ _
  have q0 : 0 ≤ u / v1 := Int.ediv_nonneg hu (by omega)
  refine ⟨by omega, ?_, ?_, by omega, by omega⟩
  ·
    have l := D.lo; have hd' := D.hd'; have n := D.Zg
    have : qs * y = (qs * v1) * 4294967296 + qs * v0 := by rw [hy]; grind
    have p : 0 ≤ qs * v0 := Int.mul_nonneg n h0
    have : qs * v1 ≤ u := by omega
    exact Jz (y := v1) (by omega) (by rw [Int.add_mul]; omega)
  · refine Jz (y := v1) (by omega) ?_
    rw [e4]; omega
def Jc (v0 d q r : Int) : Bool := if q ≥ 4294967296 then true else decide ((IntKind.u64.wrap (q * v0)) > (IntKind.u64.wrap ((IntKind.u64.wrap (4294967296 * r)) + d)))
theorem ZZ.test {y v1 v0 u d qs q r : Int} (D : Dig y v1 v0 u d qs) (S : ZZ v1 u qs q r) : Jc v0 d q r = true ↔ qs < q := by
  have h0 := D.h0; have h0' := D.h0'; have hd := D.hd; have hd' := D.hd'; have r0 := S.r0; have r1 := S.r1; have hl := D.qs_lt; have hn := D.Zg; have hg := S.ge
  unfold Jc
  split
  · simp; omega
  · rename_i hq
    have b : q * v0 ≤ 4294967295 * 4294967295 := Zj (by omega) h0 (by omega) (by omega)
    have b0 : 0 ≤ q * v0 := Int.mul_nonneg (by omega) h0
    rw [zO (n := q * v0) b0 (by omega), zO (n := 4294967296 * r) (by omega) (by omega), zO (n := 4294967296 * r + d) (by omega) (by omega)]
    have t := dig_lt y v1 v0 u d q r D.hy S.e
    simp only [decide_eq_true_eq]
    rw [t]
    have ypos : 0 < y := by have := D.hu; have := D.hu'; omega
    constructor
    · intro h
      have l := D.lo
      by_cases c : qs < q
      · exact c
      · have : q * y ≤ qs * y := Int.mul_le_mul_of_nonneg_right (by omega) (by omega)
        omega
    · intro h
      have l := D.hi
      have : (qs + 1) * y ≤ q * y := Int.mul_le_mul_of_nonneg_right (by omega) (by omega)
      omega
theorem ZZ.next {y v1 v0 u d qs q r : Int} (D : Dig y v1 v0 u d qs) (S : ZZ v1 u qs q r) (h : qs < q) (hr : r + v1 < 4294967296) : ZZ v1 u qs (q - 1) (r + v1) :=
  ⟨by have := S.e; rw [Int.sub_mul]; omega, by omega, by have := S.le; omega, by have := S.r0; have := D.h1; omega, hr⟩
theorem ZZ.break {y v1 v0 u d qs q r : Int} (D : Dig y v1 v0 u d qs) (S : ZZ v1 u qs q r) (h : qs < q) (hr : 4294967296 ≤ r + v1) : q - 1 = qs := by
  have h0 := D.h0; have h0' := D.h0'; have hl := S.le; have hn := D.Zg
  have b : (q - 1) * v0 ≤ 4294967296 * 4294967295 := Zj (by omega) h0 (by omega) (by omega)
  have t := dig_lt y v1 v0 u d (q - 1) (r + v1) D.hy (by have := S.e; rw [Int.sub_mul]; omega)
  have ypos : 0 < y := by have := D.hu; have := D.hu'; omega
  have : ¬ ((q - 1) * v0 > 4294967296 * (r + v1) + d) := by have := D.hd; omega
  rw [t] at this
  have l := D.hi
  have : q - 1 ≤ qs := Jz ypos (by omega)
  omega
theorem l0_ev {y s v1 v0 u d un0 qs : Int} (D : Dig y v1 v0 u d qs) : ∀ (n : Nat) (q r : Int), (q - qs).toNat = n → ZZ v1 u qs q r →
    ∃ m, ∀ k, qF.l0 (k + m) y s v1 v0 u d un0 q r = qF.j2 k y s v1 v0 u d un0 qs := by
  have h1 := D.h1; have h1' := D.h1'; have hn := D.Zg
  intro n
  induction n with
  | zero =>
    intro q r e S
    have hg := S.ge
    have hq : q = qs := by omega
    refine ⟨2, fun k => ?_⟩
    have t := S.test D
    have tf : Jc v0 d q r = false := by
      cases h : Jc v0 d q r with
      | false => rfl
      | true => have := t.1 h; omega
    have : qF.l0 (k + 2) y s v1 v0 u d un0 q r = qF.j1 (k + 1) y s v1 v0 u d un0 q r (Jc v0 d q r) := by
      rw [show k + 2 = (k + 1) + 1 from rfl]; simp only [qF.l0]; unfold Jc; split <;> simp_all
    rw [this, tf]
    simp only [qF.j1, hq]; simp
  | succ n ih =>
    intro q r e S
    have r0 := S.r0; have r1 := S.r1; have hl := S.le
    have hlt : qs < q := by omega
    have tt := (S.test D).2 hlt
    have one : ∀ k, qF.l0 (k + 2) y s v1 v0 u d un0 q r = qF.j1 (k + 1) y s v1 v0 u d un0 q r true := by
      intro k
      rw [← tt, show k + 2 = (k + 1) + 1 from rfl]; simp only [qF.l0]; unfold Jc; split <;> simp_all
    have w1 : IntKind.u64.wrap (r + v1) = r + v1 := zO (by omega) (by omega)
    have w2 : IntKind.u64.wrap (q - 1) = q - 1 := zO (by omega) (by omega)
    by_cases hb : 4294967296 ≤ r + v1
    · refine ⟨2, fun k => ?_⟩
      rw [one]; simp only [qF.j1, w1, w2]
      rw [if_pos trivial, if_pos hb, S.break D hlt hb]
    · obtain ⟨m, hm⟩ := ih (q - 1) (r + v1) (by omega) (S.next D hlt (by omega))
      refine ⟨m + 2, fun k => ?_⟩
      rw [show k + (m + 2) = (k + m) + 2 by omega, one]; simp only [qF.j1, w1, w2]
      rw [if_pos trivial, if_neg hb, hm]
def divEnd (y s q1 un21 un0 q0 : Int) : Int × Int := (IntKind.u64.wrap ((IntKind.u64.wrap (q1 * 4294967296)) + q0), shr .u64 (IntKind.u64.wrap ((IntKind.u64.wrap ((IntKind.u64.wrap (un21 * 4294967296)) + un0)) - (IntKind.u64.wrap (q0 * y)))) s)
theorem l1_ev {y s v1 v0 q1 u d qs : Int} (hs : 0 ≤ s) (D : Dig y v1 v0 u d qs) : ∀ (n : Nat) (q r : Int), (q - qs).toNat = n → ZZ v1 u qs q r →
    ∃ m, ∀ k, qF.l1 (k + m) y s v1 v0 d q1 r u q = some (divEnd y s q1 u d qs) := by
  have h1 := D.h1; have h1' := D.h1'; have hn := D.Zg
  intro n
  induction n with
  | zero =>
    intro q r e S
    have hg := S.ge
    have hq : q = qs := by omega
    refine ⟨2, fun k => ?_⟩
    have t := S.test D
    have tf : Jc v0 d q r = false := by
      cases h : Jc v0 d q r with
      | false => rfl
      | true => have := t.1 h; omega
    have : qF.l1 (k + 2) y s v1 v0 d q1 r u q = qF.j4 (k + 1) y s v1 v0 d q1 r u q (Jc v0 d q r) := by
      rw [show k + 2 = (k + 1) + 1 from rfl]; simp only [qF.l1]; unfold Jc; split <;> simp_all
    rw [this, tf]
    simp only [qF.j4, hq]; simp [hs, divEnd]
  | succ n ih =>
    intro q r e S
    have r0 := S.r0; have r1 := S.r1; have hl := S.le
    have hlt : qs < q := by omega
    have tt := (S.test D).2 hlt
    have one : ∀ k, qF.l1 (k + 2) y s v1 v0 d q1 r u q = qF.j4 (k + 1) y s v1 v0 d q1 r u q true := by
      intro k
      rw [← tt, show k + 2 = (k + 1) + 1 from rfl]; simp only [qF.l1]; unfold Jc; split <;> simp_all
    have w1 : IntKind.u64.wrap (r + v1) = r + v1 := zO (by omega) (by omega)
    have w2 : IntKind.u64.wrap (q - 1) = q - 1 := zO (by omega) (by omega)
    by_cases hb : 4294967296 ≤ r + v1
    · refine ⟨2, fun k => ?_⟩
      rw [one]; simp only [qF.j4, w1, w2]
      rw [if_pos trivial, if_pos hb, if_pos hs, S.break D hlt hb]; rfl
    · obtain ⟨m, hm⟩ := ih (q - 1) (r + v1) (by omega) (S.next D hlt (by omega))
      refine ⟨m + 2, fun k => ?_⟩
      rw [show k + (m + 2) = (k + m) + 2 by omega, one]; simp only [qF.j4, w1, w2]
      rw [if_pos trivial, if_neg hb, hm]
end Go.Proofs.Ytmlkpadlafjfeaa.P
set_option linter.unusedVariables false
set_option linter.unusedSimpArgs false
namespace Go.Proofs.Ytmlkpadlafjfeaa.P
open Go Go.RowKit Go.Proofs.YtmlkpadlafjfeaaW.PrintWords Go.Proofs.YtmlkpadlafjfeaaW.PrintLast Go.Proofs.YtmlkpadlafjfeaaW.PrintMore
def len8 : ByteArray := ⟨#[0, 1, 2, 2, 3, 3, 3, 3, 4, 4, 4, 4, 4, 4, 4, 4, 5, 5, 5, 5, 5, 5, 5, 5, 5, 5, 5, 5, 5, 5, 5, 5, 6, 6, 6, 6, 6, 6, 6, 6, 6, 6, 6, 6, 6, 6, 6, 6, 6, 6, 6, 6, 6, 6, 6, 6, 6, 6, 6, 6, 6, 6, 6, 6, 7, 7, 7, 7, 7, 7, 7, 7, 7, 7, 7, 7, 7, 7, 7, 7, 7, 7, 7, 7, 7, 7, 7, 7, 7, 7, 7, 7, 7, 7, 7, 7, 7, 7, 7, 7, 7, 7, 7, 7, 7, 7, 7, 7, 7, 7, 7, 7, 7, 7, 7, 7, 7, 7, 7, 7, 7, 7, 7, 7, 7, 7, 7, 7, 8, 8, 8, 8, 8, 8, 8, 8, 8, 8, 8, 8, 8, 8, 8, 8, 8, 8, 8, 8, 8, 8, 8, 8, 8, 8, 8, 8, 8, 8, 8, 8, 8, 8, 8, 8, 8, 8, 8, 8, 8, 8, 8, 8, 8, 8, 8, 8, 8, 8, 8, 8, 8, 8, 8, 8, 8, 8, 8, 8, 8, 8, 8, 8, 8, 8, 8, 8, 8, 8, 8, 8, 8, 8, 8, 8, 8, 8, 8, 8, 8, 8, 8, 8, 8, 8, 8, 8, 8, 8, 8, 8, 8, 8, 8, 8, 8, 8, 8, 8, 8, 8, 8, 8, 8, 8, 8, 8, 8, 8, 8, 8, 8, 8, 8, 8, 8, 8, 8, 8, 8, 8, 8, 8, 8, 8, 8, 8]⟩
def lenOk (x L : Nat) : Bool := decide (L ≤ 8) && decide (x < 2 ^ L) && (L == 0 || decide (2 ^ (L - 1) ≤ x)) && (decide (x = 0) || L != 0)
theorem len8_all : ∀ i : Fin 256, lenOk i.1 (bt len8 (i.1 : Int)).toNat = true := by decide +kernel
theorem bt_nn (s : ByteArray) (i : Int) : 0 ≤ bt s i := by unfold bt; split <;> omega
theorem len8_at {x : Int} (h0 : 0 ≤ x) (h1 : x < 256) : ∃ L : Nat, bt len8 x = (L : Int) ∧ L ≤ 8 ∧ x < 2 ^ L ∧ (x ≠ 0 → 1 ≤ L ∧ (2 : Int) ^ (L - 1) ≤ x) := by
  obtain ⟨n, rfl⟩ := Int.eq_ofNat_of_zero_le h0
  have hn : n < 256 := by omega
  have h := len8_all ⟨n, hn⟩
  have e : bt len8 (n : Int) = ((bt len8 (n : Int)).toNat : Int) := by have := bt_nn len8 n; omega
  refine ⟨(bt len8 (n : Int)).toNat, e, ?_⟩
  generalize (bt len8 (n : Int)).toNat = L at h
  simp only [lenOk, Bool.and_eq_true, Bool.or_eq_true, decide_eq_true_eq, bne_iff_ne, beq_iff_eq] at h
  obtain ⟨⟨⟨a, b⟩, c⟩, d⟩ := h
  refine ⟨a, by exact_mod_cast b, fun hx => ?_⟩
  have hl : L ≠ 0 := by rcases d with d | d <;> omega
  refine ⟨by omega, ?_⟩
  rcases c with c | c
  · exact absurd c hl
  · exact_mod_cast c
def IsLen (x : Int) (L : Int) : Prop := ∃ n : Nat, L = n ∧ n ≤ 64 ∧ x < 2 ^ n ∧ (x ≠ 0 → 1 ≤ n ∧ (2 : Int) ^ (n - 1) ≤ x)
theorem IsLen.up {x : Int} {L : Nat} (m : Nat) (hx : 0 < x / 2 ^ m) (hL : L ≤ 64 - m) (hm : m ≤ 64) (h1 : x / 2 ^ m < 2 ^ L) (h2 : x / 2 ^ m ≠ 0 → 1 ≤ L ∧ (2 : Int) ^ (L - 1) ≤ x / 2 ^ m) : IsLen x (m + L : Nat) := by
  have p : (0 : Int) < 2 ^ m := Int.pow_pos (by decide)
  obtain ⟨l1, l2⟩ := h2 (by omega)
  have a : x < (x / 2 ^ m + 1) * 2 ^ m := by
    have := Int.emod_add_mul_ediv x (2 ^ m); have := Int.emod_lt_of_pos x p
    rw [Int.add_mul, Int.mul_comm (x / 2 ^ m)]; omega
  have b : x / 2 ^ m * 2 ^ m ≤ x := Int.ediv_mul_le x (by omega)
  refine ⟨m + L, by omega, by omega, ?_, fun _ => ⟨by omega, ?_⟩⟩
  · have : (x / 2 ^ m + 1) * 2 ^ m ≤ 2 ^ L * 2 ^ m := Int.mul_le_mul_of_nonneg_right (by omega) (by omega)
    rw [Int.pow_add, Int.mul_comm (2 ^ m)]; omega
  · have : 2 ^ (L - 1) * 2 ^ m ≤ x / 2 ^ m * 2 ^ m := Int.mul_le_mul_of_nonneg_right l2 (by omega)
    rw [show m + L - 1 = m + (L - 1) by omega, Int.pow_add, Int.mul_comm (2 ^ m)]; omega
theorem QK {n : Int} (h0 : -9223372036854775808 ≤ n) (h1 : n ≤ 9223372036854775807) : wrap64 n = n := by unfold wrap64; omega
def lenJ (T : ByteArray) (X m : Int) : Option Int := (if X ≥ 65536 then (if (X / 65536) ≥ 256 then (if 0 ≤ (((X / 65536) / 256) % 256) then (if (((X / 65536) / 256) % 256) < 256 then (some (wrap64 ((wrap64 ((wrap64 (m + 16)) + 8)) + (wrap64 (bt T (((X / 65536) / 256) % 256)))))) else (none)) else (none)) else (if 0 ≤ ((X / 65536) % 256) then (if ((X / 65536) % 256) < 256 then (some (wrap64 ((wrap64 (m + 16)) + (wrap64 (bt T ((X / 65536) % 256)))))) else (none)) else (none))) else (if X ≥ 256 then (if 0 ≤ ((X / 256) % 256) then (if ((X / 256) % 256) < 256 then (some (wrap64 ((wrap64 (m + 8)) + (wrap64 (bt T ((X / 256) % 256)))))) else (none)) else (none)) else (if 0 ≤ ((X) % 256) then (if ((X) % 256) < 256 then (some (wrap64 (m + (wrap64 (bt T ((X) % 256)))))) else (none)) else (none))))
theorem w_16 (m : Nat) (h : m ≤ 32) : wrap64 ((m : Int) + 16) = (m : Int) + 16 := QK (by omega) (by omega)
theorem w_8 (m : Nat) (h : m ≤ 32) : wrap64 ((m : Int) + 8) = (m : Int) + 8 := QK (by omega) (by omega)
theorem w_24 (m : Nat) (h : m ≤ 32) : wrap64 (wrap64 ((m : Int) + 16) + 8) = (m : Int) + 24 := by rw [w_16 m h, QK (by omega) (by omega)]; omega
theorem lenJ_ok (T : ByteArray) (hT : ∀ x : Int, 0 ≤ x → x < 256 → ∃ L : Nat, bt T x = (L : Int) ∧ L ≤ 8 ∧ x < 2 ^ L ∧ (x ≠ 0 → 1 ≤ L ∧ (2 : Int) ^ (L - 1) ≤ x)) (x : Int) (m : Nat) (hm : m = 0 ∨ m = 32) (h0 : 0 ≤ x / 2 ^ m) (h1 : x / 2 ^ m < 4294967296) (hb : m = 32 → 0 < x / 2 ^ m) (x0 : 0 ≤ x) :
    ∃ L, lenJ T (x / 2 ^ m) (m : Int) = some L ∧ IsLen x L := by
  have two : ∀ a b : Nat, x / 2 ^ a / 2 ^ b = x / 2 ^ (a + b) := fun a b => by rw [Int.pow_add, Int.ediv_ediv_of_nonneg (Int.le_of_lt (Int.pow_pos (by decide)))]
  have p16 : (2 : Int) ^ 16 = 65536 := rfl
  have p8 : (2 : Int) ^ 8 = 256 := rfl
  have d16 : x / 2 ^ m / 65536 = x / 2 ^ (m + 16) := by rw [← p16]; exact two m 16
  have d8 : x / 2 ^ m / 256 = x / 2 ^ (m + 8) := by rw [← p8]; exact two m 8
  have d24 : x / 2 ^ m / 65536 / 256 = x / 2 ^ (m + 24) := by rw [d16, ← p8]; exact two (m + 16) 8
  have fin : ∀ (s : Nat) (y : Int), y = x / 2 ^ (m + s) → s ≤ 24 → 0 ≤ y → y < 256 → (0 < y ∨ m + s = 0) → ∀ z : Int, z = ((m + s : Nat) : Int) →
      ∃ L, (if 0 ≤ y % 256 then (if y % 256 < 256 then (some (wrap64 (z + (wrap64 (bt T (y % 256)))))) else none) else none) = some L ∧ IsLen x L := by
    intro s y hy hs hy0 hy1 hp z hz
    have e : y % 256 = y := by omega
    rw [e, if_pos hy0, if_pos hy1]
    obtain ⟨L, l0, l1, l2, l3⟩ := hT _ hy0 hy1
    refine ⟨_, rfl, ?_⟩
    rw [l0, QK (n := (L : Int)) (by omega) (by omega), QK (by omega) (by omega)]
    rcases Nat.eq_zero_or_pos (m + s) with h | h
    · rw [hz, h]
      have ex : y = x := by rw [hy, h]; simp
      rw [ex] at l2 l3
      exact ⟨L, by omega, by omega, l2, l3⟩
    · have : z + (L : Int) = ((m + s + L : Nat) : Int) := by omega
      rw [this]
      subst hy
      exact IsLen.up (m + s) (by omega) (by omega) (by omega) l2 l3
  have ml : m ≤ 32 := by omega
  unfold lenJ
  by_cases c1 : x / 2 ^ m ≥ 65536
  · rw [if_pos c1]
    by_cases c2 : x / 2 ^ m / 65536 ≥ 256
    · rw [if_pos c2, w_24 m ml]
      exact fin 24 _ d24 (by omega) (by omega) (by omega) (.inl (by omega)) _ (by omega)
    · rw [if_neg c2, w_16 m ml]
      exact fin 16 _ d16 (by omega) (by omega) (by omega) (.inl (by omega)) _ (by omega)
  · rw [if_neg c1]
    by_cases c2 : x / 2 ^ m ≥ 256
    · rw [if_pos c2, w_8 m ml]
      exact fin 8 _ d8 (by omega) (by omega) (by omega) (.inl (by omega)) _ (by omega)
    · rw [if_neg c2]
      exact fin 0 (x / 2 ^ m) (by rw [Nat.add_zero]) (by omega) h0 (by omega) (by rcases hm with h | h; exact .inr (by omega); exact .inl (hb h)) _ (by omega)
set_option maxRecDepth 100000 in
theorem j0_eq (k : Nat) (X m : Int) : bits_Len64.j0 (k + 1) X m = lenJ len8 X m := rfl
theorem len64_j (x : Int) (m : Nat) (hm : m = 0 ∨ m = 32) (k : Nat) (h0 : 0 ≤ x / 2 ^ m) (h1 : x / 2 ^ m < 4294967296) (hb : m = 32 → 0 < x / 2 ^ m) (x0 : 0 ≤ x) :
    ∃ L, bits_Len64.j0 (k + 1) (x / 2 ^ m) (m : Int) = some L ∧ IsLen x L := by
  rw [j0_eq]; exact lenJ_ok len8 (fun x a b => len8_at a b) x m hm h0 h1 hb x0
theorem len64 (x : Int) (h0 : 0 ≤ x) (h1 : x < 18446744073709551616) (k : Nat) : ∃ L, bits_Len64.f (k + 1) x = some L ∧ IsLen x L := by
  unfold bits_Len64.f
  by_cases c : x ≥ 4294967296
  · rw [if_pos c]
    exact len64_j x 32 (.inr rfl) k (by omega) (by omega) (fun _ => by omega) h0
  · rw [if_neg c]
    have := len64_j x 0 (.inl rfl) k (by simpa using h0) (by simp; omega) (fun h => by omega) h0
    simpa using this
theorem lz64 (x : Int) (h0 : 0 < x) (h1 : x < 18446744073709551616) (k : Nat) :
    ∃ s : Nat, bits_LeadingZeros64.f (k + 1) x = some (s : Int) ∧ s ≤ 63 ∧ 9223372036854775808 ≤ x * 2 ^ s ∧ x * 2 ^ s < 18446744073709551616 := by
  obtain ⟨L, e, n, rfl, hn, hlt, hge⟩ := len64 x (by omega) h1 k
  obtain ⟨n1, hle⟩ := hge (by omega)
  refine ⟨64 - n, ?_, by omega, ?_, ?_⟩
  · unfold bits_LeadingZeros64.f
    rw [e]; simp only [Option.bind_some]
    rw [QK (by omega) (by omega)]
    congr 1; omega
  · have p : (2 : Int) ^ (n - 1) * 2 ^ (64 - n) = 9223372036854775808 := by rw [← Int.pow_add, show n - 1 + (64 - n) = 63 by omega]; rfl
    have z : (0 : Int) < 2 ^ (64 - n) := Int.pow_pos (by decide)
    have := Int.mul_le_mul_of_nonneg_right hle (Int.le_of_lt z)
    omega
  · have p : (2 : Int) ^ n * 2 ^ (64 - n) = 18446744073709551616 := by rw [← Int.pow_add, show n + (64 - n) = 64 by omega]; rfl
    have z : (0 : Int) < 2 ^ (64 - n) := Int.pow_pos (by decide)
    have := Int.mul_lt_mul_of_pos_right hlt z
    omega
theorem mask32 {x : Int} (h0 : 0 ≤ x) (h1 : x < 18446744073709551616) : Go.bits .and .u64 x 4294967295 = x % 4294967296 :=
  bits_mask .u64 64 (by decide) (fun n a b => zO a (by omega)) 32 (by decide) x h0 (by omega)
theorem mul64 (a b : Int) (a0 : 0 ≤ a) (a1 : a < 18446744073709551616) (b0 : 0 ≤ b) (b1 : b < 18446744073709551616) :
    bits_Mul64.f a b = some (a * b / 18446744073709551616, a * b % 18446744073709551616) := by
  unfold bits_Mul64.f
  rw [mask32 a0 a1, mask32 b0 b1]
  have ea : a = a / 4294967296 * 4294967296 + a % 4294967296 := by omega
  have eb : b = b / 4294967296 * 4294967296 + b % 4294967296 := by omega
  have ah : 0 ≤ a / 4294967296 ∧ a / 4294967296 ≤ 4294967295 := by omega
  have al : 0 ≤ a % 4294967296 ∧ a % 4294967296 ≤ 4294967295 := by omega
  have bh : 0 ≤ b / 4294967296 ∧ b / 4294967296 ≤ 4294967295 := by omega
  have bl : 0 ≤ b % 4294967296 ∧ b % 4294967296 ≤ 4294967295 := by omega
  generalize a / 4294967296 = p at *
  generalize a % 4294967296 = q at *
  generalize b / 4294967296 = r at *
  generalize b % 4294967296 = s at *
  have e : a * b = (p * r) * 18446744073709551616 + (p * s) * 4294967296 + (q * r) * 4294967296 + q * s := by subst ea eb; grind
  have pr := Zj ah.1 bh.1 ah.2 bh.2
  have ps := Zj ah.1 bl.1 ah.2 bl.2
  have qr := Zj al.1 bh.1 al.2 bh.2
  have qs := Zj al.1 bl.1 al.2 bl.2
  have pr0 := Int.mul_nonneg ah.1 bh.1
  have ps0 := Int.mul_nonneg ah.1 bl.1
  have qr0 := Int.mul_nonneg al.1 bh.1
  have qs0 := Int.mul_nonneg al.1 bl.1
  rw [Jp (a * b), e]
  generalize p * r = A at *
  generalize p * s = B at *
  generalize q * r = C at *
  generalize q * s = D at *
  rw [zO (n := A) pr0 (by omega), zO (n := B) ps0 (by omega), zO (n := C) qr0 (by omega), zO (n := D) qs0 (by omega)]
  rw [zO (n := B + D / 4294967296) (by omega) (by omega)]
  rw [mask32 (by omega) (by omega)]
  rw [zO (n := A + (B + D / 4294967296) / 4294967296) (by omega) (by omega)]
  rw [zO (n := (B + D / 4294967296) % 4294967296 + C) (by omega) (by omega)]
  rw [zO (by omega) (by omega)]
  simp only [Option.some.injEq, Prod.mk.injEq, and_true]
  omega
theorem or_join {x y : Int} (i : Nat) (hx0 : 0 ≤ x) (hx : x % 2 ^ i = 0) (hx1 : x < 18446744073709551616) (hy0 : 0 ≤ y) (hy : y < 2 ^ i) (hy1 : y < 18446744073709551616) : Go.bits .or .u64 x y = x + y :=
  bits_join .u64 64 (by decide) (fun n a b => zO a (by omega)) i x y hx0 hx (by omega) hy0 hy (by omega)
theorem div64 (hi lo y : Int) (h0 : 0 ≤ hi) (h1 : hi < y) (l0 : 0 ≤ lo) (l1 : lo < 18446744073709551616) (y1 : y < 18446744073709551616) :
    Ev (fun k => qF.f k hi lo y) ((hi * 18446744073709551616 + lo) / y, (hi * 18446744073709551616 + lo) % y) := by
  by_cases hz : hi = 0
  · subst hz
    refine Ev.intro 0 fun k => ?_
    simp only [qF.f]
    rw [if_neg (by omega), if_neg (by omega), if_pos trivial, Int.tdiv_eq_ediv_of_nonneg l0, Int.tmod_eq_emod_of_nonneg l0]
    have : lo / y ≤ lo := Int.ediv_le_self y l0
    have := Int.ediv_nonneg l0 (show 0 ≤ y by omega)
    rw [zO (by omega) (by omega)]; simp
  · obtain ⟨s, es, hs, g1, g2⟩ := lz64 y (by omega) y1 0
    have es : ∀ k, bits_LeadingZeros64.f (k + 1) y = some (s : Int) := fun k => at_rounds (bits_LeadingZeros64.mono y) (show 0 + 1 ≤ k + 1 by omega) es
    have PQ : (2 : Int) ^ s * 2 ^ (64 - s) = 18446744073709551616 := by rw [← Int.pow_add, show s + (64 - s) = 64 by omega]; rfl
    have Pp : (0 : Int) < 2 ^ s := Int.pow_pos (by decide)
    have Qp : (0 : Int) < 2 ^ (64 - s) := Int.pow_pos (by decide)
    have hyP : hi * 2 ^ s + 2 ^ s ≤ y * 2 ^ s := by have := Int.mul_le_mul_of_nonneg_right (show hi + 1 ≤ y by omega) (Int.le_of_lt Pp); rw [Int.add_mul] at this; omega
    have hP0 : 0 ≤ hi * 2 ^ s := Int.mul_nonneg h0 (by omega)
    have c1 : IntKind.u64.wrap (s : Int) = s := zO (by omega) (by omega)
    have c2 : IntKind.u64.wrap (64 - (s : Int)) = (64 - s : Nat) := by rw [zO (by omega) (by omega)]; omega
    have t1 : ((s : Int)).toNat = s := by omega
    have t2 : (((64 - s : Nat) : Int)).toNat = 64 - s := by omega
    have s1 : shl .u64 y (s : Int) = y * 2 ^ s := by unfold shl; rw [t1, Nat.min_eq_left (show s ≤ IntKind.u64.bits by show s ≤ 64; omega), zO (by omega) g2]
    have s2 : shl .u64 hi (s : Int) = hi * 2 ^ s := by unfold shl; rw [t1, Nat.min_eq_left (show s ≤ IntKind.u64.bits by show s ≤ 64; omega), zO hP0 (by omega)]
    have s3 : shl .u64 lo (s : Int) = (lo * 2 ^ s) % 18446744073709551616 := by unfold shl; rw [t1, Nat.min_eq_left (show s ≤ IntKind.u64.bits by show s ≤ 64; omega), Jp]
    have s4 : shr .u64 lo ((64 - s : Nat) : Int) = lo / 2 ^ (64 - s) := by unfold shr; rw [t2, Nat.min_eq_left (show 64 - s ≤ IntKind.u64.bits by show 64 - s ≤ 64; omega)]
    have a0 := Int.emod_add_mul_ediv lo (2 ^ (64 - s))
    have a1 := Int.emod_nonneg lo (show (2 : Int) ^ (64 - s) ≠ 0 by omega)
    have a2 := Int.emod_lt_of_pos lo Qp
    have a3 : 0 ≤ lo / 2 ^ (64 - s) := Int.ediv_nonneg l0 (by omega)
    have a4 : lo / 2 ^ (64 - s) < 2 ^ s := Int.ediv_lt_of_lt_mul Qp (by rw [PQ]; exact l1)
    have j1 : Go.bits .or .u64 (hi * 2 ^ s) (lo / 2 ^ (64 - s)) = hi * 2 ^ s + lo / 2 ^ (64 - s) :=
      or_join s hP0 (Int.mul_emod_left _ _) (by omega) a3 a4 (by omega)
    have lo2 : lo * 2 ^ s = (lo / 2 ^ (64 - s)) * 18446744073709551616 + (lo % 2 ^ (64 - s)) * 2 ^ s := by
      have : lo * 2 ^ s = (lo % 2 ^ (64 - s) + 2 ^ (64 - s) * (lo / 2 ^ (64 - s))) * 2 ^ s := by rw [a0]
      rw [this, ← PQ]; grind
    have rs0 : 0 ≤ (lo % 2 ^ (64 - s)) * 2 ^ s := Int.mul_nonneg a1 (by omega)
    have rs1 : (lo % 2 ^ (64 - s)) * 2 ^ s < 18446744073709551616 := by have := Int.mul_lt_mul_of_pos_right a2 Pp; rw [Int.mul_comm (2 ^ (64 - s)), PQ] at this; exact this
    have s3' : shl .u64 lo (s : Int) = (lo % 2 ^ (64 - s)) * 2 ^ s := by rw [s3, lo2]; omega
    have fe : ∀ k, qF.f (k + 1) hi lo y = qF.l0 (k + 1) (y * 2 ^ s) s (y * 2 ^ s / 4294967296) (y * 2 ^ s % 4294967296) (hi * 2 ^ s + lo / 2 ^ (64 - s)) ((lo % 2 ^ (64 - s)) * 2 ^ s / 4294967296) ((lo % 2 ^ (64 - s)) * 2 ^ s % 4294967296) ((hi * 2 ^ s + lo / 2 ^ (64 - s)) / (y * 2 ^ s / 4294967296)) ((hi * 2 ^ s + lo / 2 ^ (64 - s)) - (hi * 2 ^ s + lo / 2 ^ (64 - s)) / (y * 2 ^ s / 4294967296) * (y * 2 ^ s / 4294967296)) := by
      intro k
      simp only [qF.f]
      rw [if_neg (by omega), if_neg (by omega), if_neg hz, es k]
      simp only [Option.bind_some]
      rw [c1, c2, if_pos (by omega), if_pos (by omega), s1, s2, s3', s4, j1, if_neg (by omega)]
      rw [mask32 (by omega) g2, mask32 rs0 rs1]
      have u0 : 0 ≤ hi * 2 ^ s + lo / 2 ^ (64 - s) := by omega
      rw [Int.tdiv_eq_ediv_of_nonneg u0]
      have uu : hi * 2 ^ s + lo / 2 ^ (64 - s) < 18446744073709551616 := by omega
      generalize hi * 2 ^ s + lo / 2 ^ (64 - s) = u at *
      have v1 : 2147483648 ≤ y * 2 ^ s / 4294967296 := by omega
      have qle : u / (y * 2 ^ s / 4294967296) ≤ u := Int.ediv_le_self _ u0
      have q0 : 0 ≤ u / (y * 2 ^ s / 4294967296) := Int.ediv_nonneg u0 (by omega)
      have qm : u / (y * 2 ^ s / 4294967296) * (y * 2 ^ s / 4294967296) ≤ u := Int.ediv_mul_le u (by omega)
      have qm0 : 0 ≤ u / (y * 2 ^ s / 4294967296) * (y * 2 ^ s / 4294967296) := Int.mul_nonneg q0 (by omega)
      rw [zO (n := u / _) q0 (by omega), zO (n := _ * _) qm0 (by omega), zO (n := u - _) (by omega) (by omega)]
    have tot : (hi * 18446744073709551616 + lo) * 2 ^ s = (hi * 2 ^ s + lo / 2 ^ (64 - s)) * 18446744073709551616 + (lo % 2 ^ (64 - s)) * 2 ^ s := by
      rw [Int.add_mul, lo2]; grind
    have hu1 : hi * 2 ^ s + lo / 2 ^ (64 - s) < y * 2 ^ s := by omega
    have hu0 : 0 ≤ hi * 2 ^ s + lo / 2 ^ (64 - s) := by omega
    generalize hi * 2 ^ s + lo / 2 ^ (64 - s) = u at *
    generalize (lo % 2 ^ (64 - s)) * 2 ^ s = z at *
    clear s1 s2 s3 s3' s4 j1 lo2 a0 a1 a2 a3 a4
    have yd : y * 2 ^ s = y * 2 ^ s / 4294967296 * 4294967296 + y * 2 ^ s % 4294967296 := by omega
    have ypos : 0 < y * 2 ^ s := by omega
    have D1 : Dig (y * 2 ^ s) (y * 2 ^ s / 4294967296) (y * 2 ^ s % 4294967296) u (z / 4294967296) ((u * 4294967296 + z / 4294967296) / (y * 2 ^ s)) :=
      ⟨yd, by omega, by omega, by omega, by omega, hu0, hu1, by omega, by omega, Int.ediv_mul_le _ (by omega), Int.lt_ediv_add_one_mul_self _ ypos⟩
    obtain ⟨m1, e1⟩ := l0_ev (s := (s : Int)) (un0 := z % 4294967296) D1 _ _ _ rfl D1.start
    have q1n := D1.Zg
    have q1l := D1.qs_lt
    have q1lo := D1.lo
    have q1hi := D1.hi
    rw [Int.add_mul] at q1hi
    generalize hq1 : (u * 4294967296 + z / 4294967296) / (y * 2 ^ s) = q1 at *
    have u2 : IntKind.u64.wrap ((IntKind.u64.wrap ((IntKind.u64.wrap (u * 4294967296)) + z / 4294967296)) - (IntKind.u64.wrap (q1 * (y * 2 ^ s)))) = u * 4294967296 + z / 4294967296 - q1 * (y * 2 ^ s) := by
      simp only [Jp]; omega
    have D2 : Dig (y * 2 ^ s) (y * 2 ^ s / 4294967296) (y * 2 ^ s % 4294967296) (u * 4294967296 + z / 4294967296 - q1 * (y * 2 ^ s)) (z % 4294967296) (((u * 4294967296 + z / 4294967296 - q1 * (y * 2 ^ s)) * 4294967296 + z % 4294967296) / (y * 2 ^ s)) :=
      ⟨yd, by omega, by omega, by omega, by omega, by omega, by omega, by omega, by omega, Int.ediv_mul_le _ (by omega), Int.lt_ediv_add_one_mul_self _ ypos⟩
    obtain ⟨m2, e2⟩ := l1_ev (s := (s : Int)) (q1 := q1) (by omega) D2 _ _ _ rfl D2.start
    have q2n := D2.Zg
    have q2l := D2.qs_lt
    have q2lo := D2.lo
    have q2hi := D2.hi
    rw [Int.add_mul] at q2hi
    generalize hu2 : u * 4294967296 + z / 4294967296 - q1 * (y * 2 ^ s) = w at *
    generalize hq2 : (w * 4294967296 + z % 4294967296) / (y * 2 ^ s) = q2 at *
    have W : (hi * 18446744073709551616 + lo) * 2 ^ s = (q1 * 4294967296 + q2) * (y * 2 ^ s) + (w * 4294967296 + z % 4294967296 - q2 * (y * 2 ^ s)) := by
      have : (q1 * 4294967296 + q2) * (y * 2 ^ s) = (q1 * (y * 2 ^ s)) * 4294967296 + q2 * (y * 2 ^ s) := by grind
      rw [tot, this]; omega
    have R : w * 4294967296 + z % 4294967296 - q2 * (y * 2 ^ s) = (hi * 18446744073709551616 + lo - (q1 * 4294967296 + q2) * y) * 2 ^ s := by
      have : (hi * 18446744073709551616 + lo - (q1 * 4294967296 + q2) * y) * 2 ^ s = (hi * 18446744073709551616 + lo) * 2 ^ s - (q1 * 4294967296 + q2) * (y * 2 ^ s) := by grind
      rw [this, W]; omega
    have R0 : 0 ≤ hi * 18446744073709551616 + lo - (q1 * 4294967296 + q2) * y := by
      have : 0 * 2 ^ s ≤ (hi * 18446744073709551616 + lo - (q1 * 4294967296 + q2) * y) * 2 ^ s := by rw [← R]; omega
      exact Int.le_of_mul_le_mul_right this Pp
    have R1 : hi * 18446744073709551616 + lo - (q1 * 4294967296 + q2) * y < y := by
      have : (hi * 18446744073709551616 + lo - (q1 * 4294967296 + q2) * y) * 2 ^ s < y * 2 ^ s := by rw [← R]; omega
      exact Int.lt_of_mul_lt_mul_right this (by omega)
    have Q : (hi * 18446744073709551616 + lo) / y = q1 * 4294967296 + q2 ∧ (hi * 18446744073709551616 + lo) % y = hi * 18446744073709551616 + lo - (q1 * 4294967296 + q2) * y := by
      have h := Int.ediv_emod_unique (a := hi * 18446744073709551616 + lo) (b := y) (q := q1 * 4294967296 + q2) (r := hi * 18446744073709551616 + lo - (q1 * 4294967296 + q2) * y) (by omega)
      exact h.2 ⟨by rw [Int.mul_comm y]; omega, R0, R1⟩
    rw [Q.1, Q.2]
    have fin : divEnd (y * 2 ^ s) s q1 w (z % 4294967296) q2 = (q1 * 4294967296 + q2, hi * 18446744073709551616 + lo - (q1 * 4294967296 + q2) * y) := by
      unfold divEnd
      have e3 : IntKind.u64.wrap ((IntKind.u64.wrap ((IntKind.u64.wrap (w * 4294967296)) + z % 4294967296)) - (IntKind.u64.wrap (q2 * (y * 2 ^ s)))) = w * 4294967296 + z % 4294967296 - q2 * (y * 2 ^ s) := by
        simp only [Jp]; omega
      rw [e3, R, zO (n := q1 * 4294967296) (by omega) (by omega), zO (by omega) (by omega)]
      unfold shr
      rw [t1, Nat.min_eq_left (show s ≤ IntKind.u64.bits by show s ≤ 64; omega), Int.mul_ediv_cancel _ (by omega)]
    have st := D2.start
    refine Ev.intro (m1 + m2 + 1 + 1) fun k => ?_
    rw [show k + (m1 + m2 + 1 + 1) = (k + m1 + m2 + 1) + 1 by omega, fe, show k + m1 + m2 + 1 + 1 = (k + m2 + 1 + 1) + m1 by omega, e1]
    simp only [qF.j2]
    rw [if_neg (by omega), u2, Int.tdiv_eq_ediv_of_nonneg (by omega)]
    have s0 := st.ge; have s1 := st.le; have s2 := st.r0; have s3 := st.r1
    have v1 : 2147483648 ≤ y * 2 ^ s / 4294967296 := by omega
    have qm0 : 0 ≤ w / (y * 2 ^ s / 4294967296) * (y * 2 ^ s / 4294967296) := Int.mul_nonneg (by omega) (by omega)
    rw [zO (n := w / (y * 2 ^ s / 4294967296)) (by omega) (by omega), zO (n := _ * _) qm0 (by omega), zO (n := w - _) (by omega) (by omega)]
    rw [show k + m2 + 1 = (k + 1) + m2 by omega, e2, fin]
end Go.Proofs.Ytmlkpadlafjfeaa.P
set_option linter.unusedVariables false
set_option linter.unusedSimpArgs false
namespace Go.Proofs.Ytmlkpadlafjfeaa.P
open Go Go.RowKit Go.Proofs.YtmlkpadlafjfeaaW.PrintWords Go.Proofs.YtmlkpadlafjfeaaW.PrintLast Go.Proofs.YtmlkpadlafjfeaaW.PrintMore
def jB (n : Int) : Int := if n < 0 then -n else n
theorem ZY (n : Int) : 0 ≤ jB n := by unfold jB; split <;> omega
theorem absI_nat (n : Int) : jB n = (n.natAbs : Int) := by unfold jB; split <;> omega
theorem absI_mul (a b : Int) : jB (a * b) = jB a * jB b := by rw [absI_nat, absI_nat, absI_nat, Int.natAbs_mul]; simp
def I64 (n : Int) : Prop := -9223372036854775808 ≤ n ∧ n ≤ 9223372036854775807
theorem JW {n : Int} (h : I64 n) : jB n ≤ 9223372036854775808 := by unfold jB; obtain ⟨h0, h1⟩ := h; split <;> omega
theorem size_f {n : Int} (h : I64 n) : jS.f n = some (jB n) := by
  obtain ⟨h0, h1⟩ := h
  unfold jS.f jB
  split
  · congr 1; rw [Jp, Jp]; omega
  · congr 1; exact zO (by omega) (by omega)
theorem times_f {a b : Int} (ha : I64 a) (hb : I64 b) :
    QP.f a b = some (jB a * jB b / 18446744073709551616, jB a * jB b % 18446744073709551616, ((decide (a < 0)) != (decide (b < 0)))) := by
  unfold QP.f
  have a1 := JW ha; have b1 := JW hb
  rw [size_f ha, size_f hb]; simp only [Option.bind_some]
  rw [mul64 _ _ (ZY a) (by omega) (ZY b) (by omega)]; rfl
def nearest (n d : Int) : Int := (2 * n + d) / (2 * d)
theorem nearest_eq (n d : Int) (hd : 0 < d) : nearest n d = if 2 * (n % d) ≥ d then n / d + 1 else n / d := by
  unfold nearest
  have e := Int.emod_add_mul_ediv n d
  have r0 := Int.emod_nonneg n (show d ≠ 0 by omega)
  have r1 := Int.emod_lt_of_pos n hd
  generalize n % d = r at *
  generalize n / d = q at *
  subst e
  have : (2 * (r + d * q) + d) = (2 * r + d) + q * (2 * d) := by grind
  rw [this, Int.add_mul_ediv_right _ _ (by omega)]
  split
  · have : (2 * r + d) / (2 * d) = 1 := by
      rw [Int.ediv_eq_iff_of_pos (by omega)]; omega
    omega
  · have : (2 * r + d) / (2 * d) = 0 := Int.ediv_eq_zero_of_lt (by omega) (by omega)
    omega
def mulDneg (a b c : Int) : Bool := ((decide (a < 0)) != (decide (b < 0))) != (decide (c < 0))
def mulD (a b c : Int) : Int × Int :=
  if c = 0 then (0, 14) else
  if nearest (jB a * jB b) (jB c) > 2147483647 then (0, 14) else
  if mulDneg a b c = true then (-(nearest (jB a * jB b) (jB c)), 0) else (nearest (jB a * jB b) (jB c), 0)
theorem Qq {n d : Int} (h0 : 0 ≤ n) (hd : 0 < d) : 0 ≤ nearest n d := by unfold nearest; exact Int.ediv_nonneg (by omega) (by omega)
theorem qao {c q : Int} (h0 : 0 ≤ q) (hq : q < 18446744073709551616) (x y : Int) (m : Bool) (k : Nat) :
    qQ.j2 (k + 1) c q x y m = some (if q > 2147483647 then (0, 14) else if (m != decide (c < 0)) = true then (-q, 0) else (q, 0)) := by
  simp only [qQ.j2]
  split
  · rfl
  · rename_i h
    rw [QK (n := q) (by omega) (by omega), QK (n := -q) (by omega) (by omega)]
    split <;> rfl
theorem mulDiv_ev {a b c : Int} (ha : I64 a) (hb : I64 b) (hc : I64 c) : Ev (fun k => qQ.f k a b c) (mulD a b c) := by
  unfold qQ.f
  rw [times_f ha hb, size_f hc]; simp only [Option.bind_some]
  unfold mulD
  have a0 := ZY a; have b0 := ZY b
  have n0 : 0 ≤ jB a * jB b := Int.mul_nonneg a0 b0
  have n1 : jB a * jB b ≤ 9223372036854775808 * 9223372036854775808 := Zj a0 b0 (JW ha) (JW hb)
  by_cases hz : c = 0
  · simp only [if_pos hz]
    exact Ev.intro 1 fun k => by simp only [qQ.j0]; rfl
  · simp only [if_neg hz]
    have d0 : 0 < jB c := by unfold jB; split <;> omega
    have d1 := JW hc
    have hn : ((((decide (a < 0)) != (decide (b < 0))) != (decide (c < 0))) = true) = (mulDneg a b c = true) := rfl
    generalize hm : ((decide (a < 0)) != (decide (b < 0))) = m
    rw [hm] at hn
    generalize jB a * jB b = n at *
    generalize jB c = d at *
    have q0 := Qq n0 d0
    by_cases hh : n / 18446744073709551616 ≥ d
    · have big : nearest n d > 2147483647 := by
        have : 18446744073709551616 * d ≤ n := by omega
        have h1 : 2147483648 * (2 * d) ≤ 2 * n + d := by omega
        have : 2147483648 ≤ nearest n d := by unfold nearest; exact Int.le_ediv_of_mul_le (by omega) h1
        omega
      rw [if_pos big]
      exact Ev.intro 1 fun k => by simp only [qQ.j0, decide_eq_true hh]; rfl
    · have e := div64 (n / 18446744073709551616) (n % 18446744073709551616) d (by omega) (by omega) (by omega) (by omega) (by omega)
      have en : n / 18446744073709551616 * 18446744073709551616 + n % 18446744073709551616 = n := by omega
      rw [en] at e
      have ne := nearest_eq n d d0
      have r0 := Int.emod_nonneg n (show d ≠ 0 by omega)
      have r1 := Int.emod_lt_of_pos n d0
      have t0 : 0 ≤ n / d := Int.ediv_nonneg n0 (by omega)
      have t1 : n / d < 18446744073709551616 := Int.ediv_lt_of_lt_mul d0 (by omega)
      refine Ev.shift 1 (f := fun k => qQ.j0 (k + 1) c d (decide (n / 18446744073709551616 ≥ d)) (n / 18446744073709551616) (n % 18446744073709551616) m) (fun k => rfl) ?_
      simp only [qQ.j0]
      rw [decide_eq_false hh]
      simp only [Bool.false_eq_true, if_false]
      refine Ev.bind e ?_
      rw [zO (n := d - n % d) (by omega) (by omega)]
      by_cases h2 : n % d ≥ d - n % d
      · simp only [if_pos h2]
        rw [if_pos (show 2 * (n % d) ≥ d by omega)] at ne
        by_cases h3 : n / d ≤ 2147483647
        · refine Ev.intro 2 fun k => ?_
          simp only [decide_eq_true h3]
          rw [show k + 2 = (k + 1) + 1 from rfl]; simp only [qQ.j1, if_true]
          rw [zO (n := n / d + 1) (by omega) (by omega), qao (by omega) (by omega), ← ne]
          simp only [hn]
        · refine Ev.intro 2 fun k => ?_
          simp only [decide_eq_false h3]
          rw [show k + 2 = (k + 1) + 1 from rfl]; simp only [qQ.j1, Bool.false_eq_true, if_false]
          rw [qao t0 t1, if_pos (by omega), if_pos (by omega)]
      · simp only [if_neg h2]
        rw [if_neg (show ¬ 2 * (n % d) ≥ d by omega)] at ne
        refine Ev.intro 2 fun k => ?_
        rw [show k + 2 = (k + 1) + 1 from rfl]; simp only [qQ.j1, Bool.false_eq_true, if_false]
        rw [qao t0 t1, ← ne]
        simp only [hn]
end Go.Proofs.Ytmlkpadlafjfeaa.P
set_option linter.unusedVariables false
set_option linter.unusedSimpArgs false
namespace Go.Proofs.Ytmlkpadlafjfeaa.P
open Go Go.RowKit Go.Proofs.YtmlkpadlafjfeaaW.PrintWords Go.Proofs.YtmlkpadlafjfeaaW.PrintLast Go.Proofs.YtmlkpadlafjfeaaW.PrintMore
theorem w64 {n : Int} (h0 : -9223372036854775808 ≤ n) (h1 : n ≤ 9223372036854775807) : wrap64 n = n := by unfold wrap64; omega
theorem QM {i : Nat} (h : i ≤ 9000000000000000000) : wrap64 ((i : Int) + 1) = ((i + 1 : Nat) : Int) := by rw [w64 (by omega) (by omega)]; omega
theorem Zk {l : List S40} {i : Nat} (h : i < l.length) : qb l (i : Int) = l[i] := by unfold qb; rw [Int.toNat_natCast, List.getD_eq_getElem?_getD, List.getElem?_eq_getElem h]; rfl
theorem rd35 {l : List S35} {i : Nat} (h : i < l.length) : qG l (i : Int) = l[i] := by unfold qG; rw [Int.toNat_natCast, List.getD_eq_getElem?_getD, List.getElem?_eq_getElem h]; rfl
theorem Ev.to {α : Type} {g : Nat → Option α} {r r' : α} (h : Ev g r) (e : r = r') : Ev g r' := e ▸ h
def QO (n : Int) : Prop := -2147483647 ≤ n ∧ n ≤ 2147483647
def Bd (n A : Int) : Prop := -A ≤ n ∧ n ≤ A
theorem Bd.add {a b A B : Int} (h : Bd a A) (h' : Bd b B) : Bd (a + b) (A + B) := by unfold Bd at *; omega
theorem Bd.mul {a A j : Int} (h : Bd a A) (hj : 0 ≤ j) : Bd (a * j) (A * j) := by
  refine ⟨?_, Int.mul_le_mul_of_nonneg_right h.2 hj⟩
  rw [← Int.neg_mul]
  exact Int.mul_le_mul_of_nonneg_right h.1 hj
theorem Bd.wide {a A B : Int} (h : Bd a A) (hb : A ≤ B) : Bd a B := by unfold Bd at *; omega
theorem Bd.mulc {a A j : Int} (J : Int) (h : Bd a A) (hA : 0 ≤ A) (hj : 0 ≤ j) (hJ : j ≤ J) : Bd (a * j) (A * J) := (h.mul hj).wide (Int.mul_le_mul_of_nonneg_left hJ hA)
theorem Bd.w {a A : Int} (h : Bd a A) (hA : A ≤ 9223372036854775807) : wrap64 a = a := w64 (by have := h.1; omega) (by have := h.2; omega)
def QS (a b : Int) : Int := if a < 0 then -nearest (-a) b else nearest a b
theorem QY {n d M : Int} (hd : 0 < d) (h : n ≤ M * d) (hM : 0 ≤ M) : nearest n d ≤ M := by
  unfold nearest
  have : (2 * n + d) / (2 * d) < M + 1 := Int.ediv_lt_of_lt_mul (by omega) (by rw [Int.add_mul, Int.one_mul, show M * (2 * d) = 2 * (M * d) by rw [Int.mul_left_comm]]; omega)
  omega
theorem ZH {a b : Int} (hb : 0 < b) (h : Bd a (2147483647 * b)) : QO (QS a b) := by
  unfold QS
  split
  · have := QY hb (n := -a) (M := 2147483647) (by have := h.1; omega) (by omega)
    have := Qq (n := -a) (d := b) (by omega) hb
    unfold QO; omega
  · have := QY hb (n := a) (M := 2147483647) h.2 (by omega)
    have := Qq (n := a) (d := b) (by omega) hb
    unfold QO; omega
theorem Jl {a b : Int} (hb : 0 < b) (hb1 : b ≤ 4294967296) (h : Bd a (2147483647 * b)) : Ev (fun k => jb.f k a b) (QS a b) := by
  unfold jb.f
  have h0 := h.1; have h1 := h.2
  refine Ev.bind (mulDiv_ev (a := a) (b := 1) (c := b) (by unfold I64; omega) (by unfold I64; omega) (by unfold I64; omega)) ?_
  have e1 : jB 1 = 1 := by decide
  have eb : jB b = b := by unfold jB; rw [if_neg (by omega)]
  have ea : jB a = if a < 0 then -a else a := rfl
  unfold mulD
  rw [if_neg (by omega), e1, eb, Int.mul_one]
  have lm : nearest (jB a) b ≤ 2147483647 := QY hb (by unfold jB; split <;> omega) (by omega)
  rw [if_neg (by omega)]
  unfold mulDneg QS
  by_cases c : a < 0
  · rw [decide_eq_true c, decide_eq_false (show ¬ (1 : Int) < 0 by omega), decide_eq_false (show ¬ b < 0 by omega), if_pos c, ea, if_pos c]
    exact Ev.now _
  · rw [decide_eq_false c, decide_eq_false (show ¬ (1 : Int) < 0 by omega), decide_eq_false (show ¬ b < 0 by omega), if_neg c, ea, if_neg c]
    exact Ev.now _
theorem qaU {a b : Int} (hb : 0 < b) : nearest (a * b) b = a := by
  unfold nearest
  rw [Int.ediv_eq_iff_of_pos (by omega)]
  have e1 : a * (2 * b) = 2 * (a * b) := by rw [Int.mul_left_comm]
  constructor
  · rw [e1]; omega
  · rw [e1]; omega
theorem JB {a b : Int} (hb : 0 < b) : QS (a * b) b = a := by
  unfold QS
  split
  · rw [← Int.neg_mul, qaU hb]; omega
  · exact qaU hb
def QQ (x : S40) : Prop := QO x.f0 ∧ QO x.f1
def zA (x : S35) : Prop := QO x.f0 ∧ QO x.f1
def sp (x : S40) : S35 := ⟨x.f0, x.f1⟩
theorem Z0 {x : S40} (h : QQ x) : zA (sp x) := h
def Ze (a b : S40) : S35 := ⟨QS (a.f0 + b.f0) 2, QS (a.f1 + b.f1) 2⟩
theorem mid_fix {a b : S40} (ha : QQ a) (hb : QQ b) : zA (Ze a b) := by
  obtain ⟨⟨a0, a1⟩, a2, a3⟩ := ha
  obtain ⟨⟨b0, b1⟩, b2, b3⟩ := hb
  exact ⟨ZH (by omega) ⟨by omega, by omega⟩, ZH (by omega) ⟨by omega, by omega⟩⟩
theorem mid_ev {a b : S40} (ha : QQ a) (hb : QQ b) : Ev (fun k => zL.f k a.f0 a.f1 a.f2 b.f0 b.f1 b.f2) ((Ze a b).f0, (Ze a b).f1) := by
  obtain ⟨⟨a0, a1⟩, a2, a3⟩ := ha
  obtain ⟨⟨b0, b1⟩, b2, b3⟩ := hb
  unfold zL.f
  rw [w64 (n := a.f0 + b.f0) (by omega) (by omega), w64 (n := a.f1 + b.f1) (by omega) (by omega)]
  exact Ev.bind (Jl (by omega) (by omega) ⟨by omega, by omega⟩) (Ev.bind (Jl (by omega) (by omega) ⟨by omega, by omega⟩) (Ev.now _))
theorem size_abs {n : Int} (h : Bd n 9000000000000000000) : Qu.f n = some (jB n) := by
  unfold Qu.f
  have h0 := h.1; have h1 := h.2
  rw [w64 (n := -n) (by omega) (by omega)]
  unfold mx jB
  congr 1
  split <;> split <;> omega
def jc (a b c : S35) : Int := jB (a.f0 - 2 * b.f0 + c.f0) + jB (a.f1 - 2 * b.f1 + c.f1)
theorem absI_b {n A : Int} (h : Bd n A) : 0 ≤ jB n ∧ jB n ≤ A := by unfold jB; unfold Bd at h; split <;> omega
theorem JS {a b c : S35} (ha : zA a) (hb : zA b) (hc : zA c) : 0 ≤ jc a b c ∧ jc a b c ≤ 17179869176 := by
  obtain ⟨⟨a0, a1⟩, a2, a3⟩ := ha
  obtain ⟨⟨b0, b1⟩, b2, b3⟩ := hb
  obtain ⟨⟨c0, c1⟩, c2, c3⟩ := hc
  have h1 := absI_b (n := a.f0 - 2 * b.f0 + c.f0) (A := 8589934588) ⟨by omega, by omega⟩
  have h2 := absI_b (n := a.f1 - 2 * b.f1 + c.f1) (A := 8589934588) ⟨by omega, by omega⟩
  unfold jc; omega
theorem bend_f {a b c : S35} (ha : zA a) (hb : zA b) (hc : zA c) : jv.f a.f0 a.f1 b.f0 b.f1 c.f0 c.f1 = some (jc a b c) := by
  have hbb := JS ha hb hc
  obtain ⟨⟨a0, a1⟩, a2, a3⟩ := ha
  obtain ⟨⟨b0, b1⟩, b2, b3⟩ := hb
  obtain ⟨⟨c0, c1⟩, c2, c3⟩ := hc
  unfold jv.f
  rw [w64 (n := 2 * b.f0) (by omega) (by omega), w64 (n := 2 * b.f1) (by omega) (by omega), w64 (n := a.f0 - 2 * b.f0) (by omega) (by omega), w64 (n := a.f1 - 2 * b.f1) (by omega) (by omega), w64 (n := a.f0 - 2 * b.f0 + c.f0) (by omega) (by omega), w64 (n := a.f1 - 2 * b.f1 + c.f1) (by omega) (by omega)]
  rw [size_abs ⟨by omega, by omega⟩, Option.bind_some, size_abs ⟨by omega, by omega⟩, Option.bind_some]
  unfold jc at hbb ⊢
  rw [w64 (by omega) (by omega)]
def jQ (d : Int) : Nat := if d ≤ 4 then 1 else if d ≤ 16 then 2 else if d ≤ 64 then 4 else if d ≤ 256 then 8 else 16
theorem partsV_in (d : Int) : jQ d = 1 ∨ jQ d = 2 ∨ jQ d = 4 ∨ jQ d = 8 ∨ jQ d = 16 := by
  unfold jQ; repeat' split
  all_goals simp
theorem Qt (d : Int) : 1 ≤ jQ d ∧ jQ d ≤ 16 := by have := partsV_in d; omega
theorem parts_ev (d : Int) : Ev (fun k => zz.f k d) (jQ d : Int) := by
  unfold zz.f
  refine ⟨5, fun k hk => ?_⟩
  obtain ⟨k, rfl⟩ : ∃ q, k = q + 5 := ⟨k - 5, by omega⟩
  have e1 : wrap64 (wrap64 (4 * 1) * 1) = 4 := by decide +kernel
  have e2 : wrap64 (wrap64 (4 * 2) * 2) = 16 := by decide +kernel
  have e3 : wrap64 (wrap64 (4 * 4) * 4) = 64 := by decide +kernel
  have e4 : wrap64 (wrap64 (4 * 8) * 8) = 256 := by decide +kernel
  have f1 : wrap64 (1 * 2) = 2 := by decide +kernel
  have f2 : wrap64 (2 * 2) = 4 := by decide +kernel
  have f3 : wrap64 (4 * 2) = 8 := by decide +kernel
  have f4 : wrap64 (8 * 2) = 16 := by decide +kernel
  have g (j : Nat) : zz.l0 (j + 1) d 16 = some 16 := by simp only [zz.l0]; rfl
  unfold jQ
  show zz.l0 (k + 4 + 1) d 1 = _
  rw [zz.l0, if_pos (by omega), e1, f1]
  by_cases c1 : d ≤ 4
  · rw [if_neg (by omega), if_pos c1]; rfl
  rw [if_pos (by omega), if_neg c1]
  show zz.l0 (k + 3 + 1) d 2 = _
  rw [zz.l0, if_pos (by omega), e2, f2]
  by_cases c2 : d ≤ 16
  · rw [if_neg (by omega), if_pos c2]; rfl
  rw [if_pos (by omega), if_neg c2]
  show zz.l0 (k + 2 + 1) d 4 = _
  rw [zz.l0, if_pos (by omega), e3, f3]
  by_cases c3 : d ≤ 64
  · rw [if_neg (by omega), if_pos c3]; rfl
  rw [if_pos (by omega), if_neg c3]
  show zz.l0 (k + 1 + 1) d 8 = _
  rw [zz.l0, if_pos (by omega), e4, f4]
  by_cases c4 : d ≤ 256
  · rw [if_neg (by omega), if_pos c4]; rfl
  rw [if_pos (by omega), if_neg c4]
  exact g k
def q1 (a c b n i : Int) : Int := a * (n - i) * (n - i) + 2 * c * i * (n - i) + b * i * i
theorem q1_bd {a c b n i : Int} (ha : QO a) (hc : QO c) (hb : QO b) (h0 : 0 ≤ i) (h1 : i ≤ n) : Bd (q1 a c b n i) (2147483647 * (n * n)) := by
  unfold q1
  obtain ⟨j, hj⟩ : ∃ j, j = n - i := ⟨_, rfl⟩
  rw [← hj]
  have j0 : 0 ≤ j := by omega
  have A := (show Bd a 2147483647 from ⟨ha.1, ha.2⟩).mul (Int.mul_nonneg j0 j0)
  have C := (show Bd c 2147483647 from ⟨hc.1, hc.2⟩).mul (show 0 ≤ 2 * (i * j) by have := Int.mul_nonneg h0 j0; omega)
  have B := (show Bd b 2147483647 from ⟨hb.1, hb.2⟩).mul (Int.mul_nonneg h0 h0)
  have S := (A.add C).add B
  have e1 : a * j * j + 2 * c * i * j + b * i * i = a * (j * j) + c * (2 * (i * j)) + b * (i * i) := by grind
  have e2 : 2147483647 * (j * j) + 2147483647 * (2 * (i * j)) + 2147483647 * (i * i) = 2147483647 * (n * n) := by
    have : n = i + j := by omega
    subst this; grind
  rw [e1, ← e2]; exact S
theorem qX_q1 {a c b n i : Int} (ha : QO a) (hc : QO c) (hb : QO b) (h0 : 0 ≤ i) (h1 : i ≤ n) (hn : n ≤ 16) : qX a c b n i = q1 a c b n i := by
  unfold qX q1
  obtain ⟨j, hj⟩ : ∃ j, j = n - i := ⟨_, rfl⟩
  rw [← hj]
  have A1 := (show Bd a 2147483647 from ⟨ha.1, ha.2⟩).mulc (j := j) 16 (by omega) (by omega) (by omega)
  have A2 := A1.mulc (j := j) 16 (by omega) (by omega) (by omega)
  have C0 : Bd (2 * c) 4294967294 := ⟨by have := hc.1; omega, by have := hc.2; omega⟩
  have C1 := C0.mulc (j := i) 16 (by omega) (by omega) (by omega)
  have C2 := C1.mulc (j := j) 16 (by omega) (by omega) (by omega)
  have B1 := (show Bd b 2147483647 from ⟨hb.1, hb.2⟩).mulc (j := i) 16 (by omega) (by omega) (by omega)
  have B2 := B1.mulc (j := i) 16 (by omega) (by omega) (by omega)
  rw [A1.w (by decide), A2.w (by decide), C0.w (by decide), C1.w (by decide), C2.w (by decide), B1.w (by decide), B2.w (by decide), (A2.add C2).w (by decide), ((A2.add C2).add B2).w (by decide)]
theorem sq_w {n : Int} (h0 : 0 ≤ n) (hn : n ≤ 16) : wrap64 (n * n) = n * n := ((show Bd n 16 from ⟨by omega, by omega⟩).mulc (j := n) 16 (by omega) h0 hn).w (by decide)
theorem cu_w {n : Int} (h0 : 0 ≤ n) (hn : n ≤ 16) : wrap64 (wrap64 (n * n) * n) = n * n * n := by
  rw [sq_w h0 hn]
  exact (((show Bd n 16 from ⟨by omega, by omega⟩).mulc (j := n) 16 (by omega) h0 hn).mulc (j := n) 16 (by omega) h0 hn).w (by decide)
def qP (a c b : S35) (n i : Int) : S35 := ⟨QS (q1 a.f0 c.f0 b.f0 n i) (n * n), QS (q1 a.f1 c.f1 b.f1 n i) (n * n)⟩
theorem sq_b {n : Int} (h0 : 1 ≤ n) (hn : n ≤ 16) : 0 < n * n ∧ n * n ≤ 256 := by
  have h1 : 1 * 1 ≤ n * n := Int.mul_le_mul h0 h0 (by omega) (by omega)
  have h2 : n * n ≤ 16 * 16 := Int.mul_le_mul hn hn (by omega) (by omega)
  omega
theorem cu_b {n : Int} (h0 : 1 ≤ n) (hn : n ≤ 16) : 0 < n * n * n ∧ n * n * n ≤ 4096 := by
  have := sq_b h0 hn
  have h1 : 1 * 1 ≤ n * n * n := Int.mul_le_mul (by omega) h0 (by omega) (by omega)
  have h2 : n * n * n ≤ 256 * 16 := Int.mul_le_mul (by omega) hn (by omega) (by omega)
  omega
theorem qP_fix {a c b : S35} {n i : Int} (ha : zA a) (hc : zA c) (hb : zA b) (h0 : 0 ≤ i) (h1 : i ≤ n) (n1 : 1 ≤ n) (hn : n ≤ 16) : zA (qP a c b n i) :=
  ⟨ZH (sq_b n1 hn).1 (q1_bd ha.1 hc.1 hb.1 h0 h1), ZH (sq_b n1 hn).1 (q1_bd ha.2 hc.2 hb.2 h0 h1)⟩
theorem qP_end {a c b : S35} {n : Int} (n1 : 1 ≤ n) (hn : n ≤ 16) : qP a c b n n = b := by
  have h (x y z : Int) : q1 x y z n n = z * (n * n) := by unfold q1; rw [Int.sub_self, Int.mul_zero, Int.mul_zero, Int.mul_assoc]; omega
  unfold qP
  rw [h, h, JB (sq_b n1 hn).1, JB (sq_b n1 hn).1]
def qPs (a c b : S35) (n : Int) : Nat → Int → List S35
  | 0, _ => []
  | m + 1, i => qP a c b n i :: qPs a c b n m (i + 1)
theorem qL_ev {a c b : S35} {n : Int} (ha : zA a) (hc : zA c) (hb : zA b) (n1 : 1 ≤ n) (hn : n ≤ 16) : ∀ (m : Nat) (i : Int), 0 ≤ i → i + m ≤ n + 1 → Ev (fun k => qL k a.f0 a.f1 c.f0 c.f1 b.f0 b.f1 n m i) (qPs a c b n m i)
  | 0, i, _, _ => Ev.now _
  | m + 1, i, h0, h1 => by
    have hi : i ≤ n := by omega
    simp only [qL, qPs]
    have hs := sq_b n1 hn
    rw [qX_q1 ha.1 hc.1 hb.1 h0 hi hn, qX_q1 ha.2 hc.2 hb.2 h0 hi hn, sq_w (by omega) hn]
    exact Ev.bind (Jl hs.1 (by omega) (q1_bd ha.1 hc.1 hb.1 h0 hi)) (Ev.bind (Jl hs.1 (by omega) (q1_bd ha.2 hc.2 hb.2 h0 hi)) (Ev.bind (qL_ev ha hc hb n1 hn m (i + 1) (by omega) (by omega)) (Ev.now _)))
def QL (a c b : S35) : List S35 := qPs a c b (jQ (jc a c b)) (jQ (jc a c b)) 1
theorem quad_ev {a c b : S35} (ha : zA a) (hc : zA c) (hb : zA b) : Ev (fun k => Zz k a.f0 a.f1 c.f0 c.f1 b.f0 b.f1) (QL a c b) := by
  unfold Zz
  rw [bend_f ha hc hb]
  simp only [Option.bind_some]
  have hp := Qt (jc a c b)
  refine Ev.bind (parts_ev (jc a c b)) ?_
  simp only [if_pos (show (0 : Int) ≤ (jQ (jc a c b) : Int) ∧ (jQ (jc a c b) : Int) ≤ 100 by omega), Int.toNat_natCast]
  exact qL_ev ha hc hb (by omega) (by omega) _ _ (by omega) (by omega)
theorem qPs_len {a c b : S35} {n : Int} : ∀ (m : Nat) (i : Int), (qPs a c b n m i).length = m
  | 0, _ => rfl
  | m + 1, i => by simp only [qPs, List.length_cons, qPs_len m]
theorem qPs_last {a c b : S35} {n : Int} : ∀ (m : Nat) (i : Int), (qPs a c b n (m + 1) i).getLast? = some (qP a c b n (i + m))
  | 0, i => by simp [qPs]
  | m + 1, i => by
    have h := qPs_last (a := a) (c := c) (b := b) (n := n) m (i + 1)
    rw [qPs]
    have e : qPs a c b n (m + 1) (i + 1) ≠ [] := by simp [qPs]
    rw [List.getLast?_cons, h]
    simp only [Option.getD_some]
    rw [show i + 1 + (m : Int) = i + ((m + 1 : Nat) : Int) by omega]
theorem qPs_fix {a c b : S35} {n : Int} (ha : zA a) (hc : zA c) (hb : zA b) (n1 : 1 ≤ n) (hn : n ≤ 16) : ∀ (m : Nat) (i : Int), 0 ≤ i → i + m ≤ n + 1 → ∀ x ∈ qPs a c b n m i, zA x
  | 0, i, _, _ => by simp [qPs]
  | m + 1, i, h0, h1 => by
    intro x hx
    rw [qPs] at hx
    rcases List.mem_cons.1 hx with e | e
    · rw [e]; exact qP_fix ha hc hb h0 (by omega) n1 hn
    · exact qPs_fix ha hc hb n1 hn m (i + 1) (by omega) (by omega) x e
theorem ZJ (a c b : S35) : 1 ≤ (QL a c b).length ∧ (QL a c b).length ≤ 16 := by unfold QL; rw [qPs_len]; exact Qt _
theorem quadV_last (a c b : S35) : (QL a c b).getLast? = some b := by
  unfold QL
  have hp := Qt (jc a c b)
  generalize jQ (jc a c b) = n at hp
  obtain ⟨m, rfl⟩ : ∃ m, n = m + 1 := ⟨n - 1, by omega⟩
  rw [qPs_last, show (1 : Int) + (m : Int) = ((m + 1 : Nat) : Int) by omega, qP_end (by omega) (by omega)]
theorem qaT (a c b : S35) (x y : Int) : Qj x y (QL a c b) = b := by unfold Qj; rw [quadV_last]; rfl
theorem quadV_fix {a c b : S35} (ha : zA a) (hc : zA c) (hb : zA b) : ∀ x ∈ QL a c b, zA x := by
  have hp := Qt (jc a c b)
  exact qPs_fix ha hc hb (by omega) (by omega) _ _ (by omega) (by omega)
def c1 (a c d b n i : Int) : Int := a * (n - i) * (n - i) * (n - i) + 3 * c * i * (n - i) * (n - i) + 3 * d * i * i * (n - i) + b * i * i * i
theorem c1_bd {a c d b n i : Int} (ha : QO a) (hc : QO c) (hd : QO d) (hb : QO b) (h0 : 0 ≤ i) (h1 : i ≤ n) : Bd (c1 a c d b n i) (2147483647 * (n * n * n)) := by
  unfold c1
  obtain ⟨j, hj⟩ : ∃ j, j = n - i := ⟨_, rfl⟩
  rw [← hj]
  have j0 : 0 ≤ j := by omega
  have ij := Int.mul_nonneg h0 j0
  have A := (show Bd a 2147483647 from ⟨ha.1, ha.2⟩).mul (Int.mul_nonneg (Int.mul_nonneg j0 j0) j0)
  have C := (show Bd c 2147483647 from ⟨hc.1, hc.2⟩).mul (show 0 ≤ 3 * (i * j * j) by have := Int.mul_nonneg ij j0; omega)
  have D := (show Bd d 2147483647 from ⟨hd.1, hd.2⟩).mul (show 0 ≤ 3 * (i * j * i) by have := Int.mul_nonneg ij h0; omega)
  have B := (show Bd b 2147483647 from ⟨hb.1, hb.2⟩).mul (Int.mul_nonneg (Int.mul_nonneg h0 h0) h0)
  have S := ((A.add C).add D).add B
  have e1 : a * j * j * j + 3 * c * i * j * j + 3 * d * i * i * j + b * i * i * i = a * (j * j * j) + c * (3 * (i * j * j)) + d * (3 * (i * j * i)) + b * (i * i * i) := by grind
  have e2 : 2147483647 * (j * j * j) + 2147483647 * (3 * (i * j * j)) + 2147483647 * (3 * (i * j * i)) + 2147483647 * (i * i * i) = 2147483647 * (n * n * n) := by
    have : n = i + j := by omega
    subst this; grind
  rw [e1, ← e2]; exact S
theorem cXj_c1 {a c d b n i : Int} (ha : QO a) (hc : QO c) (hd : QO d) (hb : QO b) (h0 : 0 ≤ i) (h1 : i ≤ n) (hn : n ≤ 16) : cXj a c d b i (n - i) = c1 a c d b n i := by
  unfold cXj c1
  obtain ⟨j, hj⟩ : ∃ j, j = n - i := ⟨_, rfl⟩
  rw [← hj]
  have A1 := (show Bd a 2147483647 from ⟨ha.1, ha.2⟩).mulc (j := j) 16 (by omega) (by omega) (by omega)
  have A2 := A1.mulc (j := j) 16 (by omega) (by omega) (by omega)
  have A3 := A2.mulc (j := j) 16 (by omega) (by omega) (by omega)
  have C0 : Bd (3 * c) 6442450941 := ⟨by have := hc.1; omega, by have := hc.2; omega⟩
  have C1 := C0.mulc (j := i) 16 (by omega) (by omega) (by omega)
  have C2 := C1.mulc (j := j) 16 (by omega) (by omega) (by omega)
  have C3 := C2.mulc (j := j) 16 (by omega) (by omega) (by omega)
  have D0 : Bd (3 * d) 6442450941 := ⟨by have := hd.1; omega, by have := hd.2; omega⟩
  have D1 := D0.mulc (j := i) 16 (by omega) (by omega) (by omega)
  have D2 := D1.mulc (j := i) 16 (by omega) (by omega) (by omega)
  have D3 := D2.mulc (j := j) 16 (by omega) (by omega) (by omega)
  have B1 := (show Bd b 2147483647 from ⟨hb.1, hb.2⟩).mulc (j := i) 16 (by omega) (by omega) (by omega)
  have B2 := B1.mulc (j := i) 16 (by omega) (by omega) (by omega)
  have B3 := B2.mulc (j := i) 16 (by omega) (by omega) (by omega)
  rw [A1.w (by decide), A2.w (by decide), A3.w (by decide), C0.w (by decide), C1.w (by decide), C2.w (by decide), C3.w (by decide), D0.w (by decide), D1.w (by decide), D2.w (by decide), D3.w (by decide), B1.w (by decide), B2.w (by decide), B3.w (by decide), (A3.add C3).w (by decide), ((A3.add C3).add D3).w (by decide), (((A3.add C3).add D3).add B3).w (by decide)]
def cP (a c d b : S35) (n i : Int) : S35 := ⟨QS (c1 a.f0 c.f0 d.f0 b.f0 n i) (n * n * n), QS (c1 a.f1 c.f1 d.f1 b.f1 n i) (n * n * n)⟩
theorem cP_fix {a c d b : S35} {n i : Int} (ha : zA a) (hc : zA c) (hd : zA d) (hb : zA b) (h0 : 0 ≤ i) (h1 : i ≤ n) (n1 : 1 ≤ n) (hn : n ≤ 16) : zA (cP a c d b n i) :=
  ⟨ZH (cu_b n1 hn).1 (c1_bd ha.1 hc.1 hd.1 hb.1 h0 h1), ZH (cu_b n1 hn).1 (c1_bd ha.2 hc.2 hd.2 hb.2 h0 h1)⟩
theorem cP_end {a c d b : S35} {n : Int} (n1 : 1 ≤ n) (hn : n ≤ 16) : cP a c d b n n = b := by
  have h (x y z t : Int) : c1 x y z t n n = t * (n * n * n) := by
    have e : t * n * n * n = t * (n * n * n) := by grind
    unfold c1; rw [Int.sub_self, Int.mul_zero, Int.mul_zero, Int.mul_zero]; omega
  unfold cP
  rw [h, h, JB (cu_b n1 hn).1, JB (cu_b n1 hn).1]
def cPs (a c d b : S35) (n : Int) : Nat → Int → List S35
  | 0, _ => []
  | m + 1, i => cP a c d b n i :: cPs a c d b n m (i + 1)
theorem cL_ev {a c d b : S35} {n : Int} (ha : zA a) (hc : zA c) (hd : zA d) (hb : zA b) (n1 : 1 ≤ n) (hn : n ≤ 16) : ∀ (m : Nat) (i : Int), 0 ≤ i → i + m ≤ n + 1 → Ev (fun k => cL k a.f0 a.f1 c.f0 c.f1 d.f0 d.f1 b.f0 b.f1 n m i) (cPs a c d b n m i)
  | 0, i, _, _ => Ev.now _
  | m + 1, i, h0, h1 => by
    have hi : i ≤ n := by omega
    simp only [cL, cPs]
    have hs := cu_b n1 hn
    rw [cXj_c1 ha.1 hc.1 hd.1 hb.1 h0 hi hn, cXj_c1 ha.2 hc.2 hd.2 hb.2 h0 hi hn, cu_w (by omega) hn]
    exact Ev.bind (Jl hs.1 (by omega) (c1_bd ha.1 hc.1 hd.1 hb.1 h0 hi)) (Ev.bind (Jl hs.1 (by omega) (c1_bd ha.2 hc.2 hd.2 hb.2 h0 hi)) (Ev.bind (cL_ev ha hc hd hb n1 hn m (i + 1) (by omega) (by omega)) (Ev.now _)))
def QF (a c d b : S35) : List S35 := cPs a c d b (jQ (jc a c d + jc c d b)) (jQ (jc a c d + jc c d b)) 1
theorem cubic_ev {a c d b : S35} (ha : zA a) (hc : zA c) (hd : zA d) (hb : zA b) : Ev (fun k => Zl k a.f0 a.f1 c.f0 c.f1 d.f0 d.f1 b.f0 b.f1) (QF a c d b) := by
  unfold Zl
  rw [bend_f ha hc hd, bend_f hc hd hb]
  simp only [Option.bind_some]
  have b1 := JS ha hc hd
  have b2 := JS hc hd hb
  rw [w64 (n := jc a c d + jc c d b) (by omega) (by omega)]
  have hp := Qt (jc a c d + jc c d b)
  refine Ev.bind (parts_ev (jc a c d + jc c d b)) ?_
  simp only [if_pos (show (0 : Int) ≤ (jQ (jc a c d + jc c d b) : Int) ∧ (jQ (jc a c d + jc c d b) : Int) ≤ 100 by omega), Int.toNat_natCast]
  exact cL_ev ha hc hd hb (by omega) (by omega) _ _ (by omega) (by omega)
theorem cPs_len {a c d b : S35} {n : Int} : ∀ (m : Nat) (i : Int), (cPs a c d b n m i).length = m
  | 0, _ => rfl
  | m + 1, i => by simp only [cPs, List.length_cons, cPs_len m]
theorem cPs_last {a c d b : S35} {n : Int} : ∀ (m : Nat) (i : Int), (cPs a c d b n (m + 1) i).getLast? = some (cP a c d b n (i + m))
  | 0, i => by simp [cPs]
  | m + 1, i => by
    have h := cPs_last (a := a) (c := c) (d := d) (b := b) (n := n) m (i + 1)
    rw [cPs, List.getLast?_cons, h]
    simp only [Option.getD_some]
    rw [show i + 1 + (m : Int) = i + ((m + 1 : Nat) : Int) by omega]
theorem cPs_fix {a c d b : S35} {n : Int} (ha : zA a) (hc : zA c) (hd : zA d) (hb : zA b) (n1 : 1 ≤ n) (hn : n ≤ 16) : ∀ (m : Nat) (i : Int), 0 ≤ i → i + m ≤ n + 1 → ∀ x ∈ cPs a c d b n m i, zA x
  | 0, i, _, _ => by simp [cPs]
  | m + 1, i, h0, h1 => by
    intro x hx
    rw [cPs] at hx
    rcases List.mem_cons.1 hx with e | e
    · rw [e]; exact cP_fix ha hc hd hb h0 (by omega) n1 hn
    · exact cPs_fix ha hc hd hb n1 hn m (i + 1) (by omega) (by omega) x e
theorem Ji (a c d b : S35) : 1 ≤ (QF a c d b).length ∧ (QF a c d b).length ≤ 16 := by unfold QF; rw [cPs_len]; exact Qt _
theorem cubicV_last (a c d b : S35) : (QF a c d b).getLast? = some b := by
  unfold QF
  have hp := Qt (jc a c d + jc c d b)
  generalize jQ (jc a c d + jc c d b) = n at hp
  obtain ⟨m, rfl⟩ : ∃ m, n = m + 1 := ⟨n - 1, by omega⟩
  rw [cPs_last, show (1 : Int) + (m : Int) = ((m + 1 : Nat) : Int) by omega, cP_end (by omega) (by omega)]
theorem cubicV_lastS (a c d b : S35) (x y : Int) : Qj x y (QF a c d b) = b := by unfold Qj; rw [cubicV_last]; rfl
theorem cubicV_fix {a c d b : S35} (ha : zA a) (hc : zA c) (hd : zA d) (hb : zA b) : ∀ x ∈ QF a c d b, zA x := by
  have hp := Qt (jc a c d + jc c d b)
  exact cPs_fix ha hc hd hb (by omega) (by omega) _ _ (by omega) (by omega)
end Go.Proofs.Ytmlkpadlafjfeaa.P
set_option linter.unusedVariables false
set_option linter.unusedSimpArgs false
namespace Go.Proofs.Ytmlkpadlafjfeaa.P
open Go Go.RowKit Go.Proofs.YtmlkpadlafjfeaaW.PrintWords Go.Proofs.YtmlkpadlafjfeaaW.PrintLast Go.Proofs.YtmlkpadlafjfeaaW.PrintMore
def okK (x : S40) : Prop := 1 ≤ x.f2 ∧ x.f2 ≤ 3 ∧ QQ x
def Zu (p : List S35) : Option (List S35 × Bool) → Option (List S35 × Bool)
  | none => none
  | some r => some (p ++ r.1, r.2)
def ctW (s : S35) : Nat → List S40 → S35 → Option (List S35 × Bool)
  | 0, _, _ => some ([], false)
  | m + 1, [], now => some ([], false)
  | m + 1, k :: r, now =>
    if k.f2 = 1 then Zu [sp k] (ctW s m r (sp k))
    else if k.f2 = 2 then
      match r with
      | [] => some (QL now (sp k) s, true)
      | h :: r' => if h.f2 = 2 then Zu (QL now (sp k) (Ze k h)) (ctW s m r (Ze k h))
        else if h.f2 = 3 then none
        else Zu (QL now (sp k) (sp h)) (ctW s m r' (sp h))
    else
      match r with
      | [] => none
      | [h] => if h.f2 = 3 then some (QF now (sp k) (sp h) s, true) else none
      | h :: e :: r' => if h.f2 = 3 then (if e.f2 = 3 then none else if e.f2 = 2 then none else Zu (QF now (sp k) (sp h) (sp e)) (ctW s m r' (sp e))) else none
theorem ctW_nil (s : S35) (m : Nat) (now : S35) : ctW s m [] now = some ([], false) := by cases m <;> rfl
theorem ctW_on {s now : S35} {m : Nat} {k : S40} {r : List S40} (h : k.f2 = 1) : ctW s (m + 1) (k :: r) now = Zu [sp k] (ctW s m r (sp k)) := by
  conv => lhs; unfold ctW
  simp only [if_pos h]
theorem ctW_q0 {s now : S35} {m : Nat} {k : S40} (h : k.f2 = 2) : ctW s (m + 1) [k] now = some (QL now (sp k) s, true) := by
  conv => lhs; unfold ctW
  simp only [if_pos h, if_neg (show ¬ k.f2 = 1 by omega)]
theorem ctW_q1 {s now : S35} {m : Nat} {k h : S40} {r : List S40} (e : k.f2 = 2) : ctW s (m + 1) (k :: h :: r) now = if h.f2 = 2 then Zu (QL now (sp k) (Ze k h)) (ctW s m (h :: r) (Ze k h)) else if h.f2 = 3 then none else Zu (QL now (sp k) (sp h)) (ctW s m r (sp h)) := by
  conv => lhs; unfold ctW
  simp only [if_pos e, if_neg (show ¬ k.f2 = 1 by omega)]
theorem ctW_c0 {s now : S35} {m : Nat} {k : S40} (h1 : k.f2 ≠ 1) (h2 : k.f2 ≠ 2) : ctW s (m + 1) [k] now = none := by
  conv => lhs; unfold ctW
  simp only [if_neg h1, if_neg h2]
theorem ctW_c1 {s now : S35} {m : Nat} {k h : S40} (h1 : k.f2 ≠ 1) (h2 : k.f2 ≠ 2) : ctW s (m + 1) [k, h] now = if h.f2 = 3 then some (QF now (sp k) (sp h) s, true) else none := by
  conv => lhs; unfold ctW
  simp only [if_neg h1, if_neg h2]
theorem ctW_c2 {s now : S35} {m : Nat} {k h e : S40} {r : List S40} (h1 : k.f2 ≠ 1) (h2 : k.f2 ≠ 2) : ctW s (m + 1) (k :: h :: e :: r) now = if h.f2 = 3 then (if e.f2 = 3 then none else if e.f2 = 2 then none else Zu (QF now (sp k) (sp h) (sp e)) (ctW s m r (sp e))) else none := by
  conv => lhs; unfold ctW
  simp only [if_neg h1, if_neg h2]
def clos (out : List S35) (cl : Bool) : List S35 := if cl = true ∧ 1 < out.length then out.take (out.length - 1) else out
def endC (out : List S35) : Option (List S35 × Bool) → List S35 × Bool
  | none => ([], false)
  | some r => (clos (out ++ r.1) r.2, true)
theorem qal (out p : List S35) (r : Option (List S35 × Bool)) : endC out (Zu p r) = endC (out ++ p) r := by
  cases r with
  | none => rfl
  | some r => simp [Zu, endC]
theorem kdF_at {rest : List S40} {i : Nat} (h : i < rest.length) : kdF rest (i : Int) = rest[i].f2 := by unfold kdF; rw [if_pos (by omega), Zk h]
theorem kdF_out {rest : List S40} {i : Nat} (h : rest.length ≤ i) : kdF rest (i : Int) = 0 := by unfold kdF; rw [if_neg (by omega)]
theorem quad_evK {a b : S35} {X : S40} (ha : zA a) (hc : QQ X) (hb : zA b) : Ev (fun k => Zz k a.f0 a.f1 X.f0 X.f1 b.f0 b.f1) (QL a (sp X) b) := by
  have h := quad_ev ha (Z0 hc) hb
  exact h
theorem quad_evKK {a : S35} {X Y : S40} (ha : zA a) (hc : QQ X) (hb : QQ Y) : Ev (fun k => Zz k a.f0 a.f1 X.f0 X.f1 Y.f0 Y.f1) (QL a (sp X) (sp Y)) := by
  have h := quad_ev ha (Z0 hc) (Z0 hb)
  exact h
theorem cubic_evK {a b : S35} {X Y : S40} (ha : zA a) (hc : QQ X) (hd : QQ Y) (hb : zA b) : Ev (fun k => Zl k a.f0 a.f1 X.f0 X.f1 Y.f0 Y.f1 b.f0 b.f1) (QF a (sp X) (sp Y) b) := by
  have h := cubic_ev ha (Z0 hc) (Z0 hd) hb
  exact h
theorem cubic_evKK {a : S35} {X Y Z : S40} (ha : zA a) (hc : QQ X) (hd : QQ Y) (hb : QQ Z) : Ev (fun k => Zl k a.f0 a.f1 X.f0 X.f1 Y.f0 Y.f1 Z.f0 Z.f1) (QF a (sp X) (sp Y) (sp Z)) := by
  have h := cubic_ev ha (Z0 hc) (Z0 hd) (Z0 hb)
  exact h
theorem sp_f0 (X : S40) : (sp X).f0 = X.f0 := rfl
theorem sp_f1 (X : S40) : (sp X).f1 = X.f1 := rfl
set_option maxHeartbeats 4000000 in
theorem ctL_ev (s : S35) (hs : zA s) (rest : List S40) (hr : ∀ x ∈ rest, okK x) (hl : rest.length ≤ 4096) : ∀ (m i : Nat) (out : List S35) (now : S35), zA now → rest.length < i + m → i ≤ rest.length → out.length + 16 * (rest.length - i) ≤ 800000 →
    Ev (fun k => ctL k s.f0 s.f1 rest m (i : Int) out now.f0 now.f1 false) (endC out (ctW s m (rest.drop i) now))
  | 0, i, out, now, hn, h1, h2, h3 => by omega
  | m + 1, i, out, now, hn, h1, h2, h3 => by
    have nx : (i : Int) + 1 = ((i + 1 : Nat) : Int) := by omega
    have nx2 : (i : Int) + 2 = ((i + 2 : Nat) : Int) := by omega
    have nx3 : (i : Int) + 3 = ((i + 3 : Nat) : Int) := by omega
    by_cases c : i < rest.length
    case neg =>
      refine ⟨0, fun k _ => ?_⟩
      show ctL k s.f0 s.f1 rest (m + 1) (i : Int) out now.f0 now.f1 false = _
      rw [ctL, if_neg (by omega), List.drop_of_length_le (by omega)]
      rw [ctW_nil]; simp [endC, clos]
    obtain ⟨q1, q2, q3⟩ := hr _ (List.getElem_mem c)
    have er : rest.drop i = rest[i] :: rest.drop (i + 1) := List.drop_eq_getElem_cons c
    simp only [ctL]
    rw [er]
    simp only [if_pos (show (i : Int) < (rest.length : Int) by omega), if_neg (show ¬ 800000 < out.length by omega), Zk c]
    generalize hX : rest[i] = X at *
    have qX : zA (sp X) := q3
    by_cases k1 : X.f2 = 1
    · rw [ctW_on k1, qal]
      simp only [if_pos k1]
      rw [nx]
      exact ctL_ev s hs rest hr hl m (i + 1) _ (sp X) qX (by omega) (by omega) (by rw [List.length_append]; simp; omega)
    simp only [if_neg k1]
    by_cases k2 : X.f2 = 2
    · simp only [if_pos k2]
      rw [nx]
      by_cases c2 : i + 1 < rest.length
      · have er2 : rest.drop (i + 1) = rest[i + 1] :: rest.drop (i + 1 + 1) := List.drop_eq_getElem_cons c2
        obtain ⟨p1, p2, p3⟩ := hr _ (List.getElem_mem c2)
        rw [er2, kdF_at c2, Zk c2]
        generalize hY : rest[i + 1] = Y at *
        have qY : zA (sp Y) := p3
        rw [ctW_q1 k2]
        by_cases j2 : Y.f2 = 2
        · simp only [if_pos j2]
          rw [qal, ← er2]
          have hm := mid_ev q3 p3
          rw [k2] at hm
          refine Ev.bind hm ?_
          dsimp only
          refine Ev.bind (quad_evK hn q3 (mid_fix q3 p3)) ?_
          rw [qaT]
          exact ctL_ev s hs rest hr hl m (i + 1) _ (Ze X Y) (mid_fix q3 p3) (by omega) (by omega) (by have := ZJ now (sp X) (Ze X Y); rw [List.length_append]; omega)
        · simp only [if_neg j2]
          by_cases j3 : Y.f2 = 3
          · simp only [if_pos j3]; exact Ev.now _
          · simp only [if_neg j3, if_neg (show ¬ ((i + 1 : Nat) : Int) = (rest.length : Int) by omega)]
            rw [qal]
            refine Ev.bind (quad_evKK hn q3 p3) ?_
            rw [qaT, nx2]
            exact ctL_ev s hs rest hr hl m (i + 2) _ (sp Y) qY (by omega) (by omega) (by have := ZJ now (sp X) (sp Y); rw [List.length_append]; omega)
      · rw [List.drop_of_length_le (i := i + 1) (by omega), kdF_out (by omega), ctW_q0 k2]
        simp only [if_neg (show ¬ (0 : Int) = 2 by omega), if_neg (show ¬ (0 : Int) = 3 by omega), if_pos (show ((i + 1 : Nat) : Int) = (rest.length : Int) by omega)]
        refine Ev.bind (quad_evK hn q3 hs) ?_
        obtain ⟨m, rfl⟩ : ∃ q, m = q + 1 := ⟨m - 1, by omega⟩
        refine ⟨0, fun k _ => ?_⟩
        show ctL k s.f0 s.f1 rest (m + 1) _ _ _ _ true = _
        rw [ctL, if_neg (by omega)]; rfl
    · have k3 : X.f2 = 3 := by omega
      simp only [if_neg k2, if_pos k3]
      rw [nx, nx2]
      by_cases c2 : i + 1 < rest.length
      · have er2 : rest.drop (i + 1) = rest[i + 1] :: rest.drop (i + 1 + 1) := List.drop_eq_getElem_cons c2
        obtain ⟨p1, p2, p3⟩ := hr _ (List.getElem_mem c2)
        rw [er2, kdF_at c2, Zk c2]
        generalize hY : rest[i + 1] = Y at *
        have qY : zA (sp Y) := p3
        by_cases c3 : i + 2 < rest.length
        · have er3 : rest.drop (i + 1 + 1) = rest[i + 2] :: rest.drop (i + 3) := List.drop_eq_getElem_cons c3
          obtain ⟨t1, t2, t3⟩ := hr _ (List.getElem_mem c3)
          rw [er3, kdF_at c3, Zk c3]
          generalize hZ : rest[i + 2] = Z at *
          have qZ : zA (sp Z) := t3
          rw [ctW_c2 k1 k2]
          by_cases j3 : Y.f2 = 3
          · simp only [if_neg (show ¬ Y.f2 ≠ 3 from fun z => z j3), if_pos j3]
            by_cases l3 : Z.f2 = 3
            · simp only [if_pos l3]; exact Ev.now _
            · simp only [if_neg l3]
              by_cases l2 : Z.f2 = 2
              · simp only [if_pos l2]; exact Ev.now _
              · simp only [if_neg l2, if_neg (show ¬ ((i + 2 : Nat) : Int) = (rest.length : Int) by omega)]
                rw [qal]
                refine Ev.bind (cubic_evKK hn q3 p3 t3) ?_
                rw [cubicV_lastS, nx3]
                exact ctL_ev s hs rest hr hl m (i + 3) _ (sp Z) qZ (by omega) (by omega) (by have := Ji now (sp X) (sp Y) (sp Z); rw [List.length_append]; omega)
          · simp only [if_pos (show Y.f2 ≠ 3 from j3), if_neg j3]; exact Ev.now _
        · rw [List.drop_of_length_le (i := i + 1 + 1) (by omega), kdF_out (i := i + 2) (by omega), ctW_c1 k1 k2]
          by_cases j3 : Y.f2 = 3
          · simp only [if_neg (show ¬ Y.f2 ≠ 3 from fun z => z j3), if_pos j3, if_neg (show ¬ (0 : Int) = 3 by omega), if_neg (show ¬ (0 : Int) = 2 by omega), if_pos (show ((i + 2 : Nat) : Int) = (rest.length : Int) by omega)]
            refine Ev.bind (cubic_evK hn q3 p3 hs) ?_
            obtain ⟨m, rfl⟩ : ∃ q, m = q + 1 := ⟨m - 1, by omega⟩
            refine ⟨0, fun k _ => ?_⟩
            show ctL k s.f0 s.f1 rest (m + 1) _ _ _ _ true = _
            rw [ctL, if_neg (by omega)]; rfl
          · simp only [if_pos (show Y.f2 ≠ 3 from j3), if_neg j3]; exact Ev.now _
      · rw [List.drop_of_length_le (i := i + 1) (by omega), kdF_out (by omega), ctW_c0 k1 k2]
        simp only [if_pos (show (0 : Int) ≠ 3 by omega)]
        exact Ev.now _
def onK (x : S40) : Bool := x.f2 == 1
def offs (c : List S40) : List S40 := c.takeWhile (fun x => !onK x)
def zM (c : List S40) : S35 × List S40 × Bool :=
  match c.dropWhile (fun x => !onK x) with
  | k :: b => (sp k, b ++ offs c, true)
  | [] => (Ze (c.getLastD z40) (c.headD z40), c, (c.headD z40).f2 == 2)
theorem qbi (c : List S40) : c = offs c ++ c.dropWhile (fun x => !onK x) := by unfold offs; rw [List.takeWhile_append_dropWhile]
theorem round_none (k : Nat) (c : List S40) (i : Int) (hc : c.length ≤ 4096) (l0 : 0 < c.length) (hi : (c.length : Int) ≤ i) : zl.l0 (k + 1) c c (c.length : Int) i = (zL.f k (c.getLastD z40).f0 (c.getLastD z40).f1 (c.getLastD z40).f2 (c.headD z40).f0 (c.headD z40).f1 (c.headD z40).f2).bind fun bt => some (bt.1, bt.2, c, (c.headD z40).f2 == 2) := by
  have eh : qb c 0 = c.headD z40 := by
    cases c with
    | nil => exact absurd l0 (by simp)
    | cons a r => rfl
  have el : qb c (wrap64 ((c.length : Int) - 1)) = c.getLastD z40 := by
    rw [w64 (n := (c.length : Int) - 1) (by omega) (by omega), show (c.length : Int) - 1 = ((c.length - 1 : Nat) : Int) by omega, Zk (by omega), List.getLastD_eq_getLast?, List.getLast?_eq_getElem?, List.getElem?_eq_getElem (by omega)]; rfl
  have w0 : 0 ≤ wrap64 ((c.length : Int) - 1) ∧ wrap64 ((c.length : Int) - 1) < (c.length : Int) := by
    rw [w64 (n := (c.length : Int) - 1) (by omega) (by omega)]; omega
  have hp : (0 : Int) < (c.length : Int) := by omega
  have hn : ¬ i < (c.length : Int) := by omega
  rw [zl.l0]
  rw [if_neg hn, if_pos w0.1, if_pos w0.2, if_pos hp, eh, el]
theorem round_on (k : Nat) (c : List S40) (i : Nat) (hc : c.length ≤ 4096) (hlt : i < c.length) (k1 : c[i].f2 = 1) : zl.l0 (k + 1) c c (c.length : Int) (i : Int) = some (c[i].f0, c[i].f1, c.drop (i + 1) ++ c.take i, true) := by
  have e1 := Zk hlt
  have h1 : (i : Int) < (c.length : Int) := by omega
  have h2 : (0 : Int) ≤ (i : Int) := by omega
  have h3 : 0 ≤ wrap64 ((i : Int) + 1) ∧ wrap64 ((i : Int) + 1) ≤ (c.length : Int) := by rw [QM (by omega)]; omega
  have h4 : (wrap64 ((i : Int) + 1)).toNat = i + 1 := by rw [QM (by omega), Int.toNat_natCast]
  have h5 : (i : Int) ≤ (c.length : Int) := by omega
  have h6 : ([] : List S40).length + (c.drop (i + 1)).length < 5864062014805 := by simp; omega
  have h7 : ([] ++ c.drop (i + 1)).length + (c.take i).length < 5864062014805 := by simp; omega
  have hs (a b d : Int) : jK.f a b d = some (a, b) := rfl
  rw [zl.l0]
  rw [if_pos h1, if_pos h2, if_pos h1, e1, if_pos k1, Option.bind_some, if_pos h3.1, if_pos h3.2, Option.bind_some, h4, if_pos h6, Option.bind_some, hs, Option.bind_some, if_pos h5, Option.bind_some, Int.toNat_natCast, if_pos h7, List.nil_append]
theorem round_off (k : Nat) (c : List S40) (i : Nat) (hc : c.length ≤ 4096) (hlt : i < c.length) (k1 : c[i].f2 ≠ 1) : zl.l0 (k + 1) c c (c.length : Int) (i : Int) = zl.l0 k c c (c.length : Int) ((i + 1 : Nat) : Int) := by
  have e1 := Zk hlt
  have h1 : (i : Int) < (c.length : Int) := by omega
  have h2 : (0 : Int) ≤ (i : Int) := by omega
  have h3 : wrap64 ((i : Int) + 1) = ((i + 1 : Nat) : Int) := QM (by omega)
  rw [zl.l0]
  rw [if_pos h1, if_pos h2, if_pos h1, e1, if_neg k1, h3]
theorem offs_none {c : List S40} (h : ∀ x ∈ c, (!onK x) = true) : c.dropWhile (fun x => !onK x) = [] := by
  induction c with
  | nil => rfl
  | cons a r ih => rw [List.dropWhile_cons, if_pos (h a (by simp))]; exact ih (fun x hx => h x (by simp [hx]))
theorem offs_on {a b : List S40} {k : S40} (h : ∀ x ∈ a, (!onK x) = true) (hk : k.f2 = 1) : (a ++ k :: b).takeWhile (fun x => !onK x) = a ∧ (a ++ k :: b).dropWhile (fun x => !onK x) = k :: b := by
  have h2 : ¬ (!onK k) = true := by simp [onK, hk]
  constructor
  · rw [List.takeWhile_append_of_pos h, List.takeWhile_cons, if_neg h2, List.append_nil]
  · rw [List.dropWhile_append_of_pos h, List.dropWhile_cons, if_neg h2]
theorem qbg {c : List S40} (h : ∀ x ∈ c, (!onK x) = true) : zM c = (Ze (c.getLastD z40) (c.headD z40), c, (c.headD z40).f2 == 2) := by
  unfold zM; rw [offs_none h]
theorem roundV_on {a b : List S40} {k : S40} (h : ∀ x ∈ a, (!onK x) = true) (hk : k.f2 = 1) : zM (a ++ k :: b) = (sp k, b ++ a, true) := by
  unfold zM offs; rw [(offs_on h hk).1, (offs_on h hk).2]
theorem round_l0 (c : List S40) (hc : c.length ≤ 4096) (n0 : c ≠ []) (hk : ∀ x ∈ c, okK x) : ∀ (d i : Nat), c.length - i = d → i ≤ c.length → (∀ j, j < i → ∀ h : j < c.length, c[j].f2 ≠ 1) →
    Ev (fun k => zl.l0 k c c (c.length : Int) (i : Int)) ((zM c).1.f0, (zM c).1.f1, (zM c).2.1, (zM c).2.2) := by
  have l0 : 0 < c.length := List.length_pos_iff.2 n0
  intro d
  induction d with
  | zero =>
    intro i e hi hj
    have hoff : ∀ x ∈ c, (!onK x) = true := by
      intro x hx
      obtain ⟨j, h, rfl⟩ := List.getElem_of_mem hx
      have := hj j (by omega) h
      simp [onK, this]
    rw [qbg hoff]
    have m1 : c.headD z40 ∈ c := by
      cases c with
      | nil => exact absurd rfl n0
      | cons a r => simp
    have m2 : c.getLastD z40 ∈ c := by
      rw [List.getLastD_eq_getLast?, List.getLast?_eq_some_getLast n0]; exact List.getLast_mem n0
    exact Ev.step (fun k => round_none k c i hc l0 (by omega)) (Ev.bind (mid_ev (hk _ m2).2.2 (hk _ m1).2.2) (Ev.now _))
  | succ d ih =>
    intro i e hi hj
    have hlt : i < c.length := by omega
    by_cases k1 : c[i].f2 = 1
    · have h1 : ∀ x ∈ c.take i, (!onK x) = true := by
        intro x hx
        obtain ⟨j, h, rfl⟩ := List.getElem_of_mem hx
        rw [List.length_take] at h
        rw [List.getElem_take]
        have := hj j (by omega) (by omega)
        simp [onK, this]
      have e1 := roundV_on (b := c.drop (i + 1)) h1 k1
      rw [← List.drop_eq_getElem_cons hlt, List.take_append_drop] at e1
      rw [e1]
      exact Ev.step (f := fun _ => some (c[i].f0, c[i].f1, c.drop (i + 1) ++ c.take i, true)) (fun k => round_on k c i hc hlt k1) (Ev.now _)
    · refine Ev.step (fun k => round_off k c i hc hlt k1) (ih (i + 1) (by omega) (by omega) (fun j hji h => ?_))
      by_cases e : j = i
      · subst e; exact k1
      · exact hj j (by omega) h
theorem round_ev (c : List S40) (hc : c.length ≤ 4096) (n0 : c ≠ []) (hk : ∀ x ∈ c, okK x) : Ev (fun k => zl.f k c) ((zM c).1.f0, (zM c).1.f1, (zM c).2.1, (zM c).2.2) := by
  unfold zl.f
  exact round_l0 c hc n0 hk c.length 0 (by omega) (by omega) (fun j h => by omega)
theorem qar (c : List S40) (n0 : c ≠ []) (hk : ∀ x ∈ c, okK x) : zA (zM c).1 ∧ (∀ x ∈ (zM c).2.1, okK x) ∧ (zM c).2.1.length ≤ c.length := by
  have sp' := qbi c
  have m1 : c.headD z40 ∈ c := by
    cases c with
    | nil => exact absurd rfl n0
    | cons a r => simp
  have m2 : c.getLastD z40 ∈ c := by
    rw [List.getLastD_eq_getLast?, List.getLast?_eq_some_getLast n0]; exact List.getLast_mem n0
  unfold zM
  cases hd : c.dropWhile (fun x => !onK x) with
  | nil => exact ⟨mid_fix (hk _ m2).2.2 (hk _ m1).2.2, hk, Nat.le_refl _⟩
  | cons k b =>
    rw [hd] at sp'
    dsimp only
    refine ⟨(hk k (by rw [sp']; simp)).2.2, fun x hx => hk x ?_, ?_⟩
    · rw [sp']
      rcases List.mem_append.1 hx with h | h
      · simp [h]
      · exact List.mem_append_left _ h
    · have := congrArg List.length sp'
      rw [List.length_append, List.length_cons] at this
      rw [List.length_append]; omega
def Qc (c : List S40) : List S35 × Bool :=
  if c = [] then ([], true) else if (zM c).2.2 = false then ([], false) else endC [(zM c).1] (ctW (zM c).1 ((zM c).2.1.length + 1) (zM c).2.1 (zM c).1)
theorem con_ev (c : List S40) (hc : c.length ≤ 4096) (hk : ∀ x ∈ c, okK x) : Ev (fun k => jm.f k c) (Qc c) := by
  unfold jm.f Qc
  by_cases n0 : c = []
  · subst n0; exact Ev.now _
  · simp only [if_neg (show ¬ c.length = 0 from fun z => n0 (List.length_eq_zero_iff.1 z)), if_neg n0]
    obtain ⟨r1, r2, r3⟩ := qar c n0 hk
    refine Ev.bind (round_ev c hc n0 hk) ?_
    dsimp only
    cases h : (zM c).2.2 with
    | false => simp only [if_true]; exact Ev.now _
    | true =>
      simp only [Bool.true_eq_false, if_false, if_pos (show (zM c).2.1.length ≤ 100000 by omega)]
      exact ctL_ev (zM c).1 r1 (zM c).2.1 r2 (by omega) _ 0 _ (zM c).1 r1 (by omega) (by omega) (by simp; omega)
end Go.Proofs.Ytmlkpadlafjfeaa.P
set_option linter.unusedVariables false
set_option linter.unusedSimpArgs false
namespace Go.Proofs.Ytmlkpadlafjfeaa.P
open Go Go.RowKit Go.Proofs.YtmlkpadlafjfeaaW.PrintWords Go.Proofs.YtmlkpadlafjfeaaW.PrintLast Go.Proofs.YtmlkpadlafjfeaaW.PrintMore
def Zv (x : S40) : Bool := decide (x.f2 < 1) || decide (x.f2 > 3)
def ZE (n : Int) : Bool := decide (n < -2147483647) || decide (n > 2147483647)
def Zw (x : S40) : Bool := ZE x.f0 || ZE x.f1
def tot (o : List (List S40)) : Nat := (o.map List.length).sum
def CK (o : List (List S40)) : Int :=
  if 256 < o.length ∨ 4096 < tot o then 63 else if o.any (fun c => c.any Zv) = true then 61 else if o.any (fun c => c.any Zw) = true then 64 else 0
def ZG {α : Type} (o : List (List α)) : Prop := o.length ≤ 5864062014634 ∧ ∀ c ∈ o, c.length ≤ 5864062014634
theorem Z9 {o : List (List S40)} {i : Nat} (h : i < o.length) : qC o (i : Int) = o[i] := by unfold qC; rw [Int.toNat_natCast, List.getD_eq_getElem?_getD, List.getElem?_eq_getElem h]; rfl
theorem ZU {α : Type} (p : α → Bool) {l : List α} {i : Nat} (h : i < l.length) : (l.drop i).any p = (p l[i] || (l.drop (i + 1)).any p) := by rw [List.drop_eq_getElem_cons h, List.any_cons]
theorem Jm {α : Type} (p : α → Bool) {l : List α} {i : Nat} (h : l.length ≤ i) : (l.drop i).any p = false := by rw [List.drop_of_length_le h]; rfl
theorem chk_f (n : Int) : zF.f n = some (if ZE n = true then 14 else 0) := by
  unfold zF.f ZE
  by_cases h1 : n < -2147483647
  · simp [h1]
  · by_cases h2 : n > 2147483647
    · simp [h1, h2]
    · simp [h1, h2]
section
variable {x0 x10 : List (List S40)} {n x11 i : Int} {row : List S40}
theorem check_l1 (hr : row.length ≤ 9000000000000000000) (r : Int) : ∀ (d j : Nat) (odd wide : Bool), row.length - j = d → j ≤ row.length →
    Ev (fun k => qO.l0 k x0 n (odd || (row.drop j).any Zv) (wide || (row.drop j).any Zw) x10 x11 (wrap64 (i + 1))) r →
    Ev (fun k => qO.l1 k x0 n odd wide x10 x11 i row (row.length : Int) (j : Int)) r := by
  intro d
  induction d with
  | zero =>
    intro j odd wide e hj h
    rw [Jm _ (by omega), Jm _ (by omega), Bool.or_false, Bool.or_false] at h
    refine Ev.step (fun k => ?_) h
    rw [qO.l1, if_neg (by omega)]
  | succ d ih =>
    intro j odd wide e hj h
    have hlt : j < row.length := by omega
    rw [ZU _ hlt, ZU _ hlt, ← Bool.or_assoc, ← Bool.or_assoc] at h
    have h := ih (j + 1) _ _ (by omega) (by omega) h
    refine Ev.step (fun k => ?_) h
    have h1 : (j : Int) < (row.length : Int) := by omega
    have h2 : (0 : Int) ≤ (j : Int) := by omega
    rw [qO.l1, if_pos h1, if_pos h2, if_pos h1, Zk hlt, QM (by omega), chk_f, chk_f]
    generalize row[j] = X
    generalize hG : qO.l1 k x0 n = G
    clear ih h
    have b1 : Zv X = (decide (X.f2 < 1) || decide (X.f2 > 3)) := rfl
    have b2 : Zw X = (ZE X.f0 || ZE X.f1) := rfl
    rw [b1, b2]
    cases odd <;> cases wide <;> by_cases c1 : X.f2 < 1 <;> cases c2 : ZE X.f0 <;> cases c3 : ZE X.f1 <;> simp [c1, c2, c3]
end
theorem check_l0 (o : List (List S40)) (hm : ZG o) : ∀ (d i : Nat) (n : Nat) (odd wide : Bool), o.length - i = d → i ≤ o.length → n ≤ 4096 →
    Ev (fun k => qO.l0 k o (n : Int) odd wide o (o.length : Int) (i : Int)) (if 256 < o.length ∨ 4096 < n + tot (o.drop i) then 63 else if (odd || (o.drop i).any (fun c => c.any Zv)) = true then 61 else if (wide || (o.drop i).any (fun c => c.any Zw)) = true then 64 else 0) := by
  have hl := hm.1
  intro d
  induction d with
  | zero =>
    intro i n odd wide e hi hn
    rw [List.drop_of_length_le (by omega)]
    refine Ev.step (f := fun _ => some _) (fun k => ?_) (Ev.now _)
    rw [qO.l0, if_neg (by omega)]
    have ht : tot [] = 0 := rfl
    rw [ht]
    by_cases c : 256 < o.length
    · rw [if_pos (by omega), if_pos (Or.inl c)]
    · rw [if_neg (show ¬ (o.length : Int) > 256 by omega), if_neg (show ¬ (256 < o.length ∨ 4096 < n + 0) by omega)]
      cases odd <;> cases wide <;> rfl
  | succ d ih =>
    intro i n odd wide e hi hn
    have hlt : i < o.length := by omega
    have hrow := hm.2 _ (List.getElem_mem hlt)
    have er : o.drop i = o[i] :: o.drop (i + 1) := List.drop_eq_getElem_cons hlt
    have ht : tot (o.drop i) = o[i].length + tot (o.drop (i + 1)) := by rw [er]; unfold tot; rw [List.map_cons, List.sum_cons]
    have h1 : (i : Int) < (o.length : Int) := by omega
    have h2 : (0 : Int) ≤ (i : Int) := by omega
    have hw : wrap64 ((n : Int) + (o[i].length : Int)) = ((n + o[i].length : Nat) : Int) := by rw [w64 (by omega) (by omega)]; omega
    rw [ht]
    by_cases c : 4096 < n + o[i].length
    · refine Ev.step (f := fun _ => some 63) (fun k => ?_) ?_
      · rw [qO.l0, if_pos h1, if_pos h2, if_pos h1, Z9 hlt, hw, if_pos (by omega)]
      · rw [if_pos (Or.inr (by omega))]; exact Ev.now _
    · have h := ih (i + 1) (n + o[i].length) (odd || o[i].any Zv) (wide || o[i].any Zw) (by omega) (by omega) (by omega)
      rw [Nat.add_assoc, Bool.or_assoc, Bool.or_assoc] at h
      rw [er, List.any_cons, List.any_cons]
      rw [← QM (by omega)] at h
      have h := check_l1 (x0 := o) (x10 := o) (n := ((n + o[i].length : Nat) : Int)) (x11 := (o.length : Int)) (i := (i : Int)) (row := o[i]) (by omega) _ o[i].length 0 odd wide (by omega) (by omega) h
      refine Ev.step (fun k => ?_) h
      rw [qO.l0, if_pos h1, if_pos h2, if_pos h1, Z9 hlt, hw, if_neg (by omega)]; rfl
theorem check_ev (o : List (List S40)) (hm : ZG o) : Ev (fun k => qO.f k o) (CK o) := by
  have h := check_l0 o hm o.length 0 0 false false (by omega) (by omega) (by omega)
  rw [List.drop_zero, Nat.zero_add, Bool.false_or, Bool.false_or] at h
  exact h
theorem CK_ok {o : List (List S40)} (h : CK o = 0) : o.length ≤ 256 ∧ tot o ≤ 4096 ∧ ∀ c ∈ o, c.length ≤ 4096 ∧ ∀ x ∈ c, okK x := by
  unfold CK at h
  by_cases c1 : 256 < o.length ∨ 4096 < tot o
  · rw [if_pos c1] at h; omega
  · rw [if_neg c1] at h
    by_cases c2 : o.any (fun c => c.any Zv) = true
    · rw [if_pos c2] at h; omega
    · rw [if_neg c2] at h
      by_cases c3 : o.any (fun c => c.any Zw) = true
      · rw [if_pos c3] at h; omega
      · refine ⟨by omega, by omega, fun c hc => ⟨?_, fun x hx => ?_⟩⟩
        · have : c.length ≤ tot o := by
            clear h c1 c2 c3
            induction o with
            | nil => cases hc
            | cons a r ih =>
              have e : tot (a :: r) = a.length + tot r := by unfold tot; rw [List.map_cons, List.sum_cons]
              rcases List.mem_cons.1 hc with e1 | e1
              · subst e1; omega
              · have := ih e1; omega
          omega
        · have e2 : Zv x = false := by
            rw [Bool.eq_false_iff]; intro z
            exact c2 (List.any_eq_true.2 ⟨c, hc, List.any_eq_true.2 ⟨x, hx, z⟩⟩)
          have e3 : Zw x = false := by
            rw [Bool.eq_false_iff]; intro z
            exact c3 (List.any_eq_true.2 ⟨c, hc, List.any_eq_true.2 ⟨x, hx, z⟩⟩)
          unfold Zv at e2; unfold Zw ZE at e3
          simp only [Bool.or_eq_false_iff, decide_eq_false_iff_not] at e2 e3
          exact ⟨by omega, by omega, ⟨by omega, by omega⟩, by omega, by omega⟩
theorem qa8 (a b : List (List S40)) : tot (a ++ b) = tot a + tot b := by unfold tot; rw [List.map_append, List.sum_append]
theorem CK_append {a b : List (List S40)} (h : CK (a ++ b) = 0) : CK a = 0 ∧ CK b = 0 := by
  have hk := CK_ok h
  rw [List.length_append, qa8] at hk
  obtain ⟨h1, h2, _⟩ := hk
  unfold CK at h
  rw [List.length_append, qa8, if_neg (by omega), List.any_append, List.any_append] at h
  unfold CK
  rw [if_neg (show ¬ (256 < a.length ∨ 4096 < tot a) by omega), if_neg (show ¬ (256 < b.length ∨ 4096 < tot b) by omega)]
  cases e1 : a.any (fun c => c.any Zv) <;> cases e2 : b.any (fun c => c.any Zv) <;> cases e3 : a.any (fun c => c.any Zw) <;> cases e4 : b.any (fun c => c.any Zw) <;> simp [e1, e2, e3, e4] at h ⊢
def FL (o : List (List S40)) : List (List S35) × Int :=
  if CK o = 0 then (if o.all (fun c => (Qc c).2) = true then (o.map (fun c => (Qc c).1), 0) else ([], 61)) else ([], CK o)
theorem set_mid {α : Type} (a : List α) (x y : α) (b : List α) : (a ++ x :: b).set a.length y = (a ++ [y]) ++ b := by
  rw [List.set_append_right _ _ (Nat.le_refl _), Nat.sub_self, List.set_cons_zero, List.append_assoc]; rfl
theorem flat_l0 (o : List (List S40)) (hl : o.length ≤ 256) (hk : ∀ c ∈ o, c.length ≤ 4096 ∧ ∀ x ∈ c, okK x) : ∀ (d i : Nat), o.length - i = d → i ≤ o.length →
    Ev (fun k => zD.l0 k ((o.take i).map (fun c => (Qc c).1) ++ List.replicate (o.length - i) []) o (o.length : Int) (i : Int)) (if (o.drop i).all (fun c => (Qc c).2) = true then (o.map (fun c => (Qc c).1), 0) else ([], 61)) := by
  intro d
  induction d with
  | zero =>
    intro i e hi
    refine Ev.step (f := fun _ => some _) (fun k => ?_) (Ev.now _)
    rw [zD.l0, if_neg (by omega), List.drop_of_length_le (by omega), List.take_of_length_le (by omega), e]
    simp
  | succ d ih =>
    intro i e hi
    have hlt : i < o.length := by omega
    have er : o.drop i = o[i] :: o.drop (i + 1) := List.drop_eq_getElem_cons hlt
    have h1 : (i : Int) < (o.length : Int) := by omega
    have h2 : (0 : Int) ≤ (i : Int) := by omega
    obtain ⟨q1, q2⟩ := hk _ (List.getElem_mem hlt)
    have lt : ((o.take i).map (fun c => (Qc c).1)).length = i := by rw [List.length_map, List.length_take]; omega
    have e5 : List.replicate (o.length - i) ([] : List S35) = [] :: List.replicate (o.length - (i + 1)) [] := by
      rw [show o.length - i = (o.length - (i + 1)) + 1 by omega]; rfl
    have h3 : (i : Int) < ((((o.take i).map (fun c => (Qc c).1)) ++ List.replicate (o.length - i) ([] : List S35)).length : Int) := by
      rw [List.length_append, lt, List.length_replicate]; omega
    have es : (((o.take i).map (fun c => (Qc c).1)) ++ List.replicate (o.length - i) ([] : List S35)).set ((i : Int)).toNat (Qc o[i]).1 = (o.take (i + 1)).map (fun c => (Qc c).1) ++ List.replicate (o.length - (i + 1)) [] := by
      have := set_mid ((o.take i).map (fun c => (Qc c).1)) [] (Qc o[i]).1 (List.replicate (o.length - (i + 1)) [])
      rw [lt] at this
      rw [e5, Int.toNat_natCast, this, List.take_add_one, List.map_append, List.getElem?_eq_getElem hlt]; rfl
    rw [er, List.all_cons]
    refine Ev.step (f := fun k => (jm.f k o[i]).bind fun bt => if bt.2 = true then zD.l0 k ((((o.take i).map (fun c => (Qc c).1)) ++ List.replicate (o.length - i) ([] : List S35)).set ((i : Int)).toNat bt.1) o (o.length : Int) ((i + 1 : Nat) : Int) else some ([], 61)) (fun k => ?_) ?_
    · rw [zD.l0, if_pos h1, if_pos h2, if_pos h1, Z9 hlt, QM (by omega)]
      simp only [if_pos h3]
    · refine Ev.bind (con_ev o[i] q1 q2) ?_
      cases hc : (Qc o[i]).2 with
      | false => simp only [Bool.false_eq_true, if_false, Bool.false_and]; exact Ev.now _
      | true =>
        simp only [if_true, Bool.true_and]
        rw [es]
        exact ih (i + 1) (by omega) (by omega)
theorem flat_big (k : Nat) (o : List (List S40)) (hl : o.length ≤ 256) : (if 0 ≤ (o.length : Int) then (if ((o.length : Int) : Int).toNat ≤ 11728124029610 then (zD.l0 k (List.replicate ((o.length : Int) : Int).toNat []) o (o.length : Int) 0) else (none)) else (none)) = zD.l0 k (List.replicate o.length []) o (o.length : Int) ((0 : Nat) : Int) := by
  have h1 : ((o.length : Int)).toNat ≤ 11728124029610 := by rw [Int.toNat_natCast]; omega
  rw [if_pos (by omega), if_pos h1, Int.toNat_natCast]; rfl
theorem flat_ev (o : List (List S40)) (hm : ZG o) : Ev (fun k => zD.f k o) (FL o) := by
  unfold zD.f FL
  refine Ev.bind (check_ev o hm) ?_
  by_cases c : CK o = 0
  · obtain ⟨h1, h2, h3⟩ := CK_ok c
    simp only [if_pos c]
    refine Ev.congr (fun k => flat_big k o h1) ?_
    have h := flat_l0 o h1 h3 o.length 0 (by omega) (by omega)
    rw [List.take_zero, List.map_nil, List.nil_append, Nat.sub_zero, List.drop_zero] at h
    exact h
  · simp only [if_neg c]; exact Ev.now _
end Go.Proofs.Ytmlkpadlafjfeaa.P
set_option linter.unusedVariables false
set_option linter.unusedSimpArgs false
namespace Go.Proofs.Ytmlkpadlafjfeaa.P
open Go Go.RowKit Go.Proofs.YtmlkpadlafjfeaaW.PrintWords Go.Proofs.YtmlkpadlafjfeaaW.PrintLast Go.Proofs.YtmlkpadlafjfeaaW.PrintMore
theorem pal_ev : Ev (fun k => jk.f k) true := Ev.of jk.mono (k := 60) (by decide +kernel)
theorem fix_f (n : Int) : jC.f n = some (!ZE n) := by
  unfold jC.f ZE
  by_cases h1 : n < -2147483647
  · have : ¬ n ≥ -2147483647 := by omega
    simp [h1, this]
  · have h0 : n ≥ -2147483647 := by omega
    by_cases h2 : n > 2147483647
    · have : ¬ n ≤ 2147483647 := by omega
      simp [h1, h2, h0, this]
    · have : n ≤ 2147483647 := by omega
      simp [h1, h2, h0, this]
section
variable {x0 x32 x54 : List (List S40)} {x33 i x55 : Int} {row : List S40}
theorem chk_l2 (hr : row.length ≤ 9000000000000000000) (r : Int) : ∀ (d j : Nat), row.length - j = d → j ≤ row.length →
    Ev (fun k => if (row.drop j).any Zv = true then some 61 else qw.l1 k x0 x32 x33 (wrap64 (i + 1))) r →
    Ev (fun k => qw.l2 k x0 x32 x33 i row (row.length : Int) (j : Int)) r := by
  intro d
  induction d with
  | zero =>
    intro j e hj h
    rw [Jm _ (by omega)] at h
    refine Ev.step (fun k => ?_) h
    rw [qw.l2, if_neg (by omega)]; rfl
  | succ d ih =>
    intro j e hj h
    have hlt : j < row.length := by omega
    rw [ZU _ hlt] at h
    have h1 : (j : Int) < (row.length : Int) := by omega
    have h2 : (0 : Int) ≤ (j : Int) := by omega
    by_cases c : Zv row[j] = true
    · rw [c, Bool.true_or] at h
      refine Ev.step (f := fun _ => some 61) (fun k => ?_) (by simpa using h)
      rw [qw.l2, if_pos h1, if_pos h2, if_pos h1, Zk hlt]
      unfold Zv at c
      rw [Bool.or_eq_true, decide_eq_true_eq, decide_eq_true_eq] at c
      by_cases c1 : row[j].f2 < 1
      · rw [if_pos c1]
      · rw [if_neg c1, if_pos (by omega)]
    · rw [Bool.not_eq_true] at c
      rw [c, Bool.false_or] at h
      refine Ev.step (fun k => ?_) (ih (j + 1) (by omega) (by omega) h)
      rw [qw.l2, if_pos h1, if_pos h2, if_pos h1, Zk hlt, QM (by omega)]
      unfold Zv at c
      rw [Bool.or_eq_false_iff, decide_eq_false_iff_not, decide_eq_false_iff_not] at c
      rw [if_neg c.1, if_neg c.2]
theorem chk_l4 (hr : row.length ≤ 9000000000000000000) (r : Int) : ∀ (d j : Nat), row.length - j = d → j ≤ row.length →
    Ev (fun k => if (row.drop j).any Zw = true then some 64 else qw.l3 k x54 x55 (wrap64 (i + 1))) r →
    Ev (fun k => qw.l4 k x54 x55 i row (row.length : Int) (j : Int)) r := by
  intro d
  induction d with
  | zero =>
    intro j e hj h
    rw [Jm _ (by omega)] at h
    refine Ev.step (fun k => ?_) h
    rw [qw.l4, if_neg (by omega)]; rfl
  | succ d ih =>
    intro j e hj h
    have hlt : j < row.length := by omega
    rw [ZU _ hlt] at h
    have h1 : (j : Int) < (row.length : Int) := by omega
    have h2 : (0 : Int) ≤ (j : Int) := by omega
    have b2 : Zw row[j] = (ZE row[j].f0 || ZE row[j].f1) := rfl
    cases c : Zw row[j] with
    | true =>
      rw [c, Bool.true_or] at h
      refine Ev.step (f := fun _ => some 64) (fun k => ?_) (by simpa using h)
      rw [qw.l4, if_pos h1, if_pos h2, if_pos h1, Zk hlt, fix_f, fix_f]
      rw [b2] at c
      cases c0 : ZE row[j].f0 <;> cases c1 : ZE row[j].f1 <;> simp [c0, c1] at c ⊢
    | false =>
      rw [c, Bool.false_or] at h
      refine Ev.step (fun k => ?_) (ih (j + 1) (by omega) (by omega) h)
      rw [qw.l4, if_pos h1, if_pos h2, if_pos h1, Zk hlt, QM (by omega), fix_f, fix_f]
      rw [b2, Bool.or_eq_false_iff] at c
      rw [c.1, c.2]; rfl
end
theorem chk_l3 (o : List (List S40)) (hm : ZG o) : ∀ (d i : Nat), o.length - i = d → i ≤ o.length → Ev (fun k => qw.l3 k o (o.length : Int) (i : Int)) (if (o.drop i).any (fun c => c.any Zw) = true then 64 else 0) := by
  have hl := hm.1
  intro d
  induction d with
  | zero =>
    intro i e hi
    rw [Jm _ (by omega)]
    refine Ev.step (f := fun _ => some 0) (fun k => ?_) (Ev.now _)
    rw [qw.l3, if_neg (by omega)]
  | succ d ih =>
    intro i e hi
    have hlt : i < o.length := by omega
    have hrow := hm.2 _ (List.getElem_mem hlt)
    have h1 : (i : Int) < (o.length : Int) := by omega
    have h2 : (0 : Int) ≤ (i : Int) := by omega
    rw [ZU _ hlt]
    refine Ev.step (f := fun k => qw.l4 k o (o.length : Int) (i : Int) o[i] (o[i].length : Int) ((0 : Nat) : Int)) (fun k => ?_) (chk_l4 (row := o[i]) (by omega) _ o[i].length 0 (by omega) (by omega) ?_)
    · rw [qw.l3, if_pos h1, if_pos h2, if_pos h1, Z9 hlt]; rfl
    · rw [List.drop_zero, QM (by omega)]
      cases c : o[i].any Zw with
      | true => simp only [if_true, Bool.true_or]; exact Ev.now _
      | false => simp only [Bool.false_eq_true, if_false, Bool.false_or]; exact ih (i + 1) (by omega) (by omega)
theorem chk_l1 (o : List (List S40)) (hm : ZG o) : ∀ (d i : Nat), o.length - i = d → i ≤ o.length → Ev (fun k => qw.l1 k o o (o.length : Int) (i : Int)) (if (o.drop i).any (fun c => c.any Zv) = true then 61 else if o.any (fun c => c.any Zw) = true then 64 else 0) := by
  have hl := hm.1
  intro d
  induction d with
  | zero =>
    intro i e hi
    rw [Jm _ (by omega)]
    refine Ev.step (f := fun k => qw.l3 k o (o.length : Int) ((0 : Nat) : Int)) (fun k => ?_) (by have h := chk_l3 o hm o.length 0 (by omega) (by omega); rw [List.drop_zero] at h; exact h)
    rw [qw.l1, if_neg (by omega)]; rfl
  | succ d ih =>
    intro i e hi
    have hlt : i < o.length := by omega
    have hrow := hm.2 _ (List.getElem_mem hlt)
    have h1 : (i : Int) < (o.length : Int) := by omega
    have h2 : (0 : Int) ≤ (i : Int) := by omega
    rw [ZU _ hlt]
    refine Ev.step (f := fun k => qw.l2 k o o (o.length : Int) (i : Int) o[i] (o[i].length : Int) ((0 : Nat) : Int)) (fun k => ?_) (chk_l2 (row := o[i]) (by omega) _ o[i].length 0 (by omega) (by omega) ?_)
    · rw [qw.l1, if_pos h1, if_pos h2, if_pos h1, Z9 hlt]; rfl
    · rw [List.drop_zero, QM (by omega)]
      cases c : o[i].any Zv with
      | true => simp only [if_true, Bool.true_or]; exact Ev.now _
      | false => simp only [Bool.false_eq_true, if_false, Bool.false_or]; exact ih (i + 1) (by omega) (by omega)
theorem chk_big (o : List (List S40)) (hm : ZG o) (hb : 256 < o.length) : ∀ (d i : Nat) (n : Int), o.length - i = d → i ≤ o.length → Ev (fun k => qw.l0 k o n o (o.length : Int) (i : Int)) 63 := by
  have hl := hm.1
  intro d
  induction d with
  | zero =>
    intro i n e hi
    refine Ev.step (f := fun k => qw.j1 k o true) (fun k => ?_) (Ev.step (f := fun _ => some 63) (fun k => ?_) (Ev.now _))
    · rw [qw.l0, if_neg (by omega), if_pos (by omega)]
    · rw [qw.j1, if_pos rfl]
  | succ d ih =>
    intro i n e hi
    have hlt : i < o.length := by omega
    have h1 : (i : Int) < (o.length : Int) := by omega
    have h2 : (0 : Int) ≤ (i : Int) := by omega
    refine Ev.step (fun k => ?_) (ih (i + 1) (wrap64 (n + (o[i].length : Int))) (by omega) (by omega))
    rw [qw.l0, if_pos h1, if_pos h2, if_pos h1, Z9 hlt, QM (by omega)]
theorem chk_small (o : List (List S40)) (hm : ZG o) (hb : o.length ≤ 256) (r : Int) (hr : Ev (fun k => qw.j1 k o (decide (((tot o : Nat) : Int) > 4096))) r) : ∀ (d i : Nat) (n : Nat), o.length - i = d → i ≤ o.length → n ≤ 5864062014634 * i → n + tot (o.drop i) = tot o → Ev (fun k => qw.l0 k o (n : Int) o (o.length : Int) (i : Int)) r := by
  intro d
  induction d with
  | zero =>
    intro i n e hi hn ht
    rw [List.drop_of_length_le (by omega)] at ht
    have ht : n = tot o := ht
    refine Ev.step (fun k => ?_) hr
    rw [qw.l0, if_neg (by omega), if_neg (by omega), ht]
  | succ d ih =>
    intro i n e hi hn ht
    have hlt : i < o.length := by omega
    have hrow := hm.2 _ (List.getElem_mem hlt)
    have er : o.drop i = o[i] :: o.drop (i + 1) := List.drop_eq_getElem_cons hlt
    have h0 : tot (o.drop i) = o[i].length + tot (o.drop (i + 1)) := by rw [er]; unfold tot; rw [List.map_cons, List.sum_cons]
    have h1 : (i : Int) < (o.length : Int) := by omega
    have h2 : (0 : Int) ≤ (i : Int) := by omega
    refine Ev.step (fun k => ?_) (ih (i + 1) (n + o[i].length) (by omega) (by omega) (by omega) (by omega))
    rw [qw.l0, if_pos h1, if_pos h2, if_pos h1, Z9 hlt, QM (by omega), w64 (n := (n : Int) + (o[i].length : Int)) (by omega) (by omega)]
    rfl
theorem rcheck_ev (o : List (List S40)) (hm : ZG o) : Ev (fun k => qw.f k o) (CK o) := by
  unfold qw.f CK
  by_cases c : 256 < o.length
  · rw [if_pos (Or.inl c)]; exact chk_big o hm c o.length 0 0 (by omega) (by omega)
  · refine chk_small o hm (by omega) _ ?_ o.length 0 0 (by omega) (by omega) (by omega) (by rw [List.drop_zero]; omega)
    by_cases c2 : 4096 < tot o
    · rw [if_pos (Or.inr c2)]
      refine Ev.step (f := fun _ => some 63) (fun k => ?_) (Ev.now _)
      rw [qw.j1, decide_eq_true (by omega), if_pos rfl]
    · rw [if_neg (by omega)]
      have h := chk_l1 o hm o.length 0 (by omega) (by omega)
      rw [List.drop_zero] at h
      refine Ev.step (fun k => ?_) h
      rw [qw.j1, decide_eq_false (by omega), if_neg (by simp)]; rfl
theorem copy_step (k : Nat) (o : List (List S40)) (i : Nat) (x3 : List (List S40)) (hm : ZG o) (hlt : i < o.length) (hx : x3.length ≤ o.length) : zo.l0 (k + 1) x3 o (o.length : Int) (i : Int) = zo.l0 k (x3 ++ [o[i]]) o (o.length : Int) ((i + 1 : Nat) : Int) := by
  have hl := hm.1
  have hrow := hm.2 _ (List.getElem_mem hlt)
  have h1 : (i : Int) < (o.length : Int) := by omega
  have h2 : (0 : Int) ≤ (i : Int) := by omega
  have h3 : ([] : List S40).length + o[i].length < 5864062014805 := by
    have : ([] : List S40).length = 0 := rfl
    omega
  have h4 : x3.length < 5864062014805 := by omega
  rw [zo.l0, if_pos h1, if_pos h2, if_pos h1, Option.bind_some, Z9 hlt, if_pos h3, if_pos h4, QM (by omega), List.nil_append]
theorem copy_l0 (o : List (List S40)) (hm : ZG o) : ∀ (d i : Nat) (x3 : List (List S40)), o.length - i = d → i ≤ o.length → x3 = o.take i → Ev (fun k => zo.l0 k x3 o (o.length : Int) (i : Int)) o := by
  intro d
  induction d with
  | zero =>
    intro i x3 e hi hx
    refine Ev.step (f := fun _ => some o) (fun k => ?_) (Ev.now _)
    rw [zo.l0, if_neg (by omega), hx, List.take_of_length_le (by omega)]
  | succ d ih =>
    intro i x3 e hi hx
    have hlt : i < o.length := by omega
    refine Ev.step (fun k => copy_step k o i x3 hm hlt (by rw [hx, List.length_take]; omega)) (ih (i + 1) (x3 ++ [o[i]]) (by omega) (by omega) ?_)
    rw [hx, List.take_add_one, List.getElem?_eq_getElem hlt]; rfl
theorem copy_ev (o : List (List S40)) (hm : ZG o) : Ev (fun k => zo.f k o) o := copy_l0 o hm o.length 0 [] (by omega) (by omega) rfl
theorem rdL4 {o : List (List S35)} {i : Nat} (h : i < o.length) : ja o (i : Int) = o[i] := by unfold ja; rw [Int.toNat_natCast, List.getD_eq_getElem?_getD, List.getElem?_eq_getElem h]; rfl
theorem sameS_l1 (o : List (List S35)) (i : Nat) (hi : i < o.length) (hr : o[i].length ≤ 9000000000000000000) (r : Bool) (h : Ev (fun k => qH.l0 k o o (o.length : Int) (wrap64 ((i : Int) + 1))) r) : ∀ (d j : Nat), o[i].length - j = d → j ≤ o[i].length →
    Ev (fun k => qH.l1 k o o (i : Int) (o.length : Int) (i : Int) (o[i].length : Int) (j : Int)) r := by
  intro d
  induction d with
  | zero =>
    intro j e hj
    refine Ev.step (fun k => ?_) h
    rw [qH.l1, if_neg (by omega)]
  | succ d ih =>
    intro j e hj
    have hlt : j < o[i].length := by omega
    have h1 : (j : Int) < (o[i].length : Int) := by omega
    have h2 : (0 : Int) ≤ (j : Int) := by omega
    have h3 : (i : Int) < (o.length : Int) := by omega
    have h4 : (0 : Int) ≤ (i : Int) := by omega
    refine Ev.step (fun k => ?_) (ih (j + 1) (by omega) (by omega))
    rw [qH.l1, rdL4 hi, if_pos h1, if_pos h4, if_pos h3, if_pos h2, if_pos h1, if_pos h3, if_pos h1, if_neg (by simp), QM (by omega)]
theorem sameS_l0 (o : List (List S35)) (hl : o.length ≤ 9000000000000000000) (hr : ∀ c ∈ o, c.length ≤ 9000000000000000000) : ∀ (d i : Nat), o.length - i = d → i ≤ o.length → Ev (fun k => qH.l0 k o o (o.length : Int) (i : Int)) true := by
  intro d
  induction d with
  | zero =>
    intro i e hi
    refine Ev.step (f := fun _ => some true) (fun k => ?_) (Ev.now _)
    rw [qH.l0, if_neg (by omega)]
  | succ d ih =>
    intro i e hi
    have hlt : i < o.length := by omega
    have h1 : (i : Int) < (o.length : Int) := by omega
    have h2 : (0 : Int) ≤ (i : Int) := by omega
    have h := ih (i + 1) (by omega) (by omega)
    rw [← QM (by omega)] at h
    have h := sameS_l1 o i hlt (hr _ (List.getElem_mem hlt)) true h o[i].length 0 (by omega) (by omega)
    refine Ev.step (fun k => ?_) h
    rw [qH.l0, if_pos h1, if_pos h2, if_pos h1, if_pos h1, rdL4 hlt, if_pos rfl]; rfl
theorem sameS_ev (o : List (List S35)) (hl : o.length ≤ 9000000000000000000) (hr : ∀ c ∈ o, c.length ≤ 9000000000000000000) : Ev (fun k => qH.f k o o) true := by
  unfold qH.f
  simp only [if_true]
  exact sameS_l0 o hl hr o.length 0 (by omega) (by omega)
end Go.Proofs.Ytmlkpadlafjfeaa.P
set_option linter.unusedVariables false
set_option linter.unusedSimpArgs false
namespace Go.Proofs.Ytmlkpadlafjfeaa.P
open Go Go.RowKit Go.Proofs.YtmlkpadlafjfeaaW.PrintWords Go.Proofs.YtmlkpadlafjfeaaW.PrintLast Go.Proofs.YtmlkpadlafjfeaaW.PrintMore
theorem rnear_pos {a b : Int} (h0 : 0 ≤ a) (ha : a ≤ 2147483647 * b) (hb : 0 < b) (hb1 : b ≤ 4096) (k : Nat) : za.f (k + 1) a b = some (nearest a b) := by
  have n0 : ¬ a < 0 := by omega
  have e1 : wrap64 (2 * b) = 2 * b := w64 (by omega) (by omega)
  have e2 : wrap64 (2 * a) = 2 * a := w64 (by omega) (by omega)
  have e3 : wrap64 (2 * a + b) = 2 * a + b := w64 (by omega) (by omega)
  have n1 : ¬ 2 * b = 0 := by omega
  have e4 : (2 * a + b).tdiv (2 * b) = nearest a b := by unfold nearest; exact Int.tdiv_eq_ediv_of_nonneg (by omega)
  have b1 := QY hb ha (by omega)
  have b0 := Qq h0 hb
  rw [za.f, if_neg n0, e1, if_neg n1, e2, e3, e4, w64 (by omega) (by omega)]
theorem J7 {a b : Int} (hb : 0 < b) (hb1 : b ≤ 4096) (h : Bd a (2147483647 * b)) : Ev (fun k => za.f k a b) (QS a b) := by
  have h0 := h.1; have h1 := h.2
  unfold QS
  by_cases c : a < 0
  · rw [if_pos c]
    have b1 := QY (n := -a) (M := 2147483647) hb (by omega) (by omega)
    have b0 := Qq (n := -a) (d := b) (by omega) hb
    refine ⟨2, fun k hk => ?_⟩
    obtain ⟨k, rfl⟩ : ∃ q, k = q + 1 + 1 := ⟨k - 2, by omega⟩
    show za.f (k + 1 + 1) a b = _
    rw [za.f, if_pos c, w64 (n := -a) (by omega) (by omega), rnear_pos (by omega) (by omega) hb hb1, Option.bind_some, w64 (by omega) (by omega)]
  · rw [if_neg c]
    exact Ev.step (f := fun _ => some (nearest a b)) (fun k => rnear_pos (by omega) h1 hb hb1 k) (Ev.now _)
theorem rhalf_pos {a : Int} (h0 : 0 ≤ a) (ha : a ≤ 4294967294) (k : Nat) : zt.f (k + 1) a = some (nearest a 2) := by
  have n0 : ¬ a < 0 := by omega
  have e3 : wrap64 (a + 1) = a + 1 := w64 (by omega) (by omega)
  have e4 : (a + 1).tdiv 2 = nearest a 2 := by unfold nearest; rw [Int.tdiv_eq_ediv_of_nonneg (by omega)]; omega
  have b0 := Qq (n := a) (d := 2) h0 (by omega)
  have b1 := QY (n := a) (d := 2) (M := 2147483647) (by omega) (by omega) (by omega)
  rw [zt.f, if_neg n0, e3, e4, w64 (by omega) (by omega)]
theorem rhalf_ev {a : Int} (h : Bd a 4294967294) : Ev (fun k => zt.f k a) (QS a 2) := by
  have h0 := h.1; have h1 := h.2
  unfold QS
  by_cases c : a < 0
  · rw [if_pos c]
    have b1 := QY (n := -a) (d := 2) (M := 2147483647) (by omega) (by omega) (by omega)
    have b0 := Qq (n := -a) (d := 2) (by omega) (by omega)
    refine ⟨2, fun k hk => ?_⟩
    obtain ⟨k, rfl⟩ : ∃ q, k = q + 1 + 1 := ⟨k - 2, by omega⟩
    show zt.f (k + 1 + 1) a = _
    rw [zt.f, if_pos c, w64 (n := -a) (by omega) (by omega), rhalf_pos (by omega) (by omega), Option.bind_some, w64 (by omega) (by omega)]
  · rw [if_neg c]
    exact Ev.step (f := fun _ => some (nearest a 2)) (fun k => rhalf_pos (by omega) h1 k) (Ev.now _)
theorem rmid_ev {a b : S40} (ha : QQ a) (hb : QQ b) (u v : Int) : Ev (fun k => ze.f k a.f0 a.f1 u b.f0 b.f1 v) ((Ze a b).f0, (Ze a b).f1) := by
  obtain ⟨⟨a0, a1⟩, a2, a3⟩ := ha
  obtain ⟨⟨b0, b1⟩, b2, b3⟩ := hb
  unfold ze.f
  rw [w64 (n := a.f0 + b.f0) (by omega) (by omega), w64 (n := a.f1 + b.f1) (by omega) (by omega)]
  exact Ev.bind (rhalf_ev ⟨by omega, by omega⟩) (Ev.bind (rhalf_ev ⟨by omega, by omega⟩) (Ev.now _))
theorem rabs_f {n : Int} (h : Bd n 9000000000000000000) : ji.f n = some (jB n) := by
  unfold ji.f jB
  have h0 := h.1; have h1 := h.2
  split
  · rw [w64 (by omega) (by omega)]
  · rfl
theorem rbend_f {a b c : S35} (ha : zA a) (hb : zA b) (hc : zA c) : jd.f a.f0 a.f1 b.f0 b.f1 c.f0 c.f1 = some (jc a b c) := by
  have hbb := JS ha hb hc
  obtain ⟨⟨a0, a1⟩, a2, a3⟩ := ha
  obtain ⟨⟨b0, b1⟩, b2, b3⟩ := hb
  obtain ⟨⟨c0, c1⟩, c2, c3⟩ := hc
  unfold jd.f
  rw [w64 (n := 2 * b.f0) (by omega) (by omega), w64 (n := 2 * b.f1) (by omega) (by omega), w64 (n := a.f0 - 2 * b.f0) (by omega) (by omega), w64 (n := a.f1 - 2 * b.f1) (by omega) (by omega), w64 (n := a.f0 - 2 * b.f0 + c.f0) (by omega) (by omega), w64 (n := a.f1 - 2 * b.f1 + c.f1) (by omega) (by omega)]
  rw [rabs_f ⟨by omega, by omega⟩, Option.bind_some, rabs_f ⟨by omega, by omega⟩, Option.bind_some]
  unfold jc at hbb ⊢
  rw [w64 (by omega) (by omega)]
theorem pts_q1 {a c b : S35} {n : Int} (k : Nat) (i : Int) (out : List S35) (hi : i ≤ n) (ho : out.length ≤ 1000000) (h1 : 0 ≤ i) (hn : n ≤ 16) : qx.l1 (k + 1) n out i a.f0 a.f1 [c] b.f0 b.f1 c.f0 c.f1 =
    (za.f k (qX a.f0 c.f0 b.f0 n i) (wrap64 (n * n))).bind fun s => (za.f k (qX a.f1 c.f1 b.f1 n i) (wrap64 (n * n))).bind fun t => qx.l1 k n (out ++ [(⟨s, t⟩ : S35)]) (i + 1) a.f0 a.f1 [c] b.f0 b.f1 c.f0 c.f1 := by
  have e1 : wrap64 (n - i) = n - i := w64 (by omega) (by omega)
  have e2 : wrap64 (i + 1) = i + 1 := w64 (by omega) (by omega)
  have e3 : (([c] : List S35).length : Int) = 1 := rfl
  have e4 : out.length < 8796093022208 := by omega
  rw [qx.l1, if_pos hi, if_pos e3, e1, e2]
  simp only [if_pos e4]
  rfl
theorem pts_q {a c b : S35} {n : Int} (ha : zA a) (hc : zA c) (hb : zA b) (n1 : 1 ≤ n) (hn : n ≤ 16) : ∀ (m : Nat) (i : Int) (out : List S35), 0 ≤ i → i + m = n + 1 → out.length + m ≤ 1000000 → Ev (fun k => qx.l1 k n out i a.f0 a.f1 [c] b.f0 b.f1 c.f0 c.f1) (out ++ qPs a c b n m i)
  | 0, i, out, h0, h1, ho => by
    refine Ev.step (f := fun _ => some out) (fun k => ?_) (by rw [qPs, List.append_nil]; exact Ev.now _)
    rw [qx.l1, if_neg (by omega)]
  | m + 1, i, out, h0, h1, ho => by
    have hi : i ≤ n := by omega
    have hs := sq_b n1 hn
    have e : qPs a c b n (m + 1) i = qP a c b n i :: qPs a c b n m (i + 1) := rfl
    rw [e]
    refine Ev.step (fun k => pts_q1 k i out hi (by omega) h0 hn) ?_
    rw [qX_q1 ha.1 hc.1 hb.1 h0 hi hn, qX_q1 ha.2 hc.2 hb.2 h0 hi hn, sq_w (by omega) hn]
    refine Ev.bind (J7 hs.1 (by omega) (q1_bd ha.1 hc.1 hb.1 h0 hi)) (Ev.bind (J7 hs.1 (by omega) (q1_bd ha.2 hc.2 hb.2 h0 hi)) ?_)
    have := pts_q ha hc hb n1 hn m (i + 1) (out ++ [qP a c b n i]) (by omega) (by omega) (by rw [List.length_append, List.length_singleton]; omega)
    rw [List.append_assoc] at this
    exact this
theorem pts_c1 {a c d b : S35} {n : Int} (k : Nat) (i : Int) (out : List S35) (hi : i ≤ n) (ho : out.length ≤ 1000000) (h1 : 0 ≤ i) (hn : n ≤ 16) : qx.l1 (k + 1) n out i a.f0 a.f1 [c, d] b.f0 b.f1 c.f0 c.f1 =
    (za.f k (cXj a.f0 c.f0 d.f0 b.f0 i (n - i)) (wrap64 (wrap64 (n * n) * n))).bind fun s => (za.f k (cXj a.f1 c.f1 d.f1 b.f1 i (n - i)) (wrap64 (wrap64 (n * n) * n))).bind fun t => qx.l1 k n (out ++ [(⟨s, t⟩ : S35)]) (i + 1) a.f0 a.f1 [c, d] b.f0 b.f1 c.f0 c.f1 := by
  have e1 : wrap64 (n - i) = n - i := w64 (by omega) (by omega)
  have e2 : wrap64 (i + 1) = i + 1 := w64 (by omega) (by omega)
  have e3 : ¬ (([c, d] : List S35).length : Int) = 1 := by simp
  have e5 : (1 : Int) < (([c, d] : List S35).length : Int) := by simp
  have e6 : qG [c, d] 1 = d := rfl
  have e4 : out.length < 8796093022208 := by omega
  rw [qx.l1, if_pos hi, if_neg e3, if_pos e5, e1, e2, e6]
  simp only [if_pos e4]
  rfl
theorem pts_c {a c d b : S35} {n : Int} (ha : zA a) (hc : zA c) (hd : zA d) (hb : zA b) (n1 : 1 ≤ n) (hn : n ≤ 16) : ∀ (m : Nat) (i : Int) (out : List S35), 0 ≤ i → i + m = n + 1 → out.length + m ≤ 1000000 → Ev (fun k => qx.l1 k n out i a.f0 a.f1 [c, d] b.f0 b.f1 c.f0 c.f1) (out ++ cPs a c d b n m i)
  | 0, i, out, h0, h1, ho => by
    refine Ev.step (f := fun _ => some out) (fun k => ?_) (by rw [cPs, List.append_nil]; exact Ev.now _)
    rw [qx.l1, if_neg (by omega)]
  | m + 1, i, out, h0, h1, ho => by
    have hi : i ≤ n := by omega
    have hs := cu_b n1 hn
    have e : cPs a c d b n (m + 1) i = cP a c d b n i :: cPs a c d b n m (i + 1) := rfl
    rw [e]
    refine Ev.step (fun k => pts_c1 k i out hi (by omega) h0 hn) ?_
    rw [cXj_c1 ha.1 hc.1 hd.1 hb.1 h0 hi hn, cXj_c1 ha.2 hc.2 hd.2 hb.2 h0 hi hn, cu_w (by omega) hn]
    refine Ev.bind (J7 hs.1 (by omega) (c1_bd ha.1 hc.1 hd.1 hb.1 h0 hi)) (Ev.bind (J7 hs.1 (by omega) (c1_bd ha.2 hc.2 hd.2 hb.2 h0 hi)) ?_)
    have := pts_c ha hc hd hb n1 hn m (i + 1) (out ++ [cP a c d b n i]) (by omega) (by omega) (by rw [List.length_append, List.length_singleton]; omega)
    rw [List.append_assoc] at this
    exact this
theorem JR (d : Int) (a0 a1 : Int) (cs : List S35) (b0 b1 c0 c1 : Int) (k : Nat) (n : Int) (h0 : 1 ≤ n) (hn : n ≤ 16) : qx.l0 (k + 1) d n a0 a1 cs b0 b1 c0 c1 = if n < 16 ∧ d > 4 * n * n then qx.l0 k d (2 * n) a0 a1 cs b0 b1 c0 c1 else qx.j2 k n a0 a1 cs b0 b1 c0 c1 := by
  have e1 : wrap64 (wrap64 (4 * n) * n) = 4 * n * n := by
    have A := (show Bd (4 * n) 64 from ⟨by omega, by omega⟩)
    rw [A.w (by decide), ((A.mulc (j := n) 16 (by omega) (by omega) hn).w (by decide))]
  have e2 : wrap64 (n + n) = 2 * n := by rw [w64 (by omega) (by omega)]; omega
  rw [qx.l0, e1, e2]
  by_cases c : n < 16
  · rw [if_pos c]
    by_cases c2 : d > 4 * n * n
    · rw [if_pos c2, if_pos ⟨c, c2⟩]
    · rw [if_neg c2, if_neg (fun z => c2 z.2)]
  · rw [if_neg c, if_neg (fun z => c z.1)]
theorem pts_l0 (d : Int) (a0 a1 : Int) (cs : List S35) (b0 b1 c0 c1 : Int) (r : List S35) (h : Ev (fun k => qx.j2 k (jQ d : Int) a0 a1 cs b0 b1 c0 c1) r) : Ev (fun k => qx.l0 k d 1 a0 a1 cs b0 b1 c0 c1) r := by
  unfold jQ at h
  refine Ev.step (fun k => JR d a0 a1 cs b0 b1 c0 c1 k 1 (by omega) (by omega)) ?_
  by_cases k1 : d ≤ 4
  · rw [if_pos k1] at h; simp only [if_neg (show ¬ ((1 : Int) < 16 ∧ d > 4 * 1 * 1) by omega)]; exact h
  rw [if_neg k1] at h; simp only [if_pos (show ((1 : Int) < 16 ∧ d > 4 * 1 * 1) by omega)]
  refine Ev.step (fun k => JR d a0 a1 cs b0 b1 c0 c1 k 2 (by omega) (by omega)) ?_
  by_cases k2 : d ≤ 16
  · rw [if_pos k2] at h; simp only [if_neg (show ¬ ((2 : Int) < 16 ∧ d > 4 * 2 * 2) by omega)]; exact h
  rw [if_neg k2] at h; simp only [if_pos (show ((2 : Int) < 16 ∧ d > 4 * 2 * 2) by omega)]
  refine Ev.step (fun k => JR d a0 a1 cs b0 b1 c0 c1 k 4 (by omega) (by omega)) ?_
  by_cases k3 : d ≤ 64
  · rw [if_pos k3] at h; simp only [if_neg (show ¬ ((4 : Int) < 16 ∧ d > 4 * 4 * 4) by omega)]; exact h
  rw [if_neg k3] at h; simp only [if_pos (show ((4 : Int) < 16 ∧ d > 4 * 4 * 4) by omega)]
  refine Ev.step (fun k => JR d a0 a1 cs b0 b1 c0 c1 k 8 (by omega) (by omega)) ?_
  by_cases k4 : d ≤ 256
  · rw [if_pos k4] at h; simp only [if_neg (show ¬ ((8 : Int) < 16 ∧ d > 4 * 8 * 8) by omega)]; exact h
  rw [if_neg k4] at h; simp only [if_pos (show ((8 : Int) < 16 ∧ d > 4 * 8 * 8) by omega)]
  refine Ev.step (fun k => JR d a0 a1 cs b0 b1 c0 c1 k 16 (by omega) (by omega)) ?_
  simp only [if_neg (show ¬ ((16 : Int) < 16 ∧ d > 4 * 16 * 16) by omega)]; exact h
def JL (now : S35) (a : S64) : List S35 :=
  match a.f0 with
  | [] => [a.f1]
  | [c] => QL now c a.f1
  | c :: d :: _ => QF now c d a.f1
def okA (a : S64) : Prop := zA a.f1 ∧ a.f0.length ≤ 2 ∧ ∀ x ∈ a.f0, zA x
theorem pts_ev {now : S35} {a : S64} (hn : zA now) (ha : okA a) : Ev (fun k => qx.f k now.f0 now.f1 a.f0 a.f1.f0 a.f1.f1) (JL now a) := by
  obtain ⟨cs, e⟩ := a
  obtain ⟨h1, h2, h3⟩ := ha
  dsimp only at h1 h2 h3 ⊢
  unfold qx.f JL
  dsimp only
  match cs, h2, h3 with
  | [], _, _ => exact Ev.now _
  | [c], _, h3 =>
    have hc := h3 c (by simp)
    have e0 : qG [c] 0 = c := rfl
    have t1 : ¬ (([c] : List S35).length : Int) = 0 := by simp
    have t2 : (0 : Int) < (([c] : List S35).length : Int) := by simp
    have t3 : ¬ (([c] : List S35).length : Int) = 2 := by simp
    rw [e0, rbend_f hn hc h1]
    simp only [if_neg t1, if_pos t2, if_neg t3, Option.bind_some]
    refine Ev.step (f := fun k => qx.l0 k (jc now c e) 1 now.f0 now.f1 [c] e.f0 e.f1 c.f0 c.f1) (fun k => by rw [qx.j0]) (pts_l0 _ _ _ _ _ _ _ _ _ ?_)
    have hp := Qt (jc now c e)
    refine Ev.step (f := fun k => qx.l1 k (jQ (jc now c e) : Int) [] 1 now.f0 now.f1 [c] e.f0 e.f1 c.f0 c.f1) (fun k => by rw [qx.j2]) ?_
    exact pts_q hn hc h1 (by omega) (by omega) (jQ (jc now c e)) 1 [] (by omega) (by omega) (by simp; omega)
  | [c, d], _, h3 =>
    have hc := h3 c (by simp)
    have hd := h3 d (by simp)
    have e0 : qG [c, d] 0 = c := rfl
    have e1 : qG [c, d] 1 = d := rfl
    have t1 : ¬ (([c, d] : List S35).length : Int) = 0 := by simp
    have t2 : (0 : Int) < (([c, d] : List S35).length : Int) := by simp
    have t3 : (([c, d] : List S35).length : Int) = 2 := by simp
    have t4 : (1 : Int) < (([c, d] : List S35).length : Int) := by simp
    have b1 := JS hn hc hd
    have b2 := JS hc hd h1
    rw [e0, e1, rbend_f hn hc h1, rbend_f hn hc hd, rbend_f hc hd h1]
    simp only [if_neg t1, if_pos t2, if_pos t3, if_pos t4, Option.bind_some]
    rw [w64 (n := jc now c d + jc c d e) (by omega) (by omega)]
    refine Ev.step (f := fun k => qx.l0 k (jc now c d + jc c d e) 1 now.f0 now.f1 [c, d] e.f0 e.f1 c.f0 c.f1) (fun k => by rw [qx.j0]) (pts_l0 _ _ _ _ _ _ _ _ _ ?_)
    have hp := Qt (jc now c d + jc c d e)
    refine Ev.step (f := fun k => qx.l1 k (jQ (jc now c d + jc c d e) : Int) [] 1 now.f0 now.f1 [c, d] e.f0 e.f1 c.f0 c.f1) (fun k => by rw [qx.j2]) ?_
    exact pts_c hn hc hd h1 (by omega) (by omega) (jQ (jc now c d + jc c d e)) 1 [] (by omega) (by omega) (by simp; omega)
  | _ :: _ :: _ :: _, h2, _ => simp at h2
def ZO (a : S64) : Option (List S64 × Bool) → Option (List S64 × Bool)
  | none => none
  | some r => some (a :: r.1, r.2)
def arW (s : S35) : Nat → List S40 → Option (List S64 × Bool)
  | 0, _ => some ([], false)
  | m + 1, [] => some ([], false)
  | m + 1, k :: r =>
    if k.f2 = 1 then ZO ⟨[], sp k⟩ (arW s m r)
    else if k.f2 = 2 then
      match r with
      | [] => some ([⟨[sp k], s⟩], true)
      | h :: r' => if h.f2 = 2 then ZO ⟨[sp k], Ze k h⟩ (arW s m r)
        else if h.f2 = 3 then none
        else ZO ⟨[sp k], sp h⟩ (arW s m r')
    else
      match r with
      | [] => none
      | [h] => if h.f2 = 3 then some ([⟨[sp k, sp h], s⟩], true) else none
      | h :: e :: r' => if h.f2 = 3 then (if e.f2 = 3 then none else if e.f2 = 2 then none else ZO ⟨[sp k, sp h], sp e⟩ (arW s m r')) else none
theorem arW_nil (s : S35) (m : Nat) : arW s m [] = some ([], false) := by cases m <;> rfl
theorem arW_on {s : S35} {m : Nat} {k : S40} {r : List S40} (h : k.f2 = 1) : arW s (m + 1) (k :: r) = ZO ⟨[], sp k⟩ (arW s m r) := by
  conv => lhs; unfold arW
  simp only [if_pos h]
theorem arW_q0 {s : S35} {m : Nat} {k : S40} (h : k.f2 = 2) : arW s (m + 1) [k] = some ([⟨[sp k], s⟩], true) := by
  conv => lhs; unfold arW
  simp only [if_pos h, if_neg (show ¬ k.f2 = 1 by omega)]
theorem arW_q1 {s : S35} {m : Nat} {k h : S40} {r : List S40} (e : k.f2 = 2) : arW s (m + 1) (k :: h :: r) = if h.f2 = 2 then ZO ⟨[sp k], Ze k h⟩ (arW s m (h :: r)) else if h.f2 = 3 then none else ZO ⟨[sp k], sp h⟩ (arW s m r) := by
  conv => lhs; unfold arW
  simp only [if_pos e, if_neg (show ¬ k.f2 = 1 by omega)]
theorem arW_c0 {s : S35} {m : Nat} {k : S40} (h1 : k.f2 ≠ 1) (h2 : k.f2 ≠ 2) : arW s (m + 1) [k] = none := by
  conv => lhs; unfold arW
  simp only [if_neg h1, if_neg h2]
theorem arW_c1 {s : S35} {m : Nat} {k h : S40} (h1 : k.f2 ≠ 1) (h2 : k.f2 ≠ 2) : arW s (m + 1) [k, h] = if h.f2 = 3 then some ([⟨[sp k, sp h], s⟩], true) else none := by
  conv => lhs; unfold arW
  simp only [if_neg h1, if_neg h2]
theorem arW_c2 {s : S35} {m : Nat} {k h e : S40} {r : List S40} (h1 : k.f2 ≠ 1) (h2 : k.f2 ≠ 2) : arW s (m + 1) (k :: h :: e :: r) = if h.f2 = 3 then (if e.f2 = 3 then none else if e.f2 = 2 then none else ZO ⟨[sp k, sp h], sp e⟩ (arW s m r)) else none := by
  conv => lhs; unfold arW
  simp only [if_neg h1, if_neg h2]
def ptsA : S35 → List S64 → List S35
  | _, [] => []
  | now, a :: r => JL now a ++ ptsA a.f1 r
def mapA (now : S35) : Option (List S64 × Bool) → Option (List S35 × Bool)
  | none => none
  | some r => some (ptsA now r.1, r.2)
theorem qah (now : S35) (a : S64) (r : Option (List S64 × Bool)) : mapA now (ZO a r) = Zu (JL now a) (mapA a.f1 r) := by
  cases r <;> rfl
theorem JX (s : S35) : ∀ (m : Nat) (l : List S40) (now : S35), ctW s m l now = mapA now (arW s m l)
  | 0, l, now => rfl
  | m + 1, [], now => rfl
  | m + 1, k :: r, now => by
    by_cases k1 : k.f2 = 1
    · rw [ctW_on k1, arW_on k1, qah, JX s m]; rfl
    by_cases k2 : k.f2 = 2
    · match r with
      | [] => rw [ctW_q0 k2, arW_q0 k2]; simp [mapA, ptsA, JL]
      | h :: r' =>
        rw [ctW_q1 k2, arW_q1 k2, JX s m (h :: r'), JX s m r']
        split
        · rw [qah]; rfl
        · split
          · rfl
          · rw [qah]; rfl
    · match r with
      | [] => rw [ctW_c0 k1 k2, arW_c0 k1 k2]; rfl
      | [h] =>
        rw [ctW_c1 k1 k2, arW_c1 k1 k2]
        split
        · simp [mapA, ptsA, JL]
        · rfl
      | h :: e :: r' =>
        rw [ctW_c2 k1 k2, arW_c2 k1 k2, JX s m r']
        split
        · split
          · rfl
          · split
            · rfl
            · rw [qah]; rfl
        · rfl
def endA (s : S35) (out : List S64) : Option (List S64 × Bool) → Int × Int × List S64 × Bool × Bool
  | none => (s.f0, s.f1, [], false, false)
  | some r => (s.f0, s.f1, out ++ r.1, r.2, true)
theorem qak (s : S35) (out : List S64) (a : S64) (r : Option (List S64 × Bool)) : endA s out (ZO a r) = endA s (out ++ [a]) r := by
  cases r with
  | none => rfl
  | some r => simp [ZO, endA]
section
variable {s : S35} (hs : s = s)
theorem arc_end (k : Nat) (out : List S64) (u v : Int) : qi.l2 (k + 1) [] out u v = some (u, v, out, false, true) := by
  rw [qi.l2, if_neg (by simp)]
theorem arc_on (k : Nat) (x : S40) (r : List S40) (out : List S64) (u v : Int) (ho : out.length ≤ 1000000) (h : x.f2 = 1) : qi.l2 (k + 1) (x :: r) out u v = qi.l2 k r (out ++ [⟨[], sp x⟩]) u v := by
  have t1 : ((x :: r).length : Int) > 0 := by simp only [List.length_cons]; omega
  have t2 : (1 : Int) ≤ ((x :: r).length : Int) := by simp only [List.length_cons]; omega
  have e0 : qb (x :: r) 0 = x := rfl
  have e1 : (x :: r).drop (1 : Int).toNat = r := rfl
  have e2 : out.length < 3518437208883 := by omega
  rw [qi.l2, if_pos t1, if_pos t1, if_pos t2, Option.bind_some, e0, e1, if_pos h, if_pos e2]; rfl
theorem arc_q (k : Nat) (x : S40) (r : List S40) (out : List S64) (u v : Int) (h : x.f2 = 2) : qi.l2 (k + 1) (x :: r) out u v = qi.j4 k r out u v x.f0 x.f1 x.f2 [sp x] 0 0 := by
  have t1 : ((x :: r).length : Int) > 0 := by simp only [List.length_cons]; omega
  have t2 : (1 : Int) ≤ ((x :: r).length : Int) := by simp only [List.length_cons]; omega
  have e0 : qb (x :: r) 0 = x := rfl
  have e1 : (x :: r).drop (1 : Int).toNat = r := rfl
  rw [qi.l2, if_pos t1, if_pos t1, if_pos t2, Option.bind_some, e0, e1, if_neg (by omega), Option.bind_some, if_neg (by omega)]; rfl
theorem arc_c0 (k : Nat) (x : S40) (out : List S64) (u v : Int) (h : x.f2 = 3) : qi.l2 (k + 1) [x] out u v = some (u, v, [], false, false) := by
  have t1 : (([x] : List S40).length : Int) > 0 := by simp
  have t2 : (1 : Int) ≤ (([x] : List S40).length : Int) := by simp
  have e0 : qb [x] 0 = x := rfl
  have e1 : [x].drop (1 : Int).toNat = [] := rfl
  have t0 : (([] : List S40).length : Int) = 0 := rfl
  rw [qi.l2, if_pos t1, if_pos t1, if_pos t2, Option.bind_some, e0, e1, if_neg (by omega), Option.bind_some, if_pos h, if_pos t0]
theorem arc_cn (k : Nat) (x y : S40) (r : List S40) (out : List S64) (u v : Int) (h : x.f2 = 3) (hy : y.f2 ≠ 3) : qi.l2 (k + 1) (x :: y :: r) out u v = some (u, v, [], false, false) := by
  have t1 : ((x :: y :: r).length : Int) > 0 := by simp only [List.length_cons]; omega
  have t2 : (1 : Int) ≤ ((x :: y :: r).length : Int) := by simp only [List.length_cons]; omega
  have t3 : ¬ ((y :: r).length : Int) = 0 := by simp only [List.length_cons]; omega
  have t4 : (0 : Int) < ((y :: r).length : Int) := by simp only [List.length_cons]; omega
  have e0 : qb (x :: y :: r) 0 = x := rfl
  have e2 : qb (y :: r) 0 = y := rfl
  have e1 : (x :: y :: r).drop (1 : Int).toNat = y :: r := rfl
  rw [qi.l2, if_pos t1, if_pos t1, if_pos t2, Option.bind_some, e0, e1, if_neg (by omega), Option.bind_some, if_pos h, if_neg t3, if_pos t4, e2, if_neg hy]
theorem arc_c (k : Nat) (x y : S40) (r : List S40) (out : List S64) (u v : Int) (h : x.f2 = 3) (hy : y.f2 = 3) : qi.l2 (k + 1) (x :: y :: r) out u v = qi.j4 k r out u v x.f0 x.f1 x.f2 [sp x, sp y] 0 0 := by
  have t1 : ((x :: y :: r).length : Int) > 0 := by simp only [List.length_cons]; omega
  have t2 : (1 : Int) ≤ ((x :: y :: r).length : Int) := by simp only [List.length_cons]; omega
  have t3 : ¬ ((y :: r).length : Int) = 0 := by simp only [List.length_cons]; omega
  have t4 : (0 : Int) < ((y :: r).length : Int) := by simp only [List.length_cons]; omega
  have t5 : (1 : Int) ≤ ((y :: r).length : Int) := by simp only [List.length_cons]; omega
  have e0 : qb (x :: y :: r) 0 = x := rfl
  have e2 : qb (y :: r) 0 = y := rfl
  have e1 : (x :: y :: r).drop (1 : Int).toNat = y :: r := rfl
  have e3 : (y :: r).drop (1 : Int).toNat = r := rfl
  have e4 : ([(⟨x.f0, x.f1⟩ : S35)] : List S35).length < 8796093022208 := by
    have : ([(⟨x.f0, x.f1⟩ : S35)] : List S35).length = 1 := rfl
    omega
  rw [qi.l2, if_pos t1, if_pos t1, if_pos t2, Option.bind_some, e0, e1, if_neg (by omega), Option.bind_some, if_pos h, if_neg t3, if_pos t4, e2, if_pos hy, if_pos e4, if_pos t5, e3]; rfl
theorem arc_j0 (k : Nat) (out : List S64) (u v a b c : Int) (cs : List S35) (ho : out.length ≤ 1000000) : qi.j4 (k + 1) [] out u v a b c cs 0 0 = some (u, v, out ++ [⟨cs, ⟨u, v⟩⟩], true, true) := by
  have e2 : out.length < 3518437208883 := by omega
  have t0 : (([] : List S40).length : Int) = 0 := rfl
  rw [qi.j4, if_pos t0, if_pos e2]
theorem arc_j1 (k : Nat) (x : S40) (r : List S40) (out : List S64) (u v a b c : Int) (cs : List S35) (ho : out.length ≤ 1000000) (h : x.f2 = 1) : qi.j4 (k + 1) (x :: r) out u v a b c cs 0 0 = qi.l2 k r (out ++ [⟨cs, sp x⟩]) u v := by
  have t3 : ¬ ((x :: r).length : Int) = 0 := by simp only [List.length_cons]; omega
  have t4 : (0 : Int) < ((x :: r).length : Int) := by simp only [List.length_cons]; omega
  have t5 : (1 : Int) ≤ ((x :: r).length : Int) := by simp only [List.length_cons]; omega
  have e0 : qb (x :: r) 0 = x := rfl
  have e1 : (x :: r).drop (1 : Int).toNat = r := rfl
  have e2 : out.length < 3518437208883 := by omega
  rw [qi.j4, if_neg t3, if_pos t4, e0, if_pos h, if_pos t5, if_pos e2, e1]; rfl
theorem arc_j2 (k : Nat) (x : S40) (r : List S40) (out : List S64) (u v a b c : Int) (cs : List S35) (ho : out.length ≤ 1000000) (h : x.f2 = 2) (hc : c = 2) : qi.j4 (k + 1) (x :: r) out u v a b c cs 0 0 = (ze.f k a b c x.f0 x.f1 x.f2).bind fun m => qi.l2 k (x :: r) (out ++ [⟨cs, ⟨m.1, m.2⟩⟩]) u v := by
  have t3 : ¬ ((x :: r).length : Int) = 0 := by simp only [List.length_cons]; omega
  have t4 : (0 : Int) < ((x :: r).length : Int) := by simp only [List.length_cons]; omega
  have e0 : qb (x :: r) 0 = x := rfl
  have e2 : out.length < 3518437208883 := by omega
  rw [qi.j4, if_neg t3, if_pos t4, e0, if_neg (by omega), if_pos hc, if_pos h]
  simp only [if_pos e2]
theorem arc_jn (k : Nat) (x : S40) (r : List S40) (out : List S64) (u v a b c : Int) (cs : List S35) (h1 : x.f2 ≠ 1) (h2 : x.f2 = 2 → c ≠ 2) : qi.j4 (k + 1) (x :: r) out u v a b c cs 0 0 = some (u, v, [], false, false) := by
  have t3 : ¬ ((x :: r).length : Int) = 0 := by simp only [List.length_cons]; omega
  have t4 : (0 : Int) < ((x :: r).length : Int) := by simp only [List.length_cons]; omega
  have e0 : qb (x :: r) 0 = x := rfl
  rw [qi.j4, if_neg t3, if_pos t4, e0, if_neg h1]
  by_cases hc : c = 2
  · rw [if_pos hc, if_neg (fun z => h2 z hc)]
  · rw [if_neg hc]
end
theorem JP (s : S35) : ∀ (m : Nat) (l : List S40) (out : List S64), l.length < m → (∀ x ∈ l, okK x) → out.length + l.length ≤ 1000000 → Ev (fun k => qi.l2 k l out s.f0 s.f1) (endA s out (arW s m l))
  | 0, l, out, h, _, _ => by omega
  | m + 1, [], out, h, hk, ho => by
    rw [arW_nil]
    refine Ev.step (f := fun _ => some (s.f0, s.f1, out, false, true)) (fun k => arc_end k out _ _) ?_
    simp only [endA, List.append_nil]; exact Ev.now _
  | m + 1, x :: r, out, h, hk, ho => by
    simp only [List.length_cons] at h ho
    have hkr : ∀ y ∈ r, okK y := fun y hy => hk y (List.mem_cons_of_mem _ hy)
    obtain ⟨q1, q2, q3⟩ := hk x (by simp)
    by_cases k1 : x.f2 = 1
    · rw [arW_on k1, qak]
      exact Ev.step (fun k => arc_on k x r out _ _ (by omega) k1) (JP s m r _ (by omega) hkr (by rw [List.length_append, List.length_singleton]; omega))
    by_cases k2 : x.f2 = 2
    · match r, h, ho, hkr with
      | [], h, ho, hkr =>
        rw [arW_q0 k2]
        exact Ev.step (fun k => arc_q k x [] out _ _ k2) (Ev.step (f := fun _ => some (s.f0, s.f1, out ++ [⟨[sp x], s⟩], true, true)) (fun k => arc_j0 k out _ _ _ _ _ _ (by omega)) (Ev.now _))
      | y :: r', h, ho, hkr =>
        simp only [List.length_cons] at h ho
        obtain ⟨p1, p2, p3⟩ := hkr y (by simp)
        have hkr' : ∀ z ∈ r', okK z := fun z hz => hkr z (List.mem_cons_of_mem _ hz)
        rw [arW_q1 k2]
        by_cases c1 : y.f2 = 2
        · rw [if_pos c1, qak]
          exact Ev.step (fun k => arc_q k x (y :: r') out _ _ k2) (Ev.step (fun k => arc_j2 k y r' out _ _ _ _ _ _ (by omega) c1 k2) (Ev.bind (rmid_ev q3 p3 _ _) (JP s m (y :: r') _ (by simp; omega) hkr (by rw [List.length_append, List.length_singleton, List.length_cons]; omega))))
        · rw [if_neg c1]
          by_cases c2 : y.f2 = 3
          · rw [if_pos c2]
            exact Ev.step (fun k => arc_q k x (y :: r') out _ _ k2) (Ev.step (f := fun _ => some (s.f0, s.f1, [], false, false)) (fun k => arc_jn k y r' out _ _ _ _ _ _ (by omega) (fun z => absurd z c1)) (Ev.now _))
          · rw [if_neg c2, qak]
            have c3 : y.f2 = 1 := by omega
            exact Ev.step (fun k => arc_q k x (y :: r') out _ _ k2) (Ev.step (fun k => arc_j1 k y r' out _ _ _ _ _ _ (by omega) c3) (JP s m r' _ (by omega) hkr' (by rw [List.length_append, List.length_singleton]; omega)))
    · have k3 : x.f2 = 3 := by omega
      match r, h, ho, hkr with
      | [], h, ho, hkr =>
        rw [arW_c0 k1 k2]
        exact Ev.step (f := fun _ => some (s.f0, s.f1, [], false, false)) (fun k => arc_c0 k x out _ _ k3) (Ev.now _)
      | [y], h, ho, hkr =>
        rw [arW_c1 k1 k2]
        by_cases c1 : y.f2 = 3
        · rw [if_pos c1]
          exact Ev.step (fun k => arc_c k x y [] out _ _ k3 c1) (Ev.step (f := fun _ => some (s.f0, s.f1, out ++ [⟨[sp x, sp y], s⟩], true, true)) (fun k => arc_j0 k out _ _ _ _ _ _ (by simp at ho; omega)) (Ev.now _))
        · rw [if_neg c1]
          exact Ev.step (f := fun _ => some (s.f0, s.f1, [], false, false)) (fun k => arc_cn k x y [] out _ _ k3 c1) (Ev.now _)
      | y :: e :: r', h, ho, hkr =>
        simp only [List.length_cons] at h ho
        obtain ⟨p1, p2, p3⟩ := hkr e (by simp)
        have hkr' : ∀ z ∈ r', okK z := fun z hz => hkr z (by simp [hz])
        rw [arW_c2 k1 k2]
        by_cases c1 : y.f2 = 3
        · rw [if_pos c1]
          by_cases c2 : e.f2 = 3
          · rw [if_pos c2]
            exact Ev.step (fun k => arc_c k x y (e :: r') out _ _ k3 c1) (Ev.step (f := fun _ => some (s.f0, s.f1, [], false, false)) (fun k => arc_jn k e r' out _ _ _ _ _ _ (by omega) (fun z => by omega)) (Ev.now _))
          · rw [if_neg c2]
            by_cases c3 : e.f2 = 2
            · rw [if_pos c3]
              exact Ev.step (fun k => arc_c k x y (e :: r') out _ _ k3 c1) (Ev.step (f := fun _ => some (s.f0, s.f1, [], false, false)) (fun k => arc_jn k e r' out _ _ _ _ _ _ (by omega) (fun _ => by omega)) (Ev.now _))
            · rw [if_neg c3, qak]
              have c4 : e.f2 = 1 := by omega
              exact Ev.step (fun k => arc_c k x y (e :: r') out _ _ k3 c1) (Ev.step (fun k => arc_j1 k e r' out _ _ _ _ _ _ (by omega) c4) (JP s m r' _ (by omega) hkr' (by rw [List.length_append, List.length_singleton]; omega)))
        · rw [if_neg c1]
          exact Ev.step (f := fun _ => some (s.f0, s.f1, [], false, false)) (fun k => arc_cn k x y (e :: r') out _ _ k3 c1) (Ev.now _)
end Go.Proofs.Ytmlkpadlafjfeaa.P
set_option linter.unusedVariables false
set_option linter.unusedSimpArgs false
namespace Go.Proofs.Ytmlkpadlafjfeaa.P
open Go Go.RowKit Go.Proofs.YtmlkpadlafjfeaaW.PrintWords Go.Proofs.YtmlkpadlafjfeaaW.PrintLast Go.Proofs.YtmlkpadlafjfeaaW.PrintMore
def JO (c : List S40) : Int × Int × List S64 × Bool × Bool :=
  if (zM c).2.2 = false then (0, 0, [], false, false) else endA (zM c).1 [] (arW (zM c).1 ((zM c).2.1.length + 1) (zM c).2.1)
theorem rot_at {c : List S40} {f i : Nat} (hf : f < c.length) (h1 : 1 ≤ i) (hi : i < c.length) : (c.drop (f + 1) ++ c.take f)[i - 1]? = c[(f + i) % c.length]? := by
  by_cases h : f + i < c.length
  · rw [List.getElem?_append_left (by rw [List.length_drop]; omega), List.getElem?_drop, Nat.mod_eq_of_lt h, show f + 1 + (i - 1) = f + i by omega]
  · have e : (f + i) % c.length = f + i - c.length := by rw [Nat.mod_eq_sub_mod (by omega), Nat.mod_eq_of_lt (by omega)]
    rw [List.getElem?_append_right (by rw [List.length_drop]; omega), List.length_drop, e, List.getElem?_take, if_pos (by omega), show i - 1 - (c.length - (f + 1)) = f + i - c.length by omega]
theorem arc_l1s (k : Nat) (c : List S40) (f i : Nat) (x10 : List S40) (u v : Int) (hc : c.length ≤ 4096) (hf : f < c.length) (h1 : 1 ≤ i) (hi : i < c.length) (hx : x10.length ≤ 4096) : ∃ y, (c.drop (f + 1) ++ c.take f)[i - 1]? = some y ∧ qi.l1 (k + 1) c (c.length : Int) (f : Int) x10 (i : Int) u v = qi.l1 k c (c.length : Int) (f : Int) (x10 ++ [y]) ((i + 1 : Nat) : Int) u v := by
  have hm : (f + i) % c.length < c.length := Nat.mod_lt _ (by omega)
  refine ⟨c[(f + i) % c.length], by rw [rot_at hf h1 hi, List.getElem?_eq_getElem hm], ?_⟩
  have t1 : (i : Int) < (c.length : Int) := by omega
  have t2 : ¬ (c.length : Int) = 0 := by omega
  have ew : wrap64 ((f : Int) + (i : Int)) = ((f + i : Nat) : Int) := by rw [w64 (by omega) (by omega)]; omega
  have et : Int.tmod (wrap64 ((f : Int) + (i : Int))) (c.length : Int) = (((f + i) % c.length : Nat) : Int) := by
    rw [ew, Int.tmod_eq_emod_of_nonneg (by omega)]; omega
  have t3 : (0 : Int) ≤ (((f + i) % c.length : Nat) : Int) := by omega
  have t4 : (((f + i) % c.length : Nat) : Int) < (c.length : Int) := by omega
  have t5 : x10.length < 5864062014805 := by omega
  rw [qi.l1, if_pos t1, if_neg t2, et, if_pos t3, if_pos t4, Zk hm, if_pos t5, QM (by omega)]
theorem arc_l1 (c : List S40) (f : Nat) (u v : Int) (hc : c.length ≤ 4096) (hf : f < c.length) (r : Int × Int × List S64 × Bool × Bool) (h : Ev (fun k => qi.j2 k (c.drop (f + 1) ++ c.take f) u v) r) : ∀ (d i : Nat), c.length - i = d → 1 ≤ i → i ≤ c.length →
    Ev (fun k => qi.l1 k c (c.length : Int) (f : Int) ((c.drop (f + 1) ++ c.take f).take (i - 1)) (i : Int) u v) r := by
  have lx : (c.drop (f + 1) ++ c.take f).length = c.length - 1 := by rw [List.length_append, List.length_drop, List.length_take]; omega
  intro d
  induction d with
  | zero =>
    intro i e h1 hi
    refine Ev.step (fun k => ?_) h
    rw [qi.l1, if_neg (by omega), List.take_of_length_le (by omega)]
  | succ d ih =>
    intro i e h1 hi
    refine Ev.step (fun k => ?_) (ih (i + 1) (by omega) (by omega) (by omega))
    obtain ⟨y, hy, hs⟩ := arc_l1s k c f i ((c.drop (f + 1) ++ c.take f).take (i - 1)) u v hc hf h1 (by omega) (by rw [List.length_take]; omega)
    rw [hs]
    have et : (c.drop (f + 1) ++ c.take f).take (i - 1) ++ [y] = (c.drop (f + 1) ++ c.take f).take (i + 1 - 1) := by
      rw [show i + 1 - 1 = (i - 1) + 1 by omega, List.take_add_one, hy]; rfl
    rw [et]
theorem arcs_j2 (s : S35) (l : List S40) (hl : l.length ≤ 4096) (hk : ∀ x ∈ l, okK x) : Ev (fun k => qi.j2 k l s.f0 s.f1) (endA s [] (arW s (l.length + 1) l)) :=
  Ev.step (fun k => by rw [qi.j2]) (JP s (l.length + 1) l [] (by omega) hk (by simp; omega))
theorem arc_l0s (k : Nat) (c : List S40) (f : Int) (i : Nat) (hc : c.length ≤ 4096) (hi : i < c.length) : qi.l0 (k + 1) c (c.length : Int) f (i : Int) = qi.l0 k c (c.length : Int) (if c[i].f2 = 1 then (i : Int) else f) ((i : Int) - 1) := by
  have t1 : (i : Int) ≥ 0 := by omega
  have t2 : (i : Int) < (c.length : Int) := by omega
  rw [qi.l0, if_pos t1, if_pos t1, if_pos t2, Zk hi, w64 (n := (i : Int) - 1) (by omega) (by omega)]
  by_cases h : c[i].f2 = 1
  · rw [if_pos h, if_pos h]
  · rw [if_neg h, if_neg h]
theorem arc_l0e (k : Nat) (c : List S40) (f : Nat) (i : Int) (hi : i < 0) (hf : f < c.length) : qi.l0 (k + 1) c (c.length : Int) (f : Int) i = qi.l1 k c (c.length : Int) (f : Int) [] 1 c[f].f0 c[f].f1 := by
  have t1 : ¬ i ≥ 0 := by omega
  have t2 : ¬ (f : Int) < 0 := by omega
  have t3 : 0 ≤ (f : Int) := by omega
  have t4 : (f : Int) < (c.length : Int) := by omega
  rw [qi.l0, if_neg t1, Option.bind_some, if_neg t2, if_pos t3, if_pos t4, Zk hf]
theorem arc_l0n (k : Nat) (c : List S40) (i : Int) (hi : i < 0) (h0 : 0 < c.length) (hc : c.length ≤ 4096) : qi.l0 (k + 1) c (c.length : Int) (-1) i = if (c.headD z40).f2 = 3 then some (0, 0, [], false, false) else (ze.f k (c.getLastD z40).f0 (c.getLastD z40).f1 (c.getLastD z40).f2 (c.headD z40).f0 (c.headD z40).f1 (c.headD z40).f2).bind fun bt => qi.j2 k c bt.1 bt.2 := by
  have t1 : ¬ i ≥ 0 := by omega
  have t2 : (-1 : Int) < 0 := by omega
  have t3 : (0 : Int) < (c.length : Int) := by omega
  have ew : wrap64 ((c.length : Int) - 1) = ((c.length - 1 : Nat) : Int) := by rw [w64 (by omega) (by omega)]; omega
  have t4 : (0 : Int) ≤ ((c.length - 1 : Nat) : Int) := by omega
  have t5 : ((c.length - 1 : Nat) : Int) < (c.length : Int) := by omega
  have eh : qb c 0 = c.headD z40 := by
    cases c with
    | nil => exact absurd h0 (by simp)
    | cons a r => rfl
  have el : qb c ((c.length - 1 : Nat) : Int) = c.getLastD z40 := by
    rw [Zk (by omega), List.getLastD_eq_getLast?, List.getLast?_eq_getElem?, List.getElem?_eq_getElem (by omega)]; rfl
  have t6 : ([] : List S40).length + c.length < 5864062014805 := by
    have : ([] : List S40).length = 0 := rfl
    omega
  rw [qi.l0, if_neg t1, Option.bind_some, if_pos t2, if_pos t3, ew, if_pos t4, if_pos t5, eh, el]
  simp only [if_pos t6, List.nil_append]
theorem arcs_off (c : List S40) (hc : c.length ≤ 4096) (n0 : c ≠ []) (hk : ∀ x ∈ c, okK x) (ho : ∀ x ∈ c, (!onK x) = true) : ∀ (i : Nat), i ≤ c.length → Ev (fun k => qi.l0 k c (c.length : Int) (-1) ((i : Int) - 1)) (JO c)
  | 0, _ => by
    have l0 : 0 < c.length := List.length_pos_iff.2 n0
    have m1 : c.headD z40 ∈ c := by
      cases c with
      | nil => exact absurd rfl n0
      | cons a r => simp
    have m2 : c.getLastD z40 ∈ c := by
      rw [List.getLastD_eq_getLast?, List.getLast?_eq_some_getLast n0]; exact List.getLast_mem n0
    have hh := hk _ m1
    have hof : (c.headD z40).f2 ≠ 1 := by have := ho _ m1; simpa [onK] using this
    refine Ev.step (fun k => arc_l0n k c _ (by omega) l0 hc) ?_
    unfold JO
    rw [qbg ho]
    dsimp only
    by_cases c3 : (c.headD z40).f2 = 3
    · simp only [if_pos c3]
      rw [if_pos (by rw [c3]; rfl)]
      exact Ev.now _
    · have c2 : (c.headD z40).f2 = 2 := by have := hh.1; have := hh.2.1; omega
      simp only [if_neg c3]
      rw [if_neg (by rw [c2]; decide)]
      refine Ev.bind (rmid_ev (hk _ m2).2.2 hh.2.2 _ _) ?_
      exact arcs_j2 (Ze (c.getLastD z40) (c.headD z40)) c hc hk
  | i + 1, hi => by
    have hlt : i < c.length := by omega
    have hof : c[i].f2 ≠ 1 := by have := ho _ (List.getElem_mem hlt); simpa [onK] using this
    rw [show ((i + 1 : Nat) : Int) - 1 = (i : Int) by omega]
    refine Ev.step (fun k => arc_l0s k c (-1) i hc hlt) ?_
    rw [if_neg hof]
    exact arcs_off c hc n0 hk ho i (by omega)
section
variable (a b : List S40) (K : S40)
theorem arcs_on1 (hc : (a ++ K :: b).length ≤ 4096) (hK : K.f2 = 1) (ho : ∀ x ∈ a, (!onK x) = true) (r : Int × Int × List S64 × Bool × Bool)
    (h : Ev (fun k => qi.l1 k (a ++ K :: b) ((a ++ K :: b).length : Int) (a.length : Int) [] 1 K.f0 K.f1) r) : ∀ (i : Nat), i ≤ a.length → Ev (fun k => qi.l0 k (a ++ K :: b) ((a ++ K :: b).length : Int) (a.length : Int) ((i : Int) - 1)) r
  | 0, _ => by
    have hf : a.length < (a ++ K :: b).length := by simp
    refine Ev.step (fun k => arc_l0e k (a ++ K :: b) a.length _ (by omega) hf) ?_
    rw [show (a ++ K :: b)[a.length] = K by simp]
    exact h
  | i + 1, hi => by
    have hlt : i < (a ++ K :: b).length := by simp; omega
    have hof : (a ++ K :: b)[i].f2 ≠ 1 := by
      rw [List.getElem_append_left (by omega)]
      have := ho _ (List.getElem_mem (l := a) (n := i) (by omega)); simpa [onK] using this
    rw [show ((i + 1 : Nat) : Int) - 1 = (i : Int) by omega]
    refine Ev.step (fun k => arc_l0s k _ _ i hc hlt) ?_
    rw [if_neg hof]
    exact arcs_on1 hc hK ho r h i (by omega)
theorem arcs_on2 (hc : (a ++ K :: b).length ≤ 4096) (hK : K.f2 = 1) (ho : ∀ x ∈ a, (!onK x) = true) (r : Int × Int × List S64 × Bool × Bool)
    (h : Ev (fun k => qi.l1 k (a ++ K :: b) ((a ++ K :: b).length : Int) (a.length : Int) [] 1 K.f0 K.f1) r) : ∀ (d : Nat) (f : Int), a.length + d < (a ++ K :: b).length → Ev (fun k => qi.l0 k (a ++ K :: b) ((a ++ K :: b).length : Int) f ((a.length + d : Nat) : Int)) r
  | 0, f, hd => by
    refine Ev.step (fun k => arc_l0s k _ _ (a.length + 0) hc hd) ?_
    have e : (a ++ K :: b)[a.length + 0].f2 = 1 := by simp [hK]
    rw [if_pos e]
    exact arcs_on1 a b K hc hK ho r h a.length (Nat.le_refl _)
  | d + 1, f, hd => by
    refine Ev.step (fun k => arc_l0s k _ _ (a.length + (d + 1)) hc hd) ?_
    rw [show ((a.length + (d + 1) : Nat) : Int) - 1 = ((a.length + d : Nat) : Int) by omega]
    exact arcs_on2 hc hK ho r h d _ (by omega)
end
theorem tw_all {α : Type} (p : α → Bool) : ∀ (l : List α) (x : α), x ∈ l.takeWhile p → p x = true
  | [], x, h => by simp at h
  | a :: r, x, h => by
    rw [List.takeWhile_cons] at h
    by_cases c : p a = true
    · rw [if_pos c] at h
      rcases List.mem_cons.1 h with e | e
      · rw [e]; exact c
      · exact tw_all p r x e
    · rw [if_neg c] at h; simp at h
theorem arcs_ev (c : List S40) (hc : c.length ≤ 4096) (n0 : c ≠ []) (hk : ∀ x ∈ c, okK x) : Ev (fun k => qi.f k c) (JO c) := by
  have l0 : 0 < c.length := List.length_pos_iff.2 n0
  unfold qi.f
  rw [w64 (n := (c.length : Int) - 1) (by omega) (by omega)]
  have sp' := qbi c
  have hof : ∀ x ∈ offs c, (!onK x) = true := fun x hx => by
    unfold offs at hx
    exact tw_all _ c x hx
  cases hd : c.dropWhile (fun x => !onK x) with
  | nil =>
    rw [hd, List.append_nil] at sp'
    rw [← sp'] at hof
    exact arcs_off c hc n0 hk hof c.length (Nat.le_refl _)
  | cons K b =>
    have hK : K.f2 = 1 := by
      have := List.head?_dropWhile_not (fun x => !onK x) c
      rw [hd] at this
      simpa [onK] using this
    rw [hd] at sp'
    generalize offs c = a at sp' hof
    subst sp'
    have lc : (a ++ K :: b).length = a.length + (b.length + 1) := by simp
    have e : (((a ++ K :: b).length : Int) - 1) = ((a.length + b.length : Nat) : Int) := by omega
    rw [e]
    refine arcs_on2 a b K hc hK hof _ ?_ b.length (-1) (by omega)
    have h1 := arc_l1 (a ++ K :: b) a.length K.f0 K.f1 hc (by omega) (JO (a ++ K :: b)) ?_ ((a ++ K :: b).length - 1) 1 (by omega) (by omega) (by omega)
    · exact h1
    · have e1 : (a ++ K :: b).drop (a.length + 1) ++ (a ++ K :: b).take a.length = b ++ a := by
        rw [List.take_left, List.drop_append]
        simp
      rw [e1]
      unfold JO
      rw [roundV_on hof hK]
      dsimp only
      rw [if_neg (by simp)]
      exact arcs_j2 (sp K) (b ++ a) (by rw [List.length_append]; omega) (fun x hx => hk x (by rcases List.mem_append.1 hx with h | h <;> simp [h]))
end Go.Proofs.Ytmlkpadlafjfeaa.P
set_option linter.unusedVariables false
set_option linter.unusedSimpArgs false
namespace Go.Proofs.Ytmlkpadlafjfeaa.P
open Go Go.RowKit Go.Proofs.YtmlkpadlafjfeaaW.PrintWords Go.Proofs.YtmlkpadlafjfeaaW.PrintLast Go.Proofs.YtmlkpadlafjfeaaW.PrintMore
theorem preA_some {a : S64} {r : Option (List S64 × Bool)} {q : List S64 × Bool} (h : ZO a r = some q) : ∃ r', r = some r' ∧ q.1 = a :: r'.1 := by
  cases r with
  | none => cases h
  | some r' => simp only [ZO, Option.some.injEq] at h; subst h; exact ⟨r', rfl, rfl⟩
theorem arW_ok (s : S35) (hs : zA s) : ∀ (m : Nat) (l : List S40) (q : List S64 × Bool), (∀ x ∈ l, okK x) → arW s m l = some q → q.1.length ≤ m ∧ ∀ a ∈ q.1, okA a
  | 0, l, q, hk, h => by simp only [arW, Option.some.injEq] at h; subst h; simp
  | m + 1, [], q, hk, h => by rw [arW_nil] at h; simp only [Option.some.injEq] at h; subst h; simp
  | m + 1, k :: r, q, hk, h => by
    have hkr : ∀ y ∈ r, okK y := fun y hy => hk y (List.mem_cons_of_mem _ hy)
    have kf : zA (sp k) := (hk k (by simp)).2.2
    have go : ∀ (a : S64) (l' : List S40), okA a → (∀ y ∈ l', okK y) → ZO a (arW s m l') = some q → q.1.length ≤ m + 1 ∧ ∀ a ∈ q.1, okA a := by
      intro a l' ha hl' h
      obtain ⟨r', h1, h2⟩ := preA_some h
      obtain ⟨g1, g2⟩ := arW_ok s hs m l' r' hl' h1
      rw [h2]
      refine ⟨by rw [List.length_cons]; omega, fun x hx => ?_⟩
      rcases List.mem_cons.1 hx with e | e
      · rw [e]; exact ha
      · exact g2 x e
    have one : ∀ (e : S35), zA e → okA ⟨[sp k], e⟩ := fun e he => ⟨he, by simp, fun x hx => by simp at hx; rw [hx]; exact kf⟩
    have two : ∀ (y e : S35), zA y → zA e → okA ⟨[sp k, y], e⟩ := fun y e hy he => ⟨he, by simp, fun x hx => by
      simp at hx
      rcases hx with e | e <;> rw [e] <;> assumption⟩
    by_cases k1 : k.f2 = 1
    · rw [arW_on k1] at h
      exact go _ r ⟨kf, by simp, by simp⟩ hkr h
    by_cases k2 : k.f2 = 2
    · match r, hkr, h with
      | [], hkr, h =>
        rw [arW_q0 k2] at h
        simp only [Option.some.injEq] at h; subst h
        exact ⟨by simp, fun a ha => by simp at ha; rw [ha]; exact one s hs⟩
      | x :: r', hkr, h =>
        have hx := (hkr x (by simp)).2.2
        have hx' : zA (sp x) := hx
        rw [arW_q1 k2] at h
        by_cases c1 : x.f2 = 2
        · rw [if_pos c1] at h
          exact go _ _ (one _ (mid_fix (hk k (by simp)).2.2 hx)) hkr h
        · rw [if_neg c1] at h
          by_cases c2 : x.f2 = 3
          · rw [if_pos c2] at h; cases h
          · rw [if_neg c2] at h
            exact go _ _ (one _ hx') (fun y hy => hkr y (List.mem_cons_of_mem _ hy)) h
    · match r, hkr, h with
      | [], hkr, h => rw [arW_c0 k1 k2] at h; cases h
      | [x], hkr, h =>
        rw [arW_c1 k1 k2] at h
        by_cases c1 : x.f2 = 3
        · rw [if_pos c1] at h
          simp only [Option.some.injEq] at h; subst h
          exact ⟨by simp, fun a ha => by simp at ha; rw [ha]; exact two (sp x) s (hkr x (by simp)).2.2 hs⟩
        · rw [if_neg c1] at h; cases h
      | x :: e :: r', hkr, h =>
        rw [arW_c2 k1 k2] at h
        by_cases c1 : x.f2 = 3
        · rw [if_pos c1] at h
          by_cases c2 : e.f2 = 3
          · rw [if_pos c2] at h; cases h
          · rw [if_neg c2] at h
            by_cases c3 : e.f2 = 2
            · rw [if_pos c3] at h; cases h
            · rw [if_neg c3] at h
              exact go _ _ (two (sp x) (sp e) (hkr x (by simp)).2.2 (hkr e (by simp)).2.2) (fun y hy => hkr y (by simp [hy])) h
        · rw [if_neg c1] at h; cases h
theorem ptsV_len (now : S35) (a : S64) : (JL now a).length ≤ 16 := by
  unfold JL
  split
  · simp
  · exact (ZJ _ _ _).2
  · exact (Ji _ _ _ _).2
section
variable (x5 : List (List S35)) (o : List (List S40)) (i : Nat)
theorem rf_end (k : Nat) (cl : Bool) (row : List S35) (az : List S64) (j : Int) (u v : Int) (h5 : x5.length ≤ 100000) (ho : i ≤ 100000) (hr : row.length ≤ 1000000) (hj : (az.length : Int) ≤ j) : qI.l1 (k + 1) x5 cl row o (o.length : Int) (i : Int) az (az.length : Int) j u v = qI.l0 k (x5 ++ [clos row cl]) o (o.length : Int) ((i + 1 : Nat) : Int) := by
  have t1 : ¬ j < (az.length : Int) := by omega
  have t5 : x5.length < 5864062014805 := by omega
  have en := QM (i := i) (by omega)
  rw [qI.l1, if_neg t1, en]
  cases cl with
  | false =>
    have e : clos row false = row := by unfold clos; rw [if_neg (by simp)]
    rw [if_neg (by simp), if_pos t5, e]
  | true =>
    rw [if_pos rfl]
    by_cases c : 1 < row.length
    · have e : clos row true = row.take (row.length - 1) := by unfold clos; rw [if_pos ⟨rfl, c⟩]
      have ew : wrap64 ((row.length : Int) - 1) = ((row.length - 1 : Nat) : Int) := by rw [w64 (by omega) (by omega)]; omega
      have t2 : (row.length : Int) > 1 := by omega
      have t3 : (0 : Int) ≤ ((row.length - 1 : Nat) : Int) := by omega
      have t4 : ((row.length - 1 : Nat) : Int) ≤ (row.length : Int) := by omega
      rw [if_pos t2, ew, if_pos t3, if_pos t4, if_pos t5, e, Int.toNat_natCast]
    · have e : clos row true = row := by unfold clos; rw [if_neg (fun z => c z.2)]
      rw [if_neg (by omega), if_pos t5, e]
theorem rd64 {l : List S64} {i : Nat} (h : i < l.length) : zw l (i : Int) = l[i] := by unfold zw; rw [Int.toNat_natCast, List.getD_eq_getElem?_getD, List.getElem?_eq_getElem h]; rfl
theorem rf_step (k : Nat) (cl : Bool) (row : List S35) (az : List S64) (j : Nat) (now : S35) (hj : j < az.length) (ha : az.length ≤ 100000) : qI.l1 (k + 1) x5 cl row o (o.length : Int) (i : Int) az (az.length : Int) (j : Int) now.f0 now.f1 =
    (qx.f k now.f0 now.f1 az[j].f0 az[j].f1.f0 az[j].f1.f1).bind fun t => if row.length + t.length < 8796093022208 then qI.l1 k x5 cl (row ++ t) o (o.length : Int) (i : Int) az (az.length : Int) ((j + 1 : Nat) : Int) az[j].f1.f0 az[j].f1.f1 else none := by
  have t1 : (j : Int) < (az.length : Int) := by omega
  have t2 : (0 : Int) ≤ (j : Int) := by omega
  rw [qI.l1, if_pos t1, if_pos t2, if_pos t1, rd64 hj, QM (by omega)]
theorem rf_l1 (cl : Bool) (az : List S64) (hok : ∀ a ∈ az, okA a) (ha : az.length ≤ 5000) (h5 : x5.length ≤ 100000) (hi : i ≤ 100000) (r : List (List S35) × Int) : ∀ (d j : Nat) (row : List S35) (now : S35), zA now → az.length - j = d → j ≤ az.length → row.length ≤ 1 + 16 * j →
    Ev (fun k => qI.l0 k (x5 ++ [clos (row ++ ptsA now (az.drop j)) cl]) o (o.length : Int) ((i + 1 : Nat) : Int)) r →
    Ev (fun k => qI.l1 k x5 cl row o (o.length : Int) (i : Int) az (az.length : Int) (j : Int) now.f0 now.f1) r := by
  intro d
  induction d with
  | zero =>
    intro j row now hn e hj hr h
    rw [List.drop_of_length_le (by omega)] at h
    rw [show ptsA now [] = [] from rfl, List.append_nil] at h
    exact Ev.step (fun k => rf_end x5 o i k cl row az _ _ _ h5 hi (by omega) (by omega)) h
  | succ d ih =>
    intro j row now hn e hj hr h
    have hlt : j < az.length := by omega
    have hoj := hok _ (List.getElem_mem hlt)
    have hl := ptsV_len now az[j]
    refine Ev.step (fun k => rf_step x5 o i k cl row az j now hlt (by omega)) (Ev.bind (pts_ev hn hoj) ?_)
    have t1 : row.length + (JL now az[j]).length < 8796093022208 := by omega
    simp only [if_pos t1]
    refine ih (j + 1) (row ++ JL now az[j]) az[j].f1 hoj.1 (by omega) (by omega) (by rw [List.length_append]; omega) ?_
    rw [List.drop_eq_getElem_cons hlt] at h
    rw [List.append_assoc]
    exact h
end
theorem rflat_l0 (o : List (List S40)) (hl : o.length ≤ 256) (hk : ∀ c ∈ o, c.length ≤ 4096 ∧ ∀ x ∈ c, okK x) : ∀ (d i : Nat), o.length - i = d → i ≤ o.length →
    Ev (fun k => qI.l0 k ((o.take i).map (fun c => (Qc c).1)) o (o.length : Int) (i : Int)) (if (o.drop i).all (fun c => (Qc c).2) = true then (o.map (fun c => (Qc c).1), 0) else ([], 61)) := by
  intro d
  induction d with
  | zero =>
    intro i e hi
    refine Ev.step (f := fun _ => some _) (fun k => ?_) (Ev.now _)
    rw [qI.l0, if_neg (by omega), List.drop_of_length_le (by omega), List.take_of_length_le (by omega)]
    simp
  | succ d ih =>
    intro i e hi
    have hlt : i < o.length := by omega
    have er : o.drop i = o[i] :: o.drop (i + 1) := List.drop_eq_getElem_cons hlt
    obtain ⟨q1, q2⟩ := hk _ (List.getElem_mem hlt)
    have h1 : (i : Int) < (o.length : Int) := by omega
    have h2 : (0 : Int) ≤ (i : Int) := by omega
    have l5 : ((o.take i).map (fun c => (Qc c).1)).length ≤ 256 := by rw [List.length_map, List.length_take]; omega
    have t5 : ((o.take i).map (fun c => (Qc c).1)).length < 5864062014805 := by omega
    have es : (o.take (i + 1)).map (fun c => (Qc c).1) = (o.take i).map (fun c => (Qc c).1) ++ [(Qc o[i]).1] := by
      rw [List.take_add_one, List.map_append, List.getElem?_eq_getElem hlt]; rfl
    have hih := ih (i + 1) (by omega) (by omega)
    rw [es] at hih
    rw [er, List.all_cons]
    by_cases n0 : o[i] = []
    · have t0 : (o[i].length : Int) = 0 := by rw [n0]; rfl
      have ec : Qc o[i] = ([], true) := by unfold Qc; rw [if_pos n0]
      rw [ec, Bool.true_and]
      rw [ec] at hih
      refine Ev.step (fun k => ?_) hih
      rw [qI.l0, if_pos h1, if_pos h2, if_pos h1, Z9 hlt, if_pos t0, if_pos t5, QM (by omega)]
    · have t0 : ¬ (o[i].length : Int) = 0 := by
        intro z
        exact n0 (List.length_eq_zero_iff.1 (by omega))
      refine Ev.step (f := fun k => (qi.f k o[i]).bind fun bt => if bt.2.2.2.2 = true then qI.l1 k ((o.take i).map (fun c => (Qc c).1)) bt.2.2.2.1 [(⟨bt.1, bt.2.1⟩ : S35)] o (o.length : Int) (i : Int) bt.2.2.1 (bt.2.2.1.length : Int) 0 bt.1 bt.2.1 else some ([], 61)) (fun k => ?_) ?_
      · rw [qI.l0, if_pos h1, if_pos h2, if_pos h1, Z9 hlt, if_neg t0]
      · refine Ev.bind (arcs_ev o[i] q1 n0 q2) ?_
        obtain ⟨r1, r2, r3⟩ := qar o[i] n0 q2
        have ec : Qc o[i] = if (zM o[i]).2.2 = false then ([], false) else endC [(zM o[i]).1] (mapA (zM o[i]).1 (arW (zM o[i]).1 ((zM o[i]).2.1.length + 1) (zM o[i]).2.1)) := by
          unfold Qc; rw [if_neg n0, JX]
        unfold JO
        cases hb : (zM o[i]).2.2 with
        | false =>
          rw [hb, if_pos rfl] at ec
          rw [if_pos rfl, ec]
          simp only [Bool.false_eq_true, if_false, Bool.false_and]
          exact Ev.now _
        | true =>
          rw [hb, if_neg (by simp)] at ec
          rw [if_neg (by simp)]
          cases ha : arW (zM o[i]).1 ((zM o[i]).2.1.length + 1) (zM o[i]).2.1 with
          | none =>
            rw [ha] at ec
            have ec : Qc o[i] = ([], false) := ec
            rw [ec]
            simp only [endA, Bool.false_eq_true, if_false, Bool.false_and]
            exact Ev.now _
          | some q =>
            rw [ha] at ec
            obtain ⟨g1, g2⟩ := arW_ok (zM o[i]).1 r1 _ _ q r2 ha
            have ec : Qc o[i] = (clos ([(zM o[i]).1] ++ ptsA (zM o[i]).1 q.1) q.2, true) := ec
            rw [ec] at hih ⊢
            simp only [endA, List.nil_append, if_true, Bool.true_and]
            exact rf_l1 _ o i q.2 q.1 g2 (by omega) (by omega) (by omega) _ q.1.length 0 [(zM o[i]).1] (zM o[i]).1 r1 (by omega) (by omega) (by simp) hih
theorem rflat_ev (o : List (List S40)) (hm : ZG o) : Ev (fun k => qI.f k o) (FL o) := by
  unfold qI.f FL
  refine Ev.bind (rcheck_ev o hm) ?_
  by_cases c : CK o = 0
  · obtain ⟨h1, h2, h3⟩ := CK_ok c
    simp only [if_pos c]
    exact rflat_l0 o h1 h3 o.length 0 (by omega) (by omega)
  · simp only [if_neg c]; exact Ev.now _
theorem sameO_l1 (o : List (List S40)) (i : Nat) (hi : i < o.length) (hr : o[i].length ≤ 9000000000000000000) (r : Bool) (h : Ev (fun k => qK.l0 k o o (o.length : Int) (wrap64 ((i : Int) + 1))) r) : ∀ (d j : Nat), o[i].length - j = d → j ≤ o[i].length →
    Ev (fun k => qK.l1 k o o (i : Int) (o.length : Int) (i : Int) (o[i].length : Int) (j : Int)) r := by
  intro d
  induction d with
  | zero =>
    intro j e hj
    refine Ev.step (fun k => ?_) h
    rw [qK.l1, if_neg (by omega)]
  | succ d ih =>
    intro j e hj
    have hlt : j < o[i].length := by omega
    have h1 : (j : Int) < (o[i].length : Int) := by omega
    have h2 : (0 : Int) ≤ (j : Int) := by omega
    have h3 : (i : Int) < (o.length : Int) := by omega
    have h4 : (0 : Int) ≤ (i : Int) := by omega
    refine Ev.step (fun k => ?_) (ih (j + 1) (by omega) (by omega))
    rw [qK.l1, Z9 hi, if_pos h1, if_pos h4, if_pos h3, if_pos h2, if_pos h1, if_pos h3, if_pos h1, if_neg (by simp), QM (by omega)]
theorem sameO_l0 (o : List (List S40)) (hl : o.length ≤ 9000000000000000000) (hr : ∀ c ∈ o, c.length ≤ 9000000000000000000) : ∀ (d i : Nat), o.length - i = d → i ≤ o.length → Ev (fun k => qK.l0 k o o (o.length : Int) (i : Int)) true := by
  intro d
  induction d with
  | zero =>
    intro i e hi
    refine Ev.step (f := fun _ => some true) (fun k => ?_) (Ev.now _)
    rw [qK.l0, if_neg (by omega)]
  | succ d ih =>
    intro i e hi
    have hlt : i < o.length := by omega
    have h1 : (i : Int) < (o.length : Int) := by omega
    have h2 : (0 : Int) ≤ (i : Int) := by omega
    have h := ih (i + 1) (by omega) (by omega)
    rw [← QM (by omega)] at h
    have h := sameO_l1 o i hlt (hr _ (List.getElem_mem hlt)) true h o[i].length 0 (by omega) (by omega)
    refine Ev.step (fun k => ?_) h
    rw [qK.l0, if_pos h1, if_pos h2, if_pos h1, if_pos h1, Z9 hlt, if_pos rfl]; rfl
theorem sameO_ev (o : List (List S40)) (hm : ZG o) : Ev (fun k => qK.f k o o) true := by
  unfold qK.f
  simp only [if_true]
  exact sameO_l0 o (by have := hm.1; omega) (fun c hc => by have := hm.2 c hc; omega) o.length 0 (by omega) (by omega)
theorem pre_len {p : List S35} {r : Option (List S35 × Bool)} {q : List S35 × Bool} (h : Zu p r = some q) : ∃ r', r = some r' ∧ q.1.length = p.length + r'.1.length := by
  cases r with
  | none => cases h
  | some r' => simp only [Zu, Option.some.injEq] at h; subst h; exact ⟨r', rfl, by simp⟩
theorem JY (s : S35) : ∀ (m : Nat) (l : List S40) (now : S35) (q : List S35 × Bool), ctW s m l now = some q → q.1.length ≤ 16 * m
  | 0, l, now, q, h => by simp only [ctW, Option.some.injEq] at h; subst h; simp
  | m + 1, [], now, q, h => by rw [ctW_nil] at h; simp only [Option.some.injEq] at h; subst h; simp
  | m + 1, k :: r, now, q, h => by
    by_cases k1 : k.f2 = 1
    · rw [ctW_on k1] at h
      obtain ⟨r', h1, h2⟩ := pre_len h
      have := JY s m _ _ _ h1
      simp at h2; omega
    by_cases k2 : k.f2 = 2
    · match r, h with
      | [], h =>
        rw [ctW_q0 k2] at h
        simp only [Option.some.injEq] at h; subst h
        have := ZJ now (sp k) s; dsimp only; omega
      | x :: r', h =>
        rw [ctW_q1 k2] at h
        by_cases c1 : x.f2 = 2
        · rw [if_pos c1] at h
          obtain ⟨r', h1, h2⟩ := pre_len h
          have := JY s m _ _ _ h1
          have := ZJ now (sp k) (Ze k x); omega
        · rw [if_neg c1] at h
          by_cases c2 : x.f2 = 3
          · rw [if_pos c2] at h; cases h
          · rw [if_neg c2] at h
            obtain ⟨r', h1, h2⟩ := pre_len h
            have := JY s m _ _ _ h1
            have := ZJ now (sp k) (sp x); omega
    · match r, h with
      | [], h => rw [ctW_c0 k1 k2] at h; cases h
      | [x], h =>
        rw [ctW_c1 k1 k2] at h
        by_cases c1 : x.f2 = 3
        · rw [if_pos c1] at h
          simp only [Option.some.injEq] at h; subst h
          have := Ji now (sp k) (sp x) s; dsimp only; omega
        · rw [if_neg c1] at h; cases h
      | x :: e :: r', h =>
        rw [ctW_c2 k1 k2] at h
        by_cases c1 : x.f2 = 3
        · rw [if_pos c1] at h
          by_cases c2 : e.f2 = 3
          · rw [if_pos c2] at h; cases h
          · rw [if_neg c2] at h
            by_cases c3 : e.f2 = 2
            · rw [if_pos c3] at h; cases h
            · rw [if_neg c3] at h
              obtain ⟨r', h1, h2⟩ := pre_len h
              have := JY s m _ _ _ h1
              have := Ji now (sp k) (sp x) (sp e); omega
        · rw [if_neg c1] at h; cases h
theorem clos_len (o : List S35) (b : Bool) : (clos o b).length ≤ o.length := by
  unfold clos; split
  · rw [List.length_take]; omega
  · omega
theorem conV_len {c : List S40} (hc : c.length ≤ 4096) (hk : ∀ x ∈ c, okK x) : (Qc c).1.length ≤ 100000 := by
  unfold Qc
  by_cases n0 : c = []
  · rw [if_pos n0]; simp
  rw [if_neg n0]
  obtain ⟨r1, r2, r3⟩ := qar c n0 hk
  split
  · simp
  · cases h : ctW (zM c).1 ((zM c).2.1.length + 1) (zM c).2.1 (zM c).1 with
    | none => simp [endC]
    | some q =>
      have := JY _ _ _ _ _ h
      have h2 := clos_len ([(zM c).1] ++ q.1) q.2
      simp only [endC]
      rw [List.length_append, List.length_singleton] at h2
      omega
theorem FL_len {o : List (List S40)} : (FL o).1.length ≤ 256 ∧ ∀ c ∈ (FL o).1, c.length ≤ 100000 := by
  unfold FL
  by_cases c : CK o = 0
  · obtain ⟨h1, h2, h3⟩ := CK_ok c
    rw [if_pos c]
    split
    · refine ⟨by simp; omega, fun p hp => ?_⟩
      obtain ⟨x, hx, rfl⟩ := List.mem_map.1 hp
      exact conV_len (h3 x hx).1 (h3 x hx).2
    · simp
  · rw [if_neg c]; simp
end Go.Proofs.Ytmlkpadlafjfeaa.P
set_option linter.unusedVariables false
set_option linter.unusedSimpArgs false
namespace Go.Proofs.Ytmlkpadlafjfeaa.P
open Go Go.RowKit Go.Proofs.YtmlkpadlafjfeaaW.PrintWords Go.Proofs.YtmlkpadlafjfeaaW.PrintLast Go.Proofs.YtmlkpadlafjfeaaW.PrintMore
def okI (sA sB sC : Nat) (k : Nat) : Prop := (sA ≤ k ∧ k < sB) ∨ sC ≤ k
def Qx {α : Type} (d : Kd α) (e e2 : Nat) (w7 : World) (sA sB sC : Nat) (v : Value) (n : Nat) (P : List (List α) → Prop) (wr : World) : Prop :=
  ∃ rows : List (List α), rows.length = n ∧ Kd.S (Kd.slice e d) e2 wr sA (okI sA sB sC) v rows ∧ P rows ∧ (∀ k, k < sC → ¬ (sA ≤ k ∧ k < sB) → wr.heap[k]? = w7.heap[k]?) ∧ sC ≤ wr.heap.size
theorem Qx.weak {α : Type} {d : Kd α} {e e2 : Nat} {w7 : World} {sA sB sC : Nat} {v : Value} {n : Nat} {P Q : List (List α) → Prop} {wr : World} (h : Qx d e e2 w7 sA sB sC v n P wr) (hp : ∀ r, P r → Q r) : Qx d e e2 w7 sA sB sC v n Q wr := by
  obtain ⟨rows, h1, h2, h3, h4, h5⟩ := h
  exact ⟨rows, h1, h2, hp _ h3, h4, h5⟩
theorem Qx.start {α : Type} {d : Kd α} {e e2 : Nat} {w7 : World} {sA sB : Nat} {v : Value} {rows : List (List α)} {P : List (List α) → Prop} (h : Kd.S (Kd.slice e d) e2 w7 sA (fun k => sA ≤ k ∧ k < sB) v rows) (hp : P rows) : Qx d e e2 w7 sA sB w7.heap.size v rows.length P w7 :=
  ⟨rows, rfl, Kd.zC h (fun k hk => Or.inl hk), hp, fun _ _ _ => rfl, Nat.le_refl _⟩
section
variable {α : Type} {d : Kd α} {e e2 n cap g sA sB sC : Nat} {w7 wr : World} {P : List (List α) → Prop}
theorem Qx.get (h : Qx d e e2 w7 sA sB sC (.slice (some ⟨g, 0, none⟩) n cap) n P wr) {i : Nat} (hi : i < n) : ∃ (Ai : Option Addr) (ci : Nat) (rows : List (List α)), P rows ∧ rows.length = n ∧ wr.cell? ⟨g, i, none⟩ = some (.slice Ai (rows.getD i []).length ci) ∧ (rows.getD i []).length ≤ ci ∧ Qx d e e2 w7 sA sB sC (.slice (some ⟨g, 0, none⟩) n cap) n (fun r => P r ∧ r = rows) wr := by
  obtain ⟨rows, h1, h2, h3, h4, h5⟩ := h
  obtain ⟨oki, c, hcl, hM, hcc, hoki, hback⟩ := Kd.S_borrow h2 [] (i : Int) (by omega) (by omega)
  rw [Int.toNat_natCast] at hM hcc
  obtain ⟨A, cc, rfl, hle, hC⟩ := (Kd.slice e d).K_of_M hM
  have hc0 := hcc 0 _ rfl
  rw [show i * (Kd.slice e d).sz + 0 = i from by show i * 1 + 0 = i; omega] at hc0
  have e0 : (⟨g, 0, none⟩ : Addr).add i = ⟨g, i, none⟩ := by rw [Js, Nat.zero_add]
  rw [e0] at hc0
  exact ⟨A, cc, rows, h3, h1, hc0, hle, rows, h1, h2, ⟨h3, rfl⟩, h4, h5⟩
theorem Qx.put (h : Qx d e e2 w7 sA sB sC (.slice (some ⟨g, 0, none⟩) n cap) n P wr) {i j : Nat} (hi : i < n) (hP : ∀ rows, P rows → j < (rows.getD i []).length) (y : α) (cs : List Value) (hcs : cs.length = d.sz) (hy : ∀ W b, d.M W b (fun _ => False) y cs) :
    ∃ (gi L ci : Nat) (rows : List (List α)) (c0 : List Value), P rows ∧ L = (rows.getD i []).length ∧ j < L ∧ wr.cell? ⟨g, i, none⟩ = some (.slice (some ⟨gi, 0, none⟩) L ci) ∧ c0.length = d.sz ∧ (∀ m u, c0[m]? = some u → wr.cell? ⟨gi, j * d.sz + m, none⟩ = some u) ∧ (∀ m, wr.frozen? ⟨gi, j * d.sz + m, none⟩ = false) ∧ sA ≤ gi ∧
      Qx d e e2 w7 sA sB sC (.slice (some ⟨g, 0, none⟩) n cap) n (fun r => ∃ rows, P rows ∧ r = rows.set i ((rows.getD i []).set j y)) (wr.setCells gi (j * d.sz) cs) := by
  obtain ⟨rows, h1, h2, h3, h4, h5⟩ := h
  have hj := hP rows h3
  obtain ⟨oki, c, hcl, hM, hcc, hoki, hback⟩ := Kd.S_borrow h2 [] (i : Int) (by omega) (by omega)
  rw [Int.toNat_natCast] at hM hcc
  obtain ⟨v', rfl, hR⟩ := hM
  have hrl : 0 < (rows.getD i []).length := by omega
  obtain ⟨gi, ci, ev, hb, hlt, _⟩ := Kd.R_form hR hrl
  subst ev
  have hgi : oki gi := hR.1 gi (by simp [Value.ownBlock])
  obtain ⟨c0, hc0, hM0, hcc0, hfr⟩ := Kd.R_elem hR y (j : Int) (by omega) (by omega)
  rw [Int.toNat_natCast] at hM0 hcc0 hfr
  have hcs0 : c0.take 0 ++ cs ++ c0.drop (0 + cs.length) = cs := by
    rw [List.take_zero, List.nil_append, List.drop_of_length_le (by omega), List.append_nil]
  obtain ⟨hR1, hg1⟩ := Kd.R_seg hR (j : Int) (by omega) (by omega) (c := c0) (seg := cs) (j := 0) hc0 (by rw [Int.toNat_natCast]; exact hcc0) (by omega) (x' := y) (okp := fun _ => False) (by rw [hcs0]; exact hy _ _) (fun k hk => hk.elim)
  rw [Int.toNat_natCast, Nat.add_zero] at hR1 hg1
  have hS1 := hback hg1 (fun k hk => by injection hk with hk; subst hk; exact hgi) (Kd.JE hR1)
  rw [Int.toNat_natCast] at hS1
  have hc1 := hcc 0 _ rfl
  rw [show i * (Kd.slice e d).sz + 0 = i from by show i * 1 + 0 = i; omega] at hc1
  have e0 : (⟨g, 0, none⟩ : Addr).add i = ⟨g, i, none⟩ := by rw [Js, Nat.zero_add]
  rw [e0] at hc1
  refine ⟨gi, _, ci, rows, c0, h3, rfl, hj, hc1, hc0, hcc0, hfr, hb, rows.set i ((rows.getD i []).set j y), by rw [List.length_set]; exact h1, hS1, ⟨rows, h3, rfl⟩, fun k hk hn => ?_, Nat.le_trans h5 hg1.size⟩
  rw [hg1.block k (by omega) (fun z => ?_)]
  · exact h4 k hk hn
  · injection z with z
    subst z
    rcases (hoki _ hgi).1 with q | q
    · exact hn q
    · omega
theorem Qx.app (h : Qx d e e2 w7 sA sB sC (.slice (some ⟨g, 0, none⟩) n cap) n P wr) {i : Nat} (hi : i < n) (hAC : sA ≤ sC) :
    ∃ (v' : Value) (rows : List (List α)) (oki : Nat → Prop), P rows ∧ wr.cell? ⟨g, i, none⟩ = some v' ∧ Kd.R d e wr sA oki v' (rows.getD i []) ∧ (∀ k, oki k → k ≠ g) ∧ g < wr.heap.size ∧ sA ≤ wr.heap.size ∧
      ∀ (w1 : World) (v1 : Value) (row' : List α), Kd.R d e w1 sA (fun k => oki k ∨ wr.heap.size ≤ k) v1 row' → wr.grownBy w1 v'.ownBlock → w1.frozen? ⟨g, i, none⟩ = false ∧ w1.cell? ⟨g, i, none⟩ = some v' ∧ Qx d e e2 w7 sA sB sC (.slice (some ⟨g, 0, none⟩) n cap) n (fun r => r = rows.set i row') (w1.setCell ⟨g, i, none⟩ v1) := by
  obtain ⟨rows, h1, h2, h3, h4, h5⟩ := h
  have h2' : Kd.S (Kd.slice e d) e2 wr sA (fun k => okI sA sB sC k ∧ ¬ (wr.heap.size ≤ k)) (.slice (some ⟨g, 0, none⟩) n cap) rows := Kd.zC (Kd.Zp h2) (fun k hk => ⟨hk.1, by have := hk.2.2.1; omega⟩)
  obtain ⟨oki, c, hcl, hM, hcc, hfr, hoki, hH⟩ := Kd.S_elem h2' [] (i : Int) (by omega) (by omega)
  rw [Int.toNat_natCast] at hM hcc hfr
  obtain ⟨v', rfl, hR⟩ := hM
  have hc1 := hcc 0 _ rfl
  rw [show i * (Kd.slice e d).sz + 0 = i from by show i * 1 + 0 = i; omega] at hc1
  have hf1 := hfr 0
  rw [show i * (Kd.slice e d).sz + 0 = i from by show i * 1 + 0 = i; omega] at hf1
  have hgl := Kd.S_lt h2 g (by simp [Value.ownBlock])
  have hbase := Kd.S_base h2 g (by simp [Value.ownBlock])
  have hown : some g ≠ v'.ownBlock := fun z => (hoki g (hR.1 g z.symm)).2 rfl
  obtain ⟨cells, hty⟩ := Kd.jN h2 g (by simp [Value.ownBlock])
  refine ⟨v', rows, oki, h3, hc1, hR, fun k hk => (hoki k hk).2, hgl, by omega, fun w1 v1 row' hR1 hg1 => ?_⟩
  have hty1 := zy hty hg1 hown
  have hH1 := Kd.H_grown hH hg1 (fun k hk => hR.1 k hk)
  refine ⟨qj hty1 i, cell_grown hg1 hc1 hown, rows.set i row', by rw [List.length_set]; exact h1, ?_⟩
  obtain ⟨hS2, hg2⟩ := Kd.S_seg (okg := fun k => wr.heap.size ≤ k) hH1 (by omega) (by omega) (seg := [v1]) (j := 0) (by show 0 + 1 ≤ 1; omega) (x' := row') (okp := fun k => oki k ∨ wr.heap.size ≤ k) (Kd.JE hR1) (fun k hk => hk) (fun k hk => ⟨Or.inr (by omega), by omega⟩)
  rw [Int.toNat_natCast] at hS2 hg2
  have es : w1.setCells g (i * (Kd.slice e d).sz + 0) [v1] = w1.setCell ⟨g, i, none⟩ v1 := by
    rw [show i * (Kd.slice e d).sz + 0 = i from by show i * 1 + 0 = i; omega]; rfl
  rw [es] at hS2 hg2
  refine ⟨hS2, rfl, fun k hk hn => ?_, Nat.le_trans h5 (Nat.le_trans hg1.size hg2.size)⟩
  have hkw : k < wr.heap.size := by omega
  rw [hg2.block k (Nat.lt_of_lt_of_le hkw hg1.size) (fun z => ?_), hg1.block k hkw (fun z => ?_)]
  · exact h4 k hk hn
  · have q := (hoki k (hR.1 k z.symm)).1.1
    rcases q with q | q
    · exact hn q
    · omega
  · injection z with z
    subst z
    have q := (Kd.S_R h2).1 k (by simp [Value.ownBlock])
    rcases q with q | q
    · exact hn q
    · omega
end
end Go.Proofs.Ytmlkpadlafjfeaa.P
set_option linter.unusedVariables false
set_option linter.unusedSimpArgs false
namespace Go.Proofs.Ytmlkpadlafjfeaa.P
open Go Go.RowKit Go.Proofs.YtmlkpadlafjfeaaW.PrintWords Go.Proofs.YtmlkpadlafjfeaaW.PrintLast Go.Proofs.YtmlkpadlafjfeaaW.PrintMore
theorem palK : jk.f 60 = some true := by decide +kernel
theorem Jt {w w' : World} (h : qM w w') : Below w.heap.size w w' := by obtain ⟨q, rfl⟩ := h.out; exact qo (Below.refl _ _) q
def QZ {α : Type} (n i : Nat) (r : List (List α)) : Prop := r.length = n ∧ ∀ m, i ≤ m → (r.getD m []).length ≤ 100000
theorem J8 {α : Type} (r : List (List α)) (i m : Nat) (x : List α) (hi : i < r.length) : (r.set i x).getD m [] = if m = i then x else r.getD m [] := by
  rw [List.getD_eq_getElem?_getD, List.getElem?_set, List.getD_eq_getElem?_getD]
  by_cases h : m = i
  · subst h; rw [if_pos rfl, if_pos hi, if_pos rfl]; rfl
  · rw [if_neg (fun z => h z.symm), if_neg h]
theorem short_put {α : Type} {n i j L : Nat} {y : α} {rows r : List (List α)} (hi : i < n) (h : QZ n i rows ∧ (rows.getD i []).length = L) (e : r = rows.set i ((rows.getD i []).set j y)) : QZ n i r ∧ (r.getD i []).length = L := by
  subst e
  have hi : i < rows.length := by have := h.1.1; omega
  refine ⟨⟨by rw [List.length_set]; exact h.1.1, fun m hm => ?_⟩, ?_⟩
  · rw [J8 _ _ _ _ hi]
    split
    · rw [List.length_set]; exact h.1.2 i (Nat.le_refl _)
    · exact h.1.2 m hm
  · rw [J8 _ _ _ _ hi, if_pos rfl, List.length_set]; exact h.2
theorem short_app {α : Type} {n i j : Nat} {y : α} {rows r : List (List α)} (hi : i < n) (h : QZ n (i + 1) rows ∧ (rows.getD i []).length ≤ 100000 + j) (e : r = rows.set i (rows.getD i [] ++ [y])) : QZ n (i + 1) r ∧ (r.getD i []).length ≤ 100000 + (j + 1) := by
  subst e
  have hi : i < rows.length := by have := h.1.1; omega
  refine ⟨⟨by rw [List.length_set]; exact h.1.1, fun m hm => ?_⟩, ?_⟩
  · rw [J8 _ _ _ _ hi, if_neg (by omega)]; exact h.1.2 m hm
  · rw [J8 _ _ _ _ hi, if_pos rfl, List.length_append, List.length_singleton]; have := h.2; omega
set_option maxRecDepth 100000 in
set_option maxHeartbeats 8000000 in
theorem flats_walk (o : List (List S40)) (A : Option Addr) (c : Nat) (w : World) (hr : Kd.C (Kd.slice 40 k40) w A o.length o) (hc : o.length ≤ c) (hm : ZG o) :
    Calls Try.prog 4 #[.slice A o.length c] w fun e w' => e = .returned (.bool true) ∧ Below w.heap.size w w' := by
  have HR := qa.mk hr
  have HC := qa.mk hc
  obtain ⟨kc, cp⟩ := (copy_ev o hm).rounds
  obtain ⟨kr, rp⟩ := (rflat_ev o hm).rounds
  obtain ⟨kf, fp⟩ := (flat_ev o hm).rounds
  obtain ⟨ko, op⟩ := (sameO_ev o hm).rounds
  have fl := FL_len (o := o)
  obtain ⟨F, e, hF⟩ : ∃ a b, FL o = (a, b) := ⟨_, _, rfl⟩
  rw [hF] at rp fp fl
  dsimp only at fl
  obtain ⟨ks, sp⟩ := (sameS_ev F (by omega) (fun x hx => by have := fl.2 x hx; omega)).rounds
  have CP := qa.mk cp
  have RP := qa.mk rp
  have FP := qa.mk fp
  have OP := qa.mk op
  have SP := qa.mk sp
  have FLL := qa.mk fl
  have be : (e != e) = false := by simp
  clear cp rp fp op sp fl hF hr hc
  go_enter Try.func4, Try.ntmps4
  go_upto_region 5 with (first | (go_at_call 10; refine (jk.calls 60 true _ palK).mono ?_; rintro e' w1 ⟨rfl, hb1⟩; have HB1 := qa.mk hb1; have C1 := qa.mk (Kd.zZ HR.out hb1); clear hb1) | (go_at_call 11; refine (zo.calls kc A c o o w1 C1.out HC.out CP.out).mono ?_; rintro e' w2 ⟨v2, rfl, s2, hb2⟩; obtain ⟨A2, c2, rfl⟩ := Kd.jJ (Kd.S_R s2); have S2 := qa.mk (Kd.Qs s2); have B2 := qa.mk (qE HB1.out hb2); have C2 := qa.mk (Kd.zZ C1.out hb2); clear s2 hb2) | (go_at_call 12; refine (qI.calls kr A c o F e w2 C2.out HC.out RP.out).mono ?_; rintro e' w3 ⟨v3, rfl, s3, hb3⟩; obtain ⟨A3, c3, rfl⟩ := Kd.jJ (Kd.S_R s3); have S3 := qa.mk s3; have B3 := qa.mk (qE B2.out hb3); have C3 := qa.mk (Kd.zZ C2.out hb3); have O3 := qa.mk (Kd.zZ S2.out.2.2 hb3); clear s3 hb3))
  go_upto_region 6 with (go_at_call 13; refine (zD.calls kf A2 c2 o F e w3 O3.out S2.out.2.1 FP.out).mono ?_; rintro e' w4 ⟨v4, rfl, s4, hb4⟩; obtain ⟨A4, c4, rfl⟩ := Kd.jJ (Kd.S_R s4); have S4 := qa.mk s4; have B4 := qa.mk (qE B3.out hb4); have C4 := qa.mk (Kd.zZ C3.out hb4); have O4 := qa.mk (Kd.zZ O3.out hb4); have W4 := qa.mk hb4; clear s4 hb4)
  go_upto_region 7 with (go_at_call 13; refine (zD.calls kf A2 c2 o F e w4 O4.out S2.out.2.1 FP.out).mono ?_; rintro e' w5 ⟨v5, rfl, s5, hb5⟩; obtain ⟨A5, c5, rfl⟩ := Kd.jJ (Kd.S_R s5); have S5 := qa.mk s5; have B5 := qa.mk (qE B4.out hb5); have C5 := qa.mk (Kd.zZ C4.out hb5); have O5 := qa.mk (Kd.zZ O4.out hb5); have W5 := qa.mk hb5; clear s5 hb5)
  have A45 := qa.mk (Kd.jA S4.out W5.out)
  have T35 := qa.mk (Kd.jA S3.out (qE W4.out W5.out))
  go_upto_region 9 with (first | (go_at_call 14; refine (qH.calls ks A4 c4 F A3 c3 F true w5 (Kd.Qs A45.out).2.2 (Kd.Qs A45.out).2.1 (Kd.Qs T35.out).2.2 (Kd.Qs T35.out).2.1 SP.out).mono ?_; rintro e' w6 ⟨rfl, hd6⟩; have W6 := qa.mk (Jt hd6); have C6 := qa.mk (Kd.zZ C5.out W6.out); have O6 := qa.mk (Kd.zZ O5.out W6.out); clear hd6) | (go_at_call 15; refine (qK.calls ko A2 c2 o A c o true w6 O6.out S2.out.2.1 C6.out HC.out OP.out).mono ?_; rintro e' w7 ⟨rfl, hd7⟩; have W7 := qa.mk (Jt hd7); clear hd7))
  have D7 := qa.mk (qE (qE B5.out W6.out) W7.out)
  obtain ⟨sA, hA⟩ : ∃ s, s = w3.heap.size := ⟨_, rfl⟩
  obtain ⟨sB, hB⟩ : ∃ s, s = w4.heap.size := ⟨_, rfl⟩
  obtain ⟨sC, hC⟩ : ∃ s, s = w7.heap.size := ⟨_, rfl⟩
  have SZ := qa.mk (And.intro hA (And.intro hB hC))
  have q1 : sA ≤ sC := by
    have a := qy W4.out; have b := qy W5.out; have c := qy W6.out; have d := qy W7.out
    omega
  have A7 := qa.mk (Kd.jA (Kd.jA (Kd.jA (Kd.zC (Kd.Zp S4.out) (ok' := fun k => sA ≤ k ∧ k < sB) (fun k hk => ⟨by rw [hA]; exact hk.2.1, by rw [hB]; exact hk.2.2.1⟩)) W5.out) W6.out) W7.out)
  rw [← hA] at A7
  have I7 := qa.mk (Qx.start (P := QZ F.length 0) A7.out ⟨rfl, fun m _ => by
    rw [List.getD_eq_getElem?_getD]
    by_cases h : m < F.length
    · rw [List.getElem?_eq_getElem h]; exact FLL.out.2 _ (List.getElem_mem h)
    · rw [List.getElem?_eq_none (by omega)]; simp⟩)
  rw [← hC] at I7
  have fn : F.length ≤ 256 := FLL.out.1
  obtain ⟨n, hn⟩ : ∃ n, n = F.length := ⟨_, rfl⟩
  rw [← hn] at I7 fn
  have HN := qa.mk hn
  rw [← hn]
  clear hA hB hC A7 hn
  go_wp2
  go_loopw [49] (fun v49 wr => ∃ (i : Nat), v49 = .int .i64 i ∧ i ≤ n ∧ qa (Qx k35 35 33 w7 sA sB sC (.slice A4 n c4) n (QZ n i) wr) ∧ qa (Below w.heap.size w wr)) (fun v49 _ => n - (intOf v49).toNat)
  case atStart => exact ⟨0, rfl, Nat.zero_le _, I7, D7⟩
  case round =>
    obtain ⟨i, rfl, hi, HI, HB⟩ := hrel
    by_cases hlt : i < n
    · have ilt := eq_true (show (i : Int) < (n : Int) by omega)
      have ilt2 := eq_true hlt
      have ip := eq_true (show (0 : Int) ≤ (i : Int) by omega)
      obtain ⟨g, rfl⟩ : ∃ g, A4 = some ⟨g, 0, none⟩ := by
        obtain ⟨rows, h1, h2, _⟩ := HI.out
        obtain ⟨g, cap, ev, _⟩ := Kd.S_form h2 (by omega)
        injection ev with ev1
        exact ⟨g, ev1⟩
      obtain ⟨Ai, ci, rows, hP, hrl, cell, hci, HJ⟩ := Qx.get HI.out hlt
      obtain ⟨L, hL⟩ : ∃ L, L = (rows.getD i []).length := ⟨_, rfl⟩
      rw [← hL] at cell hci
      have J0 := qa.mk (Qx.weak (Q := fun r => QZ n i r ∧ (r.getD i []).length = L) HJ (fun r h => ⟨h.1, by rw [h.2, hL]⟩))
      have Lb : L ≤ 100000 := by rw [hL]; exact hP.2 i (Nat.le_refl _)
      clear HJ hL hP hrl
      go_wp2
      go_loopw [57] (fun v57 wq => ∃ (j : Nat), v57 = .int .i64 j ∧ j ≤ L ∧ qa (Qx k35 35 33 w7 sA sB sC (.slice (some ⟨g, 0, none⟩) n c4) n (fun r => QZ n i r ∧ (r.getD i []).length = L) wq) ∧ qa (Below w.heap.size w wq)) (fun v57 _ => L - (intOf v57).toNat)
      case atStart => exact ⟨0, rfl, Nat.zero_le _, J0, HB⟩
      case round =>
        obtain ⟨j, rfl, hj, HK, HBq⟩ := hrel
        by_cases jlt : j < L
        · have jl := eq_true (show (j : Int) < (L : Int) by omega)
          have jl2 := eq_true jlt
          have jp := eq_true (show (0 : Int) ≤ (j : Int) by omega)
          obtain ⟨gi, L', cj, rows', c0, hP', eL, hjL, cq, hc0, hcc, hfr, hgb, HN2⟩ := Qx.put HK.out hlt (j := j) (fun r h => by rw [h.2]; exact jlt) (⟨-7, -7⟩ : S35) [.int .i64 (-7), .int .i64 (-7)] rfl (fun W b => QB W b _ (⟨-7, -7⟩ : S35))
          obtain rfl : L' = L := by rw [eL]; exact hP'.2
          obtain ⟨u0, u1, rfl⟩ : ∃ a b, c0 = [a, b] := by
            match c0, hc0 with
            | [a, b], _ => exact ⟨a, b, rfl⟩
          have x0 : wr.cell? ⟨gi, j * 2, none⟩ = some u0 := hcc 0 _ rfl
          have x1 : wr.cell? ⟨gi, j * 2 + 1, none⟩ = some u1 := hcc 1 _ rfl
          have f0 : wr.frozen? ⟨gi, j * 2, none⟩ = false := hfr 0
          have f1 : wr.frozen? ⟨gi, j * 2 + 1, none⟩ = false := hfr 1
          have HN3 := qa.mk (Qx.weak (Q := fun r => QZ n i r ∧ (r.getD i []).length = L') HN2 (fun r h => by
            obtain ⟨rw_, hp_, e_⟩ := h
            exact short_put hlt hp_ e_))
          clear HN2 hcc hfr hc0 eL hP'
          go_wp2
          refine ⟨⟨j + 1, by push_cast; rfl, by omega, HN3, ⟨qg (qg HBq.out ?_) ?_⟩⟩, ?_⟩
          · exact Nat.le_trans (qy B3.out) (by rw [← SZ.out.1]; exact hgb)
          · exact Nat.le_trans (qy B3.out) (by rw [← SZ.out.1]; exact hgb)
          · show (_ : Nat) < _
            simp only [intOf]; omega
        · have jl := eq_false (show ¬ (j : Int) < (L : Int) by omega)
          have jl2 := eq_false jlt
          obtain rfl : j = L := by omega
          have J2 := qa.mk (Qx.weak (Q := fun r => QZ n (i + 1) r ∧ (r.getD i []).length ≤ 100000 + 0) HK.out (fun r h => ⟨⟨h.1.1, fun m hm => h.1.2 m (by omega)⟩, h.1.2 i (Nat.le_refl _)⟩))
          go_wp2
          go_loopw [12] (fun v12 wq => ∃ (m : Nat), v12 = .int .i64 m ∧ m ≤ 9 ∧ qa (Qx k35 35 33 w7 sA sB sC (.slice (some ⟨g, 0, none⟩) n c4) n (fun r => QZ n (i + 1) r ∧ (r.getD i []).length ≤ 100000 + m) wq) ∧ qa (Below w.heap.size w wq)) (fun v12 _ => 9 - (intOf v12).toNat)
          case atStart => exact ⟨0, rfl, by omega, J2, HBq⟩
          case round =>
            obtain ⟨m, rfl, hm9, HM, HBm⟩ := hrel
            by_cases mlt : m < 9
            · have ml := eq_true (show (m : Int) < 9 by omega)
              have ml2 := eq_true mlt
              obtain ⟨v', rowsM, oki, hPM, cv, hRM, hokg, hgl, hbl, hNM⟩ := Qx.app HM.out hlt q1
              have HRM := qa.mk hRM
              have lr : (rowsM.getD i []).length ≤ 100009 := by have := hPM.2; omega
              clear hRM
              obtain ⟨A', c', rfl⟩ := Kd.jJ HRM.out
              have hsa : w.heap.size ≤ sA := by rw [SZ.out.1]; exact qy B3.out
              have hgw : w.heap.size ≤ g := by
                obtain ⟨rowsG, _, hsG, _⟩ := HM.out
                exact Nat.le_trans hsa (Kd.S_base hsG g (by simp [Value.ownBlock]))
              go_wp2_with ((with_reducible refine jw (b := .append) (xs := #[.tmp 77, .tmp 79]) rfl ?_); at_builtin; refine Kd.qad k35 (w0 := wr) sA rfl (.tmp 77) (.tmp 79) 33 35 (.agg #[(.int .i64 0), (.int .i64 0)]) 16 rfl Try.underlying33 Jr rfl (by decide) (by omega) (.slice A' (rowsM.getD i []).length c') (rowsM.getD i []) (⟨-8, 0⟩ : S35) [.int .i64 (-8), .int .i64 0] (fun k => oki k ∨ wr.heap.size ≤ k) (fun _ => False) rfl (by first | (go_simp; done) | (go_simp; rfl)) ?aP (fun _ hk => hk.elim) ?aF ?aO ?aB ?aS ?aL ?_; (case aP => exact QB _ _ _ (⟨-8, 0⟩ : S35)); (case aF => exact fun _ h => Or.inr h); (case aO => exact Kd.zq HRM.out (fun _ hk => Or.inl hk)); (case aB => exact Below.refl _ _); (case aS => exact hbl); (case aL => omega); intro v8 w8 r8 b8 hg hat; obtain ⟨A8, c8, rfl⟩ := Kd.jJ r8; have R8 := qa.mk r8; have B8 := qa.mk b8; have G8 := qa.mk hg; obtain ⟨z1, z2, z3⟩ := hNM w8 _ _ r8 hg; have Z3 := qa.mk z3; clear r8 b8 hg hat z3)
              have ez : (rowsM[i]?.getD []).length + 1 = (rowsM.getD i [] ++ [(⟨-8, 0⟩ : S35)]).length := by simp
              rw [ez]
              refine ⟨⟨m + 1, by push_cast; rfl, by omega, ⟨Qx.weak Z3.out (fun r h => short_app hlt hPM h)⟩, ⟨qg (below_weaken HBm.out hsa B8.out) hgw⟩⟩, ?_⟩
              show (_ : Nat) < _
              simp only [intOf]; omega
            · have ml := eq_false (show ¬ (m : Int) < 9 by omega)
              have ml2 := eq_false mlt
              have HE := qa.mk (Qx.weak (Q := QZ n (i + 1)) HM.out (fun r h => h.1))
              go_wp2
              refine ⟨⟨i + 1, by push_cast; rfl, by omega, HE, HBm⟩, ?_⟩
              show (_ : Nat) < _
              simp only [intOf]; omega
    · have iln := eq_false (show ¬ (i : Int) < (n : Int) by omega)
      have iln2 := eq_false hlt
      have en := HN.out
      subst en
      obtain ⟨rowsE, hrE, hsE, hpE, hfE, hzE⟩ := HI.out
      have sB5 := SZ.out
      have bE : Kd.S (Kd.slice 35 k35) 33 wr w4.heap.size (fun _ => True) (.slice A5 F.length c5) F := by
        refine Kd.zC (Kd.S_step (Kd.jA (Kd.jA (Kd.zC (Kd.Zp S5.out) (ok' := fun k => w4.heap.size ≤ k ∧ k < w5.heap.size) (fun k hk => ⟨hk.2.1, hk.2.2.1⟩)) W6.out) W7.out) (fun k hk hlt => ?_)) (fun _ _ => trivial)
        exact hfE k (by rw [sB5.2.2]; exact hlt) (fun z => by have := z.2; rw [sB5.2.1] at this; omega)
      have wE : Kd.S (Kd.slice 35 k35) 33 wr w2.heap.size (fun _ => True) (.slice A3 F.length c3) F := by
        refine Kd.zC (Kd.S_step (Kd.jA (Kd.jA (Kd.jA (Kd.jA (Kd.zC (Kd.Zp S3.out) (ok' := fun k => k < w3.heap.size) (fun k hk => hk.2.2.1)) W4.out) W5.out) W6.out) W7.out) (fun k hk hlt => ?_)) (fun _ _ => trivial)
        exact hfE k (by rw [sB5.2.2]; exact hlt) (fun z => by have := z.1; rw [sB5.1] at this; omega)
      have BE := qa.mk bE
      have WE := qa.mk wE
      clear bE wE sB5 hrE hsE hpE hfE hzE
      go_wp2_with (go_at_call 14; refine (qH.calls ks A5 c5 F A3 c3 F true wr (Kd.Qs BE.out).2.2 (Kd.Qs BE.out).2.1 (Kd.Qs WE.out).2.2 (Kd.Qs WE.out).2.1 SP.out).mono ?_; rintro e' w9 ⟨rfl, hd9⟩; have B9 := qa.mk (qE HB.out (Jt hd9)); clear hd9)
      go_ret
      exact ⟨rfl, B9.out⟩
end Go.Proofs.Ytmlkpadlafjfeaa.P
