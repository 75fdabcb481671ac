/- bits.Len64, bits.LeadingZeros64, bits.Mul64 and bits.Div64, whole. -/
import Derived.Test.YtfbanppdiglciaaYx0
import Derived.Test.YtfbanppdiglciaaYx6
import Derived.Test.YtfbanppdiglciaaYx7
import Derived.Test.YtfbanppdiglciaaYx8
import Derived.Test.YtfbanppdiglciaaYx9
import Derived.Test.YtfbanppdiglciaaDivY
set_option linter.unusedVariables false
set_option linter.unusedSimpArgs false
namespace Go.Proofs.Ytfbanppdiglciaa.Y
open Go Go.RowKit Go.Proofs.YtfbanppdiglciaaW.PrintWords Go.Proofs.YtfbanppdiglciaaW.PrintLast Go.Proofs.YtfbanppdiglciaaW.PrintMore

def len8 : ByteArray := ⟨#[0, 1, 2, 2, 3, 3, 3, 3, 4, 4, 4, 4, 4, 4, 4, 4, 5, 5, 5, 5, 5, 5, 5, 5, 5, 5, 5, 5, 5, 5, 5, 5, 6, 6, 6, 6, 6, 6, 6, 6, 6, 6, 6, 6, 6, 6, 6, 6, 6, 6, 6, 6, 6, 6, 6, 6, 6, 6, 6, 6, 6, 6, 6, 6, 7, 7, 7, 7, 7, 7, 7, 7, 7, 7, 7, 7, 7, 7, 7, 7, 7, 7, 7, 7, 7, 7, 7, 7, 7, 7, 7, 7, 7, 7, 7, 7, 7, 7, 7, 7, 7, 7, 7, 7, 7, 7, 7, 7, 7, 7, 7, 7, 7, 7, 7, 7, 7, 7, 7, 7, 7, 7, 7, 7, 7, 7, 7, 7, 8, 8, 8, 8, 8, 8, 8, 8, 8, 8, 8, 8, 8, 8, 8, 8, 8, 8, 8, 8, 8, 8, 8, 8, 8, 8, 8, 8, 8, 8, 8, 8, 8, 8, 8, 8, 8, 8, 8, 8, 8, 8, 8, 8, 8, 8, 8, 8, 8, 8, 8, 8, 8, 8, 8, 8, 8, 8, 8, 8, 8, 8, 8, 8, 8, 8, 8, 8, 8, 8, 8, 8, 8, 8, 8, 8, 8, 8, 8, 8, 8, 8, 8, 8, 8, 8, 8, 8, 8, 8, 8, 8, 8, 8, 8, 8, 8, 8, 8, 8, 8, 8, 8, 8, 8, 8, 8, 8, 8, 8, 8, 8, 8, 8, 8, 8, 8, 8, 8, 8, 8, 8, 8, 8, 8, 8, 8, 8]⟩
def lenOk (x L : Nat) : Bool := decide (L ≤ 8) && decide (x < 2 ^ L) && (L == 0 || decide (2 ^ (L - 1) ≤ x)) && (decide (x = 0) || L != 0)
theorem len8_all : ∀ i : Fin 256, lenOk i.1 (bt len8 (i.1 : Int)).toNat = true := by decide +kernel
theorem bt_nn (s : ByteArray) (i : Int) : 0 ≤ bt s i := by unfold bt; split <;> omega
/-- the length of a byte -/
theorem len8_at {x : Int} (h0 : 0 ≤ x) (h1 : x < 256) : ∃ L : Nat, bt len8 x = (L : Int) ∧ L ≤ 8 ∧ x < 2 ^ L ∧ (x ≠ 0 → 1 ≤ L ∧ (2 : Int) ^ (L - 1) ≤ x) := by
  obtain ⟨n, rfl⟩ := Int.eq_ofNat_of_zero_le h0
  have hn : n < 256 := by omega
  have h := len8_all ⟨n, hn⟩
  have e : bt len8 (n : Int) = ((bt len8 (n : Int)).toNat : Int) := by have := bt_nn len8 n; omega
  refine ⟨(bt len8 (n : Int)).toNat, e, ?_⟩
  generalize (bt len8 (n : Int)).toNat = L at h
  simp only [lenOk, Bool.and_eq_true, Bool.or_eq_true, decide_eq_true_eq, bne_iff_ne, beq_iff_eq] at h
  obtain ⟨⟨⟨a, b⟩, c⟩, d⟩ := h
  refine ⟨a, by exact_mod_cast b, fun hx => ?_⟩
  have hl : L ≠ 0 := by rcases d with d | d <;> omega
  refine ⟨by omega, ?_⟩
  rcases c with c | c
  · exact absurd c hl
  · exact_mod_cast c

/-- L is x's length in bits. -/
def IsLen (x : Int) (L : Int) : Prop := ∃ n : Nat, L = n ∧ n ≤ 64 ∧ x < 2 ^ n ∧ (x ≠ 0 → 1 ≤ n ∧ (2 : Int) ^ (n - 1) ≤ x)
theorem IsLen.up {x : Int} {L : Nat} (m : Nat) (hx : 0 < x / 2 ^ m) (hL : L ≤ 64 - m) (hm : m ≤ 64) (h1 : x / 2 ^ m < 2 ^ L) (h2 : x / 2 ^ m ≠ 0 → 1 ≤ L ∧ (2 : Int) ^ (L - 1) ≤ x / 2 ^ m) : IsLen x (m + L : Nat) := by
  have p : (0 : Int) < 2 ^ m := Int.pow_pos (by decide)
  obtain ⟨l1, l2⟩ := h2 (by omega)
  have a : x < (x / 2 ^ m + 1) * 2 ^ m := by
    have := Int.emod_add_mul_ediv x (2 ^ m); have := Int.emod_lt_of_pos x p
    rw [Int.add_mul, Int.mul_comm (x / 2 ^ m)]; omega
  have b : x / 2 ^ m * 2 ^ m ≤ x := Int.ediv_mul_le x (by omega)
  refine ⟨m + L, by omega, by omega, ?_, fun _ => ⟨by omega, ?_⟩⟩
  · have : (x / 2 ^ m + 1) * 2 ^ m ≤ 2 ^ L * 2 ^ m := Int.mul_le_mul_of_nonneg_right (by omega) (by omega)
    rw [Int.pow_add, Int.mul_comm (2 ^ m)]; omega
  · have : 2 ^ (L - 1) * 2 ^ m ≤ x / 2 ^ m * 2 ^ m := Int.mul_le_mul_of_nonneg_right l2 (by omega)
    rw [show m + L - 1 = m + (L - 1) by omega, Int.pow_add, Int.mul_comm (2 ^ m)]; omega

theorem wrap64_in' {n : Int} (h0 : -9223372036854775808 ≤ n) (h1 : n ≤ 9223372036854775807) : wrap64 n = n := by unfold wrap64; omega

def lenJ (T : ByteArray) (X m : Int) : Option Int := (if X ≥ 65536 then (if (X / 65536) ≥ 256 then (if 0 ≤ (((X / 65536) / 256) % 256) then (if (((X / 65536) / 256) % 256) < 256 then (some (wrap64 ((wrap64 ((wrap64 (m + 16)) + 8)) + (wrap64 (bt T (((X / 65536) / 256) % 256)))))) else (none)) else (none)) else (if 0 ≤ ((X / 65536) % 256) then (if ((X / 65536) % 256) < 256 then (some (wrap64 ((wrap64 (m + 16)) + (wrap64 (bt T ((X / 65536) % 256)))))) else (none)) else (none))) else (if X ≥ 256 then (if 0 ≤ ((X / 256) % 256) then (if ((X / 256) % 256) < 256 then (some (wrap64 ((wrap64 (m + 8)) + (wrap64 (bt T ((X / 256) % 256)))))) else (none)) else (none)) else (if 0 ≤ ((X) % 256) then (if ((X) % 256) < 256 then (some (wrap64 (m + (wrap64 (bt T ((X) % 256)))))) else (none)) else (none))))
theorem w_16 (m : Nat) (h : m ≤ 32) : wrap64 ((m : Int) + 16) = (m : Int) + 16 := wrap64_in' (by omega) (by omega)
theorem w_8 (m : Nat) (h : m ≤ 32) : wrap64 ((m : Int) + 8) = (m : Int) + 8 := wrap64_in' (by omega) (by omega)
theorem w_24 (m : Nat) (h : m ≤ 32) : wrap64 (wrap64 ((m : Int) + 16) + 8) = (m : Int) + 24 := by rw [w_16 m h, wrap64_in' (by omega) (by omega)]; omega
theorem lenJ_ok (T : ByteArray) (hT : ∀ x : Int, 0 ≤ x → x < 256 → ∃ L : Nat, bt T x = (L : Int) ∧ L ≤ 8 ∧ x < 2 ^ L ∧ (x ≠ 0 → 1 ≤ L ∧ (2 : Int) ^ (L - 1) ≤ x)) (x : Int) (m : Nat) (hm : m = 0 ∨ m = 32) (h0 : 0 ≤ x / 2 ^ m) (h1 : x / 2 ^ m < 4294967296) (hb : m = 32 → 0 < x / 2 ^ m) (x0 : 0 ≤ x) :
    ∃ L, lenJ T (x / 2 ^ m) (m : Int) = some L ∧ IsLen x L := by
  have two : ∀ a b : Nat, x / 2 ^ a / 2 ^ b = x / 2 ^ (a + b) := fun a b => by rw [Int.pow_add, Int.ediv_ediv_of_nonneg (Int.le_of_lt (Int.pow_pos (by decide)))]
  have p16 : (2 : Int) ^ 16 = 65536 := rfl
  have p8 : (2 : Int) ^ 8 = 256 := rfl
  have d16 : x / 2 ^ m / 65536 = x / 2 ^ (m + 16) := by rw [← p16]; exact two m 16
  have d8 : x / 2 ^ m / 256 = x / 2 ^ (m + 8) := by rw [← p8]; exact two m 8
  have d24 : x / 2 ^ m / 65536 / 256 = x / 2 ^ (m + 24) := by rw [d16, ← p8]; exact two (m + 16) 8
  have fin : ∀ (s : Nat) (y : Int), y = x / 2 ^ (m + s) → s ≤ 24 → 0 ≤ y → y < 256 → (0 < y ∨ m + s = 0) → ∀ z : Int, z = ((m + s : Nat) : Int) →
      ∃ L, (if 0 ≤ y % 256 then (if y % 256 < 256 then (some (wrap64 (z + (wrap64 (bt T (y % 256)))))) else none) else none) = some L ∧ IsLen x L := by
    intro s y hy hs hy0 hy1 hp z hz
    have e : y % 256 = y := by omega
    rw [e, if_pos hy0, if_pos hy1]
    obtain ⟨L, l0, l1, l2, l3⟩ := hT _ hy0 hy1
    refine ⟨_, rfl, ?_⟩
    rw [l0, wrap64_in' (n := (L : Int)) (by omega) (by omega), wrap64_in' (by omega) (by omega)]
    rcases Nat.eq_zero_or_pos (m + s) with h | h
    · rw [hz, h]
      have ex : y = x := by rw [hy, h]; simp
      rw [ex] at l2 l3
      exact ⟨L, by omega, by omega, l2, l3⟩
    · have : z + (L : Int) = ((m + s + L : Nat) : Int) := by omega
      rw [this]
      subst hy
      exact IsLen.up (m + s) (by omega) (by omega) (by omega) l2 l3
  have ml : m ≤ 32 := by omega
  unfold lenJ
  by_cases c1 : x / 2 ^ m ≥ 65536
  · rw [if_pos c1]
    by_cases c2 : x / 2 ^ m / 65536 ≥ 256
    · rw [if_pos c2, w_24 m ml]
      exact fin 24 _ d24 (by omega) (by omega) (by omega) (.inl (by omega)) _ (by omega)
    · rw [if_neg c2, w_16 m ml]
      exact fin 16 _ d16 (by omega) (by omega) (by omega) (.inl (by omega)) _ (by omega)
  · rw [if_neg c1]
    by_cases c2 : x / 2 ^ m ≥ 256
    · rw [if_pos c2, w_8 m ml]
      exact fin 8 _ d8 (by omega) (by omega) (by omega) (.inl (by omega)) _ (by omega)
    · rw [if_neg c2]
      exact fin 0 (x / 2 ^ m) (by rw [Nat.add_zero]) (by omega) h0 (by omega) (by rcases hm with h | h; exact .inr (by omega); exact .inl (hb h)) _ (by omega)

set_option maxRecDepth 100000 in
theorem j0_eq (k : Nat) (X m : Int) : bits_Len64.j0 (k + 1) X m = lenJ len8 X m := rfl
theorem len64_j (x : Int) (m : Nat) (hm : m = 0 ∨ m = 32) (k : Nat) (h0 : 0 ≤ x / 2 ^ m) (h1 : x / 2 ^ m < 4294967296) (hb : m = 32 → 0 < x / 2 ^ m) (x0 : 0 ≤ x) :
    ∃ L, bits_Len64.j0 (k + 1) (x / 2 ^ m) (m : Int) = some L ∧ IsLen x L := by
  rw [j0_eq]; exact lenJ_ok len8 (fun x a b => len8_at a b) x m hm h0 h1 hb x0

theorem len64 (x : Int) (h0 : 0 ≤ x) (h1 : x < 18446744073709551616) (k : Nat) : ∃ L, bits_Len64.f (k + 1) x = some L ∧ IsLen x L := by
  unfold bits_Len64.f
  by_cases c : x ≥ 4294967296
  · rw [if_pos c]
    exact len64_j x 32 (.inr rfl) k (by omega) (by omega) (fun _ => by omega) h0
  · rw [if_neg c]
    have := len64_j x 0 (.inl rfl) k (by simpa using h0) (by simp; omega) (fun h => by omega) h0
    simpa using this
theorem lz64 (x : Int) (h0 : 0 < x) (h1 : x < 18446744073709551616) (k : Nat) :
    ∃ s : Nat, bits_LeadingZeros64.f (k + 1) x = some (s : Int) ∧ s ≤ 63 ∧ 9223372036854775808 ≤ x * 2 ^ s ∧ x * 2 ^ s < 18446744073709551616 := by
  obtain ⟨L, e, n, rfl, hn, hlt, hge⟩ := len64 x (by omega) h1 k
  obtain ⟨n1, hle⟩ := hge (by omega)
  refine ⟨64 - n, ?_, by omega, ?_, ?_⟩
  · unfold bits_LeadingZeros64.f
    rw [e]; simp only [Option.bind_some]
    rw [wrap64_in' (by omega) (by omega)]
    congr 1; omega
  · have p : (2 : Int) ^ (n - 1) * 2 ^ (64 - n) = 9223372036854775808 := by rw [← Int.pow_add, show n - 1 + (64 - n) = 63 by omega]; rfl
    have z : (0 : Int) < 2 ^ (64 - n) := Int.pow_pos (by decide)
    have := Int.mul_le_mul_of_nonneg_right hle (Int.le_of_lt z)
    omega
  · have p : (2 : Int) ^ n * 2 ^ (64 - n) = 18446744073709551616 := by rw [← Int.pow_add, show n + (64 - n) = 64 by omega]; rfl
    have z : (0 : Int) < 2 ^ (64 - n) := Int.pow_pos (by decide)
    have := Int.mul_lt_mul_of_pos_right hlt z
    omega

theorem mask32 {x : Int} (h0 : 0 ≤ x) (h1 : x < 18446744073709551616) : Go.bits .and .u64 x 4294967295 = x % 4294967296 :=
  bits_mask .u64 64 (by decide) (fun n a b => wrap_u_in a (by omega)) 32 (by decide) x h0 (by omega)

/-- bits.Mul64 -/
theorem mul64 (a b : Int) (a0 : 0 ≤ a) (a1 : a < 18446744073709551616) (b0 : 0 ≤ b) (b1 : b < 18446744073709551616) :
    bits_Mul64.f a b = some (a * b / 18446744073709551616, a * b % 18446744073709551616) := by
  unfold bits_Mul64.f
  rw [mask32 a0 a1, mask32 b0 b1]
  have ea : a = a / 4294967296 * 4294967296 + a % 4294967296 := by omega
  have eb : b = b / 4294967296 * 4294967296 + b % 4294967296 := by omega
  have ah : 0 ≤ a / 4294967296 ∧ a / 4294967296 ≤ 4294967295 := by omega
  have al : 0 ≤ a % 4294967296 ∧ a % 4294967296 ≤ 4294967295 := by omega
  have bh : 0 ≤ b / 4294967296 ∧ b / 4294967296 ≤ 4294967295 := by omega
  have bl : 0 ≤ b % 4294967296 ∧ b % 4294967296 ≤ 4294967295 := by omega
  generalize a / 4294967296 = p at *
  generalize a % 4294967296 = q at *
  generalize b / 4294967296 = r at *
  generalize b % 4294967296 = s at *
  have e : a * b = (p * r) * 18446744073709551616 + (p * s) * 4294967296 + (q * r) * 4294967296 + q * s := by subst ea eb; grind
  have pr := mul_lt_of ah.1 bh.1 ah.2 bh.2
  have ps := mul_lt_of ah.1 bl.1 ah.2 bl.2
  have qr := mul_lt_of al.1 bh.1 al.2 bh.2
  have qs := mul_lt_of al.1 bl.1 al.2 bl.2
  have pr0 := Int.mul_nonneg ah.1 bh.1
  have ps0 := Int.mul_nonneg ah.1 bl.1
  have qr0 := Int.mul_nonneg al.1 bh.1
  have qs0 := Int.mul_nonneg al.1 bl.1
  rw [wrap_u (a * b), e]
  generalize p * r = A at *
  generalize p * s = B at *
  generalize q * r = C at *
  generalize q * s = D at *
  rw [wrap_u_in (n := A) pr0 (by omega), wrap_u_in (n := B) ps0 (by omega), wrap_u_in (n := C) qr0 (by omega), wrap_u_in (n := D) qs0 (by omega)]
  rw [wrap_u_in (n := B + D / 4294967296) (by omega) (by omega)]
  rw [mask32 (by omega) (by omega)]
  rw [wrap_u_in (n := A + (B + D / 4294967296) / 4294967296) (by omega) (by omega)]
  rw [wrap_u_in (n := (B + D / 4294967296) % 4294967296 + C) (by omega) (by omega)]
  rw [wrap_u_in (by omega) (by omega)]
  simp only [Option.some.injEq, Prod.mk.injEq, and_true]
  omega

theorem or_join {x y : Int} (i : Nat) (hx0 : 0 ≤ x) (hx : x % 2 ^ i = 0) (hx1 : x < 18446744073709551616) (hy0 : 0 ≤ y) (hy : y < 2 ^ i) (hy1 : y < 18446744073709551616) : Go.bits .or .u64 x y = x + y :=
  bits_join .u64 64 (by decide) (fun n a b => wrap_u_in a (by omega)) i x y hx0 hx (by omega) hy0 hy (by omega)

/-- bits.Div64 -/
theorem div64 (hi lo y : Int) (h0 : 0 ≤ hi) (h1 : hi < y) (l0 : 0 ≤ lo) (l1 : lo < 18446744073709551616) (y1 : y < 18446744073709551616) :
    Ev (fun k => bits_Div64.f k hi lo y) ((hi * 18446744073709551616 + lo) / y, (hi * 18446744073709551616 + lo) % y) := by
  by_cases hz : hi = 0
  · subst hz
    refine Ev.intro 0 fun k => ?_
    simp only [bits_Div64.f]
    rw [if_neg (by omega), if_neg (by omega), if_pos trivial, Int.tdiv_eq_ediv_of_nonneg l0, Int.tmod_eq_emod_of_nonneg l0]
    have : lo / y ≤ lo := Int.ediv_le_self y l0
    have := Int.ediv_nonneg l0 (show 0 ≤ y by omega)
    rw [wrap_u_in (by omega) (by omega)]; simp
  · obtain ⟨s, es, hs, g1, g2⟩ := lz64 y (by omega) y1 0
    have es : ∀ k, bits_LeadingZeros64.f (k + 1) y = some (s : Int) := fun k => at_rounds (bits_LeadingZeros64.mono y) (show 0 + 1 ≤ k + 1 by omega) es
    have PQ : (2 : Int) ^ s * 2 ^ (64 - s) = 18446744073709551616 := by rw [← Int.pow_add, show s + (64 - s) = 64 by omega]; rfl
    have Pp : (0 : Int) < 2 ^ s := Int.pow_pos (by decide)
    have Qp : (0 : Int) < 2 ^ (64 - s) := Int.pow_pos (by decide)
    have hyP : hi * 2 ^ s + 2 ^ s ≤ y * 2 ^ s := by have := Int.mul_le_mul_of_nonneg_right (show hi + 1 ≤ y by omega) (Int.le_of_lt Pp); rw [Int.add_mul] at this; omega
    have hP0 : 0 ≤ hi * 2 ^ s := Int.mul_nonneg h0 (by omega)
    have c1 : IntKind.u64.wrap (s : Int) = s := wrap_u_in (by omega) (by omega)
    have c2 : IntKind.u64.wrap (64 - (s : Int)) = (64 - s : Nat) := by rw [wrap_u_in (by omega) (by omega)]; omega
    have t1 : ((s : Int)).toNat = s := by omega
    have t2 : (((64 - s : Nat) : Int)).toNat = 64 - s := by omega
    have s1 : shl .u64 y (s : Int) = y * 2 ^ s := by unfold shl; rw [t1, Nat.min_eq_left (show s ≤ IntKind.u64.bits by show s ≤ 64; omega), wrap_u_in (by omega) g2]
    have s2 : shl .u64 hi (s : Int) = hi * 2 ^ s := by unfold shl; rw [t1, Nat.min_eq_left (show s ≤ IntKind.u64.bits by show s ≤ 64; omega), wrap_u_in hP0 (by omega)]
    have s3 : shl .u64 lo (s : Int) = (lo * 2 ^ s) % 18446744073709551616 := by unfold shl; rw [t1, Nat.min_eq_left (show s ≤ IntKind.u64.bits by show s ≤ 64; omega), wrap_u]
    have s4 : shr .u64 lo ((64 - s : Nat) : Int) = lo / 2 ^ (64 - s) := by unfold shr; rw [t2, Nat.min_eq_left (show 64 - s ≤ IntKind.u64.bits by show 64 - s ≤ 64; omega)]
    have a0 := Int.emod_add_mul_ediv lo (2 ^ (64 - s))
    have a1 := Int.emod_nonneg lo (show (2 : Int) ^ (64 - s) ≠ 0 by omega)
    have a2 := Int.emod_lt_of_pos lo Qp
    have a3 : 0 ≤ lo / 2 ^ (64 - s) := Int.ediv_nonneg l0 (by omega)
    have a4 : lo / 2 ^ (64 - s) < 2 ^ s := Int.ediv_lt_of_lt_mul Qp (by rw [PQ]; exact l1)
    have j1 : Go.bits .or .u64 (hi * 2 ^ s) (lo / 2 ^ (64 - s)) = hi * 2 ^ s + lo / 2 ^ (64 - s) :=
      or_join s hP0 (Int.mul_emod_left _ _) (by omega) a3 a4 (by omega)
    have lo2 : lo * 2 ^ s = (lo / 2 ^ (64 - s)) * 18446744073709551616 + (lo % 2 ^ (64 - s)) * 2 ^ s := by
      have : lo * 2 ^ s = (lo % 2 ^ (64 - s) + 2 ^ (64 - s) * (lo / 2 ^ (64 - s))) * 2 ^ s := by rw [a0]
      rw [this, ← PQ]; grind
    have rs0 : 0 ≤ (lo % 2 ^ (64 - s)) * 2 ^ s := Int.mul_nonneg a1 (by omega)
    have rs1 : (lo % 2 ^ (64 - s)) * 2 ^ s < 18446744073709551616 := by have := Int.mul_lt_mul_of_pos_right a2 Pp; rw [Int.mul_comm (2 ^ (64 - s)), PQ] at this; exact this
    have s3' : shl .u64 lo (s : Int) = (lo % 2 ^ (64 - s)) * 2 ^ s := by rw [s3, lo2]; omega
    -- names for the pieces
    have fe : ∀ k, bits_Div64.f (k + 1) hi lo y = bits_Div64.l0 (k + 1) (y * 2 ^ s) s (y * 2 ^ s / 4294967296) (y * 2 ^ s % 4294967296) (hi * 2 ^ s + lo / 2 ^ (64 - s)) ((lo % 2 ^ (64 - s)) * 2 ^ s / 4294967296) ((lo % 2 ^ (64 - s)) * 2 ^ s % 4294967296) ((hi * 2 ^ s + lo / 2 ^ (64 - s)) / (y * 2 ^ s / 4294967296)) ((hi * 2 ^ s + lo / 2 ^ (64 - s)) - (hi * 2 ^ s + lo / 2 ^ (64 - s)) / (y * 2 ^ s / 4294967296) * (y * 2 ^ s / 4294967296)) := by
      intro k
      simp only [bits_Div64.f]
      rw [if_neg (by omega), if_neg (by omega), if_neg hz, es k]
      simp only [Option.bind_some]
      rw [c1, c2, if_pos (by omega), if_pos (by omega), s1, s2, s3', s4, j1, if_neg (by omega)]
      rw [mask32 (by omega) g2, mask32 rs0 rs1]
      have u0 : 0 ≤ hi * 2 ^ s + lo / 2 ^ (64 - s) := by omega
      rw [Int.tdiv_eq_ediv_of_nonneg u0]
      have uu : hi * 2 ^ s + lo / 2 ^ (64 - s) < 18446744073709551616 := by omega
      generalize hi * 2 ^ s + lo / 2 ^ (64 - s) = u at *
      have v1 : 2147483648 ≤ y * 2 ^ s / 4294967296 := by omega
      have qle : u / (y * 2 ^ s / 4294967296) ≤ u := Int.ediv_le_self _ u0
      have q0 : 0 ≤ u / (y * 2 ^ s / 4294967296) := Int.ediv_nonneg u0 (by omega)
      have qm : u / (y * 2 ^ s / 4294967296) * (y * 2 ^ s / 4294967296) ≤ u := Int.ediv_mul_le u (by omega)
      have qm0 : 0 ≤ u / (y * 2 ^ s / 4294967296) * (y * 2 ^ s / 4294967296) := Int.mul_nonneg q0 (by omega)
      rw [wrap_u_in (n := u / _) q0 (by omega), wrap_u_in (n := _ * _) qm0 (by omega), wrap_u_in (n := u - _) (by omega) (by omega)]
    have tot : (hi * 18446744073709551616 + lo) * 2 ^ s = (hi * 2 ^ s + lo / 2 ^ (64 - s)) * 18446744073709551616 + (lo % 2 ^ (64 - s)) * 2 ^ s := by
      rw [Int.add_mul, lo2]; grind
    have hu1 : hi * 2 ^ s + lo / 2 ^ (64 - s) < y * 2 ^ s := by omega
    have hu0 : 0 ≤ hi * 2 ^ s + lo / 2 ^ (64 - s) := by omega
    generalize hi * 2 ^ s + lo / 2 ^ (64 - s) = u at *
    generalize (lo % 2 ^ (64 - s)) * 2 ^ s = z at *
    clear s1 s2 s3 s3' s4 j1 lo2 a0 a1 a2 a3 a4
    have yd : y * 2 ^ s = y * 2 ^ s / 4294967296 * 4294967296 + y * 2 ^ s % 4294967296 := by omega
    have ypos : 0 < y * 2 ^ s := by omega
    -- the first digit
    have D1 : Dig (y * 2 ^ s) (y * 2 ^ s / 4294967296) (y * 2 ^ s % 4294967296) u (z / 4294967296) ((u * 4294967296 + z / 4294967296) / (y * 2 ^ s)) :=
      ⟨yd, by omega, by omega, by omega, by omega, hu0, hu1, by omega, by omega, Int.ediv_mul_le _ (by omega), Int.lt_ediv_add_one_mul_self _ ypos⟩
    obtain ⟨m1, e1⟩ := l0_ev (s := (s : Int)) (un0 := z % 4294967296) D1 _ _ _ rfl D1.start
    have q1n := D1.qs_nonneg
    have q1l := D1.qs_lt
    have q1lo := D1.lo
    have q1hi := D1.hi
    rw [Int.add_mul] at q1hi
    generalize hq1 : (u * 4294967296 + z / 4294967296) / (y * 2 ^ s) = q1 at *
    -- the second digit
    have u2 : IntKind.u64.wrap ((IntKind.u64.wrap ((IntKind.u64.wrap (u * 4294967296)) + z / 4294967296)) - (IntKind.u64.wrap (q1 * (y * 2 ^ s)))) = u * 4294967296 + z / 4294967296 - q1 * (y * 2 ^ s) := by
      simp only [wrap_u]; omega
    have D2 : Dig (y * 2 ^ s) (y * 2 ^ s / 4294967296) (y * 2 ^ s % 4294967296) (u * 4294967296 + z / 4294967296 - q1 * (y * 2 ^ s)) (z % 4294967296) (((u * 4294967296 + z / 4294967296 - q1 * (y * 2 ^ s)) * 4294967296 + z % 4294967296) / (y * 2 ^ s)) :=
      ⟨yd, by omega, by omega, by omega, by omega, by omega, by omega, by omega, by omega, Int.ediv_mul_le _ (by omega), Int.lt_ediv_add_one_mul_self _ ypos⟩
    obtain ⟨m2, e2⟩ := l1_ev (s := (s : Int)) (q1 := q1) (by omega) D2 _ _ _ rfl D2.start
    have q2n := D2.qs_nonneg
    have q2l := D2.qs_lt
    have q2lo := D2.lo
    have q2hi := D2.hi
    rw [Int.add_mul] at q2hi
    generalize hu2 : u * 4294967296 + z / 4294967296 - q1 * (y * 2 ^ s) = w at *
    generalize hq2 : (w * 4294967296 + z % 4294967296) / (y * 2 ^ s) = q2 at *
    -- the whole
    have W : (hi * 18446744073709551616 + lo) * 2 ^ s = (q1 * 4294967296 + q2) * (y * 2 ^ s) + (w * 4294967296 + z % 4294967296 - q2 * (y * 2 ^ s)) := by
      have : (q1 * 4294967296 + q2) * (y * 2 ^ s) = (q1 * (y * 2 ^ s)) * 4294967296 + q2 * (y * 2 ^ s) := by grind
      rw [tot, this]; omega
    have R : w * 4294967296 + z % 4294967296 - q2 * (y * 2 ^ s) = (hi * 18446744073709551616 + lo - (q1 * 4294967296 + q2) * y) * 2 ^ s := by
      have : (hi * 18446744073709551616 + lo - (q1 * 4294967296 + q2) * y) * 2 ^ s = (hi * 18446744073709551616 + lo) * 2 ^ s - (q1 * 4294967296 + q2) * (y * 2 ^ s) := by grind
      rw [this, W]; omega
    have R0 : 0 ≤ hi * 18446744073709551616 + lo - (q1 * 4294967296 + q2) * y := by
      have : 0 * 2 ^ s ≤ (hi * 18446744073709551616 + lo - (q1 * 4294967296 + q2) * y) * 2 ^ s := by rw [← R]; omega
      exact Int.le_of_mul_le_mul_right this Pp
    have R1 : hi * 18446744073709551616 + lo - (q1 * 4294967296 + q2) * y < y := by
      have : (hi * 18446744073709551616 + lo - (q1 * 4294967296 + q2) * y) * 2 ^ s < y * 2 ^ s := by rw [← R]; omega
      exact Int.lt_of_mul_lt_mul_right this (by omega)
    have Q : (hi * 18446744073709551616 + lo) / y = q1 * 4294967296 + q2 ∧ (hi * 18446744073709551616 + lo) % y = hi * 18446744073709551616 + lo - (q1 * 4294967296 + q2) * y := by
      have h := Int.ediv_emod_unique (a := hi * 18446744073709551616 + lo) (b := y) (q := q1 * 4294967296 + q2) (r := hi * 18446744073709551616 + lo - (q1 * 4294967296 + q2) * y) (by omega)
      exact h.2 ⟨by rw [Int.mul_comm y]; omega, R0, R1⟩
    rw [Q.1, Q.2]
    have fin : divEnd (y * 2 ^ s) s q1 w (z % 4294967296) q2 = (q1 * 4294967296 + q2, hi * 18446744073709551616 + lo - (q1 * 4294967296 + q2) * y) := by
      unfold divEnd
      have e3 : IntKind.u64.wrap ((IntKind.u64.wrap ((IntKind.u64.wrap (w * 4294967296)) + z % 4294967296)) - (IntKind.u64.wrap (q2 * (y * 2 ^ s)))) = w * 4294967296 + z % 4294967296 - q2 * (y * 2 ^ s) := by
        simp only [wrap_u]; omega
      rw [e3, R, wrap_u_in (n := q1 * 4294967296) (by omega) (by omega), wrap_u_in (by omega) (by omega)]
      unfold shr
      rw [t1, Nat.min_eq_left (show s ≤ IntKind.u64.bits by show s ≤ 64; omega), Int.mul_ediv_cancel _ (by omega)]
    have st := D2.start
    refine Ev.intro (m1 + m2 + 1 + 1) fun k => ?_
    rw [show k + (m1 + m2 + 1 + 1) = (k + m1 + m2 + 1) + 1 by omega, fe, show k + m1 + m2 + 1 + 1 = (k + m2 + 1 + 1) + m1 by omega, e1]
    simp only [bits_Div64.j2]
    rw [if_neg (by omega), u2, Int.tdiv_eq_ediv_of_nonneg (by omega)]
    have s0 := st.ge; have s1 := st.le; have s2 := st.r0; have s3 := st.r1
    have v1 : 2147483648 ≤ y * 2 ^ s / 4294967296 := by omega
    have qm0 : 0 ≤ w / (y * 2 ^ s / 4294967296) * (y * 2 ^ s / 4294967296) := Int.mul_nonneg (by omega) (by omega)
    rw [wrap_u_in (n := w / (y * 2 ^ s / 4294967296)) (by omega) (by omega), wrap_u_in (n := _ * _) qm0 (by omega), wrap_u_in (n := w - _) (by omega) (by omega)]
    rw [show k + m2 + 1 = (k + 1) + m2 by omega, e2, fin]
end Go.Proofs.Ytfbanppdiglciaa.Y
