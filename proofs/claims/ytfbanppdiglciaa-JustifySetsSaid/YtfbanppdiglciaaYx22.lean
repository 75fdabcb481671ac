-- written by a program of this session (wip/xprint.py) over the kit's print
import Derived.Test.YtfbanppdiglciaaYx0
namespace Go.Proofs.Ytfbanppdiglciaa.Y
open Go.RowKit Go.Proofs.YtfbanppdiglciaaW.PrintWords Go.Proofs.YtfbanppdiglciaaW.PrintLast Go.Proofs.YtfbanppdiglciaaW.PrintMore
attribute [local go_sem] max2_int min2_int max_two min_two max_three min_three max_four min_four   -- for this text's walks alone
set_option linter.unusedVariables false
set_option linter.unusedSimpArgs false

/-! ### serifref01_Size: function 46 -/
set_option maxHeartbeats 8000000 in
set_option maxRecDepth 100000 in
theorem size_walk0 (n m : Int) (hn : 0 ≤ n) (e1 : IntKind.u64.wrap n = m) (h0 : 0 ≤ m) (h1 : m ≤ 9223372036854775808) (w : World) :
  Calls Try.prog 46 #[.int .i64 n] w fun e w' => e = .returned (.agg #[.int .i64 (m % 65536), .int .i64 (m / 65536 % 65536), .int .i64 (m / 65536 / 65536 % 65536), .int .i64 (m / 65536 / 65536 / 65536 % 65536), .int .i64 (0), .int .i64 (0), .int .i64 (0), .int .i64 (0), .int .i64 (0), .int .i64 (0)]) ∧ Below w.heap.size w w' := by
 have hu := Try.underlying84
 go_enter Try.func46, Try.ntmps46
 go_wp2
 refine wp_loop_rounds 5 ?_
 rw [rounds_succ]
 go_wp2
 rw [rounds_succ]
 go_wp2
 rw [rounds_succ]
 go_wp2
 rw [rounds_succ]
 go_wp2
 rw [rounds_succ]
 go_wp2
 exact bodyPost_ret (v := .agg #[.int .i64 (m % 65536), .int .i64 (m / 65536 % 65536), .int .i64 (m / 65536 / 65536 % 65536), .int .i64 (m / 65536 / 65536 / 65536 % 65536), .int .i64 (0), .int .i64 (0), .int .i64 (0), .int .i64 (0), .int .i64 (0), .int .i64 (0)]) (by simp [results, Try.results46, go_sem]) rfl ⟨rfl, (((Below.refl _ _).alloc (Nat.le_refl _) _).alloc (by simp) _)⟩
set_option maxHeartbeats 8000000 in
set_option maxRecDepth 100000 in
theorem size_walk1 (n m m0 : Int) (hn : n < 0) (e1 : IntKind.u64.wrap n = m0) (e2 : IntKind.u64.wrap (-m0) = m) (h0 : 0 ≤ m) (h1 : m ≤ 9223372036854775808) (w : World) :
  Calls Try.prog 46 #[.int .i64 n] w fun e w' => e = .returned (.agg #[.int .i64 (m % 65536), .int .i64 (m / 65536 % 65536), .int .i64 (m / 65536 / 65536 % 65536), .int .i64 (m / 65536 / 65536 / 65536 % 65536), .int .i64 (0), .int .i64 (0), .int .i64 (0), .int .i64 (0), .int .i64 (0), .int .i64 (0)]) ∧ Below w.heap.size w w' := by
 have hu := Try.underlying84
 go_enter Try.func46, Try.ntmps46
 go_wp2
 refine wp_loop_rounds 5 ?_
 rw [rounds_succ]
 go_wp2
 rw [rounds_succ]
 go_wp2
 rw [rounds_succ]
 go_wp2
 rw [rounds_succ]
 go_wp2
 rw [rounds_succ]
 go_wp2
 exact bodyPost_ret (v := .agg #[.int .i64 (m % 65536), .int .i64 (m / 65536 % 65536), .int .i64 (m / 65536 / 65536 % 65536), .int .i64 (m / 65536 / 65536 / 65536 % 65536), .int .i64 (0), .int .i64 (0), .int .i64 (0), .int .i64 (0), .int .i64 (0), .int .i64 (0)]) (by simp [results, Try.results46, go_sem]) rfl ⟨rfl, (((Below.refl _ _).alloc (Nat.le_refl _) _).alloc (by simp) _)⟩
def serifref01_Size.f (a0 : Int) : Option (Int × Int × Int × Int × Int × Int × Int × Int × Int × Int) := if -9223372036854775808 ≤ a0 ∧ a0 ≤ 9223372036854775807 then some (digs (if a0 < 0 then -a0 else a0)) else none
theorem size_digs {m : Int} (h0 : 0 ≤ m) (h1 : m ≤ 9223372036854775808) : digs m = (m % 65536, m / 65536 % 65536, m / 65536 / 65536 % 65536, m / 65536 / 65536 / 65536 % 65536, 0, 0, 0, 0, 0, 0) := by
 simp only [digs, Prod.mk.injEq]
 refine ⟨trivial, trivial, ?_, ?_, ?_, ?_, ?_, ?_, ?_, ?_⟩ <;> omega
theorem serifref01_Size.calls (a0 : Int) (r1 : Int) (r2 : Int) (r3 : Int) (r4 : Int) (r5 : Int) (r6 : Int) (r7 : Int) (r8 : Int) (r9 : Int) (r10 : Int) (w : World) (h : serifref01_Size.f a0 = some (r1, r2, r3, r4, r5, r6, r7, r8, r9, r10)) :
  Calls Try.prog 46 #[.int .i64 a0] w fun e w' => e = .returned (.agg #[.int .i64 r1, .int .i64 r2, .int .i64 r3, .int .i64 r4, .int .i64 r5, .int .i64 r6, .int .i64 r7, .int .i64 r8, .int .i64 r9, .int .i64 r10]) ∧ Below w.heap.size w w' := by
 unfold serifref01_Size.f at h
 by_cases hb : -9223372036854775808 ≤ a0 ∧ a0 ≤ 9223372036854775807
 ·rw [if_pos hb] at h
  by_cases hn : a0 < 0
  ·rw [if_pos hn, size_digs (by omega) (by omega)] at h
   simp only [Option.some.injEq, Prod.mk.injEq] at h
   obtain ⟨rfl, rfl, rfl, rfl, rfl, rfl, rfl, rfl, rfl, rfl⟩ := h
   exact size_walk1 a0 (-a0) (a0 + 18446744073709551616) hn (by rw [show IntKind.u64.wrap a0 = a0 % 18446744073709551616 by simp [IntKind.wrap, IntKind.bits, IntKind.signed]]; omega) (by rw [show IntKind.u64.wrap (-(a0 + 18446744073709551616)) = (-(a0 + 18446744073709551616)) % 18446744073709551616 by simp [IntKind.wrap, IntKind.bits, IntKind.signed]]; omega) (by omega) (by omega) w
  ·rw [if_neg hn, size_digs (by omega) (by omega)] at h
   simp only [Option.some.injEq, Prod.mk.injEq] at h
   obtain ⟨rfl, rfl, rfl, rfl, rfl, rfl, rfl, rfl, rfl, rfl⟩ := h
   exact size_walk0 a0 a0 (by omega) (by rw [show IntKind.u64.wrap a0 = a0 % 18446744073709551616 by simp [IntKind.wrap, IntKind.bits, IntKind.signed]]; omega) (by omega) (by omega) w
 ·rw [if_neg hb] at h; exact absurd h (by simp)


end Go.Proofs.Ytfbanppdiglciaa.Y
