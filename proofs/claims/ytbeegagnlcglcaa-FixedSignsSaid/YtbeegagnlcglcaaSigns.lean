/- The law FixedSigns: signs and the order of factors of MulDiv. -/
import Derived.Test.YtbeegagnlcglcaaFix
import Derived.Deep.RegionWith
import Derived.WalkLawsBesides
import Derived.WalkSpells
import Derived.Deep.QuietTactic
import Derived.BigQuiet
set_option linter.unusedVariables false
set_option linter.unusedSimpArgs false
namespace Go.Proofs.Ytbeegagnlcglcaa.X
open Go Go.RowKit Go.Proofs.YtbeegagnlcglcaaW.PrintWords Go.Proofs.YtbeegagnlcglcaaW.PrintLast Go.Proofs.YtbeegagnlcglcaaW.PrintMore
theorem muldiv_c {a b c n f : Int} (ha : I64 a) (hb : I64 b) (hc : I64 c) (h : Aside0 (mulD a b c = (n, f))) (w : World) :
    Calls Try.prog 11 #[.int .i64 a, .int .i64 b, .int .i64 c] w fun e w' => e = .returned (.tuple #[.int .i64 n, .int .i64 f]) ∧ Below w.heap.size w w' := by
  obtain ⟨k, hk⟩ := (mulDiv_ev ha hb hc).rounds
  exact fixed_MulDiv.calls k a b c n f w (by rw [hk, h.out])
theorem alive_c (w : World) : Calls Try.prog 10 #[] w fun e w' => e = .returned (.bool true) ∧ Below w.heap.size w w' := by
  obtain ⟨k, hk⟩ := alive_ev.rounds
  exact seriflaw01_fixedAlive.calls k true w hk
set_option maxRecDepth 100000 in
set_option maxHeartbeats 4000000 in
theorem signs_walk (a b c n f : Int) (q1 : (a == -9223372036854775808) = false) (q2 : (b == -9223372036854775808) = false) (q3 : (c == -9223372036854775808) = false) (ha : Aside0 (I64 a)) (hb : Aside0 (I64 b)) (hc : Aside0 (I64 c)) (ha' : Aside0 (I64 (-a))) (hb' : Aside0 (I64 (-b))) (hc' : Aside0 (I64 (-c)))
    (h : Aside0 (mulD a b c = (n, f))) (h1 : Aside0 (mulD (-a) b c = (-n, f))) (h2 : Aside0 (mulD a (-b) c = (-n, f))) (h3 : Aside0 (mulD a b (-c) = (-n, f))) (h4 : Aside0 (mulD b a c = (n, f))) (wa : -9223372036854775807 ≤ a ∧ a ≤ 9223372036854775807) (wb : -9223372036854775807 ≤ b ∧ b ≤ 9223372036854775807) (wc : -9223372036854775807 ≤ c ∧ c ≤ 9223372036854775807) (wn : -9223372036854775807 ≤ n ∧ n ≤ 9223372036854775807) (w : World) :
    Calls Try.prog 4 #[.int .i64 a, .int .i64 b, .int .i64 c] w fun e w' => e = .returned (.bool true) ∧ Below w.heap.size w w' := by
  obtain ⟨wa1, wa2⟩ := wa; obtain ⟨wb1, wb2⟩ := wb; obtain ⟨wc1, wc2⟩ := wc; obtain ⟨wn1, wn2⟩ := wn
  have i0 : ∀ w, (Instr.index 27 (.agg #[.int .i64 (-a), .int .i64 b, .int .i64 c, .int .i64 a, .int .i64 (-b), .int .i64 c, .int .i64 a, .int .i64 b, .int .i64 (-c)]) (.int .i64 0)).run Try.prog w = .ok (.agg #[.int .i64 (-a), .int .i64 b, .int .i64 c]) w := fun _ => by kernel_rfl
  have i1 : ∀ w, (Instr.index 27 (.agg #[.int .i64 (-a), .int .i64 b, .int .i64 c, .int .i64 a, .int .i64 (-b), .int .i64 c, .int .i64 a, .int .i64 b, .int .i64 (-c)]) (.int .i64 1)).run Try.prog w = .ok (.agg #[.int .i64 a, .int .i64 (-b), .int .i64 c]) w := fun _ => by kernel_rfl
  have i2 : ∀ w, (Instr.index 27 (.agg #[.int .i64 (-a), .int .i64 b, .int .i64 c, .int .i64 a, .int .i64 (-b), .int .i64 c, .int .i64 a, .int .i64 b, .int .i64 (-c)]) (.int .i64 2)).run Try.prog w = .ok (.agg #[.int .i64 a, .int .i64 b, .int .i64 (-c)]) w := fun _ => by kernel_rfl
  go_enter Try.func4, Try.ntmps4
  go_wp2_with fail
  refine (alive_c _).mono ?_
  rintro e w1 ⟨rfl, hb1⟩
  have B1 := Aside0.mk hb1
  clear hb1
  go_wp2_with fail
  refine (muldiv_c ha.out hb.out hc.out h _).mono ?_
  rintro e w2 ⟨rfl, hb2⟩
  have B2 := Aside0.mk hb2
  clear hb2
  go_wp2_with fail
  refine wp_loop_rounds 4 ?_
  rw [rounds_succ]
  go_wp2_with fail
  refine (muldiv_c ha'.out hb.out hc.out h1 _).mono ?_
  rintro e w3 ⟨rfl, hb3⟩
  have B3 := Aside0.mk hb3
  clear hb3
  go_wp2_with fail
  rw [rounds_succ]
  go_wp2_with fail
  refine (muldiv_c ha.out hb'.out hc.out h2 _).mono ?_
  rintro e w4 ⟨rfl, hb4⟩
  have B4 := Aside0.mk hb4
  clear hb4
  go_wp2_with fail
  rw [rounds_succ]
  go_wp2_with fail
  refine (muldiv_c ha.out hb.out hc'.out h3 _).mono ?_
  rintro e w5 ⟨rfl, hb5⟩
  have B5 := Aside0.mk hb5
  clear hb5
  go_wp2_with fail
  rw [rounds_succ]
  go_wp2_with fail
  refine (muldiv_c hb.out ha.out hc.out h4 _).mono ?_
  rintro e w6 ⟨rfl, hb6⟩
  have B6 := Aside0.mk hb6
  clear hb6
  go_wp2_with fail
  go_ret
  have C1 := B1.out
  have C2 := below_then C1 C1.size B2.out
  have C3 := below_then (below_alloc C2 _) (below_alloc C2 _).size B3.out
  have C4 := below_then (below_alloc C3 _) (below_alloc C3 _).size B4.out
  have C5 := below_then (below_alloc C4 _) (below_alloc C4 _).size B5.out
  have C6 := below_then C5 C5.size B6.out
  exact ⟨rfl, C6⟩
set_option maxRecDepth 100000 in
set_option maxHeartbeats 4000000 in
theorem signs_out (a b c : Int) (h : a = -9223372036854775808 ∨ b = -9223372036854775808 ∨ c = -9223372036854775808) (w : World) :
    Calls Try.prog 4 #[.int .i64 a, .int .i64 b, .int .i64 c] w fun e w' => e = .returned (.bool true) ∧ Below w.heap.size w w' := by
  by_cases h1 : a = -9223372036854775808
  · have q1 : (a == -9223372036854775808) = true := beq_iff_eq.2 h1
    clear h h1
    go_enter Try.func4, Try.ntmps4
    go_wp2_with fail
    refine (alive_c _).mono ?_
    rintro e w1 ⟨rfl, hb1⟩
    have B1 := Aside0.mk hb1
    clear hb1
    go_wp2_with fail
    go_ret
    exact ⟨rfl, B1.out⟩
  · have q1 : (a == -9223372036854775808) = false := beq_eq_false_iff_ne.2 h1
    by_cases h2 : b = -9223372036854775808
    · have q2 : (b == -9223372036854775808) = true := beq_iff_eq.2 h2
      clear h h1 h2
      go_enter Try.func4, Try.ntmps4
      go_wp2_with fail
      refine (alive_c _).mono ?_
      rintro e w1 ⟨rfl, hb1⟩
      have B1 := Aside0.mk hb1
      clear hb1
      go_wp2_with fail
      go_ret
      exact ⟨rfl, B1.out⟩
    · have q2 : (b == -9223372036854775808) = false := beq_eq_false_iff_ne.2 h2
      have q3 : (c == -9223372036854775808) = true := beq_iff_eq.2 (by omega)
      clear h h1 h2
      go_enter Try.func4, Try.ntmps4
      go_wp2_with fail
      refine (alive_c _).mono ?_
      rintro e w1 ⟨rfl, hb1⟩
      have B1 := Aside0.mk hb1
      clear hb1
      go_wp2_with fail
      go_ret
      exact ⟨rfl, B1.out⟩
theorem absI_neg (a : Int) : absI (-a) = absI a := by unfold absI; split <;> split <;> omega
theorem near0 {d : Int} (h : 0 < d) : nearest 0 d = 0 := by unfold nearest; exact Int.ediv_eq_zero_of_lt (by omega) (by omega)
theorem mulD_flip {a b c a' b' c' : Int} (h1 : absI a' = absI a) (h2 : absI b' = absI b) (h3 : absI c' = absI c) (hz : c' = 0 ↔ c = 0) (hs : mulDneg a' b' c' = !(mulDneg a b c) ∨ absI a * absI b = 0) : mulD a' b' c' = (-(mulD a b c).1, (mulD a b c).2) := by
  unfold mulD
  rw [h1, h2, h3]
  by_cases c0 : c = 0
  · rw [if_pos c0, if_pos (hz.2 c0)]; rfl
  · rw [if_neg c0, if_neg (fun z => c0 (hz.1 z))]
    by_cases c1 : nearest (absI a * absI b) (absI c) > 2147483647
    · rw [if_pos c1, if_pos c1]; rfl
    · rw [if_neg c1, if_neg c1]
      rcases hs with hs | hs
      · rw [hs]
        cases mulDneg a b c <;> simp
      · rw [hs, near0 (by unfold absI; split <;> omega)]
        split <;> split <;> rfl
theorem dec_neg {a : Int} (h : a ≠ 0) : decide (-a < 0) = !(decide (a < 0)) := by
  by_cases h1 : a < 0
  · rw [decide_eq_true h1, decide_eq_false (by omega)]; rfl
  · rw [decide_eq_false h1, decide_eq_true (by omega)]; rfl
theorem mulD_negA (a b c : Int) : mulD (-a) b c = (-(mulD a b c).1, (mulD a b c).2) := by
  refine mulD_flip (absI_neg a) rfl rfl Iff.rfl ?_
  by_cases h : a = 0
  · right; subst h; simp [absI]
  · left; unfold mulDneg; rw [dec_neg h]; cases decide (a < 0) <;> cases decide (b < 0) <;> cases decide (c < 0) <;> rfl
theorem mulD_negB (a b c : Int) : mulD a (-b) c = (-(mulD a b c).1, (mulD a b c).2) := by
  refine mulD_flip rfl (absI_neg b) rfl Iff.rfl ?_
  by_cases h : b = 0
  · right; subst h; simp [absI]
  · left; unfold mulDneg; rw [dec_neg h]; cases decide (a < 0) <;> cases decide (b < 0) <;> cases decide (c < 0) <;> rfl
theorem mulD_negC (a b c : Int) : mulD a b (-c) = (-(mulD a b c).1, (mulD a b c).2) := by
  by_cases h : c = 0
  · subst h; rfl
  · refine mulD_flip rfl rfl (absI_neg c) (by omega) (.inl ?_)
    unfold mulDneg; rw [dec_neg h]; cases decide (a < 0) <;> cases decide (b < 0) <;> cases decide (c < 0) <;> rfl
theorem mulD_comm (a b c : Int) : mulD b a c = mulD a b c := by
  have : mulDneg b a c = mulDneg a b c := by unfold mulDneg; cases decide (a < 0) <;> cases decide (b < 0) <;> rfl
  unfold mulD; rw [this, Int.mul_comm (absI b)]
theorem mulD_range (a b c : Int) : -9223372036854775807 ≤ (mulD a b c).1 ∧ (mulD a b c).1 ≤ 9223372036854775807 := by
  unfold mulD
  split
  · exact ⟨by simp, by simp⟩
  · rename_i hz
    have q0 : 0 ≤ nearest (absI a * absI b) (absI c) := nearest_nonneg (Int.mul_nonneg (absI_nonneg a) (absI_nonneg b)) (by unfold absI; split <;> omega)
    split
    · exact ⟨by simp, by simp⟩
    · split
      · exact ⟨by simp only; omega, by simp only; omega⟩
      · exact ⟨by simp only; omega, by simp only; omega⟩
theorem signs_law (a b c : Int) (w : World) (wa : (Lit.int .i64 a).wf = true) (wb : (Lit.int .i64 b).wf = true) (wc : (Lit.int .i64 c).wf = true) :
    Calls Try.prog 4 #[.int .i64 a, .int .i64 b, .int .i64 c] w fun e w' => e = .returned (.bool true) ∧ Below w.heap.size w w' := by
  have ha := i64_of_wf wa; have hb := i64_of_wf wb; have hc := i64_of_wf wc
  have ha1 := ha.1; have ha2 := ha.2; have hb1 := hb.1; have hb2 := hb.2; have hc1 := hc.1; have hc2 := hc.2
  by_cases h : a = -9223372036854775808 ∨ b = -9223372036854775808 ∨ c = -9223372036854775808
  · exact signs_out a b c h w
  · have r := mulD_range a b c
    exact signs_walk a b c (mulD a b c).1 (mulD a b c).2 (beq_eq_false_iff_ne.2 (by omega)) (beq_eq_false_iff_ne.2 (by omega)) (beq_eq_false_iff_ne.2 (by omega)) ⟨ha⟩ ⟨hb⟩ ⟨hc⟩ ⟨by unfold I64; omega⟩ ⟨by unfold I64; omega⟩ ⟨by unfold I64; omega⟩ ⟨rfl⟩ ⟨mulD_negA a b c⟩ ⟨mulD_negB a b c⟩ ⟨mulD_negC a b c⟩ ⟨mulD_comm a b c⟩ (by omega) (by omega) (by omega) r w
end Go.Proofs.Ytbeegagnlcglcaa.X
