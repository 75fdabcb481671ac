/- The reference's Down is the floor of d * part / whole, for either sign of d. -/
import Derived.Test.YtfbanppdiglciaaJusLongY
import Derived.Test.YtfbanppdiglciaaJusShareY
import Derived.Test.YtfbanppdiglciaaYx24
set_option linter.unusedVariables false
set_option linter.unusedSimpArgs false
namespace Go.Proofs.Ytfbanppdiglciaa.Y
open Go Go.RowKit Go.Proofs.YtfbanppdiglciaaW.PrintWords Go.Proofs.YtfbanppdiglciaaW.PrintLast Go.Proofs.YtfbanppdiglciaaW.PrintMore

theorem prod_bd {n m : Int} (n0 : 0 ≤ n) (n1 : n ≤ 4611686018427387904) (m0 : 0 ≤ m) (m1 : m ≤ 4611686018427387904) : 0 ≤ n * m ∧ n * m ≤ 21267647932558653966460912964485513216 := by
  refine ⟨Int.mul_nonneg n0 m0, ?_⟩
  have := Int.mul_le_mul n1 m1 m0 (show (0 : Int) ≤ 4611686018427387904 by omega)
  omega
theorem absI_nn {n : Int} (h : 0 ≤ n) : absI n = n := by unfold absI; rw [if_neg (by omega)]
theorem down_l0 {d part whole : Int} (d0 : 0 ≤ d) (d1 : d ≤ 2305843009213693952) (p0 : 0 ≤ part) (p1 : part ≤ whole) (w0 : 0 < whole) (w1 : whole ≤ 2305843009213693952) : ∀ (n : Nat) (lo hi : Int), (hi - lo).toNat = n → 0 ≤ lo → lo < hi → hi ≤ d + 1 → lo * whole ≤ d * part → d * part < hi * whole →
    Ev (fun k => serifref20_Down.l0 k d part whole lo hi) (d * part / whole) := by
  intro n
  induction n using Nat.strongRecOn with
  | ind n ih =>
    intro lo hi hn l0 lh h1 h2 h3
    have pb := prod_bd d0 (by omega) p0 (by omega)
    by_cases c : hi - lo > 1
    · have md : Int.tdiv (hi - lo) 2 = (hi - lo) / 2 := Int.tdiv_eq_ediv_of_nonneg (by omega)
      have e1 : wrap64 (hi - lo) = hi - lo := wrap64_in' (by omega) (by omega)
      have e2 : wrap64 ((hi - lo) / 2) = (hi - lo) / 2 := wrap64_in' (by omega) (by omega)
      have e3 : wrap64 (lo + (hi - lo) / 2) = lo + (hi - lo) / 2 := wrap64_in' (by omega) (by omega)
      have m0 : 0 ≤ lo + (hi - lo) / 2 := by omega
      have m1 : lo + (hi - lo) / 2 < hi := by omega
      have m2 : lo < lo + (hi - lo) / 2 := by omega
      generalize hm : lo + (hi - lo) / 2 = mid at *
      have qb := prod_bd m0 (show mid ≤ 4611686018427387904 by omega) (show 0 ≤ whole by omega) (by omega)
      refine Ev.step (f := fun k => if d * part < mid * whole then serifref20_Down.l0 k d part whole lo mid else serifref20_Down.l0 k d part whole mid hi) (fun k => ?_) ?_
      · simp only [serifref20_Down.l0]
        rw [e1, md, e2, hm, e3, if_pos c, sizeD (n := d) (by unfold I64; omega), sizeD (n := part) (by unfold I64; omega), sizeD (n := mid) (by unfold I64; omega), sizeD (n := whole) (by unfold I64; omega), absI_nn d0, absI_nn p0, absI_nn m0, absI_nn (show 0 ≤ whole by omega)]
        simp only [Option.bind_some]
        rw [timesD d0 (by omega) p0 (by omega)]
        simp only [Option.bind_some]
        rw [timesD m0 (by omega) (by omega) (by omega)]
        simp only [Option.bind_some]
        rw [underD pb.1 (by omega) qb.1 (by omega)]
        simp only [Option.bind_some, decide_eq_true_eq]
      · by_cases u : d * part < mid * whole
        · simp only [if_pos u]
          exact ih (mid - lo).toNat (by omega) lo mid rfl l0 m2 (by omega) h2 u
        · simp only [if_neg u]
          exact ih (hi - mid).toNat (by omega) mid hi rfl m0 m1 h1 (by omega) h3
    · have eh : hi = lo + 1 := by omega
      subst eh
      have q : d * part / whole = lo := by
        rw [Int.add_mul] at h3
        have := Int.ediv_emod_unique (a := d * part) (b := whole) (r := d * part - whole * lo) (q := lo) w0
        exact (this.2 ⟨by omega, by rw [Int.mul_comm whole lo]; omega, by rw [Int.mul_comm whole lo]; omega⟩).1
      rw [q]
      refine Ev.intro 1 fun k => ?_
      simp only [serifref20_Down.l0]
      rw [show lo + 1 - lo = 1 by omega, wrap64_in' (n := 1) (by omega) (by omega), if_neg (by omega)]
theorem down_nn {d part whole : Int} (d0 : 0 ≤ d) (d1 : d ≤ 2305843009213693951) (p0 : 0 ≤ part) (p1 : part ≤ whole) (w0 : 0 < whole) (w1 : whole ≤ 2305843009213693952) :
    Ev (fun k => serifref20_Down.f k d part whole) (d * part / whole) := by
  refine Ev.step (f := fun k => serifref20_Down.l0 k d part whole 0 (d + 1)) (fun k => ?_) ?_
  · simp only [serifref20_Down.f]
    rw [if_neg (by omega), wrap64_in' (n := d + 1) (by omega) (by omega)]
  · refine down_l0 d0 (by omega) p0 p1 w0 w1 _ 0 (d + 1) rfl (by omega) (by omega) (by omega) ?_ ?_
    · rw [Int.zero_mul]; exact Int.mul_nonneg d0 p0
    · have := Int.mul_le_mul_of_nonneg_left p1 d0
      rw [Int.add_mul]; omega
theorem digs_ne {u v : Int} (h0 : 0 ≤ u) (h1 : u < 1461501637330902918203684832716283019655932542976) (g0 : 0 ≤ v) (g1 : v < 1461501637330902918203684832716283019655932542976) :
    ((!((digs u).1 == (digs v).1) || (!((digs u).2.1 == (digs v).2.1) || (!((digs u).2.2.1 == (digs v).2.2.1) || (!((digs u).2.2.2.1 == (digs v).2.2.2.1) || (!((digs u).2.2.2.2.1 == (digs v).2.2.2.2.1) || (!((digs u).2.2.2.2.2.1 == (digs v).2.2.2.2.2.1) || (!((digs u).2.2.2.2.2.2.1 == (digs v).2.2.2.2.2.2.1) || (!((digs u).2.2.2.2.2.2.2.1 == (digs v).2.2.2.2.2.2.2.1) || (!((digs u).2.2.2.2.2.2.2.2.1 == (digs v).2.2.2.2.2.2.2.2.1) || (!((digs u).2.2.2.2.2.2.2.2.2 == (digs v).2.2.2.2.2.2.2.2.2))))))))))) = true) ↔ u ≠ v := by
  constructor
  · intro h e
    subst e
    simp at h
  · intro h
    by_cases z : ((!((digs u).1 == (digs v).1) || (!((digs u).2.1 == (digs v).2.1) || (!((digs u).2.2.1 == (digs v).2.2.1) || (!((digs u).2.2.2.1 == (digs v).2.2.2.1) || (!((digs u).2.2.2.2.1 == (digs v).2.2.2.2.1) || (!((digs u).2.2.2.2.2.1 == (digs v).2.2.2.2.2.1) || (!((digs u).2.2.2.2.2.2.1 == (digs v).2.2.2.2.2.2.1) || (!((digs u).2.2.2.2.2.2.2.1 == (digs v).2.2.2.2.2.2.2.1) || (!((digs u).2.2.2.2.2.2.2.2.1 == (digs v).2.2.2.2.2.2.2.2.1) || (!((digs u).2.2.2.2.2.2.2.2.2 == (digs v).2.2.2.2.2.2.2.2.2))))))))))) = true)
    · exact z
    · exfalso
      simp only [Bool.or_eq_true, Bool.not_eq_true', beq_eq_false_iff_ne, ne_eq, not_or, Classical.not_not] at z
      obtain ⟨z0, z1, z2, z3, z4, z5, z6, z7, z8, z9⟩ := z
      have a := val10_digs h0 h1
      have b := val10_digs g0 g1
      rw [z0, z1, z2, z3, z4, z5, z6, z7, z8, z9] at a
      exact h (a.symm.trans b)
theorem down_ev {d part whole : Int} (d0 : -2305843009213693951 ≤ d) (d1 : d ≤ 2305843009213693951) (p0 : 0 ≤ part) (p1 : part ≤ whole) (w0 : 0 < whole) (w1 : whole ≤ 2305843009213693952) :
    Ev (fun k => serifref20_Down.f k d part whole) (d * part / whole) := by
  by_cases h : d < 0
  · have n := down_nn (d := -d) (by omega) (by omega) p0 p1 w0 w1
    have q := quot_le (n := -d) (by omega) p0 p1 w0
    have f := neg_floor (n := -d * part) w0
    have m := Int.mul_ediv_add_emod (-d * part) whole
    have r0 := Int.emod_nonneg (-d * part) (show whole ≠ 0 by omega)
    have pb := prod_bd (n := -d) (m := part) (by omega) (by omega) p0 (by omega)
    have qb := prod_bd (n := -d * part / whole) (m := whole) q.1 (by omega) (by omega) (by omega)
    rw [show -(-d * part) = d * part by rw [Int.neg_mul, Int.neg_neg]] at f
    rw [f]
    have hP : -d * part ≤ 21267647932558653966460912964485513216 := pb.2
    generalize hQ : -d * part / whole = Q at *
    generalize hR : -d * part % whole = R at *
    obtain ⟨K, hK⟩ := n
    replace hK : ∀ k, K ≤ k → serifref20_Down.f k (-d) part whole = some Q := hK
    refine ⟨K + 1, fun k hk => ?_⟩
    obtain ⟨k, rfl⟩ : ∃ m, k = m + 1 := ⟨k - 1, by omega⟩
    simp only [serifref20_Down.f]
    rw [if_pos h, wrap64_in' (n := -d) (by omega) (by omega), hK k (by omega)]
    simp only [Option.bind_some]
    rw [sizeD (n := Q) (by unfold I64; omega), sizeD (n := whole) (by unfold I64; omega), sizeD (n := -d) (by unfold I64; omega), sizeD (n := part) (by unfold I64; omega), absI_nn q.1, absI_nn (show 0 ≤ whole by omega), absI_nn (show 0 ≤ -d by omega), absI_nn p0]
    simp only [Option.bind_some]
    rw [timesD q.1 (by omega) (by omega) (by omega)]
    simp only [Option.bind_some]
    rw [timesD (show 0 ≤ -d by omega) (by omega) p0 (by omega)]
    simp only [Option.bind_some]
    have m' : Q * whole + R = -d * part := by rw [Int.mul_comm Q whole]; exact m
    by_cases r : R > 0
    · rw [if_pos ((digs_ne qb.1 (by omega) pb.1 (by omega)).2 (by omega)), if_pos r, wrap64_in' (n := Q + 1) (by omega) (by omega), wrap64_in' (by omega) (by omega)]
    · rw [if_neg (fun z => (digs_ne qb.1 (by omega) pb.1 (by omega)).1 z (by omega)), if_neg r, wrap64_in' (n := -Q) (by omega) (by omega)]
  · exact down_nn (by omega) d1 p0 p1 w0 w1
end Go.Proofs.Ytfbanppdiglciaa.Y
