import Derived.Test.YtonljpciadeafaaSxPA
import Derived.Test.YtonljpciadeafaaMtPDS
set_option linter.unusedVariables false
set_option linter.unusedSimpArgs false
namespace Go.Proofs.Ytonljpciadeafaa.S
open Go Go.RowKit Go.Proofs.YtonljpciadeafaaW.PrintWords Go.Proofs.YtonljpciadeafaaW.PrintLast Go.Proofs.YtonljpciadeafaaW.PrintMore
theorem ja {x : Int} (h0 : -9223372036854775808 ≤ x) (h1 : x < 9223372036854775808) : wrap64 x = x := by
  unfold wrap64
  first | (simp only [IntKind.wrap]; omega) | omega
def w2 (x : Int) : List Int := [x / 256, x % 256]
def w4 (x : Int) : List Int := [x / 256 / 256 / 256, x / 256 / 256 % 256, x / 256 % 256, x % 256]
def s2 (x : Int) : List Int := w2 (if x < 0 then x + 65536 else x)
theorem Zd (k : Nat) (x : Int) (xs : List Int) (j : Int) (h0 : 0 ≤ x) (h1 : x < 1099511627776) (j0 : 0 ≤ j) (hj : j < xs.length) (hl : xs.length ≤ 1000) :
    qm.l0 (k + 1) x xs j = qm.l0 k (x / 256) (xs.set j.toNat (x % 256)) (j - 1) := by
  show (if j ≥ 0 then _ else _) = _
  have e1 : wrap64 (x / 256) = x / 256 := ja (by omega) (by omega)
  have e2 : wrap64 (j - 1) = j - 1 := ja (by omega) (by omega)
  have e3 : x % 256 % 256 = x % 256 := by omega
  rw [if_pos j0, if_pos j0, if_pos hj, Int.tdiv_eq_ediv_of_nonneg h0, Int.tmod_eq_emod_of_nonneg h0, e1, e2, e3]
theorem big_end (k : Nat) (x : Int) (xs : List Int) : qm.l0 (k + 1) x xs (-1) = some xs := rfl
theorem big2 (k : Nat) (x : Int) (h0 : 0 ≤ x) (h1 : x < 65536) : qm.f (k + 3) x 2 = some (w2 x) := by
  show qm.l0 (k + 3) x [0, 0] (wrap64 (2 - 1)) = _
  rw [ja (by decide) (by decide), Zd _ _ _ _ h0 (by omega) (by decide) (by decide) (by decide), Zd _ _ _ _ (by omega) (by omega) (by decide) (by simp) (by simp)]
  show some [x / 256 % 256, x % 256] = some [x / 256, x % 256]
  rw [Int.emod_eq_of_lt (by omega) (by omega)]
theorem big_f4 (k : Nat) (x : Int) : qm.f k x 4 = qm.l0 k x [0, 0, 0, 0] 3 := by
  unfold qm.f
  have e1 : wrap64 (4 - 1) = 3 := ja (by decide) (by decide)
  have e2 : List.replicate (Int.toNat 4) (0 : Int) = [0, 0, 0, 0] := rfl
  rw [if_pos (by decide), if_pos (by decide), e1, e2]
theorem big4 (k : Nat) (x : Int) (h0 : 0 ≤ x) (h1 : x < 4294967296) : qm.f (k + 5) x 4 = some (w4 x) := by
  have y0 : 0 ≤ x / 256 ∧ x / 256 < 16777216 := by omega
  obtain ⟨y, hy⟩ : ∃ y, x / 256 = y := ⟨_, rfl⟩
  have e4 : w4 x = [y / 256 / 256, y / 256 % 256, y % 256, x % 256] := by unfold w4; rw [hy]
  rw [hy] at y0
  have z0 : 0 ≤ y / 256 ∧ y / 256 < 65536 := by omega
  obtain ⟨z, hz⟩ : ∃ z, y / 256 = z := ⟨_, rfl⟩
  rw [hz] at z0 e4
  have u0 : 0 ≤ z / 256 ∧ z / 256 < 256 := by omega
  obtain ⟨u, hu⟩ : ∃ u, z / 256 = u := ⟨_, rfl⟩
  rw [hu] at u0 e4
  have a1 := Zd (k + 4) x [0, 0, 0, 0] 3 h0 (by omega) (by decide) (by simp) (by simp)
  have a2 := Zd (k + 3) y [0, 0, 0, x % 256] 2 y0.1 (by omega) (by decide) (by simp) (by simp)
  have a3 := Zd (k + 2) z [0, 0, y % 256, x % 256] 1 z0.1 (by omega) (by decide) (by simp) (by simp)
  have a4 := Zd (k + 1) u [0, z % 256, y % 256, x % 256] 0 u0.1 (by omega) (by decide) (by simp) (by simp)
  rw [hy] at a1
  rw [hz] at a2
  rw [hu] at a3
  have t3 : u % 256 = u := by omega
  rw [t3] at a4
  rw [big_f4, e4]
  refine a1.trans (a2.trans (a3.trans (a4.trans ?_)))
  exact big_end k _ _
theorem num_w2 (x : Int) : Qc (w2 x) = x := by
  show (0 * 256 + x / 256) * 256 + x % 256 = x
  omega
theorem num_w4 (x : Int) (h0 : 0 ≤ x) (h1 : x < 4294967296) : Qc (w4 x) = x := by
  show (((0 * 256 + x / 256 / 256 / 256) * 256 + x / 256 / 256 % 256) * 256 + x / 256 % 256) * 256 + x % 256 = x
  omega
theorem sgn_s2 (x : Int) (h0 : -32768 ≤ x) (h1 : x ≤ 32767) : jK (Qc (s2 x)) = x := by
  unfold s2
  rw [num_w2]
  unfold jK
  split <;> split <;> omega
theorem ok_w2 (x : Int) (h0 : 0 ≤ x) (h1 : x < 65536) : okB (w2 x) := by
  intro y hy
  simp only [w2, List.mem_cons, List.not_mem_nil, or_false] at hy
  rcases hy with rfl | rfl <;> omega
theorem ok_w4 (x : Int) (h0 : 0 ≤ x) (h1 : x < 4294967296) : okB (w4 x) := by
  intro y hy
  simp only [w4, List.mem_cons, List.not_mem_nil, or_false] at hy
  rcases hy with rfl | rfl | rfl | rfl <;> omega
theorem ok_s2 (x : Int) (h0 : -32768 ≤ x) (h1 : x < 65536) : okB (s2 x) := by
  unfold s2
  split
  · exact ok_w2 _ (by omega) (by omega)
  · exact ok_w2 _ (by omega) (by omega)
theorem Zt (k : Nat) (out xs : List Int) (i : Nat) (hi : i < xs.length) (h0 : -32768 ≤ rd xs (i : Int)) (h1 : rd xs (i : Int) < 65536) (hl : out.length ≤ 1000) (hx : xs.length ≤ 1000) :
    qy.l0 (k + 4) out xs (xs.length : Int) (i : Int) = qy.l0 (k + 3) (out ++ s2 (rd xs (i : Int))) xs (xs.length : Int) ((i : Int) + 1) := by
  show (if (i : Int) < (xs.length : Int) then _ else _) = _
  rw [if_pos (by omega), if_pos (by omega), if_pos (by omega)]
  have wi : wrap64 ((i : Int) + 1) = (i : Int) + 1 := ja (by omega) (by omega)
  unfold s2
  by_cases c : rd xs (i : Int) < 0
  · rw [if_pos c, if_pos c, ja (by omega) (by omega), Int.tmod_eq_emod_of_nonneg (by omega), Int.emod_eq_of_lt (by omega) (by omega), big2 k _ (by omega) (by omega)]
    show (if out.length + 2 < 140737488355328 then _ else _) = _
    rw [if_pos (by omega), wi]
  · rw [if_neg c, if_neg c, Int.tmod_eq_emod_of_nonneg (by omega), Int.emod_eq_of_lt (by omega) (by omega), big2 k _ (by omega) (by omega)]
    show (if out.length + 2 < 140737488355328 then _ else _) = _
    rw [if_pos (by omega), wi]
theorem two_end (k : Nat) (out xs : List Int) (i : Int) (h : ¬ i < (xs.length : Int)) : qy.l0 (k + 1) out xs (xs.length : Int) i = some out := by
  show (if i < (xs.length : Int) then _ else _) = _
  rw [if_neg h]
theorem two2 (k : Nat) (x y : Int) (h0 : -32768 ≤ x) (h1 : x < 65536) (g0 : -32768 ≤ y) (g1 : y < 65536) : qy.f (k + 6) [x, y] = some (s2 x ++ s2 y) := by
  show qy.l0 (k + 6) [] [x, y] (([x, y] : List Int).length : Int) ((0 : Nat) : Int) = _
  rw [Zt (k + 2) [] [x, y] 0 (by simp) h0 h1 (by decide) (by simp)]
  show qy.l0 (k + 5) _ [x, y] (([x, y] : List Int).length : Int) ((1 : Nat) : Int) = _
  rw [Zt (k + 1) _ [x, y] 1 (by simp) g0 g1 (by simp [s2, w2]) (by simp)]
  rw [show k + 1 + 3 = (k + 3) + 1 from rfl, two_end (k + 3) _ [x, y] _ (by simp)]
  rfl
theorem two3 (k : Nat) (x y z : Int) (h0 : -32768 ≤ x) (h1 : x < 65536) (g0 : -32768 ≤ y) (g1 : y < 65536) (f0 : -32768 ≤ z) (f1 : z < 65536) : qy.f (k + 7) [x, y, z] = some (s2 x ++ s2 y ++ s2 z) := by
  show qy.l0 (k + 7) [] [x, y, z] (([x, y, z] : List Int).length : Int) ((0 : Nat) : Int) = _
  rw [Zt (k + 3) [] [x, y, z] 0 (by simp) h0 h1 (by decide) (by simp)]
  show qy.l0 (k + 6) _ [x, y, z] (([x, y, z] : List Int).length : Int) ((1 : Nat) : Int) = _
  rw [Zt (k + 2) _ [x, y, z] 1 (by simp) g0 g1 (by simp [s2, w2]) (by simp)]
  show qy.l0 (k + 5) _ [x, y, z] (([x, y, z] : List Int).length : Int) ((2 : Nat) : Int) = _
  rw [Zt (k + 1) _ [x, y, z] 2 (by simp) f0 f1 (by simp [s2, w2]) (by simp)]
  rw [show k + 1 + 3 = (k + 3) + 1 from rfl, two_end (k + 3) _ [x, y, z] _ (by simp)]
  rfl
theorem part_at {bs A X B : List Int} (h : bs = A ++ X ++ B) {p n : Int} (hp : p = (A.length : Int)) (hn : n = (X.length : Int)) : ze bs p n = (X, 0) := by
  subst h hp hn
  unfold ze
  rw [if_neg (by simp only [List.length_append]; omega)]
  have e1 : ((A.length : Int) + (X.length : Int)).toNat = (A ++ X).length := by rw [List.length_append]; omega
  rw [e1, Int.toNat_natCast, List.append_assoc, ← List.append_assoc, List.take_left', List.drop_left']
  · rfl
  · rfl
theorem num_at {bs A X B : List Int} (h : bs = A ++ X ++ B) {p n : Int} (hp : p = (A.length : Int)) (hn : n = (X.length : Int)) : qI bs p n = (Qc X, 0) := by
  unfold qI
  rw [part_at h hp hn]
theorem str_bytes (t : ByteArray) : strOfNums (bytesOf t) = t := by
  cases t with | mk d =>
  have e : ((fun n : Int => UInt8.ofNat n.toNat) ∘ fun b : UInt8 => (b.toNat : Int)) = id := by
    funext b
    simp
  simp [strOfNums, bytesOf, e]
end Go.Proofs.Ytonljpciadeafaa.S
