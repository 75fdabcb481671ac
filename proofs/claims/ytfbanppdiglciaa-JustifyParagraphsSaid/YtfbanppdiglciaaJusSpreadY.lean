/- The glue's shares in plain numbers: differences of running floors. -/
import Derived.Test.YtfbanppdiglciaaYx0
import Derived.Test.YtfbanppdiglciaaYx12
import Derived.Test.YtfbanppdiglciaaJusShareY
set_option linter.unusedVariables false
set_option linter.unusedSimpArgs false
namespace Go.Proofs.Ytfbanppdiglciaa.Y
open Go Go.RowKit Go.Proofs.YtfbanppdiglciaaW.PrintWords Go.Proofs.YtfbanppdiglciaaW.PrintLast Go.Proofs.YtfbanppdiglciaaW.PrintMore

/-- What glue gives: its stretch or its shrink. -/
def gvs (b : Bool) (x : S31) : Int := if b = true then x.f2 else x.f3
/-- What the glue of a row gives in all. -/
def gvAll (b : Bool) : List S31 → Int
  | [] => 0
  | x :: r => (if x.f0 = 2 then gvs b x else 0) + gvAll b r
/-- The row with the glue's shares. -/
def spP (d whole : Int) (b : Bool) : List S31 → List Int → Int → List Int
  | [], zs, _ => zs
  | _ :: _, [], _ => []
  | x :: r, z :: zs, dn => if x.f0 = 2 then (z + (d * (dn + gvs b x) / whole - d * dn / whole)) :: spP d whole b r zs (dn + gvs b x) else z :: spP d whole b r zs dn
theorem gvAll_nn (b : Bool) : ∀ (J : List S31), (∀ x ∈ J, 0 ≤ x.f2 ∧ 0 ≤ x.f3) → 0 ≤ gvAll b J
  | [], _ => by simp [gvAll]
  | x :: r, h => by
    have h1 := gvAll_nn b r (fun y hy => h y (by simp [hy]))
    have h2 := h x (by simp)
    unfold gvAll gvs
    repeat' split
    all_goals omega
theorem floor_bd {d part whole : Int} (d0 : -1152921504606846976 ≤ d) (d1 : d ≤ 1152921504606846976) (p0 : 0 ≤ part) (p1 : part ≤ whole) (w0 : 0 < whole) : -1152921504606846976 ≤ d * part / whole ∧ d * part / whole ≤ 1152921504606846976 := by
  by_cases h : d < 0
  · have q := quot_le (n := -d) (by omega) p0 p1 w0
    have f := neg_floor (n := -d * part) w0
    have m := Int.mul_ediv_add_emod (-d * part) whole
    have n0 : d * part ≤ 0 := Int.mul_nonpos_of_nonpos_of_nonneg (by omega) p0
    have n1 : d * part ≥ -1152921504606846976 * whole := by
      have a := Int.mul_le_mul_of_nonneg_right d0 p0
      have c := Int.mul_le_mul_of_nonneg_left p1 (show (0 : Int) ≤ 1152921504606846976 by omega)
      omega
    exact ⟨Int.le_ediv_of_mul_le w0 (by omega), by have := Int.ediv_le_ediv w0 n0; simp at this; omega⟩
  · have q := quot_le (n := d) (by omega) p0 p1 w0
    omega
theorem spL_ev {d whole : Int} {b : Bool} (d0 : -1152921504606846976 ≤ d) (d1 : d ≤ 1152921504606846976) (w0 : 0 < whole) (w1 : whole ≤ 1152921504606846976) : ∀ (J : List S31) (zs : List Int) (dn : Int), J.length ≤ zs.length → 0 ≤ dn → dn + gvAll b J ≤ whole →
    (∀ x ∈ J, 0 ≤ x.f2 ∧ 0 ≤ x.f3) → (∀ z ∈ zs, -4294967296 ≤ z ∧ z ≤ 4294967296) → Ev (fun k => spL k d whole b J zs dn (d * dn / whole)) (spP d whole b J zs dn)
  | [], zs, dn, _, _, _, _, _ => ⟨0, fun k _ => by simp only [spL, spP]⟩
  | x :: r, [], dn, hl, _, _, _, _ => by simp at hl
  | x :: r, z :: zs, dn, hl, h0, h1, hx, hz => by
    have hr := gvAll_nn b r (fun y hy => hx y (by simp [hy]))
    have hx0 := hx x (by simp)
    have hz0 := hz z (by simp)
    simp only [spL, spP]
    by_cases c : x.f0 = 2
    · simp only [if_pos c]
      have g0 : 0 ≤ gvs b x := by unfold gvs; split <;> omega
      have h1' : dn + gvs b x + gvAll b r ≤ whole := by unfold gvAll at h1; rw [if_pos c] at h1; omega
      have e : wrap64 (dn + (if b = true then x.f2 else x.f3)) = dn + gvs b x := wrap64_in' (by unfold gvs at *; omega) (by unfold gvs at *; omega)
      rw [e]
      refine Ev.bind (share_ev (by omega) (by omega) (by omega) (by omega) w0 (by omega)) ?_
      have b0 := floor_bd d0 d1 h0 (by omega) w0
      have b1 := floor_bd (part := dn + gvs b x) d0 d1 (by omega) (by omega) w0
      generalize hA : d * (dn + gvs b x) / whole = A at *
      generalize hB : d * dn / whole = B at *
      rw [show wrap64 (A - B) = A - B from wrap64_in' (by omega) (by omega), show wrap64 (B + (A - B)) = A by rw [wrap64_in' (by omega) (by omega)]; omega, show wrap64 (z + (A - B)) = z + (A - B) from wrap64_in' (by omega) (by omega)]
      have ih := spL_ev d0 d1 w0 w1 r zs (dn + gvs b x) (by simp at hl; omega) (by omega) h1' (fun y hy => hx y (by simp [hy])) (fun y hy => hz y (by simp [hy]))
      rw [hA] at ih
      exact Ev.bind ih ⟨0, fun _ _ => rfl⟩
    · simp only [if_neg c]
      have h1' : dn + gvAll b r ≤ whole := by
        unfold gvAll at h1; rw [if_neg c] at h1; omega
      have ih := spL_ev d0 d1 w0 w1 r zs dn (by simp at hl; omega) h0 h1' (fun y hy => hx y (by simp [hy])) (fun y hy => hz y (by simp [hy]))
      exact Ev.bind ih ⟨0, fun _ _ => rfl⟩
theorem spP_len {d whole : Int} {b : Bool} : ∀ (J : List S31) (zs : List Int) (dn : Int), J.length ≤ zs.length → (spP d whole b J zs dn).length = zs.length
  | [], zs, dn, _ => by simp only [spP]
  | x :: r, [], dn, hl => by simp at hl
  | x :: r, z :: zs, dn, hl => by
    simp only [spP]
    split
    · simp only [List.length_cons]; rw [spP_len r zs _ (by simp at hl; omega)]
    · simp only [List.length_cons]; rw [spP_len r zs _ (by simp at hl; omega)]
/-- The shares sum up to the whole difference: the running floors telescope. -/
theorem spP_sum {d whole : Int} {b : Bool} : ∀ (J : List S31) (zs : List Int) (dn : Int), J.length ≤ zs.length → (spP d whole b J zs dn).sum = zs.sum + (d * (dn + gvAll b J) / whole - d * dn / whole)
  | [], zs, dn, _ => by simp [spP, gvAll]
  | x :: r, [], dn, hl => by simp at hl
  | x :: r, z :: zs, dn, hl => by
    unfold spP gvAll
    by_cases c : x.f0 = 2
    · rw [if_pos c, if_pos c, List.sum_cons, List.sum_cons, spP_sum r zs _ (by simp at hl; omega), Int.add_assoc dn]; omega
    · rw [if_neg c, if_neg c, List.sum_cons, List.sum_cons, spP_sum r zs _ (by simp at hl; omega), Int.zero_add]; omega
/-- Glue alone is changed. -/
theorem spP_keep {d whole : Int} {b : Bool} : ∀ (J : List S31) (zs : List Int) (dn : Int) (i : Nat), J.length ≤ zs.length → (∀ x, J[i]? = some x → x.f0 ≠ 2) → (spP d whole b J zs dn)[i]? = zs[i]?
  | [], zs, dn, i, _, _ => by simp only [spP]
  | x :: r, [], dn, i, hl, _ => by simp at hl
  | x :: r, z :: zs, dn, 0, hl, h => by
    have := h x (by simp)
    unfold spP
    rw [if_neg this]; rfl
  | x :: r, z :: zs, dn, i + 1, hl, h => by
    have ih := fun dn => spP_keep (d := d) (whole := whole) (b := b) r zs dn i (by simp at hl; omega) (fun y hy => h y (by simpa using hy))
    unfold spP
    split
    · simpa using ih _
    · simpa using ih _
/-- The row of a line with the glue's shares; whether it is set. -/
def spSP (d st sh : Int) (J : List S31) (zs : List Int) : List Int × Bool :=
  if d = 0 then (zs, true)
  else if d < 0 then (if sh = 0 ∨ sh < -d then (zs, false) else (spP d sh false J zs 0, true))
  else if st = 0 then (zs, false) else (spP d st true J zs 0, true)
theorem spS_ev {d st sh : Int} {J : List S31} {zs : List Int} (d0 : -1152921504606846976 ≤ d) (d1 : d ≤ 1152921504606846976) (hl : J.length ≤ zs.length) (hst : st = gvAll true J) (hsh : sh = gvAll false J) (s1 : st ≤ 1152921504606846976) (s2 : sh ≤ 1152921504606846976)
    (hx : ∀ x ∈ J, 0 ≤ x.f2 ∧ 0 ≤ x.f3) (hz : ∀ z ∈ zs, -4294967296 ≤ z ∧ z ≤ 4294967296) : Ev (fun k => spS k d st sh J zs) (spSP d st sh J zs) := by
  have g1 := gvAll_nn true J hx
  have g2 := gvAll_nn false J hx
  unfold spS spSP
  by_cases a : d = 0
  · simp only [if_pos a]; exact ⟨0, fun _ _ => rfl⟩
  simp only [if_neg a]
  by_cases n : d < 0
  · simp only [if_pos n, if_neg (show ¬ d < -9223372036854775807 by omega)]
    by_cases z : sh = 0
    · simp only [if_pos z, if_pos (Or.inl z : sh = 0 ∨ sh < -d)]; exact ⟨0, fun _ _ => rfl⟩
    simp only [if_neg z]
    by_cases y : sh < -d
    · simp only [if_pos y, if_pos (Or.inr y : sh = 0 ∨ sh < -d)]; exact ⟨0, fun _ _ => rfl⟩
    simp only [if_neg y, if_neg (show ¬ (sh = 0 ∨ sh < -d) by omega)]
    have h := spL_ev (b := false) d0 d1 (show 0 < sh by omega) s2 J zs 0 hl (by omega) (by omega) hx hz
    rw [Int.mul_zero, Int.zero_ediv] at h
    exact Ev.bind h ⟨0, fun _ _ => rfl⟩
  · simp only [if_neg n]
    by_cases z : st = 0
    · simp only [if_pos z]; exact ⟨0, fun _ _ => rfl⟩
    simp only [if_neg z]
    have h := spL_ev (b := true) d0 d1 (show 0 < st by omega) s1 J zs 0 hl (by omega) (by omega) hx hz
    rw [Int.mul_zero, Int.zero_ediv] at h
    exact Ev.bind h ⟨0, fun _ _ => rfl⟩
/-- A set row sums up to the line's own sum and the difference. -/
theorem spSP_sum {d st sh : Int} {J : List S31} {zs : List Int} (hl : J.length ≤ zs.length) (hst : st = gvAll true J) (hsh : sh = gvAll false J) (hx : ∀ x ∈ J, 0 ≤ x.f2 ∧ 0 ≤ x.f3) (h : (spSP d st sh J zs).2 = true) : (spSP d st sh J zs).1.sum = zs.sum + d := by
  have g1 := gvAll_nn true J hx
  have g2 := gvAll_nn false J hx
  unfold spSP at h ⊢
  by_cases a : d = 0
  · simp only [if_pos a]; omega
  simp only [if_neg a] at h ⊢
  by_cases n : d < 0
  · simp only [if_pos n] at h ⊢
    by_cases z : sh = 0 ∨ sh < -d
    · simp [if_pos z] at h
    simp only [if_neg z]
    rw [spP_sum J zs 0 hl, Int.zero_add, ← hsh, Int.mul_ediv_cancel _ (by omega)]; simp
  · simp only [if_neg n] at h ⊢
    by_cases z : st = 0
    · simp [if_pos z] at h
    simp only [if_neg z]
    rw [spP_sum J zs 0 hl, Int.zero_add, ← hst, Int.mul_ediv_cancel _ (by omega)]; simp
end Go.Proofs.Ytfbanppdiglciaa.Y
