import Derived.Test.YtfbanppdiglciaaXx0
import Derived.Test.YtfbanppdiglciaaXx10
import Derived.Test.YtfbanppdiglciaaXx13
import Derived.Test.YtfbanppdiglciaaXx22
import Derived.Test.YtfbanppdiglciaaXx23
import Derived.Test.YtfbanppdiglciaaXx7
import Derived.Test.YtfbanppdiglciaaXx8
import Derived.Test.YtfbanppdiglciaaXx9
import Derived.Test.YtfbanppdiglciaaOptB
set_option linter.unusedVariables false
set_option linter.unusedSimpArgs false
namespace Go.Proofs.Ytfbanppdiglciaa.X
open Go Go.RowKit Go.Proofs.YtfbanppdiglciaaW.PrintWords Go.Proofs.YtfbanppdiglciaaW.PrintLast Go.Proofs.YtfbanppdiglciaaW.PrintMore
def ZI (d m : Int) : Int := 100 * (256 * d / m) * (256 * d / m) * (256 * d / m) / 16777216
def fitV (L S H w : Int) : Int × Int × Bool :=
  if L = w then (0, 0, true)
  else if L > w then (if L - w > H then (0, 0, false) else (-((1000 * (L - w) + H - 1) / H), ZI (L - w) H, true))
  else (if S = 0 then (0, 0, false) else if 1000 * (w - L) / S > 10000 then (0, 0, false) else (1000 * (w - L) / S, ZI (w - L) S, true))
def jr (l : List S31) (a tt : Nat) (w : Int) : Int × Int × Bool := fitV (jq l a tt).1 (jq l a tt).2.1 (jq l a tt).2.2 w
theorem q_bd {d m : Int} (hd : 0 ≤ d) (hm : 0 < m) (h : 1000 * d / m ≤ 10000) : 0 ≤ 256 * d / m ∧ 256 * d / m ≤ 2560 := by
  refine ⟨Int.ediv_nonneg (by omega) (by omega), ?_⟩
  have h1 : 1000 * d < (1000 * d / m + 1) * m := Int.lt_ediv_add_one_mul_self _ hm
  have h2 : (1000 * d / m + 1) * m ≤ 10001 * m := Int.mul_le_mul_of_nonneg_right (by omega) (by omega)
  have h3 : 256 * d < 2561 * m := by omega
  have := Int.ediv_lt_of_lt_mul hm h3
  omega
theorem q3_bd {q : Int} (h0 : 0 ≤ q) (h1 : q ≤ 2560) : (0 ≤ 100 * q ∧ 100 * q ≤ 256000) ∧ (0 ≤ 100 * q * q ∧ 100 * q * q ≤ 655360000) ∧ (0 ≤ 100 * q * q * q ∧ 100 * q * q * q ≤ 1677721600000) := by
  have a1 : 0 ≤ 100 * q := by omega
  have a2 : 100 * q ≤ 256000 := by omega
  have b1 : 0 ≤ 100 * q * q := Int.mul_nonneg a1 h0
  have b2 : 100 * q * q ≤ 256000 * 2560 := Int.mul_le_mul a2 h1 h0 (by omega)
  have c1 : 0 ≤ 100 * q * q * q := Int.mul_nonneg b1 h0
  have c2 : 100 * q * q * q ≤ (256000 * 2560) * 2560 := Int.mul_le_mul b2 h1 h0 (by omega)
  omega
theorem bad_bd {d m : Int} (hd : 0 ≤ d) (hm : 0 < m) (h : 1000 * d / m ≤ 10000) : 0 ≤ ZI d m ∧ ZI d m ≤ 100000 := by
  obtain ⟨q0, q1⟩ := q_bd hd hm h
  obtain ⟨_, _, c1, c2⟩ := q3_bd q0 q1
  unfold ZI
  exact ⟨Int.ediv_nonneg c1 (by omega), by omega⟩
theorem le_m {d m : Int} (hd : 0 ≤ d) (hm : 0 < m) (h : d ≤ m) : 1000 * d / m ≤ 10000 := by
  have : 1000 * d < 10001 * m := by omega
  have := Int.ediv_lt_of_lt_mul hm this
  omega
theorem wq {d m : Int} (hd : 0 ≤ d) (hd1 : d ≤ 9000000000000) (hm : 0 < m) (h : 1000 * d / m ≤ 10000) : wrap64 (Int.tdiv (wrap64 (256 * d)) m) = 256 * d / m := by
  obtain ⟨q0, q1⟩ := q_bd hd hm h
  rw [w64 (n := 256 * d) (by omega) (by omega), Int.tdiv_eq_ediv_of_nonneg (by omega), w64 (by omega) (by omega)]
theorem wbad {d m : Int} (hd : 0 ≤ d) (hd1 : d ≤ 9000000000000) (hm : 0 < m) (h : 1000 * d / m ≤ 10000) :
    wrap64 ((wrap64 ((wrap64 (100 * (wrap64 (Int.tdiv (wrap64 (256 * d)) m)))) * (wrap64 (Int.tdiv (wrap64 (256 * d)) m)))) * (wrap64 (Int.tdiv (wrap64 (256 * d)) m))) = 100 * (256 * d / m) * (256 * d / m) * (256 * d / m) := by
  obtain ⟨q0, q1⟩ := q_bd hd hm h
  obtain ⟨⟨a1, a2⟩, ⟨b1, b2⟩, c1, c2⟩ := q3_bd q0 q1
  rw [wq hd hd1 hm h]
  generalize 256 * d / m = q at *
  rw [w64 (n := 100 * q) (by omega) (by omega), w64 (n := 100 * q * q) (by omega) (by omega), w64 (n := 100 * q * q * q) (by omega) (by omega)]
theorem wbadT {d m : Int} (hd : 0 ≤ d) (hd1 : d ≤ 9000000000000) (hm : 0 < m) (h : 1000 * d / m ≤ 10000) :
    wrap64 (Int.tdiv (wrap64 ((wrap64 ((wrap64 (100 * (wrap64 (Int.tdiv (wrap64 (256 * d)) m)))) * (wrap64 (Int.tdiv (wrap64 (256 * d)) m)))) * (wrap64 (Int.tdiv (wrap64 (256 * d)) m)))) 16777216) = ZI d m := by
  have b := bad_bd hd hm h
  obtain ⟨q0, q1⟩ := q_bd hd hm h
  obtain ⟨_, _, c1, c2⟩ := q3_bd q0 q1
  rw [wbad hd hd1 hm h, Int.tdiv_eq_ediv_of_nonneg (by omega), w64 (n := _ / 16777216) (by unfold ZI at b; omega) (by unfold ZI at b; omega)]
  rfl
theorem wr {d m : Int} (hd : 0 ≤ d) (hd1 : d ≤ 9000000000000) (hm : 0 < m) : wrap64 (Int.tdiv (wrap64 (1000 * d)) m) = 1000 * d / m := by
  have h0 : 0 ≤ 1000 * d / m := Int.ediv_nonneg (by omega) (by omega)
  have h1 : 1000 * d / m ≤ 1000 * d := Int.ediv_le_self _ (by omega)
  rw [w64 (n := 1000 * d) (by omega) (by omega), Int.tdiv_eq_ediv_of_nonneg (by omega), w64 (by omega) (by omega)]
theorem ceil_eq {x m : Int} (hm : 0 < m) : (x + m - 1) / m = if x % m = 0 then x / m else x / m + 1 := by
  have e := Int.mul_ediv_add_emod x m
  have r0 := Int.emod_nonneg x (show m ≠ 0 by omega)
  have r1 := Int.emod_lt_of_pos x hm
  have : x + m - 1 = (x % m + m - 1) + m * (x / m) := by omega
  rw [this, Int.add_mul_ediv_left _ _ (by omega)]
  split
  · rename_i c
    rw [c, Int.ediv_eq_zero_of_lt (by omega) (by omega)]; omega
  · rename_i c
    have : x % m + m - 1 = (x % m - 1) + m * 1 := by omega
    rw [this, Int.add_mul_ediv_left _ _ (by omega), Int.ediv_eq_zero_of_lt (by omega) (by omega)]; omega
theorem neg_bd {d m : Int} (hd : 0 ≤ d) (hm : 0 < m) (h : d ≤ m) : 0 ≤ (1000 * d + m - 1) / m ∧ (1000 * d + m - 1) / m ≤ 1001 := by
  refine ⟨Int.ediv_nonneg (by omega) (by omega), ?_⟩
  have : 1000 * d + m - 1 < 1002 * m := by omega
  have := Int.ediv_lt_of_lt_mul hm this
  omega
theorem Jm {L S H w : Int} (hL : 0 ≤ L) (hS : 0 ≤ S) (hH : 0 ≤ H) (h : (fitV L S H w).2.2 = true) : 0 ≤ (fitV L S H w).2.1 ∧ (fitV L S H w).2.1 ≤ 100000 := by
  unfold fitV at h ⊢
  split
  · simp
  · rename_i a
    rw [if_neg a] at h
    split
    · rename_i b
      rw [if_pos b] at h
      split
      · rename_i c; rw [if_pos c] at h; cases h
      · rename_i c; exact bad_bd (by omega) (by omega) (le_m (by omega) (by omega) (by omega))
    · rename_i b
      rw [if_neg b] at h
      split
      · rename_i c; rw [if_pos c] at h; cases h
      · rename_i c
        rw [if_neg c] at h
        split
        · rename_i d; rw [if_pos d] at h; cases h
        · rename_i d; exact bad_bd (by omega) (by omega) (by omega)
theorem ofit_j1s {d m w : Int} {s0 : List S31} {s1 : List S81} {s2 : List Int} (hd : 0 ≤ d) (hd1 : d ≤ 9000000000000) (hm : 0 < m) (k : Nat) :
    qK.j1 (k + 1) d m true s0 s1 s2 w = if 1000 * d / m > 10000 then some (0, 0, false, w) else some (1000 * d / m, ZI d m, true, w) := by
  simp only [qK.j1]
  rw [if_neg (by omega), if_pos trivial, wr hd hd1 hm]
  by_cases c : 1000 * d / m > 10000
  · rw [if_pos c, if_pos c]
  · rw [if_neg c, if_neg c, wbad hd hd1 hm (by omega)]; rfl
theorem ofit_j1n {d m w : Int} {s0 : List S31} {s1 : List S81} {s2 : List Int} (hd : 0 ≤ d) (hd1 : d ≤ 9000000000000) (hm : 0 < m) (hm1 : m ≤ 9000000000000) (h : d ≤ m) (k : Nat) :
    qK.j1 (k + 1) d m false s0 s1 s2 w = some (-((1000 * d + m - 1) / m), ZI d m, true, w) := by
  have b := neg_bd hd hm h
  simp only [qK.j1]
  rw [if_neg (by omega), if_neg (by simp), wbad hd hd1 hm (le_m hd hm h), w64 (n := 1000 * d) (by omega) (by omega), w64 (n := 1000 * d + m) (by omega) (by omega), w64 (n := 1000 * d + m - 1) (by omega) (by omega), Int.tdiv_eq_ediv_of_nonneg (by omega), w64 (n := (1000 * d + m - 1) / m) (by omega) (by omega), w64 (n := -((1000 * d + m - 1) / m)) (by omega) (by omega), if_neg (by omega)]; rfl
theorem ofit {l : List S31} {w t : Int} (F : jL l w t) {a tt : Nat} (h1 : a ≤ l.length) (h2 : tt ≤ l.length) :
    Ev (fun k => qK.f k l (zQ l) (zP l) w ((a : Int) - 1) (tt : Int)) ((jr l a tt w).1, (jr l a tt w).2.1, (jr l a tt w).2.2, w) := by
  have lb := QB F a h2
  have hw0 := F.w0
  have hw1 := F.w1
  refine Ev.intro 2 fun k => ?_
  unfold qK.f jr
  rw [oline F h1 h2]
  simp only [Option.bind_some]
  generalize (jq l a tt).1 = L at *
  generalize (jq l a tt).2.1 = S at *
  generalize (jq l a tt).2.2 = H at *
  rw [w64 (n := w - L) (by omega) (by omega), w64 (n := -(w - L)) (by omega) (by omega)]
  unfold fitV
  by_cases c : L = w
  · subst c
    rw [if_neg (by omega)]
    simp only [qK.j0, if_true]
    rw [if_pos (by omega)]
  · simp only [c, if_false]
    by_cases c1 : L > w
    · rw [if_pos (by omega), if_pos c1]
      simp only [qK.j0]
      rw [if_neg (by omega)]
      by_cases c2 : L - w > H
      · rw [if_pos c2]
        by_cases cH : H = 0
        · rw [if_pos cH]
        · rw [if_neg cH, if_neg (by omega), if_pos (show -(w - L) > H by omega)]
      · rw [if_neg c2, if_neg (by omega), if_neg (by omega), if_neg (by omega), decide_eq_false (by omega), ofit_j1n (by omega) (by omega) (by omega) (by omega) (by omega), show -(w - L) = L - w by omega]
    · rw [if_neg (by omega), if_neg c1]
      simp only [qK.j0]
      rw [if_neg (by omega)]
      by_cases c2 : S = 0
      · rw [if_pos c2, if_pos c2]
      · rw [if_neg c2, if_neg c2, if_pos (by omega), decide_eq_true (by omega), ofit_j1s (by omega) (by omega) (by omega)]
        by_cases c3 : 1000 * (w - L) / S > 10000
        · rw [if_pos c3, if_pos c3]
        · rw [if_neg c3, if_neg c3]
theorem rfit {l : List S31} {w t : Int} (F : jL l w t) {a tt : Nat} (h1 : a ≤ tt) (h2 : tt ≤ l.length) : Ev (fun k => qY.f k l ((a : Int) - 1) (tt : Int) w) (jr l a tt w) := by
  have lb := QB F a h2
  have hw0 := F.w0
  have hw1 := F.w1
  unfold qY.f jr
  refine Ev.bind (rline F h1 h2) ?_
  generalize (jq l a tt).1 = L at *
  generalize (jq l a tt).2.1 = S at *
  generalize (jq l a tt).2.2 = H at *
  refine Ev.intro 2 fun k => ?_
  unfold fitV
  by_cases c : L = w
  · rw [if_pos c, if_pos c]
  · rw [if_neg c, if_neg c]
    by_cases c1 : L > w
    · rw [if_pos c1, if_pos c1, w64 (n := L - w) (by omega) (by omega)]
      by_cases c2 : L - w > H
      · rw [if_pos c2, if_pos c2]
      · have b := neg_bd (d := L - w) (m := H) (by omega) (by omega) (by omega)
        have ce := ceil_eq (x := 1000 * (L - w)) (m := H) (by omega)
        rw [if_neg c2, if_neg c2]
        simp only [qY.j0]
        rw [if_neg (by omega), if_pos (by omega), wr (by omega) (by omega) (by omega), w64 (n := 1000 * (L - w)) (by omega) (by omega), Int.tmod_eq_emod_of_nonneg (by omega)]
        by_cases c3 : 1000 * (L - w) % H = 0
        · rw [if_pos c3] at ce
          rw [ce] at b ⊢
          simp only [qY.j1, c3, bne_self_eq_false]
          rw [if_neg (by simp), if_neg (by omega), if_neg (by omega), wbadT (by omega) (by omega) (by omega) (le_m (by omega) (by omega) (by omega)), w64 (n := -1 * _) (by omega) (by omega)]
          congr 2; omega
        · rw [if_neg c3] at ce
          rw [ce] at b ⊢
          have c4 : (1000 * (L - w) % H != 0) = true := by simpa using c3
          simp only [qY.j1, c4]
          rw [if_pos trivial, if_neg (by omega), if_neg (by omega), wbadT (by omega) (by omega) (by omega) (le_m (by omega) (by omega) (by omega)), w64 (n := 1000 * (L - w) / H + 1) (by omega) (by omega), w64 (n := -1 * _) (by omega) (by omega)]
          congr 2; omega
    · rw [if_neg c1, if_neg c1, w64 (n := w - L) (by omega) (by omega)]
      simp only [qY.j0]
      by_cases c2 : S = 0
      · rw [if_pos c2, if_pos c2]
      · rw [if_neg c2, if_neg c2, if_neg (by omega), wr (by omega) (by omega) (by omega)]
        have r0 : 0 ≤ 1000 * (w - L) / S := Int.ediv_nonneg (by omega) (by omega)
        simp only [qY.j1]
        rw [if_neg (by simp), if_pos (by omega)]
        by_cases c3 : 1000 * (w - L) / S > 10000
        · rw [if_pos c3, if_pos c3]
        · rw [if_neg c3, if_neg c3, if_neg c2, wbadT (by omega) (by omega) (by omega) (by omega), w64 (n := 1 * _) (by omega) (by omega), Int.one_mul]
def Qg (l : List S31) (i : Nat) : Int := if i < l.length ∧ (itm l i).f0 = 3 then (itm l i).f4 else 0
def ZE (l : List S31) (i : Nat) : Bool := if i < l.length ∧ (itm l i).f0 = 3 then (itm l i).f5 else false
def penA (l : List S31) (a : Nat) : Int × Bool := if a = 0 then (0, false) else (Qg l (a - 1), ZE l (a - 1))
theorem JA (l : List S31) (s1 : List S81) (s2 : List Int) (w : Int) (i : Nat) : qW.f l s1 s2 w (i : Int) = some (Qg l i, ZE l i, w) := by
  unfold qW.f Qg ZE
  rw [if_neg (by omega)]
  by_cases c : i < l.length
  · rw [if_neg (by omega), if_pos (by omega), if_pos (by omega), Qt]
    by_cases c2 : (itm l i).f0 = 3
    · rw [if_pos c2, if_pos ⟨c, c2⟩, if_pos ⟨c, c2⟩]
    · rw [if_neg c2, if_neg (fun z => c2 z.2), if_neg (fun z => c2 z.2)]
  · rw [if_pos (by omega), if_neg (fun z => c z.1), if_neg (fun z => c z.1)]
theorem open_penA (l : List S31) (s1 : List S81) (s2 : List Int) (w : Int) (a : Nat) : qW.f l s1 s2 w ((a : Int) - 1) = some ((penA l a).1, (penA l a).2, w) := by
  unfold penA
  by_cases c : a = 0
  · subst c; rw [if_pos rfl]; unfold qW.f; rw [if_pos (by omega)]
  · rw [if_neg c, show (a : Int) - 1 = ((a - 1 : Nat) : Int) by omega, JA]
theorem oforced (l : List S31) (s1 : List S81) (s2 : List Int) (w : Int) (i : Nat) : zg.f l s1 s2 w (i : Int) = some (fcB l i, w) := by
  unfold zg.f
  rw [JA]
  simp only [Option.bind_some]
  unfold fcB Qg
  by_cases c : i = l.length
  · rw [if_pos (by omega), if_pos c]
  · rw [if_neg (by omega), if_neg c]
    by_cases c1 : i < l.length
    · by_cases c2 : (itm l i).f0 = 3
      · rw [if_pos ⟨c1, c2⟩, if_pos c2]
      · rw [if_neg (fun z => c2 z.2), if_neg c2]; rfl
    · rw [if_neg (fun z => c1 z.1)]
      have : itm l i = z31 := by unfold itm; rw [List.getD_eq_getElem?_getD, List.getElem?_eq_none (by omega)]; rfl
      rw [this]; rfl
def QC (l : List S31) (a tt : Nat) (b : Int) : Int :=
  (10 + b) * (10 + b) + (if 0 ≤ Qg l tt then Qg l tt * Qg l tt else if Qg l tt > -10000 then -(Qg l tt * Qg l tt) else 0) + (if (penA l a).2 = true then (if ZE l tt = true then 3000 else 0) else 0)
theorem sq_bd {n m : Int} (h0 : -m ≤ n) (h1 : n ≤ m) : 0 ≤ n * n ∧ n * n ≤ m * m := by
  by_cases c : 0 ≤ n
  · exact ⟨Int.mul_nonneg c c, Int.mul_le_mul h1 h1 c (by omega)⟩
  · have e : n * n = (-n) * (-n) := by rw [Int.neg_mul_neg]
    rw [e]
    exact ⟨Int.mul_nonneg (by omega) (by omega), Int.mul_le_mul (by omega) (by omega) (by omega) (by omega)⟩
theorem pen_bd {l : List S31} {w t : Int} (F : jL l w t) (i : Nat) : -10000 ≤ Qg l i ∧ Qg l i ≤ 10000 := by
  unfold Qg
  split
  · rename_i c; have := (Q5 _).1 (F.item i c.1); omega
  · omega
theorem dem_bd {l : List S31} {w t : Int} (F : jL l w t) (a tt : Nat) {b : Int} (h0 : 0 ≤ b) (h1 : b ≤ 100000) :
    (0 ≤ (10 + b) * (10 + b) ∧ (10 + b) * (10 + b) ≤ 10002000100) ∧ (0 ≤ Qg l tt * Qg l tt ∧ Qg l tt * Qg l tt ≤ 100000000) ∧ (-200000000 ≤ QC l a tt b ∧ QC l a tt b ≤ 20000000000) := by
  have p := pen_bd F tt
  have s1 := sq_bd (n := Qg l tt) (m := 10000) (by omega) (by omega)
  have s2 := sq_bd (n := 10 + b) (m := 100010) (by omega) (by omega)
  unfold QC
  refine ⟨by omega, by omega, ?_⟩
  generalize (10 + b) * (10 + b) = A at *
  generalize Qg l tt * Qg l tt = B at *
  repeat' split
  all_goals omega
theorem odem {l : List S31} {w t : Int} (F : jL l w t) (s1 : List S81) (s2 : List Int) (a tt : Nat) {b : Int} (h0 : 0 ≤ b) (h1 : b ≤ 100000) :
    jl.f l s1 s2 w ((a : Int) - 1) (tt : Int) b = some (QC l a tt b, w) := by
  obtain ⟨⟨b1, b2⟩, ⟨c1, c2⟩, _⟩ := dem_bd F a tt h0 h1
  unfold jl.f
  rw [JA]
  simp only [Option.bind_some, open_penA]
  rw [w64 (n := 10 + b) (by omega) (by omega), w64 (n := (10 + b) * (10 + b)) (by omega) (by omega), w64 (n := Qg l tt * Qg l tt) (by omega) (by omega)]
  unfold QC
  generalize (10 + b) * (10 + b) = A at *
  generalize Qg l tt * Qg l tt = B at *
  rw [w64 (n := A + B) (by omega) (by omega), w64 (n := A - B) (by omega) (by omega), w64 (n := A + B + 3000) (by omega) (by omega), w64 (n := A - B + 3000) (by omega) (by omega), w64 (n := A + 3000) (by omega) (by omega)]
  repeat' split
  all_goals first | omega | rfl | (congr 2; omega) | (congr 2)
theorem rdem {l : List S31} {w t : Int} (F : jL l w t) {a tt : Nat} (ha : a ≤ tt) (ht : tt ≤ l.length) {b : Int} (h0 : 0 ≤ b) (h1 : b ≤ 100000) :
    Ev (fun k => qQ.f k l ((a : Int) - 1) (tt : Int) b) (QC l a tt b) := by
  obtain ⟨⟨b1, b2⟩, ⟨c1, c2⟩, _⟩ := dem_bd F a tt h0 h1
  refine Ev.intro 1 fun k => ?_
  unfold qQ.f
  rw [w64 (n := 10 + b) (by omega) (by omega), w64 (n := (10 + b) * (10 + b)) (by omega) (by omega)]
  by_cases c : tt < l.length ∧ (itm l tt).f0 = 3
  · have en : Qg l tt = (itm l tt).f4 := by unfold Qg; rw [if_pos c]
    have ef : ZE l tt = (itm l tt).f5 := by unfold ZE; rw [if_pos c]
    have pb := pen_bd F tt
    rw [en] at c1 c2 pb
    rw [if_neg (by omega), if_pos (by omega), if_pos (by omega)]
    have f3 : ((itm l tt).f0 != 3) = false := by simpa using c.2
    simp only [qQ.j0, Qt, f3]
    rw [if_neg (by simp), if_pos (by omega), if_pos (by omega), w64 (n := (itm l tt).f4 * (itm l tt).f4) (by omega) (by omega)]
    unfold QC
    rw [en, ef]
    generalize (10 + b) * (10 + b) = A at *
    generalize (itm l tt).f4 * (itm l tt).f4 = B at *
    rw [w64 (n := A + B) (by omega) (by omega), w64 (n := A - B) (by omega) (by omega), w64 (n := A + B + 3000) (by omega) (by omega), w64 (n := A - B + 3000) (by omega) (by omega), w64 (n := A + 3000) (by omega) (by omega)]
    by_cases ca : a = 0
    · have e1 : penA l a = (0, false) := by unfold penA; rw [if_pos ca]
      rw [e1]
      have hn : ¬ ((a : Int) - 1 ≥ 0) := by omega
      simp only [hn, if_false]
      repeat' split
      all_goals first | omega | rfl | (congr 1; omega) | contradiction
    · have e1 : penA l a = (Qg l (a - 1), ZE l (a - 1)) := by unfold penA; rw [if_neg ca]
      have q1 : (a : Int) - 1 ≥ 0 := by omega
      have q2 : (a : Int) - 1 < (l.length : Int) := by omega
      rw [e1]
      simp only [q1, q2, if_true, show (0 : Int) ≤ (a : Int) - 1 from q1]
      rw [show (a : Int) - 1 = ((a - 1 : Nat) : Int) by omega, Qt]
      unfold ZE
      have q3 : a - 1 < l.length := by omega
      simp only [q3, true_and]
      by_cases cb : (itm l (a - 1)).f0 = 3
      · simp only [cb, if_true]
        repeat' split
        all_goals first | omega | rfl | (congr 1; omega) | contradiction
      · simp only [cb, if_false]
        repeat' split
        all_goals first | omega | rfl | (congr 1; omega) | contradiction
  · have en : Qg l tt = 0 := by unfold Qg; rw [if_neg c]
    have ef : ZE l tt = false := by unfold ZE; rw [if_neg c]
    have ed : QC l a tt b = (10 + b) * (10 + b) := by unfold QC; rw [en, ef]; simp
    rw [ed]
    by_cases ct : tt = l.length
    · rw [if_pos (by omega)]; simp only [qQ.j0, if_true]
    · have f3 : ((itm l tt).f0 != 3) = true := by simpa using fun z => c ⟨by omega, z⟩
      rw [if_neg (by omega), if_pos (by omega), if_pos (by omega), Qt, f3]
      simp only [qQ.j0, if_true]
end Go.Proofs.Ytfbanppdiglciaa.X
