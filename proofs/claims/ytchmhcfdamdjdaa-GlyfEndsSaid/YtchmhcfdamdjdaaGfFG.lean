/- GlyfEnds: the table, in plain numbers. Written by rk/gengf.py. -/
import Derived.Test.YtchmhcfdamdjdaaGfEG
import Derived.Test.YtchmhcfdamdjdaaGx34
import Derived.Test.YtchmhcfdamdjdaaGx35
set_option linter.unusedVariables false
set_option linter.unusedSimpArgs false
namespace Go.Proofs.Ytchmhcfdamdjdaa.G
open Go Go.RowKit Go.Proofs.YtchmhcfdamdjdaaW.PrintWords Go.Proofs.YtchmhcfdamdjdaaW.PrintLast Go.Proofs.YtchmhcfdamdjdaaW.PrintMore

def hdB : List Int := [255, 255, 0, 0, 0, 0, 0, 0, 0, 0]
def prt (f i : Int) : List Int := [0, f, 0, i, 0, 0, 0, 0]
def prtB (parts : Nat) (i : Int) : Nat → List Int
  | 0 => []
  | j + 1 => prtB parts i j ++ prt (if j + 1 = parts then 3 else 35) i
def tabB (n parts : Nat) : Nat → List Int
  | 0 => []
  | i + 1 => tabB n parts i ++ hdB ++ prtB parts (((i + 1) % n : Nat) : Int) parts
def plB (n parts : Nat) : Nat → List Int
  | 0 => [0]
  | i + 1 => plB n parts i ++ [((tabB n parts (i + 1)).length : Int)]
theorem plB_len (n parts : Nat) : ∀ i, (plB n parts i).length = i + 1
  | 0 => rfl
  | i + 1 => by rw [plB, List.length_append, plB_len n parts i]; rfl
theorem prtB_len (parts : Nat) (i : Int) : ∀ j, (prtB parts i j).length = 8 * j
  | 0 => rfl
  | j + 1 => by rw [prtB, List.length_append, prtB_len parts i j]; show 8 * j + 8 = _; omega
theorem tabB_len (n parts : Nat) : ∀ i, (tabB n parts i).length = i * (10 + 8 * parts)
  | 0 => by simp [tabB]
  | i + 1 => by rw [tabB, List.length_append, List.length_append, tabB_len n parts i, prtB_len, show (i + 1) * (10 + 8 * parts) = i * (10 + 8 * parts) + (10 + 8 * parts) from Nat.succ_mul _ _]; show i * (10 + 8 * parts) + 10 + 8 * parts = _; omega
theorem two_hd : serifref02_Two.f 60 [-1, 0, 0, 0, 0] = some hdB := by decide +kernel
theorem part_v : ∀ i : Fin 20, serifref07_Part.f 60 35 (i.val : Int) [0, 0] = some (prt 35 i.val) ∧ serifref07_Part.f 60 3 (i.val : Int) [0, 0] = some (prt 3 i.val) := by decide +kernel
theorem part_f (f : Int) (hf : f = 35 ∨ f = 3) (i : Nat) (hi : i < 20) : serifref07_Part.f 60 f (i : Int) [0, 0] = some (prt f i) := by
  have z := part_v ⟨i, hi⟩
  rcases hf with rfl | rfl
  · exact z.1
  · exact z.2
theorem rd_snoc {l : List Int} {x : Int} {i : Nat} (h : i < l.length) : rd (l ++ [x]) i = rd l i := by
  unfold rd
  rw [Int.toNat_natCast, List.getD_eq_getElem?_getD, List.getElem?_append_left h, ← List.getD_eq_getElem?_getD]
theorem rd_last {l : List Int} {x : Int} {i : Nat} (h : i = l.length) : rd (l ++ [x]) i = x := by
  unfold rd
  subst h
  rw [Int.toNat_natCast, List.getD_eq_getElem?_getD, List.getElem?_append_right (Nat.le_refl _), Nat.sub_self]
  rfl
theorem rd_pl (n parts : Nat) : ∀ m i : Nat, i ≤ m → rd (plB n parts m) i = ((i * (10 + 8 * parts) : Nat) : Int)
  | 0, i, h => by
    obtain rfl : i = 0 := by omega
    rw [Nat.zero_mul]
    rfl
  | m + 1, i, h => by
    by_cases e : i = m + 1
    · rw [plB, rd_last (by rw [plB_len]; exact e), tabB_len, e]
    · rw [plB, rd_snoc (by rw [plB_len]; omega), rd_pl n parts m i (by omega)]
theorem tab_take (n parts : Nat) : ∀ m i : Nat, i ≤ m → (tabB n parts m).take (i * (10 + 8 * parts)) = tabB n parts i
  | 0, i, h => by
    obtain rfl : i = 0 := by omega
    rw [Nat.zero_mul]
    rfl
  | m + 1, i, h => by
    by_cases e : i = m + 1
    · rw [e, ← tabB_len n parts (m + 1), List.take_length]
    · have hl : i * (10 + 8 * parts) ≤ (tabB n parts m).length := by rw [tabB_len]; exact Nat.mul_le_mul_right _ (by omega)
      rw [tabB, List.append_assoc, List.take_append_of_le_length hl, tab_take n parts m i (by omega)]
theorem tab_seg (n parts i : Nat) : (tabB n parts (i + 1)).drop (i * (10 + 8 * parts)) = hdB ++ prtB parts (((i + 1) % n : Nat) : Int) parts := by
  rw [tabB, List.append_assoc, ← tabB_len n parts i, List.drop_left]
theorem prtB_head (parts : Nat) (i : Int) : ∀ j, ∃ r, prtB parts i (j + 1) = prt (if 1 = parts then 3 else 35) i ++ r
  | 0 => ⟨[], by rw [List.append_nil]; rfl⟩
  | j + 1 => by
    obtain ⟨r, hr⟩ := prtB_head parts i j
    exact ⟨r ++ prt (if j + 1 + 1 = parts then 3 else 35) i, by rw [prtB, hr, List.append_assoc]⟩
theorem u2_seg (f i : Int) (r : List Int) : u2 (hdB ++ (prt f i ++ r)) 0 = 65535 ∧ u2 (hdB ++ (prt f i ++ r)) 10 = f ∧ u2 (hdB ++ (prt f i ++ r)) 12 = i := by
  refine ⟨?_, ?_, ?_⟩ <;> simp [u2, rd, hdB, prt]
theorem okB_app {a b : List Int} (h : okB a) (k : okB b) : okB (a ++ b) := fun x hx => (List.mem_append.1 hx).elim (h x) (k x)
theorem prt_ok (f i : Int) (hf : f = 35 ∨ f = 3) (h0 : 0 ≤ i) (h1 : i < 256) : okB (prt f i) := by
  intro x hx
  simp only [prt, List.mem_cons, List.not_mem_nil, or_false] at hx
  rcases hf with rfl | rfl <;> omega
theorem prtB_ok (parts : Nat) (i : Int) (h0 : 0 ≤ i) (h1 : i < 256) : ∀ j, okB (prtB parts i j)
  | 0 => fun x hx => by cases hx
  | j + 1 => by
    rw [prtB]
    refine okB_app (prtB_ok parts i h0 h1 j) (prt_ok _ _ ?_ h0 h1)
    split
    · exact Or.inr rfl
    · exact Or.inl rfl
theorem hdB_ok : okB hdB := by
  have h : ∀ x ∈ hdB, 0 ≤ x ∧ x < 256 := by decide
  exact h
theorem tabB_ok (n parts : Nat) (hn : 1 ≤ n) (h2 : n ≤ 20) : ∀ i, okB (tabB n parts i)
  | 0 => fun x hx => by cases hx
  | i + 1 => by
    rw [tabB]
    have := Nat.mod_lt (i + 1) (show 0 < n by omega)
    exact okB_app (okB_app (tabB_ok n parts hn h2 i) hdB_ok) (prtB_ok parts _ (by omega) (by omega) parts)
theorem tab_ok (n parts : Nat) (h0 : 1 ≤ n) (h1 : n ≤ 20) (h2 : 1 ≤ parts) (h3 : parts ≤ 6) : Tb (tabB n parts n) (plB n parts n) n := by
  have hb : (tabB n parts n).length ≤ 1048576 := by
    rw [tabB_len]
    have := Nat.mul_le_mul h1 (show 10 + 8 * parts ≤ 58 by omega)
    omega
  refine ⟨plB_len n parts n, tabB_ok n parts h0 h1 n, hb, h1, fun i hi => ?_⟩
  rw [rd_pl n parts n i (by omega), rd_pl n parts n (i + 1) (by omega), Int.toNat_natCast, Int.toNat_natCast, tab_take n parts n (i + 1) (by omega), tab_seg]
  obtain ⟨j, rfl⟩ : ∃ j, parts = j + 1 := ⟨parts - 1, by omega⟩
  obtain ⟨r, hr⟩ := prtB_head (j + 1) (((i + 1) % n : Nat) : Int) j
  rw [hr]
  have q := u2_seg (if 1 = j + 1 then 3 else 35) (((i + 1) % n : Nat) : Int) r
  have e1 : (i + 1) * (10 + 8 * (j + 1)) = i * (10 + 8 * (j + 1)) + (10 + 8 * (j + 1)) := Nat.succ_mul _ _
  have e2 : (i + 1) * (10 + 8 * (j + 1)) ≤ (tabB n (j + 1) n).length := by rw [tabB_len]; exact Nat.mul_le_mul_right _ (by omega)
  have e3 := Nat.mod_lt (i + 1) (show 0 < n by omega)
  generalize (i + 1) * (10 + 8 * (j + 1)) = a at *
  generalize i * (10 + 8 * (j + 1)) = b at *
  refine ⟨by omega, by omega, by omega, _, rfl, q.1, ?_, (i + 1) % n, e3, q.2.2⟩
  rw [q.2.1]
  split
  · exact Or.inr rfl
  · exact Or.inl rfl
end Go.Proofs.Ytchmhcfdamdjdaa.G
