/- A font that Build lays opens to its pieces. -/
import Derived.Test.YtonljpciadeafaaSx0
import Derived.Test.YtonljpciadeafaaMtTS
set_option linter.unusedVariables false
set_option linter.unusedSimpArgs false
namespace Go.Proofs.Ytonljpciadeafaa.S
open Go Go.RowKit Go.Proofs.YtonljpciadeafaaW.PrintWords Go.Proofs.YtonljpciadeafaaW.PrintLast Go.Proofs.YtonljpciadeafaaW.PrintMore

def rowS (base off : Nat) : List S50 → List S71
  | [] => []
  | p :: r => ⟨p.f0, ((base + off : Nat) : Int), (p.f1.length : Int)⟩ :: rowS base (off + (padB p.f1).length) r
def lookP (tag : ByteArray) : List S50 → Option (List Int)
  | [] => none
  | p :: r => if p.f0.toList = tag.toList then some p.f1 else lookP tag r
/-- The tags rise from one on. -/
def Rise (last : ByteArray) : List S50 → Prop
  | [] => True
  | p :: r => p.f0.size = 4 ∧ Op.bytesLess p.f0.toList last.toList = false ∧ (p.f0.toList == last.toList) = false ∧ Rise p.f0 r
theorem len_rowB (base : Nat) : ∀ (l : List S50) (off : Nat) (last : ByteArray), Rise last l → (rowB base off l).length = 16 * l.length
  | [], _, _, _ => rfl
  | p :: r, off, last, h => by
    have ih := len_rowB base r (off + (padB p.f1).length) p.f0 h.2.2.2
    simp only [rowB, List.length_append, len_w4, bytesOf_length, h.1, ih, List.length_cons]
    omega
theorem rowW_good {tg last : ByteArray} {su pl sz : Int} {L : List Int} (h1 : Op.bytesLess tg.toList last.toList = false) (h2 : (tg.toList == last.toList) = false) (h3 : Int.tmod pl 4 = 0) (h4 : sumB L = su) : rowW 0 0 0 0 tg last su pl sz (L, 0) = (⟨tg, pl, sz⟩, 0) := by
  unfold rowW
  have n0 : ¬ ((0 : Int) ≠ 0) := fun h => h rfl
  rw [if_neg n0, if_neg n0, if_neg n0, if_neg n0, if_neg (by rw [h1]; decide), if_neg (by rw [h2]; decide), if_neg (by rw [h3]; exact n0), if_neg n0]
  by_cases c : (tg.toList == [104, 101, 97, 100]) = true
  · rw [if_pos c]
  · rw [if_neg c, if_neg (fun h => h h4)]
theorem row_good (bs A E F : List Int) (p : S50) (r : List S50) (base off : Nat) (Z : List Int) (last : ByteArray) (q : Int) (hA : bs = A ++ ((bytesOf p.f0 ++ w4 (sumB p.f1) ++ w4 ((base + off : Nat) : Int) ++ w4 (p.f1.length : Int)) ++ Z)) (hq : q = (A.length : Int))
    (hE : bs = E ++ (p.f1 ++ F)) (lE : E.length = base + off) (h4 : p.f0.size = 4) (h1 : Op.bytesLess p.f0.toList last.toList = false) (h2 : (p.f0.toList == last.toList) = false) (hm : (base + off) % 4 = 0) (hb : base + off + p.f1.length ≤ 1048576) :
    rowV bs q last = (⟨p.f0, ((base + off : Nat) : Int), (p.f1.length : Int)⟩, 0) := by
  have lt : (bytesOf p.f0).length = 4 := by rw [bytesOf_length, h4]
  have b1 : ((base + off : Nat) : Int) < 4294967296 := by omega
  have b2 : (p.f1.length : Int) < 4294967296 := by omega
  have e1 : partV bs q 4 = (bytesOf p.f0, 0) := part_at (A := A) (B := w4 (sumB p.f1) ++ w4 ((base + off : Nat) : Int) ++ w4 (p.f1.length : Int) ++ Z) (by rw [hA]; simp only [List.append_assoc]) hq (by rw [lt]; rfl)
  have e2 : numV bs (q + 4) 4 = (numB (w4 (sumB p.f1)), 0) := num_at (A := A ++ bytesOf p.f0) (X := w4 (sumB p.f1)) (B := w4 ((base + off : Nat) : Int) ++ w4 (p.f1.length : Int) ++ Z) (by rw [hA]; simp only [List.append_assoc]) (by rw [List.length_append, lt, hq]; rfl) rfl
  rw [num_w4 _ (sumB_bd p.f1).1 (sumB_bd p.f1).2] at e2
  have e3 : numV bs (q + 8) 4 = (numB (w4 ((base + off : Nat) : Int)), 0) := num_at (A := A ++ bytesOf p.f0 ++ w4 (sumB p.f1)) (X := w4 ((base + off : Nat) : Int)) (B := w4 (p.f1.length : Int) ++ Z) (by rw [hA]; simp only [List.append_assoc]) (by rw [List.length_append, List.length_append, lt, len_w4, hq]; push_cast; omega) rfl
  rw [num_w4 _ (Int.natCast_nonneg _) b1] at e3
  have e4 : numV bs (q + 12) 4 = (numB (w4 (p.f1.length : Int)), 0) := num_at (A := A ++ bytesOf p.f0 ++ w4 (sumB p.f1) ++ w4 ((base + off : Nat) : Int)) (X := w4 (p.f1.length : Int)) (B := Z) (by rw [hA]; simp only [List.append_assoc]) (by rw [List.length_append, List.length_append, List.length_append, lt, len_w4, len_w4, hq]; push_cast; omega) rfl
  rw [num_w4 _ (Int.natCast_nonneg _) b2] at e4
  have e5 : partV bs ((base + off : Nat) : Int) (p.f1.length : Int) = (p.f1, 0) := part_at (A := E) (B := F) (by rw [hE, List.append_assoc]) (by rw [lE]) rfl
  unfold rowV
  rw [e1, e2, e3, e4, e5, str_bytes]
  exact rowW_good h1 h2 (by rw [Int.tmod_eq_emod_of_nonneg (Int.natCast_nonneg _)]; omega) rfl
theorem len_padB (b : List Int) : (padB b).length = b.length + padN b.length := by simp [padB]
theorem rows_go (bs : List Int) (base : Nat) (hbs : bs.length ≤ 1048576) (hb4 : base % 4 = 0) : ∀ (l : List S50) (i off : Nat) (last : ByteArray) (acc : List S71) (A E Z : List Int), bs = A ++ (rowB base off l ++ Z) → A.length = 12 + 16 * i → bs = E ++ datB l → E.length = base + off → off % 4 = 0 → Rise last l →
    rowsV bs 0 l.length i last acc = (acc ++ rowS base off l, 0)
  | [], i, off, last, acc, A, E, Z, _, _, _, _, _, _ => by
    simp only [rowS, List.append_nil]
    rfl
  | p :: r, i, off, last, acc, A, E, Z, hA, lA, hE, lE, ho, ht => by
    have lb : bs.length = E.length + (datB (p :: r)).length := by rw [hE, List.length_append]
    simp only [datB, List.length_append, len_padB] at lb
    have R := row_good bs A E (List.replicate (padN p.f1.length) 0 ++ datB r) p r base off (rowB base (off + (padB p.f1).length) r ++ Z) last (0 + 12 + 16 * (i : Int)) (by rw [hA]; simp only [rowB, List.append_assoc]) (by rw [lA]; push_cast; omega)
      (by rw [hE]; simp only [datB, padB, List.append_assoc]) lE ht.1 ht.2.1 ht.2.2.1 (by omega) (by omega)
    have pm := pad_mod p.f1
    have ih := rows_go bs base hbs hb4 r (i + 1) (off + (padB p.f1).length) p.f0 (acc ++ [⟨p.f0, ((base + off : Nat) : Int), (p.f1.length : Int)⟩]) (A ++ (bytesOf p.f0 ++ w4 (sumB p.f1) ++ w4 ((base + off : Nat) : Int) ++ w4 (p.f1.length : Int))) (E ++ padB p.f1) Z
      (by rw [hA]; simp only [rowB, List.append_assoc]) (by simp only [List.length_append, len_w4, bytesOf_length, ht.1, lA]; omega) (by rw [hE]; simp only [datB, List.append_assoc]) (by rw [List.length_append, lE]; omega) (by omega) ht.2.2.2
    show (if (rowV bs (0 + 12 + 16 * (i : Int)) last).2 = 0 then _ else _) = _
    rw [R, if_pos rfl]
    refine ih.trans ?_
    simp only [rowS, List.append_assoc, List.singleton_append]
theorem tab_go (bs : List Int) (base : Nat) (tag : ByteArray) : ∀ (l : List S50) (off : Nat) (E : List Int), bs = E ++ datB l → E.length = base + off → tabV bs tag (rowS base off l) = lookP tag l
  | [], _, _, _, _ => rfl
  | p :: r, off, E, hE, lE => by
    have e5 : partV bs ((base + off : Nat) : Int) (p.f1.length : Int) = (p.f1, 0) := part_at (A := E) (B := List.replicate (padN p.f1.length) 0 ++ datB r) (by rw [hE]; simp only [datB, padB, List.append_assoc]) (by rw [lE]) rfl
    have ih := tab_go bs base tag r (off + (padB p.f1).length) (E ++ padB p.f1) (by rw [hE]; simp only [datB, List.append_assoc]) (by rw [List.length_append, lE]; omega)
    simp only [rowS, tabV, lookP, e5, if_true, ih]
theorem s2_nat (n : Int) (h : 0 ≤ n) : s2 n = w2 n := by unfold s2; rw [if_neg (by omega)]
theorem kind_str (kd : Int) (hk : kd = 1 ∨ kd = 2) : ((strOfNums (kindB kd)).toList == [116, 116, 99, 102]) = false ∧ kindOf (strOfNums (kindB kd)) = kd := by
  rcases hk with rfl | rfl <;> decide +kernel
theorem len_kindB (kd : Int) : (kindB kd).length = 4 := by unfold kindB; split <;> rfl
/-- What a built font opens to. -/
theorem open_built (kd : Int) (hk : kd = 1 ∨ kd = 2) (l : List S50) (hne : 0 < l.length) (hn : l.length ≤ 64) (ht : Rise ⟨#[]⟩ l) (hb : 12 + 16 * l.length + (datB l).length ≤ 1048576) :
    openV (buildB kd l) 0 = ((kd, rowS (12 + 16 * l.length) 0 l), 0) ∧ ∀ tag, tabV (buildB kd l) tag (rowS (12 + 16 * l.length) 0 l) = lookP tag l := by
  obtain ⟨bs, hbs⟩ : ∃ bs, bs = buildB kd l := ⟨_, rfl⟩
  have e0 : bs = kindB kd ++ twoB (l.length : Int) ++ rowB (12 + 16 * l.length) 0 l ++ datB l := hbs
  have lt : (twoB (l.length : Int)).length = 8 := rfl
  have lr := len_rowB (12 + 16 * l.length) l 0 _ ht
  have lk := len_kindB kd
  have lbs : bs.length = 12 + 16 * l.length + (datB l).length := by rw [e0, List.length_append, List.length_append, List.length_append, lt, lr, lk]
  have p0 : partV bs 0 4 = (kindB kd, 0) := part_at (A := []) (B := twoB (l.length : Int) ++ rowB (12 + 16 * l.length) 0 l ++ datB l) (by rw [e0]; simp only [List.append_assoc, List.nil_append]) rfl (by rw [lk]; rfl)
  have ks := kind_str kd hk
  have hB : beginV bs 0 = (0, 0) := by
    unfold beginV
    rw [p0, if_neg (fun h => h rfl), if_pos ks.1, if_neg (fun h => h rfl)]
  have hN : numV bs (0 + 4) 2 = (numB (s2 (l.length : Int)), 0) := num_at (A := kindB kd) (X := s2 (l.length : Int)) (B := s2 0 ++ s2 0 ++ s2 0 ++ rowB (12 + 16 * l.length) 0 l ++ datB l) (by rw [e0]; unfold twoB; simp only [List.append_assoc]) (by rw [lk]; rfl) rfl
  rw [s2_nat _ (Int.natCast_nonneg _), num_w2] at hN
  have hR := rows_go bs (12 + 16 * l.length) (by omega) (by omega) l 0 0 ⟨#[]⟩ [] (kindB kd ++ twoB (l.length : Int)) (kindB kd ++ twoB (l.length : Int) ++ rowB (12 + 16 * l.length) 0 l) (datB l) (by rw [e0]; simp only [List.append_assoc]) (by rw [List.length_append, lk, lt]) e0
    (by rw [List.length_append, List.length_append, lk, lt, lr]; omega) rfl ht
  refine ⟨?_, fun tag => ?_⟩
  · rw [← hbs]
    unfold openV
    rw [hB]
    have n0 : ¬ ((0 : Int) ≠ 0) := fun h => h rfl
    have tn : ((l.length : Int)).toNat = l.length := Int.toNat_natCast _
    dsimp only
    have k0 : ¬ kd = 0 := by rcases hk with rfl | rfl <;> decide
    rw [if_neg (by omega), if_neg n0, p0]
    dsimp only
    rw [if_neg n0, ks.2, if_neg k0, hN]
    dsimp only
    rw [if_neg n0, if_neg (by omega), if_neg (by omega), tn, hR]
    dsimp only
    rw [if_neg n0, List.nil_append]
  · rw [← hbs]
    exact tab_go bs (12 + 16 * l.length) tag l 0 (kindB kd ++ twoB (l.length : Int) ++ rowB (12 + 16 * l.length) 0 l) e0 (by rw [List.length_append, List.length_append, lk, lt, lr]; omega)
theorem okB_app {a b : List Int} (ha : okB a) (hb : okB b) : okB (a ++ b) := fun x hx => (List.mem_append.1 hx).elim (ha x) (hb x)
theorem okB_bytes (t : ByteArray) : okB (bytesOf t) := by
  intro x hx
  obtain ⟨b, _, rfl⟩ := List.mem_map.1 hx
  exact ⟨Int.natCast_nonneg _, by have := b.toNat_lt; omega⟩
theorem okB_pad {b : List Int} (h : okB b) : okB (padB b) := okB_app h (fun x hx => by rw [(List.mem_replicate.1 hx).2]; decide)
theorem okB_datB : ∀ (l : List S50), (∀ p ∈ l, okB p.f1) → okB (datB l)
  | [], _ => fun x hx => by cases hx
  | p :: r, h => okB_app (okB_pad (h p List.mem_cons_self)) (okB_datB r (fun q hq => h q (List.mem_cons_of_mem _ hq)))
theorem okB_rowB (base : Nat) : ∀ (l : List S50) (off : Nat), base + off + (datB l).length ≤ 1048576 → okB (rowB base off l)
  | [], _, _ => fun x hx => by cases hx
  | p :: r, off, h => by
    simp only [datB, List.length_append, len_padB] at h
    refine okB_app (okB_app (okB_app (okB_app (okB_bytes _) (ok_w4 _ (sumB_bd _).1 (sumB_bd _).2)) (ok_w4 _ (Int.natCast_nonneg _) (by omega))) (ok_w4 _ (Int.natCast_nonneg _) (by omega))) (okB_rowB base r _ ?_)
    rw [len_padB]
    omega
theorem okB_built (kd : Int) (l : List S50) (hn : l.length ≤ 64) (ho : ∀ p ∈ l, okB p.f1) (hb : 12 + 16 * l.length + (datB l).length ≤ 1048576) : okB (buildB kd l) := by
  unfold buildB twoB
  have z : okB (s2 0) := by unfold okB; decide
  refine okB_app (okB_app (okB_app ?_ (okB_app (okB_app (okB_app (ok_s2 _ (by omega) (by omega)) z) z) z)) (okB_rowB _ l 0 (by omega))) (okB_datB l ho)
  unfold kindB okB
  split <;> decide
end Go.Proofs.Ytonljpciadeafaa.S
