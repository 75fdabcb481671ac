/- Contours of knots on the curve alone: what Flat and SameSpots tell of them, in plain numbers. -/
import Derived.Test.YtmlkpadlafjfeaaPx0
import Derived.Test.YtmlkpadlafjfeaaPx14
import Derived.Test.YtmlkpadlafjfeaaPx2
import Derived.Test.YtmlkpadlafjfeaaPx21
import Derived.Test.YtmlkpadlafjfeaaPx3
import Derived.Test.YtmlkpadlafjfeaaPx4
import Derived.Test.YtmlkpadlafjfeaaPx22
import Derived.Test.YtmlkpadlafjfeaaPx23
set_option linter.unusedVariables false
set_option linter.unusedSimpArgs false
namespace Go.Proofs.Ytmlkpadlafjfeaa.P
open Go Go.RowKit Go.Proofs.YtmlkpadlafjfeaaW.PrintWords Go.Proofs.YtmlkpadlafjfeaaW.PrintLast Go.Proofs.YtmlkpadlafjfeaaW.PrintMore

theorem w64 {n : Int} (h0 : -9223372036854775808 ≤ n) (h1 : n ≤ 9223372036854775807) : wrap64 n = n := by unfold wrap64; omega
theorem nx64 {i : Nat} (h : i ≤ 100000) : wrap64 ((i : Int) + 1) = ((i + 1 : Nat) : Int) := by rw [w64 (by omega) (by omega)]; omega
theorem rd40 {l : List S40} {i : Nat} (h : i < l.length) : rd_T40 l (i : Int) = l[i] := by unfold rd_T40; rw [Int.toNat_natCast, List.getD_eq_getElem?_getD, List.getElem?_eq_getElem h]; rfl
theorem rd35 {l : List S35} {i : Nat} (h : i < l.length) : rd_T35 l (i : Int) = l[i] := by unfold rd_T35; rw [Int.toNat_natCast, List.getD_eq_getElem?_getD, List.getElem?_eq_getElem h]; rfl
def fixB (n : Int) : Prop := -2147483647 ≤ n ∧ n ≤ 2147483647
theorem fixC {n : Int} (h : fixB n) : fixed_Check.f n = some 0 := by
  unfold fixed_Check.f
  have := h.1; have := h.2
  rw [if_neg (by omega), if_neg (by omega)]
/-- A knot on the curve. -/
def kn (s : S35) : S40 := ⟨s.f0, s.f1, 1⟩
def onK (x : S40) : Prop := x.f2 = 1 ∧ fixB x.f0 ∧ fixB x.f1
theorem check_l1 {c : List S40} (hc : c.length ≤ 4096) (h : ∀ x ∈ c, onK x) : ∀ (d i : Nat), c.length - i = d → i ≤ c.length → Ev (fun k => path_check.l1 k [c] (c.length : Int) false false [c] 1 0 c (c.length : Int) (i : Int)) 0 := by
  intro d
  induction d with
  | zero =>
    intro i e hi
    refine ⟨2, fun k hk => ?_⟩
    obtain ⟨k, rfl⟩ : ∃ q, k = q + 2 := ⟨k - 2, by omega⟩
    simp only [path_check.l1]
    rw [if_neg (by omega), w64 (n := 0 + 1) (by omega) (by omega)]
    simp only [path_check.l0]
    rw [if_neg (by omega)]
    simp
  | succ d ih =>
    intro i e hi
    have hlt : i < c.length := by omega
    obtain ⟨h1, h2, h3⟩ := h c[i] (List.getElem_mem hlt)
    refine Ev.step (fun k => ?_) (ih (i + 1) (by omega) (by omega))
    simp only [path_check.l1]
    rw [if_pos (by omega), if_pos (by omega), if_pos (by omega), rd40 hlt, h1, fixC h2, fixC h3, nx64 (by omega)]
    simp
theorem check_one {c : List S40} (hc : c.length ≤ 4096) (h : ∀ x ∈ c, onK x) : Ev (fun k => path_check.f k [c]) 0 := by
  unfold path_check.f
  refine Ev.step (fun k => ?_) (check_l1 hc h c.length 0 (by omega) (by omega))
  simp only [path_check.l0]
  have e : rd_L2 [c] 0 = c := rfl
  rw [if_pos (by simp), if_pos (by simp), if_pos (by simp), e, Int.zero_add, w64 (n := (c.length : Int)) (by omega) (by omega), if_neg (by omega)]; rfl
theorem ctL_on {k : Nat} {r : List S40} (hr : r.length ≤ 100000) (h : ∀ x ∈ r, x.f2 = 1) : ∀ (m i : Nat) (out : List S35) (x y : Int), r.length < i + m → i ≤ r.length → out.length + (r.length - i) ≤ 800000 →
    ctL k r m (i : Int) out x y = some (out ++ (r.drop i).map (fun z => (⟨z.f0, z.f1⟩ : S35)))
  | 0, i, out, x, y, h1, h2, h3 => by omega
  | m + 1, i, out, x, y, h1, h2, h3 => by
    unfold ctL
    by_cases c : i < r.length
    · have e : (rd_T40 r (i : Int)).f2 = 1 := by rw [rd40 c]; exact h _ (List.getElem_mem c)
      rw [if_pos (by omega), if_neg (by omega), if_pos e, show (i : Int) + 1 = ((i + 1 : Nat) : Int) by omega, ctL_on hr h m (i + 1) _ _ _ (by omega) (by omega) (by simp; omega), rd40 c, List.drop_eq_getElem_cons c, List.map_cons, List.append_assoc]; rfl
    · rw [if_neg (by omega), List.drop_of_length_le (by omega)]; simp
theorem contour_on {c : List S40} (hc : c.length ≤ 4096) (h : ∀ x ∈ c, x.f2 = 1) : Ev (fun k => path_contour.f k c) (c.map (fun z => (⟨z.f0, z.f1⟩ : S35)), true) := by
  unfold path_contour.f
  match c, hc, h with
  | [], _, _ => exact ⟨0, fun k _ => by simp⟩
  | x :: r, hc, h =>
    simp only [List.length_cons] at hc
    refine ⟨1, fun k hk => ?_⟩
    obtain ⟨k, rfl⟩ : ∃ q, k = q + 1 := ⟨k - 1, by omega⟩
    have hx : x.f2 = 1 := h x (by simp)
    have rr : path_round.f (k + 1) (x :: r) = some (x.f0, x.f1, r, true) := by
      unfold path_round.f
      simp only [path_round.l0]
      have e0 : rd_T40 (x :: r) 0 = x := rfl
      rw [if_pos (by simp), if_pos (by omega), if_pos (by simp), e0, if_pos hx]
      simp only [Option.bind_some, Int.zero_add]
      rw [w64 (n := 1) (by omega) (by omega), if_pos (by omega), if_pos (by simp; omega)]
      simp only [path_spot.f, Option.bind_some]
      rw [if_pos (by simp; omega), if_pos (by omega), if_pos (by simp; omega)]
      simp
    have ct := ctL_on (k := k + 1) (r := r) (by omega) (fun z hz => h z (by simp [hz])) (r.length + 1) 0 [⟨x.f0, x.f1⟩] x.f0 x.f1 (by omega) (by omega) (by simp; omega)
    simp only [if_neg (show ¬ (x :: r).length = 0 by simp), rr, Option.bind_some]
    rw [if_pos ⟨trivial, by omega⟩]
    have ct' : ctL (k + 1) r (r.length + 1) 0 [⟨x.f0, x.f1⟩] x.f0 x.f1 = some ([⟨x.f0, x.f1⟩] ++ (r.drop 0).map (fun z => (⟨z.f0, z.f1⟩ : S35))) := ct
    rw [ct']
    simp
theorem flat_on {l : List S35} (hl : l.length ≤ 4096) (h : ∀ s ∈ l, fixB s.f0 ∧ fixB s.f1) : Ev (fun k => path_Flat.f k [l.map kn]) ([l], 0) := by
  unfold path_Flat.f
  have hc : (l.map kn).length ≤ 4096 := by simpa using hl
  refine Ev.bind (check_one hc (fun x hx => by obtain ⟨s, hs, rfl⟩ := List.mem_map.1 hx; exact ⟨rfl, h s hs⟩)) ?_
  have e1 : ((([l.map kn] : List (List S40)).length : Int)).toNat = 1 := rfl
  simp only [if_true, e1, show (0 : Int) ≤ (([l.map kn] : List (List S40)).length : Int) by simp, show (1 : Nat) ≤ 11728124029610 by omega]
  have cn := contour_on hc (fun x hx => by obtain ⟨s, hs, rfl⟩ := List.mem_map.1 hx; rfl)
  have el : (l.map kn).map (fun z => (⟨z.f0, z.f1⟩ : S35)) = l := by
    rw [List.map_map]
    have : ((fun z : S40 => (⟨z.f0, z.f1⟩ : S35)) ∘ kn) = id := by funext s; rfl
    rw [this, List.map_id]
  rw [el] at cn
  obtain ⟨K, hK⟩ := cn
  replace hK : ∀ k, K ≤ k → path_contour.f k (l.map kn) = some (l, true) := hK
  refine ⟨K + 2, fun k hk => ?_⟩
  obtain ⟨k, rfl⟩ : ∃ q, k = q + 2 := ⟨k - 2, by omega⟩
  have e0 : rd_L2 [l.map kn] 0 = l.map kn := rfl
  simp only [path_Flat.l0]
  rw [if_pos (by simp), if_pos (by omega), if_pos (by simp), e0, hK (k + 1) (by omega)]
  simp only [Option.bind_some, if_true]
  rw [if_pos (by simp), w64 (n := 0 + 1) (by omega) (by omega), if_neg (by simp)]
  rfl
theorem same_l1 {l : List S35} (hl : l.length ≤ 100000) : ∀ (d i : Nat), l.length - i = d → i ≤ l.length → Ev (fun k => serifref06_SameSpots.l1 k [l] [l] 0 1 0 (l.length : Int) (i : Int)) true := by
  intro d
  induction d with
  | zero =>
    intro i e hi
    refine ⟨2, fun k hk => ?_⟩
    obtain ⟨k, rfl⟩ : ∃ q, k = q + 2 := ⟨k - 2, by omega⟩
    simp only [serifref06_SameSpots.l1]
    rw [if_neg (by omega), w64 (n := 0 + 1) (by omega) (by omega)]
    simp only [serifref06_SameSpots.l0]
    rw [if_neg (by omega)]
  | succ d ih =>
    intro i e hi
    have hlt : i < l.length := by omega
    refine Ev.step (fun k => ?_) (ih (i + 1) (by omega) (by omega))
    simp only [serifref06_SameSpots.l1]
    have e0 : rd_L4 [l] 0 = l := rfl
    rw [if_pos (by omega), if_pos (by omega), if_pos (by simp), e0, if_pos (by omega), if_pos (by omega), if_pos (by simp), if_pos (by omega), if_neg (by simp), nx64 (by omega)]
theorem same_on {l : List S35} (hl : l.length ≤ 100000) : Ev (fun k => serifref06_SameSpots.f k [l] [l]) true := by
  unfold serifref06_SameSpots.f
  simp only [if_true]
  refine Ev.step (fun k => ?_) (same_l1 hl l.length 0 (by omega) (by omega))
  simp only [serifref06_SameSpots.l0]
  have e0 : rd_L4 [l] 0 = l := rfl
  rw [if_pos (by simp), if_pos (by omega), if_pos (by simp), if_pos (by simp), e0, if_pos trivial]; rfl
end Go.Proofs.Ytmlkpadlafjfeaa.P
