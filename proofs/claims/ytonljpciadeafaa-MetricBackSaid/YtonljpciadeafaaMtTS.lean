/- What serifref03.Build lays, in plain lists. -/
import Derived.Test.YtonljpciadeafaaSx0
import Derived.Test.YtonljpciadeafaaSx39
import Derived.Test.YtonljpciadeafaaMtSS
import Derived.Test.YtonljpciadeafaaSx40
import Derived.Test.YtonljpciadeafaaSx22
set_option linter.unusedVariables false
set_option linter.unusedSimpArgs false
namespace Go.Proofs.Ytonljpciadeafaa.S
open Go Go.RowKit Go.Proofs.YtonljpciadeafaaW.PrintWords Go.Proofs.YtonljpciadeafaaW.PrintLast Go.Proofs.YtonljpciadeafaaW.PrintMore

def padN (n : Nat) : Nat := (4 - n % 4) % 4
def padB (b : List Int) : List Int := b ++ List.replicate (padN b.length) 0
def datB : List S50 → List Int
  | [] => []
  | p :: r => padB p.f1 ++ datB r
def rowB (base off : Nat) : List S50 → List Int
  | [] => []
  | p :: r => (bytesOf p.f0 ++ w4 (sumB p.f1) ++ w4 ((base + off : Nat) : Int) ++ w4 (p.f1.length : Int)) ++ rowB base (off + (padB p.f1).length) r
def kindB (kd : Int) : List Int := if kd = 2 then [79, 84, 84, 79] else [0, 1, 0, 0]
def twoB (n : Int) : List Int := s2 n ++ s2 0 ++ s2 0 ++ s2 0
def buildB (kd : Int) (l : List S50) : List Int := kindB kd ++ twoB (l.length : Int) ++ rowB (12 + 16 * l.length) 0 l ++ datB l
theorem two4 (k : Nat) (n : Int) (h0 : 0 ≤ n) (h1 : n ≤ 64) : serifref02_Two.f (k + 8) [n, 0, 0, 0] = some (twoB n) := by
  show serifref02_Two.l0 (k + 8) [] [n, 0, 0, 0] (([n, 0, 0, 0] : List Int).length : Int) ((0 : Nat) : Int) = _
  rw [two_step (k + 4) [] [n, 0, 0, 0] 0 (by simp) (show -32768 ≤ n by omega) (show n < 65536 by omega) (by decide) (by simp)]
  show serifref02_Two.l0 (k + 7) _ [n, 0, 0, 0] (([n, 0, 0, 0] : List Int).length : Int) ((1 : Nat) : Int) = _
  rw [two_step (k + 3) _ [n, 0, 0, 0] 1 (by simp) (show (-32768 : Int) ≤ 0 by decide) (show (0 : Int) < 65536 by decide) (by simp [s2, w2]) (by simp)]
  show serifref02_Two.l0 (k + 6) _ [n, 0, 0, 0] (([n, 0, 0, 0] : List Int).length : Int) ((2 : Nat) : Int) = _
  rw [two_step (k + 2) _ [n, 0, 0, 0] 2 (by simp) (show (-32768 : Int) ≤ 0 by decide) (show (0 : Int) < 65536 by decide) (by simp [s2, w2]) (by simp)]
  show serifref02_Two.l0 (k + 5) _ [n, 0, 0, 0] (([n, 0, 0, 0] : List Int).length : Int) ((3 : Nat) : Int) = _
  rw [two_step (k + 1) _ [n, 0, 0, 0] 3 (by simp) (show (-32768 : Int) ≤ 0 by decide) (show (0 : Int) < 65536 by decide) (by simp [s2, w2]) (by simp)]
  rw [show k + 1 + 3 = (k + 3) + 1 from rfl, two_end (k + 3) _ [n, 0, 0, 0] _ (by simp)]
  rfl
theorem base_wrap {n m : Nat} (hn : n ≤ 64) (hm : m ≤ 4194304) : wrap64 (wrap64 (12 + wrap64 (16 * (n : Int))) + (m : Int)) = ((12 + 16 * n + m : Nat) : Int) := by
  rw [wrap_id (x := 16 * (n : Int)) (by omega) (by omega), wrap_id (x := 12 + 16 * (n : Int)) (by omega) (by omega), wrap_id (by omega) (by omega)]
  push_cast
  rfl
theorem l2_go (kd : Int) (l x57 : List S50) (x58 : Int) (x9 : List Int) (i : Int) (r : List Int × Int) (hn : l.length ≤ 64) : ∀ (d : Nat) (x8 : List Int), padN x8.length = d → 12 + 16 * l.length + (x8.length + d) ≤ 1048576 →
    Ev (fun k => serifref03_Build.l1 k kd l (x8 ++ List.replicate d 0) x9 x57 x58 (wrap64 (i + 1))) r → Ev (fun k => serifref03_Build.l2 k kd l x8 x9 x57 x58 i) r
  | 0, x8, hd, hb, h => by
    rw [List.replicate_zero, List.append_nil] at h
    unfold padN at hd
    refine Ev.step (f := fun k => serifref03_Build.l1 k kd l x8 x9 x57 x58 (wrap64 (i + 1))) (fun k => ?_) h
    show (if ((x8.length : Int) % 4) = 0 then _ else _) = _
    rw [if_pos (by omega), base_wrap hn (by omega), if_neg (by omega)]
  | d + 1, x8, hd, hb, h => by
    unfold padN at hd
    refine Ev.step (f := fun k => serifref03_Build.l2 k kd l (x8 ++ [0]) x9 x57 x58 i) (fun k => ?_) ?_
    · show (if ((x8.length : Int) % 4) = 0 then _ else _) = _
      rw [if_neg (by omega), if_pos (by omega)]
    · refine l2_go kd l x57 x58 x9 i r hn d (x8 ++ [0]) ?_ ?_ ?_
      · unfold padN
        rw [List.length_append, List.length_singleton]
        omega
      · rw [List.length_append, List.length_singleton]
        omega
      · rw [List.append_assoc, List.singleton_append, ← List.replicate_succ]
        exact h
theorem l1_end (kd : Int) (l : List S50) (x8 x9 : List Int) (hn : l.length ≤ 64) (h8 : x8.length ≤ 4194304) (h9 : x9.length ≤ 4194304) : Ev (fun k => serifref03_Build.l1 k kd l x8 x9 l (l.length : Int) (l.length : Int)) (kindB kd ++ twoB (l.length : Int) ++ x9 ++ x8, 0) := by
  refine ⟨9, fun k hk => ?_⟩
  obtain ⟨k', rfl⟩ : ∃ k', k = k' + 8 + 1 := ⟨k - 9, by omega⟩
  have ht := two4 k' (l.length : Int) (by omega) (by omega)
  have lt : (twoB (l.length : Int)).length = 8 := rfl
  have c1 : ¬ (l.length : Int) < (l.length : Int) := by omega
  have k1 : ([79, 84, 84, 79] : List Int).length + (twoB (l.length : Int)).length < 140737488355328 := by rw [lt]; simp
  have k2 : ([79, 84, 84, 79] ++ twoB (l.length : Int)).length + x9.length < 140737488355328 := by rw [List.length_append, lt]; simp; omega
  have k3 : ([79, 84, 84, 79] ++ twoB (l.length : Int) ++ x9).length + x8.length < 140737488355328 := by rw [List.length_append, List.length_append, lt]; simp; omega
  have m1 : ([0, 1, 0, 0] : List Int).length + (twoB (l.length : Int)).length < 140737488355328 := by rw [lt]; simp
  have m2 : ([0, 1, 0, 0] ++ twoB (l.length : Int)).length + x9.length < 140737488355328 := by rw [List.length_append, lt]; simp; omega
  have m3 : ([0, 1, 0, 0] ++ twoB (l.length : Int) ++ x9).length + x8.length < 140737488355328 := by rw [List.length_append, List.length_append, lt]; simp; omega
  clear lt
  dsimp only
  unfold kindB
  rw [serifref03_Build.l1, if_neg c1, Option.bind_some]
  by_cases c : kd = 2
  · rw [if_pos c, if_pos c, Option.bind_some, ht, Option.bind_some, if_pos k1, Option.bind_some, if_pos k2, Option.bind_some, if_pos k3]
  · rw [if_neg c, if_neg c, ht, Option.bind_some, if_pos m1, Option.bind_some, if_pos m2, Option.bind_some, if_pos m3]
theorem len_w4 (x : Int) : (w4 x).length = 4 := rfl
theorem l1_conds (l : List S50) (x8 x9 : List Int) (i : Nat) (p : S50) (hn : l.length ≤ 64) (hi : i < l.length) (h4 : p.f0.size = 4) (hb : 12 + 16 * l.length + (x8.length + (p.f1.length + padN p.f1.length)) ≤ 1048576) (h9 : x9.length ≤ 4194304) :
    (i : Int) < (l.length : Int) ∧ 0 ≤ (i : Int) ∧ x9.length + p.f0.size < 140737488355328 ∧ (x9 ++ bytesOf p.f0).length + (w4 (sumB p.f1)).length < 140737488355328 ∧
    (x9 ++ bytesOf p.f0 ++ w4 (sumB p.f1)).length + (w4 ((12 + 16 * l.length + x8.length : Nat) : Int)).length < 140737488355328 ∧
    (x9 ++ bytesOf p.f0 ++ w4 (sumB p.f1) ++ w4 ((12 + 16 * l.length + x8.length : Nat) : Int)).length + (w4 (p.f1.length : Int)).length < 140737488355328 ∧ x8.length + p.f1.length < 140737488355328 ∧
    0 ≤ ((12 + 16 * l.length + x8.length : Nat) : Int) ∧ ((12 + 16 * l.length + x8.length : Nat) : Int) < 4294967296 ∧ 0 ≤ (p.f1.length : Int) ∧ (p.f1.length : Int) < 4294967296 := by
  have lb : (bytesOf p.f0).length = 4 := by rw [bytesOf_length, h4]
  simp only [List.length_append, lb, len_w4]
  generalize padN p.f1.length = z at hb
  generalize l.length = n at *
  generalize x8.length = a at *
  generalize x9.length = b at *
  generalize p.f1.length = c at *
  refine ⟨?_, ?_, ?_, ?_, ?_, ?_, ?_, ?_, ?_, ?_, ?_⟩ <;> omega
theorem l1_bw (l : List S50) (x8 : List Int) (p : S50) (hn : l.length ≤ 64) (hb : 12 + 16 * l.length + (x8.length + (p.f1.length + padN p.f1.length)) ≤ 1048576) : wrap64 (wrap64 (12 + wrap64 (16 * (l.length : Int))) + (x8.length : Int)) = ((12 + 16 * l.length + x8.length : Nat) : Int) :=
  base_wrap hn (by omega)
theorem l1_step (kd : Int) (l : List S50) (x8 x9 : List Int) (i : Nat) (p : S50) (r : List Int × Int) (hn : l.length ≤ 64) (hi : i < l.length) (hp : rd_T50 l (i : Int) = p) (h4 : p.f0.size = 4) (ho : okB p.f1)
    (h8 : x8.length % 4 = 0) (hb : 12 + 16 * l.length + (x8 ++ padB p.f1).length ≤ 1048576) (h9 : x9.length ≤ 4194304)
    (h : Ev (fun k => serifref03_Build.l1 k kd l (x8 ++ padB p.f1) (x9 ++ (bytesOf p.f0 ++ w4 (sumB p.f1) ++ w4 ((12 + 16 * l.length + x8.length : Nat) : Int) ++ w4 (p.f1.length : Int))) l (l.length : Int) ((i + 1 : Nat) : Int)) r) :
    Ev (fun k => serifref03_Build.l1 k kd l x8 x9 l (l.length : Int) (i : Int)) r := by
  have lp : (x8 ++ padB p.f1).length = x8.length + (p.f1.length + padN p.f1.length) := by simp [padB]
  rw [lp] at hb
  have hpad : padN (x8 ++ p.f1).length = padN p.f1.length := by unfold padN; rw [List.length_append]; omega
  have wi : wrap64 ((i : Int) + 1) = ((i + 1 : Nat) : Int) := by rw [wrap_id (by omega) (by omega)]; push_cast; rfl
  have hx : x8 ++ p.f1 ++ List.replicate (padN p.f1.length) 0 = x8 ++ padB p.f1 := by rw [List.append_assoc]; rfl
  obtain ⟨K1, hK1⟩ := rsum_ev p.f1 ho (by omega)
  obtain ⟨K2, hK2⟩ := l2_go kd l l (l.length : Int) (x9 ++ (bytesOf p.f0 ++ w4 (sumB p.f1) ++ w4 ((12 + 16 * l.length + x8.length : Nat) : Int) ++ w4 (p.f1.length : Int))) (i : Int) r hn (padN p.f1.length) (x8 ++ p.f1) hpad
    (by rw [List.length_append]; omega) (by rw [wi, hx]; exact h)
  have hx : x8 ++ p.f1 ++ List.replicate (padN p.f1.length) 0 = x8 ++ padB p.f1 := by rw [List.append_assoc]; rfl
  obtain ⟨K1, hK1⟩ := rsum_ev p.f1 ho (by omega)
  obtain ⟨K2, hK2⟩ := l2_go kd l l (l.length : Int) (x9 ++ (bytesOf p.f0 ++ w4 (sumB p.f1) ++ w4 ((12 + 16 * l.length + x8.length : Nat) : Int) ++ w4 (p.f1.length : Int))) (i : Int) r hn (padN p.f1.length) (x8 ++ p.f1) hpad
    (by rw [List.length_append]; omega) (by rw [wi, hx]; exact h)
  obtain ⟨c1, c2, c3, c4, c5, c6, c7, b0, b1, b2, b3⟩ := l1_conds l x8 x9 i p hn hi h4 hb h9
  have bw := l1_bw l x8 p hn hb
  refine ⟨K1 + K2 + 6, fun k hk => ?_⟩
  obtain ⟨k', rfl⟩ : ∃ k', k = k' + 5 + 1 := ⟨k - 6, by clear c1 c2 c3 c4 c5 c6 c7 b0 b1 b2 b3 bw h hb h9 h8 hn; omega⟩
  have e1 := hK1 (k' + 5) (by clear c1 c2 c3 c4 c5 c6 c7 b0 b1 b2 b3 bw h hb h9 h8 hn; omega)
  have e2 := hK2 (k' + 5) (by clear c1 c2 c3 c4 c5 c6 c7 b0 b1 b2 b3 bw h hb h9 h8 hn; omega)
  have e3 := big4 k' (sumB p.f1) (sumB_bd p.f1).1 (sumB_bd p.f1).2
  have e4 := big4 k' ((12 + 16 * l.length + x8.length : Nat) : Int) b0 b1
  have e5 := big4 k' (p.f1.length : Int) b2 b3
  dsimp only at e1 e2 ⊢
  rw [serifref03_Build.l1, if_pos c1, if_pos c2, if_pos c1, hp, if_pos c3, Option.bind_some, e1, Option.bind_some, e3, Option.bind_some, if_pos c4, Option.bind_some, bw, e4, Option.bind_some, if_pos c5, Option.bind_some, e5, Option.bind_some, if_pos c6, if_pos c7, ← e2]
  simp only [List.append_assoc]
theorem pad_mod (b : List Int) : (padB b).length % 4 = 0 := by
  simp only [padB, List.length_append, List.length_replicate, padN]
  omega
theorem l1_go (kd : Int) (l : List S50) (hn : l.length ≤ 64) (ho : ∀ i, i < l.length → (rd_T50 l (i : Int)).f0.size = 4 ∧ okB (rd_T50 l (i : Int)).f1) : ∀ (d i : Nat) (x8 x9 : List Int), l.length - i = d → i ≤ l.length → x8.length % 4 = 0 →
    12 + 16 * l.length + (x8.length + (datB (l.drop i)).length) ≤ 1048576 → x9.length = 16 * i → Ev (fun k => serifref03_Build.l1 k kd l x8 x9 l (l.length : Int) (i : Int)) (kindB kd ++ twoB (l.length : Int) ++ (x9 ++ rowB (12 + 16 * l.length) x8.length (l.drop i)) ++ (x8 ++ datB (l.drop i)), 0)
  | 0, i, x8, x9, hd, hi, h8, hb, h9 => by
    obtain rfl : i = l.length := by omega
    rw [List.drop_length] at hb ⊢
    have e := l1_end kd l x8 x9 hn (by omega) (by omega)
    simp only [rowB, datB, List.append_nil]
    exact e
  | d + 1, i, x8, x9, hd, hi, h8, hb, h9 => by
    have hi2 : i < l.length := by omega
    have hdr : l.drop i = l[i] :: l.drop (i + 1) := List.drop_eq_getElem_cons hi2
    have hp : rd_T50 l (i : Int) = l[i] := by
      unfold rd_T50
      rw [Int.toNat_natCast, List.getD_eq_getElem?_getD, List.getElem?_eq_getElem hi2]
      rfl
    have o1 := ho i hi2
    rw [hp] at o1
    rw [hdr] at hb ⊢
    simp only [rowB, datB] at hb ⊢
    rw [List.length_append] at hb
    have lb : (bytesOf l[i].f0).length = 4 := by rw [bytesOf_length, o1.1]
    refine l1_step kd l x8 x9 i l[i] _ hn hi2 hp o1.1 o1.2 h8 (by rw [List.length_append]; omega) (by omega) ?_
    have ih := l1_go kd l hn ho d (i + 1) (x8 ++ padB l[i].f1) (x9 ++ (bytesOf l[i].f0 ++ w4 (sumB l[i].f1) ++ w4 ((12 + 16 * l.length + x8.length : Nat) : Int) ++ w4 (l[i].f1.length : Int))) (by omega) (by omega)
      (by rw [List.length_append]; have := pad_mod l[i].f1; omega) (by rw [List.length_append]; omega) (by simp only [List.length_append, lb, len_w4]; omega)
    rw [List.length_append] at ih
    simp only [List.append_assoc] at ih ⊢
    exact ih
theorem l0_go (kd : Int) (l : List S50) (r : List Int × Int) (hn : l.length ≤ 64) (ht : ∀ i, i < l.length → (rd_T50 l (i : Int)).f0.size = 4 ∧ (0 < i → Op.bytesLess (rd_T50 l ((i - 1 : Nat) : Int)).f0.toList (rd_T50 l (i : Int)).f0.toList = true))
    (h : Ev (fun k => serifref03_Build.l1 k kd l [] [] l (l.length : Int) 0) r) : ∀ (d i : Nat), l.length - i = d → i ≤ l.length → Ev (fun k => serifref03_Build.l0 k kd l l (l.length : Int) (i : Int)) r
  | 0, i, hd, hi => by
    obtain rfl : i = l.length := by omega
    refine Ev.step (f := fun k => serifref03_Build.l1 k kd l [] [] l (l.length : Int) 0) (fun k => ?_) h
    show (if (l.length : Int) < (l.length : Int) then _ else _) = _
    rw [if_neg (by omega), if_neg (by omega)]
  | d + 1, i, hd, hi => by
    have hi2 : i < l.length := by omega
    have t := ht i hi2
    have wi : wrap64 ((i : Int) + 1) = ((i + 1 : Nat) : Int) := by rw [wrap_id (by omega) (by omega)]; push_cast; rfl
    refine Ev.step (f := fun k => serifref03_Build.l0 k kd l l (l.length : Int) ((i + 1 : Nat) : Int)) (fun k => ?_) (l0_go kd l r hn ht h d (i + 1) (by omega) (by omega))
    show (if (i : Int) < (l.length : Int) then _ else _) = _
    rw [if_pos (by omega), if_pos (by omega), if_pos (by omega), if_pos (by omega)]
    by_cases c : i = 0
    · subst c
      rw [if_neg (by decide), wi]
    · have wm : wrap64 ((i : Int) - 1) = ((i - 1 : Nat) : Int) := by rw [wrap_id (by omega) (by omega)]; omega
      rw [if_pos (by omega), wm, if_pos (by omega), if_pos (by omega), if_pos (t.2 (by omega)), wi]
/-- What Build answers for pieces with rising tags. -/
theorem build_ev (kd : Int) (hk : kd = 1 ∨ kd = 2) (l : List S50) (hne : 0 < l.length) (hn : l.length ≤ 64) (ho : ∀ i, i < l.length → okB (rd_T50 l (i : Int)).f1)
    (ht : ∀ i, i < l.length → (rd_T50 l (i : Int)).f0.size = 4 ∧ (0 < i → Op.bytesLess (rd_T50 l ((i - 1 : Nat) : Int)).f0.toList (rd_T50 l (i : Int)).f0.toList = true))
    (hb : 12 + 16 * l.length + (datB l).length ≤ 1048576) : Ev (fun k => serifref03_Build.f k kd l) (buildB kd l, 0) := by
  have h1 := l1_go kd l hn (fun i hi => ⟨(ht i hi).1, ho i hi⟩) l.length 0 [] [] (by omega) (by omega) rfl (by rw [List.drop_zero]; simp only [List.length_nil]; omega) rfl
  have h0 := l0_go kd l _ hn ht h1 l.length 0 (Nat.sub_zero _) (Nat.zero_le _)
  refine Ev.step (f := fun k => serifref03_Build.l0 k kd l l (l.length : Int) ((0 : Nat) : Int)) (fun k => ?_) ?_
  · have e : ((l.length : Int) == 0) = false := beq_eq_false_iff_ne.2 (by omega)
    unfold serifref03_Build.f
    rcases hk with rfl | rfl
    · rw [if_pos rfl, e]
      rfl
    · rw [if_neg (by decide), if_pos rfl, e]
      rfl
  · unfold buildB
    exact h0
end Go.Proofs.Ytonljpciadeafaa.S
