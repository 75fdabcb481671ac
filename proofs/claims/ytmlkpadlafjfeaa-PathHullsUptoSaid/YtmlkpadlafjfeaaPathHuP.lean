/- Hulls: what Spots and Hull answer, and that a flattened contour lies within its knots' box. -/
import Derived.Test.YtmlkpadlafjfeaaPx0
import Derived.Test.YtmlkpadlafjfeaaPx44
import Derived.Test.YtmlkpadlafjfeaaPx45
import Derived.Test.YtmlkpadlafjfeaaPathAllP
import Derived.Test.YtmlkpadlafjfeaaPathHeldP
set_option linter.unusedVariables false
set_option linter.unusedSimpArgs false
namespace Go.Proofs.Ytmlkpadlafjfeaa.P
open Go Go.RowKit Go.Proofs.YtmlkpadlafjfeaaW.PrintWords Go.Proofs.YtmlkpadlafjfeaaW.PrintLast Go.Proofs.YtmlkpadlafjfeaaW.PrintMore

/-! within a box -/
def inN (lo hi n : Int) : Prop := lo ≤ n ∧ n ≤ hi
theorem nearest_ge {n d M : Int} (hd : 0 < d) (h : M * d ≤ n) : M ≤ nearest n d := by
  unfold nearest
  refine Int.le_ediv_of_mul_le (by omega) ?_
  rw [Int.mul_left_comm]; omega
theorem nearV_in {a d lo hi : Int} (hd : 0 < d) (h0 : lo * d ≤ a) (h1 : a ≤ hi * d) : inN lo hi (nearV a d) := by
  unfold nearV
  by_cases c : a < 0
  · rw [if_pos c]
    have n0 := nearest_nonneg (n := -a) (d := d) (by omega) hd
    have l0 : lo < 0 := Int.not_le.1 fun z => by have := Int.mul_nonneg z (Int.le_of_lt hd); omega
    have k1 := nearest_le (n := -a) (d := d) (M := -lo) hd (by rw [Int.neg_mul]; omega) (by omega)
    refine ⟨by omega, ?_⟩
    by_cases c2 : 0 ≤ hi
    · omega
    · have := nearest_ge (n := -a) (d := d) (M := -hi) hd (by rw [Int.neg_mul]; omega)
      omega
  · rw [if_neg c]
    have n0 := nearest_nonneg (n := a) (d := d) (by omega) hd
    have l1 : 0 ≤ hi := Int.not_lt.1 fun z => by have := Int.mul_neg_of_neg_of_pos z hd; omega
    refine ⟨?_, nearest_le hd h1 l1⟩
    by_cases c2 : lo ≤ 0
    · omega
    · exact nearest_ge hd h0
theorem inN.mul {lo hi a t : Int} (h : inN lo hi a) (ht : 0 ≤ t) : lo * t ≤ a * t ∧ a * t ≤ hi * t := ⟨Int.mul_le_mul_of_nonneg_right h.1 ht, Int.mul_le_mul_of_nonneg_right h.2 ht⟩
theorem q1_in {a c b n i lo hi : Int} (ha : inN lo hi a) (hc : inN lo hi c) (hb : inN lo hi b) (h0 : 0 ≤ i) (h1 : i ≤ n) (hn : 0 < n * n) : inN lo hi (nearV (q1 a c b n i) (n * n)) := by
  obtain ⟨j, hj⟩ : ∃ j, j = n - i := ⟨_, rfl⟩
  have j0 : 0 ≤ j := by omega
  have en : n = i + j := by omega
  have e : q1 a c b n i = a * (j * j) + c * (2 * (i * j)) + b * (i * i) := by unfold q1; rw [← hj]; grind
  have w (z : Int) : z * (n * n) = z * (j * j) + z * (2 * (i * j)) + z * (i * i) := by rw [en]; grind
  have A := ha.mul (Int.mul_nonneg j0 j0)
  have C := hc.mul (show 0 ≤ 2 * (i * j) by have := Int.mul_nonneg h0 j0; omega)
  have B := hb.mul (Int.mul_nonneg h0 h0)
  rw [e]
  exact nearV_in hn (by rw [w]; omega) (by rw [w]; omega)
theorem c1_in {a c d b n i lo hi : Int} (ha : inN lo hi a) (hc : inN lo hi c) (hd : inN lo hi d) (hb : inN lo hi b) (h0 : 0 ≤ i) (h1 : i ≤ n) (hn : 0 < n * n * n) : inN lo hi (nearV (c1 a c d b n i) (n * n * n)) := by
  obtain ⟨j, hj⟩ : ∃ j, j = n - i := ⟨_, rfl⟩
  have j0 : 0 ≤ j := by omega
  have en : n = i + j := by omega
  have e : c1 a c d b n i = a * (j * j * j) + c * (3 * (i * j * j)) + d * (3 * (i * j * i)) + b * (i * i * i) := by unfold c1; rw [← hj]; grind
  have w (z : Int) : z * (n * n * n) = z * (j * j * j) + z * (3 * (i * j * j)) + z * (3 * (i * j * i)) + z * (i * i * i) := by rw [en]; grind
  have ij := Int.mul_nonneg h0 j0
  have A := ha.mul (Int.mul_nonneg (Int.mul_nonneg j0 j0) j0)
  have C := hc.mul (show 0 ≤ 3 * (i * j * j) by have := Int.mul_nonneg ij j0; omega)
  have D := hd.mul (show 0 ≤ 3 * (i * j * i) by have := Int.mul_nonneg ij h0; omega)
  have B := hb.mul (Int.mul_nonneg (Int.mul_nonneg h0 h0) h0)
  rw [e]
  exact nearV_in hn (by rw [w]; omega) (by rw [w]; omega)
/-- A point within a box. -/
def inB (L : Bx) (p : S35) : Prop := inN L.x0 L.x1 p.f0 ∧ inN L.y0 L.y1 p.f1
theorem mid_in {L : Bx} {a b : S40} (ha : inB L (sp a)) (hb : inB L (sp b)) : inB L (midV a b) := by
  obtain ⟨⟨a0, a1⟩, a2, a3⟩ := ha
  obtain ⟨⟨b0, b1⟩, b2, b3⟩ := hb
  simp only [sp] at *
  exact ⟨nearV_in (by omega) (by omega) (by omega), nearV_in (by omega) (by omega) (by omega)⟩
theorem qPs_in {L : Bx} {a c b : S35} {n : Int} (ha : inB L a) (hc : inB L c) (hb : inB L b) (n1 : 1 ≤ n) (hn : n ≤ 16) : ∀ (m : Nat) (i : Int), 0 ≤ i → i + m ≤ n + 1 → ∀ x ∈ qPs a c b n m i, inB L x
  | 0, i, _, _ => by simp [qPs]
  | m + 1, i, h0, h1 => by
    intro x hx
    rw [qPs] at hx
    rcases List.mem_cons.1 hx with e | e
    · rw [e]; exact ⟨q1_in ha.1 hc.1 hb.1 h0 (by omega) (sq_b n1 hn).1, q1_in ha.2 hc.2 hb.2 h0 (by omega) (sq_b n1 hn).1⟩
    · exact qPs_in ha hc hb n1 hn m (i + 1) (by omega) (by omega) x e
theorem cPs_in {L : Bx} {a c d b : S35} {n : Int} (ha : inB L a) (hc : inB L c) (hd : inB L d) (hb : inB L b) (n1 : 1 ≤ n) (hn : n ≤ 16) : ∀ (m : Nat) (i : Int), 0 ≤ i → i + m ≤ n + 1 → ∀ x ∈ cPs a c d b n m i, inB L x
  | 0, i, _, _ => by simp [cPs]
  | m + 1, i, h0, h1 => by
    intro x hx
    rw [cPs] at hx
    rcases List.mem_cons.1 hx with e | e
    · rw [e]; exact ⟨c1_in ha.1 hc.1 hd.1 hb.1 h0 (by omega) (cu_b n1 hn).1, c1_in ha.2 hc.2 hd.2 hb.2 h0 (by omega) (cu_b n1 hn).1⟩
    · exact cPs_in ha hc hd hb n1 hn m (i + 1) (by omega) (by omega) x e
theorem quadV_in {L : Bx} {a c b : S35} (ha : inB L a) (hc : inB L c) (hb : inB L b) : ∀ x ∈ quadV a c b, inB L x := by
  have hp := partsV_pos (bendV a c b)
  exact qPs_in ha hc hb (by omega) (by omega) _ _ (by omega) (by omega)
theorem cubicV_in {L : Bx} {a c d b : S35} (ha : inB L a) (hc : inB L c) (hd : inB L d) (hb : inB L b) : ∀ x ∈ cubicV a c d b, inB L x := by
  have hp := partsV_pos (bendV a c d + bendV c d b)
  exact cPs_in ha hc hd hb (by omega) (by omega) _ _ (by omega) (by omega)
theorem pre_mem {p : List S35} {r : Option (List S35 × Bool)} {q : List S35 × Bool} (h : pre35 p r = some q) : ∃ r', r = some r' ∧ q.1 = p ++ r'.1 := by
  cases r with
  | none => cases h
  | some r' => simp only [pre35, Option.some.injEq] at h; subst h; exact ⟨r', rfl, rfl⟩
theorem ctW_in {L : Bx} (s : S35) (hs : inB L s) : ∀ (m : Nat) (l : List S40) (now : S35) (q : List S35 × Bool), (∀ x ∈ l, inB L (sp x)) → inB L now → ctW s m l now = some q → ∀ x ∈ q.1, inB L x
  | 0, l, now, q, hk, hn, h => by simp only [ctW, Option.some.injEq] at h; subst h; simp
  | m + 1, [], now, q, hk, hn, h => by rw [ctW_nil] at h; simp only [Option.some.injEq] at h; subst h; simp
  | m + 1, k :: r, now, q, hk, hn, h => by
    have hk0 := hk k (by simp)
    have hkr : ∀ y ∈ r, inB L (sp y) := fun y hy => hk y (List.mem_cons_of_mem _ hy)
    have go : ∀ (p : List S35) (l' : List S40) (nw : S35), (∀ x ∈ p, inB L x) → (∀ y ∈ l', inB L (sp y)) → inB L nw → pre35 p (ctW s m l' nw) = some q → ∀ x ∈ q.1, inB L x := by
      intro p l' nw hp hl hw h x hx
      obtain ⟨r', h1, h2⟩ := pre_mem h
      rw [h2] at hx
      rcases List.mem_append.1 hx with e | e
      · exact hp x e
      · exact ctW_in s hs m l' nw r' hl hw h1 x e
    by_cases k1 : k.f2 = 1
    · rw [ctW_on k1] at h
      exact go _ _ _ (fun x hx => by rw [List.mem_singleton.1 hx]; exact hk0) hkr hk0 h
    by_cases k2 : k.f2 = 2
    · match r, hkr, h with
      | [], hkr, h =>
        rw [ctW_q0 k2] at h
        simp only [Option.some.injEq] at h; subst h
        exact quadV_in hn hk0 hs
      | x :: r', hkr, h =>
        have hx := hkr x (by simp)
        rw [ctW_q1 k2] at h
        by_cases c1 : x.f2 = 2
        · rw [if_pos c1] at h
          exact go _ _ _ (quadV_in hn hk0 (mid_in hk0 hx)) hkr (mid_in hk0 hx) h
        · rw [if_neg c1] at h
          by_cases c2 : x.f2 = 3
          · rw [if_pos c2] at h; cases h
          · rw [if_neg c2] at h
            exact go _ _ _ (quadV_in hn hk0 hx) (fun y hy => hkr y (List.mem_cons_of_mem _ hy)) hx h
    · match r, hkr, h with
      | [], hkr, h => rw [ctW_c0 k1 k2] at h; cases h
      | [x], hkr, h =>
        rw [ctW_c1 k1 k2] at h
        by_cases c1 : x.f2 = 3
        · rw [if_pos c1] at h
          simp only [Option.some.injEq] at h; subst h
          exact cubicV_in hn hk0 (hkr x (by simp)) hs
        · rw [if_neg c1] at h; cases h
      | x :: e :: r', hkr, h =>
        have hx := hkr x (by simp)
        have he := hkr e (by simp)
        rw [ctW_c2 k1 k2] at h
        by_cases c1 : x.f2 = 3
        · rw [if_pos c1] at h
          by_cases c2 : e.f2 = 3
          · rw [if_pos c2] at h; cases h
          · rw [if_neg c2] at h
            by_cases c3 : e.f2 = 2
            · rw [if_pos c3] at h; cases h
            · rw [if_neg c3] at h
              exact go _ _ _ (cubicV_in hn hk0 hx he) (fun y hy => hkr y (by simp [hy])) he h
        · rw [if_neg c1] at h; cases h
theorem conV_in {L : Bx} (c : List S40) (hk : ∀ x ∈ c, inB L (sp x)) : ∀ p ∈ (conV c).1, inB L p := by
  unfold conV
  by_cases n0 : c = []
  · rw [if_pos n0]; simp
  rw [if_neg n0]
  have hr : inB L (roundV c).1 ∧ ∀ x ∈ (roundV c).2.1, inB L (sp x) := by
    have sp' := offs_split c
    have m1 : c.headD z40 ∈ c := by
      cases c with
      | nil => exact absurd rfl n0
      | cons a r => simp
    have m2 : c.getLastD z40 ∈ c := by
      rw [List.getLastD_eq_getLast?, List.getLast?_eq_some_getLast n0]; exact List.getLast_mem n0
    unfold roundV
    cases hd : c.dropWhile (fun x => !onK x) with
    | nil => exact ⟨mid_in (hk _ m2) (hk _ m1), hk⟩
    | cons k b =>
      rw [hd] at sp'
      dsimp only
      refine ⟨hk k (by rw [sp']; simp), fun x hx => hk x ?_⟩
      rw [sp']
      rcases List.mem_append.1 hx with h | h
      · simp [h]
      · exact List.mem_append_left _ h
  split
  · simp
  · cases h : ctW (roundV c).1 ((roundV c).2.1.length + 1) (roundV c).2.1 (roundV c).1 with
    | none => simp [endC]
    | some q =>
      have hq := ctW_in (roundV c).1 hr.1 _ _ _ q hr.2 hr.1 h
      intro p hp
      simp only [endC] at hp
      have hp2 : p ∈ [(roundV c).1] ++ q.1 := by
        unfold clos at hp
        split at hp
        · exact List.mem_of_mem_take hp
        · exact hp
      rcases List.mem_append.1 hp2 with e | e
      · rw [List.mem_singleton.1 e]; exact hr.1
      · exact hq p e
/-! lengths -/
theorem pre_shr {p : List S35} {r : Option (List S35 × Bool)} {q : List S35 × Bool} (h : pre35 p r = some q) : ∃ r', r = some r' ∧ q.1.length = p.length + r'.1.length := by
  cases r with
  | none => cases h
  | some r' => simp only [pre35, Option.some.injEq] at h; subst h; exact ⟨r', rfl, by simp⟩
theorem ctW_shr (s : S35) : ∀ (m : Nat) (l : List S40) (now : S35) (q : List S35 × Bool), ctW s m l now = some q → q.1.length ≤ 16 * m
  | 0, l, now, q, h => by simp only [ctW, Option.some.injEq] at h; subst h; simp
  | m + 1, [], now, q, h => by rw [ctW_nil] at h; simp only [Option.some.injEq] at h; subst h; simp
  | m + 1, k :: r, now, q, h => by
    by_cases k1 : k.f2 = 1
    · rw [ctW_on k1] at h
      obtain ⟨r', h1, h2⟩ := pre_shr h
      have := ctW_shr s m _ _ _ h1
      simp at h2; omega
    by_cases k2 : k.f2 = 2
    · match r, h with
      | [], h =>
        rw [ctW_q0 k2] at h
        simp only [Option.some.injEq] at h; subst h
        have := quadV_len now (sp k) s; dsimp only; omega
      | x :: r', h =>
        rw [ctW_q1 k2] at h
        by_cases c1 : x.f2 = 2
        · rw [if_pos c1] at h
          obtain ⟨r', h1, h2⟩ := pre_shr h
          have := ctW_shr s m _ _ _ h1
          have := quadV_len now (sp k) (midV k x); omega
        · rw [if_neg c1] at h
          by_cases c2 : x.f2 = 3
          · rw [if_pos c2] at h; cases h
          · rw [if_neg c2] at h
            obtain ⟨r', h1, h2⟩ := pre_shr h
            have := ctW_shr s m _ _ _ h1
            have := quadV_len now (sp k) (sp x); omega
    · match r, h with
      | [], h => rw [ctW_c0 k1 k2] at h; cases h
      | [x], h =>
        rw [ctW_c1 k1 k2] at h
        by_cases c1 : x.f2 = 3
        · rw [if_pos c1] at h
          simp only [Option.some.injEq] at h; subst h
          have := cubicV_len now (sp k) (sp x) s; dsimp only; omega
        · rw [if_neg c1] at h; cases h
      | x :: e :: r', h =>
        rw [ctW_c2 k1 k2] at h
        by_cases c1 : x.f2 = 3
        · rw [if_pos c1] at h
          by_cases c2 : e.f2 = 3
          · rw [if_pos c2] at h; cases h
          · rw [if_neg c2] at h
            by_cases c3 : e.f2 = 2
            · rw [if_pos c3] at h; cases h
            · rw [if_neg c3] at h
              obtain ⟨r', h1, h2⟩ := pre_shr h
              have := ctW_shr s m _ _ _ h1
              have := cubicV_len now (sp k) (sp x) (sp e); omega
        · rw [if_neg c1] at h; cases h
theorem clos_shr (o : List S35) (b : Bool) : (clos o b).length ≤ o.length := by
  unfold clos; split
  · rw [List.length_take]; omega
  · omega
theorem conV_short {c : List S40} (hc : c.length ≤ 4096) (hk : ∀ x ∈ c, okK x) : (conV c).1.length ≤ 100000 := by
  unfold conV
  by_cases n0 : c = []
  · rw [if_pos n0]; simp
  rw [if_neg n0]
  obtain ⟨r1, r2, r3⟩ := roundV_in c n0 hk
  split
  · simp
  · cases h : ctW (roundV c).1 ((roundV c).2.1.length + 1) (roundV c).2.1 (roundV c).1 with
    | none => simp [endC]
    | some q =>
      have := ctW_shr _ _ _ _ _ h
      have h2 := clos_shr ([(roundV c).1] ++ q.1) q.2
      simp only [endC]
      rw [List.length_append, List.length_singleton] at h2
      omega
/-! the least box -/
theorem mn_le (a b : Int) : mn a b ≤ a ∧ mn a b ≤ b := by unfold mn; split <;> omega
theorem mx_ge (a b : Int) : a ≤ mx a b ∧ b ≤ mx a b := by unfold mx; split <;> omega
/-- What has points holds them; what holds them holds the box. -/
theorem all_holds : ∀ (l : List S35) (b : Bx), (b.s = true → ∀ p, inB b p → inB (b.all l) p) ∧ ((∀ p ∈ l, inB (b.all l) p))
  | [], b => ⟨fun _ p h => h, by simp⟩
  | q :: l, b => by
    have ih := all_holds l (b.add q.f0 q.f1)
    have hs : (b.add q.f0 q.f1).s = true := by unfold Bx.add; split <;> rfl
    have hq : inB (b.add q.f0 q.f1) q := by
      unfold Bx.add inB inN
      split
      · have h1 := mn_le b.x0 q.f0; have h2 := mx_ge b.x1 q.f0; have h3 := mn_le b.y0 q.f1; have h4 := mx_ge b.y1 q.f1
        dsimp only; omega
      · dsimp only; omega
    refine ⟨fun hb p hp => ih.1 hs p ?_, fun p hp => ?_⟩
    · unfold Bx.add
      rw [if_pos hb]
      have h1 := mn_le b.x0 q.f0; have h2 := mx_ge b.x1 q.f0; have h3 := mn_le b.y0 q.f1; have h4 := mx_ge b.y1 q.f1
      unfold inB inN at *
      dsimp only; omega
    · rcases List.mem_cons.1 hp with e | e
      · rw [e]; exact ih.1 hs q hq
      · exact ih.2 p e
/-- One box lies within another. -/
def Bx.sub (b L : Bx) : Prop := L.x0 ≤ b.x0 ∧ L.y0 ≤ b.y0 ∧ b.x1 ≤ L.x1 ∧ b.y1 ≤ L.y1
theorem all_least {L : Bx} : ∀ (l : List S35) (b : Bx), (∀ p ∈ l, inB L p) → (b.s = true → b.sub L) → (b.all l).s = true → (b.all l).sub L
  | [], b, hl, hb, hs => hb hs
  | q :: l, b, hl, hb, hs => by
    have hq := hl q (by simp)
    refine all_least l (b.add q.f0 q.f1) (fun p hp => hl p (List.mem_cons_of_mem _ hp)) (fun _ => ?_) hs
    unfold Bx.add
    unfold inB inN at hq
    by_cases c : b.s = true
    · rw [if_pos c]
      have h := hb c
      unfold Bx.sub at *
      unfold mn mx
      dsimp only
      refine ⟨?_, ?_, ?_, ?_⟩ <;> split <;> omega
    · rw [if_neg c]
      unfold Bx.sub
      dsimp only; omega
theorem all_s : ∀ (l : List S35) (b : Bx), (b.all l).s = (b.s || decide (0 < l.length))
  | [], b => by simp [Bx.all]
  | q :: l, b => by
    have hs : (b.add q.f0 q.f1).s = true := by unfold Bx.add; split <;> rfl
    have ih := all_s l (b.add q.f0 q.f1)
    rw [hs, Bool.true_or] at ih
    rw [show b.all (q :: l) = (b.add q.f0 q.f1).all l from rfl, ih]
    simp
/-! the reference's Spots and Hull -/
theorem spots_l1s (k : Nat) (x3 : List S35) (o : List (List S40)) (i : Int) (row : List S40) (j : Nat) (hj : j < row.length) (hr : row.length ≤ 9000000000000000000) (hx : x3.length < 8796093022208) : serifref06_Spots.l1 (k + 1) x3 o (o.length : Int) i row (row.length : Int) (j : Int) = serifref06_Spots.l1 k (x3 ++ [sp row[j]]) o (o.length : Int) i row (row.length : Int) ((j + 1 : Nat) : Int) := by
  have h1 : (j : Int) < (row.length : Int) := by omega
  have h2 : (0 : Int) ≤ (j : Int) := by omega
  rw [serifref06_Spots.l1, if_pos h1, if_pos h2, if_pos h1, if_pos hx, rd40 hj, nx64 (by omega)]; rfl
theorem spots_l1 (o : List (List S40)) (i : Nat) (row : List S40) (hr : row.length ≤ 9000000000000000000) (r : List S35) : ∀ (d j : Nat) (x3 : List S35), row.length - j = d → j ≤ row.length → x3.length + (row.length - j) < 8796093022208 →
    Ev (fun k => serifref06_Spots.l0 k (x3 ++ (row.drop j).map sp) o (o.length : Int) (wrap64 ((i : Int) + 1))) r → Ev (fun k => serifref06_Spots.l1 k x3 o (o.length : Int) (i : Int) row (row.length : Int) (j : Int)) r := by
  intro d
  induction d with
  | zero =>
    intro j x3 e hj hx h
    rw [List.drop_of_length_le (by omega), List.map_nil, List.append_nil] at h
    refine Ev.step (fun k => ?_) h
    rw [serifref06_Spots.l1, if_neg (by omega)]
  | succ d ih =>
    intro j x3 e hj hx h
    have hlt : j < row.length := by omega
    rw [List.drop_eq_getElem_cons hlt, List.map_cons] at h
    refine Ev.step (fun k => spots_l1s k x3 o i row j hlt hr (by omega)) (ih (j + 1) _ (by omega) (by omega) (by rw [List.length_append, List.length_singleton]; omega) ?_)
    rw [List.append_assoc]; exact h
theorem spots_l0 (o : List (List S40)) (hl : o.length ≤ 1048576) (hr : ∀ r ∈ o, r.length ≤ 1048576) : ∀ (d i : Nat) (x3 : List S35), o.length - i = d → i ≤ o.length → x3.length ≤ 1048576 * i → Ev (fun k => serifref06_Spots.l0 k x3 o (o.length : Int) (i : Int)) (x3 ++ (o.drop i).flatten.map sp) := by
  intro d
  induction d with
  | zero =>
    intro i x3 e hi hx
    refine Ev.step (f := fun _ => some x3) (fun k => ?_) (by rw [List.drop_of_length_le (by omega)]; simp only [List.flatten_nil, List.map_nil, List.append_nil]; exact Ev.now _)
    rw [serifref06_Spots.l0, if_neg (by omega)]
  | succ d ih =>
    intro i x3 e hi hx
    have hlt : i < o.length := by omega
    have hrow := hr _ (List.getElem_mem hlt)
    have h1 : (i : Int) < (o.length : Int) := by omega
    have h2 : (0 : Int) ≤ (i : Int) := by omega
    refine Ev.step (f := fun k => serifref06_Spots.l1 k x3 o (o.length : Int) (i : Int) o[i] (o[i].length : Int) ((0 : Nat) : Int)) (fun k => ?_) (spots_l1 o i o[i] (by omega) _ o[i].length 0 x3 (by omega) (by omega) (by omega) ?_)
    · rw [serifref06_Spots.l0, if_pos h1, if_pos h2, if_pos h1, rdL2 hlt]; rfl
    · rw [List.drop_zero, nx64 (by omega)]
      have h := ih (i + 1) (x3 ++ o[i].map sp) (by omega) (by omega) (by rw [List.length_append, List.length_map]; omega)
      rw [List.drop_eq_getElem_cons hlt, List.flatten_cons, List.map_append, ← List.append_assoc]
      exact h
theorem spots_ev (o : List (List S40)) (hl : o.length ≤ 1048576) (hr : ∀ r ∈ o, r.length ≤ 1048576) : Ev (fun k => serifref06_Spots.f k o) (o.flatten.map sp) := by
  have h := spots_l0 o hl hr o.length 0 [] (by omega) (by omega) (by simp)
  rw [List.drop_zero, List.nil_append] at h
  exact h
def bxT (b : Bx) (s : Bool) : Int × Int × Int × Int × Bool := (b.x0, b.y0, b.x1, b.y1, s)
theorem hull_step (k : Nat) (l : List S35) (i : Nat) (hi : i < l.length) (hl : l.length ≤ 9000000000000000000) (b : Bx) (hb : b.s = true ↔ 0 < i) : serifref06_Hull.l0 (k + 6) l l (l.length : Int) (i : Int) b.x0 b.y0 b.x1 b.y1 = serifref06_Hull.l0 k l l (l.length : Int) ((i + 1 : Nat) : Int) (b.add l[i].f0 l[i].f1).x0 (b.add l[i].f0 l[i].f1).y0 (b.add l[i].f0 l[i].f1).x1 (b.add l[i].f0 l[i].f1).y1 := by
  have h1 : (i : Int) < (l.length : Int) := by omega
  have h2 : (0 : Int) ≤ (i : Int) := by omega
  have en := nx64 (i := i) (by omega)
  generalize hX : l[i] = X
  have er : rd_T35 l (i : Int) = X := by rw [rd35 hi, hX]
  show serifref06_Hull.l0 (k + 5 + 1) l l (l.length : Int) (i : Int) b.x0 b.y0 b.x1 b.y1 = _
  rw [serifref06_Hull.l0, if_pos h1, if_pos h2, if_pos h1, er]
  have jj (v1 v2 v3 : Bool) (a0 a1 a2 a3 : Int) : True := trivial
  by_cases c : (i : Int) = 0
  · have c' : ¬ b.s = true := fun z => by have := hb.1 z; omega
    rw [if_pos c]
    show serifref06_Hull.j1 (k + 4 + 1) l (i : Int) l (l.length : Int) (i : Int) true b.x0 b.y0 b.x1 b.y1 X.f0 X.f1 = _
    rw [serifref06_Hull.j1, if_pos rfl]
    show serifref06_Hull.j2 (k + 3 + 1) l (i : Int) l (l.length : Int) (i : Int) X.f0 b.y0 b.x1 b.y1 X.f0 X.f1 = _
    rw [serifref06_Hull.j2, if_pos c]
    show serifref06_Hull.j3 (k + 2 + 1) l (i : Int) l (l.length : Int) (i : Int) true X.f0 b.y0 b.x1 b.y1 X.f0 X.f1 = _
    rw [serifref06_Hull.j3, if_pos rfl]
    show serifref06_Hull.j4 (k + 1 + 1) l (i : Int) l (l.length : Int) (i : Int) X.f0 X.f1 b.x1 b.y1 X.f0 X.f1 = _
    rw [serifref06_Hull.j4, if_pos c]
    rw [serifref06_Hull.j5, if_pos rfl, if_pos c, en]
    unfold Bx.add
    rw [if_neg c']
  · have c' : b.s = true := hb.2 (by omega)
    rw [if_neg c]
    have ba : b.add X.f0 X.f1 = ⟨mn b.x0 X.f0, mn b.y0 X.f1, mx b.x1 X.f0, mx b.y1 X.f1, true⟩ := by unfold Bx.add; rw [if_pos c']
    rw [ba]
    have s1 (k : Nat) (v : Bool) (hv : v = decide (X.f0 < b.x0)) : serifref06_Hull.j1 (k + 1) l (i : Int) l (l.length : Int) (i : Int) v b.x0 b.y0 b.x1 b.y1 X.f0 X.f1 = serifref06_Hull.j2 k l (i : Int) l (l.length : Int) (i : Int) (mn b.x0 X.f0) b.y0 b.x1 b.y1 X.f0 X.f1 := by
      rw [serifref06_Hull.j1, hv]; unfold mn
      by_cases z : X.f0 < b.x0
      · rw [if_pos (decide_eq_true z), if_pos z]
      · rw [if_neg (by simp [z]), if_neg z]
    have s3 (k : Nat) (a : Int) (v : Bool) (hv : v = decide (X.f1 < b.y0)) : serifref06_Hull.j3 (k + 1) l (i : Int) l (l.length : Int) (i : Int) v a b.y0 b.x1 b.y1 X.f0 X.f1 = serifref06_Hull.j4 k l (i : Int) l (l.length : Int) (i : Int) a (mn b.y0 X.f1) b.x1 b.y1 X.f0 X.f1 := by
      rw [serifref06_Hull.j3, hv]; unfold mn
      by_cases z : X.f1 < b.y0
      · rw [if_pos (decide_eq_true z), if_pos z]
      · rw [if_neg (by simp [z]), if_neg z]
    have s5 (k : Nat) (a a' : Int) (v : Bool) (hv : v = decide (X.f0 > b.x1)) : serifref06_Hull.j5 (k + 1) l (i : Int) l (l.length : Int) (i : Int) v a a' b.x1 b.y1 X.f0 X.f1 = serifref06_Hull.l0 k l l (l.length : Int) ((i + 1 : Nat) : Int) a a' (mx b.x1 X.f0) (mx b.y1 X.f1) := by
      rw [serifref06_Hull.j5, hv, en]; unfold mx
      by_cases z : X.f0 > b.x1
      · rw [if_pos (decide_eq_true z), if_neg c, if_pos (show b.x1 < X.f0 by omega)]
        by_cases z2 : X.f1 > b.y1
        · rw [if_pos z2, if_pos (show b.y1 < X.f1 by omega)]
        · rw [if_neg z2, if_neg (show ¬ b.y1 < X.f1 by omega)]
      · rw [if_neg (by simp [z]), if_neg c, if_neg (show ¬ b.x1 < X.f0 by omega)]
        by_cases z2 : X.f1 > b.y1
        · rw [if_pos z2, if_pos (show b.y1 < X.f1 by omega)]
        · rw [if_neg z2, if_neg (show ¬ b.y1 < X.f1 by omega)]
    rw [show k + 5 = k + 4 + 1 from rfl, s1 _ _ rfl, show k + 4 = k + 3 + 1 from rfl, serifref06_Hull.j2, if_neg c, show k + 3 = k + 2 + 1 from rfl, s3 _ _ _ rfl, show k + 2 = k + 1 + 1 from rfl, serifref06_Hull.j4, if_neg c, s5 _ _ _ _ rfl]
theorem hull_l0 (l : List S35) (hl : l.length ≤ 9000000000000000000) : ∀ (d i : Nat) (b : Bx), l.length - i = d → i ≤ l.length → (b.s = true ↔ 0 < i) → Ev (fun k => serifref06_Hull.l0 k l l (l.length : Int) (i : Int) b.x0 b.y0 b.x1 b.y1) (bxT (b.all (l.drop i)) (decide (0 < l.length))) := by
  intro d
  induction d with
  | zero =>
    intro i b e hi hb
    rw [List.drop_of_length_le (by omega)]
    refine Ev.step (f := fun _ => some (bxT b (decide (0 < l.length)))) (fun k => ?_) (Ev.now _)
    rw [serifref06_Hull.l0, if_neg (by omega)]
    have : decide ((l.length : Int) > 0) = decide (0 < l.length) := by
      by_cases z : 0 < l.length
      · rw [decide_eq_true z, decide_eq_true (by omega)]
      · rw [decide_eq_false z, decide_eq_false (by omega)]
    rw [this]; rfl
  | succ d ih =>
    intro i b e hi hb
    have hlt : i < l.length := by omega
    have hs : (b.add l[i].f0 l[i].f1).s = true := by unfold Bx.add; split <;> rfl
    have h := ih (i + 1) (b.add l[i].f0 l[i].f1) (by omega) (by omega) ⟨fun _ => by omega, fun _ => hs⟩
    obtain ⟨K, hK⟩ := h
    refine ⟨K + 6, fun k hk => ?_⟩
    obtain ⟨k, rfl⟩ : ∃ q, k = q + 6 := ⟨k - 6, by omega⟩
    show serifref06_Hull.l0 (k + 6) l l (l.length : Int) (i : Int) b.x0 b.y0 b.x1 b.y1 = _
    rw [hull_step k l i hlt hl b hb, List.drop_eq_getElem_cons hlt]
    exact hK k (by omega)
theorem rhull_ev (l : List S35) (hl : l.length ≤ 9000000000000000000) : Ev (fun k => serifref06_Hull.f k l) (bxT (Bx.none.all l) (Bx.none.all l).s) := by
  have h := hull_l0 l hl l.length 0 Bx.none (by omega) (by omega) ⟨fun z => (by cases z), fun z => (by omega)⟩
  rw [all_s]
  exact h
end Go.Proofs.Ytmlkpadlafjfeaa.P
