/- JustifyFair answers true for any boxes, any glue and any width, where what it reads is of bulk at most 1048576: the glue of a line that is set differs by one at most. -/
import Derived.Test.YtfbanppdiglciaaYx0
import Derived.Test.YtfbanppdiglciaaYx12
import Derived.Test.YtfbanppdiglciaaJusAliveY
import Derived.Test.YtfbanppdiglciaaJusFactY
import Derived.Test.YtfbanppdiglciaaYx27
set_option linter.unusedVariables false
set_option linter.unusedSimpArgs false
namespace Go.Proofs.Ytfbanppdiglciaa.Pure
open Go Go.RowKit Go.Proofs.Ytfbanppdiglciaa.Y Go.Proofs.YtfbanppdiglciaaW.PrintWords Go.Proofs.YtfbanppdiglciaaW.PrintLast
theorem floor_step {A B W : Int} (hW : 0 < W) : B / W ≤ (A + B) / W - A / W ∧ (A + B) / W - A / W ≤ B / W + 1 := by
  have a := Int.mul_ediv_add_emod A W
  have b := Int.mul_ediv_add_emod B W
  have a0 := Int.emod_nonneg A (show W ≠ 0 by omega)
  have a1 := Int.emod_lt_of_pos A hW
  have b0 := Int.emod_nonneg B (show W ≠ 0 by omega)
  have b1 := Int.emod_lt_of_pos B hW
  have e : A + B = (A % W + B % W) + W * (A / W + B / W) := by rw [Int.mul_add]; omega
  rw [e, Int.add_mul_ediv_left _ _ (by omega)]
  have c0 : 0 ≤ (A % W + B % W) / W := Int.ediv_nonneg (by omega) (by omega)
  have c1 : (A % W + B % W) / W < 2 := Int.ediv_lt_of_lt_mul hW (by omega)
  omega
theorem spP_fair {d W : Int} {b : Bool} {p gw : Int} (hW : 0 < W) : ∀ (J : List S31) (dn : Int) (i : Nat) (x : S31), (∀ y ∈ J, y.f0 = 2 → gvs b y = p ∧ nw y = gw) → J[i]? = some x → x.f0 = 2 →
    ∃ z, (spP d W b J (J.map nw) dn)[i]? = some z ∧ gw + d * p / W ≤ z ∧ z ≤ gw + d * p / W + 1
  | [], dn, i, x, _, h, _ => by simp at h
  | y :: r, dn, 0, x, hy, h, hx => by
    simp only [List.getElem?_cons_zero, Option.some.injEq] at h
    subst h
    obtain ⟨e1, e2⟩ := hy y (by simp) hx
    rw [List.map_cons, spP, if_pos hx, e1, e2]
    have f := floor_step (A := d * dn) (B := d * p) hW
    rw [Int.mul_add]
    exact ⟨_, rfl, by omega, by omega⟩
  | y :: r, dn, i + 1, x, hy, h, hx => by
    rw [List.getElem?_cons_succ] at h
    rw [List.map_cons, spP]
    split
    · exact spP_fair hW r _ i x (fun z hz => hy z (by simp [hz])) h hx
    · exact spP_fair hW r _ i x (fun z hz => hy z (by simp [hz])) h hx
theorem spSP_fair {d S H : Int} {J : List S31} {g : S31} (hS : S = gvAll true J) (hx : ∀ x ∈ J, 0 ≤ x.f2 ∧ 0 ≤ x.f3) (hg : ∀ y ∈ J, y.f0 = 2 → y = g) (h : (spSP d S H J (J.map nw)).2 = true) :
    ∃ c : Int, ∀ i : Nat, J[i]? = some g → g.f0 = 2 → ∃ z, (spSP d S H J (J.map nw)).1[i]? = some z ∧ c ≤ z ∧ z ≤ c + 1 := by
  have s0 := gvAll_nn true J hx
  have hg' : ∀ b, ∀ y ∈ J, y.f0 = 2 → gvs b y = gvs b g ∧ nw y = nw g := fun b y hy h2 => by rw [hg y hy h2]; exact ⟨rfl, rfl⟩
  unfold spSP at h ⊢
  by_cases a : d = 0
  · simp only [if_pos a]
    refine ⟨nw g, fun i hi _ => ⟨nw g, ?_, by omega, by omega⟩⟩
    rw [List.getElem?_map, hi]; rfl
  simp only [if_neg a] at h ⊢
  by_cases n : d < 0
  · simp only [if_pos n] at h ⊢
    by_cases z : H = 0 ∨ H < -d
    · simp [if_pos z] at h
    simp only [if_neg z]
    exact ⟨_, fun i hi h2 => spP_fair (by omega) J 0 i g (hg' false) hi h2⟩
  · simp only [if_neg n] at h ⊢
    by_cases z : S = 0
    · simp [if_pos z] at h
    simp only [if_neg z]
    exact ⟨_, fun i hi h2 => spP_fair (by omega) J 0 i g (hg' true) hi h2⟩
/-- The line: boxes with the glue between. -/
def fA (g : S31) (xs : List Int) : Nat → List S31
  | 0 => []
  | i + 1 => if i = 0 then [⟨1, rd xs (i : Int), 0, 0, 0, false⟩] else fA g xs i ++ [g] ++ [⟨1, rd xs (i : Int), 0, 0, 0, false⟩]
theorem fA_len (g : S31) (xs : List Int) : ∀ i, (fA g xs (i + 1)).length = 2 * i + 1
  | 0 => rfl
  | i + 1 => by
    unfold fA; rw [if_neg (by omega)]
    simp only [List.length_append, List.length_cons, List.length_nil, fA_len g xs i]; omega
theorem fA_at (g : S31) (xs : List Int) : ∀ (i j : Nat) (x : S31), (fA g xs i)[j]? = some x → (j % 2 = 1 → x = g) ∧ (j % 2 = 0 → x.f0 = 1)
  | 0, j, x, h => by simp [fA] at h
  | 1, j, x, h => by
    simp only [fA, if_true] at h
    match j, h with
    | 0, h => simp only [List.getElem?_cons_zero, Option.some.injEq] at h; subst h; exact ⟨fun z => by omega, fun _ => rfl⟩
    | j + 1, h => simp at h
  | i + 2, j, x, h => by
    have hl := fA_len g xs i
    unfold fA at h; rw [if_neg (by omega)] at h
    by_cases c : j < 2 * i + 1
    · rw [List.append_assoc, List.getElem?_append_left (by omega)] at h
      exact fA_at g xs (i + 1) j x h
    · rw [List.append_assoc, List.getElem?_append_right (by omega), hl] at h
      by_cases c1 : j = 2 * i + 1
      · subst c1
        simp only [Nat.sub_self, List.cons_append, List.nil_append, List.getElem?_cons_zero, Option.some.injEq] at h
        exact ⟨fun _ => h.symm, fun z => by omega⟩
      · by_cases c2 : j = 2 * i + 2
        · subst c2
          rw [show 2 * i + 2 - (2 * i + 1) = 1 by omega] at h
          simp only [List.cons_append, List.nil_append, List.getElem?_cons_succ, List.getElem?_cons_zero, Option.some.injEq] at h
          subst h
          exact ⟨fun z => by omega, fun _ => rfl⟩
        · rw [List.getElem?_eq_none (by simp; omega)] at h; cases h
theorem fair_l1 {R : List Int} {c : Int} (hR : R.length ≤ 100000) (ho : ∀ j, j < R.length → j % 2 = 1 → c ≤ rd R (j : Int) ∧ rd R (j : Int) ≤ c + 1) : ∀ (d i : Nat) (le mo : Int), R.length - i = d → i ≤ R.length →
    ((i ≤ 1 ∧ le = 0 ∧ mo = 0) ∨ (2 ≤ i ∧ c ≤ le ∧ le ≤ c + 1 ∧ c ≤ mo ∧ mo ≤ c + 1)) → Ev (fun k => seriflaw20_JustifyFair.l1 k R le mo (R.length : Int) (i : Int)) true := by
  intro d
  induction d with
  | zero =>
    intro i le mo e hi inv
    refine Ev.intro 1 fun k => ?_
    simp only [seriflaw20_JustifyFair.l1]
    rw [if_neg (by omega), wrap64_in' (n := mo - le) (by omega) (by omega), decide_eq_true (by omega)]
  | succ d ih =>
    intro i le mo e hi inv
    have hlt : i < R.length := by omega
    have tm : Int.tmod (i : Int) 2 = (i : Int) % 2 := Int.tmod_eq_emod_of_nonneg (by omega)
    have nx : wrap64 ((i : Int) + 1) = ((i + 1 : Nat) : Int) := by rw [wrap64_in' (by omega) (by omega)]; omega
    have go : ∀ (le' mo' : Int), ((i + 1 ≤ 1 ∧ le' = 0 ∧ mo' = 0) ∨ (2 ≤ i + 1 ∧ c ≤ le' ∧ le' ≤ c + 1 ∧ c ≤ mo' ∧ mo' ≤ c + 1)) → (∀ k, seriflaw20_JustifyFair.l1 (k + 2) R le mo (R.length : Int) (i : Int) = seriflaw20_JustifyFair.l1 k R le' mo' (R.length : Int) ((i + 1 : Nat) : Int)) → Ev (fun k => seriflaw20_JustifyFair.l1 k R le mo (R.length : Int) (i : Int)) true := by
      intro le' mo' h1 h2
      obtain ⟨K, hK⟩ := ih (i + 1) le' mo' (by omega) (by omega) h1
      refine ⟨K + 2, fun k hk => ?_⟩
      obtain ⟨k, rfl⟩ : ∃ q, k = q + 2 := ⟨k - 2, by omega⟩
      show seriflaw20_JustifyFair.l1 (k + 2) R le mo (R.length : Int) (i : Int) = _
      rw [h2 k]; exact hK k (by omega)
    have q1 : (i : Int) < (R.length : Int) := by omega
    have q0 : (0 : Int) ≤ (i : Int) := by omega
    by_cases od : i % 2 = 1
    · have om : (i : Int) % 2 = 1 := by omega
      have hv := ho i hlt od
      by_cases i1 : i = 1
      · have i1' : (i : Int) = 1 := by omega
        refine go (rd R (i : Int)) (rd R (i : Int)) (.inr ⟨by omega, hv.1, hv.2, hv.1, hv.2⟩) fun k => ?_
        simp only [seriflaw20_JustifyFair.l1, seriflaw20_JustifyFair.j3, tm, om, if_true, q1, q0, nx]
        simp only [i1', if_true]
      · have i1' : ¬ (i : Int) = 1 := by omega
        have inv' : c ≤ le ∧ le ≤ c + 1 ∧ c ≤ mo ∧ mo ≤ c + 1 := by omega
        by_cases lt : rd R (i : Int) < le
        · by_cases gt : rd R (i : Int) > mo
          · refine go (rd R (i : Int)) (rd R (i : Int)) (.inr ⟨by omega, hv.1, hv.2, hv.1, hv.2⟩) fun k => ?_
            simp only [seriflaw20_JustifyFair.l1, seriflaw20_JustifyFair.j3, tm, om, if_true, q1, q0, nx, i1', if_false, decide_eq_true lt, gt]
          · refine go (rd R (i : Int)) mo (.inr ⟨by omega, hv.1, hv.2, inv'.2.2⟩) fun k => ?_
            simp only [seriflaw20_JustifyFair.l1, seriflaw20_JustifyFair.j3, tm, om, if_true, q1, q0, nx, i1', if_false, decide_eq_true lt, gt]
        · by_cases gt : rd R (i : Int) > mo
          · refine go le (rd R (i : Int)) (.inr ⟨by omega, inv'.1, inv'.2.1, hv.1, hv.2⟩) fun k => ?_
            simp only [seriflaw20_JustifyFair.l1, seriflaw20_JustifyFair.j3, tm, om, if_true, q1, q0, nx, i1', if_false, decide_eq_false lt, gt, Bool.false_eq_true]
          · refine go le mo (.inr ⟨by omega, inv'⟩) fun k => ?_
            simp only [seriflaw20_JustifyFair.l1, seriflaw20_JustifyFair.j3, tm, om, if_true, q1, q0, nx, i1', if_false, decide_eq_false lt, gt, Bool.false_eq_true]
    · have om : ¬ (i : Int) % 2 = 1 := by omega
      refine go le mo (by omega) fun k => ?_
      simp only [seriflaw20_JustifyFair.l1, seriflaw20_JustifyFair.j3, tm, om, if_true, q1, q0, nx, if_false, Bool.false_eq_true]
theorem fair_l0 {w : Int} {g : S31} {xs : List Int} {r : Bool} (hx : xs.length ≤ 1048576)
    (hend : Ev (fun k => seriflaw20_JustifyFair.l0 k w (fA g xs xs.length) xs (xs.length : Int) (xs.length : Int) g.f0 g.f1 g.f2 g.f3 g.f4 g.f5) r) : ∀ (d i : Nat), xs.length - i = d → i ≤ xs.length →
    Ev (fun k => seriflaw20_JustifyFair.l0 k w (fA g xs i) xs (xs.length : Int) (i : Int) g.f0 g.f1 g.f2 g.f3 g.f4 g.f5) r := by
  intro d
  induction d with
  | zero =>
    intro i e hi
    have : i = xs.length := by omega
    subst this; exact hend
  | succ d ih =>
    intro i e hi
    refine Ev.step (fun k => ?_) (ih (i + 1) (by omega) (by omega))
    simp only [seriflaw20_JustifyFair.l0]
    rw [if_pos (by omega), if_pos (by omega), if_pos (by omega), wrap64_in' (n := (i : Int) + 1) (by omega) (by omega)]
    by_cases i0 : i = 0
    · subst i0
      rw [if_neg (by omega), if_pos (by simp [fA])]; rfl
    · obtain ⟨j, rfl⟩ : ∃ j, i = j + 1 := ⟨i - 1, by omega⟩
      have hl := fA_len g xs j
      rw [if_pos (by omega), if_pos (by omega)]
      simp only [Option.bind_some]
      rw [if_pos (by rw [List.length_append, hl]; simp; omega)]
      have : fA g xs (j + 1 + 1) = fA g xs (j + 1) ++ [g] ++ [⟨1, rd xs ((j + 1 : Nat) : Int), 0, 0, 0, false⟩] := by
        rw [fA]; rw [if_neg (by omega)]
      rw [this]; rfl
theorem fair_end {L : List S31} {g : S31} {w : Int} (hL : ∀ (j : Nat) (x : S31), L[j]? = some x → (j % 2 = 1 → x = g) ∧ (j % 2 = 0 → x.f0 = 1)) (hg : g.f0 = 2) (ho : L.length % 2 = 1 ∨ L = []) (c : chkL L w 0 = 0) (fl : (setP L 0 L.length w).2 = true) :
    ∃ q, ∀ j, j < (setR L 0 L.length w).length → j % 2 = 1 → q ≤ rd (setR L 0 L.length w) (j : Int) ∧ rd (setR L 0 L.length w) (j : Int) ≤ q + 1 := by
  have F := Fine.of c
  have ls := line_sums (L := L) (a := 0) (t := L.length) (by omega) (Nat.le_refl _)
  have hB := stB_eq (L := L) (a := 0) (t := L.length) (by omega) (Nat.le_refl _)
  have B0 : stB (stIn L 0 L.length) = 0 := by
    rcases Nat.eq_zero_or_pos (bN L 0) with z | z
    · omega
    · rcases Nat.eq_zero_or_pos L.length with y | y
      · omega
      · have := bN_no L (a := 0) (i := 0) (by omega) (by omega) z
        have e := (hL 0 (itm L 0) (by rw [List.getElem?_eq_getElem y, itm_get y])).2 rfl
        exact absurd e this
  have J0 : jJ L 0 L.length = L := by unfold jJ; rw [B0]; unfold stIn; simp
  have E0 : jE L L.length = [] := by unfold jE; rw [if_neg (by omega)]
  have eR : setR L 0 L.length w = (setP L 0 L.length w).1 := by unfold setR; rw [B0]; rfl
  unfold setP at eR fl
  rw [J0, E0, List.append_nil] at eR fl
  rw [J0] at ls
  have hmem : ∀ y ∈ L, y.f0 = 2 → y = g := by
    intro y hy h2
    obtain ⟨j, hj, rfl⟩ := List.mem_iff_getElem.1 hy
    have := hL j L[j] (List.getElem?_eq_getElem hj)
    rcases Nat.mod_two_eq_zero_or_one j with z | z
    · have := this.2 z; omega
    · exact this.1 z
  obtain ⟨q, hq⟩ := spSP_fair ls.2.1 (fun x hx => by have := fine_ok F x hx; unfold itOk at this; omega) hmem fl
  refine ⟨q, fun j hj od => ?_⟩
  rw [eR] at hj ⊢
  rw [spSP_len (by simp), List.length_map] at hj
  have lj := hL j L[j] (List.getElem?_eq_getElem hj)
  obtain ⟨z, hz, z1, z2⟩ := hq j (by rw [List.getElem?_eq_getElem hj, lj.1 od]) hg
  have e : rd (spSP (w - (lineS L 0 L.length).1) (lineS L 0 L.length).2.1 (lineS L 0 L.length).2.2 L (L.map nw)).1 (j : Int) = z := by
    unfold rd; rw [Int.toNat_natCast, List.getD_eq_getElem?_getD, hz]; rfl
  rw [e]; exact ⟨z1, z2⟩
theorem fair_all (xs : List Int) (x : S31) (w : Int) (hx : xs.length ≤ 1048576) : ∃ k, seriflaw20_JustifyFair.f k xs x.f0 x.f1 x.f2 x.f3 x.f4 x.f5 w = some true := by
  have key : Ev (fun k => seriflaw20_JustifyFair.f k xs x.f0 x.f1 x.f2 x.f3 x.f4 x.f5 w) true := by
    unfold seriflaw20_JustifyFair.f
    refine Ev.bind jalive ?_
    simp only [if_true]
    have hL := fA_at (⟨2, x.f1, x.f2, x.f3, x.f4, x.f5⟩ : S31) xs xs.length
    have st : ∀ k, seriflaw20_JustifyFair.l0 (k + 1) w (fA ⟨2, x.f1, x.f2, x.f3, x.f4, x.f5⟩ xs xs.length) xs (xs.length : Int) (xs.length : Int) 2 x.f1 x.f2 x.f3 x.f4 x.f5 = (justify_Set.f k (fA ⟨2, x.f1, x.f2, x.f3, x.f4, x.f5⟩ xs xs.length) (-1) ((fA ⟨2, x.f1, x.f2, x.f3, x.f4, x.f5⟩ xs xs.length).length : Int) w).bind fun bt338 => (if bt338.2.2 = 0 then (seriflaw20_JustifyFair.j1 k bt338.1 (!bt338.2.1)) else (seriflaw20_JustifyFair.j1 k bt338.1 true)) := by
      intro k
      simp only [seriflaw20_JustifyFair.l0]
      rw [if_neg (by omega)]
    have ln : (fA ⟨2, x.f1, x.f2, x.f3, x.f4, x.f5⟩ xs xs.length).length % 2 = 1 ∨ fA ⟨2, x.f1, x.f2, x.f3, x.f4, x.f5⟩ xs xs.length = [] := by
      cases h : xs.length with
      | zero => exact .inr rfl
      | succ n => left; rw [fA_len]; omega
    have fin : Ev (fun k => seriflaw20_JustifyFair.l0 k w (fA ⟨2, x.f1, x.f2, x.f3, x.f4, x.f5⟩ xs xs.length) xs (xs.length : Int) (xs.length : Int) 2 x.f1 x.f2 x.f3 x.f4 x.f5) true := by
      generalize fA (⟨2, x.f1, x.f2, x.f3, x.f4, x.f5⟩ : S31) xs xs.length = L at *
      refine Ev.step st ?_
      refine Ev.bind (set_ev L (-1) (L.length : Int) w) ?_
      unfold setV
      by_cases c : chkL L w 0 ≠ 0 ∨ (-1 : Int) < -1 ∨ (L.length : Int) ≤ -1 ∨ (L.length : Int) < (L.length : Int)
      · simp only [if_pos c, show ¬ (205 : Int) = 0 by omega, if_false]
        exact Ev.intro 1 fun k => by simp only [seriflaw20_JustifyFair.j1, if_true]
      · simp only [if_neg c, if_true]
        have c0 : chkL L w 0 = 0 := Classical.byContradiction fun z => c (.inl z)
        have F := Fine.of c0
        have hn := F.len
        rw [show ((-1 : Int) + 1).toNat = 0 by decide, Int.toNat_natCast]
        cases fl : (setP L 0 L.length w).2 with
        | false => exact Ev.intro 1 fun k => by simp only [seriflaw20_JustifyFair.j1, Bool.not_false, if_true]
        | true =>
          obtain ⟨q, hq⟩ := fair_end hL rfl ln c0 fl
          have rl := setR_len (L := L) (a := 0) (w := w) (Nat.le_refl L.length)
          have el := jE_len L L.length
          refine Ev.step (fun k => ?_) (fair_l1 (c := q) (by omega) hq (setR L 0 L.length w).length 0 0 0 (by omega) (by omega) (.inl ⟨by omega, rfl, rfl⟩))
          simp only [seriflaw20_JustifyFair.j1, Bool.not_true, Bool.false_eq_true, if_false]; rfl
    have := fair_l0 (g := ⟨2, x.f1, x.f2, x.f3, x.f4, x.f5⟩) hx fin xs.length 0 (by omega) (by omega)
    exact this
  exact ⟨key.choose, key.choose_spec _ (Nat.le_refl _)⟩
end Go.Proofs.Ytfbanppdiglciaa.Pure
