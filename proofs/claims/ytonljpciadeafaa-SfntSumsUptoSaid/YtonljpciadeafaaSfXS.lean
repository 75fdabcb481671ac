/- sfnt: where a face's directory begins; rows. -/
import Derived.Test.YtonljpciadeafaaSfWS
import Derived.Test.YtonljpciadeafaaSx6
set_option linter.unusedVariables false
set_option linter.unusedSimpArgs false
namespace Go.Proofs.Ytonljpciadeafaa.S
open Go Go.RowKit Go.Proofs.YtonljpciadeafaaW.PrintWords Go.Proofs.YtonljpciadeafaaW.PrintLast Go.Proofs.YtonljpciadeafaaW.PrintMore

theorem numV_two (bs : List Int) (p n : Int) : numV bs p n = (0, 21) ∨ (numV bs p n).2 = 0 := by
  unfold numV
  rcases partV_two bs p n with h | h
  · rw [h]; exact Or.inl rfl
  · exact Or.inr h
/-- Where the face's directory begins. -/
def beginV (bs : List Int) (face : Int) : Int × Int :=
  if (partV bs 0 4).2 ≠ 0 then (0, 31)
  else if ((strOfNums (partV bs 0 4).1).toList == [116, 116, 99, 102]) = false then (if face ≠ 0 then (0, 35) else (0, 0))
  else if (numV bs 4 4).2 ≠ 0 then (0, 31)
  else if (numV bs 4 4).1 ≠ 65536 ∧ (numV bs 4 4).1 ≠ 131072 then (0, 32)
  else if (numV bs 8 4).2 ≠ 0 ∨ (numV bs 8 4).1 = 0 then (0, 31)
  else if (numV bs 8 4).1 > 64 then (0, 33)
  else if face < 0 ∨ face ≥ (numV bs 8 4).1 then (0, 35)
  else ((numV bs (12 + 4 * face) 4).1, if (numV bs (12 + 4 * face) 4).2 = 0 then 0 else 31)
set_option maxRecDepth 100000 in
set_option maxHeartbeats 2000000 in
theorem begin_calls (bs : List Int) (g : Nat) (face : Int) (w : World) (hv : Vw w g bs) (ho : okB bs) :
    Calls Try.prog 35 #[.pointer (some ⟨g, 0, none⟩), .int .i64 face] w fun e w' => e = .returned (.tuple #[.int .i64 (beginV bs face).1, .int .i64 (beginV bs face).2]) ∧ Below w.heap.size w w' := by
  have HT := Aside0.mk (tag_calls bs g 0 w hv)
  have HU := Aside0.mk (fun p w' (hb : Below w.heap.size w w') => u32_calls bs g p w' (hv.below hb) ho)
  have n8 : 0 ≤ (numV bs 8 4).1 ∧ (numV bs 8 4).1 < 256 ^ 4 := numV_bd bs ho 8 4 (by decide)
  clear hv ho
  obtain ⟨R, hR⟩ : ∃ R, R = beginV bs face := ⟨_, rfl⟩
  rw [← hR]
  have HR := Aside0.mk hR
  clear hR
  unfold beginV at HR
  rcases partV_two bs 0 4 with h | h
  · rw [h] at HT HR
    rw [if_pos (by decide)] at HR
    clear h n8
    go_enter Try.func35, Try.ntmps35
    go_wp2_with (first | (go_at_call 36; refine HT.out.mono ?_; rintro q w1 ⟨rfl, h1⟩; have B1 := Aside0.mk h1; clear h1) | (go_at_call 56; refine (sfnt_within.calls 21 31 _ rfl).mono ?_; rintro q w2 ⟨rfl, h2⟩; have B2 := Aside0.mk (below_step B1.out h2.below); clear h2))
    go_ret2
    exact ⟨by rw [HR.out]; rfl, B2.out⟩
  rw [h] at HT
  rw [if_neg (by rw [h]; decide)] at HR
  generalize (strOfNums (partV bs 0 4).1) = tg at *
  clear h
  cases c1 : (tg.toList == [116, 116, 99, 102]) with
  | false =>
    rw [c1, if_pos rfl] at HR
    clear n8
    by_cases c2 : face ≠ 0
    · rw [if_pos c2] at HR
      have c2b : (face != 0) = true := bne_iff_ne.mpr c2
      clear c2
      go_enter Try.func35, Try.ntmps35
      go_wp2_with (first | (go_at_call 36; refine HT.out.mono ?_; rintro q w1 ⟨rfl, h1⟩; have B1 := Aside0.mk h1; clear h1) | (go_at_call 56; refine (sfnt_within.calls 0 0 _ rfl).mono ?_; rintro q w2 ⟨rfl, h2⟩; have B2 := Aside0.mk (below_step B1.out h2.below); clear h2))
      go_ret2
      exact ⟨by rw [HR.out]; rfl, B2.out⟩
    · rw [if_neg c2] at HR
      obtain rfl : face = 0 := by omega
      clear c2
      go_enter Try.func35, Try.ntmps35
      go_wp2_with (first | (go_at_call 36; refine HT.out.mono ?_; rintro q w1 ⟨rfl, h1⟩; have B1 := Aside0.mk h1; clear h1) | (go_at_call 56; refine (sfnt_within.calls 0 0 _ rfl).mono ?_; rintro q w2 ⟨rfl, h2⟩; have B2 := Aside0.mk (below_step B1.out h2.below); clear h2))
      go_ret2
      exact ⟨by rw [HR.out]; rfl, B2.out⟩
  | true =>
    rw [c1, if_neg (by decide)] at HR
    go_enter Try.func35, Try.ntmps35
    go_upto_region 8 with (first | (go_at_call 36; refine HT.out.mono ?_; rintro q w1 ⟨rfl, h1⟩; have B1 := Aside0.mk h1; clear h1) | (go_at_call 56; refine (sfnt_within.calls 0 0 _ rfl).mono ?_; rintro q w2 ⟨rfl, h2⟩; have B2 := Aside0.mk (below_step B1.out h2.below); clear h2))
    go_upto_region 9 with (go_at_call 57; refine (HU.out 4 w2 B2.out).mono ?_; rintro q w3 ⟨rfl, h2⟩; have B3 := Aside0.mk (below_step B2.out h2); clear h2)
    obtain ⟨v4, x4, h4⟩ : ∃ a b, numV bs 4 4 = (a, b) := ⟨_, _, rfl⟩
    have t4 := numV_two bs 4 4
    rw [h4] at t4 HR ⊢
    dsimp only at t4 HR ⊢
    clear h4
    rcases t4 with t4 | t4
    · injection t4 with e1 e2
      subst e1; subst e2
      rw [if_pos (by decide)] at HR
      go_wp2
      go_ret2
      exact ⟨by rw [HR.out]; rfl, B3.out⟩
    subst t4
    rw [if_neg (by decide)] at HR
    by_cases c3 : v4 ≠ 65536 ∧ v4 ≠ 131072
    · rw [if_pos c3] at HR
      have c3a : (v4 != 65536) = true := bne_iff_ne.mpr c3.1
      have c3b : (v4 != 131072) = true := bne_iff_ne.mpr c3.2
      clear c3
      go_wp2
      go_ret2
      exact ⟨by rw [HR.out]; rfl, B3.out⟩
    rw [if_neg c3] at HR
    have c3 : v4 = 65536 ∨ v4 = 131072 := by omega
    rcases c3 with rfl | rfl
    all_goals
      go_upto_region 13 with fail
      have H8 := Aside0.mk (HU.out 8)
      obtain ⟨n, x8, h8⟩ : ∃ a b, numV bs 8 4 = (a, b) := ⟨_, _, rfl⟩
      have t8 := numV_two bs 8 4
      rw [h8] at t8 n8 HR H8
      dsimp only at t8 n8 HR H8
      clear h8
      rcases t8 with t8 | t8
      · injection t8 with e1 e2
        subst e1; subst e2
        rw [if_pos (by decide)] at HR
        clear n8
        go_wp2_with (go_at_call 57; refine (H8.out w3 B3.out).mono ?_; rintro q w4 ⟨rfl, h2⟩; have B4 := Aside0.mk (below_step B3.out h2); clear h2)
        go_ret2
        exact ⟨by rw [HR.out]; rfl, B4.out⟩
      subst t8
      by_cases c4 : n = 0
      · subst c4
        rw [if_pos (by decide)] at HR
        clear n8
        go_wp2_with (go_at_call 57; refine (H8.out w3 B3.out).mono ?_; rintro q w4 ⟨rfl, h2⟩; have B4 := Aside0.mk (below_step B3.out h2); clear h2)
        go_ret2
        exact ⟨by rw [HR.out]; rfl, B4.out⟩
      rw [if_neg (by intro z; rcases z with z | z; exact z rfl; exact c4 z)] at HR
      have c4b : (n == 0) = false := beq_eq_false_iff_ne.mpr c4
      by_cases c5 : 64 < n
      · rw [if_pos c5] at HR
        have c5b : decide (64 < n) = true := decide_eq_true c5
        clear c5 c4 n8
        go_wp2_with (go_at_call 57; refine (H8.out w3 B3.out).mono ?_; rintro q w4 ⟨rfl, h2⟩; have B4 := Aside0.mk (below_step B3.out h2); clear h2)
        go_ret2
        exact ⟨by rw [HR.out]; rfl, B4.out⟩
      rw [if_neg c5] at HR
      have c5b : decide (64 < n) = false := decide_eq_false c5
      by_cases c6 : face < 0
      · rw [if_pos (Or.inl c6)] at HR
        have c6b : decide (face < 0) = true := decide_eq_true c6
        clear c6 c5 c4 n8
        go_wp2_with (go_at_call 57; refine (H8.out w3 B3.out).mono ?_; rintro q w4 ⟨rfl, h2⟩; have B4 := Aside0.mk (below_step B3.out h2); clear h2)
        go_ret2
        exact ⟨by rw [HR.out]; rfl, B4.out⟩
      have c6b : decide (face < 0) = false := decide_eq_false c6
      by_cases c7 : n ≤ face
      · rw [if_pos (Or.inr c7)] at HR
        have c7b : decide (n ≤ face) = true := decide_eq_true c7
        clear c7 c6 c5 c4 n8
        go_wp2_with (go_at_call 57; refine (H8.out w3 B3.out).mono ?_; rintro q w4 ⟨rfl, h2⟩; have B4 := Aside0.mk (below_step B3.out h2); clear h2)
        go_ret2
        exact ⟨by rw [HR.out]; rfl, B4.out⟩
      rw [if_neg (by omega)] at HR
      have c7b : decide (n ≤ face) = false := decide_eq_false c7
      go_upto_region 20 with (go_at_call 57; refine (H8.out w3 B3.out).mono ?_; rintro q w4 ⟨rfl, h2⟩; have B4 := Aside0.mk (below_step B3.out h2); clear h2)
      go_upto_region 21 with (go_at_call 57; refine (HU.out (12 + 4 * face) w4 B4.out).mono ?_; rintro q w5 ⟨rfl, h2⟩; have B5 := Aside0.mk (below_step B4.out h2); clear h2)
      obtain ⟨v, x, hx⟩ : ∃ a b, numV bs (12 + 4 * face) 4 = (a, b) := ⟨_, _, rfl⟩
      have tx := numV_two bs (12 + 4 * face) 4
      rw [hx] at tx HR ⊢
      dsimp only at tx HR ⊢
      clear hx c7 c6 c5 c4 n8
      rcases tx with tx | tx
      · injection tx with e1 e2
        subst e1; subst e2
        go_wp2_with (go_at_call 56; refine (sfnt_within.calls 21 31 _ rfl).mono ?_; rintro q w6 ⟨rfl, h2⟩; have B6 := Aside0.mk (below_step B5.out h2.below); clear h2)
        go_ret2
        exact ⟨by rw [HR.out]; rfl, B6.out⟩
      · subst tx
        go_wp2_with (go_at_call 56; refine (sfnt_within.calls 0 0 _ rfl).mono ?_; rintro q w6 ⟨rfl, h2⟩; have B6 := Aside0.mk (below_step B5.out h2.below); clear h2)
        go_ret2
        exact ⟨by rw [HR.out]; rfl, B6.out⟩
end Go.Proofs.Ytonljpciadeafaa.S
