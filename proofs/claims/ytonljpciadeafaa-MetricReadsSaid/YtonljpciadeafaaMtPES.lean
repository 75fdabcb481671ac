import Derived.Test.YtonljpciadeafaaSx0
import Derived.Test.YtonljpciadeafaaSxPA
import Derived.Test.YtonljpciadeafaaMtSS
set_option linter.unusedVariables false
set_option linter.unusedSimpArgs false
namespace Go.Proofs.Ytonljpciadeafaa.S
open Go Go.RowKit Go.Proofs.YtonljpciadeafaaW.PrintWords Go.Proofs.YtonljpciadeafaaW.PrintLast Go.Proofs.YtonljpciadeafaaW.PrintMore
def hasB (bs : List Int) (p n : Int) : Bool := decide ((ze bs p n).2 = 0)
theorem jV (bs : List Int) (p n : Int) : hasB bs p n = true ↔ 0 ≤ p ∧ 0 ≤ n ∧ p + n ≤ bs.length := by
  unfold hasB ze
  rw [decide_eq_true_eq]
  split
  · rename_i c
    constructor
    · intro h; cases h
    · intro h; omega
  · rename_i c
    exact ⟨fun _ => by omega, fun _ => rfl⟩
theorem has_eq (bs : List Int) (p n : Int) (hl : bs.length ≤ 1099511627776) : jw.f bs p n = some (hasB bs p n) := by
  unfold jw.f
  have hi := jV bs p n
  have hf : ¬ (0 ≤ p ∧ 0 ≤ n ∧ p + n ≤ bs.length) → hasB bs p n = false := fun h => Bool.eq_false_iff.2 (fun q => h (hi.1 q))
  by_cases c1 : p ≥ 0
  · rw [if_pos c1]
    by_cases c2 : n ≥ 0
    · rw [if_pos c2]
      by_cases c3 : p ≤ (bs.length : Int)
      · rw [if_pos c3, ja (by omega) (by omega)]
        by_cases c4 : n ≤ (bs.length : Int) - p
        · rw [hi.2 ⟨c1, c2, by omega⟩, decide_eq_true c4]
        · rw [decide_eq_false c4, hf (by omega)]
      · rw [if_neg c3, hf (by omega)]
    · rw [if_neg c2, hf (by omega)]
  · rw [if_neg c1, hf (by omega)]
theorem Qg {bs : List Int} {p n : Int} (h : hasB bs p n = true) : ze bs p n = ((bs.take (p + n).toNat).drop p.toNat, 0) := by
  have c := (jV bs p n).1 h
  unfold ze
  rw [if_neg (by omega)]
theorem QX {bs : List Int} {p n : Int} (h : hasB bs p n = false) : ze bs p n = ([], 21) := by
  unfold ze
  rw [if_pos]
  have c := fun q => Bool.eq_false_iff.1 h ((jV bs p n).2 q)
  by_cases c1 : p < 0
  · exact Or.inl c1
  · by_cases c2 : n < 0
    · exact Or.inr (Or.inl c2)
    · exact Or.inr (Or.inr (Or.inr (by
        by_cases c3 : p > bs.length - n
        · exact c3
        · exact absurd (c ⟨by omega, by omega, by omega⟩) (fun h => h))))
theorem wr_qi (q i : Nat) (h : q + i ≤ 1099511627776) : wrap64 ((q : Int) + (i : Int)) = (q : Int) + (i : Int) := ja (by omega) (by omega)
theorem wr_nx (i : Nat) (h : i ≤ 1099511627776) : wrap64 ((i : Int) + 1) = ((i + 1 : Nat) : Int) := by
  rw [ja (by omega) (by omega)]
  push_cast
  rfl
theorem wr_xz (X z : Int) (h0 : 0 ≤ X) (h1 : X < 16777216) (g0 : 0 ≤ z) (g1 : z < 256) : wrap64 (wrap64 (X * 256) + wrap64 z) = X * 256 + z := by
  rw [ja (x := X * 256) (by omega) (by omega), ja (x := z) (by omega) (by omega), ja (by omega) (by omega)]
theorem num_lo (bs : List Int) (ho : okB bs) (p : Int) (n : Nat) (hn : n ≤ 4) (hl : bs.length ≤ 1099511627776) (p0 : 0 ≤ p) (pn : p + (n : Int) ≤ bs.length) : ∀ (d i : Nat), n - i = d → i ≤ n →
    Ev (fun k => qP.l0 k bs p (n : Int) (Qc (((bs.take (p + (n : Int)).toNat).drop p.toNat).take i)) (i : Int)) (Qc ((bs.take (p + (n : Int)).toNat).drop p.toNat), 0) := by
  obtain ⟨q, rfl⟩ : ∃ q : Nat, p = (q : Int) := ⟨p.toNat, by omega⟩
  have e1 : ((q : Int) + (n : Int)).toNat = q + n := by omega
  rw [e1, Int.toNat_natCast]
  obtain ⟨L, hL⟩ : ∃ L, (bs.take (q + n)).drop q = L := ⟨_, rfl⟩
  have lL : L.length = n := by rw [← hL, List.length_drop, List.length_take]; omega
  have oL : okB L := by
    intro x hx
    rw [← hL] at hx
    exact ho x (List.mem_of_mem_take (List.mem_of_mem_drop hx))
  have gL : ∀ i, (hi : i < n) → rd bs ((q : Int) + (i : Int)) = L.getD i 0 := by
    intro i hi
    have e2 : (q : Int) + (i : Int) = ((q + i : Nat) : Int) := by push_cast; rfl
    have lt : q + i < bs.length := by omega
    have g : L[i]? = some bs[q + i] := by
      rw [← hL, List.getElem?_drop, List.getElem?_take, if_pos (by omega), List.getElem?_eq_getElem lt]
    rw [e2, rdB lt, List.getD_eq_getElem?_getD, g]
    rfl
  rw [hL]
  clear hL
  intro d
  induction d with
  | zero =>
    intro i hd hi
    obtain rfl : i = n := by omega
    refine Ev.step (f := fun _ => some (Qc L, 0)) (fun k => ?_) (Ev.now _)
    have e3 : L.take i = L := List.take_of_length_le (by omega)
    have e4 : ¬ (i : Int) < (i : Int) := by omega
    show (if (i : Int) < (i : Int) then _ else _) = _
    rw [if_neg e4, e3]
  | succ d ih =>
    intro i hd hi
    have hi2 : i < n := by omega
    have hb := JK (L.take i) 0 (fun x hx => oL x (List.mem_of_mem_take hx)) (by decide)
    have hli : (L.take i).length = i := by rw [List.length_take]; omega
    rw [hli] at hb
    have hb2 : 0 ≤ Qc (L.take i) ∧ Qc (L.take i) < 16777216 := by
      refine ⟨hb.1, Int.lt_of_lt_of_le hb.2 ?_⟩
      have : i = 0 ∨ i = 1 ∨ i = 2 ∨ i = 3 := by omega
      rcases this with rfl | rfl | rfl | rfl <;> decide
    clear hb
    have hx : 0 ≤ L.getD i 0 ∧ L.getD i 0 < 256 := atB oL i
    have hs : Qc (L.take (i + 1)) = Qc (L.take i) * 256 + L.getD i 0 := by
      rw [List.take_add_one, List.getElem?_eq_getElem (by omega : i < L.length), Option.toList_some, numB_snoc, List.getD_eq_getElem?_getD, List.getElem?_eq_getElem (by omega : i < L.length)]
      rfl
    have ih' := ih (i + 1)
    rw [hs] at ih'
    obtain ⟨X, hX⟩ : ∃ X, Qc (L.take i) = X := ⟨_, rfl⟩
    have g := gL i hi2
    obtain ⟨z, hz⟩ : ∃ z, L.getD i 0 = z := ⟨_, rfl⟩
    rw [hX, hz] at ih'
    rw [hX] at hb2 ⊢
    rw [hz] at hx g
    clear hs gL hli ih hX hz oL
    have c1 : (i : Int) < (n : Int) := by omega
    have c2 : 0 ≤ (q : Int) + (i : Int) := by omega
    have c3 : (q : Int) + (i : Int) < (bs.length : Int) := by omega
    have m1 : q + i ≤ 1099511627776 := by omega
    have ih'' := ih' (by omega) (by omega)
    have a1 := wr_qi q i m1
    have a2 := wr_nx i (by clear a1; omega)
    have a3 := wr_xz X z hb2.1 hb2.2 hx.1 hx.2
    refine Ev.step (f := fun k => qP.l0 k bs (q : Int) (n : Int) (X * 256 + z) ((i + 1 : Nat) : Int)) (fun k => ?_) ih''
    show (if (i : Int) < (n : Int) then _ else _) = _
    rw [if_pos c1, a1, if_pos c2, if_pos c3, g, a3, a2]
theorem num_ev (bs : List Int) (ho : okB bs) (p : Int) (n : Nat) (hn : n ≤ 4) (hl : bs.length ≤ 1099511627776) : Ev (fun k => qP.f k bs p (n : Int)) (qI bs p (n : Int)) := by
  unfold qI
  cases hc : hasB bs p (n : Int) with
  | true =>
    have c := (jV bs p n).1 hc
    obtain ⟨K, hK⟩ := num_lo bs ho p n hn hl c.1 c.2.2 n 0 (Nat.sub_zero _) (Nat.zero_le _)
    refine ⟨K, fun k hk => ?_⟩
    have h := hK k hk
    dsimp only at h ⊢
    unfold qP.f
    rw [has_eq bs p _ hl, Option.bind_some, hc, if_pos rfl, Qg hc]
    exact h
  | false =>
    refine ⟨0, fun k _ => ?_⟩
    dsimp only
    unfold qP.f
    rw [has_eq bs p _ hl, Option.bind_some, hc, if_neg (by decide), QX hc]
    rfl
theorem u32_ev (bs : List Int) (ho : okB bs) (p : Int) (hl : bs.length ≤ 1099511627776) : Ev (fun k => jH.f k bs p) (qI bs p 4).1 := by
  obtain ⟨K, hK⟩ := num_ev bs ho p 4 (by decide) hl
  refine ⟨K, fun k hk => ?_⟩
  have h := hK k hk
  dsimp only at h ⊢
  unfold jH.f
  rw [show (4 : Int) = ((4 : Nat) : Int) from rfl, h, Option.bind_some]
theorem u16_ev (bs : List Int) (ho : okB bs) (p : Int) (hl : bs.length ≤ 1099511627776) : Ev (fun k => zL.f k bs p) (qI bs p 2).1 := by
  obtain ⟨K, hK⟩ := num_ev bs ho p 2 (by decide) hl
  refine ⟨K, fun k hk => ?_⟩
  have h := hK k hk
  dsimp only at h ⊢
  unfold zL.f
  rw [show (2 : Int) = ((2 : Nat) : Int) from rfl, h, Option.bind_some]
theorem i16_ev (bs : List Int) (ho : okB bs) (p : Int) (hl : bs.length ≤ 1099511627776) : Ev (fun k => jG.f k bs p) (jK (qI bs p 2).1) := by
  obtain ⟨K, hK⟩ := u16_ev bs ho p hl
  refine ⟨K, fun k hk => ?_⟩
  have h := hK k hk
  dsimp only at h ⊢
  have b : 0 ≤ (qI bs p 2).1 ∧ (qI bs p 2).1 < 256 ^ 2 := jX bs ho p 2 (by decide)
  have b2 : (qI bs p 2).1 < 65536 := b.2
  have b1 := b.1
  clear b
  unfold jG.f jK
  rw [h, Option.bind_some]
  by_cases c : (qI bs p 2).1 ≥ 32768
  · rw [if_pos c, if_pos c, ja (by omega) (by omega)]
  · rw [if_neg c, if_neg c]
theorem hasr (bs : List Int) (A : Option Addr) (c : Nat) (p n : Int) (w : World) (hr : Kd.C (Kd.int .u8) w A bs.length bs) (hc : bs.length ≤ c) (hl : bs.length ≤ 1099511627776) : Calls Try.prog 30 #[.slice A bs.length c, .int .i64 p, .int .i64 n] w fun e w' => e = .returned (.bool (hasB bs p n)) ∧ Below w.heap.size w w' :=
  (jw.calls A c bs p n (hasB bs p n) w hr hc (has_eq bs p n hl)).mono fun e w' h => ⟨h.1, h.2.below⟩
theorem u32r (bs : List Int) (ho : okB bs) (A : Option Addr) (c : Nat) (p : Int) (w : World) (hr : Kd.C (Kd.int .u8) w A bs.length bs) (hc : bs.length ≤ c) (hl : bs.length ≤ 1099511627776) : Calls Try.prog 33 #[.slice A bs.length c, .int .i64 p] w fun e w' => e = .returned (.int .i64 (qI bs p 4).1) ∧ Below w.heap.size w w' := by
  obtain ⟨k, h⟩ := (u32_ev bs ho p hl).rounds
  exact (jH.calls k A c bs p _ w hr hc h).mono fun e w' h => ⟨h.1, h.2.below⟩
theorem u16r (bs : List Int) (ho : okB bs) (A : Option Addr) (c : Nat) (p : Int) (w : World) (hr : Kd.C (Kd.int .u8) w A bs.length bs) (hc : bs.length ≤ c) (hl : bs.length ≤ 1099511627776) : Calls Try.prog 32 #[.slice A bs.length c, .int .i64 p] w fun e w' => e = .returned (.int .i64 (qI bs p 2).1) ∧ Below w.heap.size w w' := by
  obtain ⟨k, h⟩ := (u16_ev bs ho p hl).rounds
  exact (zL.calls k A c bs p _ w hr hc h).mono fun e w' h => ⟨h.1, h.2.below⟩
theorem i16r (bs : List Int) (ho : okB bs) (A : Option Addr) (c : Nat) (p : Int) (w : World) (hr : Kd.C (Kd.int .u8) w A bs.length bs) (hc : bs.length ≤ c) (hl : bs.length ≤ 1099511627776) : Calls Try.prog 41 #[.slice A bs.length c, .int .i64 p] w fun e w' => e = .returned (.int .i64 (jK (qI bs p 2).1)) ∧ Below w.heap.size w w' := by
  obtain ⟨k, h⟩ := (i16_ev bs ho p hl).rounds
  exact (jG.calls k A c bs p _ w hr hc h).mono fun e w' h => ⟨h.1, h.2.below⟩
set_option maxRecDepth 100000 in
theorem tagr (bs : List Int) (A : Option Addr) (c : Nat) (p : Int) (w : World) (hr : Kd.C (Kd.int .u8) w A bs.length bs) (hc : bs.length ≤ c) (hl : bs.length ≤ 1099511627776) : Calls Try.prog 31 #[.slice A bs.length c, .int .i64 p] w fun e w' => e = .returned (.string (strOfNums (ze bs p 4).1)) ∧ Below w.heap.size w w' := by
  have HH := qa.mk (hasr bs A c p 4 w hr hc hl)
  have HR := qa.mk hr
  have HC := qa.mk hc
  cases hb : hasB bs p 4 with
  | false =>
    have E := qa.mk (QX hb)
    rw [hb] at HH
    clear hr hc hl hb
    go_enter Try.func31, Try.ntmps31
    go_wp2_with (go_at_call 30; refine HH.out.mono ?_; rintro e w1 ⟨rfl, h1⟩; have B1 := qa.mk h1; clear h1)
    go_ret
    rw [E.out]
    exact ⟨rfl, B1.out⟩
  | true =>
    have h := (jV bs p 4).1 hb
    have E := qa.mk (Qg hb)
    rw [hb] at HH
    clear hb
    have p0 : 0 ≤ p := h.1
    have p1 : p + 4 ≤ (bs.length : Int) := h.2.2
    have p2 : p ≤ p + 4 := by omega
    have p3 : p + 4 ≤ (c : Int) := by omega
    have p4 : p + 4 ≤ 9223372036854775807 := by omega
    have p5 : -9223372036854775808 ≤ p + 4 := by omega
    obtain ⟨i8, hi8, _, hsz8, _⟩ := info_parts info5
    obtain ⟨A8, hcut, hA8, hC8⟩ := Q5 (P := Try.prog) (Value.int .u8) 0 23 5 .i64 .i64 Try.underlying23 hi8 hsz8 A c bs p (p + 4) (by omega) (by omega) (by omega) hc
    have RR := qa.mk (fun (w2 : World) (h2 : Below w.heap.size w w2) => (Kd.Qn (h1 := fun _ => rfl) (hA8 _ (Kd.Qy (Kd.qO HR.out h2))) : Kd.C (Kd.int .u8) w2 A8 _ ((bs.take (p + 4).toNat).drop p.toNat)))
    have LN := qa.mk (show ((bs.take (p + 4).toNat).drop p.toNat).length = (p + 4).toNat - p.toNat by rw [List.length_drop, List.length_take]; omega)
    clear hA8 hC8 hi8 hsz8 hr hc hl h p3
    go_enter Try.func31, Try.ntmps31
    go_wp2_with (go_at_call 30; refine HH.out.mono ?_; rintro e w1 ⟨rfl, h1⟩; have B1 := qa.mk h1; have hcv := Kd.C_string (P := Try.prog) (A := A8) (c := c - p.toNat) Try.underlying23 Try.underlying5 Try.underlying9 (RR.out w1 h1); rw [LN.out] at hcv; clear h1)
    go_ret
    rw [E.out]
    exact ⟨rfl, B1.out⟩
end Go.Proofs.Ytonljpciadeafaa.S
set_option linter.unusedVariables false
set_option linter.unusedSimpArgs false
namespace Go.Proofs.Ytonljpciadeafaa.S
open Go Go.RowKit Go.Proofs.YtonljpciadeafaaW.PrintWords Go.Proofs.YtonljpciadeafaaW.PrintLast Go.Proofs.YtonljpciadeafaaW.PrintMore
theorem Zr {bs : List Int} {p n : Int} (h : hasB bs p n = false) : qI bs p n = (0, 21) := by unfold qI; rw [QX h]; rfl
theorem QW {bs : List Int} {p n : Int} (h : hasB bs p n = true) : (qI bs p n).2 = 0 := by unfold qI; rw [Qg h]
set_option maxRecDepth 100000 in
set_option maxHeartbeats 2000000 in
theorem beginr (bs : List Int) (ho : okB bs) (A : Option Addr) (c : Nat) (w : World) (hr : Kd.C (Kd.int .u8) w A bs.length bs) (hc : bs.length ≤ c) (hl : bs.length ≤ 1099511627776) :
    Calls Try.prog 29 #[.slice A bs.length c, .int .i64 0] w fun e w' => e = .returned (.tuple #[.int .i64 (zC bs 0).1, .int .i64 (zC bs 0).2]) ∧ Below w.heap.size w w' := by
  have HH := qa.mk (fun (p n : Int) (w2 : World) (h : Below w.heap.size w w2) => hasr bs A c p n w2 (Kd.qO hr h) hc hl)
  have HU := qa.mk (fun (p : Int) (w2 : World) (h : Below w.heap.size w w2) => u32r bs ho A c p w2 (Kd.qO hr h) hc hl)
  have HT := qa.mk (fun (p : Int) (w2 : World) (h : Below w.heap.size w w2) => tagr bs A c p w2 (Kd.qO hr h) hc hl)
  have RF := qa.mk (Below.refl w.heap.size w)
  have NB := qa.mk (show 0 ≤ (qI bs 8 4).1 from (show 0 ≤ (qI bs 8 4).1 ∧ (qI bs 8 4).1 < 256 ^ 4 from jX bs ho 8 4 (by decide)).1)
  clear hr hc hl ho
  obtain ⟨b0, hb0⟩ : ∃ b, hasB bs 0 4 = b := ⟨_, rfl⟩
  cases b0 with
  | false =>
    have E := qa.mk (show zC bs 0 = (0, 31) by unfold zC; rw [QX hb0, if_pos (by decide)])
    go_enter Try.func29, Try.ntmps29
    go_wp2_with (go_at_call 30; refine (HH.out 0 4 w RF.out).mono ?_; rintro e w1 ⟨rfl, h1⟩; rw [hb0]; have B1 := qa.mk h1; clear h1)
    go_ret2
    rw [E.out]
    exact ⟨rfl, B1.out⟩
  | true =>
  have E0 : (ze bs 0 4).2 = 0 := by rw [Qg hb0]
  obtain ⟨t, ht⟩ : ∃ t, strOfNums (ze bs 0 4).1 = t := ⟨_, rfl⟩
  by_cases ct : (t.toList == [116, 116, 99, 102]) = false
  · have E := qa.mk (show zC bs 0 = (0, 0) by unfold zC; rw [E0, if_neg (fun h => h rfl), ht, if_pos ct, if_neg (fun h => h rfl)])
    clear E0
    have HB0 := qa.mk hb0
    have HTT := qa.mk ht
    clear hb0 ht
    go_enter Try.func29, Try.ntmps29
    go_wp2_with (first | (go_at_call 31; refine (HT.out 0 w1 B1.out).mono ?_; rintro e w2 ⟨rfl, h1⟩; rw [HTT.out]; have B2 := qa.mk (qc B1.out h1); clear h1) | (go_at_call 30; refine (HH.out 0 4 w RF.out).mono ?_; rintro e w1 ⟨rfl, h1⟩; rw [HB0.out]; have B1 := qa.mk h1; clear h1))
    go_ret2
    rw [E.out]
    exact ⟨rfl, B2.out⟩
  have ct : (t.toList == [116, 116, 99, 102]) = true := by simpa using ct
  have EB : zC bs 0 = (if (qI bs 4 4).2 ≠ 0 then (0, 31)
      else if (qI bs 4 4).1 ≠ 65536 ∧ (qI bs 4 4).1 ≠ 131072 then (0, 32)
      else if (qI bs 8 4).2 ≠ 0 ∨ (qI bs 8 4).1 = 0 then (0, 31)
      else if (qI bs 8 4).1 > 64 then (0, 33)
      else if (0 : Int) < 0 ∨ (0 : Int) ≥ (qI bs 8 4).1 then (0, 35)
      else ((qI bs 12 4).1, if (qI bs 12 4).2 = 0 then 0 else 31)) := by
    unfold zC
    rw [E0, if_neg (fun h => h rfl), ht, if_neg (by rw [ct]; decide)]
    rfl
  clear E0
  have HB0 := qa.mk hb0
  have HTT := qa.mk ht
  clear hb0 ht
  go_enter Try.func29, Try.ntmps29
  go_upto_region 7 with (first | (go_at_call 31; refine (HT.out 0 w1 B1.out).mono ?_; rintro e w2 ⟨rfl, h1⟩; rw [HTT.out]; have B2 := qa.mk (qc B1.out h1); clear h1) | (go_at_call 30; refine (HH.out 0 4 w RF.out).mono ?_; rintro e w1 ⟨rfl, h1⟩; rw [HB0.out]; have B1 := qa.mk h1; clear h1))
  clear ct HTT HB0 B1
  obtain ⟨b1, hb1⟩ : ∃ b, hasB bs 4 4 = b := ⟨_, rfl⟩
  cases b1 with
  | false =>
    rw [Zr hb1, if_pos (by decide)] at EB
    have E := qa.mk EB
    have HB1 := qa.mk hb1
    clear EB hb1
    go_wp2_with (go_at_call 30; refine (HH.out 4 4 w2 B2.out).mono ?_; rintro e w3 ⟨rfl, h1⟩; rw [HB1.out]; have B3 := qa.mk (qc B2.out h1); clear h1)
    go_ret2
    rw [E.out]
    exact ⟨rfl, B3.out⟩
  | true =>
  rw [QW hb1, if_neg (fun h => h rfl)] at EB
  obtain ⟨x, hx⟩ : ∃ x, (qI bs 4 4).1 = x := ⟨_, rfl⟩
  rw [hx] at EB
  have HB1 := qa.mk hb1
  have HX := qa.mk hx
  have EB1 := qa.mk EB
  clear hb1 hx EB
  go_upto_region 10 with (first | (go_at_call 33; refine (HU.out 4 w3 B3.out).mono ?_; rintro e w4 ⟨rfl, h1⟩; rw [HX.out]; have B4 := qa.mk (qc B3.out h1); clear h1) | (go_at_call 30; refine (HH.out 4 4 w2 B2.out).mono ?_; rintro e w3 ⟨rfl, h1⟩; rw [HB1.out]; have B3 := qa.mk (qc B2.out h1); clear h1))
  clear HB1 HX B2 B3
  by_cases cx : x ≠ 65536 ∧ x ≠ 131072
  · have E0 := EB1.out
    rw [if_pos cx] at E0
    have E := qa.mk E0
    have x1 := eq_false cx.1
    have x2 := eq_false cx.2
    have x3 : (x != 65536) = true := bne_iff_ne.2 cx.1
    have x4 : (x != 131072) = true := bne_iff_ne.2 cx.2
    clear cx EB1 E0
    go_wp2
    go_ret2
    rw [E.out]
    exact ⟨rfl, B4.out⟩
  have EB := EB1.out
  rw [if_neg cx] at EB
  clear EB1
  obtain ⟨n, hn⟩ : ∃ n, (qI bs 8 4).1 = n := ⟨_, rfl⟩
  have n2 : (qI bs 8 4).2 ≠ 0 → n = 0 := by
    intro h
    cases hb : hasB bs 8 4 with
    | true => exact absurd (QW hb) h
    | false => rw [← hn, Zr hb]
  rw [hn] at EB NB
  have EB2 := qa.mk EB
  clear EB
  have HN := qa.mk hn
  have N2 := qa.mk n2
  clear hn n2
  have cx2 : x = 65536 ∨ x = 131072 := by omega
  clear cx
  rcases cx2 with rfl | rfl
  all_goals (go_upto_region 13 with (go_at_call 33; refine (HU.out 8 w4 B4.out).mono ?_; rintro e w5 ⟨rfl, h1⟩; rw [HN.out]; have B5 := qa.mk (qc B4.out h1); clear h1))
  all_goals (
    clear HN B4
    by_cases c0 : n = 0
    · have E0 := EB2.out
      rw [if_pos (Or.inr c0)] at E0
      have E := qa.mk E0
      have q0 : (n == 0) = true := beq_iff_eq.2 c0
      clear EB2 E0 c0
      go_wp2
      go_ret2
      rw [E.out]
      exact ⟨rfl, B5.out⟩
    have E := EB2.out
    rw [if_neg (fun h => h.elim (fun q => c0 (N2.out q)) c0)] at E
    have f0 := eq_false c0
    have q0 : (n == 0) = false := beq_eq_false_iff_ne.2 c0
    by_cases c1 : 64 < n
    · rw [if_pos c1] at E
      have E := qa.mk E
      have f1 := eq_true c1
      clear EB2 c0
      go_wp2
      go_ret2
      rw [E.out]
      exact ⟨rfl, B5.out⟩
    have f1 := eq_false c1
    have c2 : ¬ ((0 : Int) < 0 ∨ (0 : Int) ≥ n) := by have := NB.out; omega
    have f2 := eq_false (show ¬ n ≤ 0 by omega)
    rw [if_neg c1, if_neg c2] at E
    clear EB2 c0 c1 c2
    obtain ⟨b2, hb2⟩ : ∃ b, hasB bs 12 4 = b := ⟨_, rfl⟩
    cases b2 with
    | false =>
      rw [Zr hb2, if_neg (by decide)] at E
      have E := qa.mk E
      have HB2 := qa.mk hb2
      clear hb2
      go_wp2_with (go_at_call 30; refine (HH.out 12 4 w5 B5.out).mono ?_; rintro e w6 ⟨rfl, h1⟩; rw [HB2.out]; have B6 := qa.mk (qc B5.out h1); clear h1)
      go_ret2
      rw [E.out]
      exact ⟨rfl, B6.out⟩
    | true =>
      rw [QW hb2, if_pos rfl] at E
      have E := qa.mk E
      have HB2 := qa.mk hb2
      clear hb2
      go_wp2_with (first | (go_at_call 33; refine (HU.out 12 w6 B6.out).mono ?_; rintro e w7 ⟨rfl, h1⟩; have B7 := qa.mk (qc B6.out h1); clear h1) | (go_at_call 30; refine (HH.out 12 4 w5 B5.out).mono ?_; rintro e w6 ⟨rfl, h1⟩; rw [HB2.out]; have B6 := qa.mk (qc B5.out h1); clear h1))
      go_ret2
      rw [E.out]
      exact ⟨rfl, B7.out⟩)
end Go.Proofs.Ytonljpciadeafaa.S
set_option linter.unusedVariables false
set_option linter.unusedSimpArgs false
namespace Go.Proofs.Ytonljpciadeafaa.S
open Go Go.RowKit Go.Proofs.YtonljpciadeafaaW.PrintWords Go.Proofs.YtonljpciadeafaaW.PrintLast Go.Proofs.YtonljpciadeafaaW.PrintMore
def pairO : Option (List Int) → List Int × Bool
  | some L => (L, true)
  | none => ([], false)
def QY (bs : List Int) (tag : ByteArray) (rows : List S71) : List Int × Bool := pairO (Qb bs tag rows)
def QP (bs : List Int) (rows : List S71) : Prop := ∀ t ∈ rows, hasB bs t.f1 t.f2 = true
def RowP (w0 : World) (L : List Int) (b : Bool) (w : World) (e : Ending) (w' : World) : Prop := ∃ A c, e = .returned (.tuple #[.slice A L.length c, .bool b]) ∧ L.length ≤ c ∧ (∀ W, Below w0.heap.size w0 W → Kd.C (Kd.int .u8) W A L.length L) ∧ Below w.heap.size w w'
abbrev zA (kd : Int) (A1 : Option Addr) (n1 c1 : Nat) (A2 : Option Addr) (n2 c2 : Nat) : Array Value := #[.int .i64 kd, .slice A1 n1 c1, .slice A2 n2 c2]
set_option maxRecDepth 100000 in
set_option maxHeartbeats 4000000 in
theorem tabler (bs : List Int) (kd : Int) (rows : List S71) (A1 : Option Addr) (c1 : Nat) (A2 : Option Addr) (c2 : Nat) (tag : ByteArray) (w0 w : World) (h1 : Kd.C k71 w A1 rows.length rows) (l1 : rows.length ≤ c1) (h2 : Kd.C (Kd.int .u8) w0 A2 bs.length bs) (l2 : bs.length ≤ c2) (hl : bs.length ≤ 1099511627776) (hok : QP bs rows) :
    Calls Try.prog 62 #[.agg (zA kd A1 rows.length c1 A2 bs.length c2), .string tag] w (RowP w0 (QY bs tag rows).1 (QY bs tag rows).2 w) := by
  have HR := qa.mk h1
  have HF := qa.mk h2
  have HL := qa.mk l1
  have HL2 := qa.mk l2
  have HO := qa.mk hok
  have hl' : (rows.length : Int) ≤ 9223372036854775807 := by have := h1.2.1; omega
  have HLB := qa.mk hl
  obtain ⟨Q, hQ⟩ : ∃ Q, Qb bs tag rows = Q := ⟨_, rfl⟩
  have HT := qa.mk (show QY bs tag rows = pairO Q by unfold QY; rw [hQ])
  have HQ0 : qa (Qb bs tag (rows.drop 0) = Q) := ⟨by rw [List.drop_zero]; exact hQ⟩
  clear h1 h2 l1 l2 hok hl hQ
  go_enter Try.func62, Try.ntmps62
  go_upto_region 1 with fail
  obtain ⟨wA, g1, hX, e1, k1, b1⟩ : ∃ X g1, X = w.alloc (Obj.cells (zA kd A1 rows.length c1 A2 bs.length c2) 28) ∧ w.heap.size = g1 ∧ X.heap[g1]? = some (Obj.cells (zA kd A1 rows.length c1 A2 bs.length c2) 28 (0, 0)) ∧ Below w.heap.size w X := ⟨_, _, rfl, rfl, zk _ _, qF (Below.refl _ _) _⟩
  rw [← hX, e1]
  have KA := qa.mk k1
  have BA := qa.mk b1
  have y1 := qb k1 1
  have SA : qa (wA.heap.size = wA.heap.size) := ⟨rfl⟩
  have HB0 := qa.mk (Below.refl wA.heap.size wA)
  clear hX e1 k1 b1
  go_wp2
  go_loopw [11] (fun v11 wr => ∃ (i : Nat), v11 = .int .i64 i ∧ i ≤ rows.length ∧ qa (Qb bs tag (rows.drop i) = Q) ∧ qa (Below wA.heap.size wA wr)) (fun v11 _ => rows.length - (intOf v11).toNat)
  case atStart => exact ⟨0, rfl, Nat.zero_le _, HQ0, HB0⟩
  case round =>
    obtain ⟨i, rfl, hi, HQ, HB⟩ := hrel
    clear y1
    by_cases hlt : i < rows.length
    · have ilt := eq_true (show (i : Int) < (rows.length : Int) by omega)
      have ilt2 := eq_true hlt
      have ip := eq_true (show (0 : Int) ≤ (i : Int) by omega)
      obtain ⟨ad, ea, x0, x1, x2⟩ := at_T71 HR.out (i : Int) (by omega) (by omega)
      subst ea
      rw [Int.toNat_natCast] at x0 x1 x2
      replace x0 := zJ (qc BA.out HB.out) x0
      replace x1 := zJ (qc BA.out HB.out) x1
      replace x2 := zJ (qc BA.out HB.out) x2
      have er : QR rows (i : Int) = rows[i] := by unfold QR; rw [Int.toNat_natCast, List.getD_eq_getElem?_getD, List.getElem?_eq_getElem hlt]; rfl
      rw [er] at x0 x1 x2
      have hq := HQ.out
      rw [List.drop_eq_getElem_cons hlt, Qb] at hq
      have hgood := HO.out rows[i] (List.getElem_mem hlt)
      obtain ⟨t, ht⟩ : ∃ t, rows[i] = t := ⟨_, rfl⟩
      rw [ht] at hq x0 x1 x2 hgood
      have hi' : (i : Int) + 1 ≤ 9223372036854775807 := by omega
      clear er ht
      by_cases ct : t.f0.toList = tag.toList
      · have hp := Qg hgood
        rw [if_pos ct, hp, if_pos rfl] at hq
        have ctb : (t.f0.toList == tag.toList) = true := beq_iff_eq.mpr ct
        have hh := (jV bs t.f1 t.f2).1 hgood
        have HT2 := HT.out
        rw [← hq] at HT2
        have E := qa.mk (show QY bs tag rows = ((bs.take (t.f1 + t.f2).toNat).drop t.f1.toNat, true) from HT2)
        clear hq ct HQ HT HT2 hp hgood
        obtain ⟨p, hpp⟩ : ∃ p, t.f1 = p := ⟨_, rfl⟩
        obtain ⟨n, hnn⟩ : ∃ n, t.f2 = n := ⟨_, rfl⟩
        rw [hpp, hnn] at hh E
        rw [hpp] at x1
        rw [hnn] at x2
        clear hpp hnn
        have p0 : 0 ≤ p := hh.1
        have p1 : 0 ≤ n := hh.2.1
        have p2 : p + n ≤ (bs.length : Int) := hh.2.2
        have p4 : p + n ≤ 9223372036854775807 := by have := HLB.out; omega
        have p5 : -9223372036854775808 ≤ p + n := by omega
        obtain ⟨i8, hi8, _, hsz8, _⟩ := info_parts info5
        obtain ⟨A8, hcut, hA8, hC8⟩ := Q5 (P := Try.prog) (Value.int .u8) 0 23 5 .i64 .i64 Try.underlying23 hi8 hsz8 A2 c2 bs p (p + n) (by omega) (by omega) (by omega) HL2.out
        have RR := qa.mk (fun (w2 : World) (h2 : Below w0.heap.size w0 w2) => (Kd.Qn (h1 := fun _ => rfl) (hA8 _ (Kd.Qy (Kd.qO HF.out h2))) : Kd.C (Kd.int .u8) w2 A8 _ ((bs.take (p + n).toNat).drop p.toNat)))
        have LN := qa.mk (show ((bs.take (p + n).toNat).drop p.toNat).length = (p + n).toNat - p.toNat by rw [List.length_drop, List.length_take]; omega)
        have C8 := qa.mk hC8
        clear hA8 hC8 hi8 hsz8 hh
        go_upto_region 5 with fail
        obtain ⟨wT, gT, hW, eT, kT, lT⟩ : ∃ wT gT, wT = wr.alloc (Obj.cells #[.string t.f0, .int .i64 p, .int .i64 n] 71) ∧ wr.heap.size = gT ∧ wT.heap[gT]? = some (Obj.cells #[.string t.f0, .int .i64 p, .int .i64 n] 71 (0, 0)) ∧ Below wr.heap.size wr wT := ⟨_, _, rfl, rfl, zk _ _, qF (Below.refl _ _) _⟩
        rw [← hW, eT]
        have B4 := qa.mk (qc HB.out lT)
        have y2 : wT.cell? ⟨g1, 2, none⟩ = some (.slice A2 bs.length c2) := (qb ((B4.out.block _ (qz KA.out)).trans KA.out) 2).trans rfl
        have z1 : wT.cell? ⟨gT, 1, none⟩ = some (.int .i64 p) := (qb kT 1).trans rfl
        have z2 : wT.cell? ⟨gT, 2, none⟩ = some (.int .i64 n) := (qb kT 2).trans rfl
        clear hW eT kT lT x0 x1 x2 HB
        go_wp2
        go_ret2
        rw [E.out]
        dsimp only
        exact ⟨A8, c2 - p.toNat, by rw [LN.out]; rfl, C8.out, fun W hW => RR.out W hW, qc BA.out B4.out⟩
      · rw [if_neg ct] at hq
        have ctb : (t.f0.toList == tag.toList) = false := beq_eq_false_iff_ne.mpr ct
        have HQ2 := qa.mk hq
        clear hq ct HQ hgood
        go_wp2
        exact ⟨⟨i + 1, by push_cast; rfl, by omega, HQ2, ⟨qF HB.out _⟩⟩, by show (_ : Nat) < _; simp only [intOf]; omega⟩
    · have ilt := eq_false (show ¬ (i : Int) < (rows.length : Int) by omega)
      have ilt2 := eq_false hlt
      have E := HQ.out
      rw [List.drop_eq_nil_of_le (by omega), Qb] at E
      have HT2 := HT.out
      rw [← E] at HT2
      have E := qa.mk HT2
      clear HT HT2 HQ
      go_wp2
      go_ret2
      rw [E.out]
      exact ⟨none, 0, rfl, Nat.le_refl _, fun _ _ => Kd.Za _ _, qc BA.out HB.out⟩
set_option maxRecDepth 100000 in
set_option maxHeartbeats 4000000 in
theorem tbl (bs : List Int) (kd : Int) (rows : List S71) (A1 : Option Addr) (c1 : Nat) (A2 : Option Addr) (c2 : Nat) (tag : ByteArray) (n : Int) (w0 w : World) (h1 : Kd.C k71 w A1 rows.length rows) (l1 : rows.length ≤ c1) (h2 : Kd.C (Kd.int .u8) w0 A2 bs.length bs) (l2 : bs.length ≤ c2) (hl : bs.length ≤ 1099511627776) (hok : QP bs rows) :
    Calls Try.prog 40 #[.agg (zA kd A1 rows.length c1 A2 bs.length c2), .string tag, .int .i64 n] w (RowP w0 (QY bs tag rows).1 ((QY bs tag rows).2 && decide (n ≤ ((QY bs tag rows).1.length : Int))) w) := by
  have HT := qa.mk (fun (w2 : World) (h : Below w.heap.size w w2) => tabler bs kd rows A1 c1 A2 c2 tag w0 w2 (Kd.qO h1 h) l1 h2 l2 hl hok)
  obtain ⟨L, b, hLb⟩ : ∃ L b, QY bs tag rows = (L, b) := ⟨_, _, rfl⟩
  rw [hLb] at HT ⊢
  clear h1 h2 l1 l2 hl hok hLb
  go_enter Try.func40, Try.ntmps40
  go_upto_region 1 with fail
  obtain ⟨wA, g1, hX, e1, k1, b1⟩ : ∃ X g1, X = w.alloc (Obj.cells (zA kd A1 rows.length c1 A2 bs.length c2) 28) ∧ w.heap.size = g1 ∧ X.heap[g1]? = some (Obj.cells (zA kd A1 rows.length c1 A2 bs.length c2) 28 (0, 0)) ∧ Below w.heap.size w X := ⟨_, _, rfl, rfl, zk _ _, qF (Below.refl _ _) _⟩
  rw [← hX, e1]
  have BA := qa.mk b1
  have y0 := qb k1 0
  have y1 := qb k1 1
  have y2 := qb k1 2
  clear hX e1 k1 b1
  go_upto_region 2 with (go_at_call 62; refine (HT.out wA BA.out).mono ?_; rintro e w1 ⟨A, c, rfl, h1, h2, h3⟩; have L1 := qa.mk h1; have C1 := qa.mk h2; have B1 := qa.mk (qc BA.out h3); clear h1 h2 h3)
  clear y0 y1 y2
  cases b with
  | false =>
    go_wp2
    go_ret2
    exact ⟨A, c, rfl, L1.out, C1.out, B1.out⟩
  | true =>
    by_cases cn : n ≤ (L.length : Int)
    · have e1 := eq_true cn
      clear cn
      go_wp2
      go_ret2
      exact ⟨A, c, by simp [e1], L1.out, C1.out, B1.out⟩
    · have e1 := eq_false cn
      clear cn
      go_wp2
      go_ret2
      exact ⟨A, c, by simp [e1], L1.out, C1.out, B1.out⟩
end Go.Proofs.Ytonljpciadeafaa.S
