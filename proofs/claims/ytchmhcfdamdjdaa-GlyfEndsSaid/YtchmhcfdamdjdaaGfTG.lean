/- glyf: a simple glyph of one contour, in the plain case. Written by rk/gengf.py. -/
import Derived.Test.YtchmhcfdamdjdaaGx0
import Derived.Test.YtchmhcfdamdjdaaGfSG
set_option linter.unusedVariables false
set_option linter.unusedSimpArgs false
namespace Go.Proofs.Ytchmhcfdamdjdaa.G
open Go Go.RowKit Go.Proofs.YtchmhcfdamdjdaaW.PrintWords Go.Proofs.YtchmhcfdamdjdaaW.PrintLast Go.Proofs.YtchmhcfdamdjdaaW.PrintMore

abbrev nil_ : Value := .slice none 0 0
abbrev zeroG : Array Value := #[.slice none 0 0, .slice none 0 0]
/-- The knots of the contour. -/
def knotsB (bs : List Int) (pf px py : Int) (n : Nat) : Nat → List S46
  | 0 => []
  | j + 1 => knotsB bs pf px py n j ++ [⟨rd (sumsB bs px n).1 j, rd (sumsB bs py n).1 j, 2 - rd bs (pf + j)⟩]
theorem knotsB_len (bs : List Int) (pf px py : Int) (n : Nat) : ∀ j, (knotsB bs pf px py n j).length = j
  | 0 => rfl
  | j + 1 => by rw [knotsB, List.length_append, knotsB_len bs pf px py n j]; rfl
theorem fromB_rd (bs : List Int) (p : Int) : ∀ (n i : Nat), i < n → rd (fromB bs p n) i = rd bs (p + i)
  | n + 1, i, h => by
    unfold rd
    rw [fromB, List.getD_eq_getElem?_getD, Int.toNat_natCast]
    by_cases e : i = n
    · subst e
      rw [List.getElem?_append_right (by rw [fromB_len]; exact Nat.le_refl _), fromB_len, Nat.sub_self]
      rfl
    · rw [List.getElem?_append_left (by rw [fromB_len]; omega)]
      have := fromB_rd bs p n i (by omega)
      unfold rd at this
      rw [List.getD_eq_getElem?_getD, Int.toNat_natCast] at this
      exact this
def GlyP (AO : Option Addr) (cO : Nat) (AC : Option Addr) (cC : Nat) (o : List (List S46)) (code : List Int) (base : Nat) (w : World) : Prop :=
  Kd.R (Kd.slice 46 k46) 43 w base (fun _ => True) (.slice AO o.length cO) o ∧ Kd.R (Kd.int .u8) 5 w base (fun _ => True) (.slice AC code.length cC) code
theorem GlyP.lower {AO : Option Addr} {cO : Nat} {AC : Option Addr} {cC : Nat} {o : List (List S46)} {code : List Int} {b b' : Nat} {w : World} (h : GlyP AO cO AC cC o code b w) (hb : b' ≤ b) : GlyP AO cO AC cC o code b' w := ⟨Kd.R_lower h.1 hb, Kd.R_lower h.2 hb⟩
theorem GlyP.below {AO : Option Addr} {cO : Nat} {AC : Option Addr} {cC : Nat} {o : List (List S46)} {code : List Int} {b : Nat} {w w' : World} (h : GlyP AO cO AC cC o code b w) (hb : Below w.heap.size w w') : GlyP AO cO AC cC o code b w' := ⟨Kd.R_below h.1 hb, Kd.R_below h.2 hb⟩
theorem GlyP.setrow {AO : Option Addr} {cO : Nat} {AC : Option Addr} {cC : Nat} {o : List (List S46)} {code : List Int} {b r : Nat} {w : World} {cs : Array Value} (h : GlyP AO cO AC cC o code b w) (hr : r < b) : GlyP AO cO AC cC o code b (w.setRow r cs) := ⟨R_setrow h.1 hr, R_setrow h.2 hr⟩
theorem res43 (tmps : Array Value) (r : Nat) (v0 v1 : Value) (w : World) (h4 : tmps[4]?.getD undef = .pointer (some ⟨r, 0, none⟩)) (hm : w.heap[r]? = some (.cells #[v0, v1] 29 (0, 0))) : (results Try.f43 tmps).run Try.prog w = .ok (.agg #[v0, v1]) w := by
  have m0 := blk_cell hm 0
  have m1 := blk_cell hm 1
  clear hm
  simp [results, Try.results43, go_sem, h4, m0, m1]
/-- What lies beside the reader while a simple glyph is read: the result's block r, the block o of out, the ends, the code. -/
structure Sim (w : World) (g gv : Nat) (bs : List Int) (B r o : Nat) (vO : Value) (A4 : Option Addr) (c4 : Nat) (e : Int) (A7 : Option Addr) (lc c7 : Nat) (code : List Int) (q : Int) (W : World) : Prop where
  on : On w 86 g gv bs q W
  z : B ≤ W.heap.size
  kr : W.heap[r]? = some (.cells zeroG 29 (0, 0))
  ko : W.heap[o]? = some (.cells #[vO, .slice A7 lc c7] 29 (0, 0))
  re : Kd.R (Kd.int .i64) 3 W B (fun _ => True) (.slice A4 1 c4) [e]
  rc : Kd.R (Kd.int .u8) 5 W B (fun _ => True) (.slice A7 lc c7) code
theorem Sim.step {w : World} {g gv : Nat} {bs : List Int} {B r o : Nat} {vO : Value} {A4 : Option Addr} {c4 : Nat} {e : Int} {A7 : Option Addr} {lc c7 : Nat} {code : List Int} {q q' : Int} {W W' : World} (h : Sim w g gv bs B r o vO A4 c4 e A7 lc c7 code q W) (k : On W 86 g gv bs q' W') (hr : g ≠ r) (ho : g ≠ o) (hB : g < B) : Sim w g gv bs B r o vO A4 c4 e A7 lc c7 code q' W' :=
  ⟨h.on.trans k, Nat.le_trans h.z k.gr.size, blk_grown h.kr k.gr (fun z => by injection z with z; exact hr z.symm), blk_grown h.ko k.gr (fun z => by injection z with z; exact ho z.symm), R_grown h.re k.gr hB, R_grown h.rc k.gr hB⟩
theorem Sim.below {w : World} {g gv : Nat} {bs : List Int} {B r o : Nat} {vO : Value} {A4 : Option Addr} {c4 : Nat} {e : Int} {A7 : Option Addr} {lc c7 : Nat} {code : List Int} {q : Int} {W W' : World} (h : Sim w g gv bs B r o vO A4 c4 e A7 lc c7 code q W) (hb : Below W.heap.size W W') : Sim w g gv bs B r o vO A4 c4 e A7 lc c7 code q W' :=
  ⟨h.on.below hb, Nat.le_trans h.z (below_size hb), (hb.block _ (blk_lt h.kr)).trans h.kr, (hb.block _ (blk_lt h.ko)).trans h.ko, Kd.R_below h.re hb, Kd.R_below h.rc hb⟩
set_option maxRecDepth 100000 in
set_option maxHeartbeats 4000000 in
theorem simple_calls (bs : List Int) (ho : okB bs) (g gv : Nat) (p : Int) (w : World) (h : Rd w 86 g gv bs p) (h0 : 0 ≤ p) (e lc : Nat) (he : u2 bs p = e) (hc : u2 bs (p + 2) = lc) (h1 : e < 4096) (h2 : p + 4 + lc + 5 * (e + 1) ≤ bs.length) (hz : ∀ i : Nat, i < e + 1 → rd bs (p + 4 + lc + i) = 0 ∨ rd bs (p + 4 + lc + i) = 1) (hl : bs.length ≤ 1048576) :
    Calls Try.prog 43 #[.pointer (some ⟨g, 0, none⟩), .int .i64 1] w fun q w' => ∃ AO cO AC cC, q = .returned (.agg #[.slice AO 1 cO, .slice AC lc cC]) ∧ w.grownBy w' (some g) ∧
      GlyP AO cO AC cC [knotsB bs (p + 4 + lc) (p + 4 + lc + (e + 1)) (p + 4 + lc + (e + 1) + 2 * (e + 1)) (e + 1) (e + 1)] ((bs.take (p + 4 + lc).toNat).drop (p + 4).toNat) w.heap.size w' := by
  have H := Aside0.mk h
  obtain ⟨pf, hpf⟩ : ∃ q, p + 4 + (lc : Int) = q := ⟨_, rfl⟩
  rw [hpf] at h2 hz ⊢
  obtain ⟨code, hcode⟩ : ∃ q, (bs.take pf.toNat).drop (p + 4).toNat = q := ⟨_, rfl⟩
  have lcode : code.length = lc := by rw [← hcode, List.length_drop, List.length_take]; omega
  have P16 := Aside0.mk (fun (W : World) (q : Int) (k : Rd W 86 g gv bs q) (a : 0 ≤ q) (b : q + 1 < bs.length) => gu16_calls bs ho g gv q W k a b (by omega))
  have E1 := Aside0.mk (fun (W : World) (k : Rd W 86 g gv bs p) => (he ▸ gu16_calls bs ho g gv p W k h0 (by omega) (by omega) : Calls Try.prog 56 #[.pointer (some ⟨g, 0, none⟩)] W fun q w' => q = .returned (.int .i64 (e : Int)) ∧ On W 86 g gv bs (p + 2) w'))
  have E2 := Aside0.mk (fun (W : World) (k : Rd W 86 g gv bs (p + 2)) => (by have z := gu16_calls bs ho g gv (p + 2) W k (by omega) (by omega) (by omega); rw [hc, show p + 2 + 2 = p + 4 by omega] at z; exact z : Calls Try.prog 56 #[.pointer (some ⟨g, 0, none⟩)] W fun q w' => q = .returned (.int .i64 (lc : Int)) ∧ On W 86 g gv bs (p + 4) w'))
  have E3 := Aside0.mk (fun (W : World) (k : Rd W 86 g gv bs (p + 4)) => (by have z := gbytes_calls bs ho g gv (p + 4) (lc : Int) W k (by omega) (by omega) (by omega) (by omega); rw [hpf, hcode] at z; exact z : Calls Try.prog 42 #[.pointer (some ⟨g, 0, none⟩), .int .i64 (lc : Int)] W fun q w' => ∃ v, q = .returned v ∧ Kd.R (Kd.int .u8) 5 w' W.heap.size (fun _ => True) v code ∧ On W 86 g gv bs pf w'))
  have E4 := Aside0.mk (fun (W : World) (k : Rd W 86 g gv bs pf) => flags_calls bs ho g gv pf (e + 1) W k (by omega) (by push_cast; omega) (fun i hi => by rcases hz i hi with z | z <;> rw [z] <;> decide) hl)
  have E5 := Aside0.mk (fun (W : World) (q : Int) (k : Rd W 86 g gv bs q) (F : Option Addr) (cF : Nat) (sh sm : Int) (hsh : sh = 2 ∧ sm = 16 ∨ sh = 4 ∧ sm = 32) (hf : ∀ W2 : World, W.grownBy W2 (some g) → Kd.C (Kd.int .i64) W2 F (e + 1) (fromB bs pf (e + 1))) (q0 : 0 ≤ q) (q1 : q + 2 * ((e + 1 : Nat) : Int) ≤ bs.length) =>
    places_calls bs ho g gv q W k F (e + 1) cF (fromB bs pf (e + 1)) sh sm hf (fun i hi => by
      rw [fromB_rd bs pf (e + 1) i hi]
      rcases hsh with ⟨rfl, rfl⟩ | ⟨rfl, rfl⟩ <;> rcases hz i hi with z | z <;> rw [z] <;> exact ⟨by decide, by decide⟩) q0 q1 hl)
  have HZ := Aside0.mk hz
  have HB := Aside0.mk (show 0 ≤ p ∧ p + 4 + lc = pf ∧ pf + 5 * (e + 1) ≤ bs.length ∧ e < 4096 ∧ bs.length ≤ 1048576 from ⟨h0, hpf, by omega, h1, hl⟩)
  have HC := Aside0.mk hcode
  have LC := Aside0.mk lcode
  have h1b := eq_true (show (e : Int) < 4096 by omega)
  have h1c := eq_true h1
  have e63 := eq_true (show (-1 : Int) < (e : Int) by omega)
  clear h he hc hz hl h2 ho hpf hcode lcode h0 h1
  go_enter Try.func43, Try.ntmps43
  go_upto_region 1 with fail
  obtain ⟨w1, r, hX, er, kr, b1⟩ : ∃ X r, X = w.alloc (Obj.cells zeroG 29) ∧ w.heap.size = r ∧ X.heap[r]? = some (Obj.cells zeroG 29 (0, 0)) ∧ Below w.heap.size w X := ⟨_, _, rfl, rfl, blk_new _ _, below_alloc (Below.refl _ _) _⟩
  rw [← hX, er]
  have KR := Aside0.mk kr
  have O1 := Aside0.mk ((On.refl H.out).below b1)
  obtain ⟨B, hB⟩ : ∃ B, w1.heap.size = B := ⟨_, rfl⟩
  have B1 := Aside0.mk (show w.heap.size < B ∧ r < B ∧ g < r by have := blk_lt kr; have := blk_lt H.out.bk; omega)
  have Z1 := Aside0.mk (Nat.le_of_eq hB.symm)
  clear hX kr b1 hB
  go_upto_region 4 with (go_at_call 38; refine (gmust_ok _ _).mono ?_; rintro e w9 ⟨rfl, rfl⟩)
  go_wp2
  refine wp_loop_rounds 2 ?_
  rw [rounds_succ]
  go_wp2_with (first | (go_at_call 56; refine (E1.out w9 O1.out.rd).mono ?_; rintro q w2 ⟨rfl, k1⟩; have O2 := Aside0.mk (On.trans O1.out k1); have K2 := Aside0.mk (blk_grown KR.out k1.gr (fun z => by injection z with z; have := B1.out; omega)); have Z2 := Aside0.mk (Nat.le_trans Z1.out k1.gr.size); clear k1) | (go_at_call 38; refine (gmust_ok _ _).mono ?_; rintro q w3 ⟨rfl, rfl⟩) | ((with_reducible refine gate_builtin (b := .append) (xs := #[.tmp 31, .tmp 33]) rfl ?_); at_builtin; refine Kd.R_append (Kd.int .i64) (w0 := w3) B rfl (.tmp 31) (.tmp 33) 24 3 (.int .i64 0) 8 rfl Try.underlying24 info3 rfl (by decide) (by omega) (.slice none 0 0) [] (e : Int) [.int .i64 (e : Int)] (fun _ => True) (fun _ => False) rfl (by first | (go_simp; done) | (go_simp; rfl)) ?aP (fun _ hk => hk.elim) ?aF ?aO ?aB ?aS ?aL ?_; (case aP => exact rfl); (case aF => exact fun _ _ => trivial); (case aO => exact Kd.R_nil _ _ _ _ _); (case aB => exact Below.refl _ _); (case aS => exact Z2.out); (case aL => simp); intro v4 w4 k1 k2 k3 k4; obtain ⟨A4, c4, e4⟩ := Kd.R_slice k1; have O4 := Aside0.mk (On.own H.out (by decide) O2.out k3 (fun k hk => by cases hk)); have R4 := Aside0.mk k1; have K4 := Aside0.mk (blk_grown K2.out k3 (fun z => by cases z)); have Z4 := Aside0.mk (Nat.le_trans Z2.out k3.size); subst e4; clear k1 k2 k3 k4))
  rw [rounds_succ]
  go_upto_region 12 with (go_at_call 38; refine (gmust_ok _ _).mono ?_; rintro q w5 ⟨rfl, rfl⟩)
  have S4 := Aside0.mk (show Kd.R (Kd.int .i64) 3 w5 B (fun _ => True) (.slice A4 1 c4) [(e : Int)] from R4.out)
  clear R4 KR O1 Z1 O2 K2 Z2 E1 P16
  go_upto_region 13 with (first | (go_at_call 56; refine (E2.out w5 O4.out.rd).mono ?_; rintro q w6 ⟨rfl, k1⟩; have O6 := Aside0.mk (On.trans O4.out k1); have K6 := Aside0.mk (blk_grown K4.out k1.gr (fun z => by injection z with z; have := B1.out; omega)); have Z6 := Aside0.mk (Nat.le_trans Z4.out k1.gr.size); have S6 := Aside0.mk (R_grown S4.out k1.gr (by have := B1.out; omega)); clear k1) | (go_at_call 42; refine (E3.out w6 O6.out.rd).mono ?_; rintro q w7 ⟨v7, rfl, k2, k1⟩; have O7 := Aside0.mk (On.trans O6.out k1); have K7 := Aside0.mk (blk_grown K6.out k1.gr (fun z => by injection z with z; have := B1.out; omega)); have Z7 := Aside0.mk (Nat.le_trans Z6.out k1.gr.size); have S7 := Aside0.mk (R_grown S6.out k1.gr (by have := B1.out; omega)); have R7 := Aside0.mk (Kd.R_lower k2 Z6.out); obtain ⟨A7, c7, e7⟩ := Kd.R_slice k2; rw [LC.out] at e7; subst e7; clear k1 k2))
  obtain ⟨w8, o, hX, eo, ko, b8⟩ : ∃ X o, X = w7.alloc (Obj.cells #[Value.slice none 0 0, .slice A7 lc c7] 29) ∧ w7.heap.size = o ∧ X.heap[o]? = some (Obj.cells #[Value.slice none 0 0, .slice A7 lc c7] 29 (0, 0)) ∧ Below w7.heap.size w7 X := ⟨_, _, rfl, rfl, blk_new _ _, below_alloc (Below.refl _ _) _⟩
  rw [← hX, eo]
  have D8 := Aside0.mk (show Sim w g gv bs B r o nil_ A4 c4 e A7 lc c7 code pf w8 from ⟨O7.out.below b8, Nat.le_trans Z7.out (below_size b8), (b8.block _ (blk_lt K7.out)).trans K7.out, ko, Kd.R_below S7.out b8, Kd.R_below R7.out b8⟩)
  have OB := Aside0.mk (show B ≤ o ∧ g ≠ r ∧ g ≠ o ∧ g < B by have := Z7.out; have := B1.out; omega)
  clear hX eo ko b8 O7 Z7 K7 S7 R7 O6 K6 Z6 S6 O4 K4 Z4 S4 E2 E3
  have EC : Aside0 ((e : Int) + 1 = ((e + 1 : Nat) : Int)) := ⟨by push_cast; rfl⟩
  have ew : (e : Int) + 1 ≤ 9223372036854775807 := by have := HB.out; omega
  go_upto_region 14 with (go_at_call 58; rw [EC.out]; refine (E4.out w8 D8.out.on.rd).mono ?_; rintro q w10 ⟨F, cF, rfl, k2, k1⟩; have D10 := Aside0.mk (D8.out.step k1 OB.out.2.1 OB.out.2.2.1 OB.out.2.2.2); have F10 := Aside0.mk (Kd.R_lower k2 D8.out.z); clear k1 k2)
  obtain ⟨q1, hq1⟩ : ∃ q : Int, pf + ((e + 1 : Nat) : Int) = q := ⟨_, rfl⟩
  obtain ⟨q2, hq2⟩ : ∃ q : Int, q1 + 2 * ((e + 1 : Nat) : Int) = q := ⟨_, rfl⟩
  rw [hq1] at D10
  have QB := Aside0.mk (show 0 ≤ q1 ∧ q1 + 2 * ((e + 1 : Nat) : Int) ≤ bs.length ∧ 0 ≤ q2 ∧ q2 + 2 * ((e + 1 : Nat) : Int) ≤ bs.length by have := HB.out; omega)
  have HQ1 := Aside0.mk hq1
  have HQ2 := Aside0.mk hq2
  have FC := Aside0.mk (fun (W : World) (hg : w10.grownBy W (some g)) => (by have z := (Kd.R_reads' (R_grown F10.out hg OB.out.2.2.2)).2.2; first | exact z | (rw [fromB_len] at z; exact z) : Kd.C (Kd.int .i64) W F (e + 1) (fromB bs pf (e + 1))))
  clear hq1 hq2 E4 ew
  go_upto_region 15 with (go_at_call 59; refine (E5.out w10 q1 D10.out.on.rd F cF 2 16 (Or.inl ⟨rfl, rfl⟩) FC.out QB.out.1 QB.out.2.1).mono ?_; rintro q w11 ⟨AX, cX, rfl, k2, k1⟩; rw [HQ2.out] at k1; have D11 := Aside0.mk (D10.out.step k1 OB.out.2.1 OB.out.2.2.1 OB.out.2.2.2); have F11 := Aside0.mk (R_grown F10.out k1.gr OB.out.2.2.2); have X11 := Aside0.mk (Kd.R_lower k2 D10.out.z); clear k1 k2)
  have FC := Aside0.mk (fun (W : World) (hg : w11.grownBy W (some g)) => (by have z := (Kd.R_reads' (R_grown F11.out hg OB.out.2.2.2)).2.2; first | exact z | (rw [fromB_len] at z; exact z) : Kd.C (Kd.int .i64) W F (e + 1) (fromB bs pf (e + 1))))
  clear D8 F10 D10
  go_upto_region 16 with (go_at_call 59; refine (E5.out w11 q2 D11.out.on.rd F cF 4 32 (Or.inr ⟨rfl, rfl⟩) FC.out QB.out.2.2.1 QB.out.2.2.2).mono ?_; rintro q w12 ⟨AY, cY, rfl, k2, k1⟩; have D12 := Aside0.mk (D11.out.step k1 OB.out.2.1 OB.out.2.2.1 OB.out.2.2.2); have F12 := Aside0.mk (R_grown F11.out k1.gr OB.out.2.2.2); have X12 := Aside0.mk (R_grown X11.out k1.gr OB.out.2.2.2); have Y12 := Aside0.mk (Kd.R_lower k2 D11.out.z); clear k1 k2)
  clear D11 F11 X11 E5 FC
  obtain ⟨ad4, e4, x4'⟩ := Kd.at_int (Kd.R_reads' D12.out.re).2.2 0 (by decide) (by simp)
  have x4 : w12.cell? ad4 = some (.int .i64 (e : Int)) := x4'
  clear x4'
  subst e4
  have B12 := Aside0.mk (Below.refl w12.heap.size w12)
  have R12 : Aside0 (Kd.R k46 46 w12 w12.heap.size (fun _ => True) (.slice none 0 0) (knotsB bs pf q1 q2 (e + 1) 0)) := ⟨Kd.R_nil _ _ _ _ _⟩
  have ew : (e : Int) + 1 ≤ 9223372036854775807 := by have := HB.out; omega
  have ez := eq_true (show (0 : Int) ≤ (e : Int) by omega)
  go_wp2
  refine wp_loop_rounds 2 ?_
  rw [rounds_succ]
  go_wp2
  go_loopw [15, 16] (fun v15 v16 wr => ∃ (j : Nat) (A : Option Addr) (c : Nat), v15 = .slice A j c ∧ v16 = .int .i64 j ∧ j ≤ e + 1 ∧ Aside0 (Kd.R k46 46 wr w12.heap.size (fun _ => True) (.slice A j c) (knotsB bs pf q1 q2 (e + 1) j)) ∧ Aside0 (Below w12.heap.size w12 wr)) (fun v15 _ _ => e + 1 - lenOf v15)
  case atStart => exact ⟨0, none, 0, rfl, rfl, Nat.zero_le _, R12, B12⟩
  case round =>
    obtain ⟨j, A, c, rfl, rfl, hj, HR, HW⟩ := hrel
    clear R12 B12
    by_cases jl : j ≤ e
    · have jl1 := eq_true jl
      have jl2 := eq_true (show (j : Int) ≤ (e : Int) by omega)
      have jl3 := eq_true (show (j : Int) < ((e + 1 : Nat) : Int) by omega)
      have jl4 := eq_true (show j < e + 1 by omega)
      have jl5 := eq_true (show (j : Int) < (e : Int) + 1 by omega)
      have jp := eq_true (show (0 : Int) ≤ (j : Int) by omega)
      have j64 : (j : Int) + 1 ≤ 9223372036854775807 := by omega
      have JL := Aside0.mk jl
      have hf := HZ.out j (by omega)
      obtain ⟨adf, ef, xf⟩ := Kd.at_int (Kd.C_below (by have z := (Kd.R_reads' F12.out).2.2; first | exact z | (rw [fromB_len] at z; exact z) : Kd.C (Kd.int .i64) w12 F (e + 1) (fromB bs pf (e + 1))) HW.out) (j : Int) (by omega) (by omega)
      obtain ⟨adx, ex, xx⟩ := Kd.at_int (Kd.C_below (by have z := (Kd.R_reads' X12.out).2.2; first | exact z | (rw [sumsB_len] at z; exact z) : Kd.C (Kd.int .i64) w12 AX (e + 1) (sumsB bs q1 (e + 1)).1) HW.out) (j : Int) (by omega) (by omega)
      obtain ⟨ady, ey, xy⟩ := Kd.at_int (Kd.C_below (by have z := (Kd.R_reads' Y12.out).2.2; first | exact z | (rw [sumsB_len] at z; exact z) : Kd.C (Kd.int .i64) w12 AY (e + 1) (sumsB bs q2 (e + 1)).1) HW.out) (j : Int) (by omega) (by omega)
      rw [fromB_rd bs pf (e + 1) j (by omega)] at xf
      rw [Int.toNat_natCast] at xf xx xy
      obtain ⟨f, hf2⟩ : ∃ f, rd bs (pf + (j : Int)) = f := ⟨_, rfl⟩
      obtain ⟨x, hx⟩ : ∃ x, rd (sumsB bs q1 (e + 1)).1 (j : Int) = x := ⟨_, rfl⟩
      obtain ⟨y, hy⟩ : ∃ y, rd (sumsB bs q2 (e + 1)).1 (j : Int) = y := ⟨_, rfl⟩
      rw [hf2] at hf xf
      rw [hx] at xx
      rw [hy] at xy
      have HK := Aside0.mk (show knotsB bs pf q1 q2 (e + 1) (j + 1) = knotsB bs pf q1 q2 (e + 1) j ++ [⟨x, y, 2 - f⟩] by rw [knotsB, hf2, hx, hy])
      have fb : Go.bits .and .i64 f 1 = f := by rcases hf with z | z <;> rw [z] <;> decide
      have f1 : 2 - f ≤ 9223372036854775807 := by rcases hf with z | z <;> omega
      have f2 : -9223372036854775808 ≤ 2 - f := by rcases hf with z | z <;> omega
      clear hf2 hx hy jl hf
      subst ef ex ey
      go_upto_region 25 with fail
      refine start_ (n := 14) (S := fun w' => w'.cell? (adx.add j) = some (.int .i64 x) ∧ w'.cell? (ady.add j) = some (.int .i64 y)) (ds := [12]) #[false, false, false, false, false, false, false, false, false, false, false, false, false, false] (by kernel_rfl) rfl rfl ⟨xx, xy⟩ (fun hHeld => ?_)
      obtain ⟨w13, hW, R13, B13⟩ : ∃ W, W = wr.drew ∧ Aside0 (Kd.R k46 46 W w12.heap.size (fun _ => True) (.slice A j c) (knotsB bs pf q1 q2 (e + 1) j)) ∧ Aside0 (Below w12.heap.size w12 W) := ⟨_, rfl, ⟨Kd.R_drew HR.out⟩, ⟨below_drew HW.out⟩⟩
      rw [← hW] at hHeld ⊢
      clear hW
      refine pure_ (i := 0) (N := some 72) (v := ?_) (a' := ?_) #[true, false, false, false, false, false, false, false, false, false, false, false, false, false] rfl rfl (by kernel_rfl) (fun _ _ _ h => h) (Or.inl ⟨by rfl, ?_⟩) ?_ ?_
      rotate_left
      · intro w'
        go_simp
        with_reducible rfl
      rotate_left
      · simp only [Act.put, List.setIfInBounds_toArray, List.set_cons_zero, List.set_cons_succ, i64_w, i32_w]
        rfl
      refine pure_ (i := 1) (N := some 73) (v := ?_) (a' := ?_) #[true, true, false, false, false, false, false, false, false, false, false, false, false, false] rfl rfl (by kernel_rfl) (fun _ _ _ h => h) (Or.inl ⟨by rfl, ?_⟩) ?_ ?_
      rotate_left
      · intro w'
        go_simp
        with_reducible rfl
      rotate_left
      · simp only [Act.put, List.setIfInBounds_toArray, List.set_cons_zero, List.set_cons_succ, i64_w, i32_w]
        rfl
      refine pure_ (i := 2) (N := some 74) (v := ?_) (a' := ?_) #[true, true, true, false, false, false, false, false, false, false, false, false, false, false] rfl rfl (by kernel_rfl) (fun _ _ _ h => h) (Or.inl ⟨by rfl, ?_⟩) ?_ ?_
      rotate_left
      · intro w'
        go_simp
        with_reducible rfl
      rotate_left
      · simp only [Act.put, List.setIfInBounds_toArray, List.set_cons_zero, List.set_cons_succ, i64_w, i32_w]
        rfl
      refine pure_ (i := 3) (N := some 75) (v := ?_) (a' := ?_) #[true, true, true, true, false, false, false, false, false, false, false, false, false, false] rfl rfl (by kernel_rfl) (fun _ _ _ h => h) (Or.inl ⟨by rfl, ?_⟩) ?_ ?_
      rotate_left
      · intro w'
        go_simp
        with_reducible rfl
      rotate_left
      · simp only [Act.put, List.setIfInBounds_toArray, List.set_cons_zero, List.set_cons_succ, i64_w, i32_w]
        rfl
      refine pure_ (i := 5) (N := some 77) (v := ?_) (a' := ?_) #[true, true, true, true, false, true, false, false, false, false, false, false, false, false] rfl rfl (by kernel_rfl) (fun _ _ _ h => h) (Or.inl ⟨by rfl, ?_⟩) ?_ ?_
      rotate_left
      · intro w'
        go_simp
        with_reducible rfl
      rotate_left
      · simp only [Act.put, List.setIfInBounds_toArray, List.set_cons_zero, List.set_cons_succ, i64_w, i32_w]
        rfl
      refine pure_ (i := 6) (N := some 78) (v := ?_) (a' := ?_) #[true, true, true, true, false, true, true, false, false, false, false, false, false, false] rfl rfl (by kernel_rfl) (fun _ _ _ h => h) (Or.inl ⟨by rfl, ?_⟩) ?_ ?_
      rotate_left
      · intro w'
        go_simp
        with_reducible rfl
      rotate_left
      · simp only [Act.put, List.setIfInBounds_toArray, List.set_cons_zero, List.set_cons_succ, i64_w, i32_w]
        rfl
      refine pure_ (i := 7) (N := some 79) (v := ?_) (a' := ?_) #[true, true, true, true, false, true, true, true, false, false, false, false, false, false] rfl rfl (by kernel_rfl) (fun _ _ _ h => h) (Or.inl ⟨by rfl, ?_⟩) ?_ ?_
      rotate_left
      · intro w'
        go_simp
        with_reducible rfl
      rotate_left
      · simp only [Act.put, List.setIfInBounds_toArray, List.set_cons_zero, List.set_cons_succ, i64_w, i32_w]
        rfl
      refine pure_ (i := 9) (N := some 81) (v := ?_) (a' := ?_) #[true, true, true, true, false, true, true, true, false, true, false, false, false, false] rfl rfl (by kernel_rfl) (fun _ _ _ h => h) (Or.inl ⟨by rfl, ?_⟩) ?_ ?_
      rotate_left
      · intro w'
        go_simp
        with_reducible rfl
      rotate_left
      · simp only [Act.put, List.setIfInBounds_toArray, List.set_cons_zero, List.set_cons_succ, i64_w, i32_w]
        rfl
      refine take_ (i := 4) (N := some 76) (v := ?_) (a' := ?_) #[true, true, true, true, true, true, true, true, false, true, false, false, false, false] rfl rfl (by kernel_rfl) (fun _ _ _ h => h) (Or.inl ⟨by rfl, ?_⟩) hHeld ?_ ?_
      rotate_left
      · rintro w' ⟨s0, s1⟩
        go_simp
        with_reducible rfl
      rotate_left
      · simp only [Act.put, List.setIfInBounds_toArray, List.set_cons_zero, List.set_cons_succ, i64_w, i32_w]
        rfl
      refine take_ (i := 8) (N := some 80) (v := ?_) (a' := ?_) #[true, true, true, true, true, true, true, true, true, true, false, false, false, false] rfl rfl (by kernel_rfl) (fun _ _ _ h => h) (Or.inl ⟨by rfl, ?_⟩) hHeld ?_ ?_
      rotate_left
      · rintro w' ⟨s0, s1⟩
        go_simp
        with_reducible rfl
      rotate_left
      · simp only [Act.put, List.setIfInBounds_toArray, List.set_cons_zero, List.set_cons_succ, i64_w, i32_w]
        rfl
      refine pure_ (i := 10) (N := some 82) (v := ?_) (a' := ?_) #[true, true, true, true, true, true, true, true, true, true, true, false, false, false] rfl rfl (by kernel_rfl) (fun _ _ _ h => h) (Or.inl ⟨by rfl, ?_⟩) ?_ ?_
      rotate_left
      · intro w'
        go_simp
        with_reducible rfl
      rotate_left
      · simp only [Act.put, List.setIfInBounds_toArray, List.set_cons_zero, List.set_cons_succ, i64_w, i32_w]
        rfl
      refine one_ (i := 11) (N := some 83) #[true, true, true, true, true, true, true, true, true, true, true, true, false, false] rfl rfl (by kernel_rfl) (by decide) (fun K hK => ?_)
      refine value_ (w1 := ?_) (v := ?_) (by rfl) rfl ?_ ?_
      rotate_left 2
      · go_simp
        constructor
        · rfl
        · rfl
      refine hK.out _ _ ⟨(World.cell?_alloc_lt _ _ _ (World.block_lt_of_cell? _ _ hHeld.1)).trans hHeld.1, (World.cell?_alloc_lt _ _ _ (World.block_lt_of_cell? _ _ hHeld.2)).trans hHeld.2⟩ (fun hHeld => ?_)
      clear hK K
      refine norm_ (a' := ?_) ?_ ?_
      rotate_left
      · show Act.put _ (some 83) _ = _
        simp only [Act.put, List.setIfInBounds_toArray, List.set_cons_zero, List.set_cons_succ, i64_w, i32_w]
        rfl
      refine last_ (i := 12) (N := some 84) #[true, true, true, true, true, true, true, true, true, true, true, true, true, false] rfl rfl (by kernel_rfl) (by decide) (fun K hK => ?_)
      refine Kd.R_append_step k46 (w0 := w13) w12.heap.size (by rfl) (.tmp 72) (.tmp 83) 43 46 (.agg #[(.int .i64 0), (.int .i64 0), (.int .i64 0)]) 24 rfl Try.underlying43 info46 rfl (show 0 < 3 by decide) (by omega) (.slice A j c) (knotsB bs pf q1 q2 (e + 1) j) ⟨x, y, 2 - f⟩ [.int .i64 x, .int .i64 y, .int .i64 (2 - f)] (fun _ => True) (fun _ => False) (by first | rfl | (go_simp; done) | (go_simp; rfl)) rfl ?aP (fun _ hk => hk.elim) ?aF ?aO ?aB ?aS ?aL ?_
      (case aP => exact k46_mkM _ _ _ _)
      (case aF => exact fun _ _ => trivial)
      (case aO => exact R13.out)
      (case aB => exact Below.refl _ _)
      (case aS => exact below_size B13.out)
      (case aL => rw [knotsB_len]; have := HB.out; omega)
      intro v15 w15 k1 kb hg hat
      obtain ⟨A15, c15, e15⟩ := Kd.R_slice k1
      rw [List.length_append, List.length_singleton, knotsB_len] at e15
      subst e15
      have R15 := Aside0.mk k1
      have B15 := Aside0.mk (B13.out.grown hg (below_size B13.out) (fun k hk => Kd.R_base R13.out k hk))
      clear k1 kb hg hat
      refine hK.out _ _ ?_
      clear hK K
      refine norm_ (a' := ?_) ?_ ?_
      rotate_left
      · show Act.put _ (some 84) _ = _
        simp only [Act.put, List.setIfInBounds_toArray, List.set_cons_zero, List.set_cons_succ, i64_w, i32_w]
        rfl
      refine pure_ (i := 13) (N := some 15) (v := ?_) (a' := ?_) #[true, true, true, true, true, true, true, true, true, true, true, true, true, true] rfl rfl (by kernel_rfl) (fun _ _ _ h => h) (Or.inl ⟨by rfl, ?_⟩) ?_ ?_
      rotate_left
      · intro w'
        go_simp
        with_reducible rfl
      rotate_left
      · simp only [Act.put, List.setIfInBounds_toArray, List.set_cons_zero, List.set_cons_succ, i64_w, i32_w]
        rfl
      refine done_ (by kernel_rfl) ?_

      go_wp2
      refine ⟨⟨j + 1, A15, c15, rfl, by push_cast; rfl, by have := JL.out; omega, ⟨?_⟩, B15⟩, ?_⟩
      · rw [HK.out]
        exact R15.out
      · show e + 1 - (j + 1) < e + 1 - j
        have := JL.out
        omega
    · obtain rfl : j = e + 1 := by omega
      have jl1 := eq_false jl
      have jl2 := eq_false (show ¬ ((e + 1 : Nat) : Int) ≤ (e : Int) by omega)
      have jl5 := eq_false (show ¬ (e : Int) + 1 ≤ (e : Int) by omega)
      clear jl
      have DD := Aside0.mk (D12.out.below HW.out)
      obtain ⟨kn, hkn⟩ : ∃ q, knotsB bs pf q1 q2 (e + 1) (e + 1) = q := ⟨_, rfl⟩
      have HKN := Aside0.mk hkn
      have HN := Aside0.mk (show k46.R 46 wr B (fun _ => True) (.slice A (e + 1) c) kn from by rw [← hkn]; exact Kd.R_lower HR.out D12.out.z)
      have c0 := blk_cell DD.out.ko 0
      have c1 := blk_cell DD.out.ko 1
      have g0 := blk_cell DD.out.kr 0
      have g1 := blk_cell DD.out.kr 1
      clear hkn HR HW D12 F12 X12 Y12 x4
      go_upto_region 27 with ((with_reducible refine gate_builtin (b := .append) (xs := #[.tmp 86, .tmp 88]) rfl ?_); at_builtin; refine Kd.R_append (Kd.slice 46 k46) (w0 := wr) B rfl (.tmp 86) (.tmp 88) 27 43 (.slice none 0 0) 24 rfl Try.underlying27 info43 rfl (by decide) (by omega) (.slice none 0 0) [] kn [.slice A (e + 1) c] (fun _ => True) (fun _ => True) rfl (by first | (go_simp; done) | (go_simp; rfl)) ?aP (fun k _ => ⟨trivial, fun z => by cases z⟩) ?aF ?aO ?aB ?aS ?aL ?_; (case aP => exact ⟨_, rfl, HN.out⟩); (case aF => exact fun _ _ => trivial); (case aO => exact Kd.R_nil _ _ _ _ _); (case aB => exact Below.refl _ _); (case aS => exact DD.out.z); (case aL => simp); intro v20 w20 k1 k2 k3 k4; have K20 := Aside0.mk (blk_grown DD.out.ko k3 (fun z => by cases z)); have KR20 := Aside0.mk (blk_grown DD.out.kr k3 (fun z => by cases z)); have C20 := Aside0.mk (Kd.R_grown2 DD.out.rc rfl k3 (fun k hk => by cases hk)); have G20 := Aside0.mk (On.own H.out (by decide) DD.out.on k3 (fun k hk => by cases hk)); have R20 := Aside0.mk k1; obtain ⟨A20, c20, e20⟩ := Kd.R_slice k1; subst e20; have q0 := blk_cell K20.out 0; have q1f := blk_frozen K20.out 0; clear k1 k2 k3 k4)
      have ON := Aside0.mk (show r ≠ o ∧ w.heap.size ≤ o by have := B1.out; have := OB.out; omega)
      obtain ⟨w21, hX, KO, KR, C21, R21, G21⟩ : ∃ W, W = w20.setCell ⟨o, 0, none⟩ (.slice A20 1 c20) ∧ Aside0 (W.heap[o]? = some (Obj.cells #[.slice A20 1 c20, .slice A7 lc c7] 29 (0, 0))) ∧ Aside0 (W.heap[r]? = some (Obj.cells zeroG 29 (0, 0))) ∧ Aside0 (Kd.R (Kd.int .u8) 5 W B (fun _ => True) (.slice A7 lc c7) code) ∧ Aside0 (Kd.R (Kd.slice 46 k46) 43 W B (fun _ => True) (.slice A20 1 c20) [kn]) ∧ Aside0 (On w 86 g gv bs (q2 + 2 * ((e + 1 : Nat) : Int)) W) :=
        ⟨_, rfl, ⟨blk_put K20.out 0 _ rfl⟩, ⟨blk_grown KR20.out (grown_set _ _ _ _) (fun z => by injection z with z; exact ON.out.1 z)⟩, ⟨Kd.R_set C20.out K20.out (fun q hq => by rcases List.mem_cons.1 hq with rfl | hq; decide; cases hq) 0 _⟩, ⟨Kd.R_set R20.out K20.out (fun q hq => by rcases List.mem_cons.1 hq with rfl | hq; decide; rcases List.mem_cons.1 hq with rfl | hq; decide; cases hq) 0 _⟩, ⟨On.own H.out (by decide) G20.out (grown_set _ _ _ _) (fun k hk => by injection hk with hk; rw [← hk]; exact ON.out.2)⟩⟩
      rw [← hX]
      clear hX c0 c1 g0 g1 q0 q1f K20 KR20 C20 R20 G20 DD HN
      have c0 := blk_cell KO.out 0
      have c1 := blk_cell KO.out 1
      have g0 := blk_cell KR.out 0
      have g1 := blk_cell KR.out 1
      go_wp2
      rw [rounds_succ]
      go_upto_region 29 with fail
      go_wp2_with (refine wpList_store_row rfl 29 (.tmp 4) (.tmp 94) rfl r #[.slice A20 1 c20, .slice A7 lc c7] rfl rfl 29 zeroG KR.out (by kernel_rfl) rfl (by simp [Value.oneCell']) ?_)
      refine bodyPost_ret (res43 _ r (.slice A20 1 c20) (.slice A7 lc c7) _ rfl (setRow_heap _ _ _ _ _ _ KR.out)) rfl ?_
      have zr := R_setrow (cs := #[.slice A20 1 c20, .slice A7 lc c7]) R21.out B1.out.2.1
      have zc := R_setrow (cs := #[.slice A20 1 c20, .slice A7 lc c7]) C21.out B1.out.2.1
      have zg := On.own H.out (by decide) G21.out (grown_setRow w21 r #[.slice A20 1 c20, .slice A7 lc c7]) (fun k hk => by injection hk with hk; have := B1.out; omega)
      have e1 : pf + ((e : Int) + 1) = q1 := by have := HQ1.out; push_cast at this; omega
      have e2 : q1 + 2 * ((e : Int) + 1) = q2 := by have := HQ2.out; push_cast at this; omega
      refine ⟨A20, c20, A7, c7, rfl, zg.gr, ?_, ?_⟩
      · rw [e1, e2, HKN.out]
        exact Kd.R_lower zr (by have := B1.out; omega)
      · rw [HC.out, LC.out]
        exact Kd.R_lower zc (by have := B1.out; omega)
end Go.Proofs.Ytchmhcfdamdjdaa.G
