import Derived.Test.YtonljpciadeafaaSx0
import Derived.Test.YtonljpciadeafaaSfPS
set_option linter.unusedVariables false
set_option linter.unusedSimpArgs false
namespace Go.Proofs.Ytonljpciadeafaa.S
open Go Go.RowKit Go.Proofs.YtonljpciadeafaaW.PrintWords Go.Proofs.YtonljpciadeafaaW.PrintLast Go.Proofs.YtonljpciadeafaaW.PrintMore
def Fn (w : World) (g : Nat) (kd : Int) (rows : List S71) (bs : List Int) : Prop := ∃ gv A c, w.heap[g]? = some (.cells #[.pointer (some ⟨gv, 0, none⟩), .int .i64 kd, .slice A rows.length c] 75 (0, 0)) ∧ Vw w gv bs ∧ rows.length ≤ c ∧ Kd.C k71 w A rows.length rows
theorem Fn.below {w w' : World} {g : Nat} {kd : Int} {rows : List S71} {bs : List Int} (h : Fn w g kd rows bs) (hb : Below w.heap.size w w') : Fn w' g kd rows bs := by
  obtain ⟨gv, A, c, h1, h2, h3, h4⟩ := h
  exact ⟨gv, A, c, (hb.block _ (qz h1)).trans h1, h2.below hb, h3, Kd.qO h4 hb⟩
def kindOf (t : ByteArray) : Int := if (t.toList == [0, 1, 0, 0]) = true then 1 else if (t.toList == [116, 114, 117, 101]) = true then 1 else if (t.toList == [79, 84, 84, 79]) = true then 2 else 0
def jL (bs : List Int) (at_ : Int) : Nat → Nat → ByteArray → List S71 → List S71 × Int
  | 0, _, _, acc => (acc, 0)
  | m + 1, i, last, acc => if (Qe bs (at_ + 12 + 16 * (i : Int)) last).2 = 0 then jL bs at_ m (i + 1) (Qe bs (at_ + 12 + 16 * (i : Int)) last).1.f0 (acc ++ [(Qe bs (at_ + 12 + 16 * (i : Int)) last).1]) else ([], (Qe bs (at_ + 12 + 16 * (i : Int)) last).2)
def je (bs : List Int) (face : Int) : (Int × List S71) × Int :=
  if bs.length > 1048576 then ((0, []), 33)
  else if (zC bs face).2 ≠ 0 then ((0, []), (zC bs face).2)
  else if (ze bs (zC bs face).1 4).2 ≠ 0 then ((0, []), 31)
  else if kindOf (strOfNums (ze bs (zC bs face).1 4).1) = 0 then ((0, []), 32)
  else if (qI bs ((zC bs face).1 + 4) 2).2 ≠ 0 then ((0, []), 31)
  else if (qI bs ((zC bs face).1 + 4) 2).1 = 0 then ((0, []), 31)
  else if (qI bs ((zC bs face).1 + 4) 2).1 > 64 then ((0, []), 33)
  else if (jL bs (zC bs face).1 (qI bs ((zC bs face).1 + 4) 2).1.toNat 0 ⟨#[]⟩ []).2 ≠ 0 then ((0, []), (jL bs (zC bs face).1 (qI bs ((zC bs face).1 + 4) 2).1.toNat 0 ⟨#[]⟩ []).2)
  else ((kindOf (strOfNums (ze bs (zC bs face).1 4).1), (jL bs (zC bs face).1 (qI bs ((zC bs face).1 + 4) 2).1.toNat 0 ⟨#[]⟩ []).1), 0)
theorem beginV_bd {bs : List Int} (ho : okB bs) (face : Int) : 0 ≤ (zC bs face).1 ∧ (zC bs face).1 < 4294967296 := by
  have h : 0 ≤ (qI bs (12 + 4 * face) 4).1 ∧ (qI bs (12 + 4 * face) 4).1 < 256 ^ 4 := jX bs ho (12 + 4 * face) 4 (by decide)
  simp at h
  unfold zC
  repeat' split
  all_goals first | (dsimp only; omega) | decide
def Qd (R : (Int × List S71) × Int) (bs : List Int) (w : World) (e : Ending) (w' : World) : Prop := Below w.heap.size w w' ∧
  (R.2 ≠ 0 ∧ e = .returned (.tuple #[.pointer none, .int .i64 R.2]) ∨ R.2 = 0 ∧ ∃ g, e = .returned (.tuple #[.pointer (some ⟨g, 0, none⟩), .int .i64 0]) ∧ Fn w' g R.1.1 R.1.2 bs)
theorem Qd.bad {R : (Int × List S71) × Int} {x : Int × List S71} {n : Int} {bs : List Int} {w w' : World} (e : R = (x, n)) (hn : n ≠ 0) (h : Below w.heap.size w w') : Qd R bs w (.returned (.tuple #[.pointer none, .int .i64 n])) w' := by
  subst e; exact ⟨h, Or.inl ⟨hn, rfl⟩⟩
theorem JF (bs : List Int) (p : Int) (last : ByteArray) : (Qe bs p last).2 = 0 ∨ (Qe bs p last).2 = 31 := by
  unfold Qe Ql
  repeat' split
  all_goals first | exact Or.inl rfl | exact Or.inr rfl
set_option maxRecDepth 100000 in
set_option maxHeartbeats 8000000 in
theorem ZY (bs : List Int) (A : Option Addr) (c : Nat) (face : Int) (w : World) (hr : Kd.C (Kd.int .u8) w A bs.length bs) (hc : bs.length ≤ c) (ho : okB bs) :
    Calls Try.prog 15 #[.slice A bs.length c, .int .i64 face] w (Qd (je bs face) bs w) := by
  have hl := hr.2.1
  have HR0 := qa.mk hr
  have HC := qa.mk hc
  have HB0 := qa.mk (Below.refl w.heap.size w)
  obtain ⟨R, hR⟩ : ∃ R, R = je bs face := ⟨_, rfl⟩
  rw [← hR]
  have HR := qa.mk hR
  clear hR hr hc
  unfold je at HR
  by_cases c1 : bs.length > 1048576
  · rw [if_pos c1] at HR
    have c1b : decide ((1048576 : Int) < (bs.length : Int)) = true := decide_eq_true (by omega)
    clear c1
    go_enter Try.func15, Try.ntmps15
    go_wp2
    go_ret2
    exact Qd.bad HR.out (by decide) HB0.out
  rw [if_neg c1] at HR
  have c1b : decide ((1048576 : Int) < (bs.length : Int)) = false := decide_eq_false (by omega)
  have hm : bs.length ≤ 1048576 := by omega
  have bb := beginV_bd ho face
  have HN := qa.mk (new_calls bs A c w HR0.out HC.out (by omega))
  have HBg := qa.mk (fun g w' (hv : Vw w' g bs) => begin_calls bs g face w' hv ho)
  have HT := qa.mk (fun g p w' (hv : Vw w' g bs) => Jo bs g p w' hv)
  have HU := qa.mk (fun g p w' (hv : Vw w' g bs) => Ji bs g p w' hv ho)
  have HRw := qa.mk (fun g p last w' (hv : Vw w' g bs) (h0 : 0 ≤ p) (h1 : p ≤ 1099511627776) => row_calls bs g p last w' hv ho (by omega) h0 h1)
  have HNb := qa.mk (fun p => jX bs ho p 2 (by decide))
  clear c1 hm hl ho
  obtain ⟨at_, e1, hb⟩ : ∃ a b, zC bs face = (a, b) := ⟨_, _, rfl⟩
  rw [hb] at HBg HR bb
  dsimp only at HBg HR bb
  clear hb
  go_enter Try.func15, Try.ntmps15
  go_upto_region 4 with (go_at_call 34; refine HN.out.mono ?_; rintro q w1 ⟨gv, g0, rfl, v1, h1⟩; have G0 := qa.mk g0; have V1 := qa.mk v1; have B1 := qa.mk h1; clear g0 v1 h1)
  obtain ⟨W, gF, hW, er, bW, lW⟩ : ∃ W r, W = w1.alloc (Obj.cells #[.pointer (some ⟨gv, 0, none⟩), .int .i64 0, .slice none 0 0] 75) ∧ w1.heap.size = r ∧ W.heap[r]? = some (Obj.cells #[.pointer (some ⟨gv, 0, none⟩), .int .i64 0, .slice none 0 0] 75 (0, 0)) ∧ Below w1.heap.size w1 W :=
    ⟨_, _, rfl, rfl, zk _ _, qF (Below.refl _ _) _⟩
  rw [← hW, er]
  have GE : w1.heap.size ≤ gF := by omega
  have BW := qa.mk lW
  have VW := qa.mk (V1.out.below lW)
  have KW := qa.mk bW
  have x0 : W.cell? ⟨gF, 0, none⟩ = some (.pointer (some ⟨gv, 0, none⟩)) := (qb bW 0).trans rfl
  clear hW er bW lW
  go_upto_region 5 with (go_at_call 35; refine (HBg.out gv W VW.out).mono ?_; rintro q w2 ⟨rfl, h1⟩; have B2 := qa.mk (qc BW.out h1); have V2 := qa.mk (VW.out.below h1); have K2 := qa.mk ((h1.block _ (qz KW.out)).trans KW.out); clear h1)
  clear x0
  by_cases c2 : e1 ≠ 0
  · rw [if_pos c2] at HR
    have c2b : (e1 != 0) = true := bne_iff_ne.mpr c2
    have C2 := qa.mk c2
    clear c2
    go_wp2
    go_ret2
    exact Qd.bad HR.out C2.out (qc B1.out B2.out)
  rw [if_neg c2] at HR
  obtain rfl : e1 = 0 := Decidable.byContradiction c2
  clear c2
  have y0 : w2.cell? ⟨gF, 0, none⟩ = some (.pointer (some ⟨gv, 0, none⟩)) := (qb K2.out 0).trans rfl
  go_upto_region 8 with (go_at_call 36; refine (HT.out gv at_ w2 V2.out).mono ?_; rintro q w3 ⟨rfl, h1⟩; have B3 := qa.mk (qc B2.out h1); have V3 := qa.mk (V2.out.below h1); have K3 := qa.mk ((h1.block _ (qz K2.out)).trans K2.out); clear h1)
  clear y0
  generalize strOfNums (ze bs at_ 4).1 = tg at *
  generalize (ze bs at_ 4).2 = e2 at *
  by_cases c3 : e2 ≠ 0
  · rw [if_pos c3] at HR
    have c3b : (e2 != 0) = true := bne_iff_ne.mpr c3
    clear c3
    go_wp2
    go_ret2
    exact Qd.bad HR.out (by decide) (qc B1.out B3.out)
  rw [if_neg c3] at HR
  obtain rfl : e2 = 0 := Decidable.byContradiction c3
  clear c3
  have z1 : w3.cell? ⟨gF, 1, none⟩ = some (.int .i64 0) := (qb K3.out 1).trans rfl
  have zf : w3.frozen? ⟨gF, 1, none⟩ = false := qd K3.out 1
  by_cases ck : kindOf tg = 0
  · rw [if_pos ck] at HR
    have k1 : (tg.toList == [0, 1, 0, 0]) = false := by
      unfold kindOf at ck; by_cases q : (tg.toList == [0, 1, 0, 0]) = true
      · rw [if_pos q] at ck; exact absurd ck (by decide)
      · exact Bool.eq_false_iff.mpr q
    have k2 : (tg.toList == [116, 114, 117, 101]) = false := by
      unfold kindOf at ck; rw [k1, if_neg (by decide)] at ck; by_cases q : (tg.toList == [116, 114, 117, 101]) = true
      · rw [if_pos q] at ck; exact absurd ck (by decide)
      · exact Bool.eq_false_iff.mpr q
    have k3 : (tg.toList == [79, 84, 84, 79]) = false := by
      unfold kindOf at ck; rw [k1, k2, if_neg (by decide), if_neg (by decide)] at ck; by_cases q : (tg.toList == [79, 84, 84, 79]) = true
      · rw [if_pos q] at ck; exact absurd ck (by decide)
      · exact Bool.eq_false_iff.mpr q
    clear ck
    go_wp2
    go_ret2
    exact Qd.bad HR.out (by decide) (qc B1.out B3.out)
  rw [if_neg ck] at HR
  obtain ⟨kd, hkd⟩ : ∃ k, kindOf tg = k := ⟨_, rfl⟩
  rw [hkd] at HR
  have HU4 := qa.mk (HU.out gv (at_ + 4))
  have hnb := HNb.out (at_ + 4)
  obtain ⟨n, e3, hn⟩ : ∃ a b, qI bs (at_ + 4) 2 = (a, b) := ⟨_, _, rfl⟩
  have hnb : 0 ≤ (qI bs (at_ + 4) 2).1 ∧ (qI bs (at_ + 4) 2).1 < 256 ^ 2 := hnb
  rw [hn] at HU4 HR hnb
  dsimp only at HU4 HR hnb
  clear hn HU HNb
  have hcase : (tg.toList == [0, 1, 0, 0]) = true ∧ kd = 1 ∨ ((tg.toList == [0, 1, 0, 0]) = false ∧ (tg.toList == [116, 114, 117, 101]) = true) ∧ kd = 1 ∨ ((tg.toList == [0, 1, 0, 0]) = false ∧ (tg.toList == [116, 114, 117, 101]) = false ∧ (tg.toList == [79, 84, 84, 79]) = true) ∧ kd = 2 := by
    unfold kindOf at hkd ck
    cases q1 : (tg.toList == [0, 1, 0, 0]) with
    | true => rw [q1, if_pos rfl] at hkd; exact Or.inl ⟨rfl, hkd.symm⟩
    | false =>
      rw [q1, if_neg (by decide)] at hkd ck
      cases q2 : (tg.toList == [116, 114, 117, 101]) with
      | true => rw [q2, if_pos rfl] at hkd; exact Or.inr (Or.inl ⟨⟨rfl, rfl⟩, hkd.symm⟩)
      | false =>
        rw [q2, if_neg (by decide)] at hkd ck
        cases q3 : (tg.toList == [79, 84, 84, 79]) with
        | true => rw [q3, if_pos rfl] at hkd; exact Or.inr (Or.inr ⟨⟨rfl, rfl, rfl⟩, hkd.symm⟩)
        | false => rw [q3, if_neg (by decide)] at ck; exact absurd rfl ck
  clear hkd ck
  rcases hcase with ⟨k1, rfl⟩ | ⟨⟨k1, k2⟩, rfl⟩ | ⟨⟨k1, k2, k3⟩, rfl⟩
  · go_upto_region 17 with fail
    obtain ⟨X, hX, KX, BX, VX⟩ : ∃ X, X = w3.setCell ⟨gF, 1, none⟩ (.int .i64 1) ∧ qa (X.heap[gF]? = some (Obj.cells #[.pointer (some ⟨gv, 0, none⟩), .int .i64 1, .slice none 0 0] 75 (0, 0))) ∧ qa (Below w1.heap.size w1 X) ∧ qa (Vw X gv bs) := by
      refine ⟨_, rfl, ⟨?_⟩, ⟨qA B3.out GE⟩, ⟨?_⟩⟩
      · refine qR (cs := #[.pointer (some ⟨gv, 0, none⟩), .int .i64 0, .slice none 0 0]) ?_ 1 _ rfl
        exact K3.out
      · exact V1.out.below (qA B3.out GE)
    rw [← hX]
    clear hX z1 zf k1
    have y0 : X.cell? ⟨gF, 0, none⟩ = some (.pointer (some ⟨gv, 0, none⟩)) := (qb KX.out 0).trans rfl
    have b64 : at_ + 4 ≤ 9223372036854775807 := by omega
    have U := qa.mk (HU4.out X VX.out)
    by_cases c4 : e3 ≠ 0
    · rw [if_pos c4] at HR
      have c4b : (e3 != 0) = true := bne_iff_ne.mpr c4
      clear c4
      go_wp2_with (go_at_call 37; refine U.out.mono ?_; rintro q w4 ⟨rfl, h1⟩; have B4 := qa.mk (qc BX.out h1); clear h1)
      go_ret2
      exact Qd.bad HR.out (by decide) (qc B1.out B4.out)
    rw [if_neg c4] at HR
    obtain rfl : e3 = 0 := Decidable.byContradiction c4
    clear c4
    by_cases c5 : n = 0
    · rw [if_pos c5] at HR
      have c5b : (n == 0) = true := beq_iff_eq.mpr c5
      have C5 := qa.mk c5
      clear c5
      go_wp2_with (go_at_call 37; refine U.out.mono ?_; rintro q w4 ⟨rfl, h1⟩; have B4 := qa.mk (qc BX.out h1); clear h1)
      go_ret2
      exact Qd.bad HR.out (by decide) (qc B1.out B4.out)
    rw [if_neg c5] at HR
    have c5b : (n == 0) = false := beq_eq_false_iff_ne.mpr c5
    by_cases c6 : n > 64
    · rw [if_pos c6] at HR
      have c6b : decide (64 < n) = true := decide_eq_true c6
      clear c5 c6
      go_wp2_with (go_at_call 37; refine U.out.mono ?_; rintro q w4 ⟨rfl, h1⟩; have B4 := qa.mk (qc BX.out h1); clear h1)
      go_ret2
      exact Qd.bad HR.out (by decide) (qc B1.out B4.out)
    rw [if_neg c6] at HR
    have c6b : decide (64 < n) = false := decide_eq_false c6
    obtain ⟨m, rfl⟩ : ∃ m : Nat, n = (m : Int) := ⟨n.toNat, by omega⟩
    rw [Int.toNat_natCast] at HR
    have m64 : m ≤ 64 := by omega
    clear c5 c6 hnb
    go_wp2_with (go_at_call 37; refine U.out.mono ?_; rintro q w4 ⟨rfl, h1⟩; have B4 := qa.mk (qc BX.out h1); have V4 := qa.mk (VX.out.below h1); have K4 := qa.mk ((h1.block _ (qz KX.out)).trans KX.out); clear h1)
    clear c5b c6b y0 U HU4
    obtain ⟨Q, hQ⟩ : ∃ Q, jL bs at_ m 0 ⟨#[]⟩ [] = Q := ⟨_, rfl⟩
    rw [hQ] at HR
    have HQ0 := qa.mk hQ
    clear hQ
    go_loopw [11, 78] (fun v11 v78 wr => ∃ (i : Nat) (last : ByteArray) (acc : List S71) (A2 : Option Addr) (c2 : Nat), v11 = .string last ∧ v78 = .int .i64 i ∧ i ≤ m ∧ qa (jL bs at_ (m - i) i last acc = Q) ∧ qa (wr.heap[gF]? = some (Obj.cells #[.pointer (some ⟨gv, 0, none⟩), .int .i64 1, .slice A2 acc.length c2] 75 (0, 0))) ∧ qa (Kd.R k71 71 wr w1.heap.size (fun _ => True) (.slice A2 acc.length c2) acc) ∧ qa (acc.length ≤ i) ∧ qa (Vw wr gv bs) ∧ qa (Below w1.heap.size w1 wr)) (fun _ v78 _ => m - (intOf v78).toNat)
    case atStart => exact ⟨0, _, [], none, 0, rfl, rfl, Nat.zero_le _, HQ0, K4, ⟨Kd.jE _ _ _ _ _⟩, ⟨Nat.le_refl _⟩, V4, B4⟩
    case round =>
      obtain ⟨i, last, acc, A2, c2, rfl, rfl, hi, HQ, HK, HA, HL, HV, HB⟩ := hrel
      by_cases ilt : i < m
      · have il := eq_true (show (i : Int) < (m : Int) by omega)
        have il2 := eq_true ilt
        have hrq := HQ.out
        rw [show m - i = (m - (i + 1)) + 1 by omega, jL] at hrq
        have HRo := qa.mk (HRw.out gv (at_ + 12 + 16 * (i : Int)) last wr HV.out (by omega) (by omega))
        have her := JF bs (at_ + 12 + 16 * (i : Int)) last
        have y0 : wr.cell? ⟨gF, 0, none⟩ = some (.pointer (some ⟨gv, 0, none⟩)) := (qb HK.out 0).trans rfl
        obtain ⟨T, e4, hT⟩ : ∃ a b, Qe bs (at_ + 12 + 16 * (i : Int)) last = (a, b) := ⟨_, _, rfl⟩
        rw [hT] at hrq HRo her
        dsimp only at hrq HRo her
        have HQ2 := qa.mk hrq
        have b1 : at_ + 12 + 16 * (i : Int) ≤ 9223372036854775807 := by omega
        clear hT hrq HQ
        rcases her with rfl | rfl
        rotate_left
        · go_wp2_with (go_at_call 38; refine HRo.out.mono ?_; rintro q w5 ⟨rfl, h1⟩; have B5 := qa.mk (qc HB.out h1); clear h1)
          go_ret2
          have e := HQ2.out
          rw [if_neg (by decide)] at e
          have er := HR.out
          rw [← e, if_pos (by decide)] at er
          exact Qd.bad er (by decide) (qc B1.out (qF B5.out _))
        go_upto_region 27 with (go_at_call 38; refine HRo.out.mono ?_; rintro q w5 ⟨rfl, h1⟩; have B5 := qa.mk (qc HB.out h1); have V5 := qa.mk (HV.out.below h1); have K5 := qa.mk ((h1.block _ (qz HK.out)).trans HK.out); have R5 := qa.mk (Kd.qM HA.out h1); clear h1)
        obtain ⟨w7, gT, hW, er, bT, lT⟩ : ∃ W r, W = w5.alloc (Obj.cells #[.string T.f0, .int .i64 T.f1, .int .i64 T.f2] 71) ∧ w5.heap.size = r ∧ W.heap[r]? = some (Obj.cells #[.string T.f0, .int .i64 T.f1, .int .i64 T.f2] 71 (0, 0)) ∧ Below w5.heap.size w5 W :=
          ⟨_, _, rfl, rfl, zk _ _, qF (Below.refl _ _) _⟩
        rw [← hW, er]
        have B7 := qa.mk (qc B5.out lT)
        have V7 := qa.mk (V5.out.below lT)
        have K7 := qa.mk ((lT.block _ (qz K5.out)).trans K5.out)
        have R7 := qa.mk (Kd.qM R5.out lT)
        have T7 := qa.mk bT
        have s0 : w7.cell? ⟨gT, 0, none⟩ = some (.string T.f0) := (qb bT 0).trans rfl
        clear hW er bT lT y0
        go_upto_region 30 with fail
        have x2 : w7.drew.cell? ⟨gF, 2, none⟩ = some (.slice A2 acc.length c2) := (qb (qQ K7.out) 2).trans rfl
        have t0 : w7.drew.cell? ⟨gT, 0, none⟩ = some (.string T.f0) := (qb (qQ T7.out) 0).trans rfl
        have t1 : w7.drew.cell? ⟨gT, 1, none⟩ = some (.int .i64 T.f1) := (qb (qQ T7.out) 1).trans rfl
        have t2 : w7.drew.cell? ⟨gT, 2, none⟩ = some (.int .i64 T.f2) := (qb (qQ T7.out) 2).trans rfl
        have R9 := qa.mk (Kd.qw R7.out)
        have K9 := qa.mk (qQ K7.out)
        have B9 := qa.mk (zm B7.out)
        have V9 := qa.mk (V7.out.below (zm (Below.refl _ _)))
        have HS := qa.mk (qi B9.out)
        have HG := qa.mk (qz K9.out)
        have l64 : acc.length ≤ 64 := by have := HL.out; omega
        clear s0
        refine jf (n := 11) (S := fun w' => w'.cell? ⟨gF, 2, none⟩ = some (.slice A2 acc.length c2) ∧ w'.cell? ⟨gT, 0, none⟩ = some (.string T.f0) ∧ w'.cell? ⟨gT, 1, none⟩ = some (.int .i64 T.f1) ∧ w'.cell? ⟨gT, 2, none⟩ = some (.int .i64 T.f2)) (ds := [7, 10]) #[false, false, false, false, false, false, false, false, false, false, false] (by kernel_rfl) rfl rfl ⟨x2, t0, t1, t2⟩ (fun hHeld => ?_)
        generalize w7.drew = w9 at x2 t0 t1 t2 R9 K9 B9 V9 HS HG hHeld ⊢
        refine qj (i := 0) (N := some 100) (v := ?_) (a' := ?_) #[true, false, false, false, false, false, false, false, false, false, false] rfl rfl (by kernel_rfl) (fun _ _ _ h => h) (Or.inl ⟨by rfl, ?_⟩) ?_ ?_
        rotate_left
        · intro w'
          go_simp
          with_reducible rfl
        rotate_left
        · simp only [Act.put, List.setIfInBounds_toArray, List.set_cons_zero, List.set_cons_succ, qg, qh]
          rfl
        refine qj (i := 1) (N := some 101) (v := ?_) (a' := ?_) #[true, true, false, false, false, false, false, false, false, false, false] rfl rfl (by kernel_rfl) (fun _ _ _ h => h) (Or.inl ⟨by rfl, ?_⟩) ?_ ?_
        rotate_left
        · intro w'
          go_simp
          with_reducible rfl
        rotate_left
        · simp only [Act.put, List.setIfInBounds_toArray, List.set_cons_zero, List.set_cons_succ, qg, qh]
          rfl
        refine qj (i := 2) (N := some 102) (v := ?_) (a' := ?_) #[true, true, true, false, false, false, false, false, false, false, false] rfl rfl (by kernel_rfl) (fun _ _ _ h => h) (Or.inl ⟨by rfl, ?_⟩) ?_ ?_
        rotate_left
        · intro w'
          go_simp
          with_reducible rfl
        rotate_left
        · simp only [Act.put, List.setIfInBounds_toArray, List.set_cons_zero, List.set_cons_succ, qg, qh]
          rfl
        refine qj (i := 3) (N := some 103) (v := ?_) (a' := ?_) #[true, true, true, true, false, false, false, false, false, false, false] rfl rfl (by kernel_rfl) (fun _ _ _ h => h) (Or.inl ⟨by rfl, ?_⟩) ?_ ?_
        rotate_left
        · intro w'
          go_simp
          with_reducible rfl
        rotate_left
        · simp only [Act.put, List.setIfInBounds_toArray, List.set_cons_zero, List.set_cons_succ, qg, qh]
          rfl
        refine zq (i := 4) (N := some 104) (v := ?_) (a' := ?_) #[true, true, true, true, true, false, false, false, false, false, false] rfl rfl (by kernel_rfl) (fun _ _ _ h => h) (Or.inl ⟨by rfl, ?_⟩) hHeld ?_ ?_
        rotate_left
        · rintro w' ⟨s0, s1, s2, s3⟩
          go_simp
          with_reducible rfl
        rotate_left
        · simp only [Act.put, List.setIfInBounds_toArray, List.set_cons_zero, List.set_cons_succ, qg, qh]
          rfl
        refine zq (i := 5) (N := some 105) (v := ?_) (a' := ?_) #[true, true, true, true, true, true, false, false, false, false, false] rfl rfl (by kernel_rfl) (fun _ _ _ h => h) (Or.inl ⟨by rfl, ?_⟩) hHeld ?_ ?_
        rotate_left
        · rintro w' ⟨s0, s1, s2, s3⟩
          go_simp
          with_reducible rfl
        rotate_left
        · simp only [Act.put, List.setIfInBounds_toArray, List.set_cons_zero, List.set_cons_succ, qg, qh]
          rfl
        refine QK (i := 6) (N := some 106) #[true, true, true, true, true, true, true, false, false, false, false] rfl rfl (by kernel_rfl) (by decide) (fun K hK => ?_)
        refine QD (w1 := ?_) (v := ?_) (by rfl) rfl ?_ ?_
        rotate_left 2
        · go_simp
          constructor
          · rfl
          · rfl
        refine hK.out _ _ ⟨(World.cell?_alloc_lt _ _ _ (World.block_lt_of_cell? _ _ hHeld.1)).trans hHeld.1, (World.cell?_alloc_lt _ _ _ (World.block_lt_of_cell? _ _ hHeld.2.1)).trans hHeld.2.1, (World.cell?_alloc_lt _ _ _ (World.block_lt_of_cell? _ _ hHeld.2.2.1)).trans hHeld.2.2.1, (World.cell?_alloc_lt _ _ _ (World.block_lt_of_cell? _ _ hHeld.2.2.2)).trans hHeld.2.2.2⟩ (fun hHeld => ?_)
        clear hK K
        refine zO (a' := ?_) ?_ ?_
        rotate_left
        · show Act.put _ (some 106) _ = _
          simp only [Act.put, List.setIfInBounds_toArray, List.set_cons_zero, List.set_cons_succ, qg, qh]
          rfl
        refine zS (i := 7) (N := some 107) #[true, true, true, true, true, true, true, true, false, false, false] rfl rfl (by kernel_rfl) (by decide) (fun K hK => ?_)
        refine Kd.jO k71 (w0 := w9) w1.heap.size (by rfl) (.tmp 104) (.tmp 106) 26 71 (.agg #[(.string ⟨#[]⟩), (.int .i64 0), (.int .i64 0)]) 32 rfl Try.underlying26 Jl rfl (by decide) (by omega) (.slice A2 acc.length c2) acc T [.string T.f0, .int .i64 T.f1, .int .i64 T.f2] (fun _ => True) (fun _ => False) (by first | rfl | (go_simp; done) | (go_simp; rfl)) rfl ?aP (fun _ hk => hk.elim) ?aF ?aO ?aB ?aS ?aL ?_
        (case aP => exact ZI _ _ _ T)
        (case aF => exact fun _ _ => trivial)
        (case aO => exact R9.out)
        (case aB => exact Below.refl _ _)
        (case aS => exact HS.out)
        (case aL => have := HL.out; omega)
        intro v8 w8 r8 b8 hg8 hat
        obtain ⟨A8, c8, rfl⟩ := Kd.qN r8
        have R8 := qa.mk r8
        have B8 := qa.mk b8
        have G8 := qa.mk hg8
        have K8 := qa.mk (zg K9.out hg8 (Kd.Qi R9.out K9.out (by decide)))
        clear r8 b8 hg8 hat
        have q2 : w8.cell? ⟨gF, 2, none⟩ = some (.slice A2 acc.length c2) := (qb K8.out 2).trans rfl
        have qf : w8.frozen? ⟨gF, 2, none⟩ = false := qd K8.out 2
        refine hK.out _ _ ?_
        clear hK K
        refine zO (a' := ?_) ?_ ?_
        rotate_left
        · show Act.put _ (some 107) _ = _
          simp only [Act.put, List.setIfInBounds_toArray, List.set_cons_zero, List.set_cons_succ, qg, qh]
          rfl
        refine qj (i := 8) (N := some 108) (v := ?_) (a' := ?_) #[true, true, true, true, true, true, true, true, true, false, false] rfl rfl (by kernel_rfl) (fun _ _ _ h => h) (Or.inl ⟨by rfl, ?_⟩) ?_ ?_
        rotate_left
        · intro w'
          go_simp
          with_reducible rfl
        rotate_left
        · simp only [Act.put, List.setIfInBounds_toArray, List.set_cons_zero, List.set_cons_succ, qg, qh]
          rfl
        refine qj (i := 9) (N := some 109) (v := ?_) (a' := ?_) #[true, true, true, true, true, true, true, true, true, true, false] rfl rfl (by kernel_rfl) (fun _ _ _ h => h) (Or.inl ⟨by rfl, ?_⟩) ?_ ?_
        rotate_left
        · intro w'
          go_simp
          with_reducible rfl
        rotate_left
        · simp only [Act.put, List.setIfInBounds_toArray, List.set_cons_zero, List.set_cons_succ, qg, qh]
          rfl
        refine zS (i := 10) (N := none) #[true, true, true, true, true, true, true, true, true, true, true] rfl rfl (by kernel_rfl) (by decide) (fun K hK => ?_)
        refine Zg (w1 := ?_) (by rfl) rfl ?_ ?_
        rotate_left
        · go_simp
          rfl
        refine hK.out _ _ ?_
        clear hK K
        refine jM (by kernel_rfl) ?_
        go_wp2
        have eL : acc.length + 1 = (acc ++ [T]).length := by simp
        rw [eL]
        refine ⟨⟨i + 1, T.f0, acc ++ [T], A8, c8, rfl, by push_cast; rfl, by omega, ?_, ?_, ?_, ?_, ?_, ?_⟩, ?_⟩
        · have e := HQ2.out
          rw [if_pos (by trivial)] at e
          exact ⟨e⟩
        · refine ⟨?_⟩
          refine qR (cs := #[.pointer (some ⟨gv, 0, none⟩), .int .i64 1, .slice A2 acc.length c2]) ?_ 2 _ (by rw [← eL]; rfl)
          exact K8.out
        · have r2 := Kd.R_set R8.out K8.out (by decide) 2 (.slice A8 (acc.length + 1) c8)
          rw [← eL] at r2 ⊢
          exact ⟨r2⟩
        · refine ⟨?_⟩
          rw [← eL]; have := HL.out; omega
        · exact ⟨V1.out.below (qA (Qs B9.out (Nat.le_refl _) B8.out) GE)⟩
        · exact ⟨qA (Qs B9.out (Nat.le_refl _) B8.out) GE⟩
        · show (_ : Nat) < _
          simp only [intOf]; omega
      · have il := eq_false (show ¬ (i : Int) < (m : Int) by omega)
        have il2 := eq_false ilt
        have hq := HQ.out
        rw [show m - i = 0 by omega, jL] at hq
        have er := HR.out
        rw [← hq, if_neg (fun z => z rfl)] at er
        have ER := qa.mk er
        clear hq er
        go_wp2
        go_ret2
        refine ⟨qc B1.out HB.out, Or.inr ⟨by rw [ER.out], gF, rfl, ?_⟩⟩
        rw [ER.out]
        exact ⟨gv, A2, c2, HK.out, HV.out, (Kd.qJ HA.out).2.1, (Kd.qJ HA.out).2.2⟩
  · go_upto_region 17 with fail
    obtain ⟨X, hX, KX, BX, VX⟩ : ∃ X, X = w3.setCell ⟨gF, 1, none⟩ (.int .i64 1) ∧ qa (X.heap[gF]? = some (Obj.cells #[.pointer (some ⟨gv, 0, none⟩), .int .i64 1, .slice none 0 0] 75 (0, 0))) ∧ qa (Below w1.heap.size w1 X) ∧ qa (Vw X gv bs) := by
      refine ⟨_, rfl, ⟨?_⟩, ⟨qA B3.out GE⟩, ⟨?_⟩⟩
      · refine qR (cs := #[.pointer (some ⟨gv, 0, none⟩), .int .i64 0, .slice none 0 0]) ?_ 1 _ rfl
        exact K3.out
      · exact V1.out.below (qA B3.out GE)
    rw [← hX]
    clear hX z1 zf k1 k2
    have y0 : X.cell? ⟨gF, 0, none⟩ = some (.pointer (some ⟨gv, 0, none⟩)) := (qb KX.out 0).trans rfl
    have b64 : at_ + 4 ≤ 9223372036854775807 := by omega
    have U := qa.mk (HU4.out X VX.out)
    by_cases c4 : e3 ≠ 0
    · rw [if_pos c4] at HR
      have c4b : (e3 != 0) = true := bne_iff_ne.mpr c4
      clear c4
      go_wp2_with (go_at_call 37; refine U.out.mono ?_; rintro q w4 ⟨rfl, h1⟩; have B4 := qa.mk (qc BX.out h1); clear h1)
      go_ret2
      exact Qd.bad HR.out (by decide) (qc B1.out B4.out)
    rw [if_neg c4] at HR
    obtain rfl : e3 = 0 := Decidable.byContradiction c4
    clear c4
    by_cases c5 : n = 0
    · rw [if_pos c5] at HR
      have c5b : (n == 0) = true := beq_iff_eq.mpr c5
      have C5 := qa.mk c5
      clear c5
      go_wp2_with (go_at_call 37; refine U.out.mono ?_; rintro q w4 ⟨rfl, h1⟩; have B4 := qa.mk (qc BX.out h1); clear h1)
      go_ret2
      exact Qd.bad HR.out (by decide) (qc B1.out B4.out)
    rw [if_neg c5] at HR
    have c5b : (n == 0) = false := beq_eq_false_iff_ne.mpr c5
    by_cases c6 : n > 64
    · rw [if_pos c6] at HR
      have c6b : decide (64 < n) = true := decide_eq_true c6
      clear c5 c6
      go_wp2_with (go_at_call 37; refine U.out.mono ?_; rintro q w4 ⟨rfl, h1⟩; have B4 := qa.mk (qc BX.out h1); clear h1)
      go_ret2
      exact Qd.bad HR.out (by decide) (qc B1.out B4.out)
    rw [if_neg c6] at HR
    have c6b : decide (64 < n) = false := decide_eq_false c6
    obtain ⟨m, rfl⟩ : ∃ m : Nat, n = (m : Int) := ⟨n.toNat, by omega⟩
    rw [Int.toNat_natCast] at HR
    have m64 : m ≤ 64 := by omega
    clear c5 c6 hnb
    go_wp2_with (go_at_call 37; refine U.out.mono ?_; rintro q w4 ⟨rfl, h1⟩; have B4 := qa.mk (qc BX.out h1); have V4 := qa.mk (VX.out.below h1); have K4 := qa.mk ((h1.block _ (qz KX.out)).trans KX.out); clear h1)
    clear c5b c6b y0 U HU4
    obtain ⟨Q, hQ⟩ : ∃ Q, jL bs at_ m 0 ⟨#[]⟩ [] = Q := ⟨_, rfl⟩
    rw [hQ] at HR
    have HQ0 := qa.mk hQ
    clear hQ
    go_loopw [11, 78] (fun v11 v78 wr => ∃ (i : Nat) (last : ByteArray) (acc : List S71) (A2 : Option Addr) (c2 : Nat), v11 = .string last ∧ v78 = .int .i64 i ∧ i ≤ m ∧ qa (jL bs at_ (m - i) i last acc = Q) ∧ qa (wr.heap[gF]? = some (Obj.cells #[.pointer (some ⟨gv, 0, none⟩), .int .i64 1, .slice A2 acc.length c2] 75 (0, 0))) ∧ qa (Kd.R k71 71 wr w1.heap.size (fun _ => True) (.slice A2 acc.length c2) acc) ∧ qa (acc.length ≤ i) ∧ qa (Vw wr gv bs) ∧ qa (Below w1.heap.size w1 wr)) (fun _ v78 _ => m - (intOf v78).toNat)
    case atStart => exact ⟨0, _, [], none, 0, rfl, rfl, Nat.zero_le _, HQ0, K4, ⟨Kd.jE _ _ _ _ _⟩, ⟨Nat.le_refl _⟩, V4, B4⟩
    case round =>
      obtain ⟨i, last, acc, A2, c2, rfl, rfl, hi, HQ, HK, HA, HL, HV, HB⟩ := hrel
      by_cases ilt : i < m
      · have il := eq_true (show (i : Int) < (m : Int) by omega)
        have il2 := eq_true ilt
        have hrq := HQ.out
        rw [show m - i = (m - (i + 1)) + 1 by omega, jL] at hrq
        have HRo := qa.mk (HRw.out gv (at_ + 12 + 16 * (i : Int)) last wr HV.out (by omega) (by omega))
        have her := JF bs (at_ + 12 + 16 * (i : Int)) last
        have y0 : wr.cell? ⟨gF, 0, none⟩ = some (.pointer (some ⟨gv, 0, none⟩)) := (qb HK.out 0).trans rfl
        obtain ⟨T, e4, hT⟩ : ∃ a b, Qe bs (at_ + 12 + 16 * (i : Int)) last = (a, b) := ⟨_, _, rfl⟩
        rw [hT] at hrq HRo her
        dsimp only at hrq HRo her
        have HQ2 := qa.mk hrq
        have b1 : at_ + 12 + 16 * (i : Int) ≤ 9223372036854775807 := by omega
        clear hT hrq HQ
        rcases her with rfl | rfl
        rotate_left
        · go_wp2_with (go_at_call 38; refine HRo.out.mono ?_; rintro q w5 ⟨rfl, h1⟩; have B5 := qa.mk (qc HB.out h1); clear h1)
          go_ret2
          have e := HQ2.out
          rw [if_neg (by decide)] at e
          have er := HR.out
          rw [← e, if_pos (by decide)] at er
          exact Qd.bad er (by decide) (qc B1.out (qF B5.out _))
        go_upto_region 27 with (go_at_call 38; refine HRo.out.mono ?_; rintro q w5 ⟨rfl, h1⟩; have B5 := qa.mk (qc HB.out h1); have V5 := qa.mk (HV.out.below h1); have K5 := qa.mk ((h1.block _ (qz HK.out)).trans HK.out); have R5 := qa.mk (Kd.qM HA.out h1); clear h1)
        obtain ⟨w7, gT, hW, er, bT, lT⟩ : ∃ W r, W = w5.alloc (Obj.cells #[.string T.f0, .int .i64 T.f1, .int .i64 T.f2] 71) ∧ w5.heap.size = r ∧ W.heap[r]? = some (Obj.cells #[.string T.f0, .int .i64 T.f1, .int .i64 T.f2] 71 (0, 0)) ∧ Below w5.heap.size w5 W :=
          ⟨_, _, rfl, rfl, zk _ _, qF (Below.refl _ _) _⟩
        rw [← hW, er]
        have B7 := qa.mk (qc B5.out lT)
        have V7 := qa.mk (V5.out.below lT)
        have K7 := qa.mk ((lT.block _ (qz K5.out)).trans K5.out)
        have R7 := qa.mk (Kd.qM R5.out lT)
        have T7 := qa.mk bT
        have s0 : w7.cell? ⟨gT, 0, none⟩ = some (.string T.f0) := (qb bT 0).trans rfl
        clear hW er bT lT y0
        go_upto_region 30 with fail
        have x2 : w7.drew.cell? ⟨gF, 2, none⟩ = some (.slice A2 acc.length c2) := (qb (qQ K7.out) 2).trans rfl
        have t0 : w7.drew.cell? ⟨gT, 0, none⟩ = some (.string T.f0) := (qb (qQ T7.out) 0).trans rfl
        have t1 : w7.drew.cell? ⟨gT, 1, none⟩ = some (.int .i64 T.f1) := (qb (qQ T7.out) 1).trans rfl
        have t2 : w7.drew.cell? ⟨gT, 2, none⟩ = some (.int .i64 T.f2) := (qb (qQ T7.out) 2).trans rfl
        have R9 := qa.mk (Kd.qw R7.out)
        have K9 := qa.mk (qQ K7.out)
        have B9 := qa.mk (zm B7.out)
        have V9 := qa.mk (V7.out.below (zm (Below.refl _ _)))
        have HS := qa.mk (qi B9.out)
        have HG := qa.mk (qz K9.out)
        have l64 : acc.length ≤ 64 := by have := HL.out; omega
        clear s0
        refine jf (n := 11) (S := fun w' => w'.cell? ⟨gF, 2, none⟩ = some (.slice A2 acc.length c2) ∧ w'.cell? ⟨gT, 0, none⟩ = some (.string T.f0) ∧ w'.cell? ⟨gT, 1, none⟩ = some (.int .i64 T.f1) ∧ w'.cell? ⟨gT, 2, none⟩ = some (.int .i64 T.f2)) (ds := [7, 10]) #[false, false, false, false, false, false, false, false, false, false, false] (by kernel_rfl) rfl rfl ⟨x2, t0, t1, t2⟩ (fun hHeld => ?_)
        generalize w7.drew = w9 at x2 t0 t1 t2 R9 K9 B9 V9 HS HG hHeld ⊢
        refine qj (i := 0) (N := some 100) (v := ?_) (a' := ?_) #[true, false, false, false, false, false, false, false, false, false, false] rfl rfl (by kernel_rfl) (fun _ _ _ h => h) (Or.inl ⟨by rfl, ?_⟩) ?_ ?_
        rotate_left
        · intro w'
          go_simp
          with_reducible rfl
        rotate_left
        · simp only [Act.put, List.setIfInBounds_toArray, List.set_cons_zero, List.set_cons_succ, qg, qh]
          rfl
        refine qj (i := 1) (N := some 101) (v := ?_) (a' := ?_) #[true, true, false, false, false, false, false, false, false, false, false] rfl rfl (by kernel_rfl) (fun _ _ _ h => h) (Or.inl ⟨by rfl, ?_⟩) ?_ ?_
        rotate_left
        · intro w'
          go_simp
          with_reducible rfl
        rotate_left
        · simp only [Act.put, List.setIfInBounds_toArray, List.set_cons_zero, List.set_cons_succ, qg, qh]
          rfl
        refine qj (i := 2) (N := some 102) (v := ?_) (a' := ?_) #[true, true, true, false, false, false, false, false, false, false, false] rfl rfl (by kernel_rfl) (fun _ _ _ h => h) (Or.inl ⟨by rfl, ?_⟩) ?_ ?_
        rotate_left
        · intro w'
          go_simp
          with_reducible rfl
        rotate_left
        · simp only [Act.put, List.setIfInBounds_toArray, List.set_cons_zero, List.set_cons_succ, qg, qh]
          rfl
        refine qj (i := 3) (N := some 103) (v := ?_) (a' := ?_) #[true, true, true, true, false, false, false, false, false, false, false] rfl rfl (by kernel_rfl) (fun _ _ _ h => h) (Or.inl ⟨by rfl, ?_⟩) ?_ ?_
        rotate_left
        · intro w'
          go_simp
          with_reducible rfl
        rotate_left
        · simp only [Act.put, List.setIfInBounds_toArray, List.set_cons_zero, List.set_cons_succ, qg, qh]
          rfl
        refine zq (i := 4) (N := some 104) (v := ?_) (a' := ?_) #[true, true, true, true, true, false, false, false, false, false, false] rfl rfl (by kernel_rfl) (fun _ _ _ h => h) (Or.inl ⟨by rfl, ?_⟩) hHeld ?_ ?_
        rotate_left
        · rintro w' ⟨s0, s1, s2, s3⟩
          go_simp
          with_reducible rfl
        rotate_left
        · simp only [Act.put, List.setIfInBounds_toArray, List.set_cons_zero, List.set_cons_succ, qg, qh]
          rfl
        refine zq (i := 5) (N := some 105) (v := ?_) (a' := ?_) #[true, true, true, true, true, true, false, false, false, false, false] rfl rfl (by kernel_rfl) (fun _ _ _ h => h) (Or.inl ⟨by rfl, ?_⟩) hHeld ?_ ?_
        rotate_left
        · rintro w' ⟨s0, s1, s2, s3⟩
          go_simp
          with_reducible rfl
        rotate_left
        · simp only [Act.put, List.setIfInBounds_toArray, List.set_cons_zero, List.set_cons_succ, qg, qh]
          rfl
        refine QK (i := 6) (N := some 106) #[true, true, true, true, true, true, true, false, false, false, false] rfl rfl (by kernel_rfl) (by decide) (fun K hK => ?_)
        refine QD (w1 := ?_) (v := ?_) (by rfl) rfl ?_ ?_
        rotate_left 2
        · go_simp
          constructor
          · rfl
          · rfl
        refine hK.out _ _ ⟨(World.cell?_alloc_lt _ _ _ (World.block_lt_of_cell? _ _ hHeld.1)).trans hHeld.1, (World.cell?_alloc_lt _ _ _ (World.block_lt_of_cell? _ _ hHeld.2.1)).trans hHeld.2.1, (World.cell?_alloc_lt _ _ _ (World.block_lt_of_cell? _ _ hHeld.2.2.1)).trans hHeld.2.2.1, (World.cell?_alloc_lt _ _ _ (World.block_lt_of_cell? _ _ hHeld.2.2.2)).trans hHeld.2.2.2⟩ (fun hHeld => ?_)
        clear hK K
        refine zO (a' := ?_) ?_ ?_
        rotate_left
        · show Act.put _ (some 106) _ = _
          simp only [Act.put, List.setIfInBounds_toArray, List.set_cons_zero, List.set_cons_succ, qg, qh]
          rfl
        refine zS (i := 7) (N := some 107) #[true, true, true, true, true, true, true, true, false, false, false] rfl rfl (by kernel_rfl) (by decide) (fun K hK => ?_)
        refine Kd.jO k71 (w0 := w9) w1.heap.size (by rfl) (.tmp 104) (.tmp 106) 26 71 (.agg #[(.string ⟨#[]⟩), (.int .i64 0), (.int .i64 0)]) 32 rfl Try.underlying26 Jl rfl (by decide) (by omega) (.slice A2 acc.length c2) acc T [.string T.f0, .int .i64 T.f1, .int .i64 T.f2] (fun _ => True) (fun _ => False) (by first | rfl | (go_simp; done) | (go_simp; rfl)) rfl ?aP (fun _ hk => hk.elim) ?aF ?aO ?aB ?aS ?aL ?_
        (case aP => exact ZI _ _ _ T)
        (case aF => exact fun _ _ => trivial)
        (case aO => exact R9.out)
        (case aB => exact Below.refl _ _)
        (case aS => exact HS.out)
        (case aL => have := HL.out; omega)
        intro v8 w8 r8 b8 hg8 hat
        obtain ⟨A8, c8, rfl⟩ := Kd.qN r8
        have R8 := qa.mk r8
        have B8 := qa.mk b8
        have G8 := qa.mk hg8
        have K8 := qa.mk (zg K9.out hg8 (Kd.Qi R9.out K9.out (by decide)))
        clear r8 b8 hg8 hat
        have q2 : w8.cell? ⟨gF, 2, none⟩ = some (.slice A2 acc.length c2) := (qb K8.out 2).trans rfl
        have qf : w8.frozen? ⟨gF, 2, none⟩ = false := qd K8.out 2
        refine hK.out _ _ ?_
        clear hK K
        refine zO (a' := ?_) ?_ ?_
        rotate_left
        · show Act.put _ (some 107) _ = _
          simp only [Act.put, List.setIfInBounds_toArray, List.set_cons_zero, List.set_cons_succ, qg, qh]
          rfl
        refine qj (i := 8) (N := some 108) (v := ?_) (a' := ?_) #[true, true, true, true, true, true, true, true, true, false, false] rfl rfl (by kernel_rfl) (fun _ _ _ h => h) (Or.inl ⟨by rfl, ?_⟩) ?_ ?_
        rotate_left
        · intro w'
          go_simp
          with_reducible rfl
        rotate_left
        · simp only [Act.put, List.setIfInBounds_toArray, List.set_cons_zero, List.set_cons_succ, qg, qh]
          rfl
        refine qj (i := 9) (N := some 109) (v := ?_) (a' := ?_) #[true, true, true, true, true, true, true, true, true, true, false] rfl rfl (by kernel_rfl) (fun _ _ _ h => h) (Or.inl ⟨by rfl, ?_⟩) ?_ ?_
        rotate_left
        · intro w'
          go_simp
          with_reducible rfl
        rotate_left
        · simp only [Act.put, List.setIfInBounds_toArray, List.set_cons_zero, List.set_cons_succ, qg, qh]
          rfl
        refine zS (i := 10) (N := none) #[true, true, true, true, true, true, true, true, true, true, true] rfl rfl (by kernel_rfl) (by decide) (fun K hK => ?_)
        refine Zg (w1 := ?_) (by rfl) rfl ?_ ?_
        rotate_left
        · go_simp
          rfl
        refine hK.out _ _ ?_
        clear hK K
        refine jM (by kernel_rfl) ?_
        go_wp2
        have eL : acc.length + 1 = (acc ++ [T]).length := by simp
        rw [eL]
        refine ⟨⟨i + 1, T.f0, acc ++ [T], A8, c8, rfl, by push_cast; rfl, by omega, ?_, ?_, ?_, ?_, ?_, ?_⟩, ?_⟩
        · have e := HQ2.out
          rw [if_pos (by trivial)] at e
          exact ⟨e⟩
        · refine ⟨?_⟩
          refine qR (cs := #[.pointer (some ⟨gv, 0, none⟩), .int .i64 1, .slice A2 acc.length c2]) ?_ 2 _ (by rw [← eL]; rfl)
          exact K8.out
        · have r2 := Kd.R_set R8.out K8.out (by decide) 2 (.slice A8 (acc.length + 1) c8)
          rw [← eL] at r2 ⊢
          exact ⟨r2⟩
        · refine ⟨?_⟩
          rw [← eL]; have := HL.out; omega
        · exact ⟨V1.out.below (qA (Qs B9.out (Nat.le_refl _) B8.out) GE)⟩
        · exact ⟨qA (Qs B9.out (Nat.le_refl _) B8.out) GE⟩
        · show (_ : Nat) < _
          simp only [intOf]; omega
      · have il := eq_false (show ¬ (i : Int) < (m : Int) by omega)
        have il2 := eq_false ilt
        have hq := HQ.out
        rw [show m - i = 0 by omega, jL] at hq
        have er := HR.out
        rw [← hq, if_neg (fun z => z rfl)] at er
        have ER := qa.mk er
        clear hq er
        go_wp2
        go_ret2
        refine ⟨qc B1.out HB.out, Or.inr ⟨by rw [ER.out], gF, rfl, ?_⟩⟩
        rw [ER.out]
        exact ⟨gv, A2, c2, HK.out, HV.out, (Kd.qJ HA.out).2.1, (Kd.qJ HA.out).2.2⟩
  · go_upto_region 17 with fail
    obtain ⟨X, hX, KX, BX, VX⟩ : ∃ X, X = w3.setCell ⟨gF, 1, none⟩ (.int .i64 2) ∧ qa (X.heap[gF]? = some (Obj.cells #[.pointer (some ⟨gv, 0, none⟩), .int .i64 2, .slice none 0 0] 75 (0, 0))) ∧ qa (Below w1.heap.size w1 X) ∧ qa (Vw X gv bs) := by
      refine ⟨_, rfl, ⟨?_⟩, ⟨qA B3.out GE⟩, ⟨?_⟩⟩
      · refine qR (cs := #[.pointer (some ⟨gv, 0, none⟩), .int .i64 0, .slice none 0 0]) ?_ 1 _ rfl
        exact K3.out
      · exact V1.out.below (qA B3.out GE)
    rw [← hX]
    clear hX z1 zf k1 k2 k3
    have y0 : X.cell? ⟨gF, 0, none⟩ = some (.pointer (some ⟨gv, 0, none⟩)) := (qb KX.out 0).trans rfl
    have b64 : at_ + 4 ≤ 9223372036854775807 := by omega
    have U := qa.mk (HU4.out X VX.out)
    by_cases c4 : e3 ≠ 0
    · rw [if_pos c4] at HR
      have c4b : (e3 != 0) = true := bne_iff_ne.mpr c4
      clear c4
      go_wp2_with (go_at_call 37; refine U.out.mono ?_; rintro q w4 ⟨rfl, h1⟩; have B4 := qa.mk (qc BX.out h1); clear h1)
      go_ret2
      exact Qd.bad HR.out (by decide) (qc B1.out B4.out)
    rw [if_neg c4] at HR
    obtain rfl : e3 = 0 := Decidable.byContradiction c4
    clear c4
    by_cases c5 : n = 0
    · rw [if_pos c5] at HR
      have c5b : (n == 0) = true := beq_iff_eq.mpr c5
      have C5 := qa.mk c5
      clear c5
      go_wp2_with (go_at_call 37; refine U.out.mono ?_; rintro q w4 ⟨rfl, h1⟩; have B4 := qa.mk (qc BX.out h1); clear h1)
      go_ret2
      exact Qd.bad HR.out (by decide) (qc B1.out B4.out)
    rw [if_neg c5] at HR
    have c5b : (n == 0) = false := beq_eq_false_iff_ne.mpr c5
    by_cases c6 : n > 64
    · rw [if_pos c6] at HR
      have c6b : decide (64 < n) = true := decide_eq_true c6
      clear c5 c6
      go_wp2_with (go_at_call 37; refine U.out.mono ?_; rintro q w4 ⟨rfl, h1⟩; have B4 := qa.mk (qc BX.out h1); clear h1)
      go_ret2
      exact Qd.bad HR.out (by decide) (qc B1.out B4.out)
    rw [if_neg c6] at HR
    have c6b : decide (64 < n) = false := decide_eq_false c6
    obtain ⟨m, rfl⟩ : ∃ m : Nat, n = (m : Int) := ⟨n.toNat, by omega⟩
    rw [Int.toNat_natCast] at HR
    have m64 : m ≤ 64 := by omega
    clear c5 c6 hnb
    go_wp2_with (go_at_call 37; refine U.out.mono ?_; rintro q w4 ⟨rfl, h1⟩; have B4 := qa.mk (qc BX.out h1); have V4 := qa.mk (VX.out.below h1); have K4 := qa.mk ((h1.block _ (qz KX.out)).trans KX.out); clear h1)
    clear c5b c6b y0 U HU4
    obtain ⟨Q, hQ⟩ : ∃ Q, jL bs at_ m 0 ⟨#[]⟩ [] = Q := ⟨_, rfl⟩
    rw [hQ] at HR
    have HQ0 := qa.mk hQ
    clear hQ
    go_loopw [11, 78] (fun v11 v78 wr => ∃ (i : Nat) (last : ByteArray) (acc : List S71) (A2 : Option Addr) (c2 : Nat), v11 = .string last ∧ v78 = .int .i64 i ∧ i ≤ m ∧ qa (jL bs at_ (m - i) i last acc = Q) ∧ qa (wr.heap[gF]? = some (Obj.cells #[.pointer (some ⟨gv, 0, none⟩), .int .i64 2, .slice A2 acc.length c2] 75 (0, 0))) ∧ qa (Kd.R k71 71 wr w1.heap.size (fun _ => True) (.slice A2 acc.length c2) acc) ∧ qa (acc.length ≤ i) ∧ qa (Vw wr gv bs) ∧ qa (Below w1.heap.size w1 wr)) (fun _ v78 _ => m - (intOf v78).toNat)
    case atStart => exact ⟨0, _, [], none, 0, rfl, rfl, Nat.zero_le _, HQ0, K4, ⟨Kd.jE _ _ _ _ _⟩, ⟨Nat.le_refl _⟩, V4, B4⟩
    case round =>
      obtain ⟨i, last, acc, A2, c2, rfl, rfl, hi, HQ, HK, HA, HL, HV, HB⟩ := hrel
      by_cases ilt : i < m
      · have il := eq_true (show (i : Int) < (m : Int) by omega)
        have il2 := eq_true ilt
        have hrq := HQ.out
        rw [show m - i = (m - (i + 1)) + 1 by omega, jL] at hrq
        have HRo := qa.mk (HRw.out gv (at_ + 12 + 16 * (i : Int)) last wr HV.out (by omega) (by omega))
        have her := JF bs (at_ + 12 + 16 * (i : Int)) last
        have y0 : wr.cell? ⟨gF, 0, none⟩ = some (.pointer (some ⟨gv, 0, none⟩)) := (qb HK.out 0).trans rfl
        obtain ⟨T, e4, hT⟩ : ∃ a b, Qe bs (at_ + 12 + 16 * (i : Int)) last = (a, b) := ⟨_, _, rfl⟩
        rw [hT] at hrq HRo her
        dsimp only at hrq HRo her
        have HQ2 := qa.mk hrq
        have b1 : at_ + 12 + 16 * (i : Int) ≤ 9223372036854775807 := by omega
        clear hT hrq HQ
        rcases her with rfl | rfl
        rotate_left
        · go_wp2_with (go_at_call 38; refine HRo.out.mono ?_; rintro q w5 ⟨rfl, h1⟩; have B5 := qa.mk (qc HB.out h1); clear h1)
          go_ret2
          have e := HQ2.out
          rw [if_neg (by decide)] at e
          have er := HR.out
          rw [← e, if_pos (by decide)] at er
          exact Qd.bad er (by decide) (qc B1.out (qF B5.out _))
        go_upto_region 27 with (go_at_call 38; refine HRo.out.mono ?_; rintro q w5 ⟨rfl, h1⟩; have B5 := qa.mk (qc HB.out h1); have V5 := qa.mk (HV.out.below h1); have K5 := qa.mk ((h1.block _ (qz HK.out)).trans HK.out); have R5 := qa.mk (Kd.qM HA.out h1); clear h1)
        obtain ⟨w7, gT, hW, er, bT, lT⟩ : ∃ W r, W = w5.alloc (Obj.cells #[.string T.f0, .int .i64 T.f1, .int .i64 T.f2] 71) ∧ w5.heap.size = r ∧ W.heap[r]? = some (Obj.cells #[.string T.f0, .int .i64 T.f1, .int .i64 T.f2] 71 (0, 0)) ∧ Below w5.heap.size w5 W :=
          ⟨_, _, rfl, rfl, zk _ _, qF (Below.refl _ _) _⟩
        rw [← hW, er]
        have B7 := qa.mk (qc B5.out lT)
        have V7 := qa.mk (V5.out.below lT)
        have K7 := qa.mk ((lT.block _ (qz K5.out)).trans K5.out)
        have R7 := qa.mk (Kd.qM R5.out lT)
        have T7 := qa.mk bT
        have s0 : w7.cell? ⟨gT, 0, none⟩ = some (.string T.f0) := (qb bT 0).trans rfl
        clear hW er bT lT y0
        go_upto_region 30 with fail
        have x2 : w7.drew.cell? ⟨gF, 2, none⟩ = some (.slice A2 acc.length c2) := (qb (qQ K7.out) 2).trans rfl
        have t0 : w7.drew.cell? ⟨gT, 0, none⟩ = some (.string T.f0) := (qb (qQ T7.out) 0).trans rfl
        have t1 : w7.drew.cell? ⟨gT, 1, none⟩ = some (.int .i64 T.f1) := (qb (qQ T7.out) 1).trans rfl
        have t2 : w7.drew.cell? ⟨gT, 2, none⟩ = some (.int .i64 T.f2) := (qb (qQ T7.out) 2).trans rfl
        have R9 := qa.mk (Kd.qw R7.out)
        have K9 := qa.mk (qQ K7.out)
        have B9 := qa.mk (zm B7.out)
        have V9 := qa.mk (V7.out.below (zm (Below.refl _ _)))
        have HS := qa.mk (qi B9.out)
        have HG := qa.mk (qz K9.out)
        have l64 : acc.length ≤ 64 := by have := HL.out; omega
        clear s0
        refine jf (n := 11) (S := fun w' => w'.cell? ⟨gF, 2, none⟩ = some (.slice A2 acc.length c2) ∧ w'.cell? ⟨gT, 0, none⟩ = some (.string T.f0) ∧ w'.cell? ⟨gT, 1, none⟩ = some (.int .i64 T.f1) ∧ w'.cell? ⟨gT, 2, none⟩ = some (.int .i64 T.f2)) (ds := [7, 10]) #[false, false, false, false, false, false, false, false, false, false, false] (by kernel_rfl) rfl rfl ⟨x2, t0, t1, t2⟩ (fun hHeld => ?_)
        generalize w7.drew = w9 at x2 t0 t1 t2 R9 K9 B9 V9 HS HG hHeld ⊢
        refine qj (i := 0) (N := some 100) (v := ?_) (a' := ?_) #[true, false, false, false, false, false, false, false, false, false, false] rfl rfl (by kernel_rfl) (fun _ _ _ h => h) (Or.inl ⟨by rfl, ?_⟩) ?_ ?_
        rotate_left
        · intro w'
          go_simp
          with_reducible rfl
        rotate_left
        · simp only [Act.put, List.setIfInBounds_toArray, List.set_cons_zero, List.set_cons_succ, qg, qh]
          rfl
        refine qj (i := 1) (N := some 101) (v := ?_) (a' := ?_) #[true, true, false, false, false, false, false, false, false, false, false] rfl rfl (by kernel_rfl) (fun _ _ _ h => h) (Or.inl ⟨by rfl, ?_⟩) ?_ ?_
        rotate_left
        · intro w'
          go_simp
          with_reducible rfl
        rotate_left
        · simp only [Act.put, List.setIfInBounds_toArray, List.set_cons_zero, List.set_cons_succ, qg, qh]
          rfl
        refine qj (i := 2) (N := some 102) (v := ?_) (a' := ?_) #[true, true, true, false, false, false, false, false, false, false, false] rfl rfl (by kernel_rfl) (fun _ _ _ h => h) (Or.inl ⟨by rfl, ?_⟩) ?_ ?_
        rotate_left
        · intro w'
          go_simp
          with_reducible rfl
        rotate_left
        · simp only [Act.put, List.setIfInBounds_toArray, List.set_cons_zero, List.set_cons_succ, qg, qh]
          rfl
        refine qj (i := 3) (N := some 103) (v := ?_) (a' := ?_) #[true, true, true, true, false, false, false, false, false, false, false] rfl rfl (by kernel_rfl) (fun _ _ _ h => h) (Or.inl ⟨by rfl, ?_⟩) ?_ ?_
        rotate_left
        · intro w'
          go_simp
          with_reducible rfl
        rotate_left
        · simp only [Act.put, List.setIfInBounds_toArray, List.set_cons_zero, List.set_cons_succ, qg, qh]
          rfl
        refine zq (i := 4) (N := some 104) (v := ?_) (a' := ?_) #[true, true, true, true, true, false, false, false, false, false, false] rfl rfl (by kernel_rfl) (fun _ _ _ h => h) (Or.inl ⟨by rfl, ?_⟩) hHeld ?_ ?_
        rotate_left
        · rintro w' ⟨s0, s1, s2, s3⟩
          go_simp
          with_reducible rfl
        rotate_left
        · simp only [Act.put, List.setIfInBounds_toArray, List.set_cons_zero, List.set_cons_succ, qg, qh]
          rfl
        refine zq (i := 5) (N := some 105) (v := ?_) (a' := ?_) #[true, true, true, true, true, true, false, false, false, false, false] rfl rfl (by kernel_rfl) (fun _ _ _ h => h) (Or.inl ⟨by rfl, ?_⟩) hHeld ?_ ?_
        rotate_left
        · rintro w' ⟨s0, s1, s2, s3⟩
          go_simp
          with_reducible rfl
        rotate_left
        · simp only [Act.put, List.setIfInBounds_toArray, List.set_cons_zero, List.set_cons_succ, qg, qh]
          rfl
        refine QK (i := 6) (N := some 106) #[true, true, true, true, true, true, true, false, false, false, false] rfl rfl (by kernel_rfl) (by decide) (fun K hK => ?_)
        refine QD (w1 := ?_) (v := ?_) (by rfl) rfl ?_ ?_
        rotate_left 2
        · go_simp
          constructor
          · rfl
          · rfl
        refine hK.out _ _ ⟨(World.cell?_alloc_lt _ _ _ (World.block_lt_of_cell? _ _ hHeld.1)).trans hHeld.1, (World.cell?_alloc_lt _ _ _ (World.block_lt_of_cell? _ _ hHeld.2.1)).trans hHeld.2.1, (World.cell?_alloc_lt _ _ _ (World.block_lt_of_cell? _ _ hHeld.2.2.1)).trans hHeld.2.2.1, (World.cell?_alloc_lt _ _ _ (World.block_lt_of_cell? _ _ hHeld.2.2.2)).trans hHeld.2.2.2⟩ (fun hHeld => ?_)
        clear hK K
        refine zO (a' := ?_) ?_ ?_
        rotate_left
        · show Act.put _ (some 106) _ = _
          simp only [Act.put, List.setIfInBounds_toArray, List.set_cons_zero, List.set_cons_succ, qg, qh]
          rfl
        refine zS (i := 7) (N := some 107) #[true, true, true, true, true, true, true, true, false, false, false] rfl rfl (by kernel_rfl) (by decide) (fun K hK => ?_)
        refine Kd.jO k71 (w0 := w9) w1.heap.size (by rfl) (.tmp 104) (.tmp 106) 26 71 (.agg #[(.string ⟨#[]⟩), (.int .i64 0), (.int .i64 0)]) 32 rfl Try.underlying26 Jl rfl (by decide) (by omega) (.slice A2 acc.length c2) acc T [.string T.f0, .int .i64 T.f1, .int .i64 T.f2] (fun _ => True) (fun _ => False) (by first | rfl | (go_simp; done) | (go_simp; rfl)) rfl ?aP (fun _ hk => hk.elim) ?aF ?aO ?aB ?aS ?aL ?_
        (case aP => exact ZI _ _ _ T)
        (case aF => exact fun _ _ => trivial)
        (case aO => exact R9.out)
        (case aB => exact Below.refl _ _)
        (case aS => exact HS.out)
        (case aL => have := HL.out; omega)
        intro v8 w8 r8 b8 hg8 hat
        obtain ⟨A8, c8, rfl⟩ := Kd.qN r8
        have R8 := qa.mk r8
        have B8 := qa.mk b8
        have G8 := qa.mk hg8
        have K8 := qa.mk (zg K9.out hg8 (Kd.Qi R9.out K9.out (by decide)))
        clear r8 b8 hg8 hat
        have q2 : w8.cell? ⟨gF, 2, none⟩ = some (.slice A2 acc.length c2) := (qb K8.out 2).trans rfl
        have qf : w8.frozen? ⟨gF, 2, none⟩ = false := qd K8.out 2
        refine hK.out _ _ ?_
        clear hK K
        refine zO (a' := ?_) ?_ ?_
        rotate_left
        · show Act.put _ (some 107) _ = _
          simp only [Act.put, List.setIfInBounds_toArray, List.set_cons_zero, List.set_cons_succ, qg, qh]
          rfl
        refine qj (i := 8) (N := some 108) (v := ?_) (a' := ?_) #[true, true, true, true, true, true, true, true, true, false, false] rfl rfl (by kernel_rfl) (fun _ _ _ h => h) (Or.inl ⟨by rfl, ?_⟩) ?_ ?_
        rotate_left
        · intro w'
          go_simp
          with_reducible rfl
        rotate_left
        · simp only [Act.put, List.setIfInBounds_toArray, List.set_cons_zero, List.set_cons_succ, qg, qh]
          rfl
        refine qj (i := 9) (N := some 109) (v := ?_) (a' := ?_) #[true, true, true, true, true, true, true, true, true, true, false] rfl rfl (by kernel_rfl) (fun _ _ _ h => h) (Or.inl ⟨by rfl, ?_⟩) ?_ ?_
        rotate_left
        · intro w'
          go_simp
          with_reducible rfl
        rotate_left
        · simp only [Act.put, List.setIfInBounds_toArray, List.set_cons_zero, List.set_cons_succ, qg, qh]
          rfl
        refine zS (i := 10) (N := none) #[true, true, true, true, true, true, true, true, true, true, true] rfl rfl (by kernel_rfl) (by decide) (fun K hK => ?_)
        refine Zg (w1 := ?_) (by rfl) rfl ?_ ?_
        rotate_left
        · go_simp
          rfl
        refine hK.out _ _ ?_
        clear hK K
        refine jM (by kernel_rfl) ?_
        go_wp2
        have eL : acc.length + 1 = (acc ++ [T]).length := by simp
        rw [eL]
        refine ⟨⟨i + 1, T.f0, acc ++ [T], A8, c8, rfl, by push_cast; rfl, by omega, ?_, ?_, ?_, ?_, ?_, ?_⟩, ?_⟩
        · have e := HQ2.out
          rw [if_pos (by trivial)] at e
          exact ⟨e⟩
        · refine ⟨?_⟩
          refine qR (cs := #[.pointer (some ⟨gv, 0, none⟩), .int .i64 2, .slice A2 acc.length c2]) ?_ 2 _ (by rw [← eL]; rfl)
          exact K8.out
        · have r2 := Kd.R_set R8.out K8.out (by decide) 2 (.slice A8 (acc.length + 1) c8)
          rw [← eL] at r2 ⊢
          exact ⟨r2⟩
        · refine ⟨?_⟩
          rw [← eL]; have := HL.out; omega
        · exact ⟨V1.out.below (qA (Qs B9.out (Nat.le_refl _) B8.out) GE)⟩
        · exact ⟨qA (Qs B9.out (Nat.le_refl _) B8.out) GE⟩
        · show (_ : Nat) < _
          simp only [intOf]; omega
      · have il := eq_false (show ¬ (i : Int) < (m : Int) by omega)
        have il2 := eq_false ilt
        have hq := HQ.out
        rw [show m - i = 0 by omega, jL] at hq
        have er := HR.out
        rw [← hq, if_neg (fun z => z rfl)] at er
        have ER := qa.mk er
        clear hq er
        go_wp2
        go_ret2
        refine ⟨qc B1.out HB.out, Or.inr ⟨by rw [ER.out], gF, rfl, ?_⟩⟩
        rw [ER.out]
        exact ⟨gv, A2, c2, HK.out, HV.out, (Kd.qJ HA.out).2.1, (Kd.qJ HA.out).2.2⟩
end Go.Proofs.Ytonljpciadeafaa.S
