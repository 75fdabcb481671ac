import Derived.Test.YtonljpciadeafaaSx0
import Derived.Test.YtonljpciadeafaaMuBS
set_option linter.unusedVariables false
set_option linter.unusedSimpArgs false
namespace Go.Proofs.Ytonljpciadeafaa.S
open Go Go.RowKit Go.Proofs.YtonljpciadeafaaW.PrintWords Go.Proofs.YtonljpciadeafaaW.PrintLast Go.Proofs.YtonljpciadeafaaW.PrintMore
abbrev mq (kd u n a d gp : Int) (v6 v7 v8 : Value) : Array Value := #[.int .i64 kd, .int .i64 u, .int .i64 n, .int .i64 a, .int .i64 d, .int .i64 gp, v6, v7, v8]
def ZK (R : Int × Met) (w : World) (e : Ending) (w' : World) : Prop := Below w.heap.size w w' ∧
  (R.1 ≠ 0 ∧ e = .returned (.tuple #[.agg zi, .int .i64 R.1]) ∨ R.1 = 0 ∧ ∃ A7 c7 A8 c8 A9 c9,
    e = .returned (.tuple #[.agg (mR R.2 A7 c7 A8 c8 A9 c9), .int .i64 0]) ∧ R.2.adv.length ≤ c7 ∧ R.2.bear.length ≤ c8 ∧ R.2.pl.length ≤ c9 ∧
    Kd.C (Kd.int .i64) w' A7 R.2.adv.length R.2.adv ∧ Kd.C (Kd.int .i64) w' A8 R.2.bear.length R.2.bear ∧ Kd.C (Kd.int .i64) w' A9 R.2.pl.length R.2.pl)
theorem res16 (tmps : Array Value) (g : Nat) (c0 c1 c2 c3 c4 c5 : Int) (A6 A7 A8 : Option Addr) (n6 k6 n7 k7 n8 k8 : Nat) (E : Int) (w : World) (h2 : tmps[2]?.getD undef = .pointer (some ⟨g, 0, none⟩)) (h3 : tmps[3]?.getD undef = .int .i64 E)
    (hm : w.heap[g]? = some (.cells #[.int .i64 c0, .int .i64 c1, .int .i64 c2, .int .i64 c3, .int .i64 c4, .int .i64 c5, .slice A6 n6 k6, .slice A7 n7 k7, .slice A8 n8 k8] 37 (0, 0))) :
    (results Try.f16 tmps).run Try.prog w = .ok (.tuple #[.agg #[.int .i64 c0, .int .i64 c1, .int .i64 c2, .int .i64 c3, .int .i64 c4, .int .i64 c5, .slice A6 n6 k6, .slice A7 n7 k7, .slice A8 n8 k8], .int .i64 E]) w := by
  have m0 := qb hm 0
  have m1 := qb hm 1
  have m2 := qb hm 2
  have m3 := qb hm 3
  have m4 := qb hm 4
  have m5 := qb hm 5
  have m6 := qb hm 6
  have m7 := qb hm 7
  have m8 := qb hm 8
  clear hm
  simp [results, Try.results16, go_sem, h2, h3, m0, m1, m2, m3, m4, m5, m6, m7, m8]
theorem rexit (R : Int × Met) (w : World) (tmps : Array Value) (g : Nat) (W : World) {E : Int} (hm : W.heap[g]? = some (.cells zi 37 (0, 0))) (h2 : tmps[2]?.getD undef = .pointer (some ⟨g, 0, none⟩)) (h3 : tmps[3]?.getD undef = .int .i64 E)
    (hb : Below w.heap.size w W) (hg : w.heap.size ≤ g) (e : R.1 = E ∧ E ≠ 0) : bodyPost Try.prog Try.f16 (ZK R w) Exit.ret { tmps := tmps, defers := [] } (W.setRow g zi) := by
  refine bodyPost_ret (res16 tmps g 0 0 0 0 0 0 none none none 0 0 0 0 0 0 E _ h2 h3 (setRow_heap _ _ _ _ _ _ hm)) rfl ?_
  exact ⟨jr hb hg _, Or.inl ⟨by rw [e.1]; exact e.2, by rw [e.1]⟩⟩
theorem gexit (R : Int × Met) (w : World) (tmps : Array Value) (g B : Nat) (W : World) (kd u n a d gp : Int) (A7 : Option Addr) (n7 c7 : Nat) (A8 : Option Addr) (n8 c8 : Nat) (A9 : Option Addr) (n9 c9 : Nat) (xs ys ps : List Int) {o7 o8 o9 : Nat → Prop} (hm : W.heap[g]? = some (.cells zi 37 (0, 0))) (h2 : tmps[2]?.getD undef = .pointer (some ⟨g, 0, none⟩)) (h3 : tmps[3]?.getD undef = .int .i64 0)
    (hb : Below w.heap.size w W) (hg : w.heap.size ≤ g) (e : R = (0, ⟨kd, u, n, a, d, gp, xs, ys, ps⟩)) (hB : g < B) (r7 : Kd.R (Kd.int .i64) 3 W B o7 (.slice A7 n7 c7) xs) (r8 : Kd.R (Kd.int .i64) 3 W B o8 (.slice A8 n8 c8) ys) (r9 : Kd.R (Kd.int .i64) 3 W B o9 (.slice A9 n9 c9) ps) :
    bodyPost Try.prog Try.f16 (ZK R w) Exit.ret { tmps := tmps, defers := [] } (W.setRow g (mq kd u n a d gp (.slice A7 n7 c7) (.slice A8 n8 c8) (.slice A9 n9 c9))) := by
  refine bodyPost_ret (res16 tmps g kd u n a d gp A7 A8 A9 n7 c7 n8 c8 n9 c9 0 _ h2 h3 (setRow_heap _ _ _ _ _ _ hm)) rfl ?_
  have z7 := Kd.qJ (QU (cs := mq kd u n a d gp (.slice A7 n7 c7) (.slice A8 n8 c8) (.slice A9 n9 c9)) r7 hB)
  have z8 := Kd.qJ (QU (cs := mq kd u n a d gp (.slice A7 n7 c7) (.slice A8 n8 c8) (.slice A9 n9 c9)) r8 hB)
  have z9 := Kd.qJ (QU (cs := mq kd u n a d gp (.slice A7 n7 c7) (.slice A8 n8 c8) (.slice A9 n9 c9)) r9 hB)
  rw [e]
  obtain ⟨rfl, l7, q7⟩ := z7
  obtain ⟨rfl, l8, q8⟩ := z8
  obtain ⟨rfl, l9, q9⟩ := z9
  exact ⟨jr hb hg _, Or.inr ⟨rfl, A7, c7, A8, c8, A9, c9, rfl, l7, l8, l9, q7, q8, q9⟩⟩
theorem tbl_any {bs : List Int} {kd : Int} {rows : List S71} {A1 : Option Addr} {c1 : Nat} {A2 : Option Addr} {c2 : Nat} {tag : ByteArray} {n : Int} {w0 w : World} (h1 : Kd.C k71 w A1 rows.length rows) (l1 : rows.length ≤ c1) (h2 : Kd.C (Kd.int .u8) w0 A2 bs.length bs) (l2 : bs.length ≤ c2) (hl : bs.length ≤ 1099511627776) (hok : QP bs rows) :
    Calls Try.prog 40 #[.agg (zA kd A1 rows.length c1 A2 bs.length c2), .string tag, .int .i64 n] w fun e w' => ∃ A m c b, e = .returned (.tuple #[.slice A m c, .bool b]) ∧ Below w.heap.size w w' :=
  (tbl bs kd rows A1 c1 A2 c2 tag n w0 w h1 l1 h2 l2 hl hok).mono fun e w' ⟨A, c, h3, _, _, h4⟩ => ⟨A, _, c, _, h3, h4⟩
def Ze (ps : List Int) : Int := if ps.length = 0 then 0 else rd ps ((ps.length - 1 : Nat) : Int)
theorem Zm (ps : List Int) (x : Int) : Ze (ps ++ [x]) = x := by
  unfold Ze rd
  rw [if_neg (by simp), List.length_append, List.length_singleton, Nat.add_sub_cancel, Int.toNat_natCast, List.getD_eq_getElem?_getD, List.getElem?_append_right (Nat.le_refl _), Nat.sub_self]
  rfl
def finR (kd u n a d gp : Int) (xs ys : List Int) : Option (List Int) → Int × Met
  | none => (41, QL)
  | some ps => (0, ⟨kd, u, n, a, d, gp, xs, ys, ps⟩)
theorem headsV_bd {bs : List Int} (ho : okB bs) {TH TM TA : Option (List Int)} (hT : ∀ L, TH = some L → okB L) (h : (jA TH TM TA).1 = 0) : 1 ≤ (jA TH TM TA).2.2.1 ∧ (jA TH TM TA).2.2.1 ≤ 4096 ∧ 1 ≤ (jA TH TM TA).2.2.2.2.2.2.2 ∧ (jA TH TM TA).2.2.2.2.2.2.2 ≤ (jA TH TM TA).2.2.1 ∧ ((jA TH TM TA).2.2.2.2.2.2.1 = 0 ∨ (jA TH TM TA).2.2.2.2.2.2.1 = 1) := by
  unfold jA at h ⊢
  by_cases h1 : (j3 TH).1 = 0
  rotate_left
  · rw [if_pos h1] at h
    exact absurd h h1
  rw [if_neg (fun z => z h1)] at h ⊢
  by_cases h2 : (jF TM).1 = 0
  rotate_left
  · rw [if_pos h2] at h
    exact absurd h h2
  rw [if_neg (fun z => z h2)] at h ⊢
  by_cases h3 : (jW (jF TM).2 TA).1 = 0
  rotate_left
  · rw [if_pos h3] at h
    exact absurd h h3
  rw [if_neg (fun z => z h3)]
  have a := maxp_bd h2
  have b := hhea_bd h3
  have c := head_bd ho hT h1
  exact ⟨a.1, a.2, b.1, b.2, c⟩
theorem Zh (bs : List Int) (kd : Int) (rows : List S71) (H : Int × Int × Int × Int × Int × Int × Int × Int) (hH : jA (zl bs ⟨#[104, 101, 97, 100]⟩ 54 rows) (zl bs ⟨#[109, 97, 120, 112]⟩ 6 rows) (zl bs ⟨#[104, 104, 101, 97]⟩ 36 rows) = H) :
    Qp bs kd rows = (if H.1 ≠ 0 then (H.1, QL) else
      match zl bs ⟨#[104, 109, 116, 120]⟩ (4 * H.2.2.2.2.2.2.2 + 2 * ((H.2.2.1.toNat : Int) - H.2.2.2.2.2.2.2)) rows with
      | none => (41, QL)
      | some L => match Zk kd H.2.2.2.2.2.2.1 H.2.2.1.toNat (zl bs ⟨#[67, 70, 70, 32]⟩ 0 rows) (zl bs ⟨#[108, 111, 99, 97]⟩ ((2 + 2 * H.2.2.2.2.2.2.1) * ((H.2.2.1.toNat : Int) + 1)) rows) (zl bs ⟨#[103, 108, 121, 102]⟩ 0 rows) with
        | none => (41, QL)
        | some ps => (0, ⟨kd, H.2.1, H.2.2.1, H.2.2.2.1, H.2.2.2.2.1, H.2.2.2.2.2.1, jN L H.2.2.2.2.2.2.2 H.2.2.1.toNat, jm L H.2.2.2.2.2.2.2 H.2.2.1.toNat, ps⟩)) := by
  subst hH
  unfold Qp jA
  dsimp only
  by_cases h1 : (j3 (zl bs ⟨#[104, 101, 97, 100]⟩ 54 rows)).1 = 0
  rotate_left
  · simp only [ne_eq, h1, not_false_eq_true, if_true]
  simp only [ne_eq, h1, not_true_eq_false, if_false]
  by_cases h2 : (jF (zl bs ⟨#[109, 97, 120, 112]⟩ 6 rows)).1 = 0
  rotate_left
  · simp only [ne_eq, h2, not_false_eq_true, if_true]
  simp only [ne_eq, h2, not_true_eq_false, if_false]
  by_cases h3 : (jW (jF (zl bs ⟨#[109, 97, 120, 112]⟩ 6 rows)).2 (zl bs ⟨#[104, 104, 101, 97]⟩ 36 rows)).1 = 0
  rotate_left
  · simp only [ne_eq, h3, not_false_eq_true, if_true]
  simp only [ne_eq, h3, not_true_eq_false, if_false]
  first | rfl | (cases zl bs ⟨#[104, 109, 116, 120]⟩ _ rows with | none => rfl | some L => rfl)
set_option maxRecDepth 100000 in
set_option maxHeartbeats 8000000 in
theorem readr (bs : List Int) (ho : okB bs) (kd : Int) (rows : List S71) (A1 : Option Addr) (c1 : Nat) (A2 : Option Addr) (c2 : Nat) (w : World) (h1 : Kd.C k71 w A1 rows.length rows) (l1 : rows.length ≤ c1) (h2 : Kd.C (Kd.int .u8) w A2 bs.length bs) (l2 : bs.length ≤ c2) (hl : bs.length ≤ 1099511627776) (hok : QP bs rows) :
    Calls Try.prog 16 #[.agg (zA kd A1 rows.length c1 A2 bs.length c2)] w (ZK (Qp bs kd rows) w) := by
  have TN := qa.mk (fun (tag : ByteArray) (n : Int) (W : World) (h : Below w.heap.size w W) (hT : zl bs tag n rows = none) => tbl_none (kd := kd) (Kd.qO h1 h) l1 h2 l2 hl hok hT)
  have TS := qa.mk (fun (tag : ByteArray) (n : Int) (W : World) (L : List Int) (h : Below w.heap.size w W) (hT : zl bs tag n rows = some L) => tbl_some (kd := kd) (Kd.qO h1 h) l1 h2 l2 hl hok hT)
  have TX := qa.mk (fun (tag : ByteArray) (n : Int) (W : World) (h : Below w.heap.size w W) => tbl_any (kd := kd) (tag := tag) (n := n) (Kd.qO h1 h) l1 h2 l2 hl hok)
  have OKT := qa.mk (fun (tag : ByteArray) (n : Int) (L : List Int) (h : zl bs tag n rows = some L) => (⟨(QE ho h).1, Nat.le_trans (JP h) hl⟩ : okB L ∧ L.length ≤ 1099511627776))
  obtain ⟨H, hH⟩ : ∃ H, jA (zl bs ⟨#[104, 101, 97, 100]⟩ 54 rows) (zl bs ⟨#[109, 97, 120, 112]⟩ 6 rows) (zl bs ⟨#[104, 104, 101, 97]⟩ 36 rows) = H := ⟨_, rfl⟩
  have HD := qa.mk (fun (W : World) (h : Below w.heap.size w W) => headsr bs ho kd rows A1 c1 A2 c2 W (Kd.qO h1 h) l1 (Kd.qO h2 h) l2 hl hok)
  rw [hH] at HD
  have HB0 := fun (h : H.1 = 0) => (by have z := headsV_bd ho (TH := zl bs ⟨#[104, 101, 97, 100]⟩ 54 rows) (TM := zl bs ⟨#[109, 97, 120, 112]⟩ 6 rows) (TA := zl bs ⟨#[104, 104, 101, 97]⟩ 36 rows) (fun L e => (QE ho e).1); rw [hH] at z; exact z h : 1 ≤ H.2.2.1 ∧ H.2.2.1 ≤ 4096 ∧ 1 ≤ H.2.2.2.2.2.2.2 ∧ H.2.2.2.2.2.2.2 ≤ H.2.2.1 ∧ (H.2.2.2.2.2.2.1 = 0 ∨ H.2.2.2.2.2.2.1 = 1))
  have HBD := qa.mk HB0
  clear HB0
  have RV := Zh bs kd rows H hH
  obtain ⟨R, hR⟩ : ∃ R, Qp bs kd rows = R := ⟨_, rfl⟩
  rw [hR] at RV ⊢
  have RV0 := qa.mk RV
  clear h1 h2 l1 l2 hl hok ho hH hR RV
  go_enter Try.func16, Try.ntmps16
  go_upto_region 1 with fail
  obtain ⟨wB, g1, g2, hX, e2, e1, k1, k2, bX⟩ := two_new w (Obj.cells (zA kd A1 rows.length c1 A2 bs.length c2) 28) (Obj.cells zi 37)
  rw [← hX, e2, e1]
  have BB := qa.mk bX
  have G2 := qa.mk (show w.heap.size ≤ g2 by omega)
  have MZ := qa.mk (zk wB (Obj.cells zi 37))
  have K1 := qa.mk k1
  have K2 := qa.mk k2
  clear hX e2 e1 k1 k2 bX
  go_upto_region 2 with (refine wpList_store_row rfl 37 (.tmp 4) (.tmp 17) rfl wB.heap.size zi rfl rfl 37 zi MZ.out (by kernel_rfl) rfl (by simp [Value.oneCell']) ?_)
  obtain ⟨w3, g4, hX, e6, k6, b6⟩ := Zi wB zi
  rw [← hX, e6]
  have KF := qa.mk (fun (W : World) (h : Below w3.heap.size w3 W) => (h.block _ (qz ((b6.block _ (qz K1.out)).trans K1.out))).trans ((b6.block _ (qz K1.out)).trans K1.out))
  have KZ := qa.mk (fun (W : World) (h : Below w3.heap.size w3 W) => (h.block _ (qz ((b6.block _ (qz K2.out)).trans K2.out))).trans ((b6.block _ (qz K2.out)).trans K2.out))
  have K4 := qa.mk (fun (W : World) (h : Below w3.heap.size w3 W) => (h.block _ (qz k6)).trans k6)
  have BB := qa.mk (qc BB.out b6)
  have D3 := qa.mk (Below.refl w3.heap.size w3)
  clear hX e6 k6 b6 MZ K1 K2
  have f0 := qb (KF.out _ D3.out) 0
  have f1 := qb (KF.out _ D3.out) 1
  have f2 := qb (KF.out _ D3.out) 2
  by_cases c1' : H.1 = 0
  rotate_left
  · have E := RV0.out
    rw [if_pos c1'] at E
    have E := qa.mk (show R.1 = H.1 ∧ H.1 ≠ 0 by rw [E]; exact ⟨rfl, c1'⟩)
    have CC := qa.mk c1'
    have q1 : (H.1 == 0) = false := beq_eq_false_iff_ne.2 c1'
    have q2 : (H.1 != 0) = true := bne_iff_ne.2 c1'
    have q3 := eq_false c1'
    clear c1' RV0
    go_upto_region 3 with (first | (refine wpList_store_row rfl 37 (.tmp 5) (.tmp 21) rfl w4.heap.size (hm9 kd u n a d gp) rfl rfl 37 zi MZ.out (by kernel_rfl) rfl (by simp [Value.oneCell']) ?_) | (go_at_call 39; refine (HD.out w3 BB.out).mono ?_; rintro e w4 ⟨h1, ⟨_, u, n, a, d, gp, rfl⟩ | ⟨h3, _⟩⟩; rotate_left; exact absurd h3 CC.out; have D4 := qa.mk h1; have MZ := qa.mk (zk w4 (Obj.cells zi 37)); clear h1))
    obtain ⟨w5, g5, hX, e5, k5, b5⟩ := Zi w4 (hm9 kd u n a d gp)
    rw [← hX, e5]
    have D5 := qa.mk (qc D4.out b5)
    clear hX e5 k5 b5 MZ f0 f1 f2 D4
    have KY := qa.mk (KZ.out _ D5.out)
    have z0 := qb (K4.out _ D5.out) 0
    have z1 := qb (K4.out _ D5.out) 1
    have z2 := qb (K4.out _ D5.out) 2
    have z3 := qb (K4.out _ D5.out) 3
    have z4 := qb (K4.out _ D5.out) 4
    have z5 := qb (K4.out _ D5.out) 5
    have z6 := qb (K4.out _ D5.out) 6
    have z7 := qb (K4.out _ D5.out) 7
    have z8 := qb (K4.out _ D5.out) 8
    go_wp2_with (refine wpList_store_row rfl 37 (.tmp 2) (.tmp 27) rfl g2 zi rfl rfl 37 zi KY.out (by kernel_rfl) rfl (by simp [Value.oneCell']) ?_)
    exact rexit _ w _ g2 _ KY.out rfl rfl (qc BB.out D5.out) G2.out E.out
  obtain ⟨eH, u, n, a, d, gp, f, wd, hH2⟩ : ∃ e u n a d gp f wd, H = (e, u, n, a, d, gp, f, wd) := ⟨_, _, _, _, _, _, _, _, rfl⟩
  subst hH2
  dsimp only at c1'
  subst c1'
  have hb := HBD.out rfl
  dsimp only at hb
  obtain ⟨m, rfl⟩ : ∃ m : Nat, n = (m : Int) := ⟨n.toNat, by omega⟩
  have NB := qa.mk (show 1 ≤ m ∧ m ≤ 4096 ∧ 1 ≤ wd ∧ wd ≤ (m : Int) ∧ (f = 0 ∨ f = 1) from ⟨by omega, by omega, hb.2.2.1, hb.2.2.2.1, hb.2.2.2.2⟩)
  have E0 := RV0.out
  rw [if_neg (fun z => z rfl)] at E0
  dsimp only at E0
  rw [Int.toNat_natCast] at E0
  have hq : zl bs ⟨#[104, 109, 116, 120]⟩ (4 * wd + 2 * ((m : Int) - wd)) rows = zl bs ⟨#[104, 109, 116, 120]⟩ (2 * (m : Int) + 2 * wd) rows := by
    rw [show 4 * wd + 2 * ((m : Int) - wd) = 2 * (m : Int) + 2 * wd by omega]
  rw [hq] at E0
  obtain ⟨T, hT⟩ : ∃ T, zl bs ⟨#[104, 109, 116, 120]⟩ (2 * (m : Int) + 2 * wd) rows = T := ⟨_, rfl⟩
  rw [hT] at E0
  have HT := qa.mk hT
  have RV1 := qa.mk E0
  clear E0 hq hT hb RV0 HBD
  go_upto_region 3 with (first | (refine wpList_store_row rfl 37 (.tmp 5) (.tmp 21) rfl w4.heap.size (hm9 kd u (m : Int) a d gp) rfl rfl 37 zi MZ.out (by kernel_rfl) rfl (by simp [Value.oneCell']) ?_) | (go_at_call 39; refine (HD.out w3 BB.out).mono ?_; rintro e w4 ⟨h1, ⟨h3, _⟩ | ⟨_, rfl⟩⟩; exact absurd rfl h3; have D4 := qa.mk h1; have MZ := qa.mk (zk w4 (Obj.cells zi 37)); clear h1))
  obtain ⟨w5, g5, hX, e5, k5, b5⟩ := Zi w4 (hm9 kd u (m : Int) a d gp)
  rw [← hX, e5]
  have D5 := qa.mk (qc D4.out b5)
  have G5 := qa.mk (show w3.heap.size ≤ g5 by have := qi D4.out; omega)
  have K5 := qa.mk k5
  clear hX e5 k5 b5 MZ f0 f1 f2 D4 HD
  go_upto_region 5 with fail
  have q2 := qb K5.out 2
  have n1 : 2 * (m : Int) ≤ 9223372036854775807 := by have := NB.out; omega
  have n2 : 2 * wd ≤ 9223372036854775807 := by have := NB.out; omega
  have n2' : -9223372036854775808 ≤ 2 * wd := by have := NB.out; omega
  have n3 : 2 * (m : Int) + 2 * wd ≤ 9223372036854775807 := by have := NB.out; omega
  have n3' : -9223372036854775808 ≤ 2 * (m : Int) + 2 * wd := by have := NB.out; omega
  have f0 := qb (KF.out _ D5.out) 0
  have f1 := qb (KF.out _ D5.out) 1
  have f2 := qb (KF.out _ D5.out) 2
  cases T with
  | none =>
    have E := RV1.out
    dsimp only at E
    have E := qa.mk (show R.1 = 41 ∧ (41 : Int) ≠ 0 by rw [E]; exact ⟨rfl, by decide⟩)
    go_upto_region 6 with (go_at_call 40; refine (TN.out _ _ w5 (qc BB.out D5.out) HT.out).mono ?_; rintro e w6 ⟨A, mm, c, rfl, h1⟩; have D6 := qa.mk (qc D5.out h1); clear h1)
    clear f0 f1 f2 q2 n1 n2 n2' n3 n3'
    have KY := qa.mk (KZ.out _ D6.out)
    have z0 := qb (K4.out _ D6.out) 0
    have z1 := qb (K4.out _ D6.out) 1
    have z2 := qb (K4.out _ D6.out) 2
    have z3 := qb (K4.out _ D6.out) 3
    have z4 := qb (K4.out _ D6.out) 4
    have z5 := qb (K4.out _ D6.out) 5
    have z6 := qb (K4.out _ D6.out) 6
    have z7 := qb (K4.out _ D6.out) 7
    have z8 := qb (K4.out _ D6.out) 8
    go_wp2_with (refine wpList_store_row rfl 37 (.tmp 2) (.tmp 42) rfl g2 zi rfl rfl 37 zi KY.out (by kernel_rfl) rfl (by simp [Value.oneCell']) ?_)
    exact rexit _ w _ g2 _ KY.out rfl rfl (qc BB.out D6.out) G2.out E.out
  | some L =>
  have OL := qa.mk (OKT.out _ _ L HT.out)
  go_upto_region 6 with (go_at_call 40; refine (TS.out _ _ w5 L (qc BB.out D5.out) HT.out).mono ?_; rintro e w6 ⟨A, c, rfl, h2, h3, h1⟩; have LC := qa.mk h2; have CL := qa.mk h3; have D6 := qa.mk (qc D5.out h1); have K6 := qa.mk ((h1.block _ (qz K5.out)).trans K5.out); clear h1 h2 h3)
  clear f0 f1 f2 q2 n1 n2 n2' n3 n3' K5 D5 HT
  have U16 := qa.mk (fun (p : Int) (W : World) (h : Below w.heap.size w W) => u16r L OL.out.1 A c p W (CL.out W h) LC.out OL.out.2)
  have I16 := qa.mk (fun (p : Int) (W : World) (h : Below w.heap.size w W) => i16r L OL.out.1 A c p W (CL.out W h) LC.out OL.out.2)
  clear LC CL OL
  have RV2 := qa.mk RV1.out
  clear RV1
  go_upto_region 8 with fail
  have B6 := qa.mk (show g5 < w6.heap.size from qz K6.out)
  have Z6 := qa.mk (qi D6.out)
  have R70 : qa (Kd.R (Kd.int .i64) 3 w6 w6.heap.size (fun k => some k ≠ (.slice none 0 0 : Value).ownBlock) (.slice none 0 0) (jN L wd 0)) := ⟨Kd.jE _ _ _ _ _⟩
  have R80 : qa (Kd.R (Kd.int .i64) 3 w6 w6.heap.size (fun k => some k ≠ (.slice none 0 0 : Value).ownBlock) (.slice none 0 0) (jm L wd 0)) := ⟨Kd.jE _ _ _ _ _⟩
  go_wp2
  go_loopw [11] (fun v11 wr => ∃ (i : Nat) (A7 : Option Addr) (c7 : Nat) (A8 : Option Addr) (c8 : Nat), v11 = .int .i64 i ∧ i ≤ m ∧ qa (wr.heap[g5]? = some (Obj.cells (mq kd u (m : Int) a d gp (.slice A7 i c7) (.slice A8 i c8) zw) 37 (0, 0))) ∧ qa (Kd.R (Kd.int .i64) 3 wr w6.heap.size (fun k => some k ≠ (.slice A8 i c8 : Value).ownBlock) (.slice A7 i c7) (jN L wd i)) ∧ qa (Kd.R (Kd.int .i64) 3 wr w6.heap.size (fun k => some k ≠ (.slice A7 i c7 : Value).ownBlock) (.slice A8 i c8) (jm L wd i)) ∧ qa (Below w3.heap.size w3 wr) ∧ qa (w6.heap.size ≤ wr.heap.size)) (fun v11 _ => m - (intOf v11).toNat)
  case atStart => exact ⟨0, none, 0, none, 0, rfl, Nat.zero_le _, K6, R70, R80, D6, ⟨Nat.le_refl _⟩⟩
  case round =>
    obtain ⟨i, A7, c7, A8, c8, rfl, hi, KK, R7, R8, DR, ZR⟩ := hrel
    clear K6 D6 R70 R80
    have y2 := qb KK.out 2
    by_cases ilt : i < m
    · have il := eq_true (show (i : Int) < (m : Int) by omega)
      have il2 := eq_true ilt
      have i64 : (i : Int) + 1 ≤ 9223372036854775807 := by have := NB.out; omega
      have IB := qa.mk (show i < 4096 by have := NB.out; omega)
      by_cases hw : (i : Int) < wd
      · have hwb : decide ((i : Int) < wd) = true := decide_eq_true hw
        have hwc := eq_true hw
        have WQ := qa.mk (show (qI L (wrap64 (4 * (i : Int))) 2).1 = Qx L wd i by unfold Qx; rw [if_pos hw, ja (by omega) (by have := IB.out; omega)])
        have WP := qa.mk (show jK (qI L (wrap64 (wrap64 (4 * (i : Int)) + 2)) 2).1 = Qq L wd i by unfold Qq; rw [if_pos hw, ja (x := 4 * (i : Int)) (by omega) (by have := IB.out; omega), ja (by omega) (by have := IB.out; omega)])
        clear hw
        go_upto_region 12 with fail
        have y6 := qb KK.out 6
        refine jf (n := 10) (S := fun w' => w'.cell? ⟨g5, 6, none⟩ = some (.slice A7 i c7)) (ds := [7, 9]) #[false, false, false, false, false, false, false, false, false, false] (by kernel_rfl) rfl rfl (y6) (fun hHeld => ?_)
        obtain ⟨w7, hW, K7, P7, P8, D7, Z7⟩ : ∃ W, W = wr.drew ∧ qa (W.heap[g5]? = some (Obj.cells (mq kd u (m : Int) a d gp (.slice A7 i c7) (.slice A8 i c8) zw) 37 (0, 0))) ∧ qa (Kd.R (Kd.int .i64) 3 W w6.heap.size (fun k => some k ≠ (.slice A8 i c8 : Value).ownBlock) (.slice A7 i c7) (jN L wd i)) ∧ qa (Kd.R (Kd.int .i64) 3 W w6.heap.size (fun k => some k ≠ (.slice A7 i c7 : Value).ownBlock) (.slice A8 i c8) (jm L wd i)) ∧ qa (Below w3.heap.size w3 W) ∧ qa (w6.heap.size ≤ W.heap.size) := ⟨_, rfl, ⟨qQ KK.out⟩, ⟨Kd.qw R7.out⟩, ⟨Kd.qw R8.out⟩, ⟨zm DR.out⟩, ⟨ZR.out⟩⟩
        rw [← hW] at hHeld ⊢
        clear hW KK R7 R8 DR ZR
        refine qj (i := 0) (N := some 52) (v := ?_) (a' := ?_) #[true, false, false, false, false, false, false, false, false, false] rfl rfl (by kernel_rfl) (fun _ _ _ h => h) (Or.inl ⟨by rfl, ?_⟩) ?_ ?_
        rotate_left
        · intro w'
          go_simp
          with_reducible rfl
        rotate_left
        · simp only [Act.put, List.setIfInBounds_toArray, List.set_cons_zero, List.set_cons_succ, qg, qh]
          rfl
        refine qj (i := 2) (N := some 54) (v := ?_) (a' := ?_) #[true, false, true, false, false, false, false, false, false, false] rfl rfl (by kernel_rfl) (fun _ _ _ h => h) (Or.inl ⟨by rfl, ?_⟩) ?_ ?_
        rotate_left
        · intro w'
          go_simp
          with_reducible rfl
        rotate_left
        · simp only [Act.put, List.setIfInBounds_toArray, List.set_cons_zero, List.set_cons_succ, qg, qh]
          rfl
        refine qj (i := 3) (N := some 55) (v := ?_) (a' := ?_) #[true, false, true, true, false, false, false, false, false, false] rfl rfl (by kernel_rfl) (fun _ _ _ h => h) (Or.inl ⟨by rfl, ?_⟩) ?_ ?_
        rotate_left
        · intro w'
          go_simp
          with_reducible rfl
        rotate_left
        · simp only [Act.put, List.setIfInBounds_toArray, List.set_cons_zero, List.set_cons_succ, qg, qh]
          rfl
        refine qj (i := 4) (N := some 56) (v := ?_) (a' := ?_) #[true, false, true, true, true, false, false, false, false, false] rfl rfl (by kernel_rfl) (fun _ _ _ h => h) (Or.inl ⟨by rfl, ?_⟩) ?_ ?_
        rotate_left
        · intro w'
          go_simp
          with_reducible rfl
        rotate_left
        · simp only [Act.put, List.setIfInBounds_toArray, List.set_cons_zero, List.set_cons_succ, qg, qh]
          rfl
        refine zq (i := 1) (N := some 53) (v := ?_) (a' := ?_) #[true, true, true, true, true, false, false, false, false, false] rfl rfl (by kernel_rfl) (fun _ _ _ h => h) (Or.inl ⟨by rfl, ?_⟩) hHeld ?_ ?_
        rotate_left
        · intro w' s0
          go_simp
          with_reducible rfl
        rotate_left
        · simp only [Act.put, List.setIfInBounds_toArray, List.set_cons_zero, List.set_cons_succ, qg, qh]
          rfl
        refine QK (i := 5) (N := some 57) #[true, true, true, true, true, true, false, false, false, false] rfl rfl (by kernel_rfl) (by decide) (fun K hK => ?_)
        refine Qk Try.func32 (by kernel_rfl) rfl #[.slice A L.length c, .int .i64 (wrap64 (4 * (i : Int)))] (by rfl) rfl rfl (by simp only [List.map_toArray, List.map_cons, List.map_nil]; rfl) ?_
        with_reducible refine ((U16.out _ w7 (qc BB.out D7.out))).mono ?_
        rintro e w8 ⟨rfl, k1⟩
        refine ⟨_, rfl, ?_⟩
        rw [WQ.out]
        have K8 := qa.mk ((k1.block _ (qz K7.out)).trans K7.out)
        have M7 := qa.mk (Kd.qM P7.out k1)
        have M8 := qa.mk (Kd.qM P8.out k1)
        have D8 := qa.mk (qc D7.out k1)
        have Z8 := qa.mk (Nat.le_trans Z7.out (qi k1))
        clear k1
        refine hK.out _ _ ((qb K8.out 6).trans rfl) (fun hHeld => ?_)
        clear hK K
        refine zO (a' := ?_) ?_ ?_
        rotate_left
        · show Act.put _ (some 57) _ = _
          simp only [Act.put, List.setIfInBounds_toArray, List.set_cons_zero, List.set_cons_succ, qg, qh]
          rfl
        refine QK (i := 6) (N := some 58) #[true, true, true, true, true, true, true, false, false, false] rfl rfl (by kernel_rfl) (by decide) (fun K hK => ?_)
        refine QD (w1 := ?_) (v := ?_) (by rfl) rfl ?_ ?_
        rotate_left 2
        · go_simp
          constructor
          · rfl
          · rfl
        refine hK.out _ _ ((World.cell?_alloc_lt _ _ _ (World.block_lt_of_cell? _ _ hHeld)).trans hHeld) (fun hHeld => ?_)
        clear hK K
        refine zO (a' := ?_) ?_ ?_
        rotate_left
        · show Act.put _ (some 58) _ = _
          simp only [Act.put, List.setIfInBounds_toArray, List.set_cons_zero, List.set_cons_succ, qg, qh]
          rfl
        refine zS (i := 7) (N := some 59) #[true, true, true, true, true, true, true, true, false, false] rfl rfl (by kernel_rfl) (by decide) (fun K hK => ?_)
        refine Kd.jO (Kd.int .i64) (w0 := w8) w6.heap.size (by rfl) (.tmp 53) (.tmp 58) 35 3 (.int .i64 0) 8 rfl Try.underlying35 info3 rfl (by decide) (by omega) (.slice A7 i c7) (jN L wd i) (Qx L wd i) [.int .i64 (Qx L wd i)] (fun k_ => some k_ ≠ (.slice A8 i c8 : Value).ownBlock) (fun _ => False) (by first | rfl | (go_simp; done) | (go_simp; rfl)) rfl ?aP (fun _ hk => hk.elim) ?aF ?aO ?aB ?aS ?aL ?_
        (case aP => exact rfl)
        (case aF => exact fun k_ hk => Kd.fresh' (Kd.za M8.out) k_ hk)
        (case aO => exact M7.out)
        (case aB => exact Below.refl _ _)
        (case aS => exact Z8.out)
        (case aL => rw [QA]; have := IB.out; omega)
        intro v11 w11 k1 kb hg hat
        have K11 := qa.mk (zg K8.out hg (fun e => by have := Kd.qZ M7.out g5 e.symm; have := B6.out; omega))
        have D11 := qa.mk (D8.out.grown hg (qi D8.out) (fun k hk => by have := Kd.qZ M7.out k hk; have := Z6.out; omega))
        have Z11 := qa.mk (Nat.le_trans Z8.out hg.size)
        have Mob := qa.mk (Kd.zb (ok := fun _ => True) (Kd.qH M8.out (fun _ hk => ⟨trivial, hk⟩)) hg hat)
        obtain ⟨A17, c17, e11⟩ := Kd.qN k1
        rw [List.length_append, List.length_singleton, QA] at e11
        subst e11
        have Mmb := qa.mk k1
        have q6 := qb K11.out 6
        have qf6 := qd K11.out 6
        clear k1 kb hg hat
        refine hK.out _ _ ?_
        clear hK K
        refine zO (a' := ?_) ?_ ?_
        rotate_left
        · show Act.put _ (some 59) _ = _
          simp only [Act.put, List.setIfInBounds_toArray, List.set_cons_zero, List.set_cons_succ, qg, qh]
          rfl
        refine qj (i := 8) (N := some 60) (v := ?_) (a' := ?_) #[true, true, true, true, true, true, true, true, true, false] rfl rfl (by kernel_rfl) (fun _ _ _ h => h) (Or.inl ⟨by rfl, ?_⟩) ?_ ?_
        rotate_left
        · intro w'
          go_simp
          with_reducible rfl
        rotate_left
        · simp only [Act.put, List.setIfInBounds_toArray, List.set_cons_zero, List.set_cons_succ, qg, qh]
          rfl
        refine zS (i := 9) (N := none) #[true, true, true, true, true, true, true, true, true, true] rfl rfl (by kernel_rfl) (by decide) (fun K hK => ?_)
        refine Zg (w1 := ?_) (by rfl) rfl ?_ ?_
        rotate_left
        · go_simp
          rfl
        refine hK.out _ _ ?_
        clear hK K
        refine jM (by kernel_rfl) ?_
        obtain ⟨w10, hW, K10, R10, S10, D10, Z10⟩ : ∃ W, W = w11.setCell ⟨g5, 6, none⟩ (.slice A17 (i + 1) c17) ∧ qa (W.heap[g5]? = some (Obj.cells (mq kd u (m : Int) a d gp (.slice A17 (i + 1) c17) (.slice A8 i c8) zw) 37 (0, 0))) ∧ qa (Kd.R (Kd.int .i64) 3 W w6.heap.size (fun k => some k ≠ (.slice A8 i c8 : Value).ownBlock) (.slice A17 (i + 1) c17) (jN L wd (i + 1))) ∧ qa (Kd.R (Kd.int .i64) 3 W w6.heap.size (fun k => some k ≠ (.slice A17 (i + 1) c17 : Value).ownBlock) (.slice A8 i c8) (jm L wd i)) ∧ qa (Below w3.heap.size w3 W) ∧ qa (w6.heap.size ≤ W.heap.size) := ⟨_, rfl, ⟨qR K11.out 6 _ rfl⟩, ⟨by rw [Jk]; exact zU Mmb.out B6.out⟩, ⟨Kd.qH (zU Mob.out B6.out) (fun _ hk => hk.2)⟩, ⟨qA D11.out G5.out⟩, ⟨Nat.le_trans Z11.out (jh _ _ _ _).size⟩⟩
        rw [← hW]
        clear hW K11 Mmb Mob D11 Z11 q6 qf6 y6 K8 M7 M8 D8 Z8 K7 P7 P8 D7 Z7
        go_upto_region 13 with fail
        have y6 := qb K10.out 7
        refine jf (n := 11) (S := fun w' => w'.cell? ⟨g5, 7, none⟩ = some (.slice A8 i c8)) (ds := [8, 10]) #[false, false, false, false, false, false, false, false, false, false, false] (by kernel_rfl) rfl rfl (y6) (fun hHeld => ?_)
        obtain ⟨w7, hW, K7, P7, P8, D7, Z7⟩ : ∃ W, W = w10.drew ∧ qa (W.heap[g5]? = some (Obj.cells (mq kd u (m : Int) a d gp (.slice A17 (i + 1) c17) (.slice A8 i c8) zw) 37 (0, 0))) ∧ qa (Kd.R (Kd.int .i64) 3 W w6.heap.size (fun k => some k ≠ (.slice A8 i c8 : Value).ownBlock) (.slice A17 (i + 1) c17) (jN L wd (i + 1))) ∧ qa (Kd.R (Kd.int .i64) 3 W w6.heap.size (fun k => some k ≠ (.slice A17 (i + 1) c17 : Value).ownBlock) (.slice A8 i c8) (jm L wd i)) ∧ qa (Below w3.heap.size w3 W) ∧ qa (w6.heap.size ≤ W.heap.size) := ⟨_, rfl, ⟨qQ K10.out⟩, ⟨Kd.qw R10.out⟩, ⟨Kd.qw S10.out⟩, ⟨zm D10.out⟩, ⟨Z10.out⟩⟩
        rw [← hW] at hHeld ⊢
        clear hW K10 R10 S10 D10 Z10
        refine qj (i := 0) (N := some 61) (v := ?_) (a' := ?_) #[true, false, false, false, false, false, false, false, false, false, false] rfl rfl (by kernel_rfl) (fun _ _ _ h => h) (Or.inl ⟨by rfl, ?_⟩) ?_ ?_
        rotate_left
        · intro w'
          go_simp
          with_reducible rfl
        rotate_left
        · simp only [Act.put, List.setIfInBounds_toArray, List.set_cons_zero, List.set_cons_succ, qg, qh]
          rfl
        refine qj (i := 2) (N := some 63) (v := ?_) (a' := ?_) #[true, false, true, false, false, false, false, false, false, false, false] rfl rfl (by kernel_rfl) (fun _ _ _ h => h) (Or.inl ⟨by rfl, ?_⟩) ?_ ?_
        rotate_left
        · intro w'
          go_simp
          with_reducible rfl
        rotate_left
        · simp only [Act.put, List.setIfInBounds_toArray, List.set_cons_zero, List.set_cons_succ, qg, qh]
          rfl
        refine qj (i := 3) (N := some 64) (v := ?_) (a' := ?_) #[true, false, true, true, false, false, false, false, false, false, false] rfl rfl (by kernel_rfl) (fun _ _ _ h => h) (Or.inl ⟨by rfl, ?_⟩) ?_ ?_
        rotate_left
        · intro w'
          go_simp
          with_reducible rfl
        rotate_left
        · simp only [Act.put, List.setIfInBounds_toArray, List.set_cons_zero, List.set_cons_succ, qg, qh]
          rfl
        refine qj (i := 4) (N := some 65) (v := ?_) (a' := ?_) #[true, false, true, true, true, false, false, false, false, false, false] rfl rfl (by kernel_rfl) (fun _ _ _ h => h) (Or.inl ⟨by rfl, ?_⟩) ?_ ?_
        rotate_left
        · intro w'
          go_simp
          with_reducible rfl
        rotate_left
        · simp only [Act.put, List.setIfInBounds_toArray, List.set_cons_zero, List.set_cons_succ, qg, qh]
          rfl
        refine qj (i := 5) (N := some 66) (v := ?_) (a' := ?_) #[true, false, true, true, true, true, false, false, false, false, false] rfl rfl (by kernel_rfl) (fun _ _ _ h => h) (Or.inl ⟨by rfl, ?_⟩) ?_ ?_
        rotate_left
        · intro w'
          go_simp
          with_reducible rfl
        rotate_left
        · simp only [Act.put, List.setIfInBounds_toArray, List.set_cons_zero, List.set_cons_succ, qg, qh]
          rfl
        refine zq (i := 1) (N := some 62) (v := ?_) (a' := ?_) #[true, true, true, true, true, true, false, false, false, false, false] rfl rfl (by kernel_rfl) (fun _ _ _ h => h) (Or.inl ⟨by rfl, ?_⟩) hHeld ?_ ?_
        rotate_left
        · intro w' s0
          go_simp
          with_reducible rfl
        rotate_left
        · simp only [Act.put, List.setIfInBounds_toArray, List.set_cons_zero, List.set_cons_succ, qg, qh]
          rfl
        refine QK (i := 6) (N := some 67) #[true, true, true, true, true, true, true, false, false, false, false] rfl rfl (by kernel_rfl) (by decide) (fun K hK => ?_)
        refine Qk Try.func41 (by kernel_rfl) rfl #[.slice A L.length c, .int .i64 (wrap64 (wrap64 (4 * (i : Int)) + 2))] (by rfl) rfl rfl (by simp only [List.map_toArray, List.map_cons, List.map_nil]; rfl) ?_
        with_reducible refine ((I16.out _ w7 (qc BB.out D7.out))).mono ?_
        rintro e w8 ⟨rfl, k1⟩
        refine ⟨_, rfl, ?_⟩
        rw [WP.out]
        have K8 := qa.mk ((k1.block _ (qz K7.out)).trans K7.out)
        have M7 := qa.mk (Kd.qM P7.out k1)
        have M8 := qa.mk (Kd.qM P8.out k1)
        have D8 := qa.mk (qc D7.out k1)
        have Z8 := qa.mk (Nat.le_trans Z7.out (qi k1))
        clear k1
        refine hK.out _ _ ((qb K8.out 7).trans rfl) (fun hHeld => ?_)
        clear hK K
        refine zO (a' := ?_) ?_ ?_
        rotate_left
        · show Act.put _ (some 67) _ = _
          simp only [Act.put, List.setIfInBounds_toArray, List.set_cons_zero, List.set_cons_succ, qg, qh]
          rfl
        refine QK (i := 7) (N := some 68) #[true, true, true, true, true, true, true, true, false, false, false] rfl rfl (by kernel_rfl) (by decide) (fun K hK => ?_)
        refine QD (w1 := ?_) (v := ?_) (by rfl) rfl ?_ ?_
        rotate_left 2
        · go_simp
          constructor
          · rfl
          · rfl
        refine hK.out _ _ ((World.cell?_alloc_lt _ _ _ (World.block_lt_of_cell? _ _ hHeld)).trans hHeld) (fun hHeld => ?_)
        clear hK K
        refine zO (a' := ?_) ?_ ?_
        rotate_left
        · show Act.put _ (some 68) _ = _
          simp only [Act.put, List.setIfInBounds_toArray, List.set_cons_zero, List.set_cons_succ, qg, qh]
          rfl
        refine zS (i := 8) (N := some 69) #[true, true, true, true, true, true, true, true, true, false, false] rfl rfl (by kernel_rfl) (by decide) (fun K hK => ?_)
        refine Kd.jO (Kd.int .i64) (w0 := w8) w6.heap.size (by rfl) (.tmp 62) (.tmp 68) 35 3 (.int .i64 0) 8 rfl Try.underlying35 info3 rfl (by decide) (by omega) (.slice A8 i c8) (jm L wd i) (Qq L wd i) [.int .i64 (Qq L wd i)] (fun k_ => some k_ ≠ (.slice A17 (i + 1) c17 : Value).ownBlock) (fun _ => False) (by first | rfl | (go_simp; done) | (go_simp; rfl)) rfl ?aP (fun _ hk => hk.elim) ?aF ?aO ?aB ?aS ?aL ?_
        (case aP => exact rfl)
        (case aF => exact fun k_ hk => Kd.fresh' (Kd.za M7.out) k_ hk)
        (case aO => exact M8.out)
        (case aB => exact Below.refl _ _)
        (case aS => exact Z8.out)
        (case aL => rw [Qo]; have := IB.out; omega)
        intro v11 w11 k1 kb hg hat
        have K11 := qa.mk (zg K8.out hg (fun e => by have := Kd.qZ M8.out g5 e.symm; have := B6.out; omega))
        have D11 := qa.mk (D8.out.grown hg (qi D8.out) (fun k hk => by have := Kd.qZ M8.out k hk; have := Z6.out; omega))
        have Z11 := qa.mk (Nat.le_trans Z8.out hg.size)
        have Mob := qa.mk (Kd.zb (ok := fun _ => True) (Kd.qH M7.out (fun _ hk => ⟨trivial, hk⟩)) hg hat)
        obtain ⟨A18, c18, e11⟩ := Kd.qN k1
        rw [List.length_append, List.length_singleton, Qo] at e11
        subst e11
        have Mmb := qa.mk k1
        have q6 := qb K11.out 7
        have qf6 := qd K11.out 7
        clear k1 kb hg hat
        refine hK.out _ _ ?_
        clear hK K
        refine zO (a' := ?_) ?_ ?_
        rotate_left
        · show Act.put _ (some 69) _ = _
          simp only [Act.put, List.setIfInBounds_toArray, List.set_cons_zero, List.set_cons_succ, qg, qh]
          rfl
        refine qj (i := 9) (N := some 70) (v := ?_) (a' := ?_) #[true, true, true, true, true, true, true, true, true, true, false] rfl rfl (by kernel_rfl) (fun _ _ _ h => h) (Or.inl ⟨by rfl, ?_⟩) ?_ ?_
        rotate_left
        · intro w'
          go_simp
          with_reducible rfl
        rotate_left
        · simp only [Act.put, List.setIfInBounds_toArray, List.set_cons_zero, List.set_cons_succ, qg, qh]
          rfl
        refine zS (i := 10) (N := none) #[true, true, true, true, true, true, true, true, true, true, true] rfl rfl (by kernel_rfl) (by decide) (fun K hK => ?_)
        refine Zg (w1 := ?_) (by rfl) rfl ?_ ?_
        rotate_left
        · go_simp
          rfl
        refine hK.out _ _ ?_
        clear hK K
        refine jM (by kernel_rfl) ?_
        obtain ⟨w20, hW, K20, R20, S20, D20, Z20⟩ : ∃ W, W = w11.setCell ⟨g5, 7, none⟩ (.slice A18 (i + 1) c18) ∧ qa (W.heap[g5]? = some (Obj.cells (mq kd u (m : Int) a d gp (.slice A17 (i + 1) c17) (.slice A18 (i + 1) c18) zw) 37 (0, 0))) ∧ qa (Kd.R (Kd.int .i64) 3 W w6.heap.size (fun k => some k ≠ (.slice A18 (i + 1) c18 : Value).ownBlock) (.slice A17 (i + 1) c17) (jN L wd (i + 1))) ∧ qa (Kd.R (Kd.int .i64) 3 W w6.heap.size (fun k => some k ≠ (.slice A17 (i + 1) c17 : Value).ownBlock) (.slice A18 (i + 1) c18) (jm L wd (i + 1))) ∧ qa (Below w3.heap.size w3 W) ∧ qa (w6.heap.size ≤ W.heap.size) := ⟨_, rfl, ⟨qR K11.out 7 _ rfl⟩, ⟨Kd.qH (zU Mob.out B6.out) (fun _ hk => hk.2)⟩, ⟨by rw [Z0]; exact zU Mmb.out B6.out⟩, ⟨qA D11.out G5.out⟩, ⟨Nat.le_trans Z11.out (jh _ _ _ _).size⟩⟩
        rw [← hW]
        clear hW K11 Mmb Mob D11 Z11 q6 qf6 y6 K8 M7 M8 D8 Z8 K7 P7 P8 D7 Z7
        go_wp2
        exact ⟨⟨i + 1, A17, c17, A18, c18, by push_cast; rfl, by omega, K20, R20, S20, D20, Z20⟩, by show (_ : Nat) < _; simp only [intOf]; omega⟩
      · have hwb : decide ((i : Int) < wd) = false := decide_eq_false hw
        have hwc := eq_false hw
        have WQ := qa.mk (show (qI L (wrap64 (wrap64 (4 * wd) - 4)) 2).1 = Qx L wd i by unfold Qx; rw [if_neg hw, ja (x := 4 * wd) (by have := NB.out; omega) (by have := NB.out; omega), ja (by have := NB.out; omega) (by have := NB.out; omega), show 4 * wd - 4 = 4 * (wd - 1) by omega])
        have WP := qa.mk (show jK (qI L (wrap64 (wrap64 (2 * wd) + wrap64 (2 * (i : Int)))) 2).1 = Qq L wd i by unfold Qq; rw [if_neg hw, ja (x := 2 * wd) (by have := NB.out; omega) (by have := NB.out; omega), ja (x := 2 * (i : Int)) (by omega) (by have := IB.out; omega), ja (by have := NB.out; omega) (by have := NB.out; have := IB.out; omega), show 2 * wd + 2 * (i : Int) = 4 * wd + 2 * ((i : Int) - wd) by omega])
        clear hw
        go_upto_region 14 with fail
        have y6 := qb KK.out 6
        refine jf (n := 11) (S := fun w' => w'.cell? ⟨g5, 6, none⟩ = some (.slice A7 i c7)) (ds := [8, 10]) #[false, false, false, false, false, false, false, false, false, false, false] (by kernel_rfl) rfl rfl (y6) (fun hHeld => ?_)
        obtain ⟨w7, hW, K7, P7, P8, D7, Z7⟩ : ∃ W, W = wr.drew ∧ qa (W.heap[g5]? = some (Obj.cells (mq kd u (m : Int) a d gp (.slice A7 i c7) (.slice A8 i c8) zw) 37 (0, 0))) ∧ qa (Kd.R (Kd.int .i64) 3 W w6.heap.size (fun k => some k ≠ (.slice A8 i c8 : Value).ownBlock) (.slice A7 i c7) (jN L wd i)) ∧ qa (Kd.R (Kd.int .i64) 3 W w6.heap.size (fun k => some k ≠ (.slice A7 i c7 : Value).ownBlock) (.slice A8 i c8) (jm L wd i)) ∧ qa (Below w3.heap.size w3 W) ∧ qa (w6.heap.size ≤ W.heap.size) := ⟨_, rfl, ⟨qQ KK.out⟩, ⟨Kd.qw R7.out⟩, ⟨Kd.qw R8.out⟩, ⟨zm DR.out⟩, ⟨ZR.out⟩⟩
        rw [← hW] at hHeld ⊢
        clear hW KK R7 R8 DR ZR
        refine qj (i := 0) (N := some 71) (v := ?_) (a' := ?_) #[true, false, false, false, false, false, false, false, false, false, false] rfl rfl (by kernel_rfl) (fun _ _ _ h => h) (Or.inl ⟨by rfl, ?_⟩) ?_ ?_
        rotate_left
        · intro w'
          go_simp
          with_reducible rfl
        rotate_left
        · simp only [Act.put, List.setIfInBounds_toArray, List.set_cons_zero, List.set_cons_succ, qg, qh]
          rfl
        refine qj (i := 2) (N := some 73) (v := ?_) (a' := ?_) #[true, false, true, false, false, false, false, false, false, false, false] rfl rfl (by kernel_rfl) (fun _ _ _ h => h) (Or.inl ⟨by rfl, ?_⟩) ?_ ?_
        rotate_left
        · intro w'
          go_simp
          with_reducible rfl
        rotate_left
        · simp only [Act.put, List.setIfInBounds_toArray, List.set_cons_zero, List.set_cons_succ, qg, qh]
          rfl
        refine qj (i := 3) (N := some 74) (v := ?_) (a' := ?_) #[true, false, true, true, false, false, false, false, false, false, false] rfl rfl (by kernel_rfl) (fun _ _ _ h => h) (Or.inl ⟨by rfl, ?_⟩) ?_ ?_
        rotate_left
        · intro w'
          go_simp
          with_reducible rfl
        rotate_left
        · simp only [Act.put, List.setIfInBounds_toArray, List.set_cons_zero, List.set_cons_succ, qg, qh]
          rfl
        refine qj (i := 4) (N := some 75) (v := ?_) (a' := ?_) #[true, false, true, true, true, false, false, false, false, false, false] rfl rfl (by kernel_rfl) (fun _ _ _ h => h) (Or.inl ⟨by rfl, ?_⟩) ?_ ?_
        rotate_left
        · intro w'
          go_simp
          with_reducible rfl
        rotate_left
        · simp only [Act.put, List.setIfInBounds_toArray, List.set_cons_zero, List.set_cons_succ, qg, qh]
          rfl
        refine qj (i := 5) (N := some 76) (v := ?_) (a' := ?_) #[true, false, true, true, true, true, false, false, false, false, false] rfl rfl (by kernel_rfl) (fun _ _ _ h => h) (Or.inl ⟨by rfl, ?_⟩) ?_ ?_
        rotate_left
        · intro w'
          go_simp
          with_reducible rfl
        rotate_left
        · simp only [Act.put, List.setIfInBounds_toArray, List.set_cons_zero, List.set_cons_succ, qg, qh]
          rfl
        refine zq (i := 1) (N := some 72) (v := ?_) (a' := ?_) #[true, true, true, true, true, true, false, false, false, false, false] rfl rfl (by kernel_rfl) (fun _ _ _ h => h) (Or.inl ⟨by rfl, ?_⟩) hHeld ?_ ?_
        rotate_left
        · intro w' s0
          go_simp
          with_reducible rfl
        rotate_left
        · simp only [Act.put, List.setIfInBounds_toArray, List.set_cons_zero, List.set_cons_succ, qg, qh]
          rfl
        refine QK (i := 6) (N := some 77) #[true, true, true, true, true, true, true, false, false, false, false] rfl rfl (by kernel_rfl) (by decide) (fun K hK => ?_)
        refine Qk Try.func32 (by kernel_rfl) rfl #[.slice A L.length c, .int .i64 (wrap64 (wrap64 (4 * wd) - 4))] (by rfl) rfl rfl (by simp only [List.map_toArray, List.map_cons, List.map_nil]; rfl) ?_
        with_reducible refine ((U16.out _ w7 (qc BB.out D7.out))).mono ?_
        rintro e w8 ⟨rfl, k1⟩
        refine ⟨_, rfl, ?_⟩
        rw [WQ.out]
        have K8 := qa.mk ((k1.block _ (qz K7.out)).trans K7.out)
        have M7 := qa.mk (Kd.qM P7.out k1)
        have M8 := qa.mk (Kd.qM P8.out k1)
        have D8 := qa.mk (qc D7.out k1)
        have Z8 := qa.mk (Nat.le_trans Z7.out (qi k1))
        clear k1
        refine hK.out _ _ ((qb K8.out 6).trans rfl) (fun hHeld => ?_)
        clear hK K
        refine zO (a' := ?_) ?_ ?_
        rotate_left
        · show Act.put _ (some 77) _ = _
          simp only [Act.put, List.setIfInBounds_toArray, List.set_cons_zero, List.set_cons_succ, qg, qh]
          rfl
        refine QK (i := 7) (N := some 78) #[true, true, true, true, true, true, true, true, false, false, false] rfl rfl (by kernel_rfl) (by decide) (fun K hK => ?_)
        refine QD (w1 := ?_) (v := ?_) (by rfl) rfl ?_ ?_
        rotate_left 2
        · go_simp
          constructor
          · rfl
          · rfl
        refine hK.out _ _ ((World.cell?_alloc_lt _ _ _ (World.block_lt_of_cell? _ _ hHeld)).trans hHeld) (fun hHeld => ?_)
        clear hK K
        refine zO (a' := ?_) ?_ ?_
        rotate_left
        · show Act.put _ (some 78) _ = _
          simp only [Act.put, List.setIfInBounds_toArray, List.set_cons_zero, List.set_cons_succ, qg, qh]
          rfl
        refine zS (i := 8) (N := some 79) #[true, true, true, true, true, true, true, true, true, false, false] rfl rfl (by kernel_rfl) (by decide) (fun K hK => ?_)
        refine Kd.jO (Kd.int .i64) (w0 := w8) w6.heap.size (by rfl) (.tmp 72) (.tmp 78) 35 3 (.int .i64 0) 8 rfl Try.underlying35 info3 rfl (by decide) (by omega) (.slice A7 i c7) (jN L wd i) (Qx L wd i) [.int .i64 (Qx L wd i)] (fun k_ => some k_ ≠ (.slice A8 i c8 : Value).ownBlock) (fun _ => False) (by first | rfl | (go_simp; done) | (go_simp; rfl)) rfl ?aP (fun _ hk => hk.elim) ?aF ?aO ?aB ?aS ?aL ?_
        (case aP => exact rfl)
        (case aF => exact fun k_ hk => Kd.fresh' (Kd.za M8.out) k_ hk)
        (case aO => exact M7.out)
        (case aB => exact Below.refl _ _)
        (case aS => exact Z8.out)
        (case aL => rw [QA]; have := IB.out; omega)
        intro v11 w11 k1 kb hg hat
        have K11 := qa.mk (zg K8.out hg (fun e => by have := Kd.qZ M7.out g5 e.symm; have := B6.out; omega))
        have D11 := qa.mk (D8.out.grown hg (qi D8.out) (fun k hk => by have := Kd.qZ M7.out k hk; have := Z6.out; omega))
        have Z11 := qa.mk (Nat.le_trans Z8.out hg.size)
        have Mob := qa.mk (Kd.zb (ok := fun _ => True) (Kd.qH M8.out (fun _ hk => ⟨trivial, hk⟩)) hg hat)
        obtain ⟨A17, c17, e11⟩ := Kd.qN k1
        rw [List.length_append, List.length_singleton, QA] at e11
        subst e11
        have Mmb := qa.mk k1
        have q6 := qb K11.out 6
        have qf6 := qd K11.out 6
        clear k1 kb hg hat
        refine hK.out _ _ ?_
        clear hK K
        refine zO (a' := ?_) ?_ ?_
        rotate_left
        · show Act.put _ (some 79) _ = _
          simp only [Act.put, List.setIfInBounds_toArray, List.set_cons_zero, List.set_cons_succ, qg, qh]
          rfl
        refine qj (i := 9) (N := some 80) (v := ?_) (a' := ?_) #[true, true, true, true, true, true, true, true, true, true, false] rfl rfl (by kernel_rfl) (fun _ _ _ h => h) (Or.inl ⟨by rfl, ?_⟩) ?_ ?_
        rotate_left
        · intro w'
          go_simp
          with_reducible rfl
        rotate_left
        · simp only [Act.put, List.setIfInBounds_toArray, List.set_cons_zero, List.set_cons_succ, qg, qh]
          rfl
        refine zS (i := 10) (N := none) #[true, true, true, true, true, true, true, true, true, true, true] rfl rfl (by kernel_rfl) (by decide) (fun K hK => ?_)
        refine Zg (w1 := ?_) (by rfl) rfl ?_ ?_
        rotate_left
        · go_simp
          rfl
        refine hK.out _ _ ?_
        clear hK K
        refine jM (by kernel_rfl) ?_
        obtain ⟨w10, hW, K10, R10, S10, D10, Z10⟩ : ∃ W, W = w11.setCell ⟨g5, 6, none⟩ (.slice A17 (i + 1) c17) ∧ qa (W.heap[g5]? = some (Obj.cells (mq kd u (m : Int) a d gp (.slice A17 (i + 1) c17) (.slice A8 i c8) zw) 37 (0, 0))) ∧ qa (Kd.R (Kd.int .i64) 3 W w6.heap.size (fun k => some k ≠ (.slice A8 i c8 : Value).ownBlock) (.slice A17 (i + 1) c17) (jN L wd (i + 1))) ∧ qa (Kd.R (Kd.int .i64) 3 W w6.heap.size (fun k => some k ≠ (.slice A17 (i + 1) c17 : Value).ownBlock) (.slice A8 i c8) (jm L wd i)) ∧ qa (Below w3.heap.size w3 W) ∧ qa (w6.heap.size ≤ W.heap.size) := ⟨_, rfl, ⟨qR K11.out 6 _ rfl⟩, ⟨by rw [Jk]; exact zU Mmb.out B6.out⟩, ⟨Kd.qH (zU Mob.out B6.out) (fun _ hk => hk.2)⟩, ⟨qA D11.out G5.out⟩, ⟨Nat.le_trans Z11.out (jh _ _ _ _).size⟩⟩
        rw [← hW]
        clear hW K11 Mmb Mob D11 Z11 q6 qf6 y6 K8 M7 M8 D8 Z8 K7 P7 P8 D7 Z7
        go_upto_region 15 with fail
        have y6 := qb K10.out 7
        refine jf (n := 13) (S := fun w' => w'.cell? ⟨g5, 7, none⟩ = some (.slice A8 i c8)) (ds := [10, 12]) #[false, false, false, false, false, false, false, false, false, false, false, false, false] (by kernel_rfl) rfl rfl (y6) (fun hHeld => ?_)
        obtain ⟨w7, hW, K7, P7, P8, D7, Z7⟩ : ∃ W, W = w10.drew ∧ qa (W.heap[g5]? = some (Obj.cells (mq kd u (m : Int) a d gp (.slice A17 (i + 1) c17) (.slice A8 i c8) zw) 37 (0, 0))) ∧ qa (Kd.R (Kd.int .i64) 3 W w6.heap.size (fun k => some k ≠ (.slice A8 i c8 : Value).ownBlock) (.slice A17 (i + 1) c17) (jN L wd (i + 1))) ∧ qa (Kd.R (Kd.int .i64) 3 W w6.heap.size (fun k => some k ≠ (.slice A17 (i + 1) c17 : Value).ownBlock) (.slice A8 i c8) (jm L wd i)) ∧ qa (Below w3.heap.size w3 W) ∧ qa (w6.heap.size ≤ W.heap.size) := ⟨_, rfl, ⟨qQ K10.out⟩, ⟨Kd.qw R10.out⟩, ⟨Kd.qw S10.out⟩, ⟨zm D10.out⟩, ⟨Z10.out⟩⟩
        rw [← hW] at hHeld ⊢
        clear hW K10 R10 S10 D10 Z10
        refine qj (i := 0) (N := some 81) (v := ?_) (a' := ?_) #[true, false, false, false, false, false, false, false, false, false, false, false, false] rfl rfl (by kernel_rfl) (fun _ _ _ h => h) (Or.inl ⟨by rfl, ?_⟩) ?_ ?_
        rotate_left
        · intro w'
          go_simp
          with_reducible rfl
        rotate_left
        · simp only [Act.put, List.setIfInBounds_toArray, List.set_cons_zero, List.set_cons_succ, qg, qh]
          rfl
        refine qj (i := 2) (N := some 83) (v := ?_) (a' := ?_) #[true, false, true, false, false, false, false, false, false, false, false, false, false] rfl rfl (by kernel_rfl) (fun _ _ _ h => h) (Or.inl ⟨by rfl, ?_⟩) ?_ ?_
        rotate_left
        · intro w'
          go_simp
          with_reducible rfl
        rotate_left
        · simp only [Act.put, List.setIfInBounds_toArray, List.set_cons_zero, List.set_cons_succ, qg, qh]
          rfl
        refine qj (i := 3) (N := some 84) (v := ?_) (a' := ?_) #[true, false, true, true, false, false, false, false, false, false, false, false, false] rfl rfl (by kernel_rfl) (fun _ _ _ h => h) (Or.inl ⟨by rfl, ?_⟩) ?_ ?_
        rotate_left
        · intro w'
          go_simp
          with_reducible rfl
        rotate_left
        · simp only [Act.put, List.setIfInBounds_toArray, List.set_cons_zero, List.set_cons_succ, qg, qh]
          rfl
        refine qj (i := 4) (N := some 85) (v := ?_) (a' := ?_) #[true, false, true, true, true, false, false, false, false, false, false, false, false] rfl rfl (by kernel_rfl) (fun _ _ _ h => h) (Or.inl ⟨by rfl, ?_⟩) ?_ ?_
        rotate_left
        · intro w'
          go_simp
          with_reducible rfl
        rotate_left
        · simp only [Act.put, List.setIfInBounds_toArray, List.set_cons_zero, List.set_cons_succ, qg, qh]
          rfl
        refine qj (i := 5) (N := some 86) (v := ?_) (a' := ?_) #[true, false, true, true, true, true, false, false, false, false, false, false, false] rfl rfl (by kernel_rfl) (fun _ _ _ h => h) (Or.inl ⟨by rfl, ?_⟩) ?_ ?_
        rotate_left
        · intro w'
          go_simp
          with_reducible rfl
        rotate_left
        · simp only [Act.put, List.setIfInBounds_toArray, List.set_cons_zero, List.set_cons_succ, qg, qh]
          rfl
        refine qj (i := 6) (N := some 87) (v := ?_) (a' := ?_) #[true, false, true, true, true, true, true, false, false, false, false, false, false] rfl rfl (by kernel_rfl) (fun _ _ _ h => h) (Or.inl ⟨by rfl, ?_⟩) ?_ ?_
        rotate_left
        · intro w'
          go_simp
          with_reducible rfl
        rotate_left
        · simp only [Act.put, List.setIfInBounds_toArray, List.set_cons_zero, List.set_cons_succ, qg, qh]
          rfl
        refine qj (i := 7) (N := some 88) (v := ?_) (a' := ?_) #[true, false, true, true, true, true, true, true, false, false, false, false, false] rfl rfl (by kernel_rfl) (fun _ _ _ h => h) (Or.inl ⟨by rfl, ?_⟩) ?_ ?_
        rotate_left
        · intro w'
          go_simp
          with_reducible rfl
        rotate_left
        · simp only [Act.put, List.setIfInBounds_toArray, List.set_cons_zero, List.set_cons_succ, qg, qh]
          rfl
        refine zq (i := 1) (N := some 82) (v := ?_) (a' := ?_) #[true, true, true, true, true, true, true, true, false, false, false, false, false] rfl rfl (by kernel_rfl) (fun _ _ _ h => h) (Or.inl ⟨by rfl, ?_⟩) hHeld ?_ ?_
        rotate_left
        · intro w' s0
          go_simp
          with_reducible rfl
        rotate_left
        · simp only [Act.put, List.setIfInBounds_toArray, List.set_cons_zero, List.set_cons_succ, qg, qh]
          rfl
        refine QK (i := 8) (N := some 89) #[true, true, true, true, true, true, true, true, true, false, false, false, false] rfl rfl (by kernel_rfl) (by decide) (fun K hK => ?_)
        refine Qk Try.func41 (by kernel_rfl) rfl #[.slice A L.length c, .int .i64 (wrap64 (wrap64 (2 * wd) + wrap64 (2 * (i : Int))))] (by rfl) rfl rfl (by simp only [List.map_toArray, List.map_cons, List.map_nil]; rfl) ?_
        with_reducible refine ((I16.out _ w7 (qc BB.out D7.out))).mono ?_
        rintro e w8 ⟨rfl, k1⟩
        refine ⟨_, rfl, ?_⟩
        rw [WP.out]
        have K8 := qa.mk ((k1.block _ (qz K7.out)).trans K7.out)
        have M7 := qa.mk (Kd.qM P7.out k1)
        have M8 := qa.mk (Kd.qM P8.out k1)
        have D8 := qa.mk (qc D7.out k1)
        have Z8 := qa.mk (Nat.le_trans Z7.out (qi k1))
        clear k1
        refine hK.out _ _ ((qb K8.out 7).trans rfl) (fun hHeld => ?_)
        clear hK K
        refine zO (a' := ?_) ?_ ?_
        rotate_left
        · show Act.put _ (some 89) _ = _
          simp only [Act.put, List.setIfInBounds_toArray, List.set_cons_zero, List.set_cons_succ, qg, qh]
          rfl
        refine QK (i := 9) (N := some 90) #[true, true, true, true, true, true, true, true, true, true, false, false, false] rfl rfl (by kernel_rfl) (by decide) (fun K hK => ?_)
        refine QD (w1 := ?_) (v := ?_) (by rfl) rfl ?_ ?_
        rotate_left 2
        · go_simp
          constructor
          · rfl
          · rfl
        refine hK.out _ _ ((World.cell?_alloc_lt _ _ _ (World.block_lt_of_cell? _ _ hHeld)).trans hHeld) (fun hHeld => ?_)
        clear hK K
        refine zO (a' := ?_) ?_ ?_
        rotate_left
        · show Act.put _ (some 90) _ = _
          simp only [Act.put, List.setIfInBounds_toArray, List.set_cons_zero, List.set_cons_succ, qg, qh]
          rfl
        refine zS (i := 10) (N := some 91) #[true, true, true, true, true, true, true, true, true, true, true, false, false] rfl rfl (by kernel_rfl) (by decide) (fun K hK => ?_)
        refine Kd.jO (Kd.int .i64) (w0 := w8) w6.heap.size (by rfl) (.tmp 82) (.tmp 90) 35 3 (.int .i64 0) 8 rfl Try.underlying35 info3 rfl (by decide) (by omega) (.slice A8 i c8) (jm L wd i) (Qq L wd i) [.int .i64 (Qq L wd i)] (fun k_ => some k_ ≠ (.slice A17 (i + 1) c17 : Value).ownBlock) (fun _ => False) (by first | rfl | (go_simp; done) | (go_simp; rfl)) rfl ?aP (fun _ hk => hk.elim) ?aF ?aO ?aB ?aS ?aL ?_
        (case aP => exact rfl)
        (case aF => exact fun k_ hk => Kd.fresh' (Kd.za M7.out) k_ hk)
        (case aO => exact M8.out)
        (case aB => exact Below.refl _ _)
        (case aS => exact Z8.out)
        (case aL => rw [Qo]; have := IB.out; omega)
        intro v11 w11 k1 kb hg hat
        have K11 := qa.mk (zg K8.out hg (fun e => by have := Kd.qZ M8.out g5 e.symm; have := B6.out; omega))
        have D11 := qa.mk (D8.out.grown hg (qi D8.out) (fun k hk => by have := Kd.qZ M8.out k hk; have := Z6.out; omega))
        have Z11 := qa.mk (Nat.le_trans Z8.out hg.size)
        have Mob := qa.mk (Kd.zb (ok := fun _ => True) (Kd.qH M7.out (fun _ hk => ⟨trivial, hk⟩)) hg hat)
        obtain ⟨A18, c18, e11⟩ := Kd.qN k1
        rw [List.length_append, List.length_singleton, Qo] at e11
        subst e11
        have Mmb := qa.mk k1
        have q6 := qb K11.out 7
        have qf6 := qd K11.out 7
        clear k1 kb hg hat
        refine hK.out _ _ ?_
        clear hK K
        refine zO (a' := ?_) ?_ ?_
        rotate_left
        · show Act.put _ (some 91) _ = _
          simp only [Act.put, List.setIfInBounds_toArray, List.set_cons_zero, List.set_cons_succ, qg, qh]
          rfl
        refine qj (i := 11) (N := some 92) (v := ?_) (a' := ?_) #[true, true, true, true, true, true, true, true, true, true, true, true, false] rfl rfl (by kernel_rfl) (fun _ _ _ h => h) (Or.inl ⟨by rfl, ?_⟩) ?_ ?_
        rotate_left
        · intro w'
          go_simp
          with_reducible rfl
        rotate_left
        · simp only [Act.put, List.setIfInBounds_toArray, List.set_cons_zero, List.set_cons_succ, qg, qh]
          rfl
        refine zS (i := 12) (N := none) #[true, true, true, true, true, true, true, true, true, true, true, true, true] rfl rfl (by kernel_rfl) (by decide) (fun K hK => ?_)
        refine Zg (w1 := ?_) (by rfl) rfl ?_ ?_
        rotate_left
        · go_simp
          rfl
        refine hK.out _ _ ?_
        clear hK K
        refine jM (by kernel_rfl) ?_
        obtain ⟨w20, hW, K20, R20, S20, D20, Z20⟩ : ∃ W, W = w11.setCell ⟨g5, 7, none⟩ (.slice A18 (i + 1) c18) ∧ qa (W.heap[g5]? = some (Obj.cells (mq kd u (m : Int) a d gp (.slice A17 (i + 1) c17) (.slice A18 (i + 1) c18) zw) 37 (0, 0))) ∧ qa (Kd.R (Kd.int .i64) 3 W w6.heap.size (fun k => some k ≠ (.slice A18 (i + 1) c18 : Value).ownBlock) (.slice A17 (i + 1) c17) (jN L wd (i + 1))) ∧ qa (Kd.R (Kd.int .i64) 3 W w6.heap.size (fun k => some k ≠ (.slice A17 (i + 1) c17 : Value).ownBlock) (.slice A18 (i + 1) c18) (jm L wd (i + 1))) ∧ qa (Below w3.heap.size w3 W) ∧ qa (w6.heap.size ≤ W.heap.size) := ⟨_, rfl, ⟨qR K11.out 7 _ rfl⟩, ⟨Kd.qH (zU Mob.out B6.out) (fun _ hk => hk.2)⟩, ⟨by rw [Z0]; exact zU Mmb.out B6.out⟩, ⟨qA D11.out G5.out⟩, ⟨Nat.le_trans Z11.out (jh _ _ _ _).size⟩⟩
        rw [← hW]
        clear hW K11 Mmb Mob D11 Z11 q6 qf6 y6 K8 M7 M8 D8 Z8 K7 P7 P8 D7 Z7
        go_wp2
        exact ⟨⟨i + 1, A17, c17, A18, c18, by push_cast; rfl, by omega, K20, R20, S20, D20, Z20⟩, by show (_ : Nat) < _; simp only [intOf]; omega⟩
    · have il := eq_false (show ¬ (i : Int) < (m : Int) by omega)
      have il2 := eq_false ilt
      obtain rfl : i = m := by omega
      have Q0 := qa.mk RV2.out
      go_upto_region 16 with fail
      clear il il2 ilt y2 hi U16 I16 RV2
      have y0 := qb KK.out 0
      by_cases ck : kd = 2
      · subst ck
        obtain ⟨TC, hTC⟩ : ∃ T, zl bs ⟨#[67, 70, 70, 32]⟩ 0 rows = T := ⟨_, rfl⟩
        have HC := qa.mk hTC
        have E0 := Q0.out
        unfold Zk at E0
        rw [hTC, if_pos rfl] at E0
        clear hTC
        have f0 := qb (KF.out _ DR.out) 0
        have f1 := qb (KF.out _ DR.out) 1
        have f2 := qb (KF.out _ DR.out) 2
        cases TC with
        | none =>
          have E := qa.mk (show R.1 = 41 ∧ (41 : Int) ≠ 0 by rw [E0]; exact ⟨rfl, by decide⟩)
          clear E0
          go_upto_region 18 with (go_at_call 40; refine (TN.out _ _ wr (qc BB.out DR.out) HC.out).mono ?_; rintro e w30 ⟨A, mm, c, rfl, h1⟩; have D30 := qa.mk (qc DR.out h1); clear h1)
          clear f0 f1 f2 y0
          have KY := qa.mk (KZ.out _ D30.out)
          have z0 := qb (K4.out _ D30.out) 0
          have z1 := qb (K4.out _ D30.out) 1
          have z2 := qb (K4.out _ D30.out) 2
          have z3 := qb (K4.out _ D30.out) 3
          have z4 := qb (K4.out _ D30.out) 4
          have z5 := qb (K4.out _ D30.out) 5
          have z6 := qb (K4.out _ D30.out) 6
          have z7 := qb (K4.out _ D30.out) 7
          have z8 := qb (K4.out _ D30.out) 8
          go_wp2_with (refine wpList_store_row rfl 37 (.tmp 2) (.tmp 103) rfl g2 zi rfl rfl 37 zi KY.out (by kernel_rfl) rfl (by simp [Value.oneCell']) ?_)
          exact rexit _ w _ g2 _ KY.out rfl rfl (qc BB.out D30.out) G2.out E.out
        | some X =>
          have E := qa.mk (show R = (0, ⟨2, u, (i : Int), a, d, gp, jN L wd i, jm L wd i, []⟩) from E0)
          clear E0
          go_upto_region 18 with (go_at_call 40; refine (TS.out _ _ wr X (qc BB.out DR.out) HC.out).mono ?_; rintro e w30 ⟨A, c, rfl, _, _, h1⟩; have D30 := qa.mk (qc DR.out h1); have K30 := qa.mk ((h1.block _ (qz KK.out)).trans KK.out); have R30 := qa.mk (Kd.qM R7.out h1); have S30 := qa.mk (Kd.qM R8.out h1); clear h1)
          clear f0 f1 f2 y0
          have KY := qa.mk (KZ.out _ D30.out)
          have G2B := qa.mk (show g2 < w6.heap.size by have := qz (KZ.out _ D3.out); have := Z6.out; omega)
          have z0 := qb K30.out 0
          have z1 := qb K30.out 1
          have z2 := qb K30.out 2
          have z3 := qb K30.out 3
          have z4 := qb K30.out 4
          have z5 := qb K30.out 5
          have z6 := qb K30.out 6
          have z7 := qb K30.out 7
          have z8 := qb K30.out 8
          go_wp2_with (refine wpList_store_row rfl 37 (.tmp 2) (.tmp 104) rfl g2 (mq 2 u (i : Int) a d gp (.slice A7 i c7) (.slice A8 i c8) zw) rfl rfl 37 zi KY.out (by kernel_rfl) rfl (by simp [Value.oneCell']) ?_)
          exact gexit R w _ g2 w6.heap.size _ 2 u (i : Int) a d gp A7 i c7 A8 i c8 none 0 0 _ _ [] KY.out rfl rfl (qc BB.out D30.out) G2.out E.out G2B.out R30.out S30.out (Kd.jE _ _ _ _ (fun _ => True))
      · have ckb : (kd == 2) = false := beq_eq_false_iff_ne.2 ck
        have ckc := eq_false ck
        have E0 := Q0.out
        unfold Zk at E0
        rw [if_neg ck, Int.mul_comm (2 + 2 * f) ((i : Int) + 1)] at E0
        obtain ⟨TL, hTL⟩ : ∃ T, zl bs ⟨#[108, 111, 99, 97]⟩ (((i : Int) + 1) * (2 + 2 * f)) rows = T := ⟨_, rfl⟩
        obtain ⟨TG, hTG⟩ : ∃ T, zl bs ⟨#[103, 108, 121, 102]⟩ 0 rows = T := ⟨_, rfl⟩
        rw [hTL, hTG] at E0
        have HL := qa.mk hTL
        have HG := qa.mk hTG
        clear hTL hTG ck
        go_upto_region 21 with fail
        clear ckb ckc y0
        have y2 := qb KK.out 2
        have n1 : (i : Int) + 1 ≤ 9223372036854775807 := by have := NB.out; omega
        have n2 : 2 * f ≤ 9223372036854775807 := by have := NB.out; omega
        have n2' : -9223372036854775808 ≤ 2 * f := by have := NB.out; omega
        have n3 : 2 + 2 * f ≤ 9223372036854775807 := by have := NB.out; omega
        have n3' : -9223372036854775808 ≤ 2 + 2 * f := by have := NB.out; omega
        have n4 : ((i : Int) + 1) * (2 + 2 * f) ≤ 9223372036854775807 ∧ -9223372036854775808 ≤ ((i : Int) + 1) * (2 + 2 * f) := by
          rcases NB.out.2.2.2.2 with h | h <;> rw [h] <;> have := NB.out <;> constructor <;> omega
        have n4' := n4.2
        replace n4 := n4.1
        have f0 := qb (KF.out _ DR.out) 0
        have f1 := qb (KF.out _ DR.out) 1
        have f2 := qb (KF.out _ DR.out) 2
        cases TL with
        | none =>
          have E := qa.mk (show R.1 = 41 ∧ (41 : Int) ≠ 0 by rw [E0]; exact ⟨rfl, by decide⟩)
          clear E0
          go_upto_region 22 with (go_at_call 40; refine (TN.out _ _ wr (qc BB.out DR.out) HL.out).mono ?_; rintro e w30 ⟨A', mm, c', rfl, h1⟩; have D30 := qa.mk (qc DR.out h1); clear h1)
          clear f0 f1 f2 y2
          have f0 := qb (KF.out _ D30.out) 0
          have f1 := qb (KF.out _ D30.out) 1
          have f2 := qb (KF.out _ D30.out) 2
          go_upto_region 23 with (go_at_call 40; refine (TX.out _ _ w30 (qc BB.out D30.out)).mono ?_; rintro e w31 ⟨A'', m'', c'', b'', rfl, h1⟩; have D31 := qa.mk (qc D30.out h1); clear h1)
          clear f0 f1 f2
          have KY := qa.mk (KZ.out _ D31.out)
          have z0 := qb (K4.out _ D31.out) 0
          have z1 := qb (K4.out _ D31.out) 1
          have z2 := qb (K4.out _ D31.out) 2
          have z3 := qb (K4.out _ D31.out) 3
          have z4 := qb (K4.out _ D31.out) 4
          have z5 := qb (K4.out _ D31.out) 5
          have z6 := qb (K4.out _ D31.out) 6
          have z7 := qb (K4.out _ D31.out) 7
          have z8 := qb (K4.out _ D31.out) 8
          go_wp2_with (refine wpList_store_row rfl 37 (.tmp 2) (.tmp 128) rfl g2 zi rfl rfl 37 zi KY.out (by kernel_rfl) rfl (by simp [Value.oneCell']) ?_)
          exact rexit _ w _ g2 _ KY.out rfl rfl (qc BB.out D31.out) G2.out E.out
        | some LL =>
        have OL := qa.mk (OKT.out _ _ LL HL.out)
        go_upto_region 22 with (go_at_call 40; refine (TS.out _ _ wr LL (qc BB.out DR.out) HL.out).mono ?_; rintro e w30 ⟨A', c', rfl, h2, h3, h1⟩; have LC := qa.mk h2; have CL := qa.mk h3; have D30 := qa.mk (qc DR.out h1); have K30 := qa.mk ((h1.block _ (qz KK.out)).trans KK.out); have R30 := qa.mk (Kd.qM R7.out h1); have S30 := qa.mk (Kd.qM R8.out h1); have Z30 := qa.mk (Nat.le_trans ZR.out (qi h1)); clear h1 h2 h3)
        clear f0 f1 f2 y2 KK R7 R8 DR ZR n1 n2 n2' n3 n3' n4 n4'
        have U32 := qa.mk (fun (p : Int) (W : World) (h : Below w.heap.size w W) => u32r LL OL.out.1 A' c' p W (CL.out W h) LC.out OL.out.2)
        have U16 := qa.mk (fun (p : Int) (W : World) (h : Below w.heap.size w W) => u16r LL OL.out.1 A' c' p W (CL.out W h) LC.out OL.out.2)
        clear LC CL
        have f0 := qb (KF.out _ D30.out) 0
        have f1 := qb (KF.out _ D30.out) 1
        have f2 := qb (KF.out _ D30.out) 2
        cases TG with
        | none =>
          have E := qa.mk (show R.1 = 41 ∧ (41 : Int) ≠ 0 by rw [E0]; exact ⟨rfl, by decide⟩)
          clear E0
          go_upto_region 23 with (go_at_call 40; refine (TN.out _ _ w30 (qc BB.out D30.out) HG.out).mono ?_; rintro e w31 ⟨A'', mm, c'', rfl, h1⟩; have D31 := qa.mk (qc D30.out h1); clear h1)
          clear f0 f1 f2
          have KY := qa.mk (KZ.out _ D31.out)
          have z0 := qb (K4.out _ D31.out) 0
          have z1 := qb (K4.out _ D31.out) 1
          have z2 := qb (K4.out _ D31.out) 2
          have z3 := qb (K4.out _ D31.out) 3
          have z4 := qb (K4.out _ D31.out) 4
          have z5 := qb (K4.out _ D31.out) 5
          have z6 := qb (K4.out _ D31.out) 6
          have z7 := qb (K4.out _ D31.out) 7
          have z8 := qb (K4.out _ D31.out) 8
          go_wp2_with (refine wpList_store_row rfl 37 (.tmp 2) (.tmp 128) rfl g2 zi rfl rfl 37 zi KY.out (by kernel_rfl) rfl (by simp [Value.oneCell']) ?_)
          exact rexit _ w _ g2 _ KY.out rfl rfl (qc BB.out D31.out) G2.out E.out
        | some G =>
        have EQ0 := qa.mk E0
        clear E0
        go_upto_region 23 with (go_at_call 40; refine (TS.out _ _ w30 G (qc BB.out D30.out) HG.out).mono ?_; rintro e w31 ⟨A'', c'', rfl, _, _, h1⟩; have D31 := qa.mk (qc D30.out h1); have K31 := qa.mk ((h1.block _ (qz K30.out)).trans K30.out); have R31 := qa.mk (Kd.qM R30.out h1); have S31 := qa.mk (Kd.qM S30.out h1); have Z31 := qa.mk (Nat.le_trans Z30.out (qi h1)); clear h1)
        clear f0 f1 f2 K30 R30 S30 Z30 D30
        have E1 : R = finR kd u (i : Int) a d gp (jN L wd i) (jm L wd i) (plV LL f (G.length : Int) (i + 1) 0 0 []) := by
          rw [EQ0.out]
          cases plV LL f (G.length : Int) (i + 1) 0 0 [] <;> rfl
        obtain ⟨Q, hQ⟩ : ∃ Q, plV LL f (G.length : Int) (i + 1) 0 0 [] = Q := ⟨_, rfl⟩
        rw [hQ] at E1
        have EF := qa.mk E1
        have HQ0 : qa (plV LL f (G.length : Int) (i + 1 - 0) 0 (Ze []) [] = Q) := ⟨hQ⟩
        have L00 : qa (([] : List Int).length = 0) := ⟨rfl⟩
        obtain ⟨N, hN⟩ : ∃ N, w31.heap.size = N := ⟨_, rfl⟩
        have SN := qa.mk hN
        have T7 : qa (Kd.R (Kd.int .i64) 3 w31 w6.heap.size (fun k => k < N) (.slice A7 i c7) (jN L wd i)) := ⟨Kd.qH (Kd.jq R31.out) (fun _ hk => by have := hk.2.2.1; omega)⟩
        have T8 : qa (Kd.R (Kd.int .i64) 3 w31 w6.heap.size (fun k => k < N) (.slice A8 i c8) (jm L wd i)) := ⟨Kd.qH (Kd.jq S31.out) (fun _ hk => by have := hk.2.2.1; omega)⟩
        have T9 : qa (Kd.R (Kd.int .i64) 3 w31 N (fun _ => True) (.slice none 0 0) []) := ⟨Kd.jE _ _ _ _ _⟩
        have ZN := qa.mk (show N ≤ w31.heap.size by omega)
        have BN := qa.mk (show g5 < N by have := qz K31.out; omega)
        have WN := qa.mk (show w3.heap.size ≤ N ∧ w6.heap.size ≤ N by have := qi D31.out; have := Z31.out; omega)
        clear E1 hQ hN R31 S31 Z31 EQ0
        go_upto_region 25 with fail
        go_wp2
        go_loopw [15] (fun v15 wr => ∃ (j : Nat) (ps : List Int) (A9 : Option Addr) (c9 : Nat), v15 = .int .i64 j ∧ j ≤ i + 1 ∧ qa (plV LL f (G.length : Int) (i + 1 - j) j (Ze ps) ps = Q) ∧ qa (ps.length = j) ∧ qa (wr.heap[g5]? = some (Obj.cells (mq kd u (i : Int) a d gp (.slice A7 i c7) (.slice A8 i c8) (.slice A9 j c9)) 37 (0, 0))) ∧ qa (Kd.R (Kd.int .i64) 3 wr w6.heap.size (fun k => k < N) (.slice A7 i c7) (jN L wd i)) ∧ qa (Kd.R (Kd.int .i64) 3 wr w6.heap.size (fun k => k < N) (.slice A8 i c8) (jm L wd i)) ∧ qa (Kd.R (Kd.int .i64) 3 wr N (fun _ => True) (.slice A9 j c9) ps) ∧ qa (Below w3.heap.size w3 wr) ∧ qa (N ≤ wr.heap.size)) (fun v15 _ => i + 1 - (intOf v15).toNat)
        case atStart => exact ⟨0, [], none, 0, rfl, by omega, HQ0, L00, K31, T7, T8, T9, D31, ZN⟩
        case round =>
          obtain ⟨j, ps, A9, c9, rfl, hj, HQ, HJ, KK, R7, R8, R9, DR, ZR⟩ := hrel
          clear K31 T7 T8 T9 D31 ZN HQ0 L00
          have y2 := qb KK.out 2
          by_cases jl : j ≤ i
          · have jl1 := eq_true jl
            have jl2 := eq_true (show (j : Int) ≤ (i : Int) by omega)
            have j64 : (j : Int) + 1 ≤ 9223372036854775807 := by have := NB.out; omega
            have JB := qa.mk (show j ≤ 4096 by have := NB.out; omega)
            have hq := HQ.out
            rw [show i + 1 - j = (i + 1 - (j + 1)) + 1 by omega, plV] at hq
            have HQ1 := qa.mk hq
            obtain ⟨x, hx⟩ : ∃ x, (qI LL (2 * (j : Int)) 2).1 = x := ⟨_, rfl⟩
            have xb : 0 ≤ x ∧ x < 65536 := by
              have z : 0 ≤ (qI LL (2 * (j : Int)) 2).1 ∧ (qI LL (2 * (j : Int)) 2).1 < 256 ^ 2 := jX LL OL.out.1 (2 * (j : Int)) 2 (by decide)
              rw [hx] at z
              exact z
            have HX := qa.mk hx
            have XB := qa.mk xb
            have m1 : 2 * (j : Int) ≤ 9223372036854775807 := by have := JB.out; omega
            have m2 : 2 * x ≤ 9223372036854775807 := by omega
            have m2' : -9223372036854775808 ≤ 2 * x := by omega
            have m3 : 4 * (j : Int) ≤ 9223372036854775807 := by have := JB.out; omega
            clear hq HQ hx xb
            go_upto_region 29 with (go_at_call 32; refine (U16.out _ wr (qc BB.out DR.out)).mono ?_; rintro e w50 ⟨rfl, h1⟩; rw [HX.out]; have D50 := qa.mk (qc DR.out h1); have K50 := qa.mk ((h1.block _ (qz KK.out)).trans KK.out); have Q7 := qa.mk (Kd.qM R7.out h1); have Q8 := qa.mk (Kd.qM R8.out h1); have Q9 := qa.mk (Kd.qM R9.out h1); have Z50 := qa.mk (Nat.le_trans ZR.out (qi h1)); clear h1)
            clear y2 KK R7 R8 R9 DR ZR m1
            by_cases hf : f = 1
            · have hfb : (f == 1) = true := beq_iff_eq.2 hf
              obtain ⟨P, hP⟩ : ∃ P, (qI LL (4 * (j : Int)) 4).1 = P := ⟨_, rfl⟩
              have PA := qa.mk (show Zl LL f j = P by unfold Zl; rw [if_pos hf, hP])
              have hfc := eq_true hf
              clear hf
              have PB := qa.mk (show 0 ≤ P ∧ P < 4294967296 by
                have z : 0 ≤ (qI LL (4 * (j : Int)) 4).1 ∧ (qI LL (4 * (j : Int)) 4).1 < 256 ^ 4 := jX LL OL.out.1 (4 * (j : Int)) 4 (by decide)
                rw [hP] at z
                exact z)
              have HP := qa.mk hP
              clear hP
              go_upto_region 31 with (go_at_call 33; refine (U32.out _ w50 (qc BB.out D50.out)).mono ?_; rintro e w51 ⟨rfl, h1⟩; rw [HP.out]; have D51 := qa.mk (qc D50.out h1); have K51 := qa.mk ((h1.block _ (qz K50.out)).trans K50.out); have V7 := qa.mk (Kd.qM Q7.out h1); have V8 := qa.mk (Kd.qM Q8.out h1); have V9 := qa.mk (Kd.qM Q9.out h1); have Z51 := qa.mk (Nat.le_trans Z50.out (qi h1)); clear h1)
              clear K50 Q7 Q8 Q9 D50 Z50 m2 m2' m3 hfb hfc
              have hq := HQ1.out
              rw [PA.out] at hq
              clear HQ1 PA
              have y8 := qb K51.out 8
              by_cases jz : j = 0
              · subst jz
                have ps0 : ps = [] := List.eq_nil_of_length_eq_zero HJ.out
                subst ps0
                rw [show Ze [] = 0 from rfl, if_neg (show ¬ P < 0 by have := PB.out; omega)] at hq
                by_cases a2 : (G.length : Int) < P
                · rw [if_pos a2] at hq
                  have E := qa.mk (show R.1 = 41 ∧ (41 : Int) ≠ 0 by rw [EF.out, ← hq]; exact ⟨rfl, by decide⟩)
                  have z2 := eq_true a2
                  clear a2
                  clear hq
                  have KY := qa.mk (KZ.out _ D51.out)
                  have z0 := qb (K4.out _ D51.out) 0
                  have z1 := qb (K4.out _ D51.out) 1
                  have z2 := qb (K4.out _ D51.out) 2
                  have z3 := qb (K4.out _ D51.out) 3
                  have z4 := qb (K4.out _ D51.out) 4
                  have z5 := qb (K4.out _ D51.out) 5
                  have z6 := qb (K4.out _ D51.out) 6
                  have z7 := qb (K4.out _ D51.out) 7
                  have z8 := qb (K4.out _ D51.out) 8
                  go_wp2_with (refine wpList_store_row rfl 37 (.tmp 2) (.tmp 164) rfl g2 zi rfl rfl 37 zi KY.out (by kernel_rfl) rfl (by simp [Value.oneCell']) ?_)
                  exact rexit _ w _ g2 _ KY.out rfl rfl (qc BB.out D51.out) G2.out E.out
                rw [if_neg a2] at hq
                have HQ2 := qa.mk hq
                have z2 := eq_false a2
                clear hq a2
                go_wp2_with ((with_reducible refine qG (b := .append) (xs := #[.tmp 166, .tmp 168]) rfl ?_); at_builtin; refine Kd.zM (Kd.int .i64) (w0 := w51) N rfl (.tmp 166) (.tmp 168) 35 3 (.int .i64 0) 8 rfl Try.underlying35 info3 rfl (by decide) (by omega) (.slice A9 0 c9) [] P [.int .i64 P] (fun _ => True) (fun _ => False) rfl (by first | (go_simp; done) | (go_simp; rfl)) ?aP (fun _ hk => hk.elim) ?aF ?aO ?aB ?aS ?aL ?_; (case aP => exact rfl); (case aF => exact fun _ _ => trivial); (case aO => exact V9.out); (case aB => exact Below.refl _ _); (case aS => exact Z51.out); (case aL => rw [HJ.out]; have := JB.out; omega); intro v60 w60 k1 k2 k3 k4; have K60 := qa.mk (zg K51.out k3 (fun e => by have := Kd.qZ V9.out g5 e.symm; have := BN.out; omega)); have W7 := qa.mk (Kd.jo V7.out k3 (fun k hk e => by have := Kd.qZ V9.out k e.symm; omega)); have W8 := qa.mk (Kd.jo V8.out k3 (fun k hk e => by have := Kd.qZ V9.out k e.symm; omega)); have D60 := qa.mk (D51.out.grown k3 (qi D51.out) (fun k hk => by have := Kd.qZ V9.out k hk; have := WN.out; omega)); have Z60 := qa.mk (Nat.le_trans Z51.out k3.size); obtain ⟨A60, c60, e60⟩ := Kd.qN k1; rw [List.length_append, List.length_singleton, HJ.out] at e60; subst e60; have R60 := qa.mk k1; have q8 := qb K60.out 8; have qf := qd K60.out 8; clear k1 k2 k3 k4)
                refine ⟨⟨0 + 1, [] ++ [P], A60, c60, by push_cast; rfl, by omega, ⟨by rw [Zm]; exact HQ2.out⟩, ⟨by rw [List.length_append, HJ.out]; rfl⟩, ⟨qR K60.out 8 _ rfl⟩, ⟨zU W7.out B6.out⟩, ⟨zU W8.out B6.out⟩, ⟨zU R60.out BN.out⟩, ⟨qA D60.out G5.out⟩, ⟨Nat.le_trans Z60.out (jh _ _ _ _).size⟩⟩, by show (_ : Nat) < _; simp only [intOf]; omega⟩
              obtain ⟨jj, hjj⟩ : ∃ q : Int, (j : Int) - 1 = q := ⟨_, rfl⟩
              obtain ⟨ad, e9, x9⟩ := Kd.Qa (Kd.qJ V9.out).2.2 jj (by omega) (by have := HJ.out; omega)
              have li : Ze ps = rd ps jj := by unfold Ze; rw [if_neg (by have := HJ.out; omega), show ((ps.length - 1 : Nat) : Int) = jj by have := HJ.out; omega]
              obtain ⟨la, hla⟩ : ∃ q, rd ps jj = q := ⟨_, rfl⟩
              rw [hla] at x9 li
              rw [li] at hq
              have i1 := eq_true (show 0 < j by omega)
              have i2 := eq_true (show (0 : Int) < (j : Int) by omega)
              have i3 := eq_true (show 0 ≤ jj by omega)
              have i4 := eq_true (show jj < (j : Int) by omega)
              clear li hla jz
              subst e9
              by_cases a1 : P < la
              · rw [if_pos a1] at hq
                have E := qa.mk (show R.1 = 41 ∧ (41 : Int) ≠ 0 by rw [EF.out, ← hq]; exact ⟨rfl, by decide⟩)
                have z1 := eq_true a1
                clear a1
                clear hq
                have KY := qa.mk (KZ.out _ D51.out)
                have z0 := qb (K4.out _ D51.out) 0
                have z1 := qb (K4.out _ D51.out) 1
                have z2 := qb (K4.out _ D51.out) 2
                have z3 := qb (K4.out _ D51.out) 3
                have z4 := qb (K4.out _ D51.out) 4
                have z5 := qb (K4.out _ D51.out) 5
                have z6 := qb (K4.out _ D51.out) 6
                have z7 := qb (K4.out _ D51.out) 7
                have z8 := qb (K4.out _ D51.out) 8
                go_wp2_with (refine wpList_store_row rfl 37 (.tmp 2) (.tmp 164) rfl g2 zi rfl rfl 37 zi KY.out (by kernel_rfl) rfl (by simp [Value.oneCell']) ?_)
                exact rexit _ w _ g2 _ KY.out rfl rfl (qc BB.out D51.out) G2.out E.out
              rw [if_neg a1] at hq
              have z1 := eq_false a1
              clear a1
              by_cases a2 : (G.length : Int) < P
              · rw [if_pos a2] at hq
                have E := qa.mk (show R.1 = 41 ∧ (41 : Int) ≠ 0 by rw [EF.out, ← hq]; exact ⟨rfl, by decide⟩)
                have z2 := eq_true a2
                clear a2
                clear hq
                have KY := qa.mk (KZ.out _ D51.out)
                have z0 := qb (K4.out _ D51.out) 0
                have z1 := qb (K4.out _ D51.out) 1
                have z2 := qb (K4.out _ D51.out) 2
                have z3 := qb (K4.out _ D51.out) 3
                have z4 := qb (K4.out _ D51.out) 4
                have z5 := qb (K4.out _ D51.out) 5
                have z6 := qb (K4.out _ D51.out) 6
                have z7 := qb (K4.out _ D51.out) 7
                have z8 := qb (K4.out _ D51.out) 8
                go_wp2_with (refine wpList_store_row rfl 37 (.tmp 2) (.tmp 164) rfl g2 zi rfl rfl 37 zi KY.out (by kernel_rfl) rfl (by simp [Value.oneCell']) ?_)
                exact rexit _ w _ g2 _ KY.out rfl rfl (qc BB.out D51.out) G2.out E.out
              rw [if_neg a2] at hq
              have HQ2 := qa.mk hq
              have z2 := eq_false a2
              clear hq a2
              go_wp2_with ((with_reducible refine qG (b := .append) (xs := #[.tmp 166, .tmp 168]) rfl ?_); at_builtin; refine Kd.zM (Kd.int .i64) (w0 := w51) N rfl (.tmp 166) (.tmp 168) 35 3 (.int .i64 0) 8 rfl Try.underlying35 info3 rfl (by decide) (by omega) (.slice (some ad) j c9) ps P [.int .i64 P] (fun _ => True) (fun _ => False) rfl (by first | (go_simp; done) | (go_simp; rfl)) ?aP (fun _ hk => hk.elim) ?aF ?aO ?aB ?aS ?aL ?_; (case aP => exact rfl); (case aF => exact fun _ _ => trivial); (case aO => exact V9.out); (case aB => exact Below.refl _ _); (case aS => exact Z51.out); (case aL => rw [HJ.out]; have := JB.out; omega); intro v60 w60 k1 k2 k3 k4; have K60 := qa.mk (zg K51.out k3 (fun e => by have := Kd.qZ V9.out g5 e.symm; have := BN.out; omega)); have W7 := qa.mk (Kd.jo V7.out k3 (fun k hk e => by have := Kd.qZ V9.out k e.symm; omega)); have W8 := qa.mk (Kd.jo V8.out k3 (fun k hk e => by have := Kd.qZ V9.out k e.symm; omega)); have D60 := qa.mk (D51.out.grown k3 (qi D51.out) (fun k hk => by have := Kd.qZ V9.out k hk; have := WN.out; omega)); have Z60 := qa.mk (Nat.le_trans Z51.out k3.size); obtain ⟨A60, c60, e60⟩ := Kd.qN k1; rw [List.length_append, List.length_singleton, HJ.out] at e60; subst e60; have R60 := qa.mk k1; have q8 := qb K60.out 8; have qf := qd K60.out 8; clear k1 k2 k3 k4)
              refine ⟨⟨j + 1, ps ++ [P], A60, c60, by push_cast; rfl, by omega, ⟨by rw [Zm]; exact HQ2.out⟩, ⟨by rw [List.length_append, HJ.out]; rfl⟩, ⟨qR K60.out 8 _ rfl⟩, ⟨zU W7.out B6.out⟩, ⟨zU W8.out B6.out⟩, ⟨zU R60.out BN.out⟩, ⟨qA D60.out G5.out⟩, ⟨Nat.le_trans Z60.out (jh _ _ _ _).size⟩⟩, by show (_ : Nat) < _; simp only [intOf]; omega⟩
            · have hfb : (f == 1) = false := beq_eq_false_iff_ne.2 hf
              have hfc := eq_false hf
              obtain ⟨P, hP⟩ : ∃ P, 2 * x = P := ⟨_, rfl⟩
              have PA := qa.mk (show Zl LL f j = P by unfold Zl; rw [if_neg hf, HX.out, hP])
              have PB := qa.mk (show 0 ≤ P ∧ P < 4294967296 by have := XB.out; omega)
              clear hf
              go_upto_region 31 with fail
              (try rw [hP])
              obtain ⟨w51, hW⟩ : ∃ W, w50 = W := ⟨_, rfl⟩
              rw [hW] at K50 Q7 Q8 Q9 D50 Z50 ⊢
              have D51 := D50
              have K51 := K50
              have V7 := Q7
              have V8 := Q8
              have V9 := Q9
              have Z51 := Z50
              clear K50 Q7 Q8 Q9 D50 Z50 m2 m2' m3 hW hP hfb hfc
              have hq := HQ1.out
              rw [PA.out] at hq
              clear HQ1 PA
              have y8 := qb K51.out 8
              by_cases jz : j = 0
              · subst jz
                have ps0 : ps = [] := List.eq_nil_of_length_eq_zero HJ.out
                subst ps0
                rw [show Ze [] = 0 from rfl, if_neg (show ¬ P < 0 by have := PB.out; omega)] at hq
                by_cases a2 : (G.length : Int) < P
                · rw [if_pos a2] at hq
                  have E := qa.mk (show R.1 = 41 ∧ (41 : Int) ≠ 0 by rw [EF.out, ← hq]; exact ⟨rfl, by decide⟩)
                  have z2 := eq_true a2
                  clear a2
                  clear hq
                  have KY := qa.mk (KZ.out _ D51.out)
                  have z0 := qb (K4.out _ D51.out) 0
                  have z1 := qb (K4.out _ D51.out) 1
                  have z2 := qb (K4.out _ D51.out) 2
                  have z3 := qb (K4.out _ D51.out) 3
                  have z4 := qb (K4.out _ D51.out) 4
                  have z5 := qb (K4.out _ D51.out) 5
                  have z6 := qb (K4.out _ D51.out) 6
                  have z7 := qb (K4.out _ D51.out) 7
                  have z8 := qb (K4.out _ D51.out) 8
                  go_wp2_with (refine wpList_store_row rfl 37 (.tmp 2) (.tmp 164) rfl g2 zi rfl rfl 37 zi KY.out (by kernel_rfl) rfl (by simp [Value.oneCell']) ?_)
                  exact rexit _ w _ g2 _ KY.out rfl rfl (qc BB.out D51.out) G2.out E.out
                rw [if_neg a2] at hq
                have HQ2 := qa.mk hq
                have z2 := eq_false a2
                clear hq a2
                go_wp2_with ((with_reducible refine qG (b := .append) (xs := #[.tmp 166, .tmp 168]) rfl ?_); at_builtin; refine Kd.zM (Kd.int .i64) (w0 := w51) N rfl (.tmp 166) (.tmp 168) 35 3 (.int .i64 0) 8 rfl Try.underlying35 info3 rfl (by decide) (by omega) (.slice A9 0 c9) [] P [.int .i64 P] (fun _ => True) (fun _ => False) rfl (by first | (go_simp; done) | (go_simp; rfl)) ?aP (fun _ hk => hk.elim) ?aF ?aO ?aB ?aS ?aL ?_; (case aP => exact rfl); (case aF => exact fun _ _ => trivial); (case aO => exact V9.out); (case aB => exact Below.refl _ _); (case aS => exact Z51.out); (case aL => rw [HJ.out]; have := JB.out; omega); intro v60 w60 k1 k2 k3 k4; have K60 := qa.mk (zg K51.out k3 (fun e => by have := Kd.qZ V9.out g5 e.symm; have := BN.out; omega)); have W7 := qa.mk (Kd.jo V7.out k3 (fun k hk e => by have := Kd.qZ V9.out k e.symm; omega)); have W8 := qa.mk (Kd.jo V8.out k3 (fun k hk e => by have := Kd.qZ V9.out k e.symm; omega)); have D60 := qa.mk (D51.out.grown k3 (qi D51.out) (fun k hk => by have := Kd.qZ V9.out k hk; have := WN.out; omega)); have Z60 := qa.mk (Nat.le_trans Z51.out k3.size); obtain ⟨A60, c60, e60⟩ := Kd.qN k1; rw [List.length_append, List.length_singleton, HJ.out] at e60; subst e60; have R60 := qa.mk k1; have q8 := qb K60.out 8; have qf := qd K60.out 8; clear k1 k2 k3 k4)
                refine ⟨⟨0 + 1, [] ++ [P], A60, c60, by push_cast; rfl, by omega, ⟨by rw [Zm]; exact HQ2.out⟩, ⟨by rw [List.length_append, HJ.out]; rfl⟩, ⟨qR K60.out 8 _ rfl⟩, ⟨zU W7.out B6.out⟩, ⟨zU W8.out B6.out⟩, ⟨zU R60.out BN.out⟩, ⟨qA D60.out G5.out⟩, ⟨Nat.le_trans Z60.out (jh _ _ _ _).size⟩⟩, by show (_ : Nat) < _; simp only [intOf]; omega⟩
              obtain ⟨jj, hjj⟩ : ∃ q : Int, (j : Int) - 1 = q := ⟨_, rfl⟩
              obtain ⟨ad, e9, x9⟩ := Kd.Qa (Kd.qJ V9.out).2.2 jj (by omega) (by have := HJ.out; omega)
              have li : Ze ps = rd ps jj := by unfold Ze; rw [if_neg (by have := HJ.out; omega), show ((ps.length - 1 : Nat) : Int) = jj by have := HJ.out; omega]
              obtain ⟨la, hla⟩ : ∃ q, rd ps jj = q := ⟨_, rfl⟩
              rw [hla] at x9 li
              rw [li] at hq
              have i1 := eq_true (show 0 < j by omega)
              have i2 := eq_true (show (0 : Int) < (j : Int) by omega)
              have i3 := eq_true (show 0 ≤ jj by omega)
              have i4 := eq_true (show jj < (j : Int) by omega)
              clear li hla jz
              subst e9
              by_cases a1 : P < la
              · rw [if_pos a1] at hq
                have E := qa.mk (show R.1 = 41 ∧ (41 : Int) ≠ 0 by rw [EF.out, ← hq]; exact ⟨rfl, by decide⟩)
                have z1 := eq_true a1
                clear a1
                clear hq
                have KY := qa.mk (KZ.out _ D51.out)
                have z0 := qb (K4.out _ D51.out) 0
                have z1 := qb (K4.out _ D51.out) 1
                have z2 := qb (K4.out _ D51.out) 2
                have z3 := qb (K4.out _ D51.out) 3
                have z4 := qb (K4.out _ D51.out) 4
                have z5 := qb (K4.out _ D51.out) 5
                have z6 := qb (K4.out _ D51.out) 6
                have z7 := qb (K4.out _ D51.out) 7
                have z8 := qb (K4.out _ D51.out) 8
                go_wp2_with (refine wpList_store_row rfl 37 (.tmp 2) (.tmp 164) rfl g2 zi rfl rfl 37 zi KY.out (by kernel_rfl) rfl (by simp [Value.oneCell']) ?_)
                exact rexit _ w _ g2 _ KY.out rfl rfl (qc BB.out D51.out) G2.out E.out
              rw [if_neg a1] at hq
              have z1 := eq_false a1
              clear a1
              by_cases a2 : (G.length : Int) < P
              · rw [if_pos a2] at hq
                have E := qa.mk (show R.1 = 41 ∧ (41 : Int) ≠ 0 by rw [EF.out, ← hq]; exact ⟨rfl, by decide⟩)
                have z2 := eq_true a2
                clear a2
                clear hq
                have KY := qa.mk (KZ.out _ D51.out)
                have z0 := qb (K4.out _ D51.out) 0
                have z1 := qb (K4.out _ D51.out) 1
                have z2 := qb (K4.out _ D51.out) 2
                have z3 := qb (K4.out _ D51.out) 3
                have z4 := qb (K4.out _ D51.out) 4
                have z5 := qb (K4.out _ D51.out) 5
                have z6 := qb (K4.out _ D51.out) 6
                have z7 := qb (K4.out _ D51.out) 7
                have z8 := qb (K4.out _ D51.out) 8
                go_wp2_with (refine wpList_store_row rfl 37 (.tmp 2) (.tmp 164) rfl g2 zi rfl rfl 37 zi KY.out (by kernel_rfl) rfl (by simp [Value.oneCell']) ?_)
                exact rexit _ w _ g2 _ KY.out rfl rfl (qc BB.out D51.out) G2.out E.out
              rw [if_neg a2] at hq
              have HQ2 := qa.mk hq
              have z2 := eq_false a2
              clear hq a2
              go_wp2_with ((with_reducible refine qG (b := .append) (xs := #[.tmp 166, .tmp 168]) rfl ?_); at_builtin; refine Kd.zM (Kd.int .i64) (w0 := w51) N rfl (.tmp 166) (.tmp 168) 35 3 (.int .i64 0) 8 rfl Try.underlying35 info3 rfl (by decide) (by omega) (.slice (some ad) j c9) ps P [.int .i64 P] (fun _ => True) (fun _ => False) rfl (by first | (go_simp; done) | (go_simp; rfl)) ?aP (fun _ hk => hk.elim) ?aF ?aO ?aB ?aS ?aL ?_; (case aP => exact rfl); (case aF => exact fun _ _ => trivial); (case aO => exact V9.out); (case aB => exact Below.refl _ _); (case aS => exact Z51.out); (case aL => rw [HJ.out]; have := JB.out; omega); intro v60 w60 k1 k2 k3 k4; have K60 := qa.mk (zg K51.out k3 (fun e => by have := Kd.qZ V9.out g5 e.symm; have := BN.out; omega)); have W7 := qa.mk (Kd.jo V7.out k3 (fun k hk e => by have := Kd.qZ V9.out k e.symm; omega)); have W8 := qa.mk (Kd.jo V8.out k3 (fun k hk e => by have := Kd.qZ V9.out k e.symm; omega)); have D60 := qa.mk (D51.out.grown k3 (qi D51.out) (fun k hk => by have := Kd.qZ V9.out k hk; have := WN.out; omega)); have Z60 := qa.mk (Nat.le_trans Z51.out k3.size); obtain ⟨A60, c60, e60⟩ := Kd.qN k1; rw [List.length_append, List.length_singleton, HJ.out] at e60; subst e60; have R60 := qa.mk k1; have q8 := qb K60.out 8; have qf := qd K60.out 8; clear k1 k2 k3 k4)
              refine ⟨⟨j + 1, ps ++ [P], A60, c60, by push_cast; rfl, by omega, ⟨by rw [Zm]; exact HQ2.out⟩, ⟨by rw [List.length_append, HJ.out]; rfl⟩, ⟨qR K60.out 8 _ rfl⟩, ⟨zU W7.out B6.out⟩, ⟨zU W8.out B6.out⟩, ⟨zU R60.out BN.out⟩, ⟨qA D60.out G5.out⟩, ⟨Nat.le_trans Z60.out (jh _ _ _ _).size⟩⟩, by show (_ : Nat) < _; simp only [intOf]; omega⟩
          · have jl1 := eq_false jl
            have jl2 := eq_false (show ¬ (j : Int) ≤ (i : Int) by omega)
            obtain rfl : j = i + 1 := by omega
            have hq := HQ.out
            rw [Nat.sub_self] at hq
            have E := qa.mk (show R = (0, ⟨kd, u, (i : Int), a, d, gp, jN L wd i, jm L wd i, ps⟩) by rw [EF.out, ← hq]; rfl)
            have KY := qa.mk (KZ.out _ DR.out)
            have G2B := qa.mk (show g2 < w6.heap.size by have := qz (KZ.out _ D3.out); have := Z6.out; omega)
            have R9L := qa.mk (Kd.zI R9.out WN.out.2)
            clear hq y2
            have z0 := qb KK.out 0
            have z1 := qb KK.out 1
            have z2 := qb KK.out 2
            have z3 := qb KK.out 3
            have z4 := qb KK.out 4
            have z5 := qb KK.out 5
            have z6 := qb KK.out 6
            have z7 := qb KK.out 7
            have z8 := qb KK.out 8
            go_wp2_with (refine wpList_store_row rfl 37 (.tmp 2) (.tmp 171) rfl g2 (mq kd u (i : Int) a d gp (.slice A7 i c7) (.slice A8 i c8) (.slice A9 (i + 1) c9)) rfl rfl 37 zi KY.out (by kernel_rfl) rfl (by simp [Value.oneCell']) ?_)
            exact gexit R w _ g2 w6.heap.size _ kd u (i : Int) a d gp A7 i c7 A8 i c8 A9 (i + 1) c9 _ _ ps KY.out rfl rfl (qc BB.out DR.out) G2.out E.out G2B.out R7.out R8.out R9L.out
end Go.Proofs.Ytonljpciadeafaa.S
