import Derived.Test.YtonljpciadeafaaSx0
import Derived.Test.YtonljpciadeafaaMuAS
set_option linter.unusedVariables false
set_option linter.unusedSimpArgs false
namespace Go.Proofs.Ytonljpciadeafaa.S
open Go Go.RowKit Go.Proofs.YtonljpciadeafaaW.PrintWords Go.Proofs.YtonljpciadeafaaW.PrintLast Go.Proofs.YtonljpciadeafaaW.PrintMore
abbrev hm9 (kd u n a d gp : Int) : Array Value := #[.int .i64 kd, .int .i64 u, .int .i64 n, .int .i64 a, .int .i64 d, .int .i64 gp, zw, zw, zw]
def jA (TH TM TA : Option (List Int)) : Int × Int × Int × Int × Int × Int × Int × Int :=
  if (j3 TH).1 ≠ 0 then ((j3 TH).1, 0, 0, 0, 0, 0, 0, 0)
  else if (jF TM).1 ≠ 0 then ((jF TM).1, 0, 0, 0, 0, 0, 0, 0)
  else if (jW (jF TM).2 TA).1 ≠ 0 then ((jW (jF TM).2 TA).1, 0, 0, 0, 0, 0, 0, 0)
  else (0, (j3 TH).2.1, (jF TM).2, (jW (jF TM).2 TA).2.1, (jW (jF TM).2 TA).2.2.1, (jW (jF TM).2 TA).2.2.2.1, (j3 TH).2.2, (jW (jF TM).2 TA).2.2.2.2)
def HeadsP (R : Int × Int × Int × Int × Int × Int × Int × Int) (kd : Int) (w : World) (e : Ending) (w' : World) : Prop := Below w.heap.size w w' ∧
  (R.1 ≠ 0 ∧ (∃ u n a d gp, e = .returned (.tuple #[.agg (hm9 kd u n a d gp), .int .i64 0, .int .i64 0, .int .i64 R.1])) ∨
   R.1 = 0 ∧ e = .returned (.tuple #[.agg (hm9 kd R.2.1 R.2.2.1 R.2.2.2.1 R.2.2.2.2.1 R.2.2.2.2.2.1), .int .i64 R.2.2.2.2.2.2.1, .int .i64 R.2.2.2.2.2.2.2, .int .i64 0]))
theorem res39 (tmps : Array Value) (g : Nat) (kd u n a d gp F W E : Int) (w : World) (h2 : tmps[2]?.getD undef = .pointer (some ⟨g, 0, none⟩)) (h3 : tmps[3]?.getD undef = .int .i64 F) (h4 : tmps[4]?.getD undef = .int .i64 W) (h5 : tmps[5]?.getD undef = .int .i64 E)
    (hm : w.heap[g]? = some (.cells (hm9 kd u n a d gp) 37 (0, 0))) :
    (results Try.f39 tmps).run Try.prog w = .ok (.tuple #[.agg (hm9 kd u n a d gp), .int .i64 F, .int .i64 W, .int .i64 E]) w := by
  have m0 := qb hm 0
  have m1 := qb hm 1
  have m2 := qb hm 2
  have m3 := qb hm 3
  have m4 := qb hm 4
  have m5 := qb hm 5
  have m6 := qb hm 6
  have m7 := qb hm 7
  have m8 := qb hm 8
  clear hm
  simp [results, Try.results39, go_sem, h2, h3, h4, h5, m0, m1, m2, m3, m4, m5, m6, m7, m8]
theorem hexit (R : Int × Int × Int × Int × Int × Int × Int × Int) (kd : Int) (w : World) (tmps : Array Value) (g : Nat) (W : World) (u n a d gp : Int) {E : Int} (hm : W.heap[g]? = some (.cells zi 37 (0, 0))) (h2 : tmps[2]?.getD undef = .pointer (some ⟨g, 0, none⟩)) (h3 : tmps[3]?.getD undef = .int .i64 0) (h4 : tmps[4]?.getD undef = .int .i64 0) (h5 : tmps[5]?.getD undef = .int .i64 E)
    (hb : Below w.heap.size w W) (hg : w.heap.size ≤ g) (e : R.1 = E ∧ E ≠ 0) : bodyPost Try.prog Try.f39 (HeadsP R kd w) Exit.ret { tmps := tmps, defers := [] } (W.setRow g (hm9 kd u n a d gp)) := by
  refine bodyPost_ret (res39 tmps g kd u n a d gp 0 0 E _ h2 h3 h4 h5 (setRow_heap _ _ _ _ _ _ hm)) rfl ?_
  exact ⟨jr hb hg _, Or.inl ⟨by rw [e.1]; exact e.2, u, n, a, d, gp, by rw [e.1]⟩⟩
theorem JJ {TH TM TA : Option (List Int)} {E : Int} (h : (j3 TH).1 = E) (hE : E ≠ 0) : (jA TH TM TA).1 = E ∧ E ≠ 0 := by
  unfold jA
  rw [if_pos (by rw [h]; exact hE)]
  exact ⟨h, hE⟩
theorem ZU {TH TM TA : Option (List Int)} {E : Int} (h0 : (j3 TH).1 = 0) (h : (jF TM).1 = E) (hE : E ≠ 0) : (jA TH TM TA).1 = E ∧ E ≠ 0 := by
  unfold jA
  rw [if_neg (by rw [h0]; exact fun z => z rfl), if_pos (by rw [h]; exact hE)]
  exact ⟨h, hE⟩
theorem JD {TH TM TA : Option (List Int)} {E : Int} (h0 : (j3 TH).1 = 0) (h1 : (jF TM).1 = 0) (h : (jW (jF TM).2 TA).1 = E) (hE : E ≠ 0) : (jA TH TM TA).1 = E ∧ E ≠ 0 := by
  unfold jA
  rw [if_neg (by rw [h0]; exact fun z => z rfl), if_neg (by rw [h1]; exact fun z => z rfl), if_pos (by rw [h]; exact hE)]
  exact ⟨h, hE⟩
theorem tbl_none {bs : List Int} {kd : Int} {rows : List S71} {A1 : Option Addr} {c1 : Nat} {A2 : Option Addr} {c2 : Nat} {tag : ByteArray} {n : Int} {w0 w : World} (h1 : Kd.C k71 w A1 rows.length rows) (l1 : rows.length ≤ c1) (h2 : Kd.C (Kd.int .u8) w0 A2 bs.length bs) (l2 : bs.length ≤ c2) (hl : bs.length ≤ 1099511627776) (hok : QP bs rows) (hT : zl bs tag n rows = none) :
    Calls Try.prog 40 #[.agg (zA kd A1 rows.length c1 A2 bs.length c2), .string tag, .int .i64 n] w fun e w' => ∃ A m c, e = .returned (.tuple #[.slice A m c, .bool false]) ∧ Below w.heap.size w w' := by
  refine (tbl bs kd rows A1 c1 A2 c2 tag n w0 w h1 l1 h2 l2 hl hok).mono ?_
  rintro e w' ⟨A, c, h3, _, _, h4⟩
  have hf : ((QY bs tag rows).2 && decide (n ≤ ((QY bs tag rows).1.length : Int))) = false := by
    unfold zl at hT
    unfold QY
    cases hv : Qb bs tag rows with
    | none => rfl
    | some L =>
      rw [hv] at hT
      dsimp only at hT
      split at hT
      · cases hT
      · rename_i hn
        show (true && decide (n ≤ (L.length : Int))) = false
        rw [decide_eq_false hn]
        rfl
  rw [hf] at h3
  exact ⟨A, _, c, h3, h4⟩
theorem tbl_some {bs : List Int} {kd : Int} {rows : List S71} {A1 : Option Addr} {c1 : Nat} {A2 : Option Addr} {c2 : Nat} {tag : ByteArray} {n : Int} {w0 w : World} {L : List Int} (h1 : Kd.C k71 w A1 rows.length rows) (l1 : rows.length ≤ c1) (h2 : Kd.C (Kd.int .u8) w0 A2 bs.length bs) (l2 : bs.length ≤ c2) (hl : bs.length ≤ 1099511627776) (hok : QP bs rows) (hT : zl bs tag n rows = some L) :
    Calls Try.prog 40 #[.agg (zA kd A1 rows.length c1 A2 bs.length c2), .string tag, .int .i64 n] w fun e w' => ∃ A c, e = .returned (.tuple #[.slice A L.length c, .bool true]) ∧ L.length ≤ c ∧ (∀ W, Below w0.heap.size w0 W → Kd.C (Kd.int .u8) W A L.length L) ∧ Below w.heap.size w w' := by
  refine (tbl bs kd rows A1 c1 A2 c2 tag n w0 w h1 l1 h2 l2 hl hok).mono ?_
  rintro e w' ⟨A, c, h3, h5, h6, h4⟩
  have hf : QY bs tag rows = (L, true) ∧ n ≤ (L.length : Int) := by
    unfold zl at hT
    unfold QY
    cases hv : Qb bs tag rows with
    | none => rw [hv] at hT; cases hT
    | some M =>
      rw [hv] at hT
      dsimp only at hT
      split at hT
      · injection hT with hT
        subst hT
        exact ⟨rfl, by assumption⟩
      · cases hT
  rw [hf.1] at h3 h5 h6
  rw [show (((L, true) : List Int × Bool).2 && decide (n ≤ (((L, true) : List Int × Bool).1.length : Int))) = true by rw [decide_eq_true hf.2]; rfl] at h3
  exact ⟨A, c, h3, h5, h6, h4⟩
theorem tab_short {bs : List Int} {tag : ByteArray} : ∀ (rows : List S71) {L : List Int}, Qb bs tag rows = some L → L.length ≤ bs.length
  | [], _, h => by cases h
  | t :: r, L, h => by
    rw [Qb] at h
    split at h
    · split at h
      · injection h with h
        rw [← h]
        exact (ZA bs t.f1 t.f2).2
      · cases h
    · exact tab_short r h
theorem JP {bs : List Int} {tag : ByteArray} {n : Int} {rows : List S71} {L : List Int} (h : zl bs tag n rows = some L) : L.length ≤ bs.length := by
  unfold zl at h
  cases hv : Qb bs tag rows with
  | none => rw [hv] at h; cases h
  | some M =>
    rw [hv] at h
    dsimp only at h
    split at h
    · injection h with h
      rw [← h]
      exact tab_short rows hv
    · cases h
theorem two_new (w : World) (o1 o2 : Obj) : ∃ X g1 g2, X = (w.alloc o1).alloc o2 ∧ w.heap.size + 1 = g2 ∧ w.heap.size = g1 ∧ X.heap[g1]? = some o1 ∧ X.heap[g2]? = some o2 ∧ Below w.heap.size w X :=
  ⟨_, _, _, rfl, rfl, rfl, zn (zk _ _) _, by rw [← QI w o1]; exact zk _ _, qF (qF (Below.refl _ _) _) _⟩
set_option maxRecDepth 100000 in
set_option maxHeartbeats 8000000 in
theorem headsr (bs : List Int) (ho : okB bs) (kd : Int) (rows : List S71) (A1 : Option Addr) (c1 : Nat) (A2 : Option Addr) (c2 : Nat) (w : World) (h1 : Kd.C k71 w A1 rows.length rows) (l1 : rows.length ≤ c1) (h2 : Kd.C (Kd.int .u8) w A2 bs.length bs) (l2 : bs.length ≤ c2) (hl : bs.length ≤ 1099511627776) (hok : QP bs rows) :
    Calls Try.prog 39 #[.agg (zA kd A1 rows.length c1 A2 bs.length c2)] w (HeadsP (jA (zl bs ⟨#[104, 101, 97, 100]⟩ 54 rows) (zl bs ⟨#[109, 97, 120, 112]⟩ 6 rows) (zl bs ⟨#[104, 104, 101, 97]⟩ 36 rows)) kd w) := by
  have TN := qa.mk (fun (tag : ByteArray) (n : Int) (W : World) (h : Below w.heap.size w W) (hT : zl bs tag n rows = none) => tbl_none (kd := kd) (Kd.qO h1 h) l1 h2 l2 hl hok hT)
  have TS := qa.mk (fun (tag : ByteArray) (n : Int) (W : World) (L : List Int) (h : Below w.heap.size w W) (hT : zl bs tag n rows = some L) => tbl_some (kd := kd) (Kd.qO h1 h) l1 h2 l2 hl hok hT)
  have OKT := qa.mk (fun (tag : ByteArray) (n : Int) (L : List Int) (h : zl bs tag n rows = some L) => (⟨(QE ho h).1, Nat.le_trans (JP h) hl⟩ : okB L ∧ L.length ≤ 1099511627776))
  obtain ⟨TH, hTH⟩ : ∃ T, zl bs ⟨#[104, 101, 97, 100]⟩ 54 rows = T := ⟨_, rfl⟩
  obtain ⟨TM, hTM⟩ : ∃ T, zl bs ⟨#[109, 97, 120, 112]⟩ 6 rows = T := ⟨_, rfl⟩
  obtain ⟨TA, hTA⟩ : ∃ T, zl bs ⟨#[104, 104, 101, 97]⟩ 36 rows = T := ⟨_, rfl⟩
  rw [hTH, hTM, hTA]
  have HTH := qa.mk hTH
  have HTM := qa.mk hTM
  have HTA := qa.mk hTA
  obtain ⟨R, hR⟩ : ∃ R, jA TH TM TA = R := ⟨_, rfl⟩
  rw [hR]
  have HR := qa.mk hR
  clear h1 h2 l1 l2 hl hok ho hTH hTM hTA hR
  go_enter Try.func39, Try.ntmps39
  go_upto_region 1 with fail
  obtain ⟨wB, g1, g2, hX, e2, e1, k1, k2, bX⟩ := two_new w (Obj.cells (zA kd A1 rows.length c1 A2 bs.length c2) 28) (Obj.cells zi 37)
  rw [← hX, e2, e1]
  have KF := qa.mk (fun (W : World) (h : Below wB.heap.size wB W) => (h.block _ (qz k1)).trans k1)
  have KZ := qa.mk (fun (W : World) (h : Below wB.heap.size wB W) => (h.block _ (qz k2)).trans k2)
  have BB := qa.mk bX
  have G2 := qa.mk (show w.heap.size ≤ g2 by omega)
  have f0 := qb k1 0
  have MZ := qa.mk (zk wB (Obj.cells zi 37))
  clear hX e2 e1 k1 k2 bX
  go_upto_region 2 with (refine wpList_store_row rfl 37 (.tmp 6) (.tmp 14) rfl wB.heap.size (hm9 kd 0 0 0 0 0) rfl rfl 37 zi MZ.out (by kernel_rfl) rfl (by simp [Value.oneCell']) ?_)
  obtain ⟨w3, g6, hX, e6, k6, b6⟩ := Zi wB (hm9 kd 0 0 0 0 0)
  rw [← hX, e6]
  have G6 := qa.mk (show wB.heap.size ≤ g6 by omega)
  have K6 := qa.mk k6
  have D3 := qa.mk b6
  clear hX e6 k6 b6 MZ f0
  have f0 := qb (KF.out _ D3.out) 0
  have f1 := qb (KF.out _ D3.out) 1
  have f2 := qb (KF.out _ D3.out) 2
  cases TH with
  | none =>
    have E := qa.mk (show R.1 = 41 ∧ (41 : Int) ≠ 0 by rw [← HR.out]; exact ⟨rfl, by decide⟩)
    go_upto_region 3 with (go_at_call 40; refine (TN.out _ _ w3 (qc BB.out D3.out) HTH.out).mono ?_; rintro e w4 ⟨A, m, c, rfl, h1⟩; have D4 := qa.mk (qc D3.out h1); have K7 := qa.mk ((h1.block _ (qz K6.out)).trans K6.out); clear h1)
    clear f0 f1 f2
    have KY := qa.mk (KZ.out _ D4.out)
    have c0 := qb K7.out 0
    have c1 := qb K7.out 1
    have c2 := qb K7.out 2
    have c3 := qb K7.out 3
    have c4 := qb K7.out 4
    have c5 := qb K7.out 5
    have c6 := qb K7.out 6
    have c7 := qb K7.out 7
    have c8 := qb K7.out 8
    go_wp2_with (refine wpList_store_row rfl 37 (.tmp 2) (.tmp 27) rfl g2 (hm9 kd 0 0 0 0 0) rfl rfl 37 zi KY.out (by kernel_rfl) rfl (by simp [Value.oneCell']) ?_)
    exact hexit _ kd w _ g2 _ 0 0 0 0 0 KY.out rfl rfl rfl rfl (qc BB.out D4.out) G2.out E.out
  | some L =>
  have OL := qa.mk (OKT.out _ _ L HTH.out)
  go_upto_region 3 with (go_at_call 40; refine (TS.out _ _ w3 L (qc BB.out D3.out) HTH.out).mono ?_; rintro e w4 ⟨A, c, rfl, h2, h3, h1⟩; have LC := qa.mk h2; have CL := qa.mk h3; have D4 := qa.mk (qc D3.out h1); have K7 := qa.mk ((h1.block _ (qz K6.out)).trans K6.out); clear h1 h2 h3)
  clear f0 f1 f2 K6 D3 HTH
  have U32 := qa.mk (fun (p : Int) (W : World) (h : Below w.heap.size w W) => u32r L OL.out.1 A c p W (CL.out W h) LC.out OL.out.2)
  have U16 := qa.mk (fun (p : Int) (W : World) (h : Below w.heap.size w W) => u16r L OL.out.1 A c p W (CL.out W h) LC.out OL.out.2)
  have U16B := qa.mk (fun (p : Int) => (show 0 ≤ (qI L p 2).1 from (show 0 ≤ (qI L p 2).1 ∧ (qI L p 2).1 < 256 ^ 2 from jX L OL.out.1 p 2 (by decide)).1))
  clear LC CL
  obtain ⟨x, hx⟩ : ∃ x, (qI L 12 4).1 = x := ⟨_, rfl⟩
  obtain ⟨u, hu⟩ : ∃ x, (qI L 18 2).1 = x := ⟨_, rfl⟩
  obtain ⟨f, hf⟩ : ∃ x, (qI L 50 2).1 = x := ⟨_, rfl⟩
  obtain ⟨v, hv⟩ : ∃ x, (qI L 52 2).1 = x := ⟨_, rfl⟩
  have HV : j3 (some L) = (if x ≠ 1594834165 then (41, 0, 0) else if u < 16 then (41, 0, 0) else if 16384 < u then (41, 0, 0) else if 2 ≤ f then (41, 0, 0) else if v ≠ 0 then (42, 0, 0) else (0, u, f)) := by
    rw [← hx, ← hu, ← hf, ← hv]
    rfl
  have X := qa.mk hx
  have UU := qa.mk hu
  have FF := qa.mk hf
  have VV := qa.mk hv
  clear hx hu hf hv
  by_cases cx : x ≠ 1594834165
  · rw [if_pos cx] at HV
    have E := qa.mk (show R.1 = 41 ∧ (41 : Int) ≠ 0 by rw [← HR.out]; exact JJ (by rw [HV]) (by decide))
    have x1 := eq_false cx
    have x2 : (x == 1594834165) = false := beq_eq_false_iff_ne.2 cx
    have x3 : (x != 1594834165) = true := bne_iff_ne.2 cx
    clear cx HV
    go_upto_region 4 with (go_at_call 33; refine (U32.out 12 w4 (qc BB.out D4.out)).mono ?_; rintro e w5 ⟨rfl, h1⟩; rw [X.out]; have D5 := qa.mk (qc D4.out h1); have K8 := qa.mk ((h1.block _ (qz K7.out)).trans K7.out); clear h1)
    have KY := qa.mk (KZ.out _ D5.out)
    have c0 := qb K8.out 0
    have c1 := qb K8.out 1
    have c2 := qb K8.out 2
    have c3 := qb K8.out 3
    have c4 := qb K8.out 4
    have c5 := qb K8.out 5
    have c6 := qb K8.out 6
    have c7 := qb K8.out 7
    have c8 := qb K8.out 8
    go_wp2_with (refine wpList_store_row rfl 37 (.tmp 2) (.tmp 27) rfl g2 (hm9 kd 0 0 0 0 0) rfl rfl 37 zi KY.out (by kernel_rfl) rfl (by simp [Value.oneCell']) ?_)
    exact hexit _ kd w _ g2 _ 0 0 0 0 0 KY.out rfl rfl rfl rfl (qc BB.out D5.out) G2.out E.out
  rw [if_neg cx] at HV
  have x1 : x = 1594834165 := Classical.byContradiction cx
  clear cx
  subst x1
  have q1 := qb K7.out 1
  go_upto_region 5 with (go_at_call 33; refine (U32.out 12 w4 (qc BB.out D4.out)).mono ?_; rintro e w5 ⟨rfl, h1⟩; rw [X.out]; have D5 := qa.mk (qc D4.out h1); have K8 := qa.mk ((h1.block _ (qz K7.out)).trans K7.out); clear h1)
  clear q1 K7 D4 X
  go_upto_region 6 with (go_at_call 32; refine (U16.out 18 w5 (qc BB.out D5.out)).mono ?_; rintro e w6 ⟨rfl, h1⟩; rw [UU.out]; have D6 := qa.mk (qc D5.out h1); have K9 := qa.mk ((h1.block _ (qz K8.out)).trans K8.out); have q1 := qb ((h1.block _ (qz K8.out)).trans K8.out) 1; have qf := qd ((h1.block _ (qz K8.out)).trans K8.out) 1; clear h1)
  obtain ⟨w7, hX, K10, D7⟩ : ∃ X, X = w6.setCell ⟨g6, 1, none⟩ (.int .i64 u) ∧ qa (X.heap[g6]? = some (Obj.cells (hm9 kd u 0 0 0 0) 37 (0, 0))) ∧ qa (Below wB.heap.size wB X) := ⟨_, rfl, ⟨qR K9.out 1 _ rfl⟩, ⟨qA D6.out G6.out⟩⟩
  rw [← hX]
  clear hX q1 qf K9 D6 K8 D5
  go_upto_region 7 with (go_at_call 32; refine (U16.out 50 w7 (qc BB.out D7.out)).mono ?_; rintro e w8 ⟨rfl, h1⟩; rw [FF.out]; have D8 := qa.mk (qc D7.out h1); have K11 := qa.mk ((h1.block _ (qz K10.out)).trans K10.out); clear h1)
  clear K10 D7
  have q1 := qb K11.out 1
  by_cases c1 : u < 16 ∨ 16384 < u ∨ 2 ≤ f
  · have E := qa.mk (show R.1 = 41 ∧ (41 : Int) ≠ 0 by
      rw [← HR.out]
      refine JJ ?_ (by decide)
      rw [HV]
      by_cases a1 : u < 16
      · rw [if_pos a1]
      · rw [if_neg a1]
        by_cases a2 : 16384 < u
        · rw [if_pos a2]
        · rw [if_neg a2, if_pos (by omega)])
    clear HV
    have KQ := qa.mk K11.out
    by_cases a1 : u < 16
    · clear c1
      have KY := qa.mk (KZ.out _ D8.out)
      have c0 := qb K11.out 0
      have c1 := qb K11.out 1
      have c2 := qb K11.out 2
      have c3 := qb K11.out 3
      have c4 := qb K11.out 4
      have c5 := qb K11.out 5
      have c6 := qb K11.out 6
      have c7 := qb K11.out 7
      have c8 := qb K11.out 8
      go_wp2_with (refine wpList_store_row rfl 37 (.tmp 2) (.tmp 45) rfl g2 (hm9 kd u 0 0 0 0) rfl rfl 37 zi KY.out (by kernel_rfl) rfl (by simp [Value.oneCell']) ?_)
      exact hexit _ kd w _ g2 _ u 0 0 0 0 KY.out rfl rfl rfl rfl (qc BB.out D8.out) G2.out E.out
    have z1 := eq_false a1
    by_cases a2 : 16384 < u
    · have z2 := eq_true a2
      clear c1 a1
      have KY := qa.mk (KZ.out _ D8.out)
      have c0 := qb K11.out 0
      have c1 := qb K11.out 1
      have c2 := qb K11.out 2
      have c3 := qb K11.out 3
      have c4 := qb K11.out 4
      have c5 := qb K11.out 5
      have c6 := qb K11.out 6
      have c7 := qb K11.out 7
      have c8 := qb K11.out 8
      go_wp2_with (refine wpList_store_row rfl 37 (.tmp 2) (.tmp 45) rfl g2 (hm9 kd u 0 0 0 0) rfl rfl 37 zi KY.out (by kernel_rfl) rfl (by simp [Value.oneCell']) ?_)
      exact hexit _ kd w _ g2 _ u 0 0 0 0 KY.out rfl rfl rfl rfl (qc BB.out D8.out) G2.out E.out
    have z2 := eq_false a2
    have a3 : 1 < f := by omega
    have z3 := eq_true a3
    clear c1 a1 a2
    have KY := qa.mk (KZ.out _ D8.out)
    have c0 := qb K11.out 0
    have c1 := qb K11.out 1
    have c2 := qb K11.out 2
    have c3 := qb K11.out 3
    have c4 := qb K11.out 4
    have c5 := qb K11.out 5
    have c6 := qb K11.out 6
    have c7 := qb K11.out 7
    have c8 := qb K11.out 8
    go_wp2_with (refine wpList_store_row rfl 37 (.tmp 2) (.tmp 45) rfl g2 (hm9 kd u 0 0 0 0) rfl rfl 37 zi KY.out (by kernel_rfl) rfl (by simp [Value.oneCell']) ?_)
    exact hexit _ kd w _ g2 _ u 0 0 0 0 KY.out rfl rfl rfl rfl (qc BB.out D8.out) G2.out E.out
  have a1 : ¬ u < 16 := fun z => c1 (Or.inl z)
  have a2 : ¬ 16384 < u := fun z => c1 (Or.inr (Or.inl z))
  have a3 : ¬ 2 ≤ f := fun z => c1 (Or.inr (Or.inr z))
  have z1 := eq_false a1
  have z2 := eq_false a2
  have z3 := eq_false (show ¬ 1 < f by omega)
  rw [if_neg a1, if_neg a2, if_neg a3] at HV
  clear a1 a2 a3 c1
  go_upto_region 9 with fail
  clear z1 z2 z3 q1
  by_cases cv : v ≠ 0
  · rw [if_pos cv] at HV
    have E := qa.mk (show R.1 = 42 ∧ (42 : Int) ≠ 0 by rw [← HR.out]; exact JJ (by rw [HV]) (by decide))
    have z1 := eq_false cv
    have z2 : (v == 0) = false := beq_eq_false_iff_ne.2 cv
    have z3 : (v != 0) = true := bne_iff_ne.2 cv
    clear HV cv
    go_upto_region 10 with (go_at_call 32; refine (U16.out 52 w8 (qc BB.out D8.out)).mono ?_; rintro e w9 ⟨rfl, h1⟩; rw [VV.out]; have D9 := qa.mk (qc D8.out h1); have K12 := qa.mk ((h1.block _ (qz K11.out)).trans K11.out); clear h1)
    have KY := qa.mk (KZ.out _ D9.out)
    have c0 := qb K12.out 0
    have c1 := qb K12.out 1
    have c2 := qb K12.out 2
    have c3 := qb K12.out 3
    have c4 := qb K12.out 4
    have c5 := qb K12.out 5
    have c6 := qb K12.out 6
    have c7 := qb K12.out 7
    have c8 := qb K12.out 8
    go_wp2_with (refine wpList_store_row rfl 37 (.tmp 2) (.tmp 49) rfl g2 (hm9 kd u 0 0 0 0) rfl rfl 37 zi KY.out (by kernel_rfl) rfl (by simp [Value.oneCell']) ?_)
    exact hexit _ kd w _ g2 _ u 0 0 0 0 KY.out rfl rfl rfl rfl (qc BB.out D9.out) G2.out E.out
  rw [if_neg cv] at HV
  have cv2 : v = 0 := Classical.byContradiction cv
  clear cv
  subst cv2
  go_upto_region 11 with (go_at_call 32; refine (U16.out 52 w8 (qc BB.out D8.out)).mono ?_; rintro e w9 ⟨rfl, h1⟩; rw [VV.out]; have D9 := qa.mk (qc D8.out h1); have K12 := qa.mk ((h1.block _ (qz K11.out)).trans K11.out); clear h1)
  clear D8 K11 VV FF UU U32 U16 U16B OL
  have H0 := qa.mk HV
  clear HV
  have f0 := qb (KF.out _ D9.out) 0
  have f1 := qb (KF.out _ D9.out) 1
  have f2 := qb (KF.out _ D9.out) 2
  cases TM with
  | none =>
    have E := qa.mk (show R.1 = 41 ∧ (41 : Int) ≠ 0 by rw [← HR.out]; exact ZU (by rw [H0.out]) rfl (by decide))
    go_upto_region 12 with (go_at_call 40; refine (TN.out _ _ w9 (qc BB.out D9.out) HTM.out).mono ?_; rintro e w10 ⟨A', m', c', rfl, h1⟩; have D10 := qa.mk (qc D9.out h1); have K13 := qa.mk ((h1.block _ (qz K12.out)).trans K12.out); clear h1)
    clear f0 f1 f2
    have KY := qa.mk (KZ.out _ D10.out)
    have c0 := qb K13.out 0
    have c1 := qb K13.out 1
    have c2 := qb K13.out 2
    have c3 := qb K13.out 3
    have c4 := qb K13.out 4
    have c5 := qb K13.out 5
    have c6 := qb K13.out 6
    have c7 := qb K13.out 7
    have c8 := qb K13.out 8
    go_wp2_with (refine wpList_store_row rfl 37 (.tmp 2) (.tmp 57) rfl g2 (hm9 kd u 0 0 0 0) rfl rfl 37 zi KY.out (by kernel_rfl) rfl (by simp [Value.oneCell']) ?_)
    exact hexit _ kd w _ g2 _ u 0 0 0 0 KY.out rfl rfl rfl rfl (qc BB.out D10.out) G2.out E.out
  | some LM =>
  have OL := qa.mk (OKT.out _ _ LM HTM.out)
  go_upto_region 12 with (go_at_call 40; refine (TS.out _ _ w9 LM (qc BB.out D9.out) HTM.out).mono ?_; rintro e w10 ⟨A', c', rfl, h2, h3, h1⟩; have LC := qa.mk h2; have CL := qa.mk h3; have D10 := qa.mk (qc D9.out h1); have K13 := qa.mk ((h1.block _ (qz K12.out)).trans K12.out); clear h1 h2 h3)
  clear f0 f1 f2 K12 D9 HTM
  have U32 := qa.mk (fun (p : Int) (W : World) (h : Below w.heap.size w W) => u32r LM OL.out.1 A' c' p W (CL.out W h) LC.out OL.out.2)
  have U16 := qa.mk (fun (p : Int) (W : World) (h : Below w.heap.size w W) => u16r LM OL.out.1 A' c' p W (CL.out W h) LC.out OL.out.2)
  have NB0 : 0 ≤ (qI LM 4 2).1 := (show 0 ≤ (qI LM 4 2).1 ∧ (qI LM 4 2).1 < 256 ^ 2 from jX LM OL.out.1 4 2 (by decide)).1
  clear LC CL OL
  obtain ⟨x, hx⟩ : ∃ x, (qI LM 0 4).1 = x := ⟨_, rfl⟩
  obtain ⟨n, hn⟩ : ∃ x, (qI LM 4 2).1 = x := ⟨_, rfl⟩
  have HV : jF (some LM) = (if x = 20480 ∨ x = 65536 then (if n < 1 then (41, 0) else if 4096 < n then (43, 0) else (0, n)) else (42, 0)) := by
    rw [← hx, ← hn]
    rfl
  have X := qa.mk hx
  have NN := qa.mk hn
  rw [hn] at NB0
  have NB := qa.mk NB0
  clear hx hn NB0
  by_cases cx : x = 20480 ∨ x = 65536
  rotate_left
  · rw [if_neg cx] at HV
    have E := qa.mk (show R.1 = 42 ∧ (42 : Int) ≠ 0 by rw [← HR.out]; exact ZU (by rw [H0.out]) (by rw [HV]) (by decide))
    have c1 : x ≠ 20480 := fun z => cx (Or.inl z)
    have c2 : x ≠ 65536 := fun z => cx (Or.inr z)
    have x1 := eq_false c1
    have x2 := eq_false c2
    have x3 : (x != 20480) = true := bne_iff_ne.2 c1
    have x4 : (x != 65536) = true := bne_iff_ne.2 c2
    clear cx HV c1 c2
    go_upto_region 15 with (go_at_call 33; refine (U32.out 0 w10 (qc BB.out D10.out)).mono ?_; rintro e w11 ⟨rfl, h1⟩; rw [X.out]; have D11 := qa.mk (qc D10.out h1); have K14 := qa.mk ((h1.block _ (qz K13.out)).trans K13.out); clear h1)
    have KY := qa.mk (KZ.out _ D11.out)
    have c0 := qb K14.out 0
    have c1 := qb K14.out 1
    have c2 := qb K14.out 2
    have c3 := qb K14.out 3
    have c4 := qb K14.out 4
    have c5 := qb K14.out 5
    have c6 := qb K14.out 6
    have c7 := qb K14.out 7
    have c8 := qb K14.out 8
    go_wp2_with (refine wpList_store_row rfl 37 (.tmp 2) (.tmp 66) rfl g2 (hm9 kd u 0 0 0 0) rfl rfl 37 zi KY.out (by kernel_rfl) rfl (by simp [Value.oneCell']) ?_)
    exact hexit _ kd w _ g2 _ u 0 0 0 0 KY.out rfl rfl rfl rfl (qc BB.out D11.out) G2.out E.out
  rw [if_pos cx] at HV
  go_upto_region 15 with (go_at_call 33; refine (U32.out 0 w10 (qc BB.out D10.out)).mono ?_; rintro e w11 ⟨rfl, h1⟩; rw [X.out]; have D11 := qa.mk (qc D10.out h1); have K14 := qa.mk ((h1.block _ (qz K13.out)).trans K13.out); clear h1)
  clear X K13 D10
  rcases cx with rfl | rfl
  all_goals (go_upto_region 17 with fail)
  all_goals (go_upto_region 18 with (go_at_call 32; refine (U16.out 4 w11 (qc BB.out D11.out)).mono ?_; rintro e w12 ⟨rfl, h1⟩; rw [NN.out]; have D12 := qa.mk (qc D11.out h1); have K15 := qa.mk ((h1.block _ (qz K14.out)).trans K14.out); have q1 := qb ((h1.block _ (qz K14.out)).trans K14.out) 2; have qf := qd ((h1.block _ (qz K14.out)).trans K14.out) 2; clear h1))
  all_goals (
    obtain ⟨w13, hX, K16, D13⟩ : ∃ X, X = w12.setCell ⟨g6, 2, none⟩ (.int .i64 n) ∧ qa (X.heap[g6]? = some (Obj.cells (hm9 kd u n 0 0 0) 37 (0, 0))) ∧ qa (Below wB.heap.size wB X) := ⟨_, rfl, ⟨qR K15.out 2 _ rfl⟩, ⟨qA D12.out G6.out⟩⟩
    rw [← hX]
    clear hX q1 qf K15 D12 K14 D11 NN U32 U16
    have q2 := qb K16.out 2
    by_cases c1 : n < 1
    · rw [if_pos c1] at HV
      have E := qa.mk (show R.1 = 41 ∧ (41 : Int) ≠ 0 by rw [← HR.out]; exact ZU (by rw [H0.out]) (by rw [HV]) (by decide))
      have n0 : n = 0 := by have := NB.out; omega
      have n1 : (n == 0) = true := beq_iff_eq.2 n0
      clear HV c1 n0
      have KY := qa.mk (KZ.out _ D13.out)
      have c0 := qb K16.out 0
      have c1 := qb K16.out 1
      have c2 := qb K16.out 2
      have c3 := qb K16.out 3
      have c4 := qb K16.out 4
      have c5 := qb K16.out 5
      have c6 := qb K16.out 6
      have c7 := qb K16.out 7
      have c8 := qb K16.out 8
      go_wp2_with (refine wpList_store_row rfl 37 (.tmp 2) (.tmp 73) rfl g2 (hm9 kd u n 0 0 0) rfl rfl 37 zi KY.out (by kernel_rfl) rfl (by simp [Value.oneCell']) ?_)
      exact hexit _ kd w _ g2 _ u n 0 0 0 KY.out rfl rfl rfl rfl (qc BB.out D13.out) G2.out E.out
    rw [if_neg c1] at HV
    have n0 : n ≠ 0 := by omega
    have n1 : (n == 0) = false := beq_eq_false_iff_ne.2 n0
    have n2 := eq_false n0
    clear n0
    by_cases c2 : 4096 < n
    · rw [if_pos c2] at HV
      have E := qa.mk (show R.1 = 43 ∧ (43 : Int) ≠ 0 by rw [← HR.out]; exact ZU (by rw [H0.out]) (by rw [HV]) (by decide))
      have n3 := eq_true c2
      clear HV c1 c2
      have KY := qa.mk (KZ.out _ D13.out)
      have c0 := qb K16.out 0
      have c1 := qb K16.out 1
      have c2 := qb K16.out 2
      have c3 := qb K16.out 3
      have c4 := qb K16.out 4
      have c5 := qb K16.out 5
      have c6 := qb K16.out 6
      have c7 := qb K16.out 7
      have c8 := qb K16.out 8
      go_wp2_with (refine wpList_store_row rfl 37 (.tmp 2) (.tmp 77) rfl g2 (hm9 kd u n 0 0 0) rfl rfl 37 zi KY.out (by kernel_rfl) rfl (by simp [Value.oneCell']) ?_)
      exact hexit _ kd w _ g2 _ u n 0 0 0 KY.out rfl rfl rfl rfl (qc BB.out D13.out) G2.out E.out
    rw [if_neg c2] at HV
    have n3 := eq_false c2
    have M0 := qa.mk HV
    clear HV c1 c2
    go_upto_region 22 with fail
    clear q2 n1 n2 n3
    have f0 := qb (KF.out _ D13.out) 0
    have f1 := qb (KF.out _ D13.out) 1
    have f2 := qb (KF.out _ D13.out) 2
    cases TA with
    | none =>
      have E := qa.mk (show R.1 = 41 ∧ (41 : Int) ≠ 0 by rw [← HR.out]; exact JD (by rw [H0.out]) (by rw [M0.out]) rfl (by decide))
      go_upto_region 23 with (go_at_call 40; refine (TN.out _ _ w13 (qc BB.out D13.out) HTA.out).mono ?_; rintro e w14 ⟨A'', m'', c'', rfl, h1⟩; have D14 := qa.mk (qc D13.out h1); have K17 := qa.mk ((h1.block _ (qz K16.out)).trans K16.out); clear h1)
      clear f0 f1 f2
      have KY := qa.mk (KZ.out _ D14.out)
      have c0 := qb K17.out 0
      have c1 := qb K17.out 1
      have c2 := qb K17.out 2
      have c3 := qb K17.out 3
      have c4 := qb K17.out 4
      have c5 := qb K17.out 5
      have c6 := qb K17.out 6
      have c7 := qb K17.out 7
      have c8 := qb K17.out 8
      go_wp2_with (refine wpList_store_row rfl 37 (.tmp 2) (.tmp 85) rfl g2 (hm9 kd u n 0 0 0) rfl rfl 37 zi KY.out (by kernel_rfl) rfl (by simp [Value.oneCell']) ?_)
      exact hexit _ kd w _ g2 _ u n 0 0 0 KY.out rfl rfl rfl rfl (qc BB.out D14.out) G2.out E.out
    | some LA =>
    have OL := qa.mk (OKT.out _ _ LA HTA.out)
    go_upto_region 23 with (go_at_call 40; refine (TS.out _ _ w13 LA (qc BB.out D13.out) HTA.out).mono ?_; rintro e w14 ⟨A'', c'', rfl, h2, h3, h1⟩; have LC := qa.mk h2; have CL := qa.mk h3; have D14 := qa.mk (qc D13.out h1); have K17 := qa.mk ((h1.block _ (qz K16.out)).trans K16.out); clear h1 h2 h3)
    clear f0 f1 f2 K16 D13 HTA
    have I16 := qa.mk (fun (p : Int) (W : World) (h : Below w.heap.size w W) => i16r LA OL.out.1 A'' c'' p W (CL.out W h) LC.out OL.out.2)
    have U16 := qa.mk (fun (p : Int) (W : World) (h : Below w.heap.size w W) => u16r LA OL.out.1 A'' c'' p W (CL.out W h) LC.out OL.out.2)
    clear LC CL OL
    obtain ⟨a, ha⟩ : ∃ x, jK (qI LA 4 2).1 = x := ⟨_, rfl⟩
    obtain ⟨d, hd⟩ : ∃ x, jK (qI LA 6 2).1 = x := ⟨_, rfl⟩
    obtain ⟨gp, hgp⟩ : ∃ x, jK (qI LA 8 2).1 = x := ⟨_, rfl⟩
    obtain ⟨wd, hwd⟩ : ∃ x, (qI LA 34 2).1 = x := ⟨_, rfl⟩
    have HV : jW n (some LA) = (if wd < 1 then (41, 0, 0, 0, 0) else if n < wd then (41, 0, 0, 0, 0) else (0, a, d, gp, wd)) := by
      rw [← ha, ← hd, ← hgp, ← hwd]
      rfl
    have AA := qa.mk ha
    have DDD := qa.mk hd
    have GP := qa.mk hgp
    have WD := qa.mk hwd
    clear ha hd hgp hwd
    go_upto_region 25 with fail
    go_upto_region 26 with (go_at_call 41; refine (I16.out 4 w14 (qc BB.out D14.out)).mono ?_; rintro e w15 ⟨rfl, h1⟩; rw [AA.out]; have D15 := qa.mk (qc D14.out h1); have K18 := qa.mk ((h1.block _ (qz K17.out)).trans K17.out); have q1 := qb ((h1.block _ (qz K17.out)).trans K17.out) 3; have qf := qd ((h1.block _ (qz K17.out)).trans K17.out) 3; clear h1)
    obtain ⟨w16, hX, K19, D16⟩ : ∃ X, X = w15.setCell ⟨g6, 3, none⟩ (.int .i64 a) ∧ qa (X.heap[g6]? = some (Obj.cells (hm9 kd u n a 0 0) 37 (0, 0))) ∧ qa (Below wB.heap.size wB X) := ⟨_, rfl, ⟨qR K18.out 3 _ rfl⟩, ⟨qA D15.out G6.out⟩⟩
    rw [← hX]
    clear hX q1 qf K18 D15 K17 D14 AA
    go_upto_region 27 with (go_at_call 41; refine (I16.out 6 w16 (qc BB.out D16.out)).mono ?_; rintro e w17 ⟨rfl, h1⟩; rw [DDD.out]; have D17 := qa.mk (qc D16.out h1); have K20 := qa.mk ((h1.block _ (qz K19.out)).trans K19.out); have q1 := qb ((h1.block _ (qz K19.out)).trans K19.out) 4; have qf := qd ((h1.block _ (qz K19.out)).trans K19.out) 4; clear h1)
    obtain ⟨w18, hX, K21, D18⟩ : ∃ X, X = w17.setCell ⟨g6, 4, none⟩ (.int .i64 d) ∧ qa (X.heap[g6]? = some (Obj.cells (hm9 kd u n a d 0) 37 (0, 0))) ∧ qa (Below wB.heap.size wB X) := ⟨_, rfl, ⟨qR K20.out 4 _ rfl⟩, ⟨qA D17.out G6.out⟩⟩
    rw [← hX]
    clear hX q1 qf K20 D17 K19 D16 DDD
    go_upto_region 28 with (go_at_call 41; refine (I16.out 8 w18 (qc BB.out D18.out)).mono ?_; rintro e w19 ⟨rfl, h1⟩; rw [GP.out]; have D19 := qa.mk (qc D18.out h1); have K22 := qa.mk ((h1.block _ (qz K21.out)).trans K21.out); have q1 := qb ((h1.block _ (qz K21.out)).trans K21.out) 5; have qf := qd ((h1.block _ (qz K21.out)).trans K21.out) 5; clear h1)
    obtain ⟨w20, hX, K23, D20⟩ : ∃ X, X = w19.setCell ⟨g6, 5, none⟩ (.int .i64 gp) ∧ qa (X.heap[g6]? = some (Obj.cells (hm9 kd u n a d gp) 37 (0, 0))) ∧ qa (Below wB.heap.size wB X) := ⟨_, rfl, ⟨qR K22.out 5 _ rfl⟩, ⟨qA D19.out G6.out⟩⟩
    rw [← hX]
    clear hX q1 qf K22 D19 K21 D18 GP
    go_upto_region 29 with (go_at_call 32; refine (U16.out 34 w20 (qc BB.out D20.out)).mono ?_; rintro e w21 ⟨rfl, h1⟩; rw [WD.out]; have D21 := qa.mk (qc D20.out h1); have K24 := qa.mk ((h1.block _ (qz K23.out)).trans K23.out); clear h1)
    clear K23 D20 WD I16 U16
    have q2 := qb K24.out 2
    by_cases c1 : wd < 1
    · rw [if_pos c1] at HV
      have E := qa.mk (show R.1 = 41 ∧ (41 : Int) ≠ 0 by rw [← HR.out]; exact JD (by rw [H0.out]) (by rw [M0.out]) (by rw [M0.out]; dsimp only; rw [HV]) (by decide))
      clear HV
      have KY := qa.mk (KZ.out _ D21.out)
      have c0 := qb K24.out 0
      have c1 := qb K24.out 1
      have c2 := qb K24.out 2
      have c3 := qb K24.out 3
      have c4 := qb K24.out 4
      have c5 := qb K24.out 5
      have c6 := qb K24.out 6
      have c7 := qb K24.out 7
      have c8 := qb K24.out 8
      go_wp2_with (refine wpList_store_row rfl 37 (.tmp 2) (.tmp 105) rfl g2 (hm9 kd u n a d gp) rfl rfl 37 zi KY.out (by kernel_rfl) rfl (by simp [Value.oneCell']) ?_)
      exact hexit _ kd w _ g2 _ u n a d gp KY.out rfl rfl rfl rfl (qc BB.out D21.out) G2.out E.out
    rw [if_neg c1] at HV
    have n1 := eq_false c1
    by_cases c2 : n < wd
    · rw [if_pos c2] at HV
      have E := qa.mk (show R.1 = 41 ∧ (41 : Int) ≠ 0 by rw [← HR.out]; exact JD (by rw [H0.out]) (by rw [M0.out]) (by rw [M0.out]; dsimp only; rw [HV]) (by decide))
      have n2 := eq_true c2
      clear HV c1 c2
      have KY := qa.mk (KZ.out _ D21.out)
      have c0 := qb K24.out 0
      have c1 := qb K24.out 1
      have c2 := qb K24.out 2
      have c3 := qb K24.out 3
      have c4 := qb K24.out 4
      have c5 := qb K24.out 5
      have c6 := qb K24.out 6
      have c7 := qb K24.out 7
      have c8 := qb K24.out 8
      go_wp2_with (refine wpList_store_row rfl 37 (.tmp 2) (.tmp 105) rfl g2 (hm9 kd u n a d gp) rfl rfl 37 zi KY.out (by kernel_rfl) rfl (by simp [Value.oneCell']) ?_)
      exact hexit _ kd w _ g2 _ u n a d gp KY.out rfl rfl rfl rfl (qc BB.out D21.out) G2.out E.out
    rw [if_neg c2] at HV
    have n2 := eq_false c2
    have E := qa.mk (show R = (0, u, n, a, d, gp, f, wd) by
      rw [← HR.out]
      unfold jA
      rw [H0.out, M0.out]
      dsimp only
      rw [HV]
      rfl)
    clear HV c1 c2
    have KY := qa.mk (KZ.out _ D21.out)
    have c0 := qb K24.out 0
    have c1 := qb K24.out 1
    have c2 := qb K24.out 2
    have c3 := qb K24.out 3
    have c4 := qb K24.out 4
    have c5 := qb K24.out 5
    have c6 := qb K24.out 6
    have c7 := qb K24.out 7
    have c8 := qb K24.out 8
    go_wp2_with (refine wpList_store_row rfl 37 (.tmp 2) (.tmp 106) rfl g2 (hm9 kd u n a d gp) rfl rfl 37 zi KY.out (by kernel_rfl) rfl (by simp [Value.oneCell']) ?_)
    refine bodyPost_ret (res39 _ g2 kd u n a d gp f wd 0 _ rfl rfl rfl rfl (setRow_heap _ _ _ _ _ _ KY.out)) rfl ?_
    rw [E.out]
    exact ⟨jr (qc BB.out D21.out) G2.out _, Or.inr ⟨rfl, rfl⟩⟩)
end Go.Proofs.Ytonljpciadeafaa.S
