import Derived.Test.YtmlkpadlafjfeaaPx90
import Derived.Test.YtmlkpadlafjfeaaPx5
import Derived.Test.YtmlkpadlafjfeaaPx23
namespace Go.Proofs.Ytmlkpadlafjfeaa.P
open Go.RowKit Go.Proofs.YtmlkpadlafjfeaaW.PrintWords Go.Proofs.YtmlkpadlafjfeaaW.PrintLast Go.Proofs.YtmlkpadlafjfeaaW.PrintMore
attribute [local go_sem] zH zK zU zT zB zC zJ zI
set_option linter.unusedVariables false
set_option linter.unusedSimpArgs false
def zy.l0 : Nat → List (List (S35)) → List (List (S40)) → Int → Int → Option ((List (List (S35))) × Int)
 | 0, _, _, _, _ => none
 | k + 1, x5, x18, x19, x20 => if x20 < x19 then (if 0 ≤ x20 then (if x20 < (x18.length : Int) then ((jm.f k (qp x18 x20)).bind fun bt185 => (if bt185.2 = true then (if x20 < (x5.length : Int) then (zy.l0 k (x5.set (x20 : Int).toNat bt185.1) x18 x19 (wrap64 (x20 + 1))) else (none)) else (some (([] : List (List (S35))), 61)))) else (none)) else (none)) else (some (x5, 0))
def zy.f (k : Nat) (l0 : List (List (S40))) : Option ((List (List (S35))) × Int) := (qN.f k l0).bind fun t180 => (if t180 = 0 then (if 0 ≤ (l0.length : Int) then (if ((l0.length : Int) : Int).toNat ≤ 11728124029610 then (zy.l0 k (List.replicate ((l0.length : Int) : Int).toNat []) l0 (l0.length : Int) 0) else (none)) else (none)) else (some (([] : List (List (S35))), t180)))
theorem zy.zW : ∀ k, (∀ y0 y1 y2 y3, LeO (zy.l0 k y0 y1 y2 y3) (zy.l0 (k + 1) y0 y1 y2 y3))
 | 0 => fun _ _ _ _ r h => by simp [zy.l0] at h
 | k + 1 => by
  have ih0 := zy.zW k
  ·intro y0 y1 y2 y3
   unfold zy.l0
   repeat' first
   | (with_reducible exact ih0 _ _ _ _)
   | (with_reducible exact qN.mono _ _)
   | (with_reducible exact jm.mono _ _)
   | (with_reducible exact LeO.refl _)
   | (with_reducible exact LeO.none _)
   | (with_reducible refine LeO.ite ?_ ?_)
   | (with_reducible refine LeO.bind ?_ (fun _ => ?_))
   | exact ih0 _ _ _ _
   | exact qN.mono _ _
   | exact jm.mono _ _
   | exact LeO.none _
   | refine LeO.ite ?_ ?_
   | refine LeO.bind ?_ (fun _ => ?_)
theorem zy.mono : ∀ a0 k, LeO (zy.f k a0) (zy.f (k + 1) a0) := by
 intro a0 k
 have ih0 := zy.zW k
 unfold zy.f
 repeat' first
   | (with_reducible exact ih0 _ _ _ _)
   | (with_reducible exact qN.mono _ _)
   | (with_reducible exact jm.mono _ _)
   | (with_reducible exact LeO.refl _)
   | (with_reducible exact LeO.none _)
   | (with_reducible refine LeO.ite ?_ ?_)
   | (with_reducible refine LeO.bind ?_ (fun _ => ?_))
   | exact ih0 _ _ _ _
   | exact qN.mono _ _
   | exact jm.mono _ _
   | exact LeO.none _
   | refine LeO.ite ?_ ?_
   | refine LeO.bind ?_ (fun _ => ?_)
set_option maxHeartbeats 8000000 in
set_option maxRecDepth 100000 in
theorem zy.calls (k : Nat) (A0 : Option Addr) (c0 : Nat) (l0 : List (List (S40))) (r1 : List (List (S35))) (r2 : Int) (w : World) (hr0 : Kd.C (Kd.slice 40 k40) w A0 l0.length l0) (hc0 : l0.length ≤ c0) (h : zy.f k l0 = some (r1, r2)) :
  Calls Try.prog 13 #[.slice A0 l0.length c0] w fun e w' => ∃ v0_ : Value, e = .returned (.tuple #[v0_, .int .i64 r2]) ∧ Kd.S (Kd.slice 35 k35) 33 w' w.heap.size (fun _ => True) v0_ r1 ∧ Below w.heap.size w w' := by
 have HR0 := qa.mk hr0
 have HC0 := qa.mk hc0
 clear hr0 hc0
 have HB := qa.mk (Below.refl w.heap.size w)
 have H : ((qN.f k l0).bind fun t180 => (if t180 = 0 then (if 0 ≤ (l0.length : Int) then (if ((l0.length : Int) : Int).toNat ≤ 11728124029610 then (zy.l0 k (List.replicate ((l0.length : Int) : Int).toNat []) l0 (l0.length : Int) 0) else (none)) else (none)) else (some (([] : List (List (S35))), t180)))) = some (r1, r2) := h
 clear h
 replace H := Option.bind_eq_some_iff.mp H
 obtain ⟨t180, A20, H⟩ := H
 replace H : (if t180 = 0 then (if 0 ≤ (l0.length : Int) then (if ((l0.length : Int) : Int).toNat ≤ 11728124029610 then (zy.l0 k (List.replicate ((l0.length : Int) : Int).toNat []) l0 (l0.length : Int) 0) else (none)) else (none)) else (some (([] : List (List (S35))), t180))) = some (r1, r2) := H
 have A2 := qa.mk A20
 clear A20
 by_cases c3 : t180 = 0
 case neg =>
  rw [if_neg c3] at H
  have c3b0 : (t180 == 0) = false := beq_eq_false_iff_ne.mpr c3
  have c3b1 : (t180 != 0) = true := bne_iff_ne.mpr c3
  simp only [Option.some.injEq, Prod.mk.injEq] at H
  obtain ⟨rfl, rfl⟩ := H
  go_enter Try.func13, Try.ntmps13
  go_wp2_with (first | ((with_reducible refine zf (f := 28) rfl ?_); refine zR (some 11) rfl rfl Try.func28 (by kernel_rfl) rfl #[.slice A0 l0.length c0] rfl (by (try simp only [List.map_toArray, List.map_cons, List.map_nil]); first | done | rfl | (simp only [List.length_drop, List.length_take]; rfl)) ?_; (with_reducible refine (qN.calls k _ _ l0 t180 _ ?side1 ?side2 A2.out).mono ?_); (case side1 => repeat (first | exact HR0.out | (with_reducible refine Kd.jY ?_ _) | (with_reducible refine Kd.j6 ?_ _) | (with_reducible refine Kd.Qt ?_))); (case side2 => exact HC0.out); rintro e w20 ⟨rfl, hb⟩; refine ⟨_, rfl, ?_⟩; have n0_ := qa.mk (qh (bq HB) hb); clear HB; have HB := n0_; clear n0_; (try clear hb); (try clear hb2); (try clear hk); (try clear hi)))
  go_ret2
  exact ⟨_, by first | rfl | (simp [qR, qU] <;> rfl) | (simp [*, qR, qU] <;> rfl), by first | exact Kd.Zl _ _ _ _ _ | exact Kd.N_nil _ _ _ _ _ | exact Kd.V_nil _ _ _ _ _ | exact Kd.Q_nil _ _ _ _ _ | exact Kd.QF _ _ _ _ _, bq HB⟩
 rw [if_pos c3] at H
 have c3b0 : (t180 == 0) = true := beq_iff_eq.mpr c3
 have c3b1 : (t180 != 0) = false := bne_eq_false_iff_eq.mpr c3
 clear c3
 by_cases c4 : 0 ≤ (l0.length : Int)
 case neg =>
  rw [if_neg c4] at H
  exact absurd H (by simp)
 rw [if_pos c4] at H
 have c4b0 := eq_true c4
 have c4b1 : decide (0 ≤ (l0.length : Int)) = true := decide_eq_true c4
 clear c4
 by_cases c5 : ((l0.length : Int) : Int).toNat ≤ 11728124029610
 case neg =>
  rw [if_neg c5] at H
  exact absurd H (by simp)
 rw [if_pos c5] at H
 have c5b0 := eq_true c5
 have c5b1 : decide (((l0.length : Int) : Int).toNat ≤ 11728124029610) = true := decide_eq_true c5
 clear c5
 obtain ⟨y181, hy181⟩ : ∃ y_ : List (List (S35)), y_ = (List.replicate ((l0.length : Int) : Int).toNat []) := ⟨_, rfl⟩
 replace H : (zy.l0 k y181 l0 (l0.length : Int) 0) = some (r1, r2) := by first | (rw [hy181]; with_reducible exact H) | (have H2_ := (Option.bind_some _ _).symm.trans H; rw [hy181]; with_reducible exact H2_) | (have H2_ := (Option.bind_some _ _).symm.trans H; with_reducible exact H2_) | with_reducible exact H | (rw [hy181]; exact H) | exact H
 have Ny181 := qa.mk hy181
 clear hy181
 have H' := qa.mk H
 clear H
 go_enter Try.func13, Try.ntmps13
 go_wp2_with (first | ((with_reducible refine zf (f := 28) rfl ?_); refine zR (some 11) rfl rfl Try.func28 (by kernel_rfl) rfl #[.slice A0 l0.length c0] rfl (by (try simp only [List.map_toArray, List.map_cons, List.map_nil]); first | done | rfl | (simp only [List.length_drop, List.length_take]; rfl)) ?_; (with_reducible refine (qN.calls k _ _ l0 t180 _ ?side1 ?side2 A2.out).mono ?_); (case side1 => repeat (first | exact HR0.out | (with_reducible refine Kd.jY ?_ _) | (with_reducible refine Kd.j6 ?_ _) | (with_reducible refine Kd.Qt ?_))); (case side2 => exact HC0.out); rintro e w6 ⟨rfl, hb⟩; refine ⟨_, rfl, ?_⟩; have n0_ := qa.mk (qh (bq HB) hb); clear HB; have HB := n0_; clear n0_; (try clear hb); (try clear hb2); (try clear hk); (try clear hi)) | ((with_reducible refine zl (N := 17) rfl ?_); refine Kd.S_make (Kd.slice 35 k35) _ 33 rfl (N := 17) rfl 25 _ _ rfl (l0.length : Int) rfl rfl Try.underlying25 (.slice none 0 0) 24 info33 rfl (by decide) (by omega) [] (ok := fun _ => True) (okp := fun _ => True) ⟨_, rfl, Kd.QF _ _ _ _ _⟩ (fun _ hk => hk) trivial (odt) (Nat.le_trans (Nat.mul_le_mul_right _ (odt : (l0.length : Int).toNat ≤ 11728124029610)) (by omega)) (Below.refl _ _) (Nat.le_refl _) ?_; intro v182 w7 ho8 hb hg_ hnew_; clear hg_ hnew_; (first | rw [← Ny181.out] at ho8 | (simp only [Int.reduceToNat] at ho8; rw [← Ny181.out] at ho8)); have n0_ := qa.mk (Kd.Zm ho8 (qx (bq HB))); have n1_ := qa.mk (qh (bq HB) hb); clear HB; have HO183 := n0_; have HB := n1_; clear n0_ n1_; clear hb ho8))
 go_loopg [20] k (fun kq v20 w' => ∃ (x5_1 : List (List (S35))) (x20_1 : Int), v20 = .int .i64 x20_1 ∧ qa (zy.l0 kq x5_1 l0 (l0.length : Int) x20_1 = some (r1, r2)) ∧ qa (kq ≤ k) ∧ qa (Kd.S (Kd.slice 35 k35) 33 w' w.heap.size (fun _ => True) v182 x5_1) ∧ qa (Below w.heap.size w w'))
 case atStart => exact ⟨(y181), (0), (by first | rfl | (simp; done) | (simp [*]; done)), H', ⟨Nat.le_refl _⟩, ⟨by (with_reducible repeat (first | apply Kd.jw | apply Kd.jv | apply Kd.jM)); exact HO183.out⟩, ⟨bq HB⟩⟩
 case round =>
  clear H'
  try clear c1
  try clear c2
  try clear p2
  try clear c3
  try clear c3b0
  try clear c3b1
  try clear c4
  try clear c4b0
  try clear c4b1
  try clear c5
  try clear c5b0
  try clear c5b1
  obtain ⟨x5_1, x20_1, rfl, HA, HK1, HO_5, HB⟩ := hrel
  cases gk with
  | zero => exact absurd HA.out (by simp [zy.l0])
  | succ k1 =>
   have H := HA.out
   clear HA
   simp only [zy.l0] at H
   by_cases c9 : x20_1 < (l0.length : Int)
   case neg =>
    rw [if_neg c9] at H
    have c9b0 : decide (x20_1 < (l0.length : Int)) = false := decide_eq_false c9
    clear c9
    simp only [Option.some.injEq, Prod.mk.injEq] at H
    obtain ⟨rfl, rfl⟩ := H
    go_wp2
    go_ret2
    exact ⟨_, by first | rfl | (simp [qR, qU] <;> rfl) | (simp [*, qR, qU] <;> rfl), by (with_reducible repeat (first | apply Kd.jw | apply Kd.jv | apply Kd.jM)); exact HO_5.out, bq HB⟩
   rw [if_pos c9] at H
   have c9b0 : decide (x20_1 < (l0.length : Int)) = true := decide_eq_true c9
   clear c9
   by_cases c10 : 0 ≤ x20_1
   case neg =>
    rw [if_neg c10] at H
    exact absurd H (by simp)
   rw [if_pos c10] at H
   have c10b0 : decide (0 ≤ x20_1) = true := decide_eq_true c10
   clear c10
   by_cases c11 : x20_1 < (l0.length : Int)
   case neg =>
    rw [if_neg c11] at H
    exact absurd H (by simp)
   rw [if_pos c11] at H
   have c11b0 : decide (x20_1 < (l0.length : Int)) = true := decide_eq_true c11
   clear c11
   replace H := Option.bind_eq_some_iff.mp H
   obtain ⟨⟨t185, t186⟩, A120, H⟩ := H
   replace H : (if t186 = true then (if x20_1 < (x5_1.length : Int) then (zy.l0 k1 (x5_1.set (x20_1 : Int).toNat t185) l0 (l0.length : Int) (wrap64 (x20_1 + 1))) else (none)) else (some (([] : List (List (S35))), 61))) = some (r1, r2) := H
   have A12 := qa.mk A120
   clear A120
   by_cases c13 : t186 = true
   case neg =>
    replace c13 := Bool.eq_false_iff.mpr c13
    subst c13
    have H1 : (some (([] : List (List (S35))), 61)) = some (r1, r2) := by rw [if_neg (show ¬ (false = true) by decide)] at H; exact H
    clear H
    have H := H1
    clear H1
    simp only [Option.some.injEq, Prod.mk.injEq] at H
    obtain ⟨rfl, rfl⟩ := H
    have p184 : 0 ≤ (x20_1 : Int) := odt
    have q184 : x20_1 < (l0.length : Int) := odt
    obtain ⟨ad184, A184_0, c184_0, e184, hx184_0, hl184_0, hi184_0⟩ := Qm HR0.out x20_1 p184 q184
    cases e184
    replace hx184_0 := (HB.out.cell (World.block_lt_of_cell? w _ hx184_0)).trans hx184_0
    have HR184_0 := qa.mk hi184_0
    have HC184_0 := qa.mk hl184_0
    clear hi184_0 hl184_0
    replace p184 := eq_true p184
    replace q184 := eq_true q184
    go_wp2_with (first | ((with_reducible refine zf (f := 29) rfl ?_); refine zR (some 27) rfl rfl Try.func29 (by kernel_rfl) rfl #[.slice A184_0 (qp l0 x20_1).length c184_0] rfl (by (try simp only [List.map_toArray, List.map_cons, List.map_nil]); first | done | rfl | (simp only [List.length_drop, List.length_take]; rfl)) ?_; (with_reducible refine (jm.calls k1 _ _ (qp l0 x20_1) t185 false _ ?side1 ?side2 A12.out).mono ?_); (case side1 => repeat (first | exact (Kd.jb HR184_0.out HB.out) | (with_reducible refine Kd.jY ?_ _) | (with_reducible refine Kd.j6 ?_ _) | (with_reducible refine Kd.Qt ?_))); (case side2 => exact HC184_0.out); rintro e w19 ⟨v187, rfl, ho0, hb⟩; refine ⟨_, rfl, ?_⟩; have n0_ := qa.mk (Kd.J7 (by (with_reducible repeat (first | apply Kd.jw | apply Kd.jv | apply Kd.jM)); exact HO_5.out) (Kd.Zt ho0) hb); have n1_ := qa.mk (Kd.jU ho0 (qx (bq HB))); have n2_ := qa.mk (qh (bq HB) hb); clear HO_5; clear HB; have HO_5 := n0_; have HO188 := n1_; have HB := n2_; clear n0_ n1_ n2_; (try clear hb); (try clear hb2); (try clear hk); (try clear hi); (try clear ho0)))
    go_ret2
    exact ⟨_, by first | rfl | (simp [qR, qU] <;> rfl) | (simp [*, qR, qU] <;> rfl), by first | exact Kd.Zl _ _ _ _ _ | exact Kd.N_nil _ _ _ _ _ | exact Kd.V_nil _ _ _ _ _ | exact Kd.Q_nil _ _ _ _ _ | exact Kd.QF _ _ _ _ _, bq HB⟩
   subst c13
   have H1 : (if x20_1 < (x5_1.length : Int) then (zy.l0 k1 (x5_1.set (x20_1 : Int).toNat t185) l0 (l0.length : Int) (wrap64 (x20_1 + 1))) else (none)) = some (r1, r2) := by rw [if_pos rfl] at H; exact H
   clear H
   have H := H1
   clear H1
   by_cases c14 : x20_1 < (x5_1.length : Int)
   case neg =>
    rw [if_neg c14] at H
    exact absurd H (by simp)
   rw [if_pos c14] at H
   have c14b0 : decide (x20_1 < (x5_1.length : Int)) = true := decide_eq_true c14
   clear c14
   obtain ⟨y189, hy189⟩ : ∃ y_ : List (List (S35)), y_ = (x5_1.set (x20_1 : Int).toNat t185) := ⟨_, rfl⟩
   replace H : (zy.l0 k1 y189 l0 (l0.length : Int) (wrap64 (x20_1 + 1))) = some (r1, r2) := by first | (rw [hy189]; with_reducible exact H) | (have H2_ := (Option.bind_some _ _).symm.trans H; rw [hy189]; with_reducible exact H2_) | (have H2_ := (Option.bind_some _ _).symm.trans H; with_reducible exact H2_) | with_reducible exact H | (rw [hy189]; exact H) | exact H
   have Ny189 := qa.mk hy189
   clear hy189
   have H' := qa.mk H
   clear H
   have p184 : 0 ≤ (x20_1 : Int) := odt
   have q184 : x20_1 < (l0.length : Int) := odt
   obtain ⟨ad184, A184_0, c184_0, e184, hx184_0, hl184_0, hi184_0⟩ := Qm HR0.out x20_1 p184 q184
   cases e184
   replace hx184_0 := (HB.out.cell (World.block_lt_of_cell? w _ hx184_0)).trans hx184_0
   have HR184_0 := qa.mk hi184_0
   have HC184_0 := qa.mk hl184_0
   clear hi184_0 hl184_0
   replace p184 := eq_true p184
   replace q184 := eq_true q184
   go_wp2_with (first | ((with_reducible refine zf (f := 29) rfl ?_); refine zR (some 27) rfl rfl Try.func29 (by kernel_rfl) rfl #[.slice A184_0 (qp l0 x20_1).length c184_0] rfl (by (try simp only [List.map_toArray, List.map_cons, List.map_nil]); first | done | rfl | (simp only [List.length_drop, List.length_take]; rfl)) ?_; (with_reducible refine (jm.calls k1 _ _ (qp l0 x20_1) t185 true _ ?side1 ?side2 A12.out).mono ?_); (case side1 => repeat (first | exact (Kd.jb HR184_0.out HB.out) | (with_reducible refine Kd.jY ?_ _) | (with_reducible refine Kd.j6 ?_ _) | (with_reducible refine Kd.Qt ?_))); (case side2 => exact HC184_0.out); rintro e w16 ⟨v187, rfl, ho0, hb⟩; refine ⟨_, rfl, ?_⟩; have n0_ := qa.mk (Kd.J7 (by (with_reducible repeat (first | apply Kd.jw | apply Kd.jv | apply Kd.jM)); exact HO_5.out) (Kd.Zt ho0) hb); have n1_ := qa.mk (Kd.jU ho0 (qx (bq HB))); have n2_ := qa.mk (qh (bq HB) hb); clear HO_5; clear HB; have HO_5 := n0_; have HO188 := n1_; have HB := n2_; clear n0_ n1_ n2_; (try clear hb); (try clear hb2); (try clear hk); (try clear hi); (try clear ho0); have p15 : 0 ≤ (x20_1 : Int) := odt; have q15 : (x20_1 : Int) < ((x5_1.length : Int) : Int) := odt; obtain ⟨go15, co15, eo15, gb15, gl15, cl15, HG15⟩ := Kd.Jr HO_5.out (by omega); (first | cases eo15 | (injection eo15 with ea_ en_ ec_; (first | subst ea_ | (injection ea_ with ea_; subst ea_)); subst ec_; clear en_)); have GB15 := qa.mk gb15; have GG15 := qa.mk HG15; clear gb15 gl15 HG15; obtain ⟨_, ce15, hcl15, hM15, hcc15, hfr15, _, _⟩ := Kd.S_elem HO_5.out [] (x20_1 : Int) p15 q15; obtain ⟨ve15_0, rfl, ge15_0⟩ := hM15; have hx15_0 := hcc15 0 _ rfl; have hf15_0 := hfr15 0; (try simp only [show ((Kd.slice 35 k35)).sz = 1 from rfl, Nat.mul_one, Nat.add_zero] at hx15_0); (try simp only [show ((Kd.slice 35 k35)).sz = 1 from rfl, Nat.mul_one, Nat.add_zero] at hf15_0); (try clear hcl15); (try clear hcc15); (try clear hfr15); (try clear hM15); replace p15 := eq_true p15; replace q15 := eq_true q15; have n_ := qa.mk (Kd.jr (ok' := (fun k_ => some k_ ≠ (v187 : Value).ownBlock)) HO_5.out (fun k_ hk => hk.2)); clear HO_5; have HO_5 := n_; clear n_; have HX17 := qa.mk (show Kd.S (Kd.slice 35 k35) 33 w16 w.heap.size (fun k_ => ((fun _ => True)) k_ ∧ ¬ ((fun k_ => some k_ = (v187 : Value).ownBlock)) k_) (.slice (some ⟨go15, 0, none⟩) x5_1.length co15) x5_1 from (by (with_reducible repeat (first | apply Kd.jw | apply Kd.jv | apply Kd.jM)); exact Kd.jr HO_5.out (fun k_ hk => ⟨trivial, fun e_ => hk e_⟩))); obtain ⟨oki17, ce17, hcl17, hM17, hcc17, hfr17, hoki17, hH17⟩ := Kd.S_elem HX17.out [] (x20_1 : Int) (odt) (by have h_ : (x20_1 : Int) < ((x5_1.length : Int) : Int) := odt; first | exact h_ | (have e_ := (Kd.jk HO_5.out).1; omega) | simpa using h_); obtain ⟨ve17_0, rfl, ge17_0⟩ := hM17; have HP17 := Kd.S_seg hH17 (odt) (by have h_ : (x20_1 : Int) < ((x5_1.length : Int) : Int) := odt; first | exact h_ | (have e_ := (Kd.jk HO_5.out).1; omega) | simpa using h_) (seg := [v187]) (j := 0) (show 1 ≤ 1 from by decide) (x' := t185) (Kd.M_row (Kd.zV (Kd.R_tight rfl (Kd.zV (ok' := fun k_ => ((fun _ => True)) k_ ∧ k_ ≠ go15) (Kd.QL (HO188.out) (Kd.ZO HO_5.out) (by decide)) (fun k_ hk => ⟨trivial, fun e_ => (hk.2) (by rw [e_]; rfl)⟩))) (fun _ h_ => Or.inr (h_)))) (fun _ hk => hk) (fun k_ hk_ => ((Kd.zV (ok' := fun k_ => ((fun _ => True)) k_ ∧ k_ ≠ go15) (Kd.QL (HO188.out) (Kd.ZO HO_5.out) (by decide)) (fun k_ hk => ⟨trivial, fun e_ => (hk.2) (by rw [e_]; rfl)⟩))).1 k_ hk_.symm); have hx17_0 := hcc17 0 _ rfl; (try simp only [show ((Kd.slice 35 k35)).sz = 1 from rfl, Nat.mul_one, Nat.add_zero] at hx17_0); have hf17_0 := hfr17 0; (try simp only [show ((Kd.slice 35 k35)).sz = 1 from rfl, Nat.mul_one, Nat.add_zero] at hf17_0); (try clear hcl17); (try clear hcc17); (try clear hfr17); (try clear hM17); (try clear hoki17); (try clear hH17); (try simp only [show ((Kd.slice 35 k35)).sz = 1 from rfl, Nat.mul_one, Nat.add_zero] at HP17)) | ((with_reducible refine gate_store (t := 33) (p := 35) rfl ?_); refine store_event (t := 33) (p := 35) (v := ?vo_w18) (w1 := (w16.setCell ⟨go15, (x20_1 : Int).toNat, none⟩ (v187))) ?hg ?ho ?hn ?hr ?_; (case ho => rfl); (case hg => rfl); (case hn => rfl); (case hr => (go_simp; have hv_ : v187.cells = #[v187] := Array.ext' (Kd.R_val HO188.out).1; unfold Value.cells at hv_; rw [hv_, if_pos (show (#[v187] : Array Value).size = 1 from rfl)]; have hs_ := run_storeCells_cells (P := Try.prog) go15 ((x20_1) : Int).toNat [v187] 0 w16 (fun j hj => by obtain rfl : j = 0 := Nat.lt_one_iff.1 hj; exact (congrArg Option.isSome hx17_0).trans rfl) (fun j hj => by obtain rfl : j = 0 := Nat.lt_one_iff.1 hj; exact hf17_0) (fun v hv => by obtain rfl := List.mem_singleton.1 hv; exact (Kd.R_val HO188.out).2); show (Sem.run Try.prog (storeCells _ [v187]) w16).andThen _ = _; rw [hs_]; rfl)); intro w18 hw; have hg : w16.grownBy w18 (some go15) := (by rw [hw]; exact HP17.2); have hp_ : Kd.S (Kd.slice 35 k35) 33 w18 w.heap.size (fun _ => True) (.slice (some ⟨go15, 0, none⟩) x5_1.length co15) y189 := (by rw [hw, Ny189.out]; exact HP17.1); clear HP17; have n0_ := qa.mk (hp_); have n1_ := qa.mk ((by rw [hw]; exact qf (HB.out) GB15.out : Below w.heap.size w w18)); clear HO_5; clear HB; clear HO188; have HO_5 := n0_; have HB := n1_; clear n0_ n1_; clear hg hw hp_))
   go_roundg k1
   case measure => have := HK1.out; omega
   case rel => exact ⟨(y189), (wrap64 (x20_1 + 1)), (by first | rfl | (simp; done) | (simp [*]; done)), H', ⟨by have := HK1.out; omega⟩, ⟨by (with_reducible repeat (first | apply Kd.jw | apply Kd.jv | apply Kd.jM)); exact HO_5.out⟩, ⟨bq HB⟩⟩
end Go.Proofs.Ytmlkpadlafjfeaa.P
