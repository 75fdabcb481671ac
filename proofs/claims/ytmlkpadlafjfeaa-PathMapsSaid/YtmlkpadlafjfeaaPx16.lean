import Derived.Test.YtmlkpadlafjfeaaAwayP
import Derived.Test.YtmlkpadlafjfeaaPx90
import Derived.Test.YtmlkpadlafjfeaaPx15
namespace Go.Proofs.Ytmlkpadlafjfeaa.P
open Go.RowKit Go.Proofs.YtmlkpadlafjfeaaW.PrintWords Go.Proofs.YtmlkpadlafjfeaaW.PrintLast Go.Proofs.YtmlkpadlafjfeaaW.PrintMore
attribute [local go_sem] zH zK zU zT zB zC zJ zI
set_option linter.unusedVariables false
set_option linter.unusedSimpArgs false
def zg.l0 : Nat → List (S40) → List (S40) → Int → Int → Option (Int × Int × (List (S40)) × Bool)
 | 0, _, _, _, _ => none
 | k + 1, x0, x8, x9, x10 => if x10 < x9 then (if 0 ≤ x10 then (if x10 < (x8.length : Int) then (if ((ql x8 x10).f2) = 1 then ((some (([] : List (S40)) : List (S40))).bind fun y136 => (if 0 ≤ (wrap64 (x10 + 1)) then (if (wrap64 (x10 + 1)) ≤ (x0.length : Int) then ((some (x0.drop ((wrap64 (x10 + 1)) : Int).toNat : List (S40))).bind fun y139 => (if y136.length + y139.length < 5864062014805 then ((some (y136 ++ y139 : List (S40))).bind fun y144 => ((jD.f ((ql x8 x10).f0) ((ql x8 x10).f1) ((ql x8 x10).f2)).bind fun bt147 => (if x10 ≤ (x0.length : Int) then ((some (x0.take (x10 : Int).toNat : List (S40))).bind fun y149 => (if y144.length + y149.length < 5864062014805 then (some (bt147.1, bt147.2, (y144 ++ y149), true)) else (none))) else (none)))) else (none))) else (none)) else (none))) else (zg.l0 k x0 x8 x9 (wrap64 (x10 + 1)))) else (none)) else (none)) else (if 0 ≤ (wrap64 ((x0.length : Int) - 1)) then (if (wrap64 ((x0.length : Int) - 1)) < (x0.length : Int) then (if 0 < (x0.length : Int) then ((zM.f k ((ql x0 (wrap64 ((x0.length : Int) - 1))).f0) ((ql x0 (wrap64 ((x0.length : Int) - 1))).f1) ((ql x0 (wrap64 ((x0.length : Int) - 1))).f2) ((ql x0 0).f0) ((ql x0 0).f1) ((ql x0 0).f2)).bind fun bt159 => (some (bt159.1, bt159.2, x0, (((ql x0 0).f2) == 2)))) else (none)) else (none)) else (none))
def zg.f (k : Nat) (l0 : List (S40)) : Option (Int × Int × (List (S40)) × Bool) := zg.l0 k l0 l0 (l0.length : Int) 0
theorem zg.zW : ∀ k, (∀ y0 y1 y2 y3, LeO (zg.l0 k y0 y1 y2 y3) (zg.l0 (k + 1) y0 y1 y2 y3))
 | 0 => fun _ _ _ _ r h => by simp [zg.l0] at h
 | k + 1 => by
  have ih0 := zg.zW k
  ·intro y0 y1 y2 y3
   unfold zg.l0
   repeat' first
   | (with_reducible exact ih0 _ _ _ _)
   | (with_reducible exact zM.mono _ _ _ _ _ _ _)
   | (with_reducible exact LeO.refl _)
   | (with_reducible exact LeO.none _)
   | (with_reducible refine LeO.ite ?_ ?_)
   | (with_reducible refine LeO.bind ?_ (fun _ => ?_))
   | exact ih0 _ _ _ _
   | exact zM.mono _ _ _ _ _ _ _
   | exact LeO.none _
   | refine LeO.ite ?_ ?_
   | refine LeO.bind ?_ (fun _ => ?_)
theorem zg.mono : ∀ a0 k, LeO (zg.f k a0) (zg.f (k + 1) a0) := by
 intro a0 k
 have ih0 := zg.zW k
 unfold zg.f
 repeat' first
   | (with_reducible exact ih0 _ _ _ _)
   | (with_reducible exact zM.mono _ _ _ _ _ _ _)
   | (with_reducible exact LeO.refl _)
   | (with_reducible exact LeO.none _)
   | (with_reducible refine LeO.ite ?_ ?_)
   | (with_reducible refine LeO.bind ?_ (fun _ => ?_))
   | exact ih0 _ _ _ _
   | exact zM.mono _ _ _ _ _ _ _
   | exact LeO.none _
   | refine LeO.ite ?_ ?_
   | refine LeO.bind ?_ (fun _ => ?_)
def zg.T6 : Bool × List (List Nat × List Nat) := (true, [([], []), ([0], [0]), ([], []), ([], []), ([], []), ([3, 4], [3, 4]), ([2, 5, 1], [2, 5]), ([1, 6, 0, 1], [1]), ([6, 7, 0, 1, 2, 3, 4, 5, 6, 7], [6]), ([8, 0, 1, 2, 3, 4, 5, 6, 7, 8], [])])
def zg.B6 : List Nat := [0, 1, 0, 0, 0, 24, 63, 127, 255, 511]
theorem zg.tab6 : rtab .any (opsOf Try.f46 6) = zg.T6 := by kernel_rfl
theorem zg.bits6 : Q0 zg.T6.2 zg.B6 = true := by kernel_rfl
def zg.T8 : Bool × List (List Nat × List Nat) := (true, [([], []), ([], []), ([1], [1]), ([2], [2]), ([0, 3], [0, 3]), ([4], [4]), ([], []), ([6], [6]), ([7], [7]), ([5, 8], [5, 8]), ([], []), ([], []), ([11], [11]), ([12], [12]), ([13], [13]), ([14], [14]), ([9, 9, 0, 1, 2, 3, 4, 5, 6, 7, 8, 9], [9]), ([10, 16, 0, 1, 2, 3, 4, 5, 6, 7, 8, 9, 10, 16], [10]), ([15, 17, 0, 1, 2, 3, 4, 5, 6, 7, 8, 9, 10, 11, 12, 13, 14, 15, 16, 17], [15])])
def zg.B8 : List Nat := [0, 0, 2, 6, 15, 31, 0, 64, 192, 511, 0, 0, 2048, 6144, 14336, 30720, 1023, 67583, 262143]
theorem zg.tab8 : rtab .any (opsOf Try.f46 8) = zg.T8 := by kernel_rfl
theorem zg.bits8 : Q0 zg.T8.2 zg.B8 = true := by kernel_rfl
set_option maxHeartbeats 8000000 in
set_option maxRecDepth 100000 in
theorem zg.calls (k : Nat) (P0_ : Nat → Prop) (A0 : Option Addr) (c0 : Nat) (l0 : List (S40)) (r1 : Int) (r2 : Int) (r3 : List (S40)) (r4 : Bool) (w : World) (hs0 : Kd.V k40 40 w w.heap.size (fun k_ => P0_ k_) (.slice A0 l0.length c0) l0) (h : zg.f k l0 = some (r1, r2, r3, r4)) :
  Calls Try.prog 46 #[.slice A0 l0.length c0] w fun e w' => ∃ v2_ : Value, e = .returned (.tuple #[.agg #[.int .i64 r1, .int .i64 r2], v2_, .bool r4]) ∧ Kd.V k40 40 w' w.heap.size (fun k_ => (P0_ k_ ∨ w.heap.size ≤ k_)) v2_ r3 ∧ Below w.heap.size w w' := by
 have hu35 := Try.underlying35
 have hu40 := Try.underlying40
 have HO0 := qa.mk (show Kd.V k40 40 w w.heap.size (fun k_ => (P0_ k_ ∨ w.heap.size ≤ k_)) (.slice A0 l0.length c0) l0 from Kd.QE hs0 (fun k_ hk => .inl hk))
 have HB := qa.mk (Below.refl w.heap.size w)
 have H : (zg.l0 k l0 l0 (l0.length : Int) 0) = some (r1, r2, r3, r4) := h
 clear h
 have H' := qa.mk H
 clear H
 go_enter Try.func46, Try.ntmps46
 go_wp2_with (first | ((with_reducible refine zl (N := 2) rfl ?_); refine zF ?hg (N := 2) ?hd (cs := #[.int .i64 0, .int .i64 0]) (t := 35) ?hr ?_; (case hd => rfl); (case hg => rfl); (case hr => first | (go_simp; done) | (go_simp; rfl)); intro gb133 hg w2 hbox hb; have n0_ := qa.mk (Kd.QU (Kd.Jp (by (with_reducible repeat (first | apply Kd.jA | apply Kd.jC | apply Kd.jy)); exact HO0.out) gb133 (Nat.le_of_eq hg.symm)) hb); have n1_ := qa.mk (qh (bq HB) hb); have n2_ := qa.mk (hbox); have n3_ := qa.mk ((by rw [hg]; exact (qx (bq HB)) : w.heap.size ≤ gb133)); have n4_ := qa.mk ((by rw [hg]; exact (qx (bq HB)) : w.heap.size ≤ gb133)); clear HO0; clear HB; have HO0 := n0_; have HB := n1_; have BK133 := n2_; have GW133 := n3_; have GE133 := n4_; clear n0_ n1_ n2_ n3_ n4_; clear hb hbox hg))
 go_loopg [10] k (fun kq v10 w' => ∃ (x10_1 : Int) (x134000_1 : Int) (x134001_1 : Int), v10 = .int .i64 x10_1 ∧ qa (zg.l0 kq l0 l0 (l0.length : Int) x10_1 = some (r1, r2, r3, r4)) ∧ qa (kq ≤ k) ∧ qa (Kd.V k40 40 w' w.heap.size (fun k_ => (P0_ k_ ∨ w.heap.size ≤ k_) ∧ k_ ≠ gb133) (.slice A0 l0.length c0) l0) ∧ qa (Kd.V k40 40 w' w.heap.size (fun k_ => (P0_ k_ ∨ w.heap.size ≤ k_) ∧ k_ ≠ gb133) (.slice A0 l0.length c0) l0) ∧ qa (w'.heap[gb133]? = some (.cells #[.int .i64 x134000_1, .int .i64 x134001_1] 35 (0, 0))) ∧ qa (Below w.heap.size w w'))
 case atStart => exact ⟨(0), (0), (0), (by first | rfl | (simp; done) | (simp [*]; done)), H', ⟨Nat.le_refl _⟩, ⟨by (with_reducible repeat (first | apply Kd.jA | apply Kd.jC | apply Kd.jy)); exact HO0.out⟩, ⟨by (with_reducible repeat (first | apply Kd.jA | apply Kd.jC | apply Kd.jy)); exact HO0.out⟩, ⟨kq BK133⟩, ⟨bs HB GE133⟩⟩
 case round =>
  clear H'
  try clear p2
  obtain ⟨x10_1, x134000_1, x134001_1, rfl, HA, HK1, HO_0, HO_8, BK133, HB⟩ := hrel
  cases gk with
  | zero => exact absurd HA.out (by simp [zg.l0])
  | succ k1 =>
   have H := HA.out
   clear HA
   simp only [zg.l0] at H
   by_cases c3 : x10_1 < (l0.length : Int)
   case neg =>
    rw [if_neg c3] at H
    have c3b0 : decide (x10_1 < (l0.length : Int)) = false := decide_eq_false c3
    clear c3
    obtain ⟨ji31, hji31⟩ : ∃ j_ : Int, (wrap64 ((l0.length : Int) - 1)) = j_ := ⟨_, rfl⟩
    replace H : (if 0 ≤ (ji31) then (if (ji31) < (l0.length : Int) then (if 0 < (l0.length : Int) then ((zM.f k1 ((ql l0 (ji31)).f0) ((ql l0 (ji31)).f1) ((ql l0 (ji31)).f2) ((ql l0 0).f0) ((ql l0 0).f1) ((ql l0 0).f2)).bind fun bt159 => (some (bt159.1, bt159.2, l0, (((ql l0 0).f2) == 2)))) else (none)) else (none)) else (none)) = some (r1, r2, r3, r4) := by first | (rw [hji31] at H; exact H) | (simp only [hji31] at H ⊢; exact H)
    have hji31w : (IntKind.i64.wrap ((l0.length : Int) - 1)) = ji31 := (qz _).trans hji31
    by_cases c32 : 0 ≤ (ji31)
    case neg =>
     rw [if_neg c32] at H
     exact absurd H (by simp)
    rw [if_pos c32] at H
    have c32b0 : decide (0 ≤ (ji31)) = true := decide_eq_true c32
    clear c32
    by_cases c33 : (ji31) < (l0.length : Int)
    case neg =>
     rw [if_neg c33] at H
     exact absurd H (by simp)
    rw [if_pos c33] at H
    have c33b0 : decide ((ji31) < (l0.length : Int)) = true := decide_eq_true c33
    clear c33
    by_cases c34 : 0 < (l0.length : Int)
    case neg =>
     rw [if_neg c34] at H
     exact absurd H (by simp)
    rw [if_pos c34] at H
    have c34b0 : decide (0 < (l0.length : Int)) = true := decide_eq_true c34
    have c34b1 : decide (0 < l0.length) = true := decide_eq_true (by omega)
    clear c34
    replace H := Option.bind_eq_some_iff.mp H
    obtain ⟨⟨t159, t160⟩, A350, H⟩ := H
    replace H : (some (t159, t160, l0, (((ql l0 0).f2) == 2))) = some (r1, r2, r3, r4) := H
    have A35 := qa.mk A350
    clear A350
    simp only [Option.some.injEq, Prod.mk.injEq] at H
    obtain ⟨rfl, rfl, rfl, rfl⟩ := H
    try go_wp2
    have n0_ := qa.mk (Kd.jy HO_0.out)
    have n1_ := qa.mk (Kd.jy HO_8.out)
    have n2_ := qa.mk (qd BK133.out)
    have n3_ := qa.mk (qJ HB.out)
    clear HO_0
    clear HO_8
    clear BK133
    clear HB
    have HO_0 := n0_
    have HO_8 := n1_
    have BK133 := n2_
    have HB := n3_
    clear n0_ n1_ n2_ n3_
    have p157 : 0 ≤ ((ji31) : Int) := odt
    have q157 : (ji31) < (l0.length : Int) := odt
    obtain ⟨ad157, e157, hx157_0, hx157_1, hx157_2⟩ := jh (Kd.QN HO_0.out).2.2 (ji31) p157 q157
    cases e157
    replace p157 := eq_true p157
    replace q157 := eq_true q157
    have p158 : 0 ≤ (0 : Int) := (by omega)
    have q158 : 0 < (l0.length : Int) := odt
    obtain ⟨ad158, e158, hx158_0, hx158_1, hx158_2⟩ := jh (Kd.QN HO_0.out).2.2 0 p158 q158
    obtain rfl : ad157 = ad158 := (by injection e158)
    have qi158 : (0 < l0.length) = True := eq_true (by omega)
    (try rw [show ((0 : Int)).toNat = 0 from rfl] at hx158_0)
    (try rw [show 0 * 3 = 0 from rfl] at hx158_0)
    (try rw [Addr.add_zero'] at hx158_0)
    (try rw [show ((0 : Int)).toNat = 0 from rfl] at hx158_1)
    (try rw [show 0 * 3 = 0 from rfl] at hx158_1)
    (try rw [Addr.add_zero'] at hx158_1)
    (try rw [show ((0 : Int)).toNat = 0 from rfl] at hx158_2)
    (try rw [show 0 * 3 = 0 from rfl] at hx158_2)
    (try rw [Addr.add_zero'] at hx158_2)
    replace p158 := eq_true p158
    replace q158 := eq_true q158
    have p161 : 0 ≤ (0 : Int) := (by omega)
    have q161 : 0 < (l0.length : Int) := odt
    obtain ⟨ad161, e161, hx161_0, hx161_1, hx161_2⟩ := jh (Kd.QN HO_0.out).2.2 0 p161 q161
    obtain rfl : ad157 = ad161 := (by injection e161)
    have qi161 : (0 < l0.length) = True := eq_true (by omega)
    (try rw [show ((0 : Int)).toNat = 0 from rfl] at hx161_0)
    (try rw [show 0 * 3 = 0 from rfl] at hx161_0)
    (try rw [Addr.add_zero'] at hx161_0)
    (try rw [show ((0 : Int)).toNat = 0 from rfl] at hx161_1)
    (try rw [show 0 * 3 = 0 from rfl] at hx161_1)
    (try rw [Addr.add_zero'] at hx161_1)
    (try rw [show ((0 : Int)).toNat = 0 from rfl] at hx161_2)
    (try rw [show 0 * 3 = 0 from rfl] at hx161_2)
    (try rw [Addr.add_zero'] at hx161_2)
    replace p161 := eq_true p161
    replace q161 := eq_true q161
    refine jS (n := 19) (S := fun w' => w'.cell? (ad157.add (((ji31)).toNat * 3)) = some (.int .i64 ((ql l0 (ji31)).f0)) ∧ w'.cell? ⟨(ad157.add (((ji31)).toNat * 3)).block, (ad157.add (((ji31)).toNat * 3)).off + 1, none⟩ = some (.int .i64 ((ql l0 (ji31)).f1)) ∧ w'.cell? ⟨(ad157.add (((ji31)).toNat * 3)).block, (ad157.add (((ji31)).toNat * 3)).off + 2, none⟩ = some (.int .i64 ((ql l0 (ji31)).f2)) ∧ w'.cell? ad157 = some (.int .i64 ((ql l0 0).f0)) ∧ w'.cell? ⟨ad157.block, ad157.off + 1, none⟩ = some (.int .i64 ((ql l0 0).f1)) ∧ w'.cell? ⟨ad157.block, ad157.off + 2, none⟩ = some (.int .i64 ((ql l0 0).f2)) ∧ w'.cell? ad157 = some (.int .i64 ((ql l0 0).f0)) ∧ w'.cell? ⟨ad157.block, ad157.off + 1, none⟩ = some (.int .i64 ((ql l0 0).f1)) ∧ w'.cell? ⟨ad157.block, ad157.off + 2, none⟩ = some (.int .i64 ((ql l0 0).f2))) (ds := []) #[false, false, false, false, false, false, false, false, false, false, false, false, false, false, false, false, false, false, false] (by kernel_rfl) rfl rfl ⟨hx157_0, hx157_1, hx157_2, hx158_0, hx158_1, hx158_2, hx161_0, hx161_1, hx161_2⟩ (fun hHeld => ?_); refine ZE zg.tab8 zg.bits8 (fun HT_ HW_ => ?_)
    generalize wr.drew = w36 at HO_0 HO_8 BK133 HB hx157_0 hx157_1 hx157_2 hx158_0 hx158_1 hx158_2 hx161_0 hx161_1 hx161_2 hHeld ⊢
    refine za (i := 0) (N := some 32) (v := ?_) (a' := ?_) #[true, false, false, false, false, false, false, false, false, false, false, false, false, false, false, false, false, false, false] rfl rfl (ja HT_.out (by kernel_rfl)) (fun _ _ _ h => h) (Or.inl ⟨by rfl, ?_⟩) ?_ ?_
    rotate_left
    ·intro w'
     go_simp
     with_reducible rfl
    rotate_left
    ·simp only [Act.put, List.setIfInBounds_toArray, List.set_cons_zero, List.set_cons_succ, qz, qA]
     rfl
    refine za (i := 1) (N := some 33) (v := ?_) (a' := ?_) #[true, true, false, false, false, false, false, false, false, false, false, false, false, false, false, false, false, false, false] rfl rfl (ja HT_.out (by kernel_rfl)) (fun _ _ _ h => h) (Or.inl ⟨by rfl, ?_⟩) ?_ ?_
    rotate_left
    ·intro w'
     go_simp
     with_reducible rfl
    rotate_left
    ·simp only [Act.put, List.setIfInBounds_toArray, List.set_cons_zero, List.set_cons_succ, qz, qA]
     rfl
    refine za (i := 2) (N := some 34) (v := ?_) (a' := ?_) #[true, true, true, false, false, false, false, false, false, false, false, false, false, false, false, false, false, false, false] rfl rfl (ja HT_.out (by kernel_rfl)) (fun _ _ _ h => h) (Or.inl ⟨by rfl, ?_⟩) ?_ ?_
    rotate_left
    ·intro w'
     go_simp
     with_reducible rfl
    rotate_left
    ·simp only [Act.put, List.setIfInBounds_toArray, List.set_cons_zero, List.set_cons_succ, qz, qA]
     rfl
    refine za (i := 3) (N := some 35) (v := ?_) (a' := ?_) #[true, true, true, true, false, false, false, false, false, false, false, false, false, false, false, false, false, false, false] rfl rfl (ja HT_.out (by kernel_rfl)) (fun _ _ _ h => h) (Or.inl ⟨by rfl, ?_⟩) ?_ ?_
    rotate_left
    ·intro w'
     go_simp
     with_reducible rfl
    rotate_left
    ·simp only [Act.put, List.setIfInBounds_toArray, List.set_cons_zero, List.set_cons_succ, qz, qA]
     rfl
    refine za (i := 4) (N := some 36) (v := ?_) (a' := ?_) #[true, true, true, true, true, false, false, false, false, false, false, false, false, false, false, false, false, false, false] rfl rfl (ja HT_.out (by kernel_rfl)) (fun _ _ _ h => h) (Or.inl ⟨by rfl, ?_⟩) ?_ ?_
    rotate_left
    ·intro w'
     go_simp
     with_reducible rfl
    rotate_left
    ·simp only [Act.put, List.setIfInBounds_toArray, List.set_cons_zero, List.set_cons_succ, qz, qA]
     rfl
    refine za (i := 6) (N := some 38) (v := ?_) (a' := ?_) #[true, true, true, true, true, false, true, false, false, false, false, false, false, false, false, false, false, false, false] rfl rfl (ja HT_.out (by kernel_rfl)) (fun _ _ _ h => h) (Or.inl ⟨by rfl, ?_⟩) ?_ ?_
    rotate_left
    ·intro w'
     go_simp
     with_reducible rfl
    rotate_left
    ·simp only [Act.put, List.setIfInBounds_toArray, List.set_cons_zero, List.set_cons_succ, qz, qA]
     rfl
    refine za (i := 7) (N := some 39) (v := ?_) (a' := ?_) #[true, true, true, true, true, false, true, true, false, false, false, false, false, false, false, false, false, false, false] rfl rfl (ja HT_.out (by kernel_rfl)) (fun _ _ _ h => h) (Or.inl ⟨by rfl, ?_⟩) ?_ ?_
    rotate_left
    ·intro w'
     go_simp
     with_reducible rfl
    rotate_left
    ·simp only [Act.put, List.setIfInBounds_toArray, List.set_cons_zero, List.set_cons_succ, qz, qA]
     rfl
    refine za (i := 10) (N := some 42) (v := ?_) (a' := ?_) #[true, true, true, true, true, false, true, true, false, false, true, false, false, false, false, false, false, false, false] rfl rfl (ja HT_.out (by kernel_rfl)) (fun _ _ _ h => h) (Or.inl ⟨by rfl, ?_⟩) ?_ ?_
    rotate_left
    ·intro w'
     go_simp
     with_reducible rfl
    rotate_left
    ·simp only [Act.put, List.setIfInBounds_toArray, List.set_cons_zero, List.set_cons_succ, qz, qA]
     rfl
    refine za (i := 11) (N := some 43) (v := ?_) (a' := ?_) #[true, true, true, true, true, false, true, true, false, false, true, true, false, false, false, false, false, false, false] rfl rfl (ja HT_.out (by kernel_rfl)) (fun _ _ _ h => h) (Or.inl ⟨by rfl, ?_⟩) ?_ ?_
    rotate_left
    ·intro w'
     go_simp
     with_reducible rfl
    rotate_left
    ·simp only [Act.put, List.setIfInBounds_toArray, List.set_cons_zero, List.set_cons_succ, qz, qA]
     rfl
    refine za (i := 12) (N := some 44) (v := ?_) (a' := ?_) #[true, true, true, true, true, false, true, true, false, false, true, true, true, false, false, false, false, false, false] rfl rfl (ja HT_.out (by kernel_rfl)) (fun _ _ _ h => h) (Or.inl ⟨by rfl, ?_⟩) ?_ ?_
    rotate_left
    ·intro w'
     go_simp
     with_reducible rfl
    rotate_left
    ·simp only [Act.put, List.setIfInBounds_toArray, List.set_cons_zero, List.set_cons_succ, qz, qA]
     rfl
    refine za (i := 13) (N := some 45) (v := ?_) (a' := ?_) #[true, true, true, true, true, false, true, true, false, false, true, true, true, true, false, false, false, false, false] rfl rfl (ja HT_.out (by kernel_rfl)) (fun _ _ _ h => h) (Or.inl ⟨by rfl, ?_⟩) ?_ ?_
    rotate_left
    ·intro w'
     go_simp
     with_reducible rfl
    rotate_left
    ·simp only [Act.put, List.setIfInBounds_toArray, List.set_cons_zero, List.set_cons_succ, qz, qA]
     rfl
    refine zD (i := 5) (N := some 37) (v := ?_) (a' := ?_) #[true, true, true, true, true, true, true, true, false, false, true, true, true, true, false, false, false, false, false] rfl rfl (jK HT_.out HW_.out (by kernel_rfl)) (fun _ _ _ h => h) (Or.inl ⟨by rfl, ?_⟩) hHeld ?_ ?_
    rotate_left
    ·rintro w' ⟨s0, s1, s2, s3, s4, s5, s6, s7, s8⟩
     go_simp
     with_reducible rfl
    rotate_left
    ·simp only [Act.put, List.setIfInBounds_toArray, List.set_cons_zero, List.set_cons_succ, qz, qA]
     rfl
    refine zD (i := 8) (N := some 40) (v := ?_) (a' := ?_) #[true, true, true, true, true, true, true, true, true, false, true, true, true, true, false, false, false, false, false] rfl rfl (jK HT_.out HW_.out (by kernel_rfl)) (fun _ _ _ h => h) (Or.inl ⟨by rfl, ?_⟩) hHeld ?_ ?_
    rotate_left
    ·rintro w' ⟨s0, s1, s2, s3, s4, s5, s6, s7, s8⟩
     go_simp
     with_reducible rfl
    rotate_left
    ·simp only [Act.put, List.setIfInBounds_toArray, List.set_cons_zero, List.set_cons_succ, qz, qA]
     rfl
    refine zD (i := 14) (N := some 46) (v := ?_) (a' := ?_) #[true, true, true, true, true, true, true, true, true, false, true, true, true, true, true, false, false, false, false] rfl rfl (jK HT_.out HW_.out (by kernel_rfl)) (fun _ _ _ h => h) (Or.inl ⟨by rfl, ?_⟩) hHeld ?_ ?_
    rotate_left
    ·rintro w' ⟨s0, s1, s2, s3, s4, s5, s6, s7, s8⟩
     go_simp
     with_reducible rfl
    rotate_left
    ·simp only [Act.put, List.setIfInBounds_toArray, List.set_cons_zero, List.set_cons_succ, qz, qA]
     rfl
    refine za (i := 15) (N := some 47) (v := ?_) (a' := ?_) #[true, true, true, true, true, true, true, true, true, false, true, true, true, true, true, true, false, false, false] rfl rfl (ja HT_.out (by kernel_rfl)) (fun _ _ _ h => h) (Or.inl ⟨by rfl, ?_⟩) ?_ ?_
    rotate_left
    ·intro w'
     go_simp
     with_reducible rfl
    rotate_left
    ·simp only [Act.put, List.setIfInBounds_toArray, List.set_cons_zero, List.set_cons_succ, qz, qA]
     rfl
    refine jd (i := 9) (N := some 41) #[true, true, true, true, true, true, true, true, true, true, true, true, true, true, true, true, false, false, false] rfl rfl (jW HT_.out (by kernel_rfl)) (by decide) (fun K hK => ?_)
    refine zS Try.func51 (by kernel_rfl) rfl #[.agg #[.int .i64 ((ql l0 (ji31)).f0), .int .i64 ((ql l0 (ji31)).f1), .int .i64 ((ql l0 (ji31)).f2)], .agg #[.int .i64 ((ql l0 0).f0), .int .i64 ((ql l0 0).f1), .int .i64 ((ql l0 0).f2)]] (by rfl) rfl rfl (by (try simp only [List.map_toArray, List.map_cons, List.map_nil]); first | done | (simp only [hji31]; rfl) | rfl | (simp only [List.length_drop, List.length_take]; rfl)) ?_
    with_reducible refine (zM.calls k1 ((ql l0 (ji31)).f0) ((ql l0 (ji31)).f1) ((ql l0 (ji31)).f2) ((ql l0 0).f0) ((ql l0 0).f1) ((ql l0 0).f2) t159 t160 _ A35.out).mono ?_
    rintro e w37 ⟨rfl, hb⟩
    have HS0_ := (hb.cell (World.block_lt_of_cell? _ _ (hHeld.1))).trans (hHeld.1)
    have HS1_ := (hb.cell (World.block_lt_of_cell? _ _ (hHeld.2.1))).trans (hHeld.2.1)
    have HS2_ := (hb.cell (World.block_lt_of_cell? _ _ (hHeld.2.2.1))).trans (hHeld.2.2.1)
    have HS3_ := (hb.cell (World.block_lt_of_cell? _ _ (hHeld.2.2.2.1))).trans (hHeld.2.2.2.1)
    have HS4_ := (hb.cell (World.block_lt_of_cell? _ _ (hHeld.2.2.2.2.1))).trans (hHeld.2.2.2.2.1)
    have HS5_ := (hb.cell (World.block_lt_of_cell? _ _ (hHeld.2.2.2.2.2.1))).trans (hHeld.2.2.2.2.2.1)
    have HS6_ := (hb.cell (World.block_lt_of_cell? _ _ (hHeld.2.2.2.2.2.2.1))).trans (hHeld.2.2.2.2.2.2.1)
    have HS7_ := (hb.cell (World.block_lt_of_cell? _ _ (hHeld.2.2.2.2.2.2.2.1))).trans (hHeld.2.2.2.2.2.2.2.1)
    have HS8_ := (hb.cell (World.block_lt_of_cell? _ _ (hHeld.2.2.2.2.2.2.2.2))).trans (hHeld.2.2.2.2.2.2.2.2)
    refine ⟨_, rfl, ?_⟩
    have n0_ := qa.mk (Kd.QU (by (with_reducible repeat (first | apply Kd.jA | apply Kd.jC | apply Kd.jy)); exact HO_0.out) hb)
    have n1_ := qa.mk (Kd.QU (by (with_reducible repeat (first | apply Kd.jA | apply Kd.jC | apply Kd.jy)); exact HO_8.out) hb)
    have n2_ := qa.mk (qF (g := gb133) (o := .cells #[.int .i64 x134000_1, .int .i64 x134001_1] 35 (0, 0)) (kq BK133) hb)
    have n3_ := qa.mk (qh (bs HB GE133) hb)
    clear HO_0
    clear HO_8
    clear BK133
    clear HB
    have HO_0 := n0_
    have HO_8 := n1_
    have BK133 := n2_
    have HB := n3_
    clear n0_ n1_ n2_ n3_
    (try clear hb)
    (try clear hb2)
    (try clear hk)
    (try clear hi)
    refine hK.out _ _ ⟨HS0_, HS1_, HS2_, HS3_, HS4_, HS5_, HS6_, HS7_, HS8_⟩ (fun hHeld => ?_)
    clear hK K
    refine zo (a' := ?_) ?_ ?_
    rotate_left
    ·show Act.put _ (some 41) _ = _
     simp only [Act.put, List.setIfInBounds_toArray, List.set_cons_zero, List.set_cons_succ, qz, qA]
     rfl
    refine jd (i := 16) (N := none) #[true, true, true, true, true, true, true, true, true, true, true, true, true, true, true, true, true, false, false] rfl rfl (jW HT_.out (by kernel_rfl)) (by decide) (fun K hK => ?_)
    have hs38 : w37.cell? ⟨gb133, 0, none⟩ = some (.int .i64 x134000_1) := (qb BK133.out 0).trans rfl
    have hfs38 := qo BK133.out 0
    have hs39 : w37.cell? ⟨gb133, 1, none⟩ = some (.int .i64 x134001_1) := (qb BK133.out 1).trans rfl
    have hfs39 := qo BK133.out 1
    refine ZT (w1 := ?_) (by rfl) rfl ?_ ?_
    rotate_left
    ·go_simp
     rfl
    refine hK.out _ _ ⟨((cell_far (p := ⟨gb133, _, none⟩) (by first | exact Kd.zh (Kd.zq HO_0.out (fun _ hk => hk.2)) | (rw [add_block]; exact Kd.zh (Kd.zq HO_0.out (fun _ hk => hk.2))) | (show (Addr.add _ _).block ≠ _; rw [add_block]; exact Kd.zh (Kd.zq HO_0.out (fun _ hk => hk.2))) | (dsimp only; exact Kd.zh (Kd.zq HO_0.out (fun _ hk => hk.2)))) _).trans (((cell_far (p := ⟨gb133, _, none⟩) (by first | exact Kd.zh (Kd.zq HO_0.out (fun _ hk => hk.2)) | (rw [add_block]; exact Kd.zh (Kd.zq HO_0.out (fun _ hk => hk.2))) | (show (Addr.add _ _).block ≠ _; rw [add_block]; exact Kd.zh (Kd.zq HO_0.out (fun _ hk => hk.2))) | (dsimp only; exact Kd.zh (Kd.zq HO_0.out (fun _ hk => hk.2)))) _).trans (hHeld.1)))), ((cell_far (p := ⟨gb133, _, none⟩) (by first | exact Kd.zh (Kd.zq HO_0.out (fun _ hk => hk.2)) | (rw [add_block]; exact Kd.zh (Kd.zq HO_0.out (fun _ hk => hk.2))) | (show (Addr.add _ _).block ≠ _; rw [add_block]; exact Kd.zh (Kd.zq HO_0.out (fun _ hk => hk.2))) | (dsimp only; exact Kd.zh (Kd.zq HO_0.out (fun _ hk => hk.2)))) _).trans (((cell_far (p := ⟨gb133, _, none⟩) (by first | exact Kd.zh (Kd.zq HO_0.out (fun _ hk => hk.2)) | (rw [add_block]; exact Kd.zh (Kd.zq HO_0.out (fun _ hk => hk.2))) | (show (Addr.add _ _).block ≠ _; rw [add_block]; exact Kd.zh (Kd.zq HO_0.out (fun _ hk => hk.2))) | (dsimp only; exact Kd.zh (Kd.zq HO_0.out (fun _ hk => hk.2)))) _).trans (hHeld.2.1)))), ((cell_far (p := ⟨gb133, _, none⟩) (by first | exact Kd.zh (Kd.zq HO_0.out (fun _ hk => hk.2)) | (rw [add_block]; exact Kd.zh (Kd.zq HO_0.out (fun _ hk => hk.2))) | (show (Addr.add _ _).block ≠ _; rw [add_block]; exact Kd.zh (Kd.zq HO_0.out (fun _ hk => hk.2))) | (dsimp only; exact Kd.zh (Kd.zq HO_0.out (fun _ hk => hk.2)))) _).trans (((cell_far (p := ⟨gb133, _, none⟩) (by first | exact Kd.zh (Kd.zq HO_0.out (fun _ hk => hk.2)) | (rw [add_block]; exact Kd.zh (Kd.zq HO_0.out (fun _ hk => hk.2))) | (show (Addr.add _ _).block ≠ _; rw [add_block]; exact Kd.zh (Kd.zq HO_0.out (fun _ hk => hk.2))) | (dsimp only; exact Kd.zh (Kd.zq HO_0.out (fun _ hk => hk.2)))) _).trans (hHeld.2.2.1)))), ((cell_far (p := ⟨gb133, _, none⟩) (by first | exact Kd.zh (Kd.zq HO_0.out (fun _ hk => hk.2)) | (rw [add_block]; exact Kd.zh (Kd.zq HO_0.out (fun _ hk => hk.2))) | (show (Addr.add _ _).block ≠ _; rw [add_block]; exact Kd.zh (Kd.zq HO_0.out (fun _ hk => hk.2))) | (dsimp only; exact Kd.zh (Kd.zq HO_0.out (fun _ hk => hk.2)))) _).trans (((cell_far (p := ⟨gb133, _, none⟩) (by first | exact Kd.zh (Kd.zq HO_0.out (fun _ hk => hk.2)) | (rw [add_block]; exact Kd.zh (Kd.zq HO_0.out (fun _ hk => hk.2))) | (show (Addr.add _ _).block ≠ _; rw [add_block]; exact Kd.zh (Kd.zq HO_0.out (fun _ hk => hk.2))) | (dsimp only; exact Kd.zh (Kd.zq HO_0.out (fun _ hk => hk.2)))) _).trans (hHeld.2.2.2.1)))), ((cell_far (p := ⟨gb133, _, none⟩) (by first | exact Kd.zh (Kd.zq HO_0.out (fun _ hk => hk.2)) | (rw [add_block]; exact Kd.zh (Kd.zq HO_0.out (fun _ hk => hk.2))) | (show (Addr.add _ _).block ≠ _; rw [add_block]; exact Kd.zh (Kd.zq HO_0.out (fun _ hk => hk.2))) | (dsimp only; exact Kd.zh (Kd.zq HO_0.out (fun _ hk => hk.2)))) _).trans (((cell_far (p := ⟨gb133, _, none⟩) (by first | exact Kd.zh (Kd.zq HO_0.out (fun _ hk => hk.2)) | (rw [add_block]; exact Kd.zh (Kd.zq HO_0.out (fun _ hk => hk.2))) | (show (Addr.add _ _).block ≠ _; rw [add_block]; exact Kd.zh (Kd.zq HO_0.out (fun _ hk => hk.2))) | (dsimp only; exact Kd.zh (Kd.zq HO_0.out (fun _ hk => hk.2)))) _).trans (hHeld.2.2.2.2.1)))), ((cell_far (p := ⟨gb133, _, none⟩) (by first | exact Kd.zh (Kd.zq HO_0.out (fun _ hk => hk.2)) | (rw [add_block]; exact Kd.zh (Kd.zq HO_0.out (fun _ hk => hk.2))) | (show (Addr.add _ _).block ≠ _; rw [add_block]; exact Kd.zh (Kd.zq HO_0.out (fun _ hk => hk.2))) | (dsimp only; exact Kd.zh (Kd.zq HO_0.out (fun _ hk => hk.2)))) _).trans (((cell_far (p := ⟨gb133, _, none⟩) (by first | exact Kd.zh (Kd.zq HO_0.out (fun _ hk => hk.2)) | (rw [add_block]; exact Kd.zh (Kd.zq HO_0.out (fun _ hk => hk.2))) | (show (Addr.add _ _).block ≠ _; rw [add_block]; exact Kd.zh (Kd.zq HO_0.out (fun _ hk => hk.2))) | (dsimp only; exact Kd.zh (Kd.zq HO_0.out (fun _ hk => hk.2)))) _).trans (hHeld.2.2.2.2.2.1)))), ((cell_far (p := ⟨gb133, _, none⟩) (by first | exact Kd.zh (Kd.zq HO_0.out (fun _ hk => hk.2)) | (rw [add_block]; exact Kd.zh (Kd.zq HO_0.out (fun _ hk => hk.2))) | (show (Addr.add _ _).block ≠ _; rw [add_block]; exact Kd.zh (Kd.zq HO_0.out (fun _ hk => hk.2))) | (dsimp only; exact Kd.zh (Kd.zq HO_0.out (fun _ hk => hk.2)))) _).trans (((cell_far (p := ⟨gb133, _, none⟩) (by first | exact Kd.zh (Kd.zq HO_0.out (fun _ hk => hk.2)) | (rw [add_block]; exact Kd.zh (Kd.zq HO_0.out (fun _ hk => hk.2))) | (show (Addr.add _ _).block ≠ _; rw [add_block]; exact Kd.zh (Kd.zq HO_0.out (fun _ hk => hk.2))) | (dsimp only; exact Kd.zh (Kd.zq HO_0.out (fun _ hk => hk.2)))) _).trans (hHeld.2.2.2.2.2.2.1)))), ((cell_far (p := ⟨gb133, _, none⟩) (by first | exact Kd.zh (Kd.zq HO_0.out (fun _ hk => hk.2)) | (rw [add_block]; exact Kd.zh (Kd.zq HO_0.out (fun _ hk => hk.2))) | (show (Addr.add _ _).block ≠ _; rw [add_block]; exact Kd.zh (Kd.zq HO_0.out (fun _ hk => hk.2))) | (dsimp only; exact Kd.zh (Kd.zq HO_0.out (fun _ hk => hk.2)))) _).trans (((cell_far (p := ⟨gb133, _, none⟩) (by first | exact Kd.zh (Kd.zq HO_0.out (fun _ hk => hk.2)) | (rw [add_block]; exact Kd.zh (Kd.zq HO_0.out (fun _ hk => hk.2))) | (show (Addr.add _ _).block ≠ _; rw [add_block]; exact Kd.zh (Kd.zq HO_0.out (fun _ hk => hk.2))) | (dsimp only; exact Kd.zh (Kd.zq HO_0.out (fun _ hk => hk.2)))) _).trans (hHeld.2.2.2.2.2.2.2.1)))), ((cell_far (p := ⟨gb133, _, none⟩) (by first | exact Kd.zh (Kd.zq HO_0.out (fun _ hk => hk.2)) | (rw [add_block]; exact Kd.zh (Kd.zq HO_0.out (fun _ hk => hk.2))) | (show (Addr.add _ _).block ≠ _; rw [add_block]; exact Kd.zh (Kd.zq HO_0.out (fun _ hk => hk.2))) | (dsimp only; exact Kd.zh (Kd.zq HO_0.out (fun _ hk => hk.2)))) _).trans (((cell_far (p := ⟨gb133, _, none⟩) (by first | exact Kd.zh (Kd.zq HO_0.out (fun _ hk => hk.2)) | (rw [add_block]; exact Kd.zh (Kd.zq HO_0.out (fun _ hk => hk.2))) | (show (Addr.add _ _).block ≠ _; rw [add_block]; exact Kd.zh (Kd.zq HO_0.out (fun _ hk => hk.2))) | (dsimp only; exact Kd.zh (Kd.zq HO_0.out (fun _ hk => hk.2)))) _).trans (hHeld.2.2.2.2.2.2.2.2))))⟩ (fun hHeld => ?_)
    clear hK K
    refine za (i := 17) (N := some 3) (v := ?_) (a' := ?_) #[true, true, true, true, true, true, true, true, true, true, true, true, true, true, true, true, true, true, false] rfl rfl (ja HT_.out (by kernel_rfl)) (fun _ _ _ h => h) (Or.inl ⟨by rfl, ?_⟩) ?_ ?_
    rotate_left
    ·intro w'
     go_simp
     with_reducible rfl
    rotate_left
    ·simp only [Act.put, List.setIfInBounds_toArray, List.set_cons_zero, List.set_cons_succ, qz, qA]
     rfl
    refine za (i := 18) (N := some 4) (v := ?_) (a' := ?_) #[true, true, true, true, true, true, true, true, true, true, true, true, true, true, true, true, true, true, true] rfl rfl (ja HT_.out (by kernel_rfl)) (fun _ _ _ h => h) (Or.inl ⟨by rfl, ?_⟩) ?_ ?_
    rotate_left
    ·intro w'
     go_simp
     with_reducible rfl
    rotate_left
    ·simp only [Act.put, List.setIfInBounds_toArray, List.set_cons_zero, List.set_cons_succ, qz, qA]
     rfl
    refine Qa (Ji HT_.out (by kernel_rfl)) ?_
    try go_wp2
    refine bodyPost_ret (qaJ rfl _ _ gb133 35 #[.int .i64 t159, .int .i64 t160] (0, 0) _ rfl (by (with_reducible repeat (first | refine qj ?_ _ | refine qd ?_ | refine qg ?_ _)); refine zb (cs := #[.int .i64 t159, .int .i64 x134001_1]) ?_ 1 _ rfl; refine zb (cs := #[.int .i64 x134000_1, .int .i64 x134001_1]) ?_ 0 _ rfl; exact kq BK133) Try.underlying35 rfl (by kernel_rfl)) rfl ?_
    exact ⟨_, by first | rfl | (simp [qR, qU] <;> rfl) | (simp only [← hji31]; first | rfl | (simp [qR, qU] <;> rfl)) | (simp [*, qR, qU] <;> rfl), by (with_reducible repeat (first | apply Kd.jA | apply Kd.jC | apply Kd.jy)); exact Kd.QE (Kd.Zb (p := ⟨gb133, 1, none⟩) (Kd.Zb (p := ⟨gb133, 0, none⟩) (Kd.QE HO_0.out (fun k_ hk => (⟨hk, hk.2⟩ : _ ∧ k_ ≠ gb133))) (fun _ hk => hk.2) (.int .i64 t159)) (fun _ hk => hk.2) (.int .i64 t160)) (fun _ hk => hk.1.1), bs HB GE133⟩
   rw [if_pos c3] at H
   have c3b0 : decide (x10_1 < (l0.length : Int)) = true := decide_eq_true c3
   clear c3
   by_cases c4 : 0 ≤ x10_1
   case neg =>
    rw [if_neg c4] at H
    exact absurd H (by simp)
   rw [if_pos c4] at H
   have c4b0 : decide (0 ≤ x10_1) = true := decide_eq_true c4
   clear c4
   by_cases c5 : x10_1 < (l0.length : Int)
   case neg =>
    rw [if_neg c5] at H
    exact absurd H (by simp)
   rw [if_pos c5] at H
   have c5b0 : decide (x10_1 < (l0.length : Int)) = true := decide_eq_true c5
   clear c5
   by_cases c6 : ((ql l0 x10_1).f2) = 1
   case neg =>
    rw [if_neg c6] at H
    have c6b0 : (((ql l0 x10_1).f2) == 1) = false := beq_eq_false_iff_ne.mpr c6
    have c6b1 : (((ql l0 x10_1).f2) != 1) = true := bne_iff_ne.mpr c6
    have H' := qa.mk H
    clear H
    have p134 : 0 ≤ (x10_1 : Int) := odt
    have q134 : x10_1 < (l0.length : Int) := odt
    obtain ⟨ad134, e134, hx134_0, hx134_1, hx134_2⟩ := jh (Kd.QN HO_8.out).2.2 x10_1 p134 q134
    cases e134
    replace p134 := eq_true p134
    replace q134 := eq_true q134
    go_wp2_with (first | ((with_reducible refine zl (N := 6) rfl ?_); refine zF ?hg (N := 6) ?hd (cs := #[.int .i64 0, .int .i64 0, .int .i64 0]) (t := 40) ?hr ?_; (case hd => rfl); (case hg => rfl); (case hr => first | (go_simp; done) | (go_simp; rfl)); intro gb135 hg w28 hbox hb; have n0_ := qa.mk (Kd.QU (Kd.Jp (by (with_reducible repeat (first | apply Kd.jA | apply Kd.jC | apply Kd.jy)); exact HO_0.out) gb135 (Nat.le_of_eq hg.symm)) hb); have n1_ := qa.mk (Kd.QU (Kd.Jp (by (with_reducible repeat (first | apply Kd.jA | apply Kd.jC | apply Kd.jy)); exact HO_8.out) gb135 (Nat.le_of_eq hg.symm)) hb); have n2_ := qa.mk (qF (g := gb133) (o := .cells #[.int .i64 x134000_1, .int .i64 x134001_1] 35 (0, 0)) (kq BK133) hb); have n3_ := qa.mk (qh (bs HB GE133) hb); have n4_ := qa.mk (hbox); have n5_ := qa.mk ((by rw [hg]; exact (qx (bs HB GE133)) : w.heap.size ≤ gb135)); have n6_ := qa.mk ((by rw [hg]; exact (qx (bs HB GE133)) : w.heap.size ≤ gb135)); have n7_ := qa.mk ((by rw [hg]; exact Nat.ne_of_lt (qy (g := gb133) (o := .cells #[.int .i64 x134000_1, .int .i64 x134001_1] 35 (0, 0)) (kq BK133)) : gb133 ≠ gb135)); have n8_ := qa.mk ((by rw [hg]; exact Nat.ne_of_gt (qy (g := gb133) (o := .cells #[.int .i64 x134000_1, .int .i64 x134001_1] 35 (0, 0)) (kq BK133)) : gb135 ≠ gb133)); clear HO_0; clear HO_8; clear BK133; clear HB; have HO_0 := n0_; have HO_8 := n1_; have BK133 := n2_; have HB := n3_; have BK135 := n4_; have GW135 := n5_; have GE135 := n6_; have NB133_135 := n7_; have NB135_133 := n8_; clear n0_ n1_ n2_ n3_ n4_ n5_ n6_ n7_ n8_; clear hb hbox hg; have hnb29 := NB135_133.out; have hnc29 := NB133_135.out; have hcz30_0 : w28.cell? ⟨gb135, 0, none⟩ = some (.int .i64 0) := (qb BK135.out 0).trans rfl; have hcz30_1 : w28.cell? ⟨gb135, 1, none⟩ = some (.int .i64 0) := (qb BK135.out 1).trans rfl; have hcz30_2 : w28.cell? ⟨gb135, 2, none⟩ = some (.int .i64 0) := (qb BK135.out 2).trans rfl; have hfz30_0 := qo BK135.out 0; have hfz30_1 := qo BK135.out 1; have hfz30_2 := qo BK135.out 2))
    go_roundg k1
    case measure => have := HK1.out; omega
    case rel => exact ⟨(wrap64 (x10_1 + 1)), (x134000_1), (x134001_1), (by first | rfl | (simp; done) | (simp [*]; done)), H', ⟨by have := HK1.out; omega⟩, ⟨by (with_reducible repeat (first | apply Kd.jA | apply Kd.jC | apply Kd.jy)); exact Kd.QE (Kd.Zb (p := ⟨gb135, 2, none⟩) (Kd.Zb (p := ⟨gb135, 1, none⟩) (Kd.Zb (p := ⟨gb135, 0, none⟩) (Kd.QE HO_0.out (fun k_ hk => (⟨hk, hk.2⟩ : _ ∧ k_ ≠ gb135))) (fun _ hk => hk.2) (.int .i64 ((ql l0 x10_1).f0))) (fun _ hk => hk.2) (.int .i64 ((ql l0 x10_1).f1))) (fun _ hk => hk.2) (.int .i64 ((ql l0 x10_1).f2))) (fun _ hk => ⟨hk.1.1.1, hk.1.1.2⟩)⟩, ⟨by (with_reducible repeat (first | apply Kd.jA | apply Kd.jC | apply Kd.jy)); exact Kd.QE (Kd.Zb (p := ⟨gb135, 2, none⟩) (Kd.Zb (p := ⟨gb135, 1, none⟩) (Kd.Zb (p := ⟨gb135, 0, none⟩) (Kd.QE HO_8.out (fun k_ hk => (⟨hk, hk.2⟩ : _ ∧ k_ ≠ gb135))) (fun _ hk => hk.2) (.int .i64 ((ql l0 x10_1).f0))) (fun _ hk => hk.2) (.int .i64 ((ql l0 x10_1).f1))) (fun _ hk => hk.2) (.int .i64 ((ql l0 x10_1).f2))) (fun _ hk => ⟨hk.1.1.1, hk.1.1.2⟩)⟩, ⟨by (with_reducible repeat (first | refine qj ?_ _ | refine qd ?_ | refine qg ?_ _)); refine zk ?_ NB133_135.out _; refine zk ?_ NB133_135.out _; refine zk ?_ NB133_135.out _; exact kq BK133⟩, ⟨by repeat (first | (with_reducible first | exact HB.out | apply qw | apply qC | apply qJ | refine qf ?_ GE133.out | refine qf ?_ GE135.out) | exact HB.out)⟩⟩
   rw [if_pos c6] at H
   have c6b0 : (((ql l0 x10_1).f2) == 1) = true := beq_iff_eq.mpr c6
   have c6b1 : (((ql l0 x10_1).f2) != 1) = false := bne_eq_false_iff_eq.mpr c6
   clear c6
   obtain ⟨y136, hy136⟩ : ∃ y_ : List (S40), y_ = (([] : List (S40))) := ⟨_, rfl⟩
   replace H : (if 0 ≤ (wrap64 (x10_1 + 1)) then (if (wrap64 (x10_1 + 1)) ≤ (l0.length : Int) then ((some (l0.drop ((wrap64 (x10_1 + 1)) : Int).toNat : List (S40))).bind fun y139 => (if y136.length + y139.length < 5864062014805 then ((some (y136 ++ y139 : List (S40))).bind fun y144 => ((jD.f ((ql l0 x10_1).f0) ((ql l0 x10_1).f1) ((ql l0 x10_1).f2)).bind fun bt147 => (if x10_1 ≤ (l0.length : Int) then ((some (l0.take (x10_1 : Int).toNat : List (S40))).bind fun y149 => (if y144.length + y149.length < 5864062014805 then (some (bt147.1, bt147.2, (y144 ++ y149), true)) else (none))) else (none)))) else (none))) else (none)) else (none)) = some (r1, r2, r3, r4) := by first | (rw [hy136]; with_reducible exact H) | (have H2_ := (Option.bind_some _ _).symm.trans H; rw [hy136]; with_reducible exact H2_) | (have H2_ := (Option.bind_some _ _).symm.trans H; with_reducible exact H2_) | with_reducible exact H | (rw [hy136]; exact H) | exact H
   have Ny136 := qa.mk hy136
   clear hy136
   obtain ⟨ji7, hji7⟩ : ∃ j_ : Int, (wrap64 (x10_1 + 1)) = j_ := ⟨_, rfl⟩
   replace H : (if 0 ≤ (ji7) then (if (ji7) ≤ (l0.length : Int) then ((some (l0.drop ((ji7) : Int).toNat : List (S40))).bind fun y139 => (if y136.length + y139.length < 5864062014805 then ((some (y136 ++ y139 : List (S40))).bind fun y144 => ((jD.f ((ql l0 x10_1).f0) ((ql l0 x10_1).f1) ((ql l0 x10_1).f2)).bind fun bt147 => (if x10_1 ≤ (l0.length : Int) then ((some (l0.take (x10_1 : Int).toNat : List (S40))).bind fun y149 => (if y144.length + y149.length < 5864062014805 then (some (bt147.1, bt147.2, (y144 ++ y149), true)) else (none))) else (none)))) else (none))) else (none)) else (none)) = some (r1, r2, r3, r4) := by first | (rw [hji7] at H; exact H) | (simp only [hji7] at H ⊢; exact H)
   have hji7w : (IntKind.i64.wrap (x10_1 + 1)) = ji7 := (qz _).trans hji7
   by_cases c8 : 0 ≤ (ji7)
   case neg =>
    rw [if_neg c8] at H
    exact absurd H (by simp)
   rw [if_pos c8] at H
   have c8b0 := eq_true c8
   have c8b1 : decide (0 ≤ (ji7)) = true := decide_eq_true c8
   clear c8
   by_cases c9 : (ji7) ≤ (l0.length : Int)
   case neg =>
    rw [if_neg c9] at H
    exact absurd H (by simp)
   rw [if_pos c9] at H
   have c9b0 := eq_true c9
   have c9b1 : decide ((ji7) ≤ (l0.length : Int)) = true := decide_eq_true c9
   clear c9
   obtain ⟨y139, hy139⟩ : ∃ y_ : List (S40), y_ = (l0.drop ((ji7) : Int).toNat) := ⟨_, rfl⟩
   replace H : (if y136.length + y139.length < 5864062014805 then ((some (y136 ++ y139 : List (S40))).bind fun y144 => ((jD.f ((ql l0 x10_1).f0) ((ql l0 x10_1).f1) ((ql l0 x10_1).f2)).bind fun bt147 => (if x10_1 ≤ (l0.length : Int) then ((some (l0.take (x10_1 : Int).toNat : List (S40))).bind fun y149 => (if y144.length + y149.length < 5864062014805 then (some (bt147.1, bt147.2, (y144 ++ y149), true)) else (none))) else (none)))) else (none)) = some (r1, r2, r3, r4) := by first | (rw [hy139]; with_reducible exact H) | (have H2_ := (Option.bind_some _ _).symm.trans H; rw [hy139]; with_reducible exact H2_) | (have H2_ := (Option.bind_some _ _).symm.trans H; with_reducible exact H2_) | with_reducible exact H | (rw [hy139]; exact H) | exact H
   have Ny139 := qa.mk hy139
   clear hy139
   by_cases c10 : y136.length + y139.length < 5864062014805
   case neg =>
    rw [if_neg c10] at H
    exact absurd H (by simp)
   rw [if_pos c10] at H
   have LMc10 := qa.mk c10
   clear c10
   obtain ⟨y144, hy144⟩ : ∃ y_ : List (S40), y_ = (y136 ++ y139) := ⟨_, rfl⟩
   replace H : ((jD.f ((ql l0 x10_1).f0) ((ql l0 x10_1).f1) ((ql l0 x10_1).f2)).bind fun bt147 => (if x10_1 ≤ (l0.length : Int) then ((some (l0.take (x10_1 : Int).toNat : List (S40))).bind fun y149 => (if y144.length + y149.length < 5864062014805 then (some (bt147.1, bt147.2, (y144 ++ y149), true)) else (none))) else (none))) = some (r1, r2, r3, r4) := by first | (rw [hy144]; with_reducible exact H) | (have H2_ := (Option.bind_some _ _).symm.trans H; rw [hy144]; with_reducible exact H2_) | (have H2_ := (Option.bind_some _ _).symm.trans H; with_reducible exact H2_) | with_reducible exact H | (rw [hy144]; exact H) | exact H
   have Ny144 := qa.mk hy144
   clear hy144
   replace H := Option.bind_eq_some_iff.mp H
   obtain ⟨⟨t147, t148⟩, A110, H⟩ := H
   replace H : (if x10_1 ≤ (l0.length : Int) then ((some (l0.take (x10_1 : Int).toNat : List (S40))).bind fun y149 => (if y144.length + y149.length < 5864062014805 then (some (t147, t148, (y144 ++ y149), true)) else (none))) else (none)) = some (r1, r2, r3, r4) := H
   have A11 := qa.mk A110
   clear A110
   have c12b0 := eq_true (odt : 0 ≤ x10_1)
   by_cases c13 : x10_1 ≤ (l0.length : Int)
   case neg =>
    rw [if_neg c13] at H
    exact absurd H (by simp)
   rw [if_pos c13] at H
   have c13b0 := eq_true c13
   have c13b1 : decide (x10_1 ≤ (l0.length : Int)) = true := decide_eq_true c13
   clear c13
   obtain ⟨y149, hy149⟩ : ∃ y_ : List (S40), y_ = (l0.take (x10_1 : Int).toNat) := ⟨_, rfl⟩
   replace H : (if y144.length + y149.length < 5864062014805 then (some (t147, t148, (y144 ++ y149), true)) else (none)) = some (r1, r2, r3, r4) := by first | (rw [hy149]; with_reducible exact H) | (have H2_ := (Option.bind_some _ _).symm.trans H; rw [hy149]; with_reducible exact H2_) | (have H2_ := (Option.bind_some _ _).symm.trans H; with_reducible exact H2_) | with_reducible exact H | (rw [hy149]; exact H) | exact H
   have Ny149 := qa.mk hy149
   clear hy149
   by_cases c14 : y144.length + y149.length < 5864062014805
   case neg =>
    rw [if_neg c14] at H
    exact absurd H (by simp)
   rw [if_pos c14] at H
   have LMc14 := qa.mk c14
   clear c14
   obtain ⟨y154, hy154⟩ : ∃ y_ : List (S40), y_ = (y144 ++ y149) := ⟨_, rfl⟩
   replace H : (some (t147, t148, y154, true)) = some (r1, r2, r3, r4) := by first | (rw [hy154]; with_reducible exact H) | (have H2_ := (Option.bind_some _ _).symm.trans H; rw [hy154]; with_reducible exact H2_) | (have H2_ := (Option.bind_some _ _).symm.trans H; with_reducible exact H2_) | with_reducible exact H | (rw [hy154]; exact H) | exact H
   have Ny154 := qa.mk hy154
   clear hy154
   simp only [Option.some.injEq, Prod.mk.injEq] at H
   obtain ⟨rfl, rfl, rfl, rfl⟩ := H
   have p134 : 0 ≤ (x10_1 : Int) := odt
   have q134 : x10_1 < (l0.length : Int) := odt
   obtain ⟨ad134, e134, hx134_0, hx134_1, hx134_2⟩ := jh (Kd.QN HO_8.out).2.2 x10_1 p134 q134
   cases e134
   replace p134 := eq_true p134
   replace q134 := eq_true q134
   try go_wp2_with (first | ((with_reducible refine zl (N := 6) rfl ?_); refine zF ?hg (N := 6) ?hd (cs := #[.int .i64 0, .int .i64 0, .int .i64 0]) (t := 40) ?hr ?_; (case hd => rfl); (case hg => rfl); (case hr => first | (go_simp; done) | (go_simp; rfl)); intro gb135 hg w15 hbox hb; have n0_ := qa.mk (Kd.QU (Kd.Jp (by (with_reducible repeat (first | apply Kd.jA | apply Kd.jC | apply Kd.jy)); exact HO_0.out) gb135 (Nat.le_of_eq hg.symm)) hb); have n1_ := qa.mk (Kd.QU (Kd.Jp (by (with_reducible repeat (first | apply Kd.jA | apply Kd.jC | apply Kd.jy)); exact HO_8.out) gb135 (Nat.le_of_eq hg.symm)) hb); have n2_ := qa.mk (qF (g := gb133) (o := .cells #[.int .i64 x134000_1, .int .i64 x134001_1] 35 (0, 0)) (kq BK133) hb); have n3_ := qa.mk (qh (bs HB GE133) hb); have n4_ := qa.mk (hbox); have n5_ := qa.mk ((by rw [hg]; exact (qx (bs HB GE133)) : w.heap.size ≤ gb135)); have n6_ := qa.mk ((by rw [hg]; exact (qx (bs HB GE133)) : w.heap.size ≤ gb135)); have n7_ := qa.mk ((by rw [hg]; exact Nat.ne_of_lt (qy (g := gb133) (o := .cells #[.int .i64 x134000_1, .int .i64 x134001_1] 35 (0, 0)) (kq BK133)) : gb133 ≠ gb135)); have n8_ := qa.mk ((by rw [hg]; exact Nat.ne_of_gt (qy (g := gb133) (o := .cells #[.int .i64 x134000_1, .int .i64 x134001_1] 35 (0, 0)) (kq BK133)) : gb135 ≠ gb133)); clear HO_0; clear HO_8; clear BK133; clear HB; have HO_0 := n0_; have HO_8 := n1_; have BK133 := n2_; have HB := n3_; have BK135 := n4_; have GW135 := n5_; have GE135 := n6_; have NB133_135 := n7_; have NB135_133 := n8_; clear n0_ n1_ n2_ n3_ n4_ n5_ n6_ n7_ n8_; clear hb hbox hg; have hnb16 := NB135_133.out; have hnc16 := NB133_135.out; have hcz17_0 : w15.cell? ⟨gb135, 0, none⟩ = some (.int .i64 0) := (qb BK135.out 0).trans rfl; have hcz17_1 : w15.cell? ⟨gb135, 1, none⟩ = some (.int .i64 0) := (qb BK135.out 1).trans rfl; have hcz17_2 : w15.cell? ⟨gb135, 2, none⟩ = some (.int .i64 0) := (qb BK135.out 2).trans rfl; have hfz17_0 := qo BK135.out 0; have hfz17_1 := qo BK135.out 1; have hfz17_2 := qo BK135.out 2) | ((with_reducible refine zl (N := 18) rfl ?_); refine Kd.Za k40 _ 40 ?hg (N := 18) ?hd (xs := ([] : List (S40))) (inner := []) (ok := fun _ => True) (okp := fun _ => True) ?hr ?hp (fun _ hk => hk) trivial (Below.refl _ _) (Nat.le_refl _) (by simp) ?_; (case hd => rfl); (case hg => rfl); (case hr => first | (go_simp; done) | (go_simp; rfl)); (case hp => exact (zn.none _ _)); intro v137 w18 ho19 hb hg_ hnew_; clear hg_ hnew_; (first | rw [← Ny136.out] at ho19 | (simp only [Int.reduceToNat] at ho19; rw [← Ny136.out] at ho19)); have n0_ := qa.mk (Kd.V_elder' (by (with_reducible repeat (first | apply Kd.jA | apply Kd.jC | apply Kd.jy)); exact (Kd.QE (Kd.Zb (p := ⟨gb135, 2, none⟩) (Kd.Zb (p := ⟨gb135, 1, none⟩) (Kd.Zb (p := ⟨gb135, 0, none⟩) (Kd.QE HO_0.out (fun k_ hk => (⟨hk, hk.2⟩ : _ ∧ k_ ≠ gb135))) (fun _ hk => hk.2) (.int .i64 ((ql l0 x10_1).f0))) (fun _ hk => hk.2) (.int .i64 ((ql l0 x10_1).f1))) (fun _ hk => hk.2) (.int .i64 ((ql l0 x10_1).f2))) (fun _ h_ => h_.1))) (Kd.Zt ho19) hb); have n1_ := qa.mk (Kd.V_elder' (by (with_reducible repeat (first | apply Kd.jA | apply Kd.jC | apply Kd.jy)); exact (Kd.QE (Kd.Zb (p := ⟨gb135, 2, none⟩) (Kd.Zb (p := ⟨gb135, 1, none⟩) (Kd.Zb (p := ⟨gb135, 0, none⟩) (Kd.QE HO_8.out (fun k_ hk => (⟨hk, hk.2⟩ : _ ∧ k_ ≠ gb135))) (fun _ hk => hk.2) (.int .i64 ((ql l0 x10_1).f0))) (fun _ hk => hk.2) (.int .i64 ((ql l0 x10_1).f1))) (fun _ hk => hk.2) (.int .i64 ((ql l0 x10_1).f2))) (fun _ h_ => h_.1))) (Kd.Zt ho19) hb); have n2_ := qa.mk (Kd.jU (Kd.R_newB (Kd.R_newM (M := fun k_ => (w.heap.size ≤ k_)) ho19 (qx (by repeat (first | (with_reducible first | exact HB.out | apply qw | apply qC | apply qJ | refine qf ?_ GE133.out | refine qf ?_ GE135.out) | exact HB.out))) (fun k_ h_ => h_)) (g := gb135) (o := .cells #[.int .i64 ((ql l0 x10_1).f0), .int .i64 ((ql l0 x10_1).f1), .int .i64 ((ql l0 x10_1).f2)] 40 (0, 0)) (by (with_reducible repeat (first | refine qj ?_ _ | refine qd ?_ | refine qg ?_ _)); refine zb (cs := #[.int .i64 ((ql l0 x10_1).f0), .int .i64 ((ql l0 x10_1).f1), .int .i64 0]) ?_ 2 _ rfl; refine zb (cs := #[.int .i64 ((ql l0 x10_1).f0), .int .i64 0, .int .i64 0]) ?_ 1 _ rfl; refine zb (cs := #[.int .i64 0, .int .i64 0, .int .i64 0]) ?_ 0 _ rfl; exact kq BK135)) (qx (by repeat (first | (with_reducible first | exact HB.out | apply qw | apply qC | apply qJ | refine qf ?_ GE133.out | refine qf ?_ GE135.out) | exact HB.out)))); have n3_ := qa.mk (qF (g := gb133) (o := .cells #[.int .i64 x134000_1, .int .i64 x134001_1] 35 (0, 0)) (by (with_reducible repeat (first | refine qj ?_ _ | refine qd ?_ | refine qg ?_ _)); refine zk ?_ NB133_135.out _; refine zk ?_ NB133_135.out _; refine zk ?_ NB133_135.out _; exact kq BK133) hb); have n4_ := qa.mk (qF (g := gb135) (o := .cells #[.int .i64 ((ql l0 x10_1).f0), .int .i64 ((ql l0 x10_1).f1), .int .i64 ((ql l0 x10_1).f2)] 40 (0, 0)) (by (with_reducible repeat (first | refine qj ?_ _ | refine qd ?_ | refine qg ?_ _)); refine zb (cs := #[.int .i64 ((ql l0 x10_1).f0), .int .i64 ((ql l0 x10_1).f1), .int .i64 0]) ?_ 2 _ rfl; refine zb (cs := #[.int .i64 ((ql l0 x10_1).f0), .int .i64 0, .int .i64 0]) ?_ 1 _ rfl; refine zb (cs := #[.int .i64 0, .int .i64 0, .int .i64 0]) ?_ 0 _ rfl; exact kq BK135) hb); have n5_ := qa.mk (qh (by repeat (first | (with_reducible first | exact HB.out | apply qw | apply qC | apply qJ | refine qf ?_ GE133.out | refine qf ?_ GE135.out) | exact HB.out)) hb); clear HO_0; clear HO_8; clear BK133; clear BK135; clear HB; have HO_0 := n0_; have HO_8 := n1_; have HO138 := n2_; have BK133 := n3_; have BK135 := n4_; have HB := n5_; clear n0_ n1_ n2_ n3_ n4_ n5_; clear hb ho19; have q20 : ((ji7) : Int) ≤ ((l0.length : Int) : Int) := odt; obtain ⟨i020, hi020, _, hsz20, _⟩ := info_parts QW; have hroom20 : l0.length ≤ c0 := (Kd.QN HO_0.out).2.1; have hC20 : Kd.F k40 _ _ (some ad134) l0.length l0 := (Kd.V_at (base := w.heap.size) HO_0.out).2.2; have q020 : (0 : Int) ≤ ((ji7) : Int) := odt; have hcut20 := cut_from (P := Try.prog) 37 40 .i64 Try.underlying37 hi020 3 hsz20 (some ad134) l0.length c0 (ji7) q020 q20; have hr20 := Kd.F_cut (m := ((ji7) : Int).toNat) (c := c0) hC20 (by omega) hroom20; obtain ⟨A20, hA20⟩ : ∃ A1, A1 = (if c0 = ((ji7) : Int).toNat then (some ad134) else ((some ad134) : Option Addr).map (·.add (((ji7) : Int).toNat * 3))) := ⟨_, rfl⟩; obtain ⟨c20, hc20⟩ : ∃ c1, c1 = c0 - ((ji7) : Int).toNat := ⟨_, rfl⟩; have hy20 : y139.length = l0.length - ((ji7) : Int).toNat := (by rw [Ny139.out, List.length_drop] <;> omega); rw [show (l0).drop ((ji7) : Int).toNat = y139 from Ny139.out.symm] at hr20; replace hr20 : Kd.F k40 _ _ A20 y139.length y139 := (by rw [hA20]; exact hr20); rw [← hy20, ← hA20, ← hc20] at hcut20; have HO143 := qa.mk (show Kd.V k40 40 _ w.heap.size _ (.slice A20 y139.length c20) y139 from Kd.V_mk (by rw [hy20, hc20]; exact Nat.sub_le_sub_right hroom20 _) hr20); have HC143 := qa.mk (show y139.length ≤ c20 from by rw [hy20, hc20]; exact Nat.sub_le_sub_right hroom20 _); clear hr20 hC20 hroom20 hi020 hsz20 hc20; have KY20 := qa.mk hy20; have KA20 := qa.mk hA20; clear hy20 hA20; replace q20 := eq_true q20) | ((with_reducible refine Qq (b := .append) (xs := #[.tmp 18, .tmp 22]) rfl ?_); at_builtin; refine Kd.qad k40 (w0 := w) w.heap.size rfl (.tmp 18) (.tmp 22) 37 40 (.agg #[(.int .i64 0), (.int .i64 0), (.int .i64 0)]) 24 rfl Try.underlying37 QW rfl (by decide) (by omega) v137 y136 y139 _ _ _ (fun k_ => (w.heap.size ≤ k_) ∧ k_ ≠ gb135) (fun _ => False) rfl rfl ?aO ?aR (fun _ _ h => h) (fun _ h => h.elim) ?aF ?aB ?aS ?aL ?_; (case aR => repeat (first | exact (Kd.QN HO143.out).2.2 | (with_reducible refine Kd.jY ?_ _) | (with_reducible refine Kd.j6 ?_ _) | (with_reducible refine Kd.Qt ?_))); (case aB => exact (by repeat (first | (with_reducible first | exact HB.out | apply qw | apply qC | apply qJ | refine qf ?_ GE133.out | refine qf ?_ GE135.out) | exact HB.out))); (case aF => exact (fun k_ hk => ⟨(Nat.le_trans (qx (by repeat (first | (with_reducible first | exact HB.out | apply qw | apply qC | apply qJ | refine qf ?_ GE133.out | refine qf ?_ GE135.out) | exact HB.out))) hk), Kd.freshB (g := gb135) (o := .cells #[.int .i64 ((ql l0 x10_1).f0), .int .i64 ((ql l0 x10_1).f1), .int .i64 ((ql l0 x10_1).f2)] 40 (0, 0)) (kq BK135) k_ hk⟩)); (case aO => exact (by (with_reducible repeat (first | apply Kd.Qe | apply Kd.Qv | apply Kd.Qu)); exact Kd.zV HO138.out (fun _ hk => ⟨hk.1.1, hk.2⟩))); (case aS => exact (qx (by repeat (first | (with_reducible first | exact HB.out | apply qw | apply qC | apply qJ | refine qf ?_ GE133.out | refine qf ?_ GE135.out) | exact HB.out)))); (case aL => have := LMc10.out; omega); intro v145 w21 ho hb hg hat; rw [← Ny144.out] at ho; have n0_ := qa.mk (Kd.Zy (ok := (fun k_ => (P0_ k_ ∨ w.heap.size ≤ k_) ∧ k_ ≠ gb133 ∧ k_ ≠ gb135)) (by (with_reducible repeat (first | apply Kd.jA | apply Kd.jC | apply Kd.jy)); exact Kd.QE HO_0.out (fun _ hk => ⟨⟨hk.1.1.1, ⟨hk.1.1.2, hk.1.2⟩⟩, hk.2⟩)) hg hat); have n1_ := qa.mk (Kd.Zy (ok := (fun k_ => (P0_ k_ ∨ w.heap.size ≤ k_) ∧ k_ ≠ gb133 ∧ k_ ≠ gb135)) (by (with_reducible repeat (first | apply Kd.jA | apply Kd.jC | apply Kd.jy)); exact Kd.QE HO_8.out (fun _ hk => ⟨⟨hk.1.1.1, ⟨hk.1.1.2, hk.1.2⟩⟩, hk.2⟩)) hg hat); have n2_ := qa.mk (Qy (g := gb133) (o := .cells #[.int .i64 x134000_1, .int .i64 x134001_1] 35 (0, 0)) (kq BK133) hg (Kd.R_ne HO138.out BK133.out (by decide))); have n3_ := qa.mk (Qy (g := gb135) (o := .cells #[.int .i64 ((ql l0 x10_1).f0), .int .i64 ((ql l0 x10_1).f1), .int .i64 ((ql l0 x10_1).f2)] 40 (0, 0)) (kq BK135) hg (Kd.R_away HO138.out (fun _ hk => hk.2))); have n4_ := qa.mk (Kd.Zy (ok := (fun k_ => (P0_ k_ ∨ w.heap.size ≤ k_) ∧ k_ ≠ gb133 ∧ k_ ≠ gb135)) (by (with_reducible repeat (first | apply Kd.jA | apply Kd.jC | apply Kd.jy)); exact Kd.QE HO143.out (fun _ hk => ⟨⟨hk.1.1.1, ⟨hk.1.1.2, hk.1.2⟩⟩, hk.2⟩)) hg hat); have n5_ := qa.mk (hb); have n6_ := qa.mk (ho); clear HO_0; clear HO_8; clear BK133; clear BK135; clear HO143; clear HB; clear HO138; have HO_0 := n0_; have HO_8 := n1_; have BK133 := n2_; have BK135 := n3_; have HO143 := n4_; have HB := n5_; have HO146 := n6_; clear n0_ n1_ n2_ n3_ n4_ n5_ n6_; clear ho hb hg hat))
   have n0_ := qa.mk (Kd.jy HO_0.out)
   have n1_ := qa.mk (Kd.jy HO_8.out)
   have n2_ := qa.mk (Kd.jy HO143.out)
   have n3_ := qa.mk (Kd.Qu HO146.out)
   have n4_ := qa.mk (qd BK133.out)
   have n5_ := qa.mk (qd BK135.out)
   have n6_ := qa.mk (qJ HB.out)
   clear HO_0
   clear HO_8
   clear HO143
   clear HO146
   clear BK133
   clear BK135
   clear HB
   have HO_0 := n0_
   have HO_8 := n1_
   have HO143 := n2_
   have HO146 := n3_
   have BK133 := n4_
   have BK135 := n5_
   have HB := n6_
   clear n0_ n1_ n2_ n3_ n4_ n5_ n6_
   have q23 : (x10_1 : Int) ≤ ((l0.length : Int) : Int) := odt
   obtain ⟨i023, hi023, _, hsz23, _⟩ := info_parts QW
   have hroom23 : l0.length ≤ c0 := (Kd.QN HO_0.out).2.1
   have hC23 : Kd.F k40 _ _ (some ad134) l0.length l0 := (Kd.V_at (base := w.heap.size) HO_0.out).2.2
   have hcut23 := cut_to (P := Try.prog) 37 40 .i64 Try.underlying37 hi023 (some ad134) l0.length c0 x10_1 (odt) q23 hroom23
   have hr23 := Kd.F_take (m := (x10_1 : Int).toNat) hC23 (by omega)
   have hy23 : y149.length = (x10_1 : Int).toNat := (by rw [Ny149.out, List.length_take]; omega)
   rw [← Ny149.out] at hr23
   rw [← hy23] at hcut23
   have HO153 := qa.mk (show Kd.V k40 40 _ w.heap.size _ (.slice (some ad134) y149.length c0) y149 from Kd.V_mk (by omega) hr23)
   have HC153 := qa.mk (show y149.length ≤ c0 from by omega)
   clear hr23 hC23 hroom23 hi023 hsz23
   have KY23 := qa.mk hy23
   clear hy23
   replace q23 := eq_true q23
   refine jS (n := 10) (S := fun w' => w'.cell? ⟨gb135, 0, none⟩ = some (.int .i64 ((ql l0 x10_1).f0)) ∧ w'.cell? ⟨gb135, 1, none⟩ = some (.int .i64 ((ql l0 x10_1).f1)) ∧ w'.cell? ⟨gb135, 2, none⟩ = some (.int .i64 ((ql l0 x10_1).f2))) (ds := []) #[false, false, false, false, false, false, false, false, false, false] (by kernel_rfl) rfl rfl ⟨(qb BK135.out 0).trans rfl, (qb BK135.out 1).trans rfl, (qb BK135.out 2).trans rfl⟩ (fun hHeld => ?_); refine ZE zg.tab6 zg.bits6 (fun HT_ HW_ => ?_)
   generalize w21.drew = w22 at HO_0 HO_8 HO143 HO146 BK133 BK135 HB HO153 hHeld ⊢
   refine za (i := 2) (N := some 26) (v := ?_) (a' := ?_) #[false, false, true, false, false, false, false, false, false, false] rfl rfl (ja HT_.out (by kernel_rfl)) (fun _ _ _ h => h) (Or.inl ⟨by rfl, ?_⟩) ?_ ?_
   rotate_left
   ·intro w'
    go_simp
    with_reducible rfl
   rotate_left
   ·simp only [Act.put, List.setIfInBounds_toArray, List.set_cons_zero, List.set_cons_succ, qz, qA]
    rfl
   refine za (i := 3) (N := some 27) (v := ?_) (a' := ?_) #[false, false, true, true, false, false, false, false, false, false] rfl rfl (ja HT_.out (by kernel_rfl)) (fun _ _ _ h => h) (Or.inl ⟨by rfl, ?_⟩) ?_ ?_
   rotate_left
   ·intro w'
    go_simp
    with_reducible rfl
   rotate_left
   ·simp only [Act.put, List.setIfInBounds_toArray, List.set_cons_zero, List.set_cons_succ, qz, qA]
    rfl
   refine za (i := 4) (N := some 28) (v := ?_) (a' := ?_) #[false, false, true, true, true, false, false, false, false, false] rfl rfl (ja HT_.out (by kernel_rfl)) (fun _ _ _ h => h) (Or.inl ⟨by rfl, ?_⟩) ?_ ?_
   rotate_left
   ·intro w'
    go_simp
    with_reducible rfl
   rotate_left
   ·simp only [Act.put, List.setIfInBounds_toArray, List.set_cons_zero, List.set_cons_succ, qz, qA]
    rfl
   refine za (i := 5) (N := some 29) (v := ?_) (a' := ?_) #[false, false, true, true, true, true, false, false, false, false] rfl rfl (ja HT_.out (by kernel_rfl)) (fun _ _ _ h => h) (Or.inl ⟨by rfl, ?_⟩) ?_ ?_
   rotate_left
   ·intro w'
    go_simp
    with_reducible rfl
   rotate_left
   ·simp only [Act.put, List.setIfInBounds_toArray, List.set_cons_zero, List.set_cons_succ, qz, qA]
    rfl
   refine zD (i := 0) (N := some 24) (v := ?_) (a' := ?_) #[true, false, true, true, true, true, false, false, false, false] rfl rfl (jK HT_.out HW_.out (by kernel_rfl)) (fun _ _ _ h => h) (Or.inl ⟨by rfl, ?_⟩) hHeld ?_ ?_
   rotate_left
   ·rintro w' ⟨s0, s1, s2⟩
    go_simp
    with_reducible rfl
   rotate_left
   ·simp only [Act.put, List.setIfInBounds_toArray, List.set_cons_zero, List.set_cons_succ, qz, qA]
    rfl
   refine jd (i := 1) (N := some 25) #[true, true, true, true, true, true, false, false, false, false] rfl rfl (jW HT_.out (by kernel_rfl)) (by decide) (fun K hK => ?_)
   refine zS Try.func49 (by kernel_rfl) rfl #[.agg #[.int .i64 ((ql l0 x10_1).f0), .int .i64 ((ql l0 x10_1).f1), .int .i64 ((ql l0 x10_1).f2)]] (by rfl) rfl rfl (by (try simp only [List.map_toArray, List.map_cons, List.map_nil]); first | done | rfl | (simp only [List.length_drop, List.length_take]; rfl)) ?_
   with_reducible refine (jD.calls ((ql l0 x10_1).f0) ((ql l0 x10_1).f1) ((ql l0 x10_1).f2) t147 t148 _ A11.out).mono ?_
   rintro e w24 ⟨rfl, hb⟩
   refine ⟨_, rfl, ?_⟩
   have n0_ := qa.mk (Kd.QU (by (with_reducible repeat (first | apply Kd.jA | apply Kd.jC | apply Kd.jy)); exact HO_0.out) hb)
   have n1_ := qa.mk (Kd.QU (by (with_reducible repeat (first | apply Kd.jA | apply Kd.jC | apply Kd.jy)); exact HO_8.out) hb)
   have n2_ := qa.mk (Kd.QU (by (with_reducible repeat (first | apply Kd.jA | apply Kd.jC | apply Kd.jy)); exact HO143.out) hb)
   have n3_ := qa.mk (Kd.QC (rq HO146) hb)
   have n4_ := qa.mk (Kd.QU (by (with_reducible repeat (first | apply Kd.jA | apply Kd.jC | apply Kd.jy)); exact HO153.out) hb)
   have n5_ := qa.mk (qF (g := gb133) (o := .cells #[.int .i64 x134000_1, .int .i64 x134001_1] 35 (0, 0)) (kq BK133) hb)
   have n6_ := qa.mk (qF (g := gb135) (o := .cells #[.int .i64 ((ql l0 x10_1).f0), .int .i64 ((ql l0 x10_1).f1), .int .i64 ((ql l0 x10_1).f2)] 40 (0, 0)) (kq BK135) hb)
   have n7_ := qa.mk (qh (by repeat (first | (with_reducible first | exact HB.out | apply qw | apply qC | apply qJ | refine qf ?_ GE133.out | refine qf ?_ GE135.out) | exact HB.out)) hb)
   clear HO_0
   clear HO_8
   clear HO143
   clear HO146
   clear HO153
   clear BK133
   clear BK135
   clear HB
   have HO_0 := n0_
   have HO_8 := n1_
   have HO143 := n2_
   have HO146 := n3_
   have HO153 := n4_
   have BK133 := n5_
   have BK135 := n6_
   have HB := n7_
   clear n0_ n1_ n2_ n3_ n4_ n5_ n6_ n7_
   (try clear hb)
   (try clear hb2)
   (try clear hk)
   (try clear hi)
   refine hK.out _ _ ⟨(qb BK135.out 0).trans rfl, (qb BK135.out 1).trans rfl, (qb BK135.out 2).trans rfl⟩ (fun hHeld => ?_)
   clear hK K
   refine zo (a' := ?_) ?_ ?_
   rotate_left
   ·show Act.put _ (some 25) _ = _
    simp only [Act.put, List.setIfInBounds_toArray, List.set_cons_zero, List.set_cons_succ, qz, qA]
    rfl
   refine jd (i := 6) (N := some 30) #[true, true, true, true, true, true, true, false, false, false] rfl rfl (jW HT_.out (by kernel_rfl)) (by decide) (fun K hK => ?_)
   refine Kd.qao k40 (w0 := w) w.heap.size (by rfl) (.tmp 26) (.tmp 29) 37 40 (.agg #[(.int .i64 0), (.int .i64 0), (.int .i64 0)]) 24 rfl Try.underlying37 QW rfl (by decide) (by omega) v145 y144 y149 _ _ _ (fun k_ => (w.heap.size ≤ k_) ∧ k_ ≠ gb135) (fun _ => False) rfl rfl ?aO ?aR (fun _ _ h => h) (fun _ h => h.elim) ?aF ?aB ?aS ?aL ?_
   (case aR => repeat (first | exact (Kd.QN HO153.out).2.2 | (with_reducible refine Kd.jY ?_ _) | (with_reducible refine Kd.j6 ?_ _) | (with_reducible refine Kd.Qt ?_)))
   (case aB => exact (by repeat (first | (with_reducible first | exact HB.out | apply qw | apply qC | apply qJ | refine qf ?_ GE133.out | refine qf ?_ GE135.out) | exact HB.out)))
   (case aF => exact (fun k_ hk => ⟨(Nat.le_trans (qx (by repeat (first | (with_reducible first | exact HB.out | apply qw | apply qC | apply qJ | refine qf ?_ GE133.out | refine qf ?_ GE135.out) | exact HB.out))) hk), Kd.freshB (g := gb135) (o := .cells #[.int .i64 ((ql l0 x10_1).f0), .int .i64 ((ql l0 x10_1).f1), .int .i64 ((ql l0 x10_1).f2)] 40 (0, 0)) (kq BK135) k_ hk⟩))
   (case aO => exact (rq HO146))
   (case aS => exact (qx (by repeat (first | (with_reducible first | exact HB.out | apply qw | apply qC | apply qJ | refine qf ?_ GE133.out | refine qf ?_ GE135.out) | exact HB.out))))
   (case aL => have := LMc14.out; omega)
   intro v155 w25 ho hb hg hat
   rw [← Ny154.out] at ho
   have n0_ := qa.mk (Kd.Zy (ok := (fun k_ => (P0_ k_ ∨ w.heap.size ≤ k_) ∧ k_ ≠ gb133 ∧ k_ ≠ gb135)) (by (with_reducible repeat (first | apply Kd.jA | apply Kd.jC | apply Kd.jy)); exact HO_0.out) hg hat)
   have n1_ := qa.mk (Kd.Zy (ok := (fun k_ => (P0_ k_ ∨ w.heap.size ≤ k_) ∧ k_ ≠ gb133 ∧ k_ ≠ gb135)) (by (with_reducible repeat (first | apply Kd.jA | apply Kd.jC | apply Kd.jy)); exact HO_8.out) hg hat)
   have n2_ := qa.mk (Qy (g := gb133) (o := .cells #[.int .i64 x134000_1, .int .i64 x134001_1] 35 (0, 0)) (kq BK133) hg (Kd.R_ne HO146.out BK133.out (by decide)))
   have n3_ := qa.mk (Qy (g := gb135) (o := .cells #[.int .i64 ((ql l0 x10_1).f0), .int .i64 ((ql l0 x10_1).f1), .int .i64 ((ql l0 x10_1).f2)] 40 (0, 0)) (kq BK135) hg (Kd.R_away HO146.out (fun _ hk => hk.2)))
   have n4_ := qa.mk (Kd.Zy (ok := (fun k_ => (P0_ k_ ∨ w.heap.size ≤ k_) ∧ k_ ≠ gb133 ∧ k_ ≠ gb135)) (by (with_reducible repeat (first | apply Kd.jA | apply Kd.jC | apply Kd.jy)); exact HO143.out) hg hat)
   have n5_ := qa.mk (Kd.Zy (ok := (fun k_ => (P0_ k_ ∨ w.heap.size ≤ k_) ∧ k_ ≠ gb133 ∧ k_ ≠ gb135)) (by (with_reducible repeat (first | apply Kd.jA | apply Kd.jC | apply Kd.jy)); exact HO153.out) hg hat)
   have n6_ := qa.mk (hb)
   have n7_ := qa.mk (ho)
   clear HO_0
   clear HO_8
   clear BK133
   clear BK135
   clear HO143
   clear HO153
   clear HB
   clear HO146
   have HO_0 := n0_
   have HO_8 := n1_
   have BK133 := n2_
   have BK135 := n3_
   have HO143 := n4_
   have HO153 := n5_
   have HB := n6_
   have HO156 := n7_
   clear n0_ n1_ n2_ n3_ n4_ n5_ n6_ n7_
   clear ho hb hg hat
   refine hK.out _ _ ⟨(qb BK135.out 0).trans rfl, (qb BK135.out 1).trans rfl, (qb BK135.out 2).trans rfl⟩ (fun hHeld => ?_)
   clear hK K
   refine zo (a' := ?_) ?_ ?_
   rotate_left
   ·show Act.put _ (some 30) _ = _
    simp only [Act.put, List.setIfInBounds_toArray, List.set_cons_zero, List.set_cons_succ, qz, qA]
    rfl
   refine jd (i := 7) (N := none) #[true, true, true, true, true, true, true, true, false, false] rfl rfl (jW HT_.out (by kernel_rfl)) (by decide) (fun K hK => ?_)
   have hs26 : w25.cell? ⟨gb133, 0, none⟩ = some (.int .i64 x134000_1) := (qb BK133.out 0).trans rfl
   have hfs26 := qo BK133.out 0
   have hns26_1 := NB135_133.out
   have hms26_1 := NB133_135.out
   have hs27 : w25.cell? ⟨gb133, 1, none⟩ = some (.int .i64 x134001_1) := (qb BK133.out 1).trans rfl
   have hfs27 := qo BK133.out 1
   have hns27_1 := NB135_133.out
   have hms27_1 := NB133_135.out
   refine ZT (w1 := ?_) (by rfl) rfl ?_ ?_
   rotate_left
   ·go_simp
    rfl
   refine hK.out _ _ ⟨((cell_far (p := ⟨gb133, _, none⟩) NB135_133.out _).trans (((cell_far (p := ⟨gb133, _, none⟩) NB135_133.out _).trans (hHeld.1)))), ((cell_far (p := ⟨gb133, _, none⟩) NB135_133.out _).trans (((cell_far (p := ⟨gb133, _, none⟩) NB135_133.out _).trans (hHeld.2.1)))), ((cell_far (p := ⟨gb133, _, none⟩) NB135_133.out _).trans (((cell_far (p := ⟨gb133, _, none⟩) NB135_133.out _).trans (hHeld.2.2))))⟩ (fun hHeld => ?_)
   clear hK K
   refine za (i := 8) (N := some 3) (v := ?_) (a' := ?_) #[true, true, true, true, true, true, true, true, true, false] rfl rfl (ja HT_.out (by kernel_rfl)) (fun _ _ _ h => h) (Or.inl ⟨by rfl, ?_⟩) ?_ ?_
   rotate_left
   ·intro w'
    go_simp
    with_reducible rfl
   rotate_left
   ·simp only [Act.put, List.setIfInBounds_toArray, List.set_cons_zero, List.set_cons_succ, qz, qA]
    rfl
   refine za (i := 9) (N := some 4) (v := ?_) (a' := ?_) #[true, true, true, true, true, true, true, true, true, true] rfl rfl (ja HT_.out (by kernel_rfl)) (fun _ _ _ h => h) (Or.inl ⟨by rfl, ?_⟩) ?_ ?_
   rotate_left
   ·intro w'
    go_simp
    with_reducible rfl
   rotate_left
   ·simp only [Act.put, List.setIfInBounds_toArray, List.set_cons_zero, List.set_cons_succ, qz, qA]
    rfl
   refine Qa (Ji HT_.out (by kernel_rfl)) ?_
   try go_wp2
   refine bodyPost_ret (qaJ rfl _ _ gb133 35 #[.int .i64 t147, .int .i64 t148] (0, 0) _ rfl (by (with_reducible repeat (first | refine qj ?_ _ | refine qd ?_ | refine qg ?_ _)); refine zb (cs := #[.int .i64 t147, .int .i64 x134001_1]) ?_ 1 _ rfl; refine zb (cs := #[.int .i64 x134000_1, .int .i64 x134001_1]) ?_ 0 _ rfl; exact kq BK133) Try.underlying35 rfl (by kernel_rfl)) rfl ?_
   exact ⟨_, by first | rfl | (simp [qR, qU] <;> rfl) | (simp only [← hji7]; first | rfl | (simp [qR, qU] <;> rfl)) | (simp [*, qR, qU] <;> rfl), Kd.QE (Kd.R_V (by (with_reducible repeat (first | apply Kd.Qe | apply Kd.Qv | apply Kd.Qu)); exact Kd.zV (Kd.QO (p := ⟨gb133, 1, none⟩) (Kd.QO (p := ⟨gb133, 0, none⟩) (Kd.R_types HO156.out BK133.out (by decide)) (fun _ hk => hk.2) (.int .i64 t147)) (fun _ hk => hk.2) (.int .i64 t148)) (fun _ hk => hk.1.1))) (fun k_ hk => by first | exact ⟨(.inr (hk.1)), hk.2⟩ | exact (.inr (hk))), by repeat (first | (with_reducible first | exact HB.out | apply qw | apply qC | apply qJ | refine qf ?_ GE133.out | refine qf ?_ GE135.out) | exact HB.out)⟩
end Go.Proofs.Ytmlkpadlafjfeaa.P
