-- written by a program of this session (wip/xprint.py) over the kit's print
import Derived.Test.YtfbanppdiglciaaYx0
import Derived.Test.YtfbanppdiglciaaYx5
import Derived.Test.YtfbanppdiglciaaYx10
namespace Go.Proofs.Ytfbanppdiglciaa.Y
open Go.RowKit Go.Proofs.YtfbanppdiglciaaW.PrintWords Go.Proofs.YtfbanppdiglciaaW.PrintLast Go.Proofs.YtfbanppdiglciaaW.PrintMore
attribute [local go_sem] max2_int min2_int max_two min_two max_three min_three max_four min_four   -- for this text's walks alone
set_option linter.unusedVariables false
set_option linter.unusedSimpArgs false

/-! ### justify_Set: function 23 -/
theorem sp_x_block_add (a : Addr) (n : Nat) : (a.add n).block = a.block := by unfold Addr.add; split <;> rfl
theorem sp_x_cell_alloc (w : World) (o : Obj) (a : Addr) (h : a.block < w.heap.size) : (w.alloc o).cell? a = w.cell? a := World.cell?_alloc_lt w o a h
theorem sp_x_frozen_alloc (w : World) (o : Obj) (a : Addr) (h : a.block < w.heap.size) : (w.alloc o).frozen? a = w.frozen? a := by
  simp only [World.frozen?]; rw [Below.heap_alloc w o a.block h]
theorem sp_of48 (a b c d e : Int) (f : Bool) (w : World) : Calls Try.prog 48 #[.agg #[.int .i64 a, .int .i64 b, .int .i64 c, .int .i64 d, .int .i64 e, .bool f]] w fun e' w' => e' = .returned (.int .i64 c) ∧ Below w.heap.size w w' := by
  go_enter Try.func48, Try.ntmps48
  go_wp2
  go_ret
  exact ⟨rfl, by repeat (first | exact Below.refl _ _ | apply below_alloc | apply pw_below_drewN)⟩
theorem sp_of49 (a b c d e : Int) (f : Bool) (w : World) : Calls Try.prog 49 #[.agg #[.int .i64 a, .int .i64 b, .int .i64 c, .int .i64 d, .int .i64 e, .bool f]] w fun e' w' => e' = .returned (.int .i64 d) ∧ Below w.heap.size w w' := by
  go_enter Try.func49, Try.ntmps49
  go_wp2
  go_ret
  exact ⟨rfl, by repeat (first | exact Below.refl _ _ | apply below_alloc | apply pw_below_drewN)⟩
def spL (k : Nat) (d whole : Int) (b : Bool) : List S31 → List Int → Int → Int → Option (List Int)
  | [], zs, _, _ => some zs
  | _ :: _, [], _, _ => none
  | x :: r, z :: zs, dn, gv => if x.f0 = 2 then (justify_share.f k d (wrap64 (dn + (if b = true then x.f2 else x.f3))) whole).bind fun sh => (spL k d whole b r zs (wrap64 (dn + (if b = true then x.f2 else x.f3))) (wrap64 (gv + wrap64 (sh - gv)))).bind fun q => some (wrap64 (z + wrap64 (sh - gv)) :: q)
    else (spL k d whole b r zs dn gv).bind fun q => some (z :: q)
/-- The row of numbers of the call's own. -/
def SpW (w0 : World) (g : Nat) (Z : List Int) (W : World) : Prop := W.heap[g]? = some (.cells (Z.map (Value.int .i64)).toArray 3 (0, 0)) ∧ w0.heap.size ≤ g ∧ Below w0.heap.size w0 W
theorem sp_lt {w0 W : World} {g : Nat} {Z : List Int} (h : SpW w0 g Z W) : g < W.heap.size := by
  rcases Nat.lt_or_ge g W.heap.size with c | c
  · exact c
  · have := h.1; rw [Array.getElem?_eq_none c] at this; cases this
theorem sp_cell {w0 W : World} {g o : Nat} {Z : List Int} (h : SpW w0 g Z W) (ho : o < Z.length) : W.cell? ⟨g, o, none⟩ = some (.int .i64 (Z.getD o 0)) := by
  rw [cell_of_row W g o _ 3 (0, 0) h.1]
  simp [List.getD_eq_getElem?_getD, List.getElem?_eq_getElem ho]
theorem sp_free {w0 W : World} {g : Nat} {Z : List Int} (h : SpW w0 g Z W) (o : Nat) : W.frozen? ⟨g, o, none⟩ = false := by
  simp [World.frozen?, h.1]
theorem sp_set {w0 W : World} {g : Nat} {Z : List Int} (h : SpW w0 g Z W) (o : Nat) (v : Int) : SpW w0 g (Z.set o v) (W.setCell ⟨g, o, none⟩ (.int .i64 v)) := by
  refine ⟨?_, h.2.1, below_set h.2.2 h.2.1⟩
  have := blk_set h.1 o (.int .i64 v)
  rw [this]
  simp [List.setIfInBounds_toArray, List.map_set]
theorem sp_alloc {w0 W : World} {g : Nat} {Z : List Int} (h : SpW w0 g Z W) (o : Obj) : SpW w0 g Z (W.alloc o) := ⟨blk_alloc h.1 o, h.2.1, below_alloc h.2.2 o⟩
theorem sp_drew {w0 W : World} {g : Nat} {Z : List Int} (h : SpW w0 g Z W) : SpW w0 g Z W.drew := ⟨blk_drew h.1, h.2.1, below_drew h.2.2⟩
theorem sp_drewN {w0 W : World} {g : Nat} {Z : List Int} (h : SpW w0 g Z W) (n : Nat) : SpW w0 g Z (W.drewN n) := ⟨blk_drewN h.1 n, h.2.1, pw_below_drewN h.2.2 n⟩
theorem sp_below {w0 W W1 : World} {g : Nat} {Z : List Int} (h : SpW w0 g Z W) (hb : Below W.heap.size W W1) : SpW w0 g Z W1 := ⟨(hb.block g (sp_lt h)).trans h.1, h.2.1, below_step h.2.2 hb⟩
theorem spL_cons {k : Nat} {d whole : Int} {b : Bool} {L : List S31} {Zs R : List Int} {i o : Nat} {dn gv : Int} (hi : i < L.length) (ho : o < R.length) (h : spL k d whole b (L.drop i) Zs dn gv = some (R.drop o)) :
    ∃ z zs, Zs = z :: zs ∧ (((rd_T31 L (i : Int)).f0 = 2 ∧ ∃ sh, justify_share.f k d (wrap64 (dn + (if b = true then (rd_T31 L (i : Int)).f2 else (rd_T31 L (i : Int)).f3))) whole = some sh ∧ spL k d whole b (L.drop (i + 1)) zs (wrap64 (dn + (if b = true then (rd_T31 L (i : Int)).f2 else (rd_T31 L (i : Int)).f3))) (wrap64 (gv + wrap64 (sh - gv))) = some (R.drop (o + 1)) ∧ R.getD o 0 = wrap64 (z + wrap64 (sh - gv))) ∨
      ((rd_T31 L (i : Int)).f0 ≠ 2 ∧ spL k d whole b (L.drop (i + 1)) zs dn gv = some (R.drop (o + 1)) ∧ R.getD o 0 = z)) := by
  rw [List.drop_eq_getElem_cons hi, List.drop_eq_getElem_cons ho] at h
  have hx : rd_T31 L (i : Int) = L[i] := by unfold rd_T31; rw [Int.toNat_natCast, List.getD_eq_getElem?_getD, List.getElem?_eq_getElem hi]; rfl
  have hr : R.getD o 0 = R[o] := by rw [List.getD_eq_getElem?_getD, List.getElem?_eq_getElem ho]; rfl
  rw [hx, hr]
  match Zs, h with
  | [], h => simp [spL] at h
  | z :: zs, h =>
    refine ⟨z, zs, rfl, ?_⟩
    simp only [spL] at h
    by_cases c : L[i].f0 = 2
    · rw [if_pos c] at h
      obtain ⟨sh, h1, h⟩ := Option.bind_eq_some_iff.mp h
      obtain ⟨q, h2, h⟩ := Option.bind_eq_some_iff.mp h
      injection h with h
      injection h with h3 h4
      subst h4
      exact .inl ⟨c, sh, h1, h2, h3.symm⟩
    · rw [if_neg c] at h
      obtain ⟨q, h2, h⟩ := Option.bind_eq_some_iff.mp h
      injection h with h
      injection h with h3 h4
      subst h4
      exact .inr ⟨c, h2, h3.symm⟩
theorem sp_drop_set {Z zs : List Int} {j : Nat} {z v : Int} (h : Z.drop j = z :: zs) : (Z.set j v).drop (j + 1) = zs := by
  have e : Z.drop (j + 1) = zs := by rw [← List.drop_drop, h]; rfl
  rw [List.drop_set_of_lt (by omega), e]
theorem sp_len_of {Z zs : List Int} {j : Nat} {z : Int} (h : Z.drop j = z :: zs) : j < Z.length := by
  rcases Nat.lt_or_ge j Z.length with c | c
  · exact c
  · rw [List.drop_of_length_le c] at h; cases h
/-- Where the loop stands. -/
def SpR (w0 : World) (g off n : Nat) (k : Nat) (d whole : Int) (b : Bool) (L : List S31) (R : List Int) (i : Nat) (dn gv : Int) (W : World) : Prop :=
  ∃ Z : List Int, SpW w0 g Z W ∧ Z.length = n ∧ (∀ o, o < off + i → Z.getD o 0 = R.getD o 0) ∧ spL k d whole b (L.drop i) (Z.drop (off + i)) dn gv = some (R.drop (off + i))
theorem sp_glue {w0 : World} {g off n : Nat} {k : Nat} {d whole : Int} {b : Bool} {L : List S31} {R : List Int} {i : Nat} {dn gv z v : Int} {W : World} {Z zs : List Int} (h : SpW w0 g Z W) (zl : Z.length = n) (z3 : ∀ o, o < off + i → Z.getD o 0 = R.getD o 0) (ez : Z.drop (off + i) = z :: zs)
    (w2 : spL k d whole b (L.drop (i + 1)) zs dn gv = some (R.drop (off + i + 1))) (w3 : R.getD (off + i) 0 = v) : SpR w0 g off n k d whole b L R (i + 1) dn gv (W.setCell ⟨g, off + i, none⟩ (.int .i64 v)) := by
  have hl := sp_len_of ez
  refine ⟨Z.set (off + i) v, sp_set h _ _, by simpa using zl, fun o ho => ?_, ?_⟩
  · by_cases e : o = off + i
    · subst e; rw [w3, List.getD_eq_getElem?_getD, List.getElem?_set_self hl]; rfl
    · rw [List.getD_eq_getElem?_getD, List.getElem?_set_ne (fun z => e z.symm), ← List.getD_eq_getElem?_getD]; exact z3 o (by omega)
  · show spL k d whole b (L.drop (i + 1)) ((Z.set (off + i) v).drop (off + i + 1)) dn gv = _
    rw [sp_drop_set ez]; exact w2
theorem sp_skip {w0 : World} {g off n : Nat} {k : Nat} {d whole : Int} {b : Bool} {L : List S31} {R : List Int} {i : Nat} {dn gv z : Int} {W : World} {Z zs : List Int} (h : SpW w0 g Z W) (zl : Z.length = n) (z3 : ∀ o, o < off + i → Z.getD o 0 = R.getD o 0) (ez : Z.drop (off + i) = z :: zs)
    (w2 : spL k d whole b (L.drop (i + 1)) zs dn gv = some (R.drop (off + i + 1))) (w3 : R.getD (off + i) 0 = z) : SpR w0 g off n k d whole b L R (i + 1) dn gv W := by
  refine ⟨Z, h, zl, fun o ho => ?_, ?_⟩
  · by_cases e : o = off + i
    · subst e
      have : (Z.drop (off + i))[0]? = some z := by rw [ez]; rfl
      rw [List.getElem?_drop, Nat.add_zero] at this
      rw [w3, List.getD_eq_getElem?_getD, this]; rfl
    · exact z3 o (by omega)
  · show spL k d whole b (L.drop (i + 1)) (Z.drop (off + i + 1)) dn gv = _
    have e : Z.drop (off + i + 1) = zs := by rw [← List.drop_drop, ez]; rfl
    rw [e]; exact w2
theorem sp_end {w0 : World} {g off n : Nat} {k : Nat} {d whole : Int} {b : Bool} {L : List S31} {R : List Int} {dn gv : Int} {W : World} (hR : R.length = n) (h : SpR w0 g off n k d whole b L R L.length dn gv W) : SpW w0 g R W := by
  obtain ⟨Z, z1, z2, z3, z4⟩ := h
  rw [List.drop_length] at z4
  simp only [spL, Option.some.injEq] at z4
  have : Z = R := by
    apply List.ext_getElem?
    intro j
    by_cases c : j < off + L.length
    · have := z3 j c
      by_cases cl : j < n
      · rw [List.getElem?_eq_getElem (by omega), List.getElem?_eq_getElem (by omega)]
        rw [List.getD_eq_getElem?_getD, List.getD_eq_getElem?_getD, List.getElem?_eq_getElem (by omega), List.getElem?_eq_getElem (by omega)] at this
        exact congrArg some this
      · rw [List.getElem?_eq_none (by omega), List.getElem?_eq_none (by omega)]
    · have e1 : Z[j]? = (Z.drop (off + L.length))[j - (off + L.length)]? := by rw [List.getElem?_drop]; congr 1; omega
      have e2 : R[j]? = (R.drop (off + L.length))[j - (off + L.length)]? := by rw [List.getElem?_drop]; congr 1; omega
      rw [e1, e2, z4]
  rw [← this]; exact z1
section
attribute [local go_sem] sp_x_block_add sp_x_cell_alloc sp_x_frozen_alloc
set_option maxHeartbeats 4000000 in
set_option maxRecDepth 100000 in
theorem sp_walk (k : Nat) (Al : Option Addr) (L : List S31) (lc ol oc g off n : Nat) (d s0 s1 s2 : Int) (R : List Int) (w0 w : World) (hd : 0 < d) (hs : ¬ s1 = 0) (ho : L.length ≤ ol) (hn : off + ol = n) (hR : R.length = n) (hm : (n : Int) ≤ 9000000000000000000) (HR : Aside0 (Kd.C k31 w0 Al L.length L)) (HS : Aside0 (SpR w0 g off n k d s1 true L R 0 0 0 w)) :
    Calls Try.prog 37 #[.slice Al L.length lc, .slice (some ⟨g, off, none⟩) ol oc, .int .i64 d, .agg #[.int .i64 s0, .int .i64 s1, .int .i64 s2]] w fun e w' => e = .returned (.bool true) ∧ SpW w0 g R w' := by
  have c1 : (d == 0) = false := by simp; omega
  have c2 : (s1 == 0) = false := by simpa using hs
  have c3 : decide (d < 0) = false := by simp; omega
  obtain ⟨Z0, z1, z2, z3, z4⟩ := HS.out
  have HS0 := Aside0.mk (show SpR w0 g off n k d s1 true L R 0 0 0 (w.alloc (.cells #[.int .i64 s0, .int .i64 s1, .int .i64 s2] 68)) from ⟨Z0, sp_alloc z1 _, z2, z3, z4⟩)
  clear z1 z2 z3 z4 HS
  go_enter Try.func37, Try.ntmps37
  go_wp2
  go_loopw [11, 12, 42] (fun v11 v12 v42 W => ∃ (i : Nat) (dn gv : Int), i ≤ L.length ∧ v42 = .int .i64 i ∧ v11 = .int .i64 dn ∧ v12 = .int .i64 gv ∧ Aside0 (SpR w0 g off n k d s1 true L R i dn gv W)) (fun _ _ v42 _ => L.length - (intOf v42).toNat)
  case atStart => exact ⟨0, 0, 0, Nat.zero_le _, rfl, rfl, rfl, HS0⟩
  case round =>
    obtain ⟨i, dn, gv, hi, rfl, rfl, rfl, HK⟩ := hrel
    by_cases hlt : i < L.length
    · obtain ⟨Z, z1, z2, z3, z4⟩ := HK.out
      obtain ⟨ad0, eA, x0, x1, x2, x3, x4, x5⟩ := at_T31 HR.out (i : Int) (by omega) (by omega)
      rw [Int.toNat_natCast] at x0 x1 x2 x3 x4 x5
      rw [add_block] at x1 x2 x3 x4 x5
      replace x0 := pw_cell_below z1.2.2 x0
      replace x1 := pw_cell_below z1.2.2 x1
      replace x2 := pw_cell_below z1.2.2 x2
      replace x3 := pw_cell_below z1.2.2 x3
      replace x4 := pw_cell_below z1.2.2 x4
      replace x5 := pw_cell_below z1.2.2 x5
      subst eA
      obtain ⟨z, zs, ez, way⟩ := spL_cons (i := i) (o := off + i) hlt (by omega) z4
      have oc0 := sp_cell (o := off + i) z1 (by omega)
      have of0 := sp_free z1 (off + i)
      have gl := sp_lt z1
      have gl1 : g < wr.heap.size + 1 := by omega
      have gl2 : g < wr.heap.size + 1 + 1 := by omega
      have b0 := World.block_lt_of_cell? wr _ x0
      rw [add_block] at b0
      have b1 : ad0.block < wr.heap.size + 1 := by omega
      have ezg : Z.getD (off + i) 0 = z := by
        have : (Z.drop (off + i))[0]? = some z := by rw [ez]; rfl
        rw [List.getElem?_drop, Nat.add_zero] at this
        rw [List.getD_eq_getElem?_getD, this]; rfl
      rw [ezg] at oc0
      have ZG := Aside0.mk ezg
      generalize hx : rd_T31 L (i : Int) = X at x0 x1 x2 x3 x4 x5 way
      obtain ⟨kd_, wd_, st_, sh_, pe_, fl_⟩ := X
      simp only [if_true] at x0 x1 x2 x3 x4 x5 way
      rcases way with ⟨rfl, sh, w1, w2, w3⟩ | ⟨wn, w2, w3⟩
      · have W1 := Aside0.mk w1
        have W2 := Aside0.mk w2
        have W3 := Aside0.mk w3
        have Z3 := Aside0.mk z3
        have ZL := Aside0.mk z2
        have EZ := Aside0.mk ez
        have Z1 := Aside0.mk z1
        have LZ := Aside0.mk (sp_len_of ez)
        clear w1 w2 w3 z1 z2 z3 z4 ez hx ezg oc0 of0
        go_wp2_with (first | (go_at_call 48; refine (sp_of48 _ _ _ _ _ _ _).mono ?_; rintro e w1 ⟨rfl, hb1⟩; have Z2 := Aside0.mk (sp_below (sp_alloc Z1.out _) hb1); clear hb1) | (go_at_call 50; refine (justify_share.calls k _ _ _ sh _ W1.out).mono ?_; rintro e w2 ⟨rfl, hd2⟩; obtain ⟨q, rfl⟩ := hd2.out; clear hd2; have oc1 := sp_cell (o := off + i) Z2.out LZ.out; have of1 := sp_free Z2.out (off + i); rw [ZG.out] at oc1))
        go_roundw
        case rel => exact ⟨i + 1, _, _, by omega, by push_cast; rfl, rfl, rfl, Aside0.mk (sp_glue (sp_drewN Z2.out _) ZL.out Z3.out EZ.out W2.out W3.out)⟩
        case measure => show _ < _; simp only [intOf]; omega
      · have wb : (kd_ == 2) = false := by simpa using wn
        have wb' : (kd_ != 2) = true := by simpa using wn
        have W2 := Aside0.mk w2
        have W3 := Aside0.mk w3
        have Z3 := Aside0.mk z3
        have ZL := Aside0.mk z2
        have EZ := Aside0.mk ez
        have Z1 := Aside0.mk z1
        clear w2 w3 z1 z2 z3 z4 ez hx ezg oc0 of0
        go_wp2
        go_roundw
        case rel => exact ⟨i + 1, dn, gv, by omega, by push_cast; rfl, rfl, rfl, Aside0.mk (sp_skip (sp_alloc Z1.out _) ZL.out Z3.out EZ.out W2.out W3.out)⟩
        case measure => show _ < _; simp only [intOf]; omega
    · obtain rfl : i = L.length := by omega
      go_wp2
      go_ret
      exact ⟨rfl, sp_end hR HK.out⟩
end
section
attribute [local go_sem] sp_x_block_add sp_x_cell_alloc sp_x_frozen_alloc
set_option maxHeartbeats 4000000 in
set_option maxRecDepth 100000 in
theorem sp_walkN (k : Nat) (Al : Option Addr) (L : List S31) (lc ol oc g off n : Nat) (d s0 s1 s2 : Int) (R : List Int) (w0 w : World) (hd : d < 0) (hmin : -9223372036854775807 ≤ d) (hle : -d ≤ s2) (hs : ¬ s2 = 0) (ho : L.length ≤ ol) (hn : off + ol = n) (hR : R.length = n) (hm : (n : Int) ≤ 9000000000000000000) (HR : Aside0 (Kd.C k31 w0 Al L.length L)) (HS : Aside0 (SpR w0 g off n k d s2 false L R 0 0 0 w)) :
    Calls Try.prog 37 #[.slice Al L.length lc, .slice (some ⟨g, off, none⟩) ol oc, .int .i64 d, .agg #[.int .i64 s0, .int .i64 s1, .int .i64 s2]] w fun e w' => e = .returned (.bool true) ∧ SpW w0 g R w' := by
  have c1 : (d == 0) = false := by simp; omega
  have c2 : (s2 == 0) = false := by simpa using hs
  have c3 : decide (d < 0) = true := by simp; omega
  have c4 : decide (s2 < -d) = false := by simp; omega
  obtain ⟨Z0, z1, z2, z3, z4⟩ := HS.out
  have HS0 := Aside0.mk (show SpR w0 g off n k d s2 false L R 0 0 0 (w.alloc (.cells #[.int .i64 s0, .int .i64 s1, .int .i64 s2] 68)) from ⟨Z0, sp_alloc z1 _, z2, z3, z4⟩)
  clear z1 z2 z3 z4 HS
  go_enter Try.func37, Try.ntmps37
  go_wp2
  go_loopw [11, 12, 42] (fun v11 v12 v42 W => ∃ (i : Nat) (dn gv : Int), i ≤ L.length ∧ v42 = .int .i64 i ∧ v11 = .int .i64 dn ∧ v12 = .int .i64 gv ∧ Aside0 (SpR w0 g off n k d s2 false L R i dn gv W)) (fun _ _ v42 _ => L.length - (intOf v42).toNat)
  case atStart => exact ⟨0, 0, 0, Nat.zero_le _, rfl, rfl, rfl, HS0⟩
  case round =>
    obtain ⟨i, dn, gv, hi, rfl, rfl, rfl, HK⟩ := hrel
    by_cases hlt : i < L.length
    · obtain ⟨Z, z1, z2, z3, z4⟩ := HK.out
      obtain ⟨ad0, eA, x0, x1, x2, x3, x4, x5⟩ := at_T31 HR.out (i : Int) (by omega) (by omega)
      rw [Int.toNat_natCast] at x0 x1 x2 x3 x4 x5
      rw [add_block] at x1 x2 x3 x4 x5
      replace x0 := pw_cell_below z1.2.2 x0
      replace x1 := pw_cell_below z1.2.2 x1
      replace x2 := pw_cell_below z1.2.2 x2
      replace x3 := pw_cell_below z1.2.2 x3
      replace x4 := pw_cell_below z1.2.2 x4
      replace x5 := pw_cell_below z1.2.2 x5
      subst eA
      obtain ⟨z, zs, ez, way⟩ := spL_cons (i := i) (o := off + i) hlt (by omega) z4
      have oc0 := sp_cell (o := off + i) z1 (by omega)
      have of0 := sp_free z1 (off + i)
      have gl := sp_lt z1
      have gl1 : g < wr.heap.size + 1 := by omega
      have gl2 : g < wr.heap.size + 1 + 1 := by omega
      have b0 := World.block_lt_of_cell? wr _ x0
      rw [add_block] at b0
      have b1 : ad0.block < wr.heap.size + 1 := by omega
      have ezg : Z.getD (off + i) 0 = z := by
        have : (Z.drop (off + i))[0]? = some z := by rw [ez]; rfl
        rw [List.getElem?_drop, Nat.add_zero] at this
        rw [List.getD_eq_getElem?_getD, this]; rfl
      rw [ezg] at oc0
      have ZG := Aside0.mk ezg
      generalize hx : rd_T31 L (i : Int) = X at x0 x1 x2 x3 x4 x5 way
      obtain ⟨kd_, wd_, st_, sh_, pe_, fl_⟩ := X
      simp only [Bool.false_eq_true, if_false] at x0 x1 x2 x3 x4 x5 way
      rcases way with ⟨rfl, sh, w1, w2, w3⟩ | ⟨wn, w2, w3⟩
      · have W1 := Aside0.mk w1
        have W2 := Aside0.mk w2
        have W3 := Aside0.mk w3
        have Z3 := Aside0.mk z3
        have ZL := Aside0.mk z2
        have EZ := Aside0.mk ez
        have Z1 := Aside0.mk z1
        have LZ := Aside0.mk (sp_len_of ez)
        clear w1 w2 w3 z1 z2 z3 z4 ez hx ezg oc0 of0
        go_wp2_with (first | (go_at_call 49; refine (sp_of49 _ _ _ _ _ _ _).mono ?_; rintro e w1 ⟨rfl, hb1⟩; have Z2 := Aside0.mk (sp_below (sp_alloc Z1.out _) hb1); clear hb1) | (go_at_call 50; refine (justify_share.calls k _ _ _ sh _ W1.out).mono ?_; rintro e w2 ⟨rfl, hd2⟩; obtain ⟨q, rfl⟩ := hd2.out; clear hd2; have oc1 := sp_cell (o := off + i) Z2.out LZ.out; have of1 := sp_free Z2.out (off + i); rw [ZG.out] at oc1))
        go_roundw
        case rel => exact ⟨i + 1, _, _, by omega, by push_cast; rfl, rfl, rfl, Aside0.mk (sp_glue (sp_drewN Z2.out _) ZL.out Z3.out EZ.out W2.out W3.out)⟩
        case measure => show _ < _; simp only [intOf]; omega
      · have wb : (kd_ == 2) = false := by simpa using wn
        have wb' : (kd_ != 2) = true := by simpa using wn
        have W2 := Aside0.mk w2
        have W3 := Aside0.mk w3
        have Z3 := Aside0.mk z3
        have ZL := Aside0.mk z2
        have EZ := Aside0.mk ez
        have Z1 := Aside0.mk z1
        clear w2 w3 z1 z2 z3 z4 ez hx ezg oc0 of0
        go_wp2
        go_roundw
        case rel => exact ⟨i + 1, dn, gv, by omega, by push_cast; rfl, rfl, rfl, Aside0.mk (sp_skip (sp_alloc Z1.out _) ZL.out Z3.out EZ.out W2.out W3.out)⟩
        case measure => show _ < _; simp only [intOf]; omega
    · obtain rfl : i = L.length := by omega
      go_wp2
      go_ret
      exact ⟨rfl, sp_end hR HK.out⟩
theorem sp_zero (Al Ao : Option Addr) (ll lc ol oc : Nat) (s0 s1 s2 : Int) (w : World) :
    Calls Try.prog 37 #[.slice Al ll lc, .slice Ao ol oc, .int .i64 0, .agg #[.int .i64 s0, .int .i64 s1, .int .i64 s2]] w fun e w' => e = .returned (.bool true) ∧ Below w.heap.size w w' := by
  go_enter Try.func37, Try.ntmps37
  go_wp2
  go_ret
  exact ⟨rfl, by repeat (first | exact Below.refl _ _ | apply below_alloc | apply pw_below_drewN)⟩
theorem sp_not1 (Al Ao : Option Addr) (ll lc ol oc : Nat) (d s0 s2 : Int) (w : World) (hd : 0 < d) :
    Calls Try.prog 37 #[.slice Al ll lc, .slice Ao ol oc, .int .i64 d, .agg #[.int .i64 s0, .int .i64 0, .int .i64 s2]] w fun e w' => e = .returned (.bool false) ∧ Below w.heap.size w w' := by
  have c1 : (d == 0) = false := by simp; omega
  have c3 : decide (d < 0) = false := by simp; omega
  go_enter Try.func37, Try.ntmps37
  go_wp2
  go_ret
  exact ⟨rfl, by repeat (first | exact Below.refl _ _ | apply below_alloc | apply pw_below_drewN)⟩
theorem sp_not2 (Al Ao : Option Addr) (ll lc ol oc : Nat) (d s0 s1 : Int) (w : World) (hd : d < 0) :
    Calls Try.prog 37 #[.slice Al ll lc, .slice Ao ol oc, .int .i64 d, .agg #[.int .i64 s0, .int .i64 s1, .int .i64 0]] w fun e w' => e = .returned (.bool false) ∧ Below w.heap.size w w' := by
  have c1 : (d == 0) = false := by simp; omega
  have c3 : decide (d < 0) = true := by simp; omega
  go_enter Try.func37, Try.ntmps37
  go_wp2
  go_ret
  exact ⟨rfl, by repeat (first | exact Below.refl _ _ | apply below_alloc | apply pw_below_drewN)⟩
theorem sp_not3 (Al Ao : Option Addr) (ll lc ol oc : Nat) (d s0 s1 s2 : Int) (w : World) (hd : d < 0) (hmin : -9223372036854775807 ≤ d) (hs : ¬ s2 = 0) (hle : s2 < -d) :
    Calls Try.prog 37 #[.slice Al ll lc, .slice Ao ol oc, .int .i64 d, .agg #[.int .i64 s0, .int .i64 s1, .int .i64 s2]] w fun e w' => e = .returned (.bool false) ∧ Below w.heap.size w w' := by
  have c1 : (d == 0) = false := by simp; omega
  have c2 : (s2 == 0) = false := by simpa using hs
  have c3 : decide (d < 0) = true := by simp; omega
  have c4 : decide (s2 < -d) = true := by simp; omega
  go_enter Try.func37, Try.ntmps37
  go_wp2
  go_ret
  exact ⟨rfl, by repeat (first | exact Below.refl _ _ | apply below_alloc | apply pw_below_drewN)⟩
end
theorem spL_len {k : Nat} {d whole : Int} {b : Bool} : ∀ (J : List S31) (zs q : List Int) (dn gv : Int), spL k d whole b J zs dn gv = some q → q.length = zs.length
  | [], zs, q, _, _, h => by simp only [spL, Option.some.injEq] at h; rw [h]
  | _ :: _, [], q, _, _, h => by simp [spL] at h
  | x :: r, z :: zs, q, dn, gv, h => by
    simp only [spL] at h
    split at h
    · obtain ⟨sh, _, h⟩ := Option.bind_eq_some_iff.mp h
      obtain ⟨q', h2, h⟩ := Option.bind_eq_some_iff.mp h
      injection h with h
      subst h
      simp [spL_len r zs q' _ _ h2]
    · obtain ⟨q', h2, h⟩ := Option.bind_eq_some_iff.mp h
      injection h with h
      subst h
      simp [spL_len r zs q' _ _ h2]
theorem spL_long {k : Nat} {d whole : Int} {b : Bool} : ∀ (J : List S31) (zs q : List Int) (dn gv : Int), spL k d whole b J zs dn gv = some q → J.length ≤ zs.length
  | [], zs, q, _, _, h => by simp
  | _ :: _, [], q, _, _, h => by simp [spL] at h
  | x :: r, z :: zs, q, dn, gv, h => by
    simp only [spL] at h
    split at h
    · obtain ⟨sh, _, h⟩ := Option.bind_eq_some_iff.mp h
      obtain ⟨q', h2, h⟩ := Option.bind_eq_some_iff.mp h
      have := spL_long r zs q' _ _ h2
      simp; omega
    · obtain ⟨q', h2, h⟩ := Option.bind_eq_some_iff.mp h
      have := spL_long r zs q' _ _ h2
      simp; omega
/-- The glue's shares; whether the line is set. -/
def spS (k : Nat) (d st sh : Int) (J : List S31) (zs : List Int) : Option (List Int × Bool) :=
  if d = 0 then some (zs, true)
  else if d < 0 then (if d < -9223372036854775807 then none else if sh = 0 then some (zs, false) else if sh < -d then some (zs, false) else (spL k d sh false J zs 0 0).bind fun q => some (q, true))
  else if st = 0 then some (zs, false) else (spL k d st true J zs 0 0).bind fun q => some (q, true)
theorem sp_all (k : Nat) (Al : Option Addr) (J : List S31) (lc g off ol oc n : Nat) (d s0 s1 s2 : Int) (Z q : List Int) (ok : Bool) (w0 w : World) (hs : spS k d s1 s2 J (Z.drop off) = some (q, ok)) (ho : off + ol = n) (hZ : Z.length = n) (hm : (n : Int) ≤ 9000000000000000000)
    (HR : Kd.C k31 w0 Al J.length J) (HS : SpW w0 g Z w) :
    Calls Try.prog 37 #[.slice Al J.length lc, .slice (some ⟨g, off, none⟩) ol oc, .int .i64 d, .agg #[.int .i64 s0, .int .i64 s1, .int .i64 s2]] w fun e w' => e = .returned (.bool ok) ∧ SpW w0 g (Z.take off ++ q) w' := by
  have same : ∀ {w'}, Below w.heap.size w w' → SpW w0 g (Z.take off ++ Z.drop off) w' := fun hb => by rw [List.take_append_drop]; exact sp_below HS hb
  have start : ∀ (whole : Int) (b : Bool), spL k d whole b J (Z.drop off) 0 0 = some q → SpR w0 g off n k d whole b J (Z.take off ++ q) 0 0 0 w := fun whole b h => by
    refine ⟨Z, HS, hZ, fun o hlt => ?_, ?_⟩
    · rw [List.getD_eq_getElem?_getD, List.getD_eq_getElem?_getD, List.getElem?_append_left (by simp; omega), List.getElem?_take_of_lt (by omega)]
    · have e : (Z.take off ++ q).drop off = q := List.drop_left' (by simp; omega)
      rw [Nat.add_zero, List.drop_zero, e]; exact h
  have len : ∀ (whole : Int) (b : Bool), spL k d whole b J (Z.drop off) 0 0 = some q → (Z.take off ++ q).length = n := fun whole b h => by
    have := spL_len J _ q 0 0 h
    simp only [List.length_append, List.length_take, this, List.length_drop]; omega
  have long : ∀ (whole : Int) (b : Bool), spL k d whole b J (Z.drop off) 0 0 = some q → J.length ≤ ol := fun whole b h => by
    have := spL_long J _ q 0 0 h
    simp only [List.length_drop] at this; omega
  unfold spS at hs
  by_cases c0 : d = 0
  · rw [if_pos c0] at hs
    injection hs with hs; injection hs with h1 h2
    subst h1 h2 c0
    exact (sp_zero _ _ _ _ _ _ _ _ _ _).mono fun e w' ⟨he, hb⟩ => ⟨he, same hb⟩
  · rw [if_neg c0] at hs
    by_cases c1 : d < 0
    · rw [if_pos c1] at hs
      by_cases c2 : d < -9223372036854775807
      · rw [if_pos c2] at hs; cases hs
      · rw [if_neg c2] at hs
        by_cases c3 : s2 = 0
        · rw [if_pos c3] at hs
          injection hs with hs; injection hs with h1 h2
          subst h1 h2 c3
          exact (sp_not2 _ _ _ _ _ _ _ _ _ _ c1).mono fun e w' ⟨he, hb⟩ => ⟨he, same hb⟩
        · rw [if_neg c3] at hs
          by_cases c4 : s2 < -d
          · rw [if_pos c4] at hs
            injection hs with hs; injection hs with h1 h2
            subst h1 h2
            exact (sp_not3 _ _ _ _ _ _ _ _ _ _ _ c1 (by omega) c3 c4).mono fun e w' ⟨he, hb⟩ => ⟨he, same hb⟩
          · rw [if_neg c4] at hs
            obtain ⟨q', h1, hs⟩ := Option.bind_eq_some_iff.mp hs
            injection hs with hs; injection hs with h2 h3
            subst h2 h3
            exact sp_walkN k Al J lc ol oc g off n d s0 s1 s2 _ w0 w c1 (by omega) (by omega) c3 (long _ _ h1) ho (len _ _ h1) hm ⟨HR⟩ ⟨start _ _ h1⟩
    · rw [if_neg c1] at hs
      by_cases c3 : s1 = 0
      · rw [if_pos c3] at hs
        injection hs with hs; injection hs with h1 h2
        subst h1 h2 c3
        exact (sp_not1 _ _ _ _ _ _ _ _ _ _ (by omega)).mono fun e w' ⟨he, hb⟩ => ⟨he, same hb⟩
      · rw [if_neg c3] at hs
        obtain ⟨q', h1, hs⟩ := Option.bind_eq_some_iff.mp hs
        injection hs with hs; injection hs with h2 h3
        subst h2 h3
        exact sp_walk k Al J lc ol oc g off n d s0 s1 s2 _ w0 w (by omega) c3 (long _ _ h1) ho (len _ _ h1) hm ⟨HR⟩ ⟨start _ _ h1⟩
theorem sp_alln (k : Nat) (Al : Option Addr) (J : List S31) (jn lc g off ol oc n : Nat) (d s0 s1 s2 : Int) (Z q : List Int) (ok : Bool) (w0 w : World) (hj : J.length = jn) (hs : spS k d s1 s2 J (Z.drop off) = some (q, ok)) (ho : off + ol = n) (hZ : Z.length = n) (hm : (n : Int) ≤ 9000000000000000000)
    (HR : Kd.C k31 w0 Al J.length J) (HS : SpW w0 g Z w) :
    Calls Try.prog 37 #[.slice Al jn lc, .slice (some ⟨g, off, none⟩) ol oc, .int .i64 d, .agg #[.int .i64 s0, .int .i64 s1, .int .i64 s2]] w fun e w' => e = .returned (.bool ok) ∧ SpW w0 g (Z.take off ++ q) w' := by
  subst hj; exact sp_all k Al J lc g off ol oc n d s0 s1 s2 Z q ok w0 w hs ho hZ hm HR HS
theorem sp_flat (Al Ao : Option Addr) (ll lc ol oc : Nat) (d s0 : Int) (w : World) :
    Calls Try.prog 37 #[.slice Al ll lc, .slice Ao ol oc, .int .i64 d, .agg #[.int .i64 s0, .int .i64 0, .int .i64 0]] w fun e w' => e = .returned (.bool (decide (d = 0))) ∧ Below w.heap.size w w' := by
  by_cases c0 : d = 0
  · subst c0; exact sp_zero _ _ _ _ _ _ _ _ _ _
  · rw [decide_eq_false c0]
    by_cases c1 : d < 0
    · exact sp_not2 _ _ _ _ _ _ _ _ _ _ c1
    · exact sp_not1 _ _ _ _ _ _ _ _ _ _ (by omega)
theorem spS_flat {k : Nat} {d : Int} {J : List S31} {zs q : List Int} {ok : Bool} (h : spS k d 0 0 J zs = some (q, ok)) : q = zs ∧ ok = decide (d = 0) := by
  unfold spS at h
  by_cases c0 : d = 0
  · rw [if_pos c0] at h; injection h with h; injection h with h1 h2; exact ⟨h1.symm, by rw [← h2, decide_eq_true c0]⟩
  · rw [if_neg c0] at h
    by_cases c1 : d < 0
    · rw [if_pos c1] at h
      split at h
      · cases h
      · rw [if_pos rfl] at h; injection h with h; injection h with h1 h2; exact ⟨h1.symm, by rw [← h2, decide_eq_false c0]⟩
    · rw [if_neg c1, if_pos rfl] at h; injection h with h; injection h with h1 h2; exact ⟨h1.symm, by rw [← h2, decide_eq_false c0]⟩
theorem st_made (n : Nat) : Go.madeCells #[.int .i64 0] n = ((List.replicate n (0 : Int)).map (Value.int .i64)).toArray := by
  apply Array.ext_getElem?
  intro i
  by_cases c : i < n
  · rw [show (Go.madeCells #[.int .i64 0] n)[i]? = some ((#[.int .i64 0] : Array Value)[i % 1]!) by simp [Go.madeCells, c]]
    have : i % 1 = 0 := by omega
    rw [this]
    simp [c]
  · rw [Array.getElem?_eq_none (by simp [Go.size_madeCells]; omega), Array.getElem?_eq_none (by simp; omega)]
theorem st_make (n : Nat) (hn : n ≤ 100000) (W : World) :
    (Instr.makeSlice 24 (.int .i64 (n : Int)) (.int .i64 (n : Int))).run Try.prog W = .ok (.slice (some ⟨W.heap.size, 0, none⟩) n n) (W.alloc (.cells ((List.replicate n (0 : Int)).map (Value.int .i64)).toArray 3)) := by
  obtain ⟨i, h1, h2⟩ := Option.map_eq_some_iff.mp info3
  have hz : i.zero = some (.int .i64 0) := congrArg Prod.fst h2
  have hs : i.size = 1 := congrArg (fun p => p.2.1) h2
  have hy : i.bytes = 8 := congrArg (fun p => p.2.2) h2
  have := run_make W 24 3 i (.int .i64 0) Try.underlying24 h1 hz .i64 .i64 (n : Int) (n : Int) (by omega) (by omega) (by rw [hy]; omega) (by omega)
  rw [hs, Int.toNat_natCast, Nat.mul_one] at this
  rw [← st_made]
  exact this
theorem st_new {w W : World} (h : Below w.heap.size w W) (n : Nat) : SpW w W.heap.size (List.replicate n 0) (W.alloc (.cells (Array.replicate n (.int .i64 0)) 3)) := by
  refine ⟨?_, h.size, below_alloc h _⟩
  rw [heap_alloc_new]; simp
/-- The first box. -/
def stB (I : List S31) : Nat := I.findIdx (fun x => x.f0 == 1)
theorem stB_le (I : List S31) : stB I ≤ I.length := List.findIdx_le_length
theorem stB_at {I : List S31} {i : Nat} (h : i < I.length) (hb : (rd_T31 I (i : Int)).f0 = 1) (hn : ∀ j, j < i → (rd_T31 I (j : Int)).f0 ≠ 1) : stB I = i := by
  have rd : ∀ j, (hj : j < I.length) → rd_T31 I (j : Int) = I[j] := fun j hj => by unfold rd_T31; rw [Int.toNat_natCast, List.getD_eq_getElem?_getD, List.getElem?_eq_getElem hj]; rfl
  unfold stB
  rw [List.findIdx_eq h]
  refine ⟨by rw [← rd i h, hb]; rfl, fun j hj => ?_⟩
  have := hn j hj
  rw [rd j (by omega)] at this
  simpa using this
theorem stB_no {I : List S31} (hn : ∀ j, j < I.length → (rd_T31 I (j : Int)).f0 ≠ 1) : stB I = I.length := by
  have rd : ∀ j, (hj : j < I.length) → rd_T31 I (j : Int) = I[j] := fun j hj => by unfold rd_T31; rw [Int.toNat_natCast, List.getD_eq_getElem?_getD, List.getElem?_eq_getElem hj]; rfl
  unfold stB
  rw [List.findIdx_eq_length]
  intro x hx
  obtain ⟨j, hj, e⟩ := List.getElem_of_mem hx
  have := hn j hj
  rw [rd j hj, e] at this
  simpa using this
/-- What is summed up of the first i items. -/
def stF (I : List S31) (fi : Nat) : Nat → Int × Int × Int
  | 0 => (0, 0, 0)
  | i + 1 => if i < fi then stF I fi i else if (rd_T31 I (i : Int)).f0 = 3 then stF I fi i else
      (wrap64 ((stF I fi i).1 + (rd_T31 I (i : Int)).f1), if (rd_T31 I (i : Int)).f0 = 2 then wrap64 ((stF I fi i).2.1 + (rd_T31 I (i : Int)).f2) else (stF I fi i).2.1, if (rd_T31 I (i : Int)).f0 = 2 then wrap64 ((stF I fi i).2.2 + (rd_T31 I (i : Int)).f3) else (stF I fi i).2.2)
/-- The width of item i, ahead of the glue's share. -/
def stO (I : List S31) (fi i : Nat) : Int := if i < fi then 0 else if (rd_T31 I (i : Int)).f0 = 3 then 0 else (rd_T31 I (i : Int)).f1
/-- The row of n numbers once the first i items are laid. -/
def stZ (I : List S31) (fi n i : Nat) : List Int := (List.range n).map (fun j => if j < i then stO I fi j else 0)
theorem stZ_zero (I : List S31) (fi n : Nat) : stZ I fi n 0 = List.replicate n 0 := by
  unfold stZ; apply List.ext_getElem? ; intro j
  by_cases c : j < n
  · simp [c]
  · rw [List.getElem?_eq_none (by simp; omega), List.getElem?_eq_none (by simp; omega)]
theorem stZ_set (I : List S31) (fi n i : Nat) (h : i < n) : (stZ I fi n i).set i (stO I fi i) = stZ I fi n (i + 1) := by
  unfold stZ; apply List.ext_getElem? ; intro j
  by_cases c : j < n
  · by_cases e : j = i
    · subst e; rw [List.getElem?_set_self (by simpa using c)]; simp [c]
    · rw [List.getElem?_set_ne (fun z => e z.symm)]
      simp only [List.getElem?_map, List.getElem?_range c, Option.map_some]
      congr 1
      by_cases l : j < i
      · rw [if_pos l, if_pos (by omega)]
      · rw [if_neg l, if_neg (by omega)]
  · rw [List.getElem?_eq_none (by simp; omega), List.getElem?_eq_none (by simp; omega)]
theorem stZ_skip (I : List S31) (fi n i : Nat) (h : stO I fi i = 0) : stZ I fi n (i + 1) = stZ I fi n i := by
  unfold stZ; apply List.map_congr_left; intro j hj
  by_cases l : j < i
  · rw [if_pos l, if_pos (by omega)]
  · rw [if_neg l]
    by_cases e : j = i
    · subst e; rw [if_pos (by omega), h]
    · rw [if_neg (by omega)]
theorem stZ_len (I : List S31) (fi n i : Nat) : (stZ I fi n i).length = n := by simp [stZ]
/-- Where the second loop stands. -/
def StW (w : World) (g gs : Nat) (I : List S31) (fi n i : Nat) (W : World) : Prop :=
  SpW w g (stZ I fi n i) W ∧ W.heap[gs]? = some (.cells #[.int .i64 (stF I fi i).1, .int .i64 (stF I fi i).2.1, .int .i64 (stF I fi i).2.2] 68 (0, 0)) ∧ gs ≠ g ∧ w.heap.size ≤ gs
theorem st_first {w W : World} {g : Nat} {I : List S31} {fi n : Nat} (h : SpW w g (List.replicate n 0) W) : StW w g W.heap.size I fi n 0 (W.alloc (.cells #[.int .i64 0, .int .i64 0, .int .i64 0] 68)) := by
  have := sp_lt h
  refine ⟨by rw [stZ_zero]; exact sp_alloc h _, heap_alloc_new _ _, by omega, by have := h.2.2.size; omega⟩
theorem st_alloc {w W : World} {g gs : Nat} {I : List S31} {fi n i : Nat} (h : StW w g gs I fi n i W) (o : Obj) : StW w g gs I fi n i (W.alloc o) := ⟨sp_alloc h.1 o, blk_alloc h.2.1 o, h.2.2.1, h.2.2.2⟩
theorem st_pass {w W : World} {g gs : Nat} {I : List S31} {fi n i : Nat} (h : StW w g gs I fi n i W) (h0 : stO I fi i = 0) (hs : stF I fi (i + 1) = stF I fi i) : StW w g gs I fi n (i + 1) W := by
  obtain ⟨z1, z2, z3, z4⟩ := h
  exact ⟨by rw [stZ_skip I fi n i h0]; exact z1, by rw [hs]; exact z2, z3, z4⟩
theorem st_blk {W : World} {gs g i : Nat} {cs : Array Value} {ty : TypeId} (h : W.heap[gs]? = some (.cells cs ty (0, 0))) (hne : gs ≠ g) (v : Value) : (W.setCell ⟨g, i, none⟩ v).heap[gs]? = some (.cells cs ty (0, 0)) := blk_far h hne v
theorem st_put {w W : World} {g gs j : Nat} {Z : List Int} (h : SpW w g Z W) (hne : gs ≠ g) (hge : w.heap.size ≤ gs) (v : Value) : SpW w g Z (W.setCell ⟨gs, j, none⟩ v) :=
  ⟨blk_far h.1 (fun e => hne e.symm) v, h.2.1, below_set h.2.2 hge⟩
theorem st_step1 {w W : World} {g gs : Nat} {I : List S31} {fi n i : Nat} {v a b c a' : Int} (h : StW w g gs I fi n i W) (hi : i < n) (hv : stO I fi i = v) (hs : stF I fi i = (a, b, c)) (hs' : stF I fi (i + 1) = (a', b, c)) :
    StW w g gs I fi n (i + 1) ((W.setCell ⟨g, i, none⟩ (.int .i64 v)).setCell ⟨gs, 0, none⟩ (.int .i64 a')) := by
  obtain ⟨z1, z2, z3, z4⟩ := h
  refine ⟨st_put (by rw [← stZ_set I fi n i hi, hv]; exact sp_set z1 _ _) z3 z4 _, ?_, z3, z4⟩
  rw [hs] at z2
  have := blk_set (st_blk (i := i) z2 z3 (.int .i64 v)) 0 (.int .i64 a')
  rw [this, hs']; rfl
theorem st_step2 {w W : World} {g gs : Nat} {I : List S31} {fi n i : Nat} {v a' b' c' : Int} (h : StW w g gs I fi n i W) (hi : i < n) (hv : stO I fi i = v) (hs' : stF I fi (i + 1) = (a', b', c')) :
    StW w g gs I fi n (i + 1) ((((W.setCell ⟨g, i, none⟩ (.int .i64 v)).setCell ⟨gs, 0, none⟩ (.int .i64 a')).setCell ⟨gs, 1, none⟩ (.int .i64 b')).setCell ⟨gs, 2, none⟩ (.int .i64 c')) := by
  obtain ⟨z1, z2, z3, z4⟩ := h
  refine ⟨st_put (st_put (st_put (by rw [← stZ_set I fi n i hi, hv]; exact sp_set z1 _ _) z3 z4 _) z3 z4 _) z3 z4 _, ?_, z3, z4⟩
  have := blk_set (blk_set (blk_set (st_blk (i := i) z2 z3 (.int .i64 v)) 0 (.int .i64 a')) 1 (.int .i64 b')) 2 (.int .i64 c')
  rw [this, hs']; rfl
/-- Behind the loops. -/
def StE (w : World) (g gs : Nat) (Z : List Int) (a b c : Int) (W : World) : Prop :=
  SpW w g Z W ∧ W.heap[gs]? = some (.cells #[.int .i64 a, .int .i64 b, .int .i64 c] 68 (0, 0)) ∧ gs ≠ g ∧ w.heap.size ≤ gs
theorem ste_drew {w W : World} {g gs : Nat} {Z : List Int} {a b c : Int} (h : StE w g gs Z a b c W) : StE w g gs Z a b c W.drew := ⟨sp_drew h.1, blk_drew h.2.1, h.2.2⟩
theorem ste_drewN {w W : World} {g gs : Nat} {Z : List Int} {a b c : Int} (h : StE w g gs Z a b c W) (n : Nat) : StE w g gs Z a b c (W.drewN n) := ⟨sp_drewN h.1 n, blk_drewN h.2.1 n, h.2.2⟩
theorem ste_put {w W : World} {g gs i : Nat} {Z : List Int} {a b c v a' : Int} (h : StE w g gs Z a b c W) : StE w g gs (Z.set i v) a' b c ((W.setCell ⟨g, i, none⟩ (.int .i64 v)).setCell ⟨gs, 0, none⟩ (.int .i64 a')) := by
  obtain ⟨z1, z2, z3, z4⟩ := h
  refine ⟨st_put (sp_set z1 _ _) z3 z4 _, ?_, z3, z4⟩
  have := blk_set (st_blk (i := i) z2 z3 (.int .i64 v)) 0 (.int .i64 a')
  rw [this]; rfl
theorem stF_none (I : List S31) (fi : Nat) : ∀ i, i ≤ fi → stF I fi i = (0, 0, 0)
  | 0, _ => rfl
  | i + 1, h => by rw [stF, if_pos (by omega)]; exact stF_none I fi i (by omega)
section
attribute [local go_sem] sp_x_block_add sp_x_cell_alloc sp_x_frozen_alloc
set_option maxHeartbeats 8000000 in
set_option maxRecDepth 100000 in
theorem st_walk1 (ad : Addr) (L I : List S31) (lc k : Nat) (a t : Nat) (a3 : Int) (w : World) (HR : Aside0 (Kd.C k31 w (some ad) L.length L)) (HI : Aside0 (Kd.C k31 w (some (ad.add (a * 6))) I.length I)) (EI : Aside0 (I.length = t - a)) (hc : L.length ≤ lc) (A1 : Aside0 (optimal_Check.f k L a3 0 = some 0)) (h1 : a ≤ t) (h2 : t < L.length) (h4 : L.length ≤ 5000)
    (Zf q : List Int) (ln : Int) (ok : Bool) (HZ : Aside0 (((rd_T31 L (t : Int)).f0 = 3 → Zf = (stZ I (stB I) (t + 1 - a) (t - a)).set (t - a) (rd_T31 L (t : Int)).f1 ∧ ln = wrap64 ((stF I (stB I) (t - a)).1 + (rd_T31 L (t : Int)).f1)) ∧ ((rd_T31 L (t : Int)).f0 ≠ 3 → Zf = stZ I (stB I) (t + 1 - a) (t - a) ∧ ln = (stF I (stB I) (t - a)).1)))
    (HP : Aside0 (spS k (wrap64 (a3 - ln)) (stF I (stB I) (t - a)).2.1 (stF I (stB I) (t - a)).2.2 (I.drop (stB I)) (Zf.drop (stB I)) = some (q, ok))) :
    Calls Try.prog 23 #[.slice (some ad) L.length lc, .int .i64 ((a : Int) - 1), .int .i64 t, .int .i64 a3] w fun e w' => ∃ g, e = .returned (.tuple #[.slice (some ⟨g, 0, none⟩) (t + 1 - a) (t + 1 - a), .bool ok, .int .i64 0]) ∧ SpW w g (Zf.take (stB I) ++ q) w' := by
  have hu31 := Try.underlying31
  have c1 : decide ((a : Int) - 1 < -1) = false := by simp; omega
  have c2 : decide ((t : Int) ≤ (a : Int) - 1) = false := by simp; omega
  have c3 : decide ((L.length : Int) < (t : Int)) = false := by simp; omega
  have c3' : decide (L.length < t) = false := by simp; omega
  have hla2 : ¬ a = lc := by omega
  have hla : ¬ lc = a := by omega
  have hmk := st_make (t + 1 - a) (by omega)
  go_enter Try.func23, Try.ntmps23
  go_upto_block 0 with (first | (go_at_call 27; refine (optimal_Check.calls k _ _ L _ _ 0 _ HR.out hc A1.out).mono ?_; rintro e w1 ⟨rfl, hb1⟩))
  have K0 := Aside0.mk (st_new hb1 (t + 1 - a))
  generalize hg : w1.heap.size = g at *
  clear hmk
  go_cut [14] (fun v14 W => v14 = .int .i64 (stB I) ∧ Aside0 (SpW w g (List.replicate (t + 1 - a) 0) W))
  case first =>
    go_wp2
    go_loopw [14, 60] (fun v14 v60 W => ∃ i : Nat, i ≤ t - a ∧ v60 = .int .i64 i ∧ v14 = .int .i64 ((t - a : Nat) : Int) ∧ Aside0 (∀ j, j < i → (rd_T31 I (j : Int)).f0 ≠ 1) ∧ Aside0 (SpW w g (List.replicate (t + 1 - a) 0) W)) (fun _ v60 _ => t - a - (intOf v60).toNat)
    case atStart => exact ⟨0, Nat.zero_le _, rfl, rfl, ⟨fun j hj => by omega⟩, K0⟩
    case round =>
      obtain ⟨i, hi, rfl, rfl, HN, HK⟩ := hrel
      clear K0
      by_cases hlt : i < t - a
      · obtain ⟨ad0, eA, x0, x1, x2, x3, x4, x5⟩ := at_T31 HI.out (i : Int) (by omega) (by have := EI.out; omega)
        rw [Int.toNat_natCast] at x0 x1 x2 x3 x4 x5
        injection eA with eA
        subst eA
        rw [add_block, add_block] at x1 x2 x3 x4 x5
        replace x0 := pw_cell_below HK.out.2.2 x0
        replace x1 := pw_cell_below HK.out.2.2 x1
        replace x2 := pw_cell_below HK.out.2.2 x2
        replace x3 := pw_cell_below HK.out.2.2 x3
        replace x4 := pw_cell_below HK.out.2.2 x4
        replace x5 := pw_cell_below HK.out.2.2 x5
        have b0 := World.block_lt_of_cell? wr _ x0
        rw [add_block, add_block] at b0
        have b1 : ad.block < wr.heap.size + 1 := by omega
        generalize hx : rd_T31 I (i : Int) = X at x0 x1 x2 x3 x4 x5
        obtain ⟨kd_, wd_, st_, sh_, pe_, fl_⟩ := X
        simp only at x0 x1 x2 x3 x4 x5
        have HX := Aside0.mk hx
        clear hx
        by_cases hk : kd_ = 1
        · subst hk
          go_wp2
          go_meet
          case rel => exact ⟨by rw [stB_at (by have := EI.out; omega) (by rw [HX.out]) HN.out], ⟨sp_alloc HK.out _⟩⟩
        · have hk1 : (kd_ == 1) = false := by simpa using hk
          go_wp2
          go_roundw
          case rel =>
            refine ⟨i + 1, by omega, by push_cast; rfl, rfl, ⟨fun j hj => ?_⟩, ⟨sp_alloc HK.out _⟩⟩
            by_cases e : j = i
            · subst e; rw [HX.out]; exact hk
            · exact HN.out j (by omega)
          case measure => show _ < _; simp only [intOf]; omega
      · obtain rfl : i = t - a := by omega
        go_wp2
        go_meet
        case rel => exact ⟨by rw [stB_no (by rw [EI.out]; exact HN.out), EI.out], HK⟩
  case rest =>
    obtain ⟨rfl, KW⟩ := hcut
    clear K0
    have K0 := Aside0.mk (st_first (I := I) (fi := stB I) KW.out)
    generalize hgs : wc.heap.size = gs at *
    go_wp2
    clear hgs
    go_loopw [72] (fun v72 W => ∃ i : Nat, i ≤ t - a ∧ v72 = .int .i64 i ∧ Aside0 (StW w g gs I (stB I) (t + 1 - a) i W)) (fun v72 _ => t - a - (intOf v72).toNat)
    case atStart => exact ⟨0, Nat.zero_le _, rfl, K0⟩
    case round =>
      obtain ⟨i, hi, rfl, HK⟩ := hrel
      clear K0
      obtain ⟨z1, z2, z3, z4⟩ := HK.out
      have s0 : wr.cell? ⟨gs, 0, none⟩ = some (.int .i64 (stF I (stB I) i).1) := by rw [cell_of_row wr gs 0 _ 68 (0, 0) z2]; rfl
      have s1 : wr.cell? ⟨gs, 1, none⟩ = some (.int .i64 (stF I (stB I) i).2.1) := by rw [cell_of_row wr gs 1 _ 68 (0, 0) z2]; rfl
      have s2 : wr.cell? ⟨gs, 2, none⟩ = some (.int .i64 (stF I (stB I) i).2.2) := by rw [cell_of_row wr gs 2 _ 68 (0, 0) z2]; rfl
      have sf : ∀ j, wr.frozen? ⟨gs, j, none⟩ = false := fun j => by simp [World.frozen?, z2]
      have sf0 := sf 0
      have sf1 := sf 1
      have sf2 := sf 2
      have gl := sp_lt z1
      have gsl : gs < wr.heap.size := by
        rcases Nat.lt_or_ge gs wr.heap.size with c | c
        · exact c
        · rw [Array.getElem?_eq_none c] at z2; cases z2
      have gl1 : g < wr.heap.size + 1 := by omega
      have gsl1 : gs < wr.heap.size + 1 := by omega
      have z3' : g ≠ gs := fun e => z3 e.symm
      by_cases hlt : i < t - a
      · obtain ⟨ad0, eA, x0, x1, x2, x3, x4, x5⟩ := at_T31 HI.out (i : Int) (by omega) (by have := EI.out; omega)
        rw [Int.toNat_natCast] at x0 x1 x2 x3 x4 x5
        injection eA with eA
        subst eA
        rw [add_block, add_block] at x1 x2 x3 x4 x5
        replace x0 := pw_cell_below z1.2.2 x0
        replace x1 := pw_cell_below z1.2.2 x1
        replace x2 := pw_cell_below z1.2.2 x2
        replace x3 := pw_cell_below z1.2.2 x3
        replace x4 := pw_cell_below z1.2.2 x4
        replace x5 := pw_cell_below z1.2.2 x5
        have b0 := World.block_lt_of_cell? wr _ x0
        rw [add_block, add_block] at b0
        have b1 : ad.block < wr.heap.size + 1 := by omega
        have oc := sp_cell (o := i) z1 (by rw [stZ_len]; omega)
        have of := sp_free z1 i
        generalize hx : rd_T31 I (i : Int) = X at x0 x1 x2 x3 x4 x5
        obtain ⟨kd_, wd_, st_, sh_, pe_, fl_⟩ := X
        simp only at x0 x1 x2 x3 x4 x5
        generalize hs : stF I (stB I) i = S at s0 s1 s2
        obtain ⟨sa, sb, sc⟩ := S
        simp only at s0 s1 s2
        have HX := Aside0.mk hx
        have HS := Aside0.mk hs
        have Z3 := Aside0.mk z3
        clear hx hs z1 z2 z4 sf
        by_cases hf : i < stB I
        · have hf1 : decide (i < stB I) = true := decide_eq_true hf
          go_wp2
          go_roundw
          case rel => exact ⟨i + 1, by omega, by push_cast; rfl, ⟨st_pass (st_alloc HK.out _) (by unfold stO; rw [if_pos hf]) (by rw [stF, if_pos hf])⟩⟩
          case measure => show _ < _; simp only [intOf]; omega
        · have hf1 : decide (i < stB I) = false := decide_eq_false hf
          by_cases h3 : kd_ = 3
          · subst h3
            go_wp2
            go_roundw
            case rel => exact ⟨i + 1, by omega, by push_cast; rfl, ⟨st_pass (st_alloc HK.out _) (by unfold stO; rw [if_neg hf, HX.out, if_pos rfl]) (by rw [stF, if_neg hf, HX.out, if_pos rfl])⟩⟩
            case measure => show _ < _; simp only [intOf]; omega
          · have h31 : (kd_ == 3) = false := by simpa using h3
            by_cases h2 : kd_ = 2
            · subst h2
              go_wp2
              go_roundw
              case rel =>
                refine ⟨i + 1, by omega, by push_cast; rfl, ⟨st_alloc (st_step2 HK.out (by omega) (by unfold stO; rw [if_neg hf, HX.out, if_neg h3]) ?_) _⟩⟩
                rw [stF, if_neg hf, HX.out, if_neg h3, HS.out]; rfl
              case measure => show _ < _; simp only [intOf]; omega
            · have h21 : (kd_ == 2) = false := by simpa using h2
              go_wp2
              go_roundw
              case rel =>
                refine ⟨i + 1, by omega, by push_cast; rfl, ⟨st_alloc (st_step1 HK.out (by omega) (by unfold stO; rw [if_neg hf, HX.out, if_neg h3]) HS.out ?_) _⟩⟩
                rw [stF, if_neg hf, HX.out, if_neg h3, HS.out]; simp only [if_neg h2]
              case measure => show _ < _; simp only [intOf]; omega
      · obtain rfl : i = t - a := by omega
        obtain ⟨ad0, eA, x0, x1, _⟩ := at_T31 HR.out (t : Int) (by omega) (by omega)
        injection eA with eA
        subst eA
        rw [Int.toNat_natCast] at x0 x1
        rw [add_block] at x1
        have b00 := World.block_lt_of_cell? w _ x0
        rw [add_block] at b00
        have nb : ad.block ≠ g := by have := z1.2.1; omega
        replace x0 := pw_cell_below z1.2.2 x0
        replace x1 := pw_cell_below z1.2.2 x1
        have b0 := World.block_lt_of_cell? wr _ x0
        rw [add_block] at b0
        have b1 : ad.block < wr.heap.size + 1 := by omega
        have oc := sp_cell (o := t - a) z1 (by rw [stZ_len]; omega)
        have of := sp_free z1 (t - a)
        have hf0 := stB_le I
        have ei := EI.out
        rw [ei] at hf0
        have hcap : ¬ lc - a = stB I := by omega
        have hcap2 : ¬ t + 1 - a = stB I := by omega
        generalize hx : rd_T31 L (t : Int) = X at x0 x1 HZ
        obtain ⟨kd_, wd_, st_, sh_, pe_, fl_⟩ := X
        simp only at x0 x1 HZ
        generalize hs : stF I (stB I) (t - a) = S at s0 s1 s2 HZ HP z2
        obtain ⟨sa, sb, sc⟩ := S
        simp only at s0 s1 s2 HZ HP z2
        have E0 := Aside0.mk (show StE w g gs (stZ I (stB I) (t + 1 - a) (t - a)) sa sb sc wr from ⟨z1, z2, z3, z4⟩)
        clear hx hs z1 z2 z4 sf ei hg hb1
        have m1 : decide ((t : Int) < (L.length : Int)) = true := decide_eq_true (by omega)
        go_upto_if 123 with (fail)
        go_cut [14] (fun v14 W => v14 = .int .i64 (stB I) ∧ Aside0 (StE w g gs Zf ln sb sc W))
        case first =>
          by_cases h3 : kd_ = 3
          · subst h3
            obtain ⟨e1, e2⟩ := HZ.out.1 rfl
            subst e1 e2
            have x9 : (wr.setCell ⟨g, t - a, none⟩ (.int .i64 wd_)).cell? ⟨ad.block, (ad.add (t * 6)).off + 1, none⟩ = some (.int .i64 wd_) := (World.cell?_of_block (w := wr) (Below.heap_setCell wr _ _ _ nb)).trans x1
            have e9 := st_blk (i := t - a) E0.out.2.1 z3 (.int .i64 wd_)
            have s9 : (wr.setCell ⟨g, t - a, none⟩ (.int .i64 wd_)).cell? ⟨gs, 0, none⟩ = some (.int .i64 sa) := by rw [cell_of_row _ gs 0 _ 68 (0, 0) e9]; rfl
            have f9 : (wr.setCell ⟨g, t - a, none⟩ (.int .i64 wd_)).frozen? ⟨gs, 0, none⟩ = false := by simp [World.frozen?, e9]
            clear e9
            go_wp2
            go_region
            go_wp2
            go_meet
            case rel => exact ⟨rfl, ⟨by repeat (first | exact ste_put E0.out | apply ste_drew | apply ste_drewN)⟩⟩
          · have h31 : (kd_ == 3) = false := by simpa using h3
            obtain ⟨e1, e2⟩ := HZ.out.2 h3
            subst e1 e2
            go_wp2
            go_meet
            case rel => exact ⟨rfl, E0⟩
        case rest =>
          obtain ⟨rfl, KE⟩ := hcut
          have e9 := KE.out.2.1
          have s0 : wc.cell? ⟨gs, 0, none⟩ = some (.int .i64 ln) := by rw [cell_of_row wc gs 0 _ 68 (0, 0) e9]; rfl
          have s1 : wc.cell? ⟨gs, 1, none⟩ = some (.int .i64 sb) := by rw [cell_of_row wc gs 1 _ 68 (0, 0) e9]; rfl
          have s2 : wc.cell? ⟨gs, 2, none⟩ = some (.int .i64 sc) := by rw [cell_of_row wc gs 2 _ 68 (0, 0) e9]; rfl
          clear e9 x0 x1 oc of
          generalize hd : wrap64 (a3 - ln) = dd at HP
          have hw : IntKind.i64.wrap (a3 - ln) = dd := by rw [i64_w]; exact hd
          clear hd
          have HRJ := Aside0.mk (Kd.C_drop (m := stB I) (c := lc - a) HI.out (by rw [EI.out]; exact hf0) (by rw [EI.out]; omega))
          rw [if_neg hcap] at HRJ
          have HJ := Aside0.mk (show (I.drop (stB I)).length = t - a - stB I by rw [List.length_drop, EI.out])
          have HL := Aside0.mk (show Zf.length = t + 1 - a by
            by_cases h3 : kd_ = 3
            · rw [(HZ.out.1 h3).1, List.length_set, stZ_len]
            · rw [(HZ.out.2 h3).1, stZ_len])
          go_wp2
          go_region_with (go_at_call 37; refine (sp_alln k _ (I.drop (stB I)) _ _ g (stB I) _ _ (t + 1 - a) dd _ _ _ Zf q ok w _ HJ.out HP.out (by omega) HL.out (by omega) HRJ.out (by repeat (first | exact KE.out.1 | apply sp_drew | apply sp_drewN))).mono ?_; rintro e w2 ⟨rfl, hw2⟩; have HW2 := Aside0.mk hw2; clear hw2)
          all_goals go_wp2
          all_goals go_ret3
          all_goals exact ⟨g, rfl, by repeat (first | exact HW2.out | apply sp_drew | apply sp_drewN)⟩
end
section
attribute [local go_sem] sp_x_block_add sp_x_cell_alloc sp_x_frozen_alloc
set_option maxHeartbeats 8000000 in
set_option maxRecDepth 100000 in
theorem st_walk2 (ad : Addr) (L I : List S31) (lc k : Nat) (a : Nat) (a3 : Int) (w : World) (HR : Aside0 (Kd.C k31 w (some ad) L.length L)) (HI : Aside0 (Kd.C k31 w (some (ad.add (a * 6))) I.length I)) (EI : Aside0 (I.length = L.length - a)) (hc : L.length ≤ lc) (A1 : Aside0 (optimal_Check.f k L a3 0 = some 0)) (h1 : a < L.length) (h4 : L.length ≤ 5000)
    (q : List Int) (ok : Bool)
    (HP : Aside0 (spS k (wrap64 (a3 - (stF I (stB I) (L.length - a)).1)) (stF I (stB I) (L.length - a)).2.1 (stF I (stB I) (L.length - a)).2.2 (I.drop (stB I)) ((stZ I (stB I) (L.length - a) (L.length - a)).drop (stB I)) = some (q, ok))) :
    Calls Try.prog 23 #[.slice (some ad) L.length lc, .int .i64 ((a : Int) - 1), .int .i64 L.length, .int .i64 a3] w fun e w' => ∃ g, e = .returned (.tuple #[.slice (some ⟨g, 0, none⟩) (L.length - a) (L.length - a), .bool ok, .int .i64 0]) ∧ SpW w g ((stZ I (stB I) (L.length - a) (L.length - a)).take (stB I) ++ q) w' := by
  have hu31 := Try.underlying31
  have c1 : decide ((a : Int) - 1 < -1) = false := by simp; omega
  have c2 : decide ((L.length : Int) ≤ (a : Int) - 1) = false := by simp; omega
  have c3 : decide ((L.length : Int) < (L.length : Int)) = false := by simp
  have hla2 : ¬ a = lc := by omega
  have hla : ¬ lc = a := by omega
  have hmk := st_make (L.length - a) (by omega)
  go_enter Try.func23, Try.ntmps23
  go_upto_block 0 with (first | (go_at_call 27; refine (optimal_Check.calls k _ _ L _ _ 0 _ HR.out hc A1.out).mono ?_; rintro e w1 ⟨rfl, hb1⟩))
  have K0 := Aside0.mk (st_new hb1 (L.length - a))
  generalize hg : w1.heap.size = g at *
  clear hmk
  go_cut [14] (fun v14 W => v14 = .int .i64 (stB I) ∧ Aside0 (SpW w g (List.replicate (L.length - a) 0) W))
  case first =>
    go_wp2
    go_loopw [14, 60] (fun v14 v60 W => ∃ i : Nat, i ≤ L.length - a ∧ v60 = .int .i64 i ∧ v14 = .int .i64 ((L.length - a : Nat) : Int) ∧ Aside0 (∀ j, j < i → (rd_T31 I (j : Int)).f0 ≠ 1) ∧ Aside0 (SpW w g (List.replicate (L.length - a) 0) W)) (fun _ v60 _ => L.length - a - (intOf v60).toNat)
    case atStart => exact ⟨0, Nat.zero_le _, rfl, rfl, ⟨fun j hj => by omega⟩, K0⟩
    case round =>
      obtain ⟨i, hi, rfl, rfl, HN, HK⟩ := hrel
      clear K0
      by_cases hlt : i < L.length - a
      · obtain ⟨ad0, eA, x0, x1, x2, x3, x4, x5⟩ := at_T31 HI.out (i : Int) (by omega) (by have := EI.out; omega)
        rw [Int.toNat_natCast] at x0 x1 x2 x3 x4 x5
        injection eA with eA
        subst eA
        rw [add_block, add_block] at x1 x2 x3 x4 x5
        replace x0 := pw_cell_below HK.out.2.2 x0
        replace x1 := pw_cell_below HK.out.2.2 x1
        replace x2 := pw_cell_below HK.out.2.2 x2
        replace x3 := pw_cell_below HK.out.2.2 x3
        replace x4 := pw_cell_below HK.out.2.2 x4
        replace x5 := pw_cell_below HK.out.2.2 x5
        have b0 := World.block_lt_of_cell? wr _ x0
        rw [add_block, add_block] at b0
        have b1 : ad.block < wr.heap.size + 1 := by omega
        generalize hx : rd_T31 I (i : Int) = X at x0 x1 x2 x3 x4 x5
        obtain ⟨kd_, wd_, st_, sh_, pe_, fl_⟩ := X
        simp only at x0 x1 x2 x3 x4 x5
        have HX := Aside0.mk hx
        clear hx
        by_cases hk : kd_ = 1
        · subst hk
          go_wp2
          go_meet
          case rel => exact ⟨by rw [stB_at (by have := EI.out; omega) (by rw [HX.out]) HN.out], ⟨sp_alloc HK.out _⟩⟩
        · have hk1 : (kd_ == 1) = false := by simpa using hk
          go_wp2
          go_roundw
          case rel =>
            refine ⟨i + 1, by omega, by push_cast; rfl, rfl, ⟨fun j hj => ?_⟩, ⟨sp_alloc HK.out _⟩⟩
            by_cases e : j = i
            · subst e; rw [HX.out]; exact hk
            · exact HN.out j (by omega)
          case measure => show _ < _; simp only [intOf]; omega
      · obtain rfl : i = L.length - a := by omega
        go_wp2
        go_meet
        case rel => exact ⟨by rw [stB_no (by rw [EI.out]; exact HN.out), EI.out], HK⟩
  case rest =>
    obtain ⟨rfl, KW⟩ := hcut
    clear K0
    have K0 := Aside0.mk (st_first (I := I) (fi := stB I) KW.out)
    generalize hgs : wc.heap.size = gs at *
    go_wp2
    clear hgs
    go_loopw [72] (fun v72 W => ∃ i : Nat, i ≤ L.length - a ∧ v72 = .int .i64 i ∧ Aside0 (StW w g gs I (stB I) (L.length - a) i W)) (fun v72 _ => L.length - a - (intOf v72).toNat)
    case atStart => exact ⟨0, Nat.zero_le _, rfl, K0⟩
    case round =>
      obtain ⟨i, hi, rfl, HK⟩ := hrel
      clear K0
      obtain ⟨z1, z2, z3, z4⟩ := HK.out
      have s0 : wr.cell? ⟨gs, 0, none⟩ = some (.int .i64 (stF I (stB I) i).1) := by rw [cell_of_row wr gs 0 _ 68 (0, 0) z2]; rfl
      have s1 : wr.cell? ⟨gs, 1, none⟩ = some (.int .i64 (stF I (stB I) i).2.1) := by rw [cell_of_row wr gs 1 _ 68 (0, 0) z2]; rfl
      have s2 : wr.cell? ⟨gs, 2, none⟩ = some (.int .i64 (stF I (stB I) i).2.2) := by rw [cell_of_row wr gs 2 _ 68 (0, 0) z2]; rfl
      have sf : ∀ j, wr.frozen? ⟨gs, j, none⟩ = false := fun j => by simp [World.frozen?, z2]
      have sf0 := sf 0
      have sf1 := sf 1
      have sf2 := sf 2
      have gl := sp_lt z1
      have gsl : gs < wr.heap.size := by
        rcases Nat.lt_or_ge gs wr.heap.size with c | c
        · exact c
        · rw [Array.getElem?_eq_none c] at z2; cases z2
      have gl1 : g < wr.heap.size + 1 := by omega
      have gsl1 : gs < wr.heap.size + 1 := by omega
      have z3' : g ≠ gs := fun e => z3 e.symm
      by_cases hlt : i < L.length - a
      · obtain ⟨ad0, eA, x0, x1, x2, x3, x4, x5⟩ := at_T31 HI.out (i : Int) (by omega) (by have := EI.out; omega)
        rw [Int.toNat_natCast] at x0 x1 x2 x3 x4 x5
        injection eA with eA
        subst eA
        rw [add_block, add_block] at x1 x2 x3 x4 x5
        replace x0 := pw_cell_below z1.2.2 x0
        replace x1 := pw_cell_below z1.2.2 x1
        replace x2 := pw_cell_below z1.2.2 x2
        replace x3 := pw_cell_below z1.2.2 x3
        replace x4 := pw_cell_below z1.2.2 x4
        replace x5 := pw_cell_below z1.2.2 x5
        have b0 := World.block_lt_of_cell? wr _ x0
        rw [add_block, add_block] at b0
        have b1 : ad.block < wr.heap.size + 1 := by omega
        have oc := sp_cell (o := i) z1 (by rw [stZ_len]; omega)
        have of := sp_free z1 i
        generalize hx : rd_T31 I (i : Int) = X at x0 x1 x2 x3 x4 x5
        obtain ⟨kd_, wd_, st_, sh_, pe_, fl_⟩ := X
        simp only at x0 x1 x2 x3 x4 x5
        generalize hs : stF I (stB I) i = S at s0 s1 s2
        obtain ⟨sa, sb, sc⟩ := S
        simp only at s0 s1 s2
        have HX := Aside0.mk hx
        have HS := Aside0.mk hs
        have Z3 := Aside0.mk z3
        clear hx hs z1 z2 z4 sf
        by_cases hf : i < stB I
        · have hf1 : decide (i < stB I) = true := decide_eq_true hf
          go_wp2
          go_roundw
          case rel => exact ⟨i + 1, by omega, by push_cast; rfl, ⟨st_pass (st_alloc HK.out _) (by unfold stO; rw [if_pos hf]) (by rw [stF, if_pos hf])⟩⟩
          case measure => show _ < _; simp only [intOf]; omega
        · have hf1 : decide (i < stB I) = false := decide_eq_false hf
          by_cases h3 : kd_ = 3
          · subst h3
            go_wp2
            go_roundw
            case rel => exact ⟨i + 1, by omega, by push_cast; rfl, ⟨st_pass (st_alloc HK.out _) (by unfold stO; rw [if_neg hf, HX.out, if_pos rfl]) (by rw [stF, if_neg hf, HX.out, if_pos rfl])⟩⟩
            case measure => show _ < _; simp only [intOf]; omega
          · have h31 : (kd_ == 3) = false := by simpa using h3
            by_cases h2 : kd_ = 2
            · subst h2
              go_wp2
              go_roundw
              case rel =>
                refine ⟨i + 1, by omega, by push_cast; rfl, ⟨st_alloc (st_step2 HK.out (by omega) (by unfold stO; rw [if_neg hf, HX.out, if_neg h3]) ?_) _⟩⟩
                rw [stF, if_neg hf, HX.out, if_neg h3, HS.out]; rfl
              case measure => show _ < _; simp only [intOf]; omega
            · have h21 : (kd_ == 2) = false := by simpa using h2
              go_wp2
              go_roundw
              case rel =>
                refine ⟨i + 1, by omega, by push_cast; rfl, ⟨st_alloc (st_step1 HK.out (by omega) (by unfold stO; rw [if_neg hf, HX.out, if_neg h3]) HS.out ?_) _⟩⟩
                rw [stF, if_neg hf, HX.out, if_neg h3, HS.out]; simp only [if_neg h2]
              case measure => show _ < _; simp only [intOf]; omega
      · obtain rfl : i = L.length - a := by omega
        have hf0 := stB_le I
        have ei := EI.out
        rw [ei] at hf0
        generalize hs : stF I (stB I) (L.length - a) = S at s0 s1 s2 HP z2
        obtain ⟨sa, sb, sc⟩ := S
        simp only at s0 s1 s2 HP z2
        have E0 := Aside0.mk (show StE w g gs (stZ I (stB I) (L.length - a) (L.length - a)) sa sb sc wr from ⟨z1, z2, z3, z4⟩)
        have HS := Aside0.mk hs
        clear hs z1 z2 z4 sf ei hg hb1
        by_cases hfn : stB I = L.length - a
        · have hz := stF_none I (stB I) (L.length - a) (by omega)
          rw [HS.out] at hz
          injection hz with hz1 hz2
          injection hz2 with hz2 hz3
          subst hz1 hz2 hz3
          obtain ⟨eq1, eq2⟩ := spS_flat HP.out
          rw [Int.sub_zero] at eq2
          generalize hd : wrap64 a3 = dd at eq2
          have hw : IntKind.i64.wrap a3 = dd := by rw [i64_w]; exact hd
          have hw' : IntKind.i64.wrap (a3 - 0) = dd := by rw [Int.sub_zero]; exact hw
          subst eq1 eq2
          clear HS HP hd
          have E1 := Aside0.mk hfn
          clear hfn
          generalize hfi : stB I = fi at *
          have E2 := E1.out
          subst E2
          by_cases hlc : lc = L.length
          · subst hlc
            go_wp2
            go_region_with (go_at_call 37; refine (sp_flat _ _ _ _ _ _ dd _ _).mono ?_; rintro e w2 ⟨rfl, hb2⟩; have HB2 := Aside0.mk hb2; clear hb2)
            all_goals go_wp2
            all_goals go_ret3
            all_goals exact ⟨g, rfl, by rw [List.take_append_drop, hfi]; repeat (first | exact sp_below (by repeat (first | exact E0.out.1 | apply sp_drew | apply sp_drewN)) HB2.out | apply sp_drew | apply sp_drewN)⟩
          · have hlc2 : ¬ lc - a = L.length - a := by omega
            go_wp2
            go_region_with (go_at_call 37; refine (sp_flat _ _ _ _ _ _ dd _ _).mono ?_; rintro e w2 ⟨rfl, hb2⟩; have HB2 := Aside0.mk hb2; clear hb2)
            all_goals go_wp2
            all_goals go_ret3
            all_goals exact ⟨g, rfl, by rw [List.take_append_drop, hfi]; repeat (first | exact sp_below (by repeat (first | exact E0.out.1 | apply sp_drew | apply sp_drewN)) HB2.out | apply sp_drew | apply sp_drewN)⟩
        · have hcap : ¬ lc - a = stB I := by omega
          generalize hd : wrap64 (a3 - sa) = dd at HP
          have hw : IntKind.i64.wrap (a3 - sa) = dd := by rw [i64_w]; exact hd
          clear hd
          have hcap2 : ¬ L.length - a = stB I := by omega
          have HRJ := Aside0.mk (Kd.C_drop (m := stB I) (c := lc - a) HI.out (by rw [EI.out]; exact hf0) (by rw [EI.out]; omega))
          rw [if_neg hcap] at HRJ
          have HJ := Aside0.mk (show (I.drop (stB I)).length = L.length - a - stB I by rw [List.length_drop, EI.out])
          have HL := Aside0.mk (stZ_len I (stB I) (L.length - a) (L.length - a))
          clear HS
          go_wp2
          go_region_with (go_at_call 37; refine (sp_alln k _ (I.drop (stB I)) _ _ g (stB I) _ _ (L.length - a) dd _ _ _ (stZ I (stB I) (L.length - a) (L.length - a)) q ok w _ HJ.out HP.out (by omega) HL.out (by omega) HRJ.out (by repeat (first | exact E0.out.1 | apply sp_drew | apply sp_drewN))).mono ?_; rintro e w2 ⟨rfl, hw2⟩; have HW2 := Aside0.mk hw2; clear hw2)
          all_goals go_wp2
          all_goals go_ret3
          all_goals exact ⟨g, rfl, by repeat (first | exact HW2.out | apply sp_drew | apply sp_drewN)⟩
end
section
attribute [local go_sem] sp_x_block_add sp_x_cell_alloc sp_x_frozen_alloc
set_option maxHeartbeats 8000000 in
set_option maxRecDepth 100000 in
theorem st_walk3 (Al : Option Addr) (L : List S31) (lc k : Nat) (a3 : Int) (w : World) (HR : Aside0 (Kd.C k31 w Al L.length L)) (hc : L.length ≤ lc) (A1 : Aside0 (optimal_Check.f k L a3 0 = some 0)) (h4 : L.length ≤ 5000) :
    Calls Try.prog 23 #[.slice Al L.length lc, .int .i64 ((L.length : Int) - 1), .int .i64 L.length, .int .i64 a3] w fun e w' => ∃ g, e = .returned (.tuple #[.slice (some ⟨g, 0, none⟩) 0 0, .bool (decide (wrap64 a3 = 0)), .int .i64 0]) ∧ SpW w g [] w' := by
  have hu31 := Try.underlying31
  have c1 : decide ((L.length : Int) - 1 < -1) = false := by simp; omega
  have c2 : decide ((L.length : Int) ≤ (L.length : Int) - 1) = false := by simp; omega
  have c3 : decide ((L.length : Int) < (L.length : Int)) = false := by simp
  have hmk : ∀ W : World, (Instr.makeSlice 24 (.int .i64 0) (.int .i64 0)).run Try.prog W = .ok (.slice (some ⟨W.heap.size, 0, none⟩) 0 0) (W.alloc (.cells #[] 3)) := fun W => by have := st_make 0 (by omega) W; simpa using this
  generalize hd : wrap64 a3 = dd
  have hw : IntKind.i64.wrap a3 = dd := by rw [i64_w]; exact hd
  have hw' : IntKind.i64.wrap (a3 - 0) = dd := by rw [Int.sub_zero]; exact hw
  clear hd
  by_cases hla : lc = L.length
  · subst hla
    go_enter Try.func23, Try.ntmps23
    go_upto_block 0 with (first | (go_at_call 27; refine (optimal_Check.calls k _ _ L _ _ 0 _ HR.out hc A1.out).mono ?_; rintro e w1 ⟨rfl, hb1⟩))
    have K0 := Aside0.mk (show SpW w w1.heap.size [] ((w1.alloc (.cells #[] 3)).alloc (.cells #[.int .i64 0, .int .i64 0, .int .i64 0] 68)) from sp_alloc (by have := st_new hb1 0; simpa using this) _)
    clear hb1 hmk
    go_wp2
    refine wp_loop_rounds 1 ?_
    rw [rounds_succ]
    go_wp2
    refine wp_loop_rounds 1 ?_
    rw [rounds_succ]
    go_wp2
    go_region_with (go_at_call 37; refine (sp_flat _ _ _ _ _ _ dd _ _).mono ?_; rintro e w2 ⟨rfl, hb2⟩; have HB2 := Aside0.mk hb2; clear hb2)
    all_goals go_wp2
    all_goals go_ret3
    all_goals exact ⟨w1.heap.size, rfl, by repeat (first | exact sp_below (by repeat (first | exact K0.out | apply sp_drew | apply sp_drewN)) HB2.out | apply sp_drew | apply sp_drewN)⟩
  · have hla2 : ¬ L.length = lc := fun e => hla e.symm
    go_enter Try.func23, Try.ntmps23
    go_upto_block 0 with (first | (go_at_call 27; refine (optimal_Check.calls k _ _ L _ _ 0 _ HR.out hc A1.out).mono ?_; rintro e w1 ⟨rfl, hb1⟩))
    have K0 := Aside0.mk (show SpW w w1.heap.size [] ((w1.alloc (.cells #[] 3)).alloc (.cells #[.int .i64 0, .int .i64 0, .int .i64 0] 68)) from sp_alloc (by have := st_new hb1 0; simpa using this) _)
    clear hb1 hmk
    go_wp2
    refine wp_loop_rounds 1 ?_
    rw [rounds_succ]
    go_wp2
    refine wp_loop_rounds 1 ?_
    rw [rounds_succ]
    go_wp2
    go_region_with (go_at_call 37; refine (sp_flat _ _ _ _ _ _ dd _ _).mono ?_; rintro e w2 ⟨rfl, hb2⟩; have HB2 := Aside0.mk hb2; clear hb2)
    all_goals go_wp2
    all_goals go_ret3
    all_goals exact ⟨w1.heap.size, rfl, by repeat (first | exact sp_below (by repeat (first | exact K0.out | apply sp_drew | apply sp_drewN)) HB2.out | apply sp_drew | apply sp_drewN)⟩
end
section
set_option maxHeartbeats 8000000 in
set_option maxRecDepth 100000 in
theorem st_bad1 (Al : Option Addr) (L : List S31) (lc k : Nat) (a1 a2 a3 x : Int) (w : World) (HR : Aside0 (Kd.C k31 w Al L.length L)) (hc : L.length ≤ lc) (A1 : Aside0 (optimal_Check.f k L a3 0 = some x)) (hx : ¬ x = 0) :
    Calls Try.prog 23 #[.slice Al L.length lc, .int .i64 a1, .int .i64 a2, .int .i64 a3] w fun e w' => e = .returned (.tuple #[.slice none 0 0, .bool false, .int .i64 205]) ∧ Below w.heap.size w w' := by
  have c0 : (x == 0) = false := by simpa using hx
  have c0' : (x != 0) = true := by simpa using hx
  go_enter Try.func23, Try.ntmps23
  go_wp2_with (first | (go_at_call 27; refine (optimal_Check.calls k _ _ L _ _ x _ HR.out hc A1.out).mono ?_; rintro e w1 ⟨rfl, hb1⟩; have HB1 := Aside0.mk hb1; clear hb1))
  go_ret3
  exact ⟨rfl, HB1.out⟩
set_option maxHeartbeats 8000000 in
set_option maxRecDepth 100000 in
theorem st_bad2 (Al : Option Addr) (L : List S31) (lc k : Nat) (a1 a2 a3 : Int) (w : World) (HR : Aside0 (Kd.C k31 w Al L.length L)) (hc : L.length ≤ lc) (A1 : Aside0 (optimal_Check.f k L a3 0 = some 0)) (hx : a1 < -1) :
    Calls Try.prog 23 #[.slice Al L.length lc, .int .i64 a1, .int .i64 a2, .int .i64 a3] w fun e w' => e = .returned (.tuple #[.slice none 0 0, .bool false, .int .i64 205]) ∧ Below w.heap.size w w' := by
  have c1 : decide (a1 < -1) = true := decide_eq_true hx
  go_enter Try.func23, Try.ntmps23
  go_wp2_with (first | (go_at_call 27; refine (optimal_Check.calls k _ _ L _ _ 0 _ HR.out hc A1.out).mono ?_; rintro e w1 ⟨rfl, hb1⟩; have HB1 := Aside0.mk hb1; clear hb1))
  go_ret3
  exact ⟨rfl, HB1.out⟩
set_option maxHeartbeats 8000000 in
set_option maxRecDepth 100000 in
theorem st_bad3 (Al : Option Addr) (L : List S31) (lc k : Nat) (a1 a2 a3 : Int) (w : World) (HR : Aside0 (Kd.C k31 w Al L.length L)) (hc : L.length ≤ lc) (A1 : Aside0 (optimal_Check.f k L a3 0 = some 0)) (hx : ¬ a1 < -1) (hy : a2 ≤ a1) :
    Calls Try.prog 23 #[.slice Al L.length lc, .int .i64 a1, .int .i64 a2, .int .i64 a3] w fun e w' => e = .returned (.tuple #[.slice none 0 0, .bool false, .int .i64 205]) ∧ Below w.heap.size w w' := by
  have c1 : decide (a1 < -1) = false := decide_eq_false hx
  have c2 : decide (a2 ≤ a1) = true := decide_eq_true hy
  go_enter Try.func23, Try.ntmps23
  go_wp2_with (first | (go_at_call 27; refine (optimal_Check.calls k _ _ L _ _ 0 _ HR.out hc A1.out).mono ?_; rintro e w1 ⟨rfl, hb1⟩; have HB1 := Aside0.mk hb1; clear hb1))
  go_ret3
  exact ⟨rfl, HB1.out⟩
set_option maxHeartbeats 8000000 in
set_option maxRecDepth 100000 in
theorem st_bad4 (Al : Option Addr) (L : List S31) (lc k : Nat) (a1 a2 a3 : Int) (w : World) (HR : Aside0 (Kd.C k31 w Al L.length L)) (hc : L.length ≤ lc) (A1 : Aside0 (optimal_Check.f k L a3 0 = some 0)) (hx : ¬ a1 < -1) (hy : ¬ a2 ≤ a1) (hz : (L.length : Int) < a2) :
    Calls Try.prog 23 #[.slice Al L.length lc, .int .i64 a1, .int .i64 a2, .int .i64 a3] w fun e w' => e = .returned (.tuple #[.slice none 0 0, .bool false, .int .i64 205]) ∧ Below w.heap.size w w' := by
  have c1 : decide (a1 < -1) = false := decide_eq_false hx
  have c2 : decide (a2 ≤ a1) = false := decide_eq_false hy
  have c3 : decide ((L.length : Int) < a2) = true := decide_eq_true hz
  go_enter Try.func23, Try.ntmps23
  go_wp2_with (first | (go_at_call 27; refine (optimal_Check.calls k _ _ L _ _ 0 _ HR.out hc A1.out).mono ?_; rintro e w1 ⟨rfl, hb1⟩; have HB1 := Aside0.mk hb1; clear hb1))
  go_ret3
  exact ⟨rfl, HB1.out⟩
end
/-- The items of a line. -/
def stIn (L : List S31) (a t : Nat) : List S31 := (L.take t).drop a
/-- The numbers ahead of the glue's shares, and the line's length. -/
def stRow (L : List S31) (a t : Nat) : List Int × Int :=
  if t < L.length then
    (if (rd_T31 L (t : Int)).f0 = 3 then ((stZ (stIn L a t) (stB (stIn L a t)) (t + 1 - a) (t - a)).set (t - a) (rd_T31 L (t : Int)).f1, wrap64 ((stF (stIn L a t) (stB (stIn L a t)) (t - a)).1 + (rd_T31 L (t : Int)).f1))
     else (stZ (stIn L a t) (stB (stIn L a t)) (t + 1 - a) (t - a), (stF (stIn L a t) (stB (stIn L a t)) (t - a)).1))
  else (stZ (stIn L a t) (stB (stIn L a t)) (t - a) (t - a), (stF (stIn L a t) (stB (stIn L a t)) (t - a)).1)
def stGo (k : Nat) (L : List S31) (a t : Nat) (a3 : Int) : Option (List Int × Bool × Int) :=
  if t < L.length ∨ a < t then
    (spS k (wrap64 (a3 - (stRow L a t).2)) (stF (stIn L a t) (stB (stIn L a t)) (t - a)).2.1 (stF (stIn L a t) (stB (stIn L a t)) (t - a)).2.2 ((stIn L a t).drop (stB (stIn L a t))) ((stRow L a t).1.drop (stB (stIn L a t)))).bind fun q => some ((stRow L a t).1.take (stB (stIn L a t)) ++ q.1, q.2, 0)
  else some ([], decide (wrap64 a3 = 0), 0)
def justify_Set.f (k : Nat) (l0 : List S31) (a1 a2 a3 : Int) : Option (List Int × Bool × Int) :=
  (optimal_Check.f k l0 a3 0).bind fun e => if e ≠ 0 then some ([], false, 205) else if a1 < -1 then some ([], false, 205) else if a2 ≤ a1 then some ([], false, 205) else if (l0.length : Int) < a2 then some ([], false, 205)
    else if 5000 < l0.length then none else stGo k l0 (a1 + 1).toNat a2.toNat a3
theorem leO_bind {α β : Type} {a b : Option α} {f g : α → Option β} (h : LeO a b) (hf : ∀ x, LeO (f x) (g x)) : LeO (a.bind f) (b.bind g) := fun r hr => by
  obtain ⟨x, h1, h2⟩ := Option.bind_eq_some_iff.mp hr
  rw [h x h1]; exact hf x r h2
theorem spL_mono {k : Nat} {d whole : Int} {b : Bool} : ∀ (J : List S31) (zs : List Int) (dn gv : Int), LeO (spL k d whole b J zs dn gv) (spL (k + 1) d whole b J zs dn gv)
  | [], _, _, _ => fun r h => h
  | _ :: _, [], _, _ => fun r h => h
  | x :: J, z :: zs, dn, gv => by
    simp only [spL]
    split
    · exact leO_bind (justify_share.mono _ _ _ k) fun sh => leO_bind (spL_mono J zs _ _) fun q r h => h
    · exact leO_bind (spL_mono J zs _ _) fun q r h => h
theorem spS_mono {k : Nat} {d st sh : Int} {J : List S31} {zs : List Int} : LeO (spS k d st sh J zs) (spS (k + 1) d st sh J zs) := by
  unfold spS
  repeat' split
  all_goals first | exact fun r h => h | exact leO_bind (spL_mono J zs _ _) fun q r h => h
theorem justify_Set.mono : ∀ l0 a1 a2 a3 k, LeO (justify_Set.f k l0 a1 a2 a3) (justify_Set.f (k + 1) l0 a1 a2 a3) := by
  intro l0 a1 a2 a3 k
  unfold justify_Set.f
  refine leO_bind (optimal_Check.mono l0 a3 0 k) fun e => ?_
  repeat' split
  all_goals first | exact fun r h => h | skip
  unfold stGo
  split
  · exact leO_bind spS_mono fun q r h => h
  · exact fun r h => h
theorem st_R {w W : World} {g n : Nat} {R : List Int} (h : SpW w g R W) (hn : R.length = n) (hm : n ≤ 9223372036854775807) : Kd.R (Kd.int .i64) 3 W w.heap.size (fun _ => True) (.slice (some ⟨g, 0, none⟩) n n) R := by
  refine Kd.R_of_own ⟨by simp [encs], .inr ⟨g, n, _, by rw [hn], h.2.1, h.1, by omega, hm, by simp [hn], ?_⟩⟩ (fun _ _ => trivial)
  rw [List.take_of_length_le (by simp)]
  simp [encs]
theorem st_Rnil (w W : World) : Kd.R (Kd.int .i64) 3 W w.heap.size (fun _ => True) (.slice none 0 0) ([] : List Int) :=
  Kd.R_of_own ⟨by simp [encs], .inl ⟨rfl, rfl⟩⟩ (fun _ _ => trivial)
theorem stRow_len (L : List S31) (a t : Nat) : (stRow L a t).1.length = if t < L.length then t + 1 - a else t - a := by
  unfold stRow
  split
  · split
    · rw [List.length_set, stZ_len]
    · rw [stZ_len]
  · rw [stZ_len]
theorem spS_len {k : Nat} {d st sh : Int} {J : List S31} {zs q : List Int} {ok : Bool} (h : spS k d st sh J zs = some (q, ok)) : q.length = zs.length := by
  unfold spS at h
  repeat' split at h
  all_goals first
    | (cases h; done)
    | (cases h; rfl)
    | (obtain ⟨q', h1, h⟩ := Option.bind_eq_some_iff.mp h
       injection h with h; injection h with h2 h3
       rw [← h2]; exact spL_len J zs q' _ _ h1)
set_option maxRecDepth 100000 in
theorem justify_Set.calls (k : Nat) (A0 : Option Addr) (c0 : Nat) (l0 : List S31) (a1 a2 a3 : Int) (r1 : List Int) (r2 : Bool) (r3 : Int) (w : World) (hr0 : Kd.C k31 w A0 l0.length l0) (hc0 : l0.length ≤ c0) (h : justify_Set.f k l0 a1 a2 a3 = some (r1, r2, r3)) :
    Calls Try.prog 23 #[.slice A0 l0.length c0, .int .i64 a1, .int .i64 a2, .int .i64 a3] w fun e w' => ∃ v1_, e = .returned (.tuple #[v1_, .bool r2, .int .i64 r3]) ∧ Kd.R (Kd.int .i64) 3 w' w.heap.size (fun _ => True) v1_ r1 ∧ Below w.heap.size w w' := by
  have HR := Aside0.mk hr0
  unfold justify_Set.f at h
  obtain ⟨x, h1, h⟩ := Option.bind_eq_some_iff.mp h
  have A1 := Aside0.mk h1
  have bad : ∀ {e w'}, e = Ending.returned (.tuple #[.slice none 0 0, .bool false, .int .i64 205]) ∧ Below w.heap.size w w' → some (([] : List Int), false, (205 : Int)) = some (r1, r2, r3) → ∃ v1_, e = .returned (.tuple #[v1_, .bool r2, .int .i64 r3]) ∧ Kd.R (Kd.int .i64) 3 w' w.heap.size (fun _ => True) v1_ r1 ∧ Below w.heap.size w w' := by
    intro e w' ⟨he, hb⟩ hh
    injection hh with hh; injection hh with e1 hh; injection hh with e2 e3
    subst e1 e2 e3
    exact ⟨_, he, st_Rnil w w', hb⟩
  by_cases n0 : x ≠ 0
  · rw [if_pos n0] at h
    exact (st_bad1 A0 l0 c0 k a1 a2 a3 x w HR hc0 A1 n0).mono fun e w' hh => bad hh h
  · rw [if_neg n0] at h
    obtain rfl : x = 0 := by omega
    by_cases c1 : a1 < -1
    · rw [if_pos c1] at h
      exact (st_bad2 A0 l0 _ k a1 a2 a3 w HR hc0 A1 c1).mono fun e w' hh => bad hh h
    · rw [if_neg c1] at h
      by_cases c2 : a2 ≤ a1
      · rw [if_pos c2] at h
        exact (st_bad3 A0 l0 _ k a1 a2 a3 w HR hc0 A1 c1 c2).mono fun e w' hh => bad hh h
      · rw [if_neg c2] at h
        by_cases c3 : (l0.length : Int) < a2
        · rw [if_pos c3] at h
          exact (st_bad4 A0 l0 _ k a1 a2 a3 w HR hc0 A1 c1 c2 c3).mono fun e w' hh => bad hh h
        · rw [if_neg c3] at h
          by_cases c4 : 5000 < l0.length
          · rw [if_pos c4] at h; cases h
          · rw [if_neg c4] at h
            obtain ⟨a, ea⟩ : ∃ a : Nat, a1 = (a : Int) - 1 := ⟨(a1 + 1).toNat, by omega⟩
            obtain ⟨t, et⟩ : ∃ t : Nat, a2 = (t : Int) := ⟨a2.toNat, by omega⟩
            subst ea et
            rw [show ((a : Int) - 1 + 1).toNat = a by omega, Int.toNat_natCast] at h
            have hat : a ≤ t := by omega
            have htl : t ≤ l0.length := by omega
            have EI : (stIn l0 a t).length = t - a := by simp only [stIn, List.length_drop, List.length_take]; omega
            have len : ∀ q ok, spS k (wrap64 (a3 - (stRow l0 a t).2)) (stF (stIn l0 a t) (stB (stIn l0 a t)) (t - a)).2.1 (stF (stIn l0 a t) (stB (stIn l0 a t)) (t - a)).2.2 ((stIn l0 a t).drop (stB (stIn l0 a t))) ((stRow l0 a t).1.drop (stB (stIn l0 a t))) = some (q, ok) →
                ((stRow l0 a t).1.take (stB (stIn l0 a t)) ++ q).length = (stRow l0 a t).1.length := fun q ok hh => by
              have := spS_len hh
              simp only [List.length_append, List.length_take, this, List.length_drop]; omega
            unfold stGo at h
            by_cases c5 : t < l0.length ∨ a < t
            · rw [if_pos c5] at h
              obtain ⟨⟨q, ok⟩, h2, h⟩ := Option.bind_eq_some_iff.mp h
              injection h with h; injection h with e1 h; injection h with e2 e3
              simp only at e1 e2 e3
              subst e2 e3
              have hlen := len q ok h2
              rw [stRow_len] at hlen
              have hlc : ¬ c0 = a := by omega
              obtain ⟨ad, rfl⟩ : ∃ ad, A0 = some ad := by
                obtain ⟨ad, e, _⟩ := at_T31 HR.out (a : Int) (by omega) (by omega)
                exact ⟨ad, e⟩
              have HI : Kd.C k31 w (some (ad.add (a * 6))) (stIn l0 a t).length (stIn l0 a t) := by
                have := Kd.C_mid (lo := a) (hi := t) (c := c0) HR.out hat htl hc0
                rw [if_neg hlc] at this
                exact this
              by_cases c6 : t < l0.length
              · rw [if_pos c6] at hlen
                refine (st_walk1 ad l0 (stIn l0 a t) c0 k a t a3 w HR ⟨HI⟩ ⟨EI⟩ hc0 A1 hat c6 (by omega) (stRow l0 a t).1 q (stRow l0 a t).2 ok ⟨?_⟩ ⟨h2⟩).mono ?_
                · unfold stRow
                  rw [if_pos c6]
                  exact ⟨fun z => by rw [if_pos z]; exact ⟨rfl, rfl⟩, fun z => by rw [if_neg z]; exact ⟨rfl, rfl⟩⟩
                · rintro e w' ⟨g, he, hw⟩
                  rw [e1] at hw hlen
                  exact ⟨_, he, st_R hw hlen (by omega), hw.2.2⟩
              · rw [if_neg c6] at hlen
                obtain rfl : t = l0.length := by omega
                have eR : stRow l0 a l0.length = (stZ (stIn l0 a l0.length) (stB (stIn l0 a l0.length)) (l0.length - a) (l0.length - a), (stF (stIn l0 a l0.length) (stB (stIn l0 a l0.length)) (l0.length - a)).1) := by
                  unfold stRow; rw [if_neg (by omega)]
                rw [eR] at h2 e1 hlen
                refine (st_walk2 ad l0 (stIn l0 a l0.length) c0 k a a3 w HR ⟨HI⟩ ⟨EI⟩ hc0 A1 (by omega) (by omega) q ok ⟨h2⟩).mono ?_
                rintro e w' ⟨g, he, hw⟩
                rw [e1] at hw hlen
                exact ⟨_, he, st_R hw hlen (by omega), hw.2.2⟩
            · rw [if_neg c5] at h
              injection h with h; injection h with e1 h; injection h with e2 e3
              subst e1 e2 e3
              obtain rfl : t = l0.length := by omega
              obtain rfl : a = l0.length := by omega
              refine (st_walk3 A0 l0 c0 k a3 w HR hc0 A1 (by omega)).mono ?_
              rintro e w' ⟨g, he, hw⟩
              exact ⟨_, he, st_R hw rfl (by omega), hw.2.2⟩


end Go.Proofs.Ytfbanppdiglciaa.Y
