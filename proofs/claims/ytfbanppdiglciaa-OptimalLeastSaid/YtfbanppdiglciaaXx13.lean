-- written by a program of this session (wip/xprint.py) over the kit's print
import Derived.Test.YtfbanppdiglciaaXx0
import Derived.Test.YtfbanppdiglciaaXx3
import Derived.Test.YtfbanppdiglciaaXx5
import Derived.Test.YtfbanppdiglciaaXx7
import Derived.Test.YtfbanppdiglciaaXx11
import Derived.Test.YtfbanppdiglciaaXx12
namespace Go.Proofs.Ytfbanppdiglciaa.X
open Go.RowKit Go.Proofs.YtfbanppdiglciaaW.PrintWords Go.Proofs.YtfbanppdiglciaaW.PrintLast Go.Proofs.YtfbanppdiglciaaW.PrintMore
attribute [local go_sem] max2_int min2_int max_two min_two max_three min_three max_four min_four   -- for this text's walks alone
set_option linter.unusedVariables false
set_option linter.unusedSimpArgs false

/-! ### ahead of optimal_Best -/
theorem rk_blk_of {w : World} {a : Addr} {n : Nat} {v : Value} (h : w.cell? (a.add n) = some v) : a.block < w.heap.size := by
  have := World.block_lt_of_cell? w _ h
  rwa [add_block] at this
theorem rk_x_block_add (a : Addr) (n : Nat) : (a.add n).block = a.block := by unfold Addr.add; split <;> rfl
theorem rk_x_cell_alloc (w : World) (o : Obj) (a : Addr) (h : a.block < w.heap.size) : (w.alloc o).cell? a = w.cell? a := World.cell?_alloc_lt w o a h
def rk_sumsAt (l : List S31) : Nat → S81
  | 0 => ⟨0, 0, 0⟩
  | j + 1 => let s := rk_sumsAt l j; let x := l.getD j z31
    ⟨if x.f0 = 3 then s.f0 else wrap64 (s.f0 + x.f1), if x.f0 = 2 then wrap64 (s.f1 + x.f2) else s.f1, if x.f0 = 2 then wrap64 (s.f2 + x.f3) else s.f2⟩
def rk_SumsC (l : List S31) (C : Array Value) (i : Nat) : Prop := C.size = (l.length + 1) * 3 ∧ (∀ o, o < (l.length + 1) * 3 → ∃ z, C[o]? = some (.int .i64 z)) ∧
  ∀ j, j ≤ i → C[j * 3]? = some (.int .i64 (rk_sumsAt l j).f0) ∧ C[j * 3 + 1]? = some (.int .i64 (rk_sumsAt l j).f1) ∧ C[j * 3 + 2]? = some (.int .i64 (rk_sumsAt l j).f2)
def rk_Rk1 (A0 : Option Addr) (l : List S31) (c0 : Nat) (width : Int) (Z2 : Array Value) (gs gb gp : Nat) (w W : World) (i : Nat) : Prop :=
  ∃ C, W.heap[gs]? = some (.cells C 81 (0, 0)) ∧ rk_SumsC l C i ∧ W.heap[gb]? = some (.cells Z2 3 (0, 0)) ∧ W.heap[gp]? = some (.cells #[.slice A0 l.length c0, .slice (some ⟨gs, 0, none⟩) (l.length + 1) (l.length + 1), .slice (some ⟨gb, 0, none⟩) (l.length + 1) (l.length + 1), .int .i64 width] 79 (0, 0)) ∧ Below w.heap.size w W
theorem rk_x_lt {w : World} {g : Nat} {o : Obj} (h : w.heap[g]? = some o) : g < w.heap.size := by
  rcases Nat.lt_or_ge g w.heap.size with c | c
  · exact c
  · rw [Array.getElem?_eq_none c] at h; cases h
def rk_Rk0 (A0 : Option Addr) (n c0 : Nat) (width : Int) (Z1 Z2 : Array Value) (w W : World) (gs gb gp : Nat) : Prop :=
  W.heap[gs]? = some (.cells Z1 81 (0, 0)) ∧ W.heap[gb]? = some (.cells Z2 3 (0, 0)) ∧ W.heap[gp]? = some (.cells #[.slice A0 n c0, .slice (some ⟨gs, 0, none⟩) (n + 1) (n + 1), .slice (some ⟨gb, 0, none⟩) (n + 1) (n + 1), .int .i64 width] 79 (0, 0)) ∧
    gs < gp ∧ gb < gp ∧ gs ≠ gb ∧ w.heap.size ≤ gs ∧ w.heap.size ≤ gb ∧ Below w.heap.size w W
theorem rk_x_new (w : World) (o : Obj) (g : Nat) (h : g = w.heap.size) : (w.alloc o).heap[g]? = some o := by subst h; exact heap_alloc_new w o
theorem rk_x_old (w : World) (o o' : Obj) (g : Nat) (h : w.heap[g]? = some o') : (w.alloc o).heap[g]? = some o' := by
  have : g < w.heap.size := by
    rcases Nat.lt_or_ge g w.heap.size with c | c
    · exact c
    · rw [Array.getElem?_eq_none c] at h; cases h
  exact (Below.heap_alloc w o g this).trans h
theorem rk_x_frozen_alloc (w : World) (o : Obj) (a : Addr) (h : a.block < w.heap.size) : (w.alloc o).frozen? a = w.frozen? a := by
  simp only [World.frozen?]; rw [Below.heap_alloc w o a.block h]
theorem rk_x_frozen (w : World) (g j : Nat) (cs : Array Value) (t : TypeId) (h : w.heap[g]? = some (.cells cs t (0, 0))) : w.frozen? ⟨g, j, none⟩ = false := by
  simp [World.frozen?, h]

theorem rk_x_C81_put {l : List S31} {C : Array Value} {i : Nat} {a b c : Int} (h : rk_SumsC l C i) (hi : i < l.length) (hv : rk_sumsAt l (i + 1) = ⟨a, b, c⟩) :
    rk_SumsC l (((C.setIfInBounds ((i + 1) * 3) (.int .i64 a)).setIfInBounds ((i + 1) * 3 + 1) (.int .i64 b)).setIfInBounds ((i + 1) * 3 + 2) (.int .i64 c)) (i + 1) := by
  obtain ⟨h1, h2, h3⟩ := h
  refine ⟨by simpa using h1, fun o ho => ?_, fun j hj => ?_⟩
  · by_cases e2 : o = (i + 1) * 3 + 2
    · exact ⟨c, by subst e2; rw [Array.getElem?_setIfInBounds_self_of_lt (by simp; omega)]⟩
    rw [Array.getElem?_setIfInBounds_ne (Ne.symm e2)]
    by_cases e1 : o = (i + 1) * 3 + 1
    · exact ⟨b, by subst e1; rw [Array.getElem?_setIfInBounds_self_of_lt (by simp; omega)]⟩
    rw [Array.getElem?_setIfInBounds_ne (Ne.symm e1)]
    by_cases e0 : o = (i + 1) * 3
    · exact ⟨a, by subst e0; rw [Array.getElem?_setIfInBounds_self_of_lt (by omega)]⟩
    rw [Array.getElem?_setIfInBounds_ne (Ne.symm e0)]
    exact h2 o ho
  · by_cases e : j = i + 1
    · subst e
      rw [hv]
      refine ⟨?_, ?_, ?_⟩
      · rw [Array.getElem?_setIfInBounds_ne (by omega), Array.getElem?_setIfInBounds_ne (by omega), Array.getElem?_setIfInBounds_self_of_lt (by omega)]
      · rw [Array.getElem?_setIfInBounds_ne (by omega), Array.getElem?_setIfInBounds_self_of_lt (by simp; omega)]
      · rw [Array.getElem?_setIfInBounds_self_of_lt (by simp; omega)]
    · obtain ⟨g1, g2, g3⟩ := h3 j (by omega)
      refine ⟨?_, ?_, ?_⟩
      · rw [Array.getElem?_setIfInBounds_ne (by omega), Array.getElem?_setIfInBounds_ne (by omega), Array.getElem?_setIfInBounds_ne (by omega)]; exact g1
      · rw [Array.getElem?_setIfInBounds_ne (by omega), Array.getElem?_setIfInBounds_ne (by omega), Array.getElem?_setIfInBounds_ne (by omega)]; exact g2
      · rw [Array.getElem?_setIfInBounds_ne (by omega), Array.getElem?_setIfInBounds_ne (by omega), Array.getElem?_setIfInBounds_ne (by omega)]; exact g3
theorem rk_Rk1.step {A0 : Option Addr} {l : List S31} {c0 : Nat} {width : Int} {Z2 : Array Value} {gs gb gp : Nat} {w W : World} {i : Nat} {a b c : Int} (o1 o2 : Obj) (h : rk_Rk1 A0 l c0 width Z2 gs gb gp w W i)
    (Q : gs < gp ∧ gb < gp ∧ gs ≠ gb ∧ w.heap.size ≤ gs ∧ w.heap.size ≤ gb) (hi : i < l.length) (hv : rk_sumsAt l (i + 1) = ⟨a, b, c⟩) :
    rk_Rk1 A0 l c0 width Z2 gs gb gp w (((((W.setCell ⟨gs, (i + 1) * 3, none⟩ (.int .i64 a)).setCell ⟨gs, (i + 1) * 3 + 1, none⟩ (.int .i64 b)).setCell ⟨gs, (i + 1) * 3 + 2, none⟩ (.int .i64 c)).alloc o1).alloc o2).drew (i + 1) := by
  obtain ⟨C, h1, h2, h3, h4, h5⟩ := h
  obtain ⟨q1, q2, q3, q4, q5⟩ := Q
  refine ⟨_, ?_, rk_x_C81_put h2 hi hv, ?_, ?_, ?_⟩
  · exact rk_x_old _ _ _ _ (rk_x_old _ _ _ _ (blk_set (blk_set (blk_set h1 _ _) _ _) _ _))
  · exact rk_x_old _ _ _ _ (rk_x_old _ _ _ _ (blk_far (blk_far (blk_far h3 (show gb ≠ gs by omega) _) (show gb ≠ gs by omega) _) (show gb ≠ gs by omega) _))
  · exact rk_x_old _ _ _ _ (rk_x_old _ _ _ _ (blk_far (blk_far (blk_far h4 (show gp ≠ gs by omega) _) (show gp ≠ gs by omega) _) (show gp ≠ gs by omega) _))
  · exact below_drew (below_alloc (below_alloc (below_set (below_set (below_set h5 q4) q4) q4) _) _)
theorem rk_rd_succ {l : List S31} {i : Nat} {x : S31} {s : S81} (hx : rd_T31 l (i : Int) = x) (hs : rk_sumsAt l i = s) : rk_sumsAt l (i + 1) = ⟨if x.f0 = 3 then s.f0 else wrap64 (s.f0 + x.f1), if x.f0 = 2 then wrap64 (s.f1 + x.f2) else s.f1, if x.f0 = 2 then wrap64 (s.f2 + x.f3) else s.f2⟩ := by
  subst hx hs
  simp only [rk_sumsAt, rd_T31, Int.toNat_natCast]
  rfl
def rk_begR (l : List S31) : Nat → Int
  | 0 => l.length
  | k + 1 => if (l.getD (l.length - (k + 1)) z31).f0 = 1 then ((l.length - (k + 1) : Nat) : Int) else rk_begR l k
def rk_BegC (l : List S31) (D : Array Value) (k : Nat) : Prop := D.size = l.length + 1 ∧ (∀ o, o < l.length + 1 → ∃ z, D[o]? = some (.int .i64 z)) ∧ ∀ j, j ≤ k → D[l.length - j]? = some (.int .i64 (rk_begR l j))
def rk_Rk2 (A0 : Option Addr) (l : List S31) (c0 : Nat) (width : Int) (gs gb gp : Nat) (w W : World) (k : Nat) : Prop :=
  ∃ C D, W.heap[gs]? = some (.cells C 81 (0, 0)) ∧ rk_SumsC l C l.length ∧ W.heap[gb]? = some (.cells D 3 (0, 0)) ∧ rk_BegC l D k ∧ W.heap[gp]? = some (.cells #[.slice A0 l.length c0, .slice (some ⟨gs, 0, none⟩) (l.length + 1) (l.length + 1), .slice (some ⟨gb, 0, none⟩) (l.length + 1) (l.length + 1), .int .i64 width] 79 (0, 0)) ∧ Below w.heap.size w W
theorem rk_BegC.put {l : List S31} {D : Array Value} {k : Nat} {a : Int} (h : rk_BegC l D k) (hk : k < l.length) (hv : rk_begR l (k + 1) = a) : rk_BegC l (D.setIfInBounds (l.length - (k + 1)) (.int .i64 a)) (k + 1) := by
  obtain ⟨h1, h2, h3⟩ := h
  refine ⟨by simpa using h1, fun o ho => ?_, fun j hj => ?_⟩
  · by_cases e : o = l.length - (k + 1)
    · exact ⟨a, by subst e; rw [Array.getElem?_setIfInBounds_self_of_lt (by omega)]⟩
    rw [Array.getElem?_setIfInBounds_ne (Ne.symm e)]
    exact h2 o ho
  · by_cases e : j = k + 1
    · subst e; rw [hv, Array.getElem?_setIfInBounds_self_of_lt (by omega)]
    · rw [Array.getElem?_setIfInBounds_ne (by omega)]; exact h3 j (by omega)
theorem rk_x_put2 (D : Array Value) (i : Nat) (u v : Value) : (D.setIfInBounds i u).setIfInBounds i v = D.setIfInBounds i v := by
  apply Array.ext_getElem?
  intro j
  by_cases e : i = j
  · subst e
    by_cases h : i < D.size
    · rw [Array.getElem?_setIfInBounds_self_of_lt (by simpa using h), Array.getElem?_setIfInBounds_self_of_lt h]
    · simp [Array.getElem?_eq_none (Nat.le_of_not_lt h), h]
  · rw [Array.getElem?_setIfInBounds_ne e, Array.getElem?_setIfInBounds_ne e, Array.getElem?_setIfInBounds_ne e]
def rk_sumsL (l : List S31) : List S81 := (List.range (l.length + 1)).map (rk_sumsAt l)
def rk_begsL (l : List S31) : List Int := (List.range (l.length + 1)).map (fun i => rk_begR l (l.length - i))
def rk_cut (W : World) (n : Nat) : World := { W with heap := W.heap.extract 0 n }
theorem rk_cut_heap (W : World) (n g : Nat) (h : g < n) : (rk_cut W n).heap[g]? = W.heap[g]? := by
  simp only [rk_cut, Array.getElem?_extract]
  split
  · simp
  · rename_i c; rw [Array.getElem?_eq_none (by omega)]
theorem rk_cut_below {W : World} {n : Nat} (hn : n ≤ W.heap.size) : Below (rk_cut W n).heap.size (rk_cut W n) W := by
  have e : (rk_cut W n).heap.size = n := by simp [rk_cut]; omega
  refine ⟨rfl, rfl, rfl, by omega, fun k hk => ?_⟩
  rw [rk_cut_heap W n k (by omega)]
theorem rk_below_cut {w W : World} {n : Nat} (h : Below w.heap.size w W) (hw : w.heap.size ≤ n) (hn : n ≤ W.heap.size) : Below w.heap.size w (rk_cut W n) := by
  have e : (rk_cut W n).heap.size = n := by simp [rk_cut]; omega
  refine ⟨h.os, h.tape, h.output, by omega, fun k hk => ?_⟩
  rw [rk_cut_heap W n k (by omega)]
  exact h.block k hk
theorem rk_range_map_get {α : Type} (f : Nat → α) (n j : Nat) (p : α) (h : ((List.range n).map f)[j]? = some p) : j < n ∧ p = f j := by
  rw [List.getElem?_map] at h
  by_cases c : j < n
  · rw [List.getElem?_range c] at h
    exact ⟨c, by simpa using h.symm⟩
  · rw [List.getElem?_eq_none (by simp; omega)] at h; cases h
theorem rk_Rk2.done {A0 : Option Addr} {l : List S31} {c0 : Nat} {width : Int} {gs gb gp : Nat} {w W : World} (h : rk_Rk2 A0 l c0 width gs gb gp w W l.length)
    (Q : gs < gp ∧ gb < gp ∧ gs ≠ gb ∧ w.heap.size ≤ gs ∧ w.heap.size ≤ gb) (hm : l.length ≤ 9223372036854775800) (hc : Kd.C k31 w A0 l.length l) : IsS79 (rk_cut W gp) W gp l (rk_sumsL l) (rk_begsL l) width ∧ Below (rk_cut W gp).heap.size (rk_cut W gp) W ∧ Below w.heap.size w W ∧ Below w.heap.size w (rk_cut W gp) := by
  obtain ⟨C, D, h1, h2, h3, h4, h5, h6⟩ := h
  obtain ⟨q1, q2, q3, q4, q5⟩ := Q
  have hgp := rk_x_lt h5
  have hb := rk_below_cut h6 (show w.heap.size ≤ gp by omega) (Nat.le_of_lt hgp)
  refine ⟨⟨A0, c0, some ⟨gs, 0, none⟩, l.length + 1, some ⟨gb, 0, none⟩, l.length + 1, ?_, ?_, Kd.C_below hc hb, ?_, ?_⟩, rk_cut_below (Nat.le_of_lt hgp), h6, hb⟩
  · rw [h5]; simp [rk_sumsL, rk_begsL]
  · simp [rk_cut]; omega
  · refine ⟨rfl, by simp [rk_sumsL]; omega, fun _ => ⟨_, rfl, fun j p hp => ?_⟩⟩
    obtain ⟨hj, rfl⟩ := rk_range_map_get _ _ _ _ hp
    refine ⟨_, rfl, k81_mk _ _, fun i u hu => ?_⟩
    obtain ⟨s0, s1, s2⟩ := h2.2.2 j (by omega)
    have cs : ∀ o u, C[o]? = some u → (rk_cut W gp).cell? ⟨gs, o, none⟩ = some u := fun o u ho => by
      rw [cell_of_row (rk_cut W gp) gs o _ 81 (0, 0) ((rk_cut_heap W gp gs q1).trans h1)]; exact ho
    have e : (Addr.add ⟨gs, 0, none⟩ (j * 3 + i)) = ⟨gs, j * 3 + i, none⟩ := by simp [Addr.add]; omega
    show (rk_cut W gp).cell? (Addr.add ⟨gs, 0, none⟩ (j * 3 + i)) = some u
    rw [e]
    match i, hu with
    | 0, hu => cases hu; exact cs _ _ s0
    | 1, hu => cases hu; exact cs _ _ s1
    | 2, hu => cases hu; exact cs _ _ s2
    | i + 3, hu => cases hu
  · refine ⟨rfl, by simp [rk_begsL]; omega, fun _ => ⟨_, rfl, fun j p hp => ?_⟩⟩
    obtain ⟨hj, rfl⟩ := rk_range_map_get _ _ _ _ hp
    refine ⟨[.int .i64 (rk_begR l (l.length - j))], rfl, rfl, fun i u hu => ?_⟩
    have s0 := h4.2.2 (l.length - j) (by omega)
    rw [show l.length - (l.length - j) = j by omega] at s0
    have e : (Addr.add ⟨gb, 0, none⟩ (j * 1 + i)) = ⟨gb, j * 1 + i, none⟩ := by simp [Addr.add]; omega
    show (rk_cut W gp).cell? (Addr.add ⟨gb, 0, none⟩ (j * 1 + i)) = some u
    rw [e]
    match i, hu with
    | 0, hu =>
      cases hu
      rw [cell_of_row (rk_cut W gp) gb _ _ 3 (0, 0) ((rk_cut_heap W gp gb q2).trans h3), Nat.mul_one, Nat.add_zero]; exact s0
    | i + 1, hu => cases hu
theorem rk_beg_succ {l : List S31} {m k : Nat} {kd bk : Int} (hx : (rd_T31 l (m : Int)).f0 = kd) (hs : rk_begR l k = bk) (h : k + 1 + m = l.length) : rk_begR l (k + 1) = if kd = 1 then (m : Int) else bk := by
  subst hx hs
  have e : l.length - (k + 1) = m := by omega
  simp only [rk_begR, rd_T31, Int.toNat_natCast, e]
  rfl
theorem rk_Rk2.step1 {A0 : Option Addr} {l : List S31} {c0 : Nat} {width : Int} {gs gb gp : Nat} {w W : World} {k m : Nat} {a : Int} (h : rk_Rk2 A0 l c0 width gs gb gp w W k)
    (Q : gs < gp ∧ gb < gp ∧ gs ≠ gb ∧ w.heap.size ≤ gs ∧ w.heap.size ≤ gb) (hi : k < l.length) (hm : k + 1 + m = l.length) (hv : rk_begR l (k + 1) = a) :
    rk_Rk2 A0 l c0 width gs gb gp w (W.setCell ⟨gb, m, none⟩ (.int .i64 a)).drew (k + 1) := by
  obtain ⟨C, D, h1, h2, h3, h4, h5, h6⟩ := h
  obtain ⟨q1, q2, q3, q4, q5⟩ := Q
  have e : m = l.length - (k + 1) := by omega
  subst e
  exact ⟨C, _, blk_far h1 (show gs ≠ gb from q3) _, h2, blk_set h3 _ _, h4.put hi hv, blk_far h5 (show gp ≠ gb by omega) _, below_drew (below_set h6 q5)⟩
theorem rk_Rk2.step2 {A0 : Option Addr} {l : List S31} {c0 : Nat} {width : Int} {gs gb gp : Nat} {w W : World} {k m : Nat} {a : Int} {v : Value} (h : rk_Rk2 A0 l c0 width gs gb gp w W k)
    (Q : gs < gp ∧ gb < gp ∧ gs ≠ gb ∧ w.heap.size ≤ gs ∧ w.heap.size ≤ gb) (hi : k < l.length) (hm : k + 1 + m = l.length) (hv : rk_begR l (k + 1) = a) :
    rk_Rk2 A0 l c0 width gs gb gp w ((W.setCell ⟨gb, m, none⟩ v).setCell ⟨gb, m, none⟩ (.int .i64 a)).drew (k + 1) := by
  obtain ⟨C, D, h1, h2, h3, h4, h5, h6⟩ := h
  obtain ⟨q1, q2, q3, q4, q5⟩ := Q
  have e : m = l.length - (k + 1) := by omega
  subst e
  refine ⟨C, _, blk_far (blk_far h1 (show gs ≠ gb from q3) _) (show gs ≠ gb from q3) _, h2, blk_set (blk_set h3 _ _) _ _, ?_, blk_far (blk_far h5 (show gp ≠ gb by omega) _) (show gp ≠ gb by omega) _, below_drew (below_set (below_set h6 q5) q5)⟩
  rw [rk_x_put2]
  exact h4.put hi hv
section
attribute [local go_sem] rk_x_block_add rk_x_cell_alloc rk_x_frozen_alloc
set_option maxHeartbeats 8000000 in
set_option maxRecDepth 100000 in
theorem rk_walk (A0 : Option Addr) (l : List S31) (n c0 : Nat) (hn : Aside0 (l.length = n)) (width : Int) (Z1 Z2 : Array Value) (n0 : n ≤ 9223372036854775800) (w : World) (HR : Aside0 (Kd.C k31 w A0 l.length l)) (HZ1 : Aside0 (rk_SumsC l Z1 0)) (HZ2 : Aside0 (Z2.size = l.length + 1 ∧ ∀ o, o < l.length + 1 → ∃ z, Z2[o]? = some (.int .i64 z)))
   (hmk1 : ∀ W, (Instr.makeSlice 77 (.int .i64 ((n : Int) + 1)) (.int .i64 ((n : Int) + 1))).run Try.prog W = .ok (.slice (some ⟨W.heap.size, 0, none⟩) (n + 1) (n + 1)) (W.alloc (.cells Z1 81)))
   (hmk2 : ∀ W, (Instr.makeSlice 24 (.int .i64 ((n : Int) + 1)) (.int .i64 ((n : Int) + 1))).run Try.prog W = .ok (.slice (some ⟨W.heap.size, 0, none⟩) (n + 1) (n + 1)) (W.alloc (.cells Z2 3))) :
    Calls Try.prog 28 #[.slice A0 n c0, .int .i64 width] w fun e w' => ∃ (g : Nat) (w0 : World), e = .returned (.pointer (some ⟨g, 0, none⟩)) ∧ IsS79 w0 w' g l (rk_sumsL l) (rk_begsL l) width ∧ Below w0.heap.size w0 w' ∧ Below w.heap.size w w' ∧ Below w.heap.size w w0 := by
  have hu81 := Try.underlying81
  have hu79 := Try.underlying79
  have hu31 := Try.underlying31
  go_enter Try.func28, Try.ntmps28
  go_upto_region 1 with (fail)
  go_cut [5] (fun v5 W => ∃ gs gb gp : Nat, v5 = .pointer (some ⟨gp, 0, none⟩) ∧ rk_Rk0 A0 n c0 width Z1 Z2 w W gs gb gp)
  case first =>
    go_region
    · go_wp2
      go_meet
      case rel =>
        refine ⟨w.heap.size, w.heap.size + 1, w.heap.size + 1 + 1, rfl, ?_, ?_, ?_, by omega, by omega, by omega, by omega, by omega, by repeat (first | exact Below.refl _ _ | apply below_alloc | apply below_drew1)⟩
        · exact rk_x_old _ _ _ _ (rk_x_old _ _ _ _ (rk_x_new _ _ _ rfl))
        · exact rk_x_old _ _ _ _ (rk_x_new _ _ _ (by simp))
        · exact rk_x_new _ _ _ (by simp)
    · go_wp2
      go_meet
      case rel =>
        refine ⟨w.heap.size + 1, w.heap.size, w.heap.size + 1 + 1, rfl, ?_, ?_, ?_, by omega, by omega, by omega, by omega, by omega, by repeat (first | exact Below.refl _ _ | apply below_alloc | apply below_drew1)⟩
        · exact rk_x_old _ _ _ _ (rk_x_new _ _ _ (by simp))
        · exact rk_x_old _ _ _ _ (rk_x_old _ _ _ _ (rk_x_new _ _ _ rfl))
        · exact rk_x_new _ _ _ (by simp)
  case rest =>
    clear hmk1 hmk2
    obtain ⟨gs, gb, gp, rfl, R⟩ := hcut
    obtain ⟨r1, r2, r3, r4, r5, r6, r7, r8, r9⟩ := R
    have R1 := Aside0.mk (show rk_Rk1 A0 l c0 width Z2 gs gb gp w wc 0 from ⟨Z1, r1, HZ1.out, r2, by rw [hn.out]; exact r3, r9⟩)
    have Q := Aside0.mk (show gs < gp ∧ gb < gp ∧ gs ≠ gb ∧ w.heap.size ≤ gs ∧ w.heap.size ≤ gb from ⟨r4, r5, r6, r7, r8⟩)
    clear r1 r2 r3 r4 r5 r6 r7 r8 r9
    go_wp2
    go_loopw [24] (fun v24 W => ∃ i : Nat, i ≤ n ∧ v24 = .int .i64 i ∧ Aside0 (rk_Rk1 A0 l c0 width Z2 gs gb gp w W i)) (fun v24 _ => n - (intOf v24).toNat)
    case atStart => exact ⟨0, Nat.zero_le _, rfl, R1⟩
    case round =>
      obtain ⟨i, hi, rfl, HK⟩ := hrel
      by_cases hlt : i < n
      · obtain ⟨C, d1, d2, d3, d4, d5⟩ := HK.out
        obtain ⟨ad0, eA, x0, x1, x2, x3, x4, x5⟩ := at_T31 HR.out (i : Int) (by omega) (by have := hn.out; omega)
        rw [Int.toNat_natCast] at x0 x1 x2 x3 x4 x5
        rw [add_block] at x1 x2 x3 x4 x5
        replace x0 := pw_cell_below d5 x0
        replace x1 := pw_cell_below d5 x1
        replace x2 := pw_cell_below d5 x2
        replace x3 := pw_cell_below d5 x3
        replace x4 := pw_cell_below d5 x4
        replace x5 := pw_cell_below d5 x5
        have b0 := rk_blk_of x0
        subst eA
        obtain ⟨s0, s1, s2⟩ := d2.2.2 i (Nat.le_refl _)
        have cs : ∀ j u, C[j]? = some u → wr.cell? ⟨gs, j, none⟩ = some u := fun j u hu => by rw [cell_of_row wr gs j _ 81 (0, 0) d1]; exact hu
        replace s0 := cs _ _ s0
        replace s1 := cs _ _ s1
        replace s2 := cs _ _ s2
        have gsl := rk_x_lt d1
        obtain ⟨z0, y0⟩ := d2.2.1 ((i + 1) * 3) (by have := hn.out; omega)
        obtain ⟨z1, y1⟩ := d2.2.1 ((i + 1) * 3 + 1) (by have := hn.out; omega)
        obtain ⟨z2, y2⟩ := d2.2.1 ((i + 1) * 3 + 2) (by have := hn.out; omega)
        replace y0 := cs _ _ y0
        replace y1 := cs _ _ y1
        replace y2 := cs _ _ y2
        have f0 := rk_x_frozen wr gs ((i + 1) * 3) _ _ d1
        have f1 := rk_x_frozen wr gs ((i + 1) * 3 + 1) _ _ d1
        have f2 := rk_x_frozen wr gs ((i + 1) * 3 + 2) _ _ d1
        have t1 : ((i : Int) + 1).toNat = i + 1 := by omega
        have gs1 : gs < wr.heap.size + 1 := by omega
        have gs2 : gs < wr.heap.size + 1 + 1 := by omega
        have gp1 : gp < wr.heap.size + 1 := by have := rk_x_lt d4; omega
        have gp2 : gp < wr.heap.size + 1 + 1 := by omega
        have b1 : ad0.block < wr.heap.size + 1 := by omega
        have gpl := rk_x_lt d4
        have p1 : wr.cell? ⟨gp, 1, none⟩ = some (.slice (some ⟨gs, 0, none⟩) (n + 1) (n + 1)) := by rw [cell_of_row wr gp 1 _ 79 (0, 0) d4, ← hn.out]; rfl
        generalize hx : rd_T31 l (i : Int) = X at x0 x1 x2 x3 x4 x5
        generalize hs : rk_sumsAt l i = S at s0 s1 s2
        obtain ⟨kd_, wd_, st_, sh_, pe_, fl_⟩ := X
        obtain ⟨sa, sb, sc⟩ := S
        simp only at x0 x1 x2 x3 x4 x5 s0 s1 s2
        have HX := Aside0.mk hx
        have HS := Aside0.mk hs
        clear hx hs d1 d2 d3 d4 d5 cs
        go_wp2
        all_goals go_region
        all_goals go_wp2
        all_goals go_roundw
        all_goals first
          | (show _ < _; simp only [intOf]; omega)
          | exact ⟨i + 1, by omega, by push_cast; rfl, Aside0.mk (rk_Rk1.step _ _ HK.out Q.out (by have := hn.out; omega) (by rw [rk_rd_succ HX.out HS.out]; simp_all))⟩
      · obtain rfl : i = n := by omega
        obtain ⟨C, d1, d2, d3, d4, d5⟩ := HK.out
        have gbl := rk_x_lt d3
        have gpl := rk_x_lt d4
        have fb := rk_x_frozen wr gb i _ _ d3
        obtain ⟨zb, yb⟩ := HZ2.out.2 i (by have := hn.out; omega)
        have yb : wr.cell? ⟨gb, i, none⟩ = some (.int .i64 zb) := by rw [cell_of_row wr gb i _ 3 (0, 0) d3]; exact yb
        have p1 : wr.cell? ⟨gp, 2, none⟩ = some (.slice (some ⟨gb, 0, none⟩) (i + 1) (i + 1)) := by rw [cell_of_row wr gp 2 _ 79 (0, 0) d4, ← hn.out]; rfl
        have K0 := Aside0.mk (show rk_Rk2 A0 l c0 width gs gb gp w (wr.setCell ⟨gb, i, none⟩ (.int .i64 i)) 0 from by
          obtain ⟨q1, q2, q3, q4, q5⟩ := Q.out
          refine ⟨C, Z2.setIfInBounds i (.int .i64 i), blk_far d1 (show gs ≠ gb from q3) _, by rw [hn.out]; exact d2, blk_set d3 _ _, ?_, blk_far d4 (show gp ≠ gb by omega) _, below_set d5 q5⟩
          refine ⟨by simpa using HZ2.out.1, fun o ho => ?_, fun j hj => ?_⟩
          · by_cases e : o = i
            · exact ⟨i, by subst e; rw [Array.getElem?_setIfInBounds_self_of_lt (by have := HZ2.out.1; omega)]⟩
            rw [Array.getElem?_setIfInBounds_ne (Ne.symm e)]
            exact HZ2.out.2 o ho
          · obtain rfl : j = 0 := by omega
            rw [Nat.sub_zero, hn.out, Array.getElem?_setIfInBounds_self_of_lt (by have := HZ2.out.1; have := hn.out; omega)]
            simp only [rk_begR, hn.out])
        clear d1 d2 d3 d4 d5
        go_wp2
        clear p1 fb yb HK
        go_loopw [9] (fun v9 W => ∃ k : Nat, k ≤ i ∧ v9 = .int .i64 ((i : Int) - 1 - k) ∧ Aside0 (rk_Rk2 A0 l c0 width gs gb gp w W k)) (fun v9 _ => ((intOf v9) + 1).toNat)
        case atStart => exact ⟨0, Nat.zero_le _, by simp, K0⟩
        case round =>
          clear K0
          rename_i wr0 wr
          obtain ⟨k, hk, rfl, HK⟩ := hrel
          obtain ⟨C1, D, d1, d2, d3, d4, d5, d6⟩ := HK.out
          have gbl := rk_x_lt d3
          have gpl := rk_x_lt d5
          by_cases hlt : k < i
          · obtain ⟨m, hm⟩ : ∃ m : Nat, k + 1 + m = i := ⟨i - (k + 1), by omega⟩
            have hmi : m < i := by omega
            have hm1 : (i : Int) - 1 - k = m := by omega
            have c82 : decide (0 ≤ (m : Int)) = true := by simp
            rw [hm1]
            obtain ⟨ad0, eA, x0, x1, x2, x3, x4, x5⟩ := at_T31 HR.out (m : Int) (by omega) (by have := hn.out; omega)
            rw [Int.toNat_natCast] at x0
            clear x1 x2 x3 x4 x5
            have nb : ad0.block ≠ gb := by have := rk_blk_of x0; have := Q.out; omega
            have nb' : gb ≠ ad0.block := Ne.symm nb
            replace x0 := pw_cell_below d6 x0
            have b0 := rk_blk_of x0
            subst eA
            have fb := rk_x_frozen wr gb m _ _ d3
            obtain ⟨zb, yb⟩ := d4.2.1 m (by have := hn.out; omega)
            have yb : wr.cell? ⟨gb, m, none⟩ = some (.int .i64 zb) := by rw [cell_of_row wr gb m _ 3 (0, 0) d3]; exact yb
            have sb := d4.2.2 k (Nat.le_refl _)
            rw [show l.length - k = m + 1 by have := hn.out; omega] at sb
            have sb : wr.cell? ⟨gb, m + 1, none⟩ = some (.int .i64 (rk_begR l k)) := by rw [cell_of_row wr gb (m + 1) _ 3 (0, 0) d3]; exact sb
            have t1 : ((m : Int) + 1).toNat = m + 1 := by omega
            have p1 : wr.cell? ⟨gp, 2, none⟩ = some (.slice (some ⟨gb, 0, none⟩) (i + 1) (i + 1)) := by rw [cell_of_row wr gp 2 _ 79 (0, 0) d5, ← hn.out]; rfl
            generalize hx : (rd_T31 l (m : Int)).f0 = kd_ at x0
            generalize hs : rk_begR l k = bk at sb
            have HX := Aside0.mk hx
            have HS := Aside0.mk hs
            have x9 : (wr.setCell ⟨gb, m, none⟩ (.int .i64 bk)).cell? (ad0.add (m * 6)) = some (.int .i64 kd_) := (World.cell?_of_block (w := wr) (Below.heap_setCell wr _ _ _ (by rw [add_block]; exact nb))).trans x0
            have y9 : (wr.setCell ⟨gb, m, none⟩ (.int .i64 bk)).cell? ⟨gb, m, none⟩ = some (.int .i64 bk) := by rw [cell_of_row _ gb m _ 3 (0, 0) (blk_set d3 _ _), Array.getElem?_setIfInBounds_self_of_lt (by have := d4.1; have := hn.out; omega)]
            have f9 : (wr.setCell ⟨gb, m, none⟩ (.int .i64 bk)).frozen? ⟨gb, m, none⟩ = false := rk_x_frozen _ gb m _ _ (blk_set d3 _ _)
            have p9 : (wr.setCell ⟨gb, m, none⟩ (.int .i64 bk)).cell? ⟨gp, 2, none⟩ = some (.slice (some ⟨gb, 0, none⟩) (i + 1) (i + 1)) := (World.cell?_of_block (w := wr) (Below.heap_setCell wr _ _ _ (show gp ≠ gb by have := Q.out; omega))).trans p1
            clear d1 d2 d3 d4 d5 d6 hx hs hm1
            go_wp2
            go_region
            all_goals go_wp2
            all_goals go_roundw
            all_goals first
              | (show Int.toNat _ < _; simp only [intOf]; omega)
              | exact ⟨k + 1, by omega, by congr 1; omega, Aside0.mk (rk_Rk2.step1 HK.out Q.out (by have := hn.out; omega) (by have := hn.out; omega) (by rw [rk_beg_succ HX.out HS.out (by have := hn.out; omega)]; simp_all))⟩
              | exact ⟨k + 1, by omega, by congr 1; omega, Aside0.mk (rk_Rk2.step2 HK.out Q.out (by have := hn.out; omega) (by have := hn.out; omega) (by rw [rk_beg_succ HX.out HS.out (by have := hn.out; omega)]; simp_all))⟩
          · obtain rfl : k = i := by omega
            have c82 : decide (0 ≤ (k : Int) - 1 - k) = false := by simp; omega
            clear d1 d2 d3 d4 d5 d6
            go_wp2
            go_ret
            exact ⟨gp, _, rfl, rk_Rk2.done (by rw [hn.out]; exact HK.out) Q.out (by have := hn.out; omega) HR.out⟩
end
theorem rk_z_get (z : Array Value) (n o : Nat) (h : o < n) : (Go.madeCells z n)[o]? = some (z[o % z.size]!) := by
  simp [Go.madeCells, h]
theorem rk_Z1_ok (l : List S31) : rk_SumsC l (Go.madeCells #[.int .i64 0, .int .i64 0, .int .i64 0] ((l.length + 1) * 3)) 0 := by
  have g : ∀ o, o < (l.length + 1) * 3 → (Go.madeCells #[.int .i64 0, .int .i64 0, .int .i64 0] ((l.length + 1) * 3))[o]? = some (.int .i64 0) := fun o ho => by
    rw [rk_z_get _ _ _ ho]
    have h3 : o % 3 < 3 := Nat.mod_lt _ (by decide)
    show some ((#[.int .i64 0, .int .i64 0, .int .i64 0] : Array Value)[o % 3]!) = _
    match o % 3, h3 with
    | 0, _ => rfl
    | 1, _ => rfl
    | 2, _ => rfl
  refine ⟨by simp [Go.size_madeCells], fun o ho => ⟨0, g o ho⟩, fun j hj => ?_⟩
  obtain rfl : j = 0 := by omega
  exact ⟨g _ (by omega), g _ (by omega), g _ (by omega)⟩
theorem rk_Z2_ok (n : Nat) : (Go.madeCells #[.int .i64 0] (n + 1)).size = n + 1 ∧ ∀ o, o < n + 1 → ∃ z, (Go.madeCells #[.int .i64 0] (n + 1))[o]? = some (.int .i64 z) := by
  refine ⟨by simp [Go.size_madeCells], fun o ho => ⟨0, ?_⟩⟩
  rw [rk_z_get _ _ _ ho]
  have : o % 1 = 0 := by omega
  show some ((#[.int .i64 0] : Array Value)[o % 1]!) = _
  rw [this]; rfl
theorem rk_r_make {e t : TypeId} {z : Value} {sz bytes : Nat} (hi : (Try.prog.info? e).map (fun i => (i.zero, i.size, i.bytes)) = some (some z, sz, bytes)) (ht : Try.prog.underlying t = some (.slice e)) (n : Nat) (hb : bytes * (n + 1) ≤ 281474976710656) (hn : n ≤ 9223372036854775800) (W : World) :
    (Instr.makeSlice t (.int .i64 ((n : Int) + 1)) (.int .i64 ((n : Int) + 1))).run Try.prog W = .ok (.slice (some ⟨W.heap.size, 0, none⟩) (n + 1) (n + 1)) (W.alloc (.cells (Go.madeCells z.cells ((n + 1) * sz)) e)) := by
  obtain ⟨i, h1, h2⟩ := Option.map_eq_some_iff.mp hi
  have hz : i.zero = some z := congrArg Prod.fst h2
  have hs : i.size = sz := congrArg (fun p => p.2.1) h2
  have hy : i.bytes = bytes := congrArg (fun p => p.2.2) h2
  have := run_make W t e i z ht h1 hz .i64 .i64 ((n : Int) + 1) ((n : Int) + 1) (by omega) (by omega) (by rw [hy, show ((n : Int) + 1) = ((n + 1 : Nat) : Int) from rfl, ← Int.natCast_mul]; exact Int.ofNat_le.mpr hb) (by omega)
  rw [hs, show ((n : Int) + 1).toNat = n + 1 by omega] at this
  exact this
set_option maxRecDepth 100000 in
theorem rk_reckoned_info81 : (Try.prog.info? 81).map (fun i => (i.zero, i.size, i.bytes)) = some (some (.agg #[.int .i64 0, .int .i64 0, .int .i64 0]), 3, 24) := by kernel_rfl
theorem rk_reckoned_calls (A0 : Option Addr) (c0 : Nat) (l : List S31) (width : Int) (w : World) (hr0 : Kd.C k31 w A0 l.length l) (hl : l.length ≤ 100000) :
    Calls Try.prog 28 #[.slice A0 l.length c0, .int .i64 width] w fun e w' => ∃ (g : Nat) (w0 : World), e = .returned (.pointer (some ⟨g, 0, none⟩)) ∧ IsS79 w0 w' g l (rk_sumsL l) (rk_begsL l) width ∧ Below w0.heap.size w0 w' ∧ Below w.heap.size w w' ∧ Below w.heap.size w w0 := by
  refine rk_walk A0 l l.length c0 ⟨rfl⟩ width _ _ (by omega) w ⟨hr0⟩ ⟨rk_Z1_ok l⟩ ⟨rk_Z2_ok l.length⟩ (fun W => ?_) (fun W => ?_)
  · exact rk_r_make rk_reckoned_info81 Try.underlying77 l.length (by omega) (by omega) W
  · have := rk_r_make info3 Try.underlying24 l.length (by omega) (by omega) W
    rw [Nat.mul_one] at this
    exact this

def optimal_reckoned.f (l0 : List S31) (a1 : Int) : Option (List S31 × List S81 × List Int × Int) := if l0.length ≤ 100000 then some (l0, rk_sumsL l0, rk_begsL l0, a1) else none
/-- A state whose slices' cells were made ahead of it, behind w. -/
def IsT79 (w W : World) (g : Nat) (f0 : List S31) (f1 : List S81) (f2 : List Int) (f3 : Int) : Prop := ∃ w0, Below w.heap.size w w0 ∧ Below w0.heap.size w0 W ∧ IsS79 w0 W g f0 f1 f2 f3
section
variable {w W : World} {g : Nat} {f0 : List S31} {f1 : List S81} {f2 : List Int} {f3 : Int}
theorem IsT79.below {W1 : World} (h : IsT79 w W g f0 f1 f2 f3) (hw : Below W.heap.size W W1) : IsT79 w W1 g f0 f1 f2 f3 := by
  obtain ⟨w0, h1, h2, h3⟩ := h
  exact ⟨w0, h1, below_step h2 hw, h3.below hw⟩
theorem IsT79.alloc (h : IsT79 w W g f0 f1 f2 f3) (o : Obj) : IsT79 w (W.alloc o) g f0 f1 f2 f3 := h.below (below_alloc (Below.refl _ _) o)
theorem IsT79.drewN (h : IsT79 w W g f0 f1 f2 f3) (m : Nat) : IsT79 w (W.drewN m) g f0 f1 f2 f3 := h.below (pw_below_drewN (Below.refl _ _) m)
theorem IsT79.drew (h : IsT79 w W g f0 f1 f2 f3) : IsT79 w W.drew g f0 f1 f2 f3 := h.below (below_drew (Below.refl _ _))
theorem IsT79.lt (h : IsT79 w W g f0 f1 f2 f3) : g < W.heap.size := h.choose_spec.2.2.lt
theorem IsT79.ge (h : IsT79 w W g f0 f1 f2 f3) : w.heap.size ≤ g := by
  obtain ⟨w0, h1, h2, h3⟩ := h
  exact Nat.le_trans h1.size h3.ge
theorem IsT79.set_3 (h : IsT79 w W g f0 f1 f2 f3) (x : Int) : IsT79 w (W.setCell ⟨g, 3, none⟩ (.int .i64 x)) g f0 f1 f2 x := by
  obtain ⟨w0, h1, h2, h3⟩ := h
  exact ⟨w0, h1, below_set h2 h3.ge, h3.set_3 x⟩
theorem IsT79.ne_blk {a : Nat} {cs : Array Value} {t : TypeId} {fr : Nat × Nat} (h : IsT79 w W g f0 f1 f2 f3) (hb2 : W.heap[a]? = some (.cells cs t fr)) (ht : t ≠ 79) : g ≠ a := by
  obtain ⟨w0, h1, h2, h3⟩ := h
  exact h3.ne_blk hb2 ht
theorem IsT79.own_ne {α : Type} {d : Kd α} {e : Nat} {base : Nat} {ok : Nat → Prop} {v : Value} {xs : List α} (h : IsT79 w W g f0 f1 f2 f3) (ho : d.R e W base ok v xs) (ht : e ≠ 79) : some g ≠ v.ownBlock := by
  obtain ⟨w0, h1, h2, h3⟩ := h
  exact h3.own_ne ho ht
theorem IsT79.apart {α : Type} {d : Kd α} {e : Nat} {base : Nat} {ok : Nat → Prop} {v : Value} {xs : List α} (h : IsT79 w W g f0 f1 f2 f3) (ho : d.R e W base ok v xs) (ht : ∀ q, q ∈ e :: d.E → q ≠ 79) : d.R e W base (fun k => ok k ∧ k ≠ g) v xs := by
  obtain ⟨w0, h1, h2, h3⟩ := h
  exact h3.apart ho ht
end
theorem optimal_reckoned.calls (A0 : Option Addr) (c0 : Nat) (l0 : List S31) (a1 : Int) (r1 : List S31) (r2 : List S81) (r3 : List Int) (r4 : Int) (w0 w : World) (hB : Below w0.heap.size w0 w) (hr0 : Kd.C k31 w0 A0 l0.length l0) (hc0 : l0.length ≤ c0) (h : optimal_reckoned.f l0 a1 = some (r1, r2, r3, r4)) :
    Calls Try.prog 28 #[.slice A0 l0.length c0, .int .i64 a1] w fun e w' => ∃ g, e = .returned (.pointer (some ⟨g, 0, none⟩)) ∧ IsT79 w0 w' g r1 r2 r3 r4 ∧ Below w0.heap.size w0 w' ∧ Below w.heap.size w w' := by
  unfold optimal_reckoned.f at h
  split at h
  · rename_i hl
    cases h
    refine (rk_reckoned_calls A0 c0 l0 a1 w (Kd.C_below hr0 hB) hl).mono ?_
    rintro e w' ⟨g, w1, rfl, h1, h2, h3, h4⟩
    exact ⟨g, rfl, ⟨w1, below_step hB h4, h2, h1⟩, below_step hB h3, h3⟩
  · cases h
theorem optimal_paragraph_best.callsT (k : Nat) (g : Nat) (s0_0 : List (S31)) (s0_1 : List (S81)) (s0_2 : List Int) (s0_3 : Int) (A1 : Option Addr) (c1 : Nat) (l1 : List Int) (a2 : Int) (r1 : List (S59)) (r2 : Int) (w0 w : World) (hI : IsT79 w0 w g s0_0 s0_1 s0_2 s0_3) (hB : Below w0.heap.size w0 w) (hr1 : Kd.C (Kd.int .i64) w A1 l1.length l1) (hc1 : l1.length ≤ c1) (hf1 : ∀ ad, A1 = some ad → 0 < l1.length → ad.block ≠ g) (h : optimal_paragraph_best.f k s0_0 s0_1 s0_2 s0_3 l1 a2 = some (r1, r2)) :
    Calls Try.prog 30 #[.pointer (some ⟨g, 0, none⟩), .slice A1 l1.length c1, .int .i64 a2] w fun e w' => ∃ v0_ : Value, e = .returned (v0_) ∧ Kd.R k59 59 w' w.heap.size (fun _ => True) v0_ r1 ∧ IsT79 w0 w' g s0_0 s0_1 s0_2 r2 ∧ Below w0.heap.size w0 w' ∧ KeepBut w w' g none := by
  obtain ⟨x, h1, h2, h3⟩ := hI
  refine (optimal_paragraph_best.calls k g _ _ _ _ A1 c1 l1 a2 r1 r2 x w h3 h2 hr1 hc1 hf1 h).mono ?_
  rintro e w' ⟨v, he, hv, hi, hb, hk⟩
  exact ⟨v, he, hv, ⟨x, h1, hb, hi⟩, below_step h1 hb, hk⟩
theorem optimal_paragraph_emergency.callsT (k : Nat) (g : Nat) (s0_0 : List (S31)) (s0_1 : List (S81)) (s0_2 : List Int) (s0_3 : Int) (A1 : Option Addr) (c1 : Nat) (l1 : List Int) (r1 : List Int) (r2 : Int) (w0 w : World) (hI : IsT79 w0 w g s0_0 s0_1 s0_2 s0_3) (hB : Below w0.heap.size w0 w) (hr1 : Kd.C (Kd.int .i64) w A1 l1.length l1) (hc1 : l1.length ≤ c1) (hf1 : ∀ ad, A1 = some ad → 0 < l1.length → ad.block ≠ g) (h : optimal_paragraph_emergency.f k s0_0 s0_1 s0_2 s0_3 l1 = some (r1, r2)) :
    Calls Try.prog 31 #[.pointer (some ⟨g, 0, none⟩), .slice A1 l1.length c1] w fun e w' => ∃ v0_ : Value, e = .returned (v0_) ∧ Kd.R (Kd.int .i64) 3 w' w.heap.size (fun _ => True) v0_ r1 ∧ IsT79 w0 w' g s0_0 s0_1 s0_2 r2 ∧ Below w0.heap.size w0 w' ∧ KeepBut w w' g none := by
  obtain ⟨x, h1, h2, h3⟩ := hI
  refine (optimal_paragraph_emergency.calls k g _ _ _ _ A1 c1 l1 r1 r2 x w h3 h2 hr1 hc1 hf1 h).mono ?_
  rintro e w' ⟨v, he, hv, hi, hb, hk⟩
  exact ⟨v, he, hv, ⟨x, h1, hb, hi⟩, below_step h1 hb, hk⟩
theorem optimal_paragraph_fit.callsT (k : Nat) (g : Nat) (s0_0 : List (S31)) (s0_1 : List (S81)) (s0_2 : List Int) (s0_3 : Int) (a1 : Int) (a2 : Int) (r1 : Int) (r2 : Int) (r3 : Bool) (r4 : Int) (w0 w : World) (hI : IsT79 w0 w g s0_0 s0_1 s0_2 s0_3) (hB : Below w0.heap.size w0 w) (h : optimal_paragraph_fit.f k s0_0 s0_1 s0_2 s0_3 a1 a2 = some (r1, r2, r3, r4)) :
    Calls Try.prog 40 #[.pointer (some ⟨g, 0, none⟩), .int .i64 a1, .int .i64 a2] w fun e w' => e = .returned (.tuple #[.agg #[.int .i64 r1, .int .i64 r2], .bool r3]) ∧ IsT79 w0 w' g s0_0 s0_1 s0_2 r4 ∧ Below w0.heap.size w0 w' ∧ KeepBut w w' g none := by
  obtain ⟨x, h1, h2, h3⟩ := hI
  refine (optimal_paragraph_fit.calls k g _ _ _ _ a1 a2 r1 r2 r3 r4 x w h3 h2 h).mono ?_
  rintro e w' ⟨he, hi, hb, hk⟩
  exact ⟨he, ⟨x, h1, hb, hi⟩, below_step h1 hb, hk⟩

/-! ### optimal_Best: function 13 -/
def optimal_Best.l0 : Nat → List Int → List (S59) → Int → List Int → Int → Bool → Option (List Int × Int × Bool × Int)
  | 0, _, _, _, _, _, _ => none
  | k + 1, x10, x11, x13, x215000, x215001, x215002 => if x13 < (x10.length : Int) then (if 0 ≤ x13 then (if x13 < (x11.length : Int) then (if 0 ≤ ((rd_T59 x11 x13).f0) then (if ((rd_T59 x11 x13).f0) < (x10.length : Int) then (if x215000.length < 17592186044416 then (optimal_Best.l0 k x10 x11 (wrap64 (((rd_T59 x11 x13).f0) + 1)) (x215000 ++ [rd x10 ((rd_T59 x11 x13).f0)]) x215001 x215002) else (none)) else (none)) else (none)) else (none)) else (none)) else (some (x215000, x215001, x215002, 0))
def optimal_Best.f (k : Nat) (l0 : List (S31)) (a1 : Int) (a2 : Int) : Option (List Int × Int × Bool × Int) := (optimal_Check.f k l0 a1 a2).bind fun t195 => (if t195 = 0 then ((optimal_reckoned.f l0 a1).bind fun bt196 => ((optimal_Places.f k l0).bind fun t201 => ((optimal_paragraph_best.f k bt196.1 bt196.2.1 bt196.2.2.1 bt196.2.2.2 t201 a2).bind fun bt204 => (if 0 < (bt204.1.length : Int) then (if ((rd_T59 bt204.1 0).f2 = true) then (optimal_Best.l0 k t201 bt204.1 0 ([] : List Int) ((rd_T59 bt204.1 0).f1) false) else ((optimal_paragraph_emergency.f k bt196.1 bt196.2.1 bt196.2.2.1 bt204.2 t201).bind fun bt209 => (some (bt209.1, 0, true, 0)))) else (none))))) else (some (([] : List Int), 0, false, t195)))
theorem optimal_Best.mono_l : ∀ k, (∀ y0 y1 y2 y3 y4 y5, LeO (optimal_Best.l0 k y0 y1 y2 y3 y4 y5) (optimal_Best.l0 (k + 1) y0 y1 y2 y3 y4 y5))
  | 0 => fun _ _ _ _ _ _ r h => by simp [optimal_Best.l0] at h
  | k + 1 => by
    have ih0 := optimal_Best.mono_l k
    · intro y0 y1 y2 y3 y4 y5
      unfold optimal_Best.l0
      repeat' first
      | (with_reducible exact ih0 _ _ _ _ _ _)
      | (with_reducible exact optimal_Check.mono _ _ _ _)
      | (with_reducible exact optimal_Places.mono _ _)
      | (with_reducible exact optimal_paragraph_best.mono _ _ _ _ _ _ _)
      | (with_reducible exact optimal_paragraph_emergency.mono _ _ _ _ _ _)
      | (with_reducible exact LeO.refl _)
      | (with_reducible exact LeO.none _)
      | (with_reducible refine LeO.ite ?_ ?_)
      | (with_reducible refine LeO.bind ?_ (fun _ => ?_))
      | exact ih0 _ _ _ _ _ _
      | exact optimal_Check.mono _ _ _ _
      | exact optimal_Places.mono _ _
      | exact optimal_paragraph_best.mono _ _ _ _ _ _ _
      | exact optimal_paragraph_emergency.mono _ _ _ _ _ _
      | exact LeO.none _
      | refine LeO.ite ?_ ?_
      | refine LeO.bind ?_ (fun _ => ?_)
theorem optimal_Best.mono : ∀ a0 a1 a2 k, LeO (optimal_Best.f k a0 a1 a2) (optimal_Best.f (k + 1) a0 a1 a2) := by
  intro a0 a1 a2 k
  have ih0 := optimal_Best.mono_l k
  unfold optimal_Best.f
  repeat' first
      | (with_reducible exact ih0 _ _ _ _ _ _)
      | (with_reducible exact optimal_Check.mono _ _ _ _)
      | (with_reducible exact optimal_Places.mono _ _)
      | (with_reducible exact optimal_paragraph_best.mono _ _ _ _ _ _ _)
      | (with_reducible exact optimal_paragraph_emergency.mono _ _ _ _ _ _)
      | (with_reducible exact LeO.refl _)
      | (with_reducible exact LeO.none _)
      | (with_reducible refine LeO.ite ?_ ?_)
      | (with_reducible refine LeO.bind ?_ (fun _ => ?_))
      | exact ih0 _ _ _ _ _ _
      | exact optimal_Check.mono _ _ _ _
      | exact optimal_Places.mono _ _
      | exact optimal_paragraph_best.mono _ _ _ _ _ _ _
      | exact optimal_paragraph_emergency.mono _ _ _ _ _ _
      | exact LeO.none _
      | refine LeO.ite ?_ ?_
      | refine LeO.bind ?_ (fun _ => ?_)
def optimal_Best.T13 : Bool × List (List Nat × List Nat) := (true, [([], []), ([0], [0]), ([], []), ([], []), ([], []), ([3, 4], [3, 4]), ([5], [5]), ([6], [6]), ([2, 7], [2, 7]), ([8], [8]), ([9], [9]), ([1, 10], [1, 10]), ([0, 1, 2, 3, 4, 5, 6, 7, 8, 9, 10, 11], []), ([12, 11, 11, 0, 1, 2, 3, 4, 5, 6, 7, 8, 9, 10, 11], [11, 12])])
def optimal_Best.B13 : List Nat := [0, 1, 0, 0, 0, 24, 56, 120, 252, 508, 1020, 2047, 4095, 8191]
theorem optimal_Best.tab13 : rtab .any (opsOf Try.f13 13) = optimal_Best.T13 := by kernel_rfl
theorem optimal_Best.bits13 : waitsOk optimal_Best.T13.2 optimal_Best.B13 = true := by kernel_rfl
set_option maxHeartbeats 8000000 in
set_option maxRecDepth 100000 in
theorem optimal_Best.calls (k : Nat) (A0 : Option Addr) (c0 : Nat) (l0 : List (S31)) (a1 : Int) (a2 : Int) (r1 : List Int) (r2 : Int) (r3 : Bool) (r4 : Int) (w : World) (hr0 : Kd.C k31 w A0 l0.length l0) (hc0 : l0.length ≤ c0) (h : optimal_Best.f k l0 a1 a2 = some (r1, r2, r3, r4)) :
    Calls Try.prog 13 #[.slice A0 l0.length c0, .int .i64 a1, .int .i64 a2] w fun e w' => ∃ v0_ : Value, e = .returned (.tuple #[.agg #[v0_, .int .i64 r2, .bool r3], .int .i64 r4]) ∧ Kd.R (Kd.int .i64) 3 w' w.heap.size (fun _ => True) v0_ r1 ∧ Below w.heap.size w w' := by
  have hu26 := Try.underlying26
  have HR0 := Aside0.mk hr0
  have HC0 := Aside0.mk hc0
  clear hr0 hc0
  have HB := Aside0.mk (Below.refl w.heap.size w)
  have H : ((optimal_Check.f k l0 a1 a2).bind fun t195 => (if t195 = 0 then ((optimal_reckoned.f l0 a1).bind fun bt196 => ((optimal_Places.f k l0).bind fun t201 => ((optimal_paragraph_best.f k bt196.1 bt196.2.1 bt196.2.2.1 bt196.2.2.2 t201 a2).bind fun bt204 => (if 0 < (bt204.1.length : Int) then (if ((rd_T59 bt204.1 0).f2 = true) then (optimal_Best.l0 k t201 bt204.1 0 ([] : List Int) ((rd_T59 bt204.1 0).f1) false) else ((optimal_paragraph_emergency.f k bt196.1 bt196.2.1 bt196.2.2.1 bt204.2 t201).bind fun bt209 => (some (bt209.1, 0, true, 0)))) else (none))))) else (some (([] : List Int), 0, false, t195)))) = some (r1, r2, r3, r4) := h
  clear h
  replace H := Option.bind_eq_some_iff.mp H
  obtain ⟨t195, A40, H⟩ := H
  replace H : (if t195 = 0 then ((optimal_reckoned.f l0 a1).bind fun bt196 => ((optimal_Places.f k l0).bind fun t201 => ((optimal_paragraph_best.f k bt196.1 bt196.2.1 bt196.2.2.1 bt196.2.2.2 t201 a2).bind fun bt204 => (if 0 < (bt204.1.length : Int) then (if ((rd_T59 bt204.1 0).f2 = true) then (optimal_Best.l0 k t201 bt204.1 0 ([] : List Int) ((rd_T59 bt204.1 0).f1) false) else ((optimal_paragraph_emergency.f k bt196.1 bt196.2.1 bt196.2.2.1 bt204.2 t201).bind fun bt209 => (some (bt209.1, 0, true, 0)))) else (none))))) else (some (([] : List Int), 0, false, t195))) = some (r1, r2, r3, r4) := H
  have A4 := Aside0.mk A40
  clear A40
  by_cases c5 : t195 = 0
  · rw [if_pos c5] at H
    have c5b0 : (t195 == 0) = true := beq_iff_eq.mpr c5
    have c5b1 : (t195 != 0) = false := bne_eq_false_iff_eq.mpr c5
    clear c5
    replace H := Option.bind_eq_some_iff.mp H
    obtain ⟨⟨t196, t197, t198, t199⟩, A60, H⟩ := H
    replace H : ((optimal_Places.f k l0).bind fun t201 => ((optimal_paragraph_best.f k t196 t197 t198 t199 t201 a2).bind fun bt204 => (if 0 < (bt204.1.length : Int) then (if ((rd_T59 bt204.1 0).f2 = true) then (optimal_Best.l0 k t201 bt204.1 0 ([] : List Int) ((rd_T59 bt204.1 0).f1) false) else ((optimal_paragraph_emergency.f k t196 t197 t198 bt204.2 t201).bind fun bt209 => (some (bt209.1, 0, true, 0)))) else (none)))) = some (r1, r2, r3, r4) := H
    have A6 := Aside0.mk A60
    clear A60
    replace H := Option.bind_eq_some_iff.mp H
    obtain ⟨t201, A70, H⟩ := H
    replace H : ((optimal_paragraph_best.f k t196 t197 t198 t199 t201 a2).bind fun bt204 => (if 0 < (bt204.1.length : Int) then (if ((rd_T59 bt204.1 0).f2 = true) then (optimal_Best.l0 k t201 bt204.1 0 ([] : List Int) ((rd_T59 bt204.1 0).f1) false) else ((optimal_paragraph_emergency.f k t196 t197 t198 bt204.2 t201).bind fun bt209 => (some (bt209.1, 0, true, 0)))) else (none))) = some (r1, r2, r3, r4) := H
    have A7 := Aside0.mk A70
    clear A70
    replace H := Option.bind_eq_some_iff.mp H
    obtain ⟨⟨t204, t207⟩, A80, H⟩ := H
    replace H : (if 0 < (t204.length : Int) then (if ((rd_T59 t204 0).f2 = true) then (optimal_Best.l0 k t201 t204 0 ([] : List Int) ((rd_T59 t204 0).f1) false) else ((optimal_paragraph_emergency.f k t196 t197 t198 t207 t201).bind fun bt209 => (some (bt209.1, 0, true, 0)))) else (none)) = some (r1, r2, r3, r4) := H
    have A8 := Aside0.mk A80
    clear A80
    by_cases c9 : 0 < (t204.length : Int)
    · rw [if_pos c9] at H
      have c9b0 : decide (0 < (t204.length : Int)) = true := decide_eq_true c9
      have c9b1 : decide (0 < t204.length) = true := decide_eq_true (by omega)
      clear c9
      obtain ⟨bq10, hbq10⟩ : ∃ b_ : Bool, b_ = ((rd_T59 t204 0).f2) := ⟨_, rfl⟩
      replace H : (if (bq10 = true) then (optimal_Best.l0 k t201 t204 0 ([] : List Int) ((rd_T59 t204 0).f1) false) else ((optimal_paragraph_emergency.f k t196 t197 t198 t207 t201).bind fun bt209 => (some (bt209.1, 0, true, 0)))) = some (r1, r2, r3, r4) := by rw [← hbq10] at H; exact H
      have Nbq10 := Aside0.mk hbq10
      clear hbq10
      by_cases c11 : (bq10 = true)
      · subst c11
        have H1 : (optimal_Best.l0 k t201 t204 0 ([] : List Int) ((rd_T59 t204 0).f1) false) = some (r1, r2, r3, r4) := by rw [if_pos rfl] at H; exact H
        clear H
        have H := H1
        clear H1
        have H' := Aside0.mk H
        clear H
        go_enter Try.func13, Try.ntmps13
        go_wp2_with (first | ((with_reducible refine gate_dst (N := 6) rfl ?_); refine box_event ?hg (N := 6) ?hd (cs := #[.slice none 0 0, .int .i64 0, .bool false]) (t := 26) ?hr ?_; (case hd => rfl); (case hg => rfl); (case hr => first | (go_simp; done) | (go_simp; rfl)); intro gb194 hg w12 hbox hb; have n0_ := Aside0.mk (below_step (bq HB) hb); have n1_ := Aside0.mk (hbox); have n2_ := Aside0.mk ((by rw [hg]; exact (below_size (bq HB)) : w.heap.size ≤ gb194)); have n3_ := Aside0.mk ((by rw [hg]; exact (below_size (bq HB)) : w.heap.size ≤ gb194)); clear HB; have HB := n0_; have BK194 := n1_; have GW194 := n2_; have GE194 := n3_; clear n0_ n1_ n2_ n3_; clear hb hbox hg) | ((with_reducible refine gate_callee (f := 27) rfl ?_); refine goesL_ (some 17) rfl rfl Try.func27 (by kernel_rfl) rfl #[.slice A0 l0.length c0, .int .i64 a1, .int .i64 a2] rfl (by (try simp only [List.map_toArray, List.map_cons, List.map_nil]); first | done | rfl | (simp only [List.length_drop, List.length_take]; rfl)) ?_; (with_reducible refine (optimal_Check.calls k _ _ l0 a1 a2 t195 _ ?side1 ?side2 A4.out).mono ?_); (case side1 => repeat (first | exact (Kd.C_below HR0.out HB.out) | (with_reducible refine Kd.C_alloc ?_ _) | (with_reducible refine Kd.C_drewN ?_ _) | (with_reducible refine Kd.C_drew ?_))); (case side2 => exact HC0.out); rintro e w13 ⟨rfl, hb⟩; refine ⟨_, rfl, ?_⟩; have n0_ := Aside0.mk (blk_below (g := gb194) (o := .cells #[.slice none 0 0, .int .i64 0, .bool false] 26 (0, 0)) (kq BK194) hb); have n1_ := Aside0.mk (below_step (bs HB GE194) hb); clear BK194; clear HB; have BK194 := n0_; have HB := n1_; clear n0_ n1_; (try clear hb); (try clear hb2); (try clear hk); (try clear hi)) | ((with_reducible refine gate_callee (f := 28) rfl ?_); refine goesL_ (some 24) rfl rfl Try.func28 (by kernel_rfl) rfl #[.slice A0 l0.length c0, .int .i64 a1] rfl (by (try simp only [List.map_toArray, List.map_cons, List.map_nil]); first | done | rfl | (simp only [List.length_drop, List.length_take]; rfl)) ?_; (with_reducible refine (optimal_reckoned.calls _ _ l0 a1 t196 t197 t198 t199 w _ ?side1 ?side2 ?side3 A6.out).mono ?_); (case side1 => repeat (first | (with_reducible first | exact HB.out | apply below_alloc | apply pw_below_drewN | apply below_drew1 | refine below_set ?_ GE194.out) | exact HB.out)); (case side2 => exact HR0.out); (case side3 => exact HC0.out); rintro e w14 ⟨g200, rfl, hi, hb, hb2⟩; refine ⟨_, rfl, ?_⟩; have n0_ := Aside0.mk (blk_below (g := gb194) (o := .cells #[.slice none 0 0, .int .i64 0, .bool false] 26 (0, 0)) (kq BK194) hb2); have n1_ := Aside0.mk (hb); have n2_ := Aside0.mk (hi); have n3_ := Aside0.mk (IsT79.ne_blk hi (blk_below (g := gb194) (o := .cells #[.slice none 0 0, .int .i64 0, .bool false] 26 (0, 0)) (kq BK194) hb2) (by decide)); have n4_ := Aside0.mk (Ne.symm (IsT79.ne_blk hi (blk_below (g := gb194) (o := .cells #[.slice none 0 0, .int .i64 0, .bool false] 26 (0, 0)) (kq BK194) hb2) (by decide))); clear BK194; clear HB; have BK194 := n0_; have HB := n1_; have HI200 := n2_; have NB200_194 := n3_; have NB194_200 := n4_; clear n0_ n1_ n2_ n3_ n4_; (try clear hb); (try clear hb2); (try clear hk); (try clear hi)) | ((with_reducible refine gate_callee (f := 29) rfl ?_); refine goesL_ (some 26) rfl rfl Try.func29 (by kernel_rfl) rfl #[.slice A0 l0.length c0] rfl (by (try simp only [List.map_toArray, List.map_cons, List.map_nil]); first | done | rfl | (simp only [List.length_drop, List.length_take]; rfl)) ?_; (with_reducible refine (optimal_Places.calls k _ _ l0 t201 _ ?side1 ?side2 A7.out).mono ?_); (case side1 => repeat (first | exact (Kd.C_below HR0.out HB.out) | (with_reducible refine Kd.C_alloc ?_ _) | (with_reducible refine Kd.C_drewN ?_ _) | (with_reducible refine Kd.C_drew ?_))); (case side2 => exact HC0.out); rintro e w15 ⟨v202, rfl, ho0, hb⟩; refine ⟨_, rfl, ?_⟩; have n0_ := Aside0.mk (Kd.R_lower ho0 (below_size (by repeat (first | (with_reducible first | exact HB.out | apply below_alloc | apply pw_below_drewN | apply below_drew1 | refine below_set ?_ (IsT79.ge HI200.out) | refine below_set ?_ GE194.out) | exact HB.out)))); have n1_ := Aside0.mk (blk_below (g := gb194) (o := .cells #[.slice none 0 0, .int .i64 0, .bool false] 26 (0, 0)) (kq BK194) hb); have n2_ := Aside0.mk (IsT79.below (by repeat (first | (with_reducible first | exact HI200.out | apply IsT79.alloc | apply IsT79.drewN | apply IsT79.drew | apply IsT79.set_3) | exact HI200.out)) hb); have n3_ := Aside0.mk (below_step (by repeat (first | (with_reducible first | exact HB.out | apply below_alloc | apply pw_below_drewN | apply below_drew1 | refine below_set ?_ (IsT79.ge HI200.out) | refine below_set ?_ GE194.out) | exact HB.out)) hb); clear BK194; clear HI200; clear HB; have HO203 := n0_; have BK194 := n1_; have HI200 := n2_; have HB := n3_; clear n0_ n1_ n2_ n3_; (try clear hb); (try clear hb2); (try clear hk); (try clear hi); (try clear ho0); obtain ⟨Ao16, co16, eo16⟩ := Kd.R_slice HO203.out; subst eo16) | ((with_reducible refine gate_callee (f := 30) rfl ?_); refine goesL_ (some 30) rfl rfl Try.func30 (by kernel_rfl) rfl #[.pointer (some ⟨g200, 0, none⟩), .slice Ao16 t201.length co16, .int .i64 a2] rfl (by (try simp only [List.map_toArray, List.map_cons, List.map_nil]); first | done | rfl | (simp only [List.length_drop, List.length_take]; rfl)) ?_; (with_reducible refine (optimal_paragraph_best.callsT k g200 t196 t197 t198 t199 _ _ t201 a2 t204 t207 w _ ?side1 ?side2 ?side3 ?side4 ?side5 A8.out).mono ?_); (case side1 => repeat (first | (with_reducible first | exact HI200.out | apply IsT79.alloc | apply IsT79.drewN | apply IsT79.drew | apply IsT79.set_3) | exact HI200.out)); (case side2 => repeat (first | (with_reducible first | exact HB.out | apply below_alloc | apply pw_below_drewN | apply below_drew1 | refine below_set ?_ (IsT79.ge HI200.out) | refine below_set ?_ GE194.out) | exact HB.out)); (case side3 => repeat (first | exact (Kd.R_reads' HO203.out).2.2 | (with_reducible refine Kd.C_alloc ?_ _) | (with_reducible refine Kd.C_drewN ?_ _) | (with_reducible refine Kd.C_drew ?_))); (case side4 => exact (Kd.R_reads' HO203.out).2.1); (case side5 => exact far_slice (IsT79.own_ne HI200.out HO203.out (by decide))); rintro e w17 ⟨v205, rfl, ho0, hi, hb, hk⟩; refine ⟨_, rfl, ?_⟩; have n0_ := Aside0.mk (KeepBut.blk hk (g' := gb194) (o := .cells #[.slice none 0 0, .int .i64 0, .bool false] 26 (0, 0)) (kq BK194) NB194_200.out (by simp)); have n1_ := Aside0.mk (Kd.R_mono (Kd.R_keep (IsT79.apart (show IsT79 w _ g200 t196 t197 t198 t199 from by repeat (first | (with_reducible first | exact HI200.out | apply IsT79.alloc | apply IsT79.drewN | apply IsT79.drew | apply IsT79.set_3) | exact HI200.out)) (by (with_reducible repeat (first | apply Kd.R_alloc | apply Kd.R_drewN | apply Kd.R_drew)); exact HO203.out) (by decide)) hk (fun _ h => h.2)) (fun _ h => h.1)); have n2_ := Aside0.mk (Kd.R_lower ho0 (below_size (by repeat (first | (with_reducible first | exact HB.out | apply below_alloc | apply pw_below_drewN | apply below_drew1 | refine below_set ?_ (IsT79.ge HI200.out) | refine below_set ?_ GE194.out) | exact HB.out)))); have n3_ := Aside0.mk (hb); have n4_ := Aside0.mk (hi); clear BK194; clear HO203; clear HB; clear HI200; have BK194 := n0_; have HO203 := n1_; have HO206 := n2_; have HB := n3_; have HI200 := n4_; clear n0_ n1_ n2_ n3_ n4_; (try clear hb); (try clear hb2); (try clear hk); (try clear hi); (try clear ho0); obtain ⟨Ao18, co18, eo18⟩ := Kd.R_slice HO206.out; subst eo18; have p208 : 0 ≤ (0 : Int) := (by omega); have q208 : 0 < (t204.length : Int) := odt; obtain ⟨ad208, e208, hx208_0, hx208_1, hx208_2⟩ := at_T59 (Kd.R_reads' HO206.out).2.2 0 p208 q208; (try rw [← Nbq10.out] at hx208_2); cases e208; have qi208 : (0 < t204.length) = True := eq_true (by omega); (try rw [show ((0 : Int)).toNat = 0 from rfl] at hx208_0); (try rw [show 0 * 3 = 0 from rfl] at hx208_0); (try rw [Addr.add_zero'] at hx208_0); (try rw [show ((0 : Int)).toNat = 0 from rfl] at hx208_1); (try rw [show 0 * 3 = 0 from rfl] at hx208_1); (try rw [Addr.add_zero'] at hx208_1); (try rw [show ((0 : Int)).toNat = 0 from rfl] at hx208_2); (try rw [show 0 * 3 = 0 from rfl] at hx208_2); (try rw [Addr.add_zero'] at hx208_2); replace p208 := eq_true p208; replace q208 := eq_true q208; have p213 : 0 ≤ (0 : Int) := (by omega); have q213 : 0 < (t204.length : Int) := odt; obtain ⟨ad213, e213, hx213_0, hx213_1, hx213_2⟩ := at_T59 (Kd.R_reads' HO206.out).2.2 0 p213 q213; (try rw [← Nbq10.out] at hx213_2); obtain rfl : ad208 = ad213 := (by injection e213); have qi213 : (0 < t204.length) = True := eq_true (by omega); (try rw [show ((0 : Int)).toNat = 0 from rfl] at hx213_0); (try rw [show 0 * 3 = 0 from rfl] at hx213_0); (try rw [Addr.add_zero'] at hx213_0); (try rw [show ((0 : Int)).toNat = 0 from rfl] at hx213_1); (try rw [show 0 * 3 = 0 from rfl] at hx213_1); (try rw [Addr.add_zero'] at hx213_1); (try rw [show ((0 : Int)).toNat = 0 from rfl] at hx213_2); (try rw [show 0 * 3 = 0 from rfl] at hx213_2); (try rw [Addr.add_zero'] at hx213_2); replace p213 := eq_true p213; replace q213 := eq_true q213) | ((with_reducible refine gate_dst (N := 12) rfl ?_); refine box_event ?hg (N := 12) ?hd (cs := #[.slice none 0 0, .int .i64 0, .bool false]) (t := 26) ?hr ?_; (case hd => rfl); (case hg => rfl); (case hr => first | (go_simp; done) | (go_simp; rfl)); intro gb214 hg w19 hbox hb; have n0_ := Aside0.mk (Kd.R_below (by (with_reducible repeat (first | apply Kd.R_alloc | apply Kd.R_drewN | apply Kd.R_drew)); exact HO203.out) hb); have n1_ := Aside0.mk (Kd.R_below (by (with_reducible repeat (first | apply Kd.R_alloc | apply Kd.R_drewN | apply Kd.R_drew)); exact HO206.out) hb); have n2_ := Aside0.mk (blk_below (g := gb194) (o := .cells #[.slice none 0 0, .int .i64 0, .bool false] 26 (0, 0)) (kq BK194) hb); have n3_ := Aside0.mk (IsT79.below (by repeat (first | (with_reducible first | exact HI200.out | apply IsT79.alloc | apply IsT79.drewN | apply IsT79.drew | apply IsT79.set_3) | exact HI200.out)) hb); have n4_ := Aside0.mk (below_step (by repeat (first | (with_reducible first | exact HB.out | apply below_alloc | apply pw_below_drewN | apply below_drew1 | refine below_set ?_ (IsT79.ge HI200.out) | refine below_set ?_ GE194.out) | exact HB.out)) hb); have n5_ := Aside0.mk (hbox); have n6_ := Aside0.mk ((by rw [hg]; exact (below_size (by repeat (first | (with_reducible first | exact HB.out | apply below_alloc | apply pw_below_drewN | apply below_drew1 | refine below_set ?_ (IsT79.ge HI200.out) | refine below_set ?_ GE194.out) | exact HB.out))) : w.heap.size ≤ gb214)); have n7_ := Aside0.mk ((by rw [hg]; exact (below_size (by repeat (first | (with_reducible first | exact HB.out | apply below_alloc | apply pw_below_drewN | apply below_drew1 | refine below_set ?_ (IsT79.ge HI200.out) | refine below_set ?_ GE194.out) | exact HB.out))) : w.heap.size ≤ gb214)); have n8_ := Aside0.mk ((by rw [hg]; exact Nat.ne_of_lt (blk_lt (g := gb194) (o := .cells #[.slice none 0 0, .int .i64 0, .bool false] 26 (0, 0)) (kq BK194)) : gb194 ≠ gb214)); have n9_ := Aside0.mk ((by rw [hg]; exact Nat.ne_of_gt (blk_lt (g := gb194) (o := .cells #[.slice none 0 0, .int .i64 0, .bool false] 26 (0, 0)) (kq BK194)) : gb214 ≠ gb194)); have n10_ := Aside0.mk ((by rw [hg]; exact Nat.ne_of_lt (IsT79.lt (show IsT79 w _ g200 t196 t197 t198 t207 from by repeat (first | (with_reducible first | exact HI200.out | apply IsT79.alloc | apply IsT79.drewN | apply IsT79.drew | apply IsT79.set_3) | exact HI200.out))) : g200 ≠ gb214)); have n11_ := Aside0.mk ((by rw [hg]; exact Nat.ne_of_gt (IsT79.lt (show IsT79 w _ g200 t196 t197 t198 t207 from by repeat (first | (with_reducible first | exact HI200.out | apply IsT79.alloc | apply IsT79.drewN | apply IsT79.drew | apply IsT79.set_3) | exact HI200.out))) : gb214 ≠ g200)); clear HO203; clear HO206; clear BK194; clear HI200; clear HB; have HO203 := n0_; have HO206 := n1_; have BK194 := n2_; have HI200 := n3_; have HB := n4_; have BK214 := n5_; have GW214 := n6_; have GE214 := n7_; have NB194_214 := n8_; have NB214_194 := n9_; have NB200_214 := n10_; have NB214_200 := n11_; clear n0_ n1_ n2_ n3_ n4_ n5_ n6_ n7_ n8_ n9_ n10_ n11_; clear hb hbox hg; have hnb20 := NB214_194.out; have hnc20 := NB194_214.out; have hnb21 := NB214_200.out; have hnc21 := NB200_214.out; have hcz22_0 : w19.cell? ⟨gb214, 0, none⟩ = some (.slice none 0 0) := (blk_cell BK214.out 0).trans rfl; have hcz22_1 : w19.cell? ⟨gb214, 1, none⟩ = some (.int .i64 0) := (blk_cell BK214.out 1).trans rfl; have hcz22_2 : w19.cell? ⟨gb214, 2, none⟩ = some (.bool false) := (blk_cell BK214.out 2).trans rfl; have hfz22_0 := blk_frozen BK214.out 0; have hfz22_1 := blk_frozen BK214.out 1; have hfz22_2 := blk_frozen BK214.out 2))
        go_loopg [13] k (fun kq v13 w' => ∃ (x13_1 : Int) (x215000_1 : List Int) (u215000 : Value), v13 = .int .i64 x13_1 ∧ Aside0 (optimal_Best.l0 kq t201 t204 x13_1 x215000_1 ((rd_T59 t204 0).f1) false = some (r1, r2, r3, r4)) ∧ Aside0 (kq ≤ k) ∧ Aside0 (Kd.R (Kd.int .i64) 3 w' w.heap.size (fun k_ => some k_ ≠ (u215000 : Value).ownBlock) (.slice Ao16 t201.length co16) t201) ∧ Aside0 (Kd.R k59 59 w' w.heap.size (fun _ => True) (.slice (some ad208) t204.length co18) t204) ∧ Aside0 (Kd.R (Kd.int .i64) 3 w' w.heap.size (fun k_ => some k_ ≠ ((.slice Ao16 t201.length co16) : Value).ownBlock) u215000 x215000_1) ∧ Aside0 (w'.heap[gb194]? = some (.cells #[(.slice none 0 0), .int .i64 0, .bool false] 26 (0, 0))) ∧ Aside0 (w'.heap[gb214]? = some (.cells #[u215000, .int .i64 ((rd_T59 t204 0).f1), .bool false] 26 (0, 0))) ∧ Aside0 (Below w.heap.size w w'))
        case atStart => exact ⟨(0), (([] : List Int)), (.slice none 0 0), (by first | rfl | (simp; done) | (simp [*]; done)), H', ⟨Nat.le_refl _⟩, ⟨by (with_reducible repeat (first | apply Kd.R_alloc | apply Kd.R_drewN | apply Kd.R_drew)); exact Kd.R_mono (Kd.R_far (p := ⟨gb214, 2, none⟩) (Kd.R_far (p := ⟨gb214, 1, none⟩) (Kd.R_far (p := ⟨gb214, 0, none⟩) (Kd.R_types HO203.out BK214.out (by decide)) (fun _ hk => hk.2) (.slice none 0 0)) (fun _ hk => hk.2) (.int .i64 ((rd_T59 t204 0).f1))) (fun _ hk => hk.2) (.bool false)) (fun _ hk => (by simp [Value.ownBlock]))⟩, ⟨by (with_reducible repeat (first | apply Kd.R_alloc | apply Kd.R_drewN | apply Kd.R_drew)); exact Kd.R_mono (Kd.R_far (p := ⟨gb214, 2, none⟩) (Kd.R_far (p := ⟨gb214, 1, none⟩) (Kd.R_far (p := ⟨gb214, 0, none⟩) (Kd.R_types HO206.out BK214.out (by decide)) (fun _ hk => hk.2) (.slice none 0 0)) (fun _ hk => hk.2) (.int .i64 ((rd_T59 t204 0).f1))) (fun _ hk => hk.2) (.bool false)) (fun _ hk => trivial)⟩, ⟨by first | exact Kd.R_nil _ _ _ _ _ | exact Kd.N_nil _ _ _ _ _ | exact Kd.V_nil _ _ _ _ _ | exact Kd.Q_nil _ _ _ _ _ | exact Kd.S_nil _ _ _ _ _⟩, ⟨by (with_reducible repeat (first | refine blk_drewN ?_ _ | refine blk_drew ?_ | refine blk_alloc ?_ _)); refine blk_far ?_ NB194_214.out _; (with_reducible repeat (first | refine blk_drewN ?_ _ | refine blk_drew ?_ | refine blk_alloc ?_ _)); refine blk_far ?_ NB194_214.out _; (with_reducible repeat (first | refine blk_drewN ?_ _ | refine blk_drew ?_ | refine blk_alloc ?_ _)); refine blk_far ?_ NB194_214.out _; (with_reducible repeat (first | refine blk_drewN ?_ _ | refine blk_drew ?_ | refine blk_alloc ?_ _)); exact BK194.out⟩, ⟨by (with_reducible repeat (first | refine blk_drewN ?_ _ | refine blk_drew ?_ | refine blk_alloc ?_ _)); refine blk_put (cs := #[.slice none 0 0, .int .i64 ((rd_T59 t204 0).f1), .bool false]) ?_ 2 _ rfl; (with_reducible repeat (first | refine blk_drewN ?_ _ | refine blk_drew ?_ | refine blk_alloc ?_ _)); refine blk_put (cs := #[.slice none 0 0, .int .i64 0, .bool false]) ?_ 1 _ rfl; (with_reducible repeat (first | refine blk_drewN ?_ _ | refine blk_drew ?_ | refine blk_alloc ?_ _)); refine blk_put (cs := #[.slice none 0 0, .int .i64 0, .bool false]) ?_ 0 _ rfl; (with_reducible repeat (first | refine blk_drewN ?_ _ | refine blk_drew ?_ | refine blk_alloc ?_ _)); exact BK214.out⟩, ⟨by repeat (first | (with_reducible first | exact HB.out | apply below_alloc | apply pw_below_drewN | apply below_drew1 | refine below_set ?_ (IsT79.ge HI200.out) | refine below_set ?_ GE194.out | refine below_set ?_ GE214.out) | exact HB.out)⟩⟩
        case round =>
          clear H'
          try clear c1
          try clear q1
          try clear c2
          try clear p2
          try clear q2
          try clear hx2
          try clear qi2
          try clear c3
          try clear c5
          try clear c5b0
          try clear c5b1
          try clear c9
          try clear c9b0
          try clear c9b1
          try clear q10
          try clear c11
          try clear c13
          try clear c20
          try clear p20
          try clear q20
          try clear hx20
          try clear qi20
          try clear c21
          try clear p21
          try clear q21
          try clear hx21
          try clear qi21
          try clear hcz22_0
          try clear hcz22_1
          try clear hcz22_2
          try clear hfz22_0
          try clear hfz22_1
          try clear hfz22_2
          try clear hx208_0
          try clear hx208_1
          try clear hx208_2
          try clear hx213_0
          try clear hx213_1
          try clear hx213_2
          try clear p208
          try clear p213
          try clear q208
          try clear q213
          obtain ⟨x13_1, x215000_1, u215000, rfl, HA, HK1, HO_10, HO_11, HO_215000, BK194, BK214, HB⟩ := hrel
          cases gk with
          | zero => exact absurd HA.out (by simp [optimal_Best.l0])
          | succ k1 =>
            have H := HA.out
            clear HA
            simp only [optimal_Best.l0] at H
            by_cases c23 : x13_1 < (t201.length : Int)
            · rw [if_pos c23] at H
              have c23b0 : decide (x13_1 < (t201.length : Int)) = true := decide_eq_true c23
              clear c23
              by_cases c24 : 0 ≤ x13_1
              · rw [if_pos c24] at H
                have c24b0 : decide (0 ≤ x13_1) = true := decide_eq_true c24
                clear c24
                by_cases c25 : x13_1 < (t204.length : Int)
                · rw [if_pos c25] at H
                  have c25b0 : decide (x13_1 < (t204.length : Int)) = true := decide_eq_true c25
                  clear c25
                  by_cases c26 : 0 ≤ ((rd_T59 t204 x13_1).f0)
                  · rw [if_pos c26] at H
                    have c26b0 : decide (0 ≤ ((rd_T59 t204 x13_1).f0)) = true := decide_eq_true c26
                    clear c26
                    by_cases c27 : ((rd_T59 t204 x13_1).f0) < (t201.length : Int)
                    · rw [if_pos c27] at H
                      have c27b0 : decide (((rd_T59 t204 x13_1).f0) < (t201.length : Int)) = true := decide_eq_true c27
                      clear c27
                      by_cases c28 : x215000_1.length < 17592186044416
                      · rw [if_pos c28] at H
                        have LMc28 := Aside0.mk c28
                        clear c28
                        obtain ⟨y217, hy217⟩ : ∃ y_ : List Int, y_ = (x215000_1 ++ [rd t201 ((rd_T59 t204 x13_1).f0)]) := ⟨_, rfl⟩
                        replace H : (optimal_Best.l0 k1 t201 t204 (wrap64 (((rd_T59 t204 x13_1).f0) + 1)) y217 ((rd_T59 t204 0).f1) false) = some (r1, r2, r3, r4) := by first | (rw [hy217]; with_reducible exact H) | (have H2_ := (Option.bind_some _ _).symm.trans H; rw [hy217]; with_reducible exact H2_) | (have H2_ := (Option.bind_some _ _).symm.trans H; with_reducible exact H2_) | with_reducible exact H | (rw [hy217]; exact H) | exact H
                        have Ny217 := Aside0.mk hy217
                        clear hy217
                        have H' := Aside0.mk H
                        clear H
                        try go_wp2
                        have n0_ := Aside0.mk (Kd.R_drew HO_10.out)
                        have n1_ := Aside0.mk (Kd.R_drew HO_11.out)
                        have n2_ := Aside0.mk (Kd.R_drew HO_215000.out)
                        have n3_ := Aside0.mk (blk_drew BK194.out)
                        have n4_ := Aside0.mk (blk_drew BK214.out)
                        have n5_ := Aside0.mk (below_drew1 HB.out)
                        clear HO_10
                        clear HO_11
                        clear HO_215000
                        clear BK194
                        clear BK214
                        clear HB
                        have HO_10 := n0_
                        have HO_11 := n1_
                        have HO_215000 := n2_
                        have BK194 := n3_
                        have BK214 := n4_
                        have HB := n5_
                        clear n0_ n1_ n2_ n3_ n4_ n5_
                        have p215 : 0 ≤ (x13_1 : Int) := odt
                        have q215 : x13_1 < (t204.length : Int) := odt
                        obtain ⟨ad215, e215, hx215_0, hx215_1, hx215_2⟩ := at_T59 (Kd.R_reads' HO_11.out).2.2 x13_1 p215 q215
                        (try rw [← Nbq10.out] at hx215_2)
                        obtain rfl : ad208 = ad215 := (by injection e215)
                        replace p215 := eq_true p215
                        replace q215 := eq_true q215
                        have p216 : 0 ≤ (((rd_T59 t204 x13_1).f0) : Int) := odt
                        have q216 : ((rd_T59 t204 x13_1).f0) < (t201.length : Int) := odt
                        obtain ⟨ad216, e216, hx216_0⟩ := Kd.at_int (Kd.R_reads' HO_10.out).2.2 ((rd_T59 t204 x13_1).f0) p216 q216
                        cases e216
                        replace p216 := eq_true p216
                        replace q216 := eq_true q216
                        refine start_ (n := 14) (S := fun w' => w'.cell? ⟨gb214, 0, none⟩ = some (u215000) ∧ w'.cell? ⟨gb214, 1, none⟩ = some (.int .i64 ((rd_T59 t204 0).f1)) ∧ w'.cell? ⟨gb214, 2, none⟩ = some (.bool false) ∧ w'.cell? (ad208.add ((x13_1).toNat * 3)) = some (.int .i64 ((rd_T59 t204 x13_1).f0)) ∧ w'.cell? ⟨(ad208.add ((x13_1).toNat * 3)).block, (ad208.add ((x13_1).toNat * 3)).off + 1, none⟩ = some (.int .i64 ((rd_T59 t204 x13_1).f1)) ∧ w'.cell? ⟨(ad208.add ((x13_1).toNat * 3)).block, (ad208.add ((x13_1).toNat * 3)).off + 2, none⟩ = some (.bool ((rd_T59 t204 x13_1).f2)) ∧ w'.cell? (ad216.add (((rd_T59 t204 x13_1).f0)).toNat) = some (.int .i64 (rd t201 ((rd_T59 t204 x13_1).f0)))) (ds := [11, 13]) #[false, false, false, false, false, false, false, false, false, false, false, false, false, false] (by kernel_rfl) rfl rfl ⟨(blk_cell BK214.out 0).trans rfl, (blk_cell BK214.out 1).trans rfl, (blk_cell BK214.out 2).trans rfl, hx215_0, hx215_1, hx215_2, hx216_0⟩ (fun hHeld => ?_); refine with_tabW optimal_Best.tab13 optimal_Best.bits13 (fun HT_ HW_ => ?_)
                        generalize wr.drew = w29 at HO_10 HO_11 HO_215000 BK194 BK214 HB hx215_0 hx215_1 hx215_2 hx216_0 hHeld ⊢
                        refine pure_ (i := 0) (N := some 55) (v := ?_) (a' := ?_) #[true, false, false, false, false, false, false, false, false, false, false, false, false, false] rfl rfl (any_of HT_.out (by kernel_rfl)) (fun _ _ _ h => h) (Or.inl ⟨by rfl, ?_⟩) ?_ ?_
                        rotate_left
                        · intro w'
                          go_simp
                          with_reducible rfl
                        rotate_left
                        · simp only [Act.put, List.setIfInBounds_toArray, List.set_cons_zero, List.set_cons_succ, i64_w, i32_w]
                          rfl
                        refine pure_ (i := 2) (N := some 57) (v := ?_) (a' := ?_) #[true, false, true, false, false, false, false, false, false, false, false, false, false, false] rfl rfl (any_of HT_.out (by kernel_rfl)) (fun _ _ _ h => h) (Or.inl ⟨by rfl, ?_⟩) ?_ ?_
                        rotate_left
                        · intro w'
                          go_simp
                          with_reducible rfl
                        rotate_left
                        · simp only [Act.put, List.setIfInBounds_toArray, List.set_cons_zero, List.set_cons_succ, i64_w, i32_w]
                          rfl
                        refine pure_ (i := 3) (N := some 58) (v := ?_) (a' := ?_) #[true, false, true, true, false, false, false, false, false, false, false, false, false, false] rfl rfl (any_of HT_.out (by kernel_rfl)) (fun _ _ _ h => h) (Or.inl ⟨by rfl, ?_⟩) ?_ ?_
                        rotate_left
                        · intro w'
                          go_simp
                          with_reducible rfl
                        rotate_left
                        · simp only [Act.put, List.setIfInBounds_toArray, List.set_cons_zero, List.set_cons_succ, i64_w, i32_w]
                          rfl
                        refine pure_ (i := 4) (N := some 59) (v := ?_) (a' := ?_) #[true, false, true, true, true, false, false, false, false, false, false, false, false, false] rfl rfl (any_of HT_.out (by kernel_rfl)) (fun _ _ _ h => h) (Or.inl ⟨by rfl, ?_⟩) ?_ ?_
                        rotate_left
                        · intro w'
                          go_simp
                          with_reducible rfl
                        rotate_left
                        · simp only [Act.put, List.setIfInBounds_toArray, List.set_cons_zero, List.set_cons_succ, i64_w, i32_w]
                          rfl
                        refine pure_ (i := 5) (N := some 60) (v := ?_) (a' := ?_) #[true, false, true, true, true, true, false, false, false, false, false, false, false, false] rfl rfl (any_of HT_.out (by kernel_rfl)) (fun _ _ _ h => h) (Or.inl ⟨by rfl, ?_⟩) ?_ ?_
                        rotate_left
                        · intro w'
                          go_simp
                          with_reducible rfl
                        rotate_left
                        · simp only [Act.put, List.setIfInBounds_toArray, List.set_cons_zero, List.set_cons_succ, i64_w, i32_w]
                          rfl
                        refine pure_ (i := 6) (N := some 61) (v := ?_) (a' := ?_) #[true, false, true, true, true, true, true, false, false, false, false, false, false, false] rfl rfl (any_of HT_.out (by kernel_rfl)) (fun _ _ _ h => h) (Or.inl ⟨by rfl, ?_⟩) ?_ ?_
                        rotate_left
                        · intro w'
                          go_simp
                          with_reducible rfl
                        rotate_left
                        · simp only [Act.put, List.setIfInBounds_toArray, List.set_cons_zero, List.set_cons_succ, i64_w, i32_w]
                          rfl
                        refine take_ (i := 1) (N := some 56) (v := ?_) (a' := ?_) #[true, true, true, true, true, true, true, false, false, false, false, false, false, false] rfl rfl (take_ofW HT_.out HW_.out (by kernel_rfl)) (fun _ _ _ h => h) (Or.inl ⟨by rfl, ?_⟩) hHeld ?_ ?_
                        rotate_left
                        · rintro w' ⟨s0, s1, s2, s3, s4, s5, s6⟩
                          go_simp
                          with_reducible rfl
                        rotate_left
                        · simp only [Act.put, List.setIfInBounds_toArray, List.set_cons_zero, List.set_cons_succ, i64_w, i32_w]
                          rfl
                        refine take_ (i := 7) (N := some 62) (v := ?_) (a' := ?_) #[true, true, true, true, true, true, true, true, false, false, false, false, false, false] rfl rfl (take_ofW HT_.out HW_.out (by kernel_rfl)) (fun _ _ _ h => h) (Or.inl ⟨by rfl, ?_⟩) hHeld ?_ ?_
                        rotate_left
                        · rintro w' ⟨s0, s1, s2, s3, s4, s5, s6⟩
                          go_simp
                          with_reducible rfl
                        rotate_left
                        · simp only [Act.put, List.setIfInBounds_toArray, List.set_cons_zero, List.set_cons_succ, i64_w, i32_w]
                          rfl
                        refine pure_ (i := 8) (N := some 63) (v := ?_) (a' := ?_) #[true, true, true, true, true, true, true, true, true, false, false, false, false, false] rfl rfl (any_of HT_.out (by kernel_rfl)) (fun _ _ _ h => h) (Or.inl ⟨by rfl, ?_⟩) ?_ ?_
                        rotate_left
                        · intro w'
                          go_simp
                          with_reducible rfl
                        rotate_left
                        · simp only [Act.put, List.setIfInBounds_toArray, List.set_cons_zero, List.set_cons_succ, i64_w, i32_w]
                          rfl
                        refine take_ (i := 9) (N := some 64) (v := ?_) (a' := ?_) #[true, true, true, true, true, true, true, true, true, true, false, false, false, false] rfl rfl (take_ofW HT_.out HW_.out (by kernel_rfl)) (fun _ _ _ h => h) (Or.inl ⟨by rfl, ?_⟩) hHeld ?_ ?_
                        rotate_left
                        · rintro w' ⟨s0, s1, s2, s3, s4, s5, s6⟩
                          go_simp
                          with_reducible rfl
                        rotate_left
                        · simp only [Act.put, List.setIfInBounds_toArray, List.set_cons_zero, List.set_cons_succ, i64_w, i32_w]
                          rfl
                        refine one_ (i := 10) (N := some 65) #[true, true, true, true, true, true, true, true, true, true, true, false, false, false] rfl rfl (one_of HT_.out (by kernel_rfl)) (by decide) (fun K hK => ?_)
                        refine value_ (w1 := ?_) (v := ?_) (by rfl) rfl ?_ ?_
                        rotate_left 2
                        · go_simp
                          constructor
                          · rfl
                          · rfl
                        refine hK.out _ _ ⟨(blk_cell (blk_alloc BK214.out _) 0).trans rfl, (blk_cell (blk_alloc BK214.out _) 1).trans rfl, (blk_cell (blk_alloc BK214.out _) 2).trans rfl, (World.cell?_alloc_lt _ _ _ (World.block_lt_of_cell? _ _ (hHeld.2.2.2.1))).trans (hHeld.2.2.2.1), (World.cell?_alloc_lt _ _ _ (World.block_lt_of_cell? _ _ (hHeld.2.2.2.2.1))).trans (hHeld.2.2.2.2.1), (World.cell?_alloc_lt _ _ _ (World.block_lt_of_cell? _ _ (hHeld.2.2.2.2.2.1))).trans (hHeld.2.2.2.2.2.1), (World.cell?_alloc_lt _ _ _ (World.block_lt_of_cell? _ _ (hHeld.2.2.2.2.2.2))).trans (hHeld.2.2.2.2.2.2)⟩ (fun hHeld => ?_)
                        clear hK K
                        refine norm_ (a' := ?_) ?_ ?_
                        rotate_left
                        · show Act.put _ (some 65) _ = _
                          simp only [Act.put, List.setIfInBounds_toArray, List.set_cons_zero, List.set_cons_succ, i64_w, i32_w]
                          rfl
                        refine last_ (i := 11) (N := some 66) #[true, true, true, true, true, true, true, true, true, true, true, true, false, false] rfl rfl (one_of HT_.out (by kernel_rfl)) (by decide) (fun K hK => ?_)
                        refine Kd.R_append_step (Kd.int .i64) (w0 := w) w.heap.size (by rfl) (.tmp 56) (.tmp 65) 24 3 (.int .i64 0) 8 rfl Try.underlying24 info3 rfl (by decide) (by omega) u215000 x215000_1 (rd t201 ((rd_T59 t204 x13_1).f0)) [.int .i64 (rd t201 ((rd_T59 t204 x13_1).f0))] (fun k_ => some k_ ≠ (.slice (some ad216) t201.length co16 : Value).ownBlock) (fun _ => False) rfl rfl ?aP (fun _ hk => hk.elim) ?aF ?aO ?aB ?aS ?aL ?_
                        (case aP => exact rfl)
                        (case aB => exact (by repeat (first | (with_reducible first | exact HB.out | apply below_alloc | apply pw_below_drewN | apply below_drew1 | refine below_set ?_ GE194.out | refine below_set ?_ GE214.out) | exact HB.out)))
                        (case aF => exact (fun k_ hk => Kd.fresh' (Kd.R_lt (rq HO_10)) k_ hk))
                        (case aO => exact (rq HO_215000))
                        (case aS => exact (below_size (by repeat (first | (with_reducible first | exact HB.out | apply below_alloc | apply pw_below_drewN | apply below_drew1 | refine below_set ?_ GE194.out | refine below_set ?_ GE214.out) | exact HB.out))))
                        (case aL => have := LMc28.out; omega)
                        intro v218 w30 ho hb hg hat
                        rw [← Ny217.out] at ho
                        have n0_ := Aside0.mk (Kd.R_after (ok := (fun _ => True)) (by (with_reducible repeat (first | apply Kd.R_alloc | apply Kd.R_drewN | apply Kd.R_drew)); exact Kd.R_mono HO_10.out (fun _ hk => ⟨trivial, hk⟩)) hg hat)
                        have n1_ := Aside0.mk (Kd.R_over' (rq HO_11) (Kd.R_typed (rq HO_215000)) (by decide) hg)
                        have n2_ := Aside0.mk (blk_grown (g := gb194) (o := .cells #[.slice none 0 0, .int .i64 0, .bool false] 26 (0, 0)) (kq BK194) hg (Kd.R_ne HO_215000.out BK194.out (by decide)))
                        have n3_ := Aside0.mk (blk_grown (g := gb214) (o := .cells #[u215000, .int .i64 ((rd_T59 t204 0).f1), .bool false] 26 (0, 0)) (kq BK214) hg (Kd.R_ne HO_215000.out BK214.out (by decide)))
                        have n4_ := Aside0.mk (hb)
                        have n5_ := Aside0.mk (ho)
                        clear HO_10
                        clear HO_11
                        clear BK194
                        clear BK214
                        clear HB
                        clear HO_215000
                        have HO_10 := n0_
                        have HO_11 := n1_
                        have BK194 := n2_
                        have BK214 := n3_
                        have HB := n4_
                        have HO219 := n5_
                        clear n0_ n1_ n2_ n3_ n4_ n5_
                        clear ho hb hg hat
                        obtain ⟨Ao31, co31, eo31⟩ := Kd.R_slice HO219.out
                        (first | subst eo31 | (injection eo31 with f1_ f2_ f3_; have f4_ := f1_.symm; have f5_ := f3_.symm; clear f1_ f2_ f3_; subst f4_; subst f5_))
                        refine hK.out _ _ ?_
                        clear hK K
                        refine norm_ (a' := ?_) ?_ ?_
                        rotate_left
                        · show Act.put _ (some 66) _ = _
                          simp only [Act.put, List.setIfInBounds_toArray, List.set_cons_zero, List.set_cons_succ, i64_w, i32_w]
                          rfl
                        refine pure_ (i := 12) (N := some 67) (v := ?_) (a' := ?_) #[true, true, true, true, true, true, true, true, true, true, true, true, true, false] rfl rfl (any_of HT_.out (by kernel_rfl)) (fun _ _ _ h => h) (Or.inl ⟨by rfl, ?_⟩) ?_ ?_
                        rotate_left
                        · intro w'
                          go_simp
                          with_reducible rfl
                        rotate_left
                        · simp only [Act.put, List.setIfInBounds_toArray, List.set_cons_zero, List.set_cons_succ, i64_w, i32_w]
                          rfl
                        refine last_ (i := 13) (N := none) #[true, true, true, true, true, true, true, true, true, true, true, true, true, true] rfl rfl (one_of HT_.out (by kernel_rfl)) (by decide) (fun K hK => ?_)
                        have hs32 : w30.cell? ⟨gb214, 0, none⟩ = some (u215000) := (blk_cell BK214.out 0).trans rfl
                        have hfs32 := blk_frozen BK214.out 0
                        have hns32_0 := NB194_214.out
                        have hms32_0 := NB214_194.out
                        refine skip_ (w1 := ?_) (by rfl) rfl ?_ ?_
                        rotate_left
                        · go_simp
                          rfl
                        refine hK.out _ _ ?_
                        clear hK K
                        refine done_ (done_of HT_.out (by kernel_rfl)) ?_
                        have p220 : 0 ≤ (x13_1 : Int) := odt
                        have q220 : x13_1 < (t204.length : Int) := odt
                        obtain ⟨ad220, e220, hx220_0, hx220_1, hx220_2⟩ := at_T59 (Kd.R_reads' HO_11.out).2.2 x13_1 p220 q220
                        (try rw [← Nbq10.out] at hx220_2)
                        obtain rfl : ad208 = ad220 := (by injection e220)
                        have hn220_0 : ad208.block ≠ gb214 := Kd.own_blk (Kd.R_ne HO_11.out BK214.out (by decide))
                        replace hx220_0 := (cell_far (p := ⟨gb214, 0, none⟩) (by first | (rw [add_block]; exact hn220_0) | (show (Addr.add _ _).block ≠ _; rw [add_block]; exact hn220_0) | exact hn220_0) (.slice Ao31 y217.length co31)).trans hx220_0
                        replace hx220_1 := (cell_far (p := ⟨gb214, 0, none⟩) (by first | (rw [add_block]; exact hn220_0) | (show (Addr.add _ _).block ≠ _; rw [add_block]; exact hn220_0) | exact hn220_0) (.slice Ao31 y217.length co31)).trans hx220_1
                        replace hx220_2 := (cell_far (p := ⟨gb214, 0, none⟩) (by first | (rw [add_block]; exact hn220_0) | (show (Addr.add _ _).block ≠ _; rw [add_block]; exact hn220_0) | exact hn220_0) (.slice Ao31 y217.length co31)).trans hx220_2
                        clear hn220_0
                        replace p220 := eq_true p220
                        replace q220 := eq_true q220
                        try go_wp2
                        go_roundg k1
                        case measure => have := HK1.out; omega
                        case rel => exact ⟨(wrap64 (((rd_T59 t204 x13_1).f0) + 1)), (y217), (.slice Ao31 y217.length co31), (by first | rfl | (simp; done) | (simp [*]; done)), H', ⟨by have := HK1.out; omega⟩, ⟨by (with_reducible repeat (first | apply Kd.R_alloc | apply Kd.R_drewN | apply Kd.R_drew)); exact Kd.R_mono (Kd.R_far (p := ⟨gb214, 0, none⟩) (Kd.R_types HO_10.out BK214.out (by decide)) (fun _ hk => hk.2) (.slice Ao31 y217.length co31)) (fun _ hk => hk.1.2)⟩, ⟨by (with_reducible repeat (first | apply Kd.R_alloc | apply Kd.R_drewN | apply Kd.R_drew)); exact Kd.R_mono (Kd.R_far (p := ⟨gb214, 0, none⟩) (Kd.R_types HO_11.out BK214.out (by decide)) (fun _ hk => hk.2) (.slice Ao31 y217.length co31)) (fun _ hk => trivial)⟩, ⟨by (with_reducible repeat (first | apply Kd.R_alloc | apply Kd.R_drewN | apply Kd.R_drew)); exact Kd.R_mono (Kd.R_far (p := ⟨gb214, 0, none⟩) (Kd.R_types HO219.out BK214.out (by decide)) (fun _ hk => hk.2) (.slice Ao31 y217.length co31)) (fun _ hk => hk.1)⟩, ⟨by (with_reducible repeat (first | refine blk_drewN ?_ _ | refine blk_drew ?_ | refine blk_alloc ?_ _)); refine blk_far ?_ NB194_214.out _; (with_reducible repeat (first | refine blk_drewN ?_ _ | refine blk_drew ?_ | refine blk_alloc ?_ _)); exact BK194.out⟩, ⟨by (with_reducible repeat (first | refine blk_drewN ?_ _ | refine blk_drew ?_ | refine blk_alloc ?_ _)); refine blk_put (cs := #[u215000, .int .i64 ((rd_T59 t204 0).f1), .bool false]) ?_ 0 _ rfl; (with_reducible repeat (first | refine blk_drewN ?_ _ | refine blk_drew ?_ | refine blk_alloc ?_ _)); exact BK214.out⟩, ⟨by repeat (first | (with_reducible first | exact HB.out | apply below_alloc | apply pw_below_drewN | apply below_drew1 | refine below_set ?_ GE194.out | refine below_set ?_ GE214.out) | exact HB.out)⟩⟩
                      · rw [if_neg c28] at H
                        exact absurd H (by simp)
                    · rw [if_neg c27] at H
                      exact absurd H (by simp)
                  · rw [if_neg c26] at H
                    exact absurd H (by simp)
                · rw [if_neg c25] at H
                  exact absurd H (by simp)
              · rw [if_neg c24] at H
                exact absurd H (by simp)
            · rw [if_neg c23] at H
              have c23b0 : decide (x13_1 < (t201.length : Int)) = false := decide_eq_false c23
              clear c23
              simp only [Option.some.injEq, Prod.mk.injEq] at H
              obtain ⟨rfl, rfl, rfl, rfl⟩ := H
              have hnb33 := NB214_194.out
              have hnc33 := NB194_214.out
              have hcz34_0 : wr.cell? ⟨gb214, 0, none⟩ = some (u215000) := (blk_cell BK214.out 0).trans rfl
              have hcz34_1 : wr.cell? ⟨gb214, 1, none⟩ = some (.int .i64 ((rd_T59 t204 0).f1)) := (blk_cell BK214.out 1).trans rfl
              have hcz34_2 : wr.cell? ⟨gb214, 2, none⟩ = some (.bool false) := (blk_cell BK214.out 2).trans rfl
              have hfz34_0 := blk_frozen BK214.out 0
              have hfz34_1 := blk_frozen BK214.out 1
              have hfz34_2 := blk_frozen BK214.out 2
              obtain ⟨Ao35, co35, eo35⟩ := Kd.R_slice HO_215000.out
              subst eo35
              have hcz36_0 : wr.cell? ⟨gb194, 0, none⟩ = some (.slice none 0 0) := (blk_cell BK194.out 0).trans rfl
              have hcz36_1 : wr.cell? ⟨gb194, 1, none⟩ = some (.int .i64 0) := (blk_cell BK194.out 1).trans rfl
              have hcz36_2 : wr.cell? ⟨gb194, 2, none⟩ = some (.bool false) := (blk_cell BK194.out 2).trans rfl
              have hfz36_0 := blk_frozen BK194.out 0
              have hfz36_1 := blk_frozen BK194.out 1
              have hfz36_2 := blk_frozen BK194.out 2
              go_wp2
              refine bodyPost_ret (results_ct rfl _ _ gb194 26 #[.slice Ao35 x215000_1.length co35, .int .i64 ((rd_T59 t204 0).f1), .bool false] (0, 0) _ rfl (by (with_reducible repeat (first | refine blk_drewN ?_ _ | refine blk_drew ?_ | refine blk_alloc ?_ _)); refine blk_put (cs := #[.slice Ao35 x215000_1.length co35, .int .i64 ((rd_T59 t204 0).f1), .bool false]) ?_ 2 _ rfl; (with_reducible repeat (first | refine blk_drewN ?_ _ | refine blk_drew ?_ | refine blk_alloc ?_ _)); refine blk_put (cs := #[.slice Ao35 x215000_1.length co35, .int .i64 0, .bool false]) ?_ 1 _ rfl; (with_reducible repeat (first | refine blk_drewN ?_ _ | refine blk_drew ?_ | refine blk_alloc ?_ _)); refine blk_put (cs := #[.slice none 0 0, .int .i64 0, .bool false]) ?_ 0 _ rfl; (with_reducible repeat (first | refine blk_drewN ?_ _ | refine blk_drew ?_ | refine blk_alloc ?_ _)); exact BK194.out) Try.underlying26 rfl (by kernel_rfl)) rfl ?_
              exact ⟨_, by first | rfl | (simp [errW_none, errW_some] <;> rfl) | (simp [*, errW_none, errW_some] <;> rfl), by (with_reducible repeat (first | apply Kd.R_alloc | apply Kd.R_drewN | apply Kd.R_drew)); exact Kd.R_mono (Kd.R_far (p := ⟨gb194, 2, none⟩) (Kd.R_far (p := ⟨gb194, 1, none⟩) (Kd.R_far (p := ⟨gb194, 0, none⟩) (Kd.R_types HO_215000.out BK194.out (by decide)) (fun _ hk => hk.2) (.slice Ao35 x215000_1.length co35)) (fun _ hk => hk.2) (.int .i64 ((rd_T59 t204 0).f1))) (fun _ hk => hk.2) (.bool false)) (fun _ hk => trivial), by repeat (first | (with_reducible first | exact HB.out | apply below_alloc | apply pw_below_drewN | apply below_drew1 | refine below_set ?_ GE194.out | refine below_set ?_ GE214.out) | exact HB.out)⟩
      · replace c11 := Bool.eq_false_iff.mpr c11
        subst c11
        have H1 : ((optimal_paragraph_emergency.f k t196 t197 t198 t207 t201).bind fun bt209 => (some (bt209.1, 0, true, 0))) = some (r1, r2, r3, r4) := by rw [if_neg (show ¬ (false = true) by decide)] at H; exact H
        clear H
        have H := H1
        clear H1
        replace H := Option.bind_eq_some_iff.mp H
        obtain ⟨⟨t209, t212⟩, A370, H⟩ := H
        replace H : (some (t209, 0, true, 0)) = some (r1, r2, r3, r4) := H
        have A37 := Aside0.mk A370
        clear A370
        simp only [Option.some.injEq, Prod.mk.injEq] at H
        obtain ⟨rfl, rfl, rfl, rfl⟩ := H
        go_enter Try.func13, Try.ntmps13
        go_wp2_with (first | ((with_reducible refine gate_dst (N := 6) rfl ?_); refine box_event ?hg (N := 6) ?hd (cs := #[.slice none 0 0, .int .i64 0, .bool false]) (t := 26) ?hr ?_; (case hd => rfl); (case hg => rfl); (case hr => first | (go_simp; done) | (go_simp; rfl)); intro gb194 hg w38 hbox hb; have n0_ := Aside0.mk (below_step (bq HB) hb); have n1_ := Aside0.mk (hbox); have n2_ := Aside0.mk ((by rw [hg]; exact (below_size (bq HB)) : w.heap.size ≤ gb194)); have n3_ := Aside0.mk ((by rw [hg]; exact (below_size (bq HB)) : w.heap.size ≤ gb194)); clear HB; have HB := n0_; have BK194 := n1_; have GW194 := n2_; have GE194 := n3_; clear n0_ n1_ n2_ n3_; clear hb hbox hg) | ((with_reducible refine gate_callee (f := 27) rfl ?_); refine goesL_ (some 17) rfl rfl Try.func27 (by kernel_rfl) rfl #[.slice A0 l0.length c0, .int .i64 a1, .int .i64 a2] rfl (by (try simp only [List.map_toArray, List.map_cons, List.map_nil]); first | done | rfl | (simp only [List.length_drop, List.length_take]; rfl)) ?_; (with_reducible refine (optimal_Check.calls k _ _ l0 a1 a2 t195 _ ?side1 ?side2 A4.out).mono ?_); (case side1 => repeat (first | exact (Kd.C_below HR0.out HB.out) | (with_reducible refine Kd.C_alloc ?_ _) | (with_reducible refine Kd.C_drewN ?_ _) | (with_reducible refine Kd.C_drew ?_))); (case side2 => exact HC0.out); rintro e w39 ⟨rfl, hb⟩; refine ⟨_, rfl, ?_⟩; have n0_ := Aside0.mk (blk_below (g := gb194) (o := .cells #[.slice none 0 0, .int .i64 0, .bool false] 26 (0, 0)) (kq BK194) hb); have n1_ := Aside0.mk (below_step (bs HB GE194) hb); clear BK194; clear HB; have BK194 := n0_; have HB := n1_; clear n0_ n1_; (try clear hb); (try clear hb2); (try clear hk); (try clear hi)) | ((with_reducible refine gate_callee (f := 28) rfl ?_); refine goesL_ (some 24) rfl rfl Try.func28 (by kernel_rfl) rfl #[.slice A0 l0.length c0, .int .i64 a1] rfl (by (try simp only [List.map_toArray, List.map_cons, List.map_nil]); first | done | rfl | (simp only [List.length_drop, List.length_take]; rfl)) ?_; (with_reducible refine (optimal_reckoned.calls _ _ l0 a1 t196 t197 t198 t199 w _ ?side1 ?side2 ?side3 A6.out).mono ?_); (case side1 => repeat (first | (with_reducible first | exact HB.out | apply below_alloc | apply pw_below_drewN | apply below_drew1 | refine below_set ?_ GE194.out) | exact HB.out)); (case side2 => exact HR0.out); (case side3 => exact HC0.out); rintro e w40 ⟨g200, rfl, hi, hb, hb2⟩; refine ⟨_, rfl, ?_⟩; have n0_ := Aside0.mk (blk_below (g := gb194) (o := .cells #[.slice none 0 0, .int .i64 0, .bool false] 26 (0, 0)) (kq BK194) hb2); have n1_ := Aside0.mk (hb); have n2_ := Aside0.mk (hi); have n3_ := Aside0.mk (IsT79.ne_blk hi (blk_below (g := gb194) (o := .cells #[.slice none 0 0, .int .i64 0, .bool false] 26 (0, 0)) (kq BK194) hb2) (by decide)); have n4_ := Aside0.mk (Ne.symm (IsT79.ne_blk hi (blk_below (g := gb194) (o := .cells #[.slice none 0 0, .int .i64 0, .bool false] 26 (0, 0)) (kq BK194) hb2) (by decide))); clear BK194; clear HB; have BK194 := n0_; have HB := n1_; have HI200 := n2_; have NB200_194 := n3_; have NB194_200 := n4_; clear n0_ n1_ n2_ n3_ n4_; (try clear hb); (try clear hb2); (try clear hk); (try clear hi)) | ((with_reducible refine gate_callee (f := 29) rfl ?_); refine goesL_ (some 26) rfl rfl Try.func29 (by kernel_rfl) rfl #[.slice A0 l0.length c0] rfl (by (try simp only [List.map_toArray, List.map_cons, List.map_nil]); first | done | rfl | (simp only [List.length_drop, List.length_take]; rfl)) ?_; (with_reducible refine (optimal_Places.calls k _ _ l0 t201 _ ?side1 ?side2 A7.out).mono ?_); (case side1 => repeat (first | exact (Kd.C_below HR0.out HB.out) | (with_reducible refine Kd.C_alloc ?_ _) | (with_reducible refine Kd.C_drewN ?_ _) | (with_reducible refine Kd.C_drew ?_))); (case side2 => exact HC0.out); rintro e w41 ⟨v202, rfl, ho0, hb⟩; refine ⟨_, rfl, ?_⟩; have n0_ := Aside0.mk (Kd.R_lower ho0 (below_size (by repeat (first | (with_reducible first | exact HB.out | apply below_alloc | apply pw_below_drewN | apply below_drew1 | refine below_set ?_ (IsT79.ge HI200.out) | refine below_set ?_ GE194.out) | exact HB.out)))); have n1_ := Aside0.mk (blk_below (g := gb194) (o := .cells #[.slice none 0 0, .int .i64 0, .bool false] 26 (0, 0)) (kq BK194) hb); have n2_ := Aside0.mk (IsT79.below (by repeat (first | (with_reducible first | exact HI200.out | apply IsT79.alloc | apply IsT79.drewN | apply IsT79.drew | apply IsT79.set_3) | exact HI200.out)) hb); have n3_ := Aside0.mk (below_step (by repeat (first | (with_reducible first | exact HB.out | apply below_alloc | apply pw_below_drewN | apply below_drew1 | refine below_set ?_ (IsT79.ge HI200.out) | refine below_set ?_ GE194.out) | exact HB.out)) hb); clear BK194; clear HI200; clear HB; have HO203 := n0_; have BK194 := n1_; have HI200 := n2_; have HB := n3_; clear n0_ n1_ n2_ n3_; (try clear hb); (try clear hb2); (try clear hk); (try clear hi); (try clear ho0); obtain ⟨Ao42, co42, eo42⟩ := Kd.R_slice HO203.out; subst eo42) | ((with_reducible refine gate_callee (f := 30) rfl ?_); refine goesL_ (some 30) rfl rfl Try.func30 (by kernel_rfl) rfl #[.pointer (some ⟨g200, 0, none⟩), .slice Ao42 t201.length co42, .int .i64 a2] rfl (by (try simp only [List.map_toArray, List.map_cons, List.map_nil]); first | done | rfl | (simp only [List.length_drop, List.length_take]; rfl)) ?_; (with_reducible refine (optimal_paragraph_best.callsT k g200 t196 t197 t198 t199 _ _ t201 a2 t204 t207 w _ ?side1 ?side2 ?side3 ?side4 ?side5 A8.out).mono ?_); (case side1 => repeat (first | (with_reducible first | exact HI200.out | apply IsT79.alloc | apply IsT79.drewN | apply IsT79.drew | apply IsT79.set_3) | exact HI200.out)); (case side2 => repeat (first | (with_reducible first | exact HB.out | apply below_alloc | apply pw_below_drewN | apply below_drew1 | refine below_set ?_ (IsT79.ge HI200.out) | refine below_set ?_ GE194.out) | exact HB.out)); (case side3 => repeat (first | exact (Kd.R_reads' HO203.out).2.2 | (with_reducible refine Kd.C_alloc ?_ _) | (with_reducible refine Kd.C_drewN ?_ _) | (with_reducible refine Kd.C_drew ?_))); (case side4 => exact (Kd.R_reads' HO203.out).2.1); (case side5 => exact far_slice (IsT79.own_ne HI200.out HO203.out (by decide))); rintro e w43 ⟨v205, rfl, ho0, hi, hb, hk⟩; refine ⟨_, rfl, ?_⟩; have n0_ := Aside0.mk (KeepBut.blk hk (g' := gb194) (o := .cells #[.slice none 0 0, .int .i64 0, .bool false] 26 (0, 0)) (kq BK194) NB194_200.out (by simp)); have n1_ := Aside0.mk (Kd.R_mono (Kd.R_keep (IsT79.apart (show IsT79 w _ g200 t196 t197 t198 t199 from by repeat (first | (with_reducible first | exact HI200.out | apply IsT79.alloc | apply IsT79.drewN | apply IsT79.drew | apply IsT79.set_3) | exact HI200.out)) (by (with_reducible repeat (first | apply Kd.R_alloc | apply Kd.R_drewN | apply Kd.R_drew)); exact HO203.out) (by decide)) hk (fun _ h => h.2)) (fun _ h => h.1)); have n2_ := Aside0.mk (Kd.R_lower ho0 (below_size (by repeat (first | (with_reducible first | exact HB.out | apply below_alloc | apply pw_below_drewN | apply below_drew1 | refine below_set ?_ (IsT79.ge HI200.out) | refine below_set ?_ GE194.out) | exact HB.out)))); have n3_ := Aside0.mk (hb); have n4_ := Aside0.mk (hi); clear BK194; clear HO203; clear HB; clear HI200; have BK194 := n0_; have HO203 := n1_; have HO206 := n2_; have HB := n3_; have HI200 := n4_; clear n0_ n1_ n2_ n3_ n4_; (try clear hb); (try clear hb2); (try clear hk); (try clear hi); (try clear ho0); obtain ⟨Ao44, co44, eo44⟩ := Kd.R_slice HO206.out; subst eo44; have p208 : 0 ≤ (0 : Int) := (by omega); have q208 : 0 < (t204.length : Int) := odt; obtain ⟨ad208, e208, hx208_0, hx208_1, hx208_2⟩ := at_T59 (Kd.R_reads' HO206.out).2.2 0 p208 q208; (try rw [← Nbq10.out] at hx208_2); cases e208; have qi208 : (0 < t204.length) = True := eq_true (by omega); (try rw [show ((0 : Int)).toNat = 0 from rfl] at hx208_0); (try rw [show 0 * 3 = 0 from rfl] at hx208_0); (try rw [Addr.add_zero'] at hx208_0); (try rw [show ((0 : Int)).toNat = 0 from rfl] at hx208_1); (try rw [show 0 * 3 = 0 from rfl] at hx208_1); (try rw [Addr.add_zero'] at hx208_1); (try rw [show ((0 : Int)).toNat = 0 from rfl] at hx208_2); (try rw [show 0 * 3 = 0 from rfl] at hx208_2); (try rw [Addr.add_zero'] at hx208_2); replace p208 := eq_true p208; replace q208 := eq_true q208) | ((with_reducible refine gate_callee (f := 31) rfl ?_); refine goesL_ (some 38) rfl rfl Try.func31 (by kernel_rfl) rfl #[.pointer (some ⟨g200, 0, none⟩), .slice Ao42 t201.length co42] rfl (by (try simp only [List.map_toArray, List.map_cons, List.map_nil]); first | done | rfl | (simp only [List.length_drop, List.length_take]; rfl)) ?_; (with_reducible refine (optimal_paragraph_emergency.callsT k g200 t196 t197 t198 t207 _ _ t201 t209 t212 w _ ?side1 ?side2 ?side3 ?side4 ?side5 A37.out).mono ?_); (case side1 => repeat (first | (with_reducible first | exact HI200.out | apply IsT79.alloc | apply IsT79.drewN | apply IsT79.drew | apply IsT79.set_3) | exact HI200.out)); (case side2 => repeat (first | (with_reducible first | exact HB.out | apply below_alloc | apply pw_below_drewN | apply below_drew1 | refine below_set ?_ (IsT79.ge HI200.out) | refine below_set ?_ GE194.out) | exact HB.out)); (case side3 => repeat (first | exact (Kd.R_reads' HO203.out).2.2 | (with_reducible refine Kd.C_alloc ?_ _) | (with_reducible refine Kd.C_drewN ?_ _) | (with_reducible refine Kd.C_drew ?_))); (case side4 => exact (Kd.R_reads' HO203.out).2.1); (case side5 => exact far_slice (IsT79.own_ne HI200.out HO203.out (by decide))); rintro e w45 ⟨v210, rfl, ho0, hi, hb, hk⟩; refine ⟨_, rfl, ?_⟩; have n0_ := Aside0.mk (KeepBut.blk hk (g' := gb194) (o := .cells #[.slice none 0 0, .int .i64 0, .bool false] 26 (0, 0)) (kq BK194) NB194_200.out (by simp)); have n1_ := Aside0.mk (Kd.R_mono (Kd.R_told (Kd.R_oldK (IsT79.apart (show IsT79 w _ g200 t196 t197 t198 t207 from by repeat (first | (with_reducible first | exact HI200.out | apply IsT79.alloc | apply IsT79.drewN | apply IsT79.drew | apply IsT79.set_3) | exact HI200.out)) (by (with_reducible repeat (first | apply Kd.R_alloc | apply Kd.R_drewN | apply Kd.R_drew)); exact HO203.out) (by decide)) hk) (Kd.R_base ho0)) (fun _ h_ => h_.1)); have n2_ := Aside0.mk (Kd.R_mono (Kd.R_keep (IsT79.apart (show IsT79 w _ g200 t196 t197 t198 t207 from by repeat (first | (with_reducible first | exact HI200.out | apply IsT79.alloc | apply IsT79.drewN | apply IsT79.drew | apply IsT79.set_3) | exact HI200.out)) (by (with_reducible repeat (first | apply Kd.R_alloc | apply Kd.R_drewN | apply Kd.R_drew)); exact HO206.out) (by decide)) hk (fun _ h => h.2)) (fun _ h => h.1)); have n3_ := Aside0.mk (Kd.R_lower (Kd.R_new' ho0 (Kd.R_lt (by (with_reducible repeat (first | apply Kd.R_alloc | apply Kd.R_drewN | apply Kd.R_drew)); exact HO203.out))) (below_size (by repeat (first | (with_reducible first | exact HB.out | apply below_alloc | apply pw_below_drewN | apply below_drew1 | refine below_set ?_ (IsT79.ge HI200.out) | refine below_set ?_ GE194.out) | exact HB.out)))); have n4_ := Aside0.mk (hb); have n5_ := Aside0.mk (hi); clear BK194; clear HO203; clear HO206; clear HB; clear HI200; have BK194 := n0_; have HO203 := n1_; have HO206 := n2_; have HO211 := n3_; have HB := n4_; have HI200 := n5_; clear n0_ n1_ n2_ n3_ n4_ n5_; (try clear hb); (try clear hb2); (try clear hk); (try clear hi); (try clear ho0); obtain ⟨Ao46, co46, eo46⟩ := Kd.R_slice HO211.out; subst eo46; have hnb47 := NB194_200.out; have hnc47 := NB200_194.out; have hcz48_0 : w45.cell? ⟨gb194, 0, none⟩ = some (.slice none 0 0) := (blk_cell BK194.out 0).trans rfl; have hcz48_1 : w45.cell? ⟨gb194, 1, none⟩ = some (.int .i64 0) := (blk_cell BK194.out 1).trans rfl; have hcz48_2 : w45.cell? ⟨gb194, 2, none⟩ = some (.bool false) := (blk_cell BK194.out 2).trans rfl; have hfz48_0 := blk_frozen BK194.out 0; have hfz48_1 := blk_frozen BK194.out 1; have hfz48_2 := blk_frozen BK194.out 2))
        refine bodyPost_ret (results_ct rfl _ _ gb194 26 #[.slice Ao46 t209.length co46, .int .i64 0, .bool true] (0, 0) _ rfl (by (with_reducible repeat (first | refine blk_drewN ?_ _ | refine blk_drew ?_ | refine blk_alloc ?_ _)); refine blk_put (cs := #[.slice Ao46 t209.length co46, .int .i64 0, .bool false]) ?_ 2 _ rfl; (with_reducible repeat (first | refine blk_drewN ?_ _ | refine blk_drew ?_ | refine blk_alloc ?_ _)); refine blk_put (cs := #[.slice Ao46 t209.length co46, .int .i64 0, .bool false]) ?_ 1 _ rfl; (with_reducible repeat (first | refine blk_drewN ?_ _ | refine blk_drew ?_ | refine blk_alloc ?_ _)); refine blk_put (cs := #[.slice none 0 0, .int .i64 0, .bool false]) ?_ 0 _ rfl; (with_reducible repeat (first | refine blk_drewN ?_ _ | refine blk_drew ?_ | refine blk_alloc ?_ _)); exact BK194.out) Try.underlying26 rfl (by kernel_rfl)) rfl ?_
        exact ⟨_, by first | rfl | (simp [errW_none, errW_some] <;> rfl) | (simp [*, errW_none, errW_some] <;> rfl), by (with_reducible repeat (first | apply Kd.R_alloc | apply Kd.R_drewN | apply Kd.R_drew)); exact Kd.R_mono (Kd.R_far (p := ⟨gb194, 2, none⟩) (Kd.R_far (p := ⟨gb194, 1, none⟩) (Kd.R_far (p := ⟨gb194, 0, none⟩) (Kd.R_types HO211.out BK194.out (by decide)) (fun _ hk => hk.2) (.slice Ao46 t209.length co46)) (fun _ hk => hk.2) (.int .i64 0)) (fun _ hk => hk.2) (.bool true)) (fun _ hk => trivial), by repeat (first | (with_reducible first | exact HB.out | apply below_alloc | apply pw_below_drewN | apply below_drew1 | refine below_set ?_ (IsT79.ge HI200.out) | refine below_set ?_ GE194.out) | exact HB.out)⟩
    · rw [if_neg c9] at H
      exact absurd H (by simp)
  · rw [if_neg c5] at H
    have c5b0 : (t195 == 0) = false := beq_eq_false_iff_ne.mpr c5
    have c5b1 : (t195 != 0) = true := bne_iff_ne.mpr c5
    simp only [Option.some.injEq, Prod.mk.injEq] at H
    obtain ⟨rfl, rfl, rfl, rfl⟩ := H
    go_enter Try.func13, Try.ntmps13
    go_wp2_with (first | ((with_reducible refine gate_dst (N := 6) rfl ?_); refine box_event ?hg (N := 6) ?hd (cs := #[.slice none 0 0, .int .i64 0, .bool false]) (t := 26) ?hr ?_; (case hd => rfl); (case hg => rfl); (case hr => first | (go_simp; done) | (go_simp; rfl)); intro gb194 hg w49 hbox hb; have n0_ := Aside0.mk (below_step (bq HB) hb); have n1_ := Aside0.mk (hbox); have n2_ := Aside0.mk ((by rw [hg]; exact (below_size (bq HB)) : w.heap.size ≤ gb194)); have n3_ := Aside0.mk ((by rw [hg]; exact (below_size (bq HB)) : w.heap.size ≤ gb194)); clear HB; have HB := n0_; have BK194 := n1_; have GW194 := n2_; have GE194 := n3_; clear n0_ n1_ n2_ n3_; clear hb hbox hg) | ((with_reducible refine gate_callee (f := 27) rfl ?_); refine goesL_ (some 17) rfl rfl Try.func27 (by kernel_rfl) rfl #[.slice A0 l0.length c0, .int .i64 a1, .int .i64 a2] rfl (by (try simp only [List.map_toArray, List.map_cons, List.map_nil]); first | done | rfl | (simp only [List.length_drop, List.length_take]; rfl)) ?_; (with_reducible refine (optimal_Check.calls k _ _ l0 a1 a2 t195 _ ?side1 ?side2 A4.out).mono ?_); (case side1 => repeat (first | exact (Kd.C_below HR0.out HB.out) | (with_reducible refine Kd.C_alloc ?_ _) | (with_reducible refine Kd.C_drewN ?_ _) | (with_reducible refine Kd.C_drew ?_))); (case side2 => exact HC0.out); rintro e w50 ⟨rfl, hb⟩; refine ⟨_, rfl, ?_⟩; have n0_ := Aside0.mk (blk_below (g := gb194) (o := .cells #[.slice none 0 0, .int .i64 0, .bool false] 26 (0, 0)) (kq BK194) hb); have n1_ := Aside0.mk (below_step (bs HB GE194) hb); clear BK194; clear HB; have BK194 := n0_; have HB := n1_; clear n0_ n1_; (try clear hb); (try clear hb2); (try clear hk); (try clear hi); have hcz51_0 : w50.cell? ⟨gb194, 0, none⟩ = some (.slice none 0 0) := (blk_cell BK194.out 0).trans rfl; have hcz51_1 : w50.cell? ⟨gb194, 1, none⟩ = some (.int .i64 0) := (blk_cell BK194.out 1).trans rfl; have hcz51_2 : w50.cell? ⟨gb194, 2, none⟩ = some (.bool false) := (blk_cell BK194.out 2).trans rfl; have hfz51_0 := blk_frozen BK194.out 0; have hfz51_1 := blk_frozen BK194.out 1; have hfz51_2 := blk_frozen BK194.out 2))
    refine bodyPost_ret (results_ct rfl _ _ gb194 26 #[.slice none 0 0, .int .i64 0, .bool false] (0, 0) _ rfl (by (with_reducible repeat (first | refine blk_drewN ?_ _ | refine blk_drew ?_ | refine blk_alloc ?_ _)); refine blk_put (cs := #[.slice none 0 0, .int .i64 0, .bool false]) ?_ 2 _ rfl; (with_reducible repeat (first | refine blk_drewN ?_ _ | refine blk_drew ?_ | refine blk_alloc ?_ _)); refine blk_put (cs := #[.slice none 0 0, .int .i64 0, .bool false]) ?_ 1 _ rfl; (with_reducible repeat (first | refine blk_drewN ?_ _ | refine blk_drew ?_ | refine blk_alloc ?_ _)); refine blk_put (cs := #[.slice none 0 0, .int .i64 0, .bool false]) ?_ 0 _ rfl; (with_reducible repeat (first | refine blk_drewN ?_ _ | refine blk_drew ?_ | refine blk_alloc ?_ _)); exact BK194.out) Try.underlying26 rfl (by kernel_rfl)) rfl ?_
    exact ⟨_, by first | rfl | (simp [errW_none, errW_some] <;> rfl) | (simp [*, errW_none, errW_some] <;> rfl), by first | exact Kd.R_nil _ _ _ _ _ | exact Kd.N_nil _ _ _ _ _ | exact Kd.V_nil _ _ _ _ _ | exact Kd.Q_nil _ _ _ _ _ | exact Kd.S_nil _ _ _ _ _, bs HB GE194⟩

end Go.Proofs.Ytfbanppdiglciaa.X
