-- written by a program of this session (wip/xprint.py) over the kit's print
import Derived.Test.YtfbanppdiglciaaYx0
import Derived.Test.YtfbanppdiglciaaYx30
namespace Go.Proofs.Ytfbanppdiglciaa.Y
open Go.RowKit Go.Proofs.YtfbanppdiglciaaW.PrintWords Go.Proofs.YtfbanppdiglciaaW.PrintLast Go.Proofs.YtfbanppdiglciaaW.PrintMore
attribute [local go_sem] max2_int min2_int max_two min_two max_three min_three max_four min_four   -- for this text's walks alone
set_option linter.unusedVariables false
set_option linter.unusedSimpArgs false

/-! ### ahead of optimal_Best -/
theorem rk_blk_of {w : World} {a : Addr} {n : Nat} {v : Value} (h : w.cell? (a.add n) = some v) : a.block < w.heap.size := by
  have := World.block_lt_of_cell? w _ h
  rwa [add_block] at this
theorem rk_x_block_add (a : Addr) (n : Nat) : (a.add n).block = a.block := by unfold Addr.add; split <;> rfl
theorem rk_x_cell_alloc (w : World) (o : Obj) (a : Addr) (h : a.block < w.heap.size) : (w.alloc o).cell? a = w.cell? a := World.cell?_alloc_lt w o a h
def rk_sumsAt (l : List S31) : Nat → S81
  | 0 => ⟨0, 0, 0⟩
  | j + 1 => let s := rk_sumsAt l j; let x := l.getD j z31
    ⟨if x.f0 = 3 then s.f0 else wrap64 (s.f0 + x.f1), if x.f0 = 2 then wrap64 (s.f1 + x.f2) else s.f1, if x.f0 = 2 then wrap64 (s.f2 + x.f3) else s.f2⟩
def rk_SumsC (l : List S31) (C : Array Value) (i : Nat) : Prop := C.size = (l.length + 1) * 3 ∧ (∀ o, o < (l.length + 1) * 3 → ∃ z, C[o]? = some (.int .i64 z)) ∧
  ∀ j, j ≤ i → C[j * 3]? = some (.int .i64 (rk_sumsAt l j).f0) ∧ C[j * 3 + 1]? = some (.int .i64 (rk_sumsAt l j).f1) ∧ C[j * 3 + 2]? = some (.int .i64 (rk_sumsAt l j).f2)
def rk_Rk1 (A0 : Option Addr) (l : List S31) (c0 : Nat) (width : Int) (Z2 : Array Value) (gs gb gp : Nat) (w W : World) (i : Nat) : Prop :=
  ∃ C, W.heap[gs]? = some (.cells C 81 (0, 0)) ∧ rk_SumsC l C i ∧ W.heap[gb]? = some (.cells Z2 3 (0, 0)) ∧ W.heap[gp]? = some (.cells #[.slice A0 l.length c0, .slice (some ⟨gs, 0, none⟩) (l.length + 1) (l.length + 1), .slice (some ⟨gb, 0, none⟩) (l.length + 1) (l.length + 1), .int .i64 width] 79 (0, 0)) ∧ Below w.heap.size w W
theorem rk_x_lt {w : World} {g : Nat} {o : Obj} (h : w.heap[g]? = some o) : g < w.heap.size := by
  rcases Nat.lt_or_ge g w.heap.size with c | c
  · exact c
  · rw [Array.getElem?_eq_none c] at h; cases h
def rk_Rk0 (A0 : Option Addr) (n c0 : Nat) (width : Int) (Z1 Z2 : Array Value) (w W : World) (gs gb gp : Nat) : Prop :=
  W.heap[gs]? = some (.cells Z1 81 (0, 0)) ∧ W.heap[gb]? = some (.cells Z2 3 (0, 0)) ∧ W.heap[gp]? = some (.cells #[.slice A0 n c0, .slice (some ⟨gs, 0, none⟩) (n + 1) (n + 1), .slice (some ⟨gb, 0, none⟩) (n + 1) (n + 1), .int .i64 width] 79 (0, 0)) ∧
    gs < gp ∧ gb < gp ∧ gs ≠ gb ∧ w.heap.size ≤ gs ∧ w.heap.size ≤ gb ∧ Below w.heap.size w W
theorem rk_x_new (w : World) (o : Obj) (g : Nat) (h : g = w.heap.size) : (w.alloc o).heap[g]? = some o := by subst h; exact heap_alloc_new w o
theorem rk_x_old (w : World) (o o' : Obj) (g : Nat) (h : w.heap[g]? = some o') : (w.alloc o).heap[g]? = some o' := by
  have : g < w.heap.size := by
    rcases Nat.lt_or_ge g w.heap.size with c | c
    · exact c
    · rw [Array.getElem?_eq_none c] at h; cases h
  exact (Below.heap_alloc w o g this).trans h
theorem rk_x_frozen_alloc (w : World) (o : Obj) (a : Addr) (h : a.block < w.heap.size) : (w.alloc o).frozen? a = w.frozen? a := by
  simp only [World.frozen?]; rw [Below.heap_alloc w o a.block h]
theorem rk_x_frozen (w : World) (g j : Nat) (cs : Array Value) (t : TypeId) (h : w.heap[g]? = some (.cells cs t (0, 0))) : w.frozen? ⟨g, j, none⟩ = false := by
  simp [World.frozen?, h]

theorem rk_x_C81_put {l : List S31} {C : Array Value} {i : Nat} {a b c : Int} (h : rk_SumsC l C i) (hi : i < l.length) (hv : rk_sumsAt l (i + 1) = ⟨a, b, c⟩) :
    rk_SumsC l (((C.setIfInBounds ((i + 1) * 3) (.int .i64 a)).setIfInBounds ((i + 1) * 3 + 1) (.int .i64 b)).setIfInBounds ((i + 1) * 3 + 2) (.int .i64 c)) (i + 1) := by
  obtain ⟨h1, h2, h3⟩ := h
  refine ⟨by simpa using h1, fun o ho => ?_, fun j hj => ?_⟩
  · by_cases e2 : o = (i + 1) * 3 + 2
    · exact ⟨c, by subst e2; rw [Array.getElem?_setIfInBounds_self_of_lt (by simp; omega)]⟩
    rw [Array.getElem?_setIfInBounds_ne (Ne.symm e2)]
    by_cases e1 : o = (i + 1) * 3 + 1
    · exact ⟨b, by subst e1; rw [Array.getElem?_setIfInBounds_self_of_lt (by simp; omega)]⟩
    rw [Array.getElem?_setIfInBounds_ne (Ne.symm e1)]
    by_cases e0 : o = (i + 1) * 3
    · exact ⟨a, by subst e0; rw [Array.getElem?_setIfInBounds_self_of_lt (by omega)]⟩
    rw [Array.getElem?_setIfInBounds_ne (Ne.symm e0)]
    exact h2 o ho
  · by_cases e : j = i + 1
    · subst e
      rw [hv]
      refine ⟨?_, ?_, ?_⟩
      · rw [Array.getElem?_setIfInBounds_ne (by omega), Array.getElem?_setIfInBounds_ne (by omega), Array.getElem?_setIfInBounds_self_of_lt (by omega)]
      · rw [Array.getElem?_setIfInBounds_ne (by omega), Array.getElem?_setIfInBounds_self_of_lt (by simp; omega)]
      · rw [Array.getElem?_setIfInBounds_self_of_lt (by simp; omega)]
    · obtain ⟨g1, g2, g3⟩ := h3 j (by omega)
      refine ⟨?_, ?_, ?_⟩
      · rw [Array.getElem?_setIfInBounds_ne (by omega), Array.getElem?_setIfInBounds_ne (by omega), Array.getElem?_setIfInBounds_ne (by omega)]; exact g1
      · rw [Array.getElem?_setIfInBounds_ne (by omega), Array.getElem?_setIfInBounds_ne (by omega), Array.getElem?_setIfInBounds_ne (by omega)]; exact g2
      · rw [Array.getElem?_setIfInBounds_ne (by omega), Array.getElem?_setIfInBounds_ne (by omega), Array.getElem?_setIfInBounds_ne (by omega)]; exact g3
theorem rk_Rk1.step {A0 : Option Addr} {l : List S31} {c0 : Nat} {width : Int} {Z2 : Array Value} {gs gb gp : Nat} {w W : World} {i : Nat} {a b c : Int} (o1 o2 : Obj) (h : rk_Rk1 A0 l c0 width Z2 gs gb gp w W i)
    (Q : gs < gp ∧ gb < gp ∧ gs ≠ gb ∧ w.heap.size ≤ gs ∧ w.heap.size ≤ gb) (hi : i < l.length) (hv : rk_sumsAt l (i + 1) = ⟨a, b, c⟩) :
    rk_Rk1 A0 l c0 width Z2 gs gb gp w (((((W.setCell ⟨gs, (i + 1) * 3, none⟩ (.int .i64 a)).setCell ⟨gs, (i + 1) * 3 + 1, none⟩ (.int .i64 b)).setCell ⟨gs, (i + 1) * 3 + 2, none⟩ (.int .i64 c)).alloc o1).alloc o2).drew (i + 1) := by
  obtain ⟨C, h1, h2, h3, h4, h5⟩ := h
  obtain ⟨q1, q2, q3, q4, q5⟩ := Q
  refine ⟨_, ?_, rk_x_C81_put h2 hi hv, ?_, ?_, ?_⟩
  · exact rk_x_old _ _ _ _ (rk_x_old _ _ _ _ (blk_set (blk_set (blk_set h1 _ _) _ _) _ _))
  · exact rk_x_old _ _ _ _ (rk_x_old _ _ _ _ (blk_far (blk_far (blk_far h3 (show gb ≠ gs by omega) _) (show gb ≠ gs by omega) _) (show gb ≠ gs by omega) _))
  · exact rk_x_old _ _ _ _ (rk_x_old _ _ _ _ (blk_far (blk_far (blk_far h4 (show gp ≠ gs by omega) _) (show gp ≠ gs by omega) _) (show gp ≠ gs by omega) _))
  · exact below_drew (below_alloc (below_alloc (below_set (below_set (below_set h5 q4) q4) q4) _) _)
theorem rk_rd_succ {l : List S31} {i : Nat} {x : S31} {s : S81} (hx : rd_T31 l (i : Int) = x) (hs : rk_sumsAt l i = s) : rk_sumsAt l (i + 1) = ⟨if x.f0 = 3 then s.f0 else wrap64 (s.f0 + x.f1), if x.f0 = 2 then wrap64 (s.f1 + x.f2) else s.f1, if x.f0 = 2 then wrap64 (s.f2 + x.f3) else s.f2⟩ := by
  subst hx hs
  simp only [rk_sumsAt, rd_T31, Int.toNat_natCast]
  rfl
def rk_begR (l : List S31) : Nat → Int
  | 0 => l.length
  | k + 1 => if (l.getD (l.length - (k + 1)) z31).f0 = 1 then ((l.length - (k + 1) : Nat) : Int) else rk_begR l k
def rk_BegC (l : List S31) (D : Array Value) (k : Nat) : Prop := D.size = l.length + 1 ∧ (∀ o, o < l.length + 1 → ∃ z, D[o]? = some (.int .i64 z)) ∧ ∀ j, j ≤ k → D[l.length - j]? = some (.int .i64 (rk_begR l j))
def rk_Rk2 (A0 : Option Addr) (l : List S31) (c0 : Nat) (width : Int) (gs gb gp : Nat) (w W : World) (k : Nat) : Prop :=
  ∃ C D, W.heap[gs]? = some (.cells C 81 (0, 0)) ∧ rk_SumsC l C l.length ∧ W.heap[gb]? = some (.cells D 3 (0, 0)) ∧ rk_BegC l D k ∧ W.heap[gp]? = some (.cells #[.slice A0 l.length c0, .slice (some ⟨gs, 0, none⟩) (l.length + 1) (l.length + 1), .slice (some ⟨gb, 0, none⟩) (l.length + 1) (l.length + 1), .int .i64 width] 79 (0, 0)) ∧ Below w.heap.size w W
theorem rk_BegC.put {l : List S31} {D : Array Value} {k : Nat} {a : Int} (h : rk_BegC l D k) (hk : k < l.length) (hv : rk_begR l (k + 1) = a) : rk_BegC l (D.setIfInBounds (l.length - (k + 1)) (.int .i64 a)) (k + 1) := by
  obtain ⟨h1, h2, h3⟩ := h
  refine ⟨by simpa using h1, fun o ho => ?_, fun j hj => ?_⟩
  · by_cases e : o = l.length - (k + 1)
    · exact ⟨a, by subst e; rw [Array.getElem?_setIfInBounds_self_of_lt (by omega)]⟩
    rw [Array.getElem?_setIfInBounds_ne (Ne.symm e)]
    exact h2 o ho
  · by_cases e : j = k + 1
    · subst e; rw [hv, Array.getElem?_setIfInBounds_self_of_lt (by omega)]
    · rw [Array.getElem?_setIfInBounds_ne (by omega)]; exact h3 j (by omega)
theorem rk_x_put2 (D : Array Value) (i : Nat) (u v : Value) : (D.setIfInBounds i u).setIfInBounds i v = D.setIfInBounds i v := by
  apply Array.ext_getElem?
  intro j
  by_cases e : i = j
  · subst e
    by_cases h : i < D.size
    · rw [Array.getElem?_setIfInBounds_self_of_lt (by simpa using h), Array.getElem?_setIfInBounds_self_of_lt h]
    · simp [Array.getElem?_eq_none (Nat.le_of_not_lt h), h]
  · rw [Array.getElem?_setIfInBounds_ne e, Array.getElem?_setIfInBounds_ne e, Array.getElem?_setIfInBounds_ne e]
def rk_sumsL (l : List S31) : List S81 := (List.range (l.length + 1)).map (rk_sumsAt l)
def rk_begsL (l : List S31) : List Int := (List.range (l.length + 1)).map (fun i => rk_begR l (l.length - i))
def rk_cut (W : World) (n : Nat) : World := { W with heap := W.heap.extract 0 n }
theorem rk_cut_heap (W : World) (n g : Nat) (h : g < n) : (rk_cut W n).heap[g]? = W.heap[g]? := by
  simp only [rk_cut, Array.getElem?_extract]
  split
  · simp
  · rename_i c; rw [Array.getElem?_eq_none (by omega)]
theorem rk_cut_below {W : World} {n : Nat} (hn : n ≤ W.heap.size) : Below (rk_cut W n).heap.size (rk_cut W n) W := by
  have e : (rk_cut W n).heap.size = n := by simp [rk_cut]; omega
  refine ⟨rfl, rfl, rfl, by omega, fun k hk => ?_⟩
  rw [rk_cut_heap W n k (by omega)]
theorem rk_below_cut {w W : World} {n : Nat} (h : Below w.heap.size w W) (hw : w.heap.size ≤ n) (hn : n ≤ W.heap.size) : Below w.heap.size w (rk_cut W n) := by
  have e : (rk_cut W n).heap.size = n := by simp [rk_cut]; omega
  refine ⟨h.os, h.tape, h.output, by omega, fun k hk => ?_⟩
  rw [rk_cut_heap W n k (by omega)]
  exact h.block k hk
theorem rk_range_map_get {α : Type} (f : Nat → α) (n j : Nat) (p : α) (h : ((List.range n).map f)[j]? = some p) : j < n ∧ p = f j := by
  rw [List.getElem?_map] at h
  by_cases c : j < n
  · rw [List.getElem?_range c] at h
    exact ⟨c, by simpa using h.symm⟩
  · rw [List.getElem?_eq_none (by simp; omega)] at h; cases h
theorem rk_Rk2.done {A0 : Option Addr} {l : List S31} {c0 : Nat} {width : Int} {gs gb gp : Nat} {w W : World} (h : rk_Rk2 A0 l c0 width gs gb gp w W l.length)
    (Q : gs < gp ∧ gb < gp ∧ gs ≠ gb ∧ w.heap.size ≤ gs ∧ w.heap.size ≤ gb) (hm : l.length ≤ 9223372036854775800) (hc : Kd.C k31 w A0 l.length l) : IsS79 (rk_cut W gp) W gp l (rk_sumsL l) (rk_begsL l) width ∧ Below (rk_cut W gp).heap.size (rk_cut W gp) W ∧ Below w.heap.size w W ∧ Below w.heap.size w (rk_cut W gp) := by
  obtain ⟨C, D, h1, h2, h3, h4, h5, h6⟩ := h
  obtain ⟨q1, q2, q3, q4, q5⟩ := Q
  have hgp := rk_x_lt h5
  have hb := rk_below_cut h6 (show w.heap.size ≤ gp by omega) (Nat.le_of_lt hgp)
  refine ⟨⟨A0, c0, some ⟨gs, 0, none⟩, l.length + 1, some ⟨gb, 0, none⟩, l.length + 1, ?_, ?_, Kd.C_below hc hb, ?_, ?_⟩, rk_cut_below (Nat.le_of_lt hgp), h6, hb⟩
  · rw [h5]; simp [rk_sumsL, rk_begsL]
  · simp [rk_cut]; omega
  · refine ⟨rfl, by simp [rk_sumsL]; omega, fun _ => ⟨_, rfl, fun j p hp => ?_⟩⟩
    obtain ⟨hj, rfl⟩ := rk_range_map_get _ _ _ _ hp
    refine ⟨_, rfl, k81_mk _ _, fun i u hu => ?_⟩
    obtain ⟨s0, s1, s2⟩ := h2.2.2 j (by omega)
    have cs : ∀ o u, C[o]? = some u → (rk_cut W gp).cell? ⟨gs, o, none⟩ = some u := fun o u ho => by
      rw [cell_of_row (rk_cut W gp) gs o _ 81 (0, 0) ((rk_cut_heap W gp gs q1).trans h1)]; exact ho
    have e : (Addr.add ⟨gs, 0, none⟩ (j * 3 + i)) = ⟨gs, j * 3 + i, none⟩ := by simp [Addr.add]; omega
    show (rk_cut W gp).cell? (Addr.add ⟨gs, 0, none⟩ (j * 3 + i)) = some u
    rw [e]
    match i, hu with
    | 0, hu => cases hu; exact cs _ _ s0
    | 1, hu => cases hu; exact cs _ _ s1
    | 2, hu => cases hu; exact cs _ _ s2
    | i + 3, hu => cases hu
  · refine ⟨rfl, by simp [rk_begsL]; omega, fun _ => ⟨_, rfl, fun j p hp => ?_⟩⟩
    obtain ⟨hj, rfl⟩ := rk_range_map_get _ _ _ _ hp
    refine ⟨[.int .i64 (rk_begR l (l.length - j))], rfl, rfl, fun i u hu => ?_⟩
    have s0 := h4.2.2 (l.length - j) (by omega)
    rw [show l.length - (l.length - j) = j by omega] at s0
    have e : (Addr.add ⟨gb, 0, none⟩ (j * 1 + i)) = ⟨gb, j * 1 + i, none⟩ := by simp [Addr.add]; omega
    show (rk_cut W gp).cell? (Addr.add ⟨gb, 0, none⟩ (j * 1 + i)) = some u
    rw [e]
    match i, hu with
    | 0, hu =>
      cases hu
      rw [cell_of_row (rk_cut W gp) gb _ _ 3 (0, 0) ((rk_cut_heap W gp gb q2).trans h3), Nat.mul_one, Nat.add_zero]; exact s0
    | i + 1, hu => cases hu
theorem rk_beg_succ {l : List S31} {m k : Nat} {kd bk : Int} (hx : (rd_T31 l (m : Int)).f0 = kd) (hs : rk_begR l k = bk) (h : k + 1 + m = l.length) : rk_begR l (k + 1) = if kd = 1 then (m : Int) else bk := by
  subst hx hs
  have e : l.length - (k + 1) = m := by omega
  simp only [rk_begR, rd_T31, Int.toNat_natCast, e]
  rfl
theorem rk_Rk2.step1 {A0 : Option Addr} {l : List S31} {c0 : Nat} {width : Int} {gs gb gp : Nat} {w W : World} {k m : Nat} {a : Int} (h : rk_Rk2 A0 l c0 width gs gb gp w W k)
    (Q : gs < gp ∧ gb < gp ∧ gs ≠ gb ∧ w.heap.size ≤ gs ∧ w.heap.size ≤ gb) (hi : k < l.length) (hm : k + 1 + m = l.length) (hv : rk_begR l (k + 1) = a) :
    rk_Rk2 A0 l c0 width gs gb gp w (W.setCell ⟨gb, m, none⟩ (.int .i64 a)).drew (k + 1) := by
  obtain ⟨C, D, h1, h2, h3, h4, h5, h6⟩ := h
  obtain ⟨q1, q2, q3, q4, q5⟩ := Q
  have e : m = l.length - (k + 1) := by omega
  subst e
  exact ⟨C, _, blk_far h1 (show gs ≠ gb from q3) _, h2, blk_set h3 _ _, h4.put hi hv, blk_far h5 (show gp ≠ gb by omega) _, below_drew (below_set h6 q5)⟩
theorem rk_Rk2.step2 {A0 : Option Addr} {l : List S31} {c0 : Nat} {width : Int} {gs gb gp : Nat} {w W : World} {k m : Nat} {a : Int} {v : Value} (h : rk_Rk2 A0 l c0 width gs gb gp w W k)
    (Q : gs < gp ∧ gb < gp ∧ gs ≠ gb ∧ w.heap.size ≤ gs ∧ w.heap.size ≤ gb) (hi : k < l.length) (hm : k + 1 + m = l.length) (hv : rk_begR l (k + 1) = a) :
    rk_Rk2 A0 l c0 width gs gb gp w ((W.setCell ⟨gb, m, none⟩ v).setCell ⟨gb, m, none⟩ (.int .i64 a)).drew (k + 1) := by
  obtain ⟨C, D, h1, h2, h3, h4, h5, h6⟩ := h
  obtain ⟨q1, q2, q3, q4, q5⟩ := Q
  have e : m = l.length - (k + 1) := by omega
  subst e
  refine ⟨C, _, blk_far (blk_far h1 (show gs ≠ gb from q3) _) (show gs ≠ gb from q3) _, h2, blk_set (blk_set h3 _ _) _ _, ?_, blk_far (blk_far h5 (show gp ≠ gb by omega) _) (show gp ≠ gb by omega) _, below_drew (below_set (below_set h6 q5) q5)⟩
  rw [rk_x_put2]
  exact h4.put hi hv
section
attribute [local go_sem] rk_x_block_add rk_x_cell_alloc rk_x_frozen_alloc
set_option maxHeartbeats 8000000 in
set_option maxRecDepth 100000 in
theorem rk_walk (A0 : Option Addr) (l : List S31) (n c0 : Nat) (hn : Aside0 (l.length = n)) (width : Int) (Z1 Z2 : Array Value) (n0 : n ≤ 9223372036854775800) (w : World) (HR : Aside0 (Kd.C k31 w A0 l.length l)) (HZ1 : Aside0 (rk_SumsC l Z1 0)) (HZ2 : Aside0 (Z2.size = l.length + 1 ∧ ∀ o, o < l.length + 1 → ∃ z, Z2[o]? = some (.int .i64 z)))
   (hmk1 : ∀ W, (Instr.makeSlice 77 (.int .i64 ((n : Int) + 1)) (.int .i64 ((n : Int) + 1))).run Try.prog W = .ok (.slice (some ⟨W.heap.size, 0, none⟩) (n + 1) (n + 1)) (W.alloc (.cells Z1 81)))
   (hmk2 : ∀ W, (Instr.makeSlice 24 (.int .i64 ((n : Int) + 1)) (.int .i64 ((n : Int) + 1))).run Try.prog W = .ok (.slice (some ⟨W.heap.size, 0, none⟩) (n + 1) (n + 1)) (W.alloc (.cells Z2 3))) :
    Calls Try.prog 28 #[.slice A0 n c0, .int .i64 width] w fun e w' => ∃ (g : Nat) (w0 : World), e = .returned (.pointer (some ⟨g, 0, none⟩)) ∧ IsS79 w0 w' g l (rk_sumsL l) (rk_begsL l) width ∧ Below w0.heap.size w0 w' ∧ Below w.heap.size w w' ∧ Below w.heap.size w w0 := by
  have hu81 := Try.underlying81
  have hu79 := Try.underlying79
  have hu31 := Try.underlying31
  go_enter Try.func28, Try.ntmps28
  go_upto_region 1 with (fail)
  go_cut [5] (fun v5 W => ∃ gs gb gp : Nat, v5 = .pointer (some ⟨gp, 0, none⟩) ∧ rk_Rk0 A0 n c0 width Z1 Z2 w W gs gb gp)
  case first =>
    go_region
    · go_wp2
      go_meet
      case rel =>
        refine ⟨w.heap.size, w.heap.size + 1, w.heap.size + 1 + 1, rfl, ?_, ?_, ?_, by omega, by omega, by omega, by omega, by omega, by repeat (first | exact Below.refl _ _ | apply below_alloc | apply below_drew1)⟩
        · exact rk_x_old _ _ _ _ (rk_x_old _ _ _ _ (rk_x_new _ _ _ rfl))
        · exact rk_x_old _ _ _ _ (rk_x_new _ _ _ (by simp))
        · exact rk_x_new _ _ _ (by simp)
    · go_wp2
      go_meet
      case rel =>
        refine ⟨w.heap.size + 1, w.heap.size, w.heap.size + 1 + 1, rfl, ?_, ?_, ?_, by omega, by omega, by omega, by omega, by omega, by repeat (first | exact Below.refl _ _ | apply below_alloc | apply below_drew1)⟩
        · exact rk_x_old _ _ _ _ (rk_x_new _ _ _ (by simp))
        · exact rk_x_old _ _ _ _ (rk_x_old _ _ _ _ (rk_x_new _ _ _ rfl))
        · exact rk_x_new _ _ _ (by simp)
  case rest =>
    clear hmk1 hmk2
    obtain ⟨gs, gb, gp, rfl, R⟩ := hcut
    obtain ⟨r1, r2, r3, r4, r5, r6, r7, r8, r9⟩ := R
    have R1 := Aside0.mk (show rk_Rk1 A0 l c0 width Z2 gs gb gp w wc 0 from ⟨Z1, r1, HZ1.out, r2, by rw [hn.out]; exact r3, r9⟩)
    have Q := Aside0.mk (show gs < gp ∧ gb < gp ∧ gs ≠ gb ∧ w.heap.size ≤ gs ∧ w.heap.size ≤ gb from ⟨r4, r5, r6, r7, r8⟩)
    clear r1 r2 r3 r4 r5 r6 r7 r8 r9
    go_wp2
    go_loopw [24] (fun v24 W => ∃ i : Nat, i ≤ n ∧ v24 = .int .i64 i ∧ Aside0 (rk_Rk1 A0 l c0 width Z2 gs gb gp w W i)) (fun v24 _ => n - (intOf v24).toNat)
    case atStart => exact ⟨0, Nat.zero_le _, rfl, R1⟩
    case round =>
      obtain ⟨i, hi, rfl, HK⟩ := hrel
      by_cases hlt : i < n
      · obtain ⟨C, d1, d2, d3, d4, d5⟩ := HK.out
        obtain ⟨ad0, eA, x0, x1, x2, x3, x4, x5⟩ := at_T31 HR.out (i : Int) (by omega) (by have := hn.out; omega)
        rw [Int.toNat_natCast] at x0 x1 x2 x3 x4 x5
        rw [add_block] at x1 x2 x3 x4 x5
        replace x0 := pw_cell_below d5 x0
        replace x1 := pw_cell_below d5 x1
        replace x2 := pw_cell_below d5 x2
        replace x3 := pw_cell_below d5 x3
        replace x4 := pw_cell_below d5 x4
        replace x5 := pw_cell_below d5 x5
        have b0 := rk_blk_of x0
        subst eA
        obtain ⟨s0, s1, s2⟩ := d2.2.2 i (Nat.le_refl _)
        have cs : ∀ j u, C[j]? = some u → wr.cell? ⟨gs, j, none⟩ = some u := fun j u hu => by rw [cell_of_row wr gs j _ 81 (0, 0) d1]; exact hu
        replace s0 := cs _ _ s0
        replace s1 := cs _ _ s1
        replace s2 := cs _ _ s2
        have gsl := rk_x_lt d1
        obtain ⟨z0, y0⟩ := d2.2.1 ((i + 1) * 3) (by have := hn.out; omega)
        obtain ⟨z1, y1⟩ := d2.2.1 ((i + 1) * 3 + 1) (by have := hn.out; omega)
        obtain ⟨z2, y2⟩ := d2.2.1 ((i + 1) * 3 + 2) (by have := hn.out; omega)
        replace y0 := cs _ _ y0
        replace y1 := cs _ _ y1
        replace y2 := cs _ _ y2
        have f0 := rk_x_frozen wr gs ((i + 1) * 3) _ _ d1
        have f1 := rk_x_frozen wr gs ((i + 1) * 3 + 1) _ _ d1
        have f2 := rk_x_frozen wr gs ((i + 1) * 3 + 2) _ _ d1
        have t1 : ((i : Int) + 1).toNat = i + 1 := by omega
        have gs1 : gs < wr.heap.size + 1 := by omega
        have gs2 : gs < wr.heap.size + 1 + 1 := by omega
        have gp1 : gp < wr.heap.size + 1 := by have := rk_x_lt d4; omega
        have gp2 : gp < wr.heap.size + 1 + 1 := by omega
        have b1 : ad0.block < wr.heap.size + 1 := by omega
        have gpl := rk_x_lt d4
        have p1 : wr.cell? ⟨gp, 1, none⟩ = some (.slice (some ⟨gs, 0, none⟩) (n + 1) (n + 1)) := by rw [cell_of_row wr gp 1 _ 79 (0, 0) d4, ← hn.out]; rfl
        generalize hx : rd_T31 l (i : Int) = X at x0 x1 x2 x3 x4 x5
        generalize hs : rk_sumsAt l i = S at s0 s1 s2
        obtain ⟨kd_, wd_, st_, sh_, pe_, fl_⟩ := X
        obtain ⟨sa, sb, sc⟩ := S
        simp only at x0 x1 x2 x3 x4 x5 s0 s1 s2
        have HX := Aside0.mk hx
        have HS := Aside0.mk hs
        clear hx hs d1 d2 d3 d4 d5 cs
        go_wp2
        all_goals go_region
        all_goals go_wp2
        all_goals go_roundw
        all_goals first
          | (show _ < _; simp only [intOf]; omega)
          | exact ⟨i + 1, by omega, by push_cast; rfl, Aside0.mk (rk_Rk1.step _ _ HK.out Q.out (by have := hn.out; omega) (by rw [rk_rd_succ HX.out HS.out]; simp_all))⟩
      · obtain rfl : i = n := by omega
        obtain ⟨C, d1, d2, d3, d4, d5⟩ := HK.out
        have gbl := rk_x_lt d3
        have gpl := rk_x_lt d4
        have fb := rk_x_frozen wr gb i _ _ d3
        obtain ⟨zb, yb⟩ := HZ2.out.2 i (by have := hn.out; omega)
        have yb : wr.cell? ⟨gb, i, none⟩ = some (.int .i64 zb) := by rw [cell_of_row wr gb i _ 3 (0, 0) d3]; exact yb
        have p1 : wr.cell? ⟨gp, 2, none⟩ = some (.slice (some ⟨gb, 0, none⟩) (i + 1) (i + 1)) := by rw [cell_of_row wr gp 2 _ 79 (0, 0) d4, ← hn.out]; rfl
        have K0 := Aside0.mk (show rk_Rk2 A0 l c0 width gs gb gp w (wr.setCell ⟨gb, i, none⟩ (.int .i64 i)) 0 from by
          obtain ⟨q1, q2, q3, q4, q5⟩ := Q.out
          refine ⟨C, Z2.setIfInBounds i (.int .i64 i), blk_far d1 (show gs ≠ gb from q3) _, by rw [hn.out]; exact d2, blk_set d3 _ _, ?_, blk_far d4 (show gp ≠ gb by omega) _, below_set d5 q5⟩
          refine ⟨by simpa using HZ2.out.1, fun o ho => ?_, fun j hj => ?_⟩
          · by_cases e : o = i
            · exact ⟨i, by subst e; rw [Array.getElem?_setIfInBounds_self_of_lt (by have := HZ2.out.1; omega)]⟩
            rw [Array.getElem?_setIfInBounds_ne (Ne.symm e)]
            exact HZ2.out.2 o ho
          · obtain rfl : j = 0 := by omega
            rw [Nat.sub_zero, hn.out, Array.getElem?_setIfInBounds_self_of_lt (by have := HZ2.out.1; have := hn.out; omega)]
            simp only [rk_begR, hn.out])
        clear d1 d2 d3 d4 d5
        go_wp2
        clear p1 fb yb HK
        go_loopw [9] (fun v9 W => ∃ k : Nat, k ≤ i ∧ v9 = .int .i64 ((i : Int) - 1 - k) ∧ Aside0 (rk_Rk2 A0 l c0 width gs gb gp w W k)) (fun v9 _ => ((intOf v9) + 1).toNat)
        case atStart => exact ⟨0, Nat.zero_le _, by simp, K0⟩
        case round =>
          clear K0
          rename_i wr0 wr
          obtain ⟨k, hk, rfl, HK⟩ := hrel
          obtain ⟨C1, D, d1, d2, d3, d4, d5, d6⟩ := HK.out
          have gbl := rk_x_lt d3
          have gpl := rk_x_lt d5
          by_cases hlt : k < i
          · obtain ⟨m, hm⟩ : ∃ m : Nat, k + 1 + m = i := ⟨i - (k + 1), by omega⟩
            have hmi : m < i := by omega
            have hm1 : (i : Int) - 1 - k = m := by omega
            have c82 : decide (0 ≤ (m : Int)) = true := by simp
            rw [hm1]
            obtain ⟨ad0, eA, x0, x1, x2, x3, x4, x5⟩ := at_T31 HR.out (m : Int) (by omega) (by have := hn.out; omega)
            rw [Int.toNat_natCast] at x0
            clear x1 x2 x3 x4 x5
            have nb : ad0.block ≠ gb := by have := rk_blk_of x0; have := Q.out; omega
            have nb' : gb ≠ ad0.block := Ne.symm nb
            replace x0 := pw_cell_below d6 x0
            have b0 := rk_blk_of x0
            subst eA
            have fb := rk_x_frozen wr gb m _ _ d3
            obtain ⟨zb, yb⟩ := d4.2.1 m (by have := hn.out; omega)
            have yb : wr.cell? ⟨gb, m, none⟩ = some (.int .i64 zb) := by rw [cell_of_row wr gb m _ 3 (0, 0) d3]; exact yb
            have sb := d4.2.2 k (Nat.le_refl _)
            rw [show l.length - k = m + 1 by have := hn.out; omega] at sb
            have sb : wr.cell? ⟨gb, m + 1, none⟩ = some (.int .i64 (rk_begR l k)) := by rw [cell_of_row wr gb (m + 1) _ 3 (0, 0) d3]; exact sb
            have t1 : ((m : Int) + 1).toNat = m + 1 := by omega
            have p1 : wr.cell? ⟨gp, 2, none⟩ = some (.slice (some ⟨gb, 0, none⟩) (i + 1) (i + 1)) := by rw [cell_of_row wr gp 2 _ 79 (0, 0) d5, ← hn.out]; rfl
            generalize hx : (rd_T31 l (m : Int)).f0 = kd_ at x0
            generalize hs : rk_begR l k = bk at sb
            have HX := Aside0.mk hx
            have HS := Aside0.mk hs
            have x9 : (wr.setCell ⟨gb, m, none⟩ (.int .i64 bk)).cell? (ad0.add (m * 6)) = some (.int .i64 kd_) := (World.cell?_of_block (w := wr) (Below.heap_setCell wr _ _ _ (by rw [add_block]; exact nb))).trans x0
            have y9 : (wr.setCell ⟨gb, m, none⟩ (.int .i64 bk)).cell? ⟨gb, m, none⟩ = some (.int .i64 bk) := by rw [cell_of_row _ gb m _ 3 (0, 0) (blk_set d3 _ _), Array.getElem?_setIfInBounds_self_of_lt (by have := d4.1; have := hn.out; omega)]
            have f9 : (wr.setCell ⟨gb, m, none⟩ (.int .i64 bk)).frozen? ⟨gb, m, none⟩ = false := rk_x_frozen _ gb m _ _ (blk_set d3 _ _)
            have p9 : (wr.setCell ⟨gb, m, none⟩ (.int .i64 bk)).cell? ⟨gp, 2, none⟩ = some (.slice (some ⟨gb, 0, none⟩) (i + 1) (i + 1)) := (World.cell?_of_block (w := wr) (Below.heap_setCell wr _ _ _ (show gp ≠ gb by have := Q.out; omega))).trans p1
            clear d1 d2 d3 d4 d5 d6 hx hs hm1
            go_wp2
            go_region
            all_goals go_wp2
            all_goals go_roundw
            all_goals first
              | (show Int.toNat _ < _; simp only [intOf]; omega)
              | exact ⟨k + 1, by omega, by congr 1; omega, Aside0.mk (rk_Rk2.step1 HK.out Q.out (by have := hn.out; omega) (by have := hn.out; omega) (by rw [rk_beg_succ HX.out HS.out (by have := hn.out; omega)]; simp_all))⟩
              | exact ⟨k + 1, by omega, by congr 1; omega, Aside0.mk (rk_Rk2.step2 HK.out Q.out (by have := hn.out; omega) (by have := hn.out; omega) (by rw [rk_beg_succ HX.out HS.out (by have := hn.out; omega)]; simp_all))⟩
          · obtain rfl : k = i := by omega
            have c82 : decide (0 ≤ (k : Int) - 1 - k) = false := by simp; omega
            clear d1 d2 d3 d4 d5 d6
            go_wp2
            go_ret
            exact ⟨gp, _, rfl, rk_Rk2.done (by rw [hn.out]; exact HK.out) Q.out (by have := hn.out; omega) HR.out⟩
end
theorem rk_z_get (z : Array Value) (n o : Nat) (h : o < n) : (Go.madeCells z n)[o]? = some (z[o % z.size]!) := by
  simp [Go.madeCells, h]
theorem rk_Z1_ok (l : List S31) : rk_SumsC l (Go.madeCells #[.int .i64 0, .int .i64 0, .int .i64 0] ((l.length + 1) * 3)) 0 := by
  have g : ∀ o, o < (l.length + 1) * 3 → (Go.madeCells #[.int .i64 0, .int .i64 0, .int .i64 0] ((l.length + 1) * 3))[o]? = some (.int .i64 0) := fun o ho => by
    rw [rk_z_get _ _ _ ho]
    have h3 : o % 3 < 3 := Nat.mod_lt _ (by decide)
    show some ((#[.int .i64 0, .int .i64 0, .int .i64 0] : Array Value)[o % 3]!) = _
    match o % 3, h3 with
    | 0, _ => rfl
    | 1, _ => rfl
    | 2, _ => rfl
  refine ⟨by simp [Go.size_madeCells], fun o ho => ⟨0, g o ho⟩, fun j hj => ?_⟩
  obtain rfl : j = 0 := by omega
  exact ⟨g _ (by omega), g _ (by omega), g _ (by omega)⟩
theorem rk_Z2_ok (n : Nat) : (Go.madeCells #[.int .i64 0] (n + 1)).size = n + 1 ∧ ∀ o, o < n + 1 → ∃ z, (Go.madeCells #[.int .i64 0] (n + 1))[o]? = some (.int .i64 z) := by
  refine ⟨by simp [Go.size_madeCells], fun o ho => ⟨0, ?_⟩⟩
  rw [rk_z_get _ _ _ ho]
  have : o % 1 = 0 := by omega
  show some ((#[.int .i64 0] : Array Value)[o % 1]!) = _
  rw [this]; rfl
theorem rk_r_make {e t : TypeId} {z : Value} {sz bytes : Nat} (hi : (Try.prog.info? e).map (fun i => (i.zero, i.size, i.bytes)) = some (some z, sz, bytes)) (ht : Try.prog.underlying t = some (.slice e)) (n : Nat) (hb : bytes * (n + 1) ≤ 281474976710656) (hn : n ≤ 9223372036854775800) (W : World) :
    (Instr.makeSlice t (.int .i64 ((n : Int) + 1)) (.int .i64 ((n : Int) + 1))).run Try.prog W = .ok (.slice (some ⟨W.heap.size, 0, none⟩) (n + 1) (n + 1)) (W.alloc (.cells (Go.madeCells z.cells ((n + 1) * sz)) e)) := by
  obtain ⟨i, h1, h2⟩ := Option.map_eq_some_iff.mp hi
  have hz : i.zero = some z := congrArg Prod.fst h2
  have hs : i.size = sz := congrArg (fun p => p.2.1) h2
  have hy : i.bytes = bytes := congrArg (fun p => p.2.2) h2
  have := run_make W t e i z ht h1 hz .i64 .i64 ((n : Int) + 1) ((n : Int) + 1) (by omega) (by omega) (by rw [hy, show ((n : Int) + 1) = ((n + 1 : Nat) : Int) from rfl, ← Int.natCast_mul]; exact Int.ofNat_le.mpr hb) (by omega)
  rw [hs, show ((n : Int) + 1).toNat = n + 1 by omega] at this
  exact this
set_option maxRecDepth 100000 in
theorem rk_reckoned_info81 : (Try.prog.info? 81).map (fun i => (i.zero, i.size, i.bytes)) = some (some (.agg #[.int .i64 0, .int .i64 0, .int .i64 0]), 3, 24) := by kernel_rfl
theorem rk_reckoned_calls (A0 : Option Addr) (c0 : Nat) (l : List S31) (width : Int) (w : World) (hr0 : Kd.C k31 w A0 l.length l) (hl : l.length ≤ 100000) :
    Calls Try.prog 28 #[.slice A0 l.length c0, .int .i64 width] w fun e w' => ∃ (g : Nat) (w0 : World), e = .returned (.pointer (some ⟨g, 0, none⟩)) ∧ IsS79 w0 w' g l (rk_sumsL l) (rk_begsL l) width ∧ Below w0.heap.size w0 w' ∧ Below w.heap.size w w' ∧ Below w.heap.size w w0 := by
  refine rk_walk A0 l l.length c0 ⟨rfl⟩ width _ _ (by omega) w ⟨hr0⟩ ⟨rk_Z1_ok l⟩ ⟨rk_Z2_ok l.length⟩ (fun W => ?_) (fun W => ?_)
  · exact rk_r_make rk_reckoned_info81 Try.underlying77 l.length (by omega) (by omega) W
  · have := rk_r_make info3 Try.underlying24 l.length (by omega) (by omega) W
    rw [Nat.mul_one] at this
    exact this

def optimal_reckoned.f (l0 : List S31) (a1 : Int) : Option (List S31 × List S81 × List Int × Int) := if l0.length ≤ 100000 then some (l0, rk_sumsL l0, rk_begsL l0, a1) else none
/-- A state whose slices' cells were made ahead of it, behind w. -/
def IsT79 (w W : World) (g : Nat) (f0 : List S31) (f1 : List S81) (f2 : List Int) (f3 : Int) : Prop := ∃ w0, Below w.heap.size w w0 ∧ Below w0.heap.size w0 W ∧ IsS79 w0 W g f0 f1 f2 f3
section
variable {w W : World} {g : Nat} {f0 : List S31} {f1 : List S81} {f2 : List Int} {f3 : Int}
theorem IsT79.below {W1 : World} (h : IsT79 w W g f0 f1 f2 f3) (hw : Below W.heap.size W W1) : IsT79 w W1 g f0 f1 f2 f3 := by
  obtain ⟨w0, h1, h2, h3⟩ := h
  exact ⟨w0, h1, below_step h2 hw, h3.below hw⟩
theorem IsT79.alloc (h : IsT79 w W g f0 f1 f2 f3) (o : Obj) : IsT79 w (W.alloc o) g f0 f1 f2 f3 := h.below (below_alloc (Below.refl _ _) o)
theorem IsT79.drewN (h : IsT79 w W g f0 f1 f2 f3) (m : Nat) : IsT79 w (W.drewN m) g f0 f1 f2 f3 := h.below (pw_below_drewN (Below.refl _ _) m)
theorem IsT79.drew (h : IsT79 w W g f0 f1 f2 f3) : IsT79 w W.drew g f0 f1 f2 f3 := h.below (below_drew (Below.refl _ _))
theorem IsT79.lt (h : IsT79 w W g f0 f1 f2 f3) : g < W.heap.size := h.choose_spec.2.2.lt
theorem IsT79.ge (h : IsT79 w W g f0 f1 f2 f3) : w.heap.size ≤ g := by
  obtain ⟨w0, h1, h2, h3⟩ := h
  exact Nat.le_trans h1.size h3.ge
theorem IsT79.set_3 (h : IsT79 w W g f0 f1 f2 f3) (x : Int) : IsT79 w (W.setCell ⟨g, 3, none⟩ (.int .i64 x)) g f0 f1 f2 x := by
  obtain ⟨w0, h1, h2, h3⟩ := h
  exact ⟨w0, h1, below_set h2 h3.ge, h3.set_3 x⟩
theorem IsT79.ne_blk {a : Nat} {cs : Array Value} {t : TypeId} {fr : Nat × Nat} (h : IsT79 w W g f0 f1 f2 f3) (hb2 : W.heap[a]? = some (.cells cs t fr)) (ht : t ≠ 79) : g ≠ a := by
  obtain ⟨w0, h1, h2, h3⟩ := h
  exact h3.ne_blk hb2 ht
theorem IsT79.own_ne {α : Type} {d : Kd α} {e : Nat} {base : Nat} {ok : Nat → Prop} {v : Value} {xs : List α} (h : IsT79 w W g f0 f1 f2 f3) (ho : d.R e W base ok v xs) (ht : e ≠ 79) : some g ≠ v.ownBlock := by
  obtain ⟨w0, h1, h2, h3⟩ := h
  exact h3.own_ne ho ht
theorem IsT79.apart {α : Type} {d : Kd α} {e : Nat} {base : Nat} {ok : Nat → Prop} {v : Value} {xs : List α} (h : IsT79 w W g f0 f1 f2 f3) (ho : d.R e W base ok v xs) (ht : ∀ q, q ∈ e :: d.E → q ≠ 79) : d.R e W base (fun k => ok k ∧ k ≠ g) v xs := by
  obtain ⟨w0, h1, h2, h3⟩ := h
  exact h3.apart ho ht
end
theorem optimal_reckoned.calls (A0 : Option Addr) (c0 : Nat) (l0 : List S31) (a1 : Int) (r1 : List S31) (r2 : List S81) (r3 : List Int) (r4 : Int) (w0 w : World) (hB : Below w0.heap.size w0 w) (hr0 : Kd.C k31 w0 A0 l0.length l0) (hc0 : l0.length ≤ c0) (h : optimal_reckoned.f l0 a1 = some (r1, r2, r3, r4)) :
    Calls Try.prog 28 #[.slice A0 l0.length c0, .int .i64 a1] w fun e w' => ∃ g, e = .returned (.pointer (some ⟨g, 0, none⟩)) ∧ IsT79 w0 w' g r1 r2 r3 r4 ∧ Below w0.heap.size w0 w' ∧ Below w.heap.size w w' := by
  unfold optimal_reckoned.f at h
  split at h
  · rename_i hl
    cases h
    refine (rk_reckoned_calls A0 c0 l0 a1 w (Kd.C_below hr0 hB) hl).mono ?_
    rintro e w' ⟨g, w1, rfl, h1, h2, h3, h4⟩
    exact ⟨g, rfl, ⟨w1, below_step hB h4, h2, h1⟩, below_step hB h3, h3⟩
  · cases h
theorem optimal_paragraph_fit.callsT (k : Nat) (g : Nat) (s0_0 : List (S31)) (s0_1 : List (S81)) (s0_2 : List Int) (s0_3 : Int) (a1 : Int) (a2 : Int) (r1 : Int) (r2 : Int) (r3 : Bool) (r4 : Int) (w0 w : World) (hI : IsT79 w0 w g s0_0 s0_1 s0_2 s0_3) (hB : Below w0.heap.size w0 w) (h : optimal_paragraph_fit.f k s0_0 s0_1 s0_2 s0_3 a1 a2 = some (r1, r2, r3, r4)) :
    Calls Try.prog 40 #[.pointer (some ⟨g, 0, none⟩), .int .i64 a1, .int .i64 a2] w fun e w' => e = .returned (.tuple #[.agg #[.int .i64 r1, .int .i64 r2], .bool r3]) ∧ IsT79 w0 w' g s0_0 s0_1 s0_2 r4 ∧ Below w0.heap.size w0 w' ∧ KeepBut w w' g none := by
  obtain ⟨x, h1, h2, h3⟩ := hI
  refine (optimal_paragraph_fit.calls k g _ _ _ _ a1 a2 r1 r2 r3 r4 x w h3 h2 h).mono ?_
  rintro e w' ⟨he, hi, hb, hk⟩
  exact ⟨he, ⟨x, h1, hb, hi⟩, below_step h1 hb, hk⟩

end Go.Proofs.Ytfbanppdiglciaa.Y
