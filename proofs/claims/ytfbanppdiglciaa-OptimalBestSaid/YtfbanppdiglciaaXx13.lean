import Derived.Test.YtfbanppdiglciaaXx0
import Derived.Test.YtfbanppdiglciaaXx3
import Derived.Test.YtfbanppdiglciaaXx5
import Derived.Test.YtfbanppdiglciaaXx7
import Derived.Test.YtfbanppdiglciaaXx11
import Derived.Test.YtfbanppdiglciaaXx12
namespace Go.Proofs.Ytfbanppdiglciaa.X
open Go.RowKit Go.Proofs.YtfbanppdiglciaaW.PrintWords Go.Proofs.YtfbanppdiglciaaW.PrintLast Go.Proofs.YtfbanppdiglciaaW.PrintMore
attribute [local go_sem] jw jv jJ jI jf je jA jC
set_option linter.unusedVariables false
set_option linter.unusedSimpArgs false
theorem Je {w : World} {a : Addr} {n : Nat} {v : Value} (h : w.cell? (a.add n) = some v) : a.block < w.heap.size := by
  have := World.block_lt_of_cell? w _ h
  rwa [add_block] at this
theorem J9 (a : Addr) (n : Nat) : (a.add n).block = a.block := by unfold Addr.add; split <;> rfl
theorem JU (w : World) (o : Obj) (a : Addr) (h : a.block < w.heap.size) : (w.alloc o).cell? a = w.cell? a := World.cell?_alloc_lt w o a h
def Qb (l : List S31) : Nat → S81
  | 0 => ⟨0, 0, 0⟩
  | j + 1 => let s := Qb l j; let x := l.getD j z31
    ⟨if x.f0 = 3 then s.f0 else wrap64 (s.f0 + x.f1), if x.f0 = 2 then wrap64 (s.f1 + x.f2) else s.f1, if x.f0 = 2 then wrap64 (s.f2 + x.f3) else s.f2⟩
def Zb (l : List S31) (C : Array Value) (i : Nat) : Prop := C.size = (l.length + 1) * 3 ∧ (∀ o, o < (l.length + 1) * 3 → ∃ z, C[o]? = some (.int .i64 z)) ∧
  ∀ j, j ≤ i → C[j * 3]? = some (.int .i64 (Qb l j).f0) ∧ C[j * 3 + 1]? = some (.int .i64 (Qb l j).f1) ∧ C[j * 3 + 2]? = some (.int .i64 (Qb l j).f2)
def ZV (A0 : Option Addr) (l : List S31) (c0 : Nat) (width : Int) (Z2 : Array Value) (gs gb gp : Nat) (w W : World) (i : Nat) : Prop :=
  ∃ C, W.heap[gs]? = some (.cells C 81 (0, 0)) ∧ Zb l C i ∧ W.heap[gb]? = some (.cells Z2 3 (0, 0)) ∧ W.heap[gp]? = some (.cells #[.slice A0 l.length c0, .slice (some ⟨gs, 0, none⟩) (l.length + 1) (l.length + 1), .slice (some ⟨gb, 0, none⟩) (l.length + 1) (l.length + 1), .int .i64 width] 79 (0, 0)) ∧ Below w.heap.size w W
theorem Q0 {w : World} {g : Nat} {o : Obj} (h : w.heap[g]? = some o) : g < w.heap.size := by
  rcases Nat.lt_or_ge g w.heap.size with c | c
  · exact c
  · rw [Array.getElem?_eq_none c] at h; cases h
def rk_Rk0 (A0 : Option Addr) (n c0 : Nat) (width : Int) (Z1 Z2 : Array Value) (w W : World) (gs gb gp : Nat) : Prop :=
  W.heap[gs]? = some (.cells Z1 81 (0, 0)) ∧ W.heap[gb]? = some (.cells Z2 3 (0, 0)) ∧ W.heap[gp]? = some (.cells #[.slice A0 n c0, .slice (some ⟨gs, 0, none⟩) (n + 1) (n + 1), .slice (some ⟨gb, 0, none⟩) (n + 1) (n + 1), .int .i64 width] 79 (0, 0)) ∧
    gs < gp ∧ gb < gp ∧ gs ≠ gb ∧ w.heap.size ≤ gs ∧ w.heap.size ≤ gb ∧ Below w.heap.size w W
theorem Zc (w : World) (o : Obj) (g : Nat) (h : g = w.heap.size) : (w.alloc o).heap[g]? = some o := by subst h; exact heap_alloc_new w o
theorem Qm (w : World) (o o' : Obj) (g : Nat) (h : w.heap[g]? = some o') : (w.alloc o).heap[g]? = some o' := by
  have : g < w.heap.size := by
    rcases Nat.lt_or_ge g w.heap.size with c | c
    · exact c
    · rw [Array.getElem?_eq_none c] at h; cases h
  exact (Below.heap_alloc w o g this).trans h
theorem Jt (w : World) (o : Obj) (a : Addr) (h : a.block < w.heap.size) : (w.alloc o).frozen? a = w.frozen? a := by
  simp only [World.frozen?]; rw [Below.heap_alloc w o a.block h]
theorem QL (w : World) (g j : Nat) (cs : Array Value) (t : TypeId) (h : w.heap[g]? = some (.cells cs t (0, 0))) : w.frozen? ⟨g, j, none⟩ = false := by
  simp [World.frozen?, h]
theorem rk_x_C81_put {l : List S31} {C : Array Value} {i : Nat} {a b c : Int} (h : Zb l C i) (hi : i < l.length) (hv : Qb l (i + 1) = ⟨a, b, c⟩) :
    Zb l (((C.setIfInBounds ((i + 1) * 3) (.int .i64 a)).setIfInBounds ((i + 1) * 3 + 1) (.int .i64 b)).setIfInBounds ((i + 1) * 3 + 2) (.int .i64 c)) (i + 1) := by
  obtain ⟨h1, h2, h3⟩ := h
  refine ⟨by simpa using h1, fun o ho => ?_, fun j hj => ?_⟩
  · by_cases e2 : o = (i + 1) * 3 + 2
    · exact ⟨c, by subst e2; rw [Array.getElem?_setIfInBounds_self_of_lt (by simp; omega)]⟩
    rw [Array.getElem?_setIfInBounds_ne (Ne.symm e2)]
    by_cases e1 : o = (i + 1) * 3 + 1
    · exact ⟨b, by subst e1; rw [Array.getElem?_setIfInBounds_self_of_lt (by simp; omega)]⟩
    rw [Array.getElem?_setIfInBounds_ne (Ne.symm e1)]
    by_cases e0 : o = (i + 1) * 3
    · exact ⟨a, by subst e0; rw [Array.getElem?_setIfInBounds_self_of_lt (by omega)]⟩
    rw [Array.getElem?_setIfInBounds_ne (Ne.symm e0)]
    exact h2 o ho
  · by_cases e : j = i + 1
    · subst e
      rw [hv]
      refine ⟨?_, ?_, ?_⟩
      · rw [Array.getElem?_setIfInBounds_ne (by omega), Array.getElem?_setIfInBounds_ne (by omega), Array.getElem?_setIfInBounds_self_of_lt (by omega)]
      · rw [Array.getElem?_setIfInBounds_ne (by omega), Array.getElem?_setIfInBounds_self_of_lt (by simp; omega)]
      · rw [Array.getElem?_setIfInBounds_self_of_lt (by simp; omega)]
    · obtain ⟨g1, g2, g3⟩ := h3 j (by omega)
      refine ⟨?_, ?_, ?_⟩
      · rw [Array.getElem?_setIfInBounds_ne (by omega), Array.getElem?_setIfInBounds_ne (by omega), Array.getElem?_setIfInBounds_ne (by omega)]; exact g1
      · rw [Array.getElem?_setIfInBounds_ne (by omega), Array.getElem?_setIfInBounds_ne (by omega), Array.getElem?_setIfInBounds_ne (by omega)]; exact g2
      · rw [Array.getElem?_setIfInBounds_ne (by omega), Array.getElem?_setIfInBounds_ne (by omega), Array.getElem?_setIfInBounds_ne (by omega)]; exact g3
theorem ZV.step {A0 : Option Addr} {l : List S31} {c0 : Nat} {width : Int} {Z2 : Array Value} {gs gb gp : Nat} {w W : World} {i : Nat} {a b c : Int} (o1 o2 : Obj) (h : ZV A0 l c0 width Z2 gs gb gp w W i)
    (Q : gs < gp ∧ gb < gp ∧ gs ≠ gb ∧ w.heap.size ≤ gs ∧ w.heap.size ≤ gb) (hi : i < l.length) (hv : Qb l (i + 1) = ⟨a, b, c⟩) :
    ZV A0 l c0 width Z2 gs gb gp w (((((W.setCell ⟨gs, (i + 1) * 3, none⟩ (.int .i64 a)).setCell ⟨gs, (i + 1) * 3 + 1, none⟩ (.int .i64 b)).setCell ⟨gs, (i + 1) * 3 + 2, none⟩ (.int .i64 c)).alloc o1).alloc o2).drew (i + 1) := by
  obtain ⟨C, h1, h2, h3, h4, h5⟩ := h
  obtain ⟨q1, q2, q3, q4, q5⟩ := Q
  refine ⟨_, ?_, rk_x_C81_put h2 hi hv, ?_, ?_, ?_⟩
  · exact Qm _ _ _ _ (Qm _ _ _ _ (Qy (Qy (Qy h1 _ _) _ _) _ _))
  · exact Qm _ _ _ _ (Qm _ _ _ _ (zF (zF (zF h3 (show gb ≠ gs by omega) _) (show gb ≠ gs by omega) _) (show gb ≠ gs by omega) _))
  · exact Qm _ _ _ _ (Qm _ _ _ _ (zF (zF (zF h4 (show gp ≠ gs by omega) _) (show gp ≠ gs by omega) _) (show gp ≠ gs by omega) _))
  · exact Qq (qA (qA (qm (qm (qm h5 q4) q4) q4) _) _)
theorem rk_rd_succ {l : List S31} {i : Nat} {x : S31} {s : S81} (hx : qc l (i : Int) = x) (hs : Qb l i = s) : Qb l (i + 1) = ⟨if x.f0 = 3 then s.f0 else wrap64 (s.f0 + x.f1), if x.f0 = 2 then wrap64 (s.f1 + x.f2) else s.f1, if x.f0 = 2 then wrap64 (s.f2 + x.f3) else s.f2⟩ := by
  subst hx hs
  simp only [Qb, qc, Int.toNat_natCast]
  rfl
def Qj (l : List S31) : Nat → Int
  | 0 => l.length
  | k + 1 => if (l.getD (l.length - (k + 1)) z31).f0 = 1 then ((l.length - (k + 1) : Nat) : Int) else Qj l k
def Jl (l : List S31) (D : Array Value) (k : Nat) : Prop := D.size = l.length + 1 ∧ (∀ o, o < l.length + 1 → ∃ z, D[o]? = some (.int .i64 z)) ∧ ∀ j, j ≤ k → D[l.length - j]? = some (.int .i64 (Qj l j))
def QH (A0 : Option Addr) (l : List S31) (c0 : Nat) (width : Int) (gs gb gp : Nat) (w W : World) (k : Nat) : Prop :=
  ∃ C D, W.heap[gs]? = some (.cells C 81 (0, 0)) ∧ Zb l C l.length ∧ W.heap[gb]? = some (.cells D 3 (0, 0)) ∧ Jl l D k ∧ W.heap[gp]? = some (.cells #[.slice A0 l.length c0, .slice (some ⟨gs, 0, none⟩) (l.length + 1) (l.length + 1), .slice (some ⟨gb, 0, none⟩) (l.length + 1) (l.length + 1), .int .i64 width] 79 (0, 0)) ∧ Below w.heap.size w W
theorem Jl.put {l : List S31} {D : Array Value} {k : Nat} {a : Int} (h : Jl l D k) (hk : k < l.length) (hv : Qj l (k + 1) = a) : Jl l (D.setIfInBounds (l.length - (k + 1)) (.int .i64 a)) (k + 1) := by
  obtain ⟨h1, h2, h3⟩ := h
  refine ⟨by simpa using h1, fun o ho => ?_, fun j hj => ?_⟩
  · by_cases e : o = l.length - (k + 1)
    · exact ⟨a, by subst e; rw [Array.getElem?_setIfInBounds_self_of_lt (by omega)]⟩
    rw [Array.getElem?_setIfInBounds_ne (Ne.symm e)]
    exact h2 o ho
  · by_cases e : j = k + 1
    · subst e; rw [hv, Array.getElem?_setIfInBounds_self_of_lt (by omega)]
    · rw [Array.getElem?_setIfInBounds_ne (by omega)]; exact h3 j (by omega)
theorem rk_x_put2 (D : Array Value) (i : Nat) (u v : Value) : (D.setIfInBounds i u).setIfInBounds i v = D.setIfInBounds i v := by
  apply Array.ext_getElem?
  intro j
  by_cases e : i = j
  · subst e
    by_cases h : i < D.size
    · rw [Array.getElem?_setIfInBounds_self_of_lt (by simpa using h), Array.getElem?_setIfInBounds_self_of_lt h]
    · simp [Array.getElem?_eq_none (Nat.le_of_not_lt h), h]
  · rw [Array.getElem?_setIfInBounds_ne e, Array.getElem?_setIfInBounds_ne e, Array.getElem?_setIfInBounds_ne e]
def zQ (l : List S31) : List S81 := (List.range (l.length + 1)).map (Qb l)
def zP (l : List S31) : List Int := (List.range (l.length + 1)).map (fun i => Qj l (l.length - i))
def Qh (W : World) (n : Nat) : World := { W with heap := W.heap.extract 0 n }
theorem Zg (W : World) (n g : Nat) (h : g < n) : (Qh W n).heap[g]? = W.heap[g]? := by
  simp only [Qh, Array.getElem?_extract]
  split
  · simp
  · rename_i c; rw [Array.getElem?_eq_none (by omega)]
theorem rk_cut_below {W : World} {n : Nat} (hn : n ≤ W.heap.size) : Below (Qh W n).heap.size (Qh W n) W := by
  have e : (Qh W n).heap.size = n := by simp [Qh]; omega
  refine ⟨rfl, rfl, rfl, by omega, fun k hk => ?_⟩
  rw [Zg W n k (by omega)]
theorem rk_below_cut {w W : World} {n : Nat} (h : Below w.heap.size w W) (hw : w.heap.size ≤ n) (hn : n ≤ W.heap.size) : Below w.heap.size w (Qh W n) := by
  have e : (Qh W n).heap.size = n := by simp [Qh]; omega
  refine ⟨h.os, h.tape, h.output, by omega, fun k hk => ?_⟩
  rw [Zg W n k (by omega)]
  exact h.block k hk
theorem Zr {α : Type} (f : Nat → α) (n j : Nat) (p : α) (h : ((List.range n).map f)[j]? = some p) : j < n ∧ p = f j := by
  rw [List.getElem?_map] at h
  by_cases c : j < n
  · rw [List.getElem?_range c] at h
    exact ⟨c, by simpa using h.symm⟩
  · rw [List.getElem?_eq_none (by simp; omega)] at h; cases h
theorem QH.done {A0 : Option Addr} {l : List S31} {c0 : Nat} {width : Int} {gs gb gp : Nat} {w W : World} (h : QH A0 l c0 width gs gb gp w W l.length)
    (Q : gs < gp ∧ gb < gp ∧ gs ≠ gb ∧ w.heap.size ≤ gs ∧ w.heap.size ≤ gb) (hm : l.length ≤ 9223372036854775800) (hc : Kd.C k31 w A0 l.length l) : qb (Qh W gp) W gp l (zQ l) (zP l) width ∧ Below (Qh W gp).heap.size (Qh W gp) W ∧ Below w.heap.size w W ∧ Below w.heap.size w (Qh W gp) := by
  obtain ⟨C, D, h1, h2, h3, h4, h5, h6⟩ := h
  obtain ⟨q1, q2, q3, q4, q5⟩ := Q
  have hgp := Q0 h5
  have hb := rk_below_cut h6 (show w.heap.size ≤ gp by omega) (Nat.le_of_lt hgp)
  refine ⟨⟨A0, c0, some ⟨gs, 0, none⟩, l.length + 1, some ⟨gb, 0, none⟩, l.length + 1, ?_, ?_, Kd.zS hc hb, ?_, ?_⟩, rk_cut_below (Nat.le_of_lt hgp), h6, hb⟩
  · rw [h5]; simp [zQ, zP]
  · simp [Qh]; omega
  · refine ⟨rfl, by simp [zQ]; omega, fun _ => ⟨_, rfl, fun j p hp => ?_⟩⟩
    obtain ⟨hj, rfl⟩ := Zr _ _ _ _ hp
    refine ⟨_, rfl, k81_mk _ _, fun i u hu => ?_⟩
    obtain ⟨s0, s1, s2⟩ := h2.2.2 j (by omega)
    have cs : ∀ o u, C[o]? = some u → (Qh W gp).cell? ⟨gs, o, none⟩ = some u := fun o u ho => by
      rw [cell_of_row (Qh W gp) gs o _ 81 (0, 0) ((Zg W gp gs q1).trans h1)]; exact ho
    have e : (Addr.add ⟨gs, 0, none⟩ (j * 3 + i)) = ⟨gs, j * 3 + i, none⟩ := by simp [Addr.add]; omega
    show (Qh W gp).cell? (Addr.add ⟨gs, 0, none⟩ (j * 3 + i)) = some u
    rw [e]
    match i, hu with
    | 0, hu => cases hu; exact cs _ _ s0
    | 1, hu => cases hu; exact cs _ _ s1
    | 2, hu => cases hu; exact cs _ _ s2
    | i + 3, hu => cases hu
  · refine ⟨rfl, by simp [zP]; omega, fun _ => ⟨_, rfl, fun j p hp => ?_⟩⟩
    obtain ⟨hj, rfl⟩ := Zr _ _ _ _ hp
    refine ⟨[.int .i64 (Qj l (l.length - j))], rfl, rfl, fun i u hu => ?_⟩
    have s0 := h4.2.2 (l.length - j) (by omega)
    rw [show l.length - (l.length - j) = j by omega] at s0
    have e : (Addr.add ⟨gb, 0, none⟩ (j * 1 + i)) = ⟨gb, j * 1 + i, none⟩ := by simp [Addr.add]; omega
    show (Qh W gp).cell? (Addr.add ⟨gb, 0, none⟩ (j * 1 + i)) = some u
    rw [e]
    match i, hu with
    | 0, hu =>
      cases hu
      rw [cell_of_row (Qh W gp) gb _ _ 3 (0, 0) ((Zg W gp gb q2).trans h3), Nat.mul_one, Nat.add_zero]; exact s0
    | i + 1, hu => cases hu
theorem Jv {l : List S31} {m k : Nat} {kd bk : Int} (hx : (qc l (m : Int)).f0 = kd) (hs : Qj l k = bk) (h : k + 1 + m = l.length) : Qj l (k + 1) = if kd = 1 then (m : Int) else bk := by
  subst hx hs
  have e : l.length - (k + 1) = m := by omega
  simp only [Qj, qc, Int.toNat_natCast, e]
  rfl
theorem QH.step1 {A0 : Option Addr} {l : List S31} {c0 : Nat} {width : Int} {gs gb gp : Nat} {w W : World} {k m : Nat} {a : Int} (h : QH A0 l c0 width gs gb gp w W k)
    (Q : gs < gp ∧ gb < gp ∧ gs ≠ gb ∧ w.heap.size ≤ gs ∧ w.heap.size ≤ gb) (hi : k < l.length) (hm : k + 1 + m = l.length) (hv : Qj l (k + 1) = a) :
    QH A0 l c0 width gs gb gp w (W.setCell ⟨gb, m, none⟩ (.int .i64 a)).drew (k + 1) := by
  obtain ⟨C, D, h1, h2, h3, h4, h5, h6⟩ := h
  obtain ⟨q1, q2, q3, q4, q5⟩ := Q
  have e : m = l.length - (k + 1) := by omega
  subst e
  exact ⟨C, _, zF h1 (show gs ≠ gb from q3) _, h2, Qy h3 _ _, h4.put hi hv, zF h5 (show gp ≠ gb by omega) _, Qq (qm h6 q5)⟩
theorem QH.step2 {A0 : Option Addr} {l : List S31} {c0 : Nat} {width : Int} {gs gb gp : Nat} {w W : World} {k m : Nat} {a : Int} {v : Value} (h : QH A0 l c0 width gs gb gp w W k)
    (Q : gs < gp ∧ gb < gp ∧ gs ≠ gb ∧ w.heap.size ≤ gs ∧ w.heap.size ≤ gb) (hi : k < l.length) (hm : k + 1 + m = l.length) (hv : Qj l (k + 1) = a) :
    QH A0 l c0 width gs gb gp w ((W.setCell ⟨gb, m, none⟩ v).setCell ⟨gb, m, none⟩ (.int .i64 a)).drew (k + 1) := by
  obtain ⟨C, D, h1, h2, h3, h4, h5, h6⟩ := h
  obtain ⟨q1, q2, q3, q4, q5⟩ := Q
  have e : m = l.length - (k + 1) := by omega
  subst e
  refine ⟨C, _, zF (zF h1 (show gs ≠ gb from q3) _) (show gs ≠ gb from q3) _, h2, Qy (Qy h3 _ _) _ _, ?_, zF (zF h5 (show gp ≠ gb by omega) _) (show gp ≠ gb by omega) _, Qq (qm (qm h6 q5) q5)⟩
  rw [rk_x_put2]
  exact h4.put hi hv
section
attribute [local go_sem] J9 JU Jt
set_option maxHeartbeats 8000000 in
set_option maxRecDepth 100000 in
theorem rk_walk (A0 : Option Addr) (l : List S31) (n c0 : Nat) (hn : qa (l.length = n)) (width : Int) (Z1 Z2 : Array Value) (n0 : n ≤ 9223372036854775800) (w : World) (HR : qa (Kd.C k31 w A0 l.length l)) (HZ1 : qa (Zb l Z1 0)) (HZ2 : qa (Z2.size = l.length + 1 ∧ ∀ o, o < l.length + 1 → ∃ z, Z2[o]? = some (.int .i64 z)))
   (hmk1 : ∀ W, (Instr.makeSlice 77 (.int .i64 ((n : Int) + 1)) (.int .i64 ((n : Int) + 1))).run Try.prog W = .ok (.slice (some ⟨W.heap.size, 0, none⟩) (n + 1) (n + 1)) (W.alloc (.cells Z1 81)))
   (hmk2 : ∀ W, (Instr.makeSlice 24 (.int .i64 ((n : Int) + 1)) (.int .i64 ((n : Int) + 1))).run Try.prog W = .ok (.slice (some ⟨W.heap.size, 0, none⟩) (n + 1) (n + 1)) (W.alloc (.cells Z2 3))) :
    Calls Try.prog 28 #[.slice A0 n c0, .int .i64 width] w fun e w' => ∃ (g : Nat) (w0 : World), e = .returned (.pointer (some ⟨g, 0, none⟩)) ∧ qb w0 w' g l (zQ l) (zP l) width ∧ Below w0.heap.size w0 w' ∧ Below w.heap.size w w' ∧ Below w.heap.size w w0 := by
  have hu81 := Try.underlying81
  have hu79 := Try.underlying79
  have hu31 := Try.underlying31
  go_enter Try.func28, Try.ntmps28
  go_upto_region 1 with (fail)
  go_cut [5] (fun v5 W => ∃ gs gb gp : Nat, v5 = .pointer (some ⟨gp, 0, none⟩) ∧ rk_Rk0 A0 n c0 width Z1 Z2 w W gs gb gp)
  case first =>
    go_region
    · go_wp2
      go_meet
      case rel =>
        refine ⟨w.heap.size, w.heap.size + 1, w.heap.size + 1 + 1, rfl, ?_, ?_, ?_, by omega, by omega, by omega, by omega, by omega, by repeat (first | exact Below.refl _ _ | apply qA | apply qC)⟩
        · exact Qm _ _ _ _ (Qm _ _ _ _ (Zc _ _ _ rfl))
        · exact Qm _ _ _ _ (Zc _ _ _ (by simp))
        · exact Zc _ _ _ (by simp)
    · go_wp2
      go_meet
      case rel =>
        refine ⟨w.heap.size + 1, w.heap.size, w.heap.size + 1 + 1, rfl, ?_, ?_, ?_, by omega, by omega, by omega, by omega, by omega, by repeat (first | exact Below.refl _ _ | apply qA | apply qC)⟩
        · exact Qm _ _ _ _ (Zc _ _ _ (by simp))
        · exact Qm _ _ _ _ (Qm _ _ _ _ (Zc _ _ _ rfl))
        · exact Zc _ _ _ (by simp)
  case rest =>
    clear hmk1 hmk2
    obtain ⟨gs, gb, gp, rfl, R⟩ := hcut
    obtain ⟨r1, r2, r3, r4, r5, r6, r7, r8, r9⟩ := R
    have R1 := qa.mk (show ZV A0 l c0 width Z2 gs gb gp w wc 0 from ⟨Z1, r1, HZ1.out, r2, by rw [hn.out]; exact r3, r9⟩)
    have Q := qa.mk (show gs < gp ∧ gb < gp ∧ gs ≠ gb ∧ w.heap.size ≤ gs ∧ w.heap.size ≤ gb from ⟨r4, r5, r6, r7, r8⟩)
    clear r1 r2 r3 r4 r5 r6 r7 r8 r9
    go_wp2
    go_loopw [24] (fun v24 W => ∃ i : Nat, i ≤ n ∧ v24 = .int .i64 i ∧ qa (ZV A0 l c0 width Z2 gs gb gp w W i)) (fun v24 _ => n - (intOf v24).toNat)
    case atStart => exact ⟨0, Nat.zero_le _, rfl, R1⟩
    case round =>
      obtain ⟨i, hi, rfl, HK⟩ := hrel
      by_cases hlt : i < n
      · obtain ⟨C, d1, d2, d3, d4, d5⟩ := HK.out
        obtain ⟨ad0, eA, x0, x1, x2, x3, x4, x5⟩ := zt HR.out (i : Int) (by omega) (by have := hn.out; omega)
        rw [Int.toNat_natCast] at x0 x1 x2 x3 x4 x5
        rw [add_block] at x1 x2 x3 x4 x5
        replace x0 := zA d5 x0
        replace x1 := zA d5 x1
        replace x2 := zA d5 x2
        replace x3 := zA d5 x3
        replace x4 := zA d5 x4
        replace x5 := zA d5 x5
        have b0 := Je x0
        subst eA
        obtain ⟨s0, s1, s2⟩ := d2.2.2 i (Nat.le_refl _)
        have cs : ∀ j u, C[j]? = some u → wr.cell? ⟨gs, j, none⟩ = some u := fun j u hu => by rw [cell_of_row wr gs j _ 81 (0, 0) d1]; exact hu
        replace s0 := cs _ _ s0
        replace s1 := cs _ _ s1
        replace s2 := cs _ _ s2
        have gsl := Q0 d1
        obtain ⟨z0, y0⟩ := d2.2.1 ((i + 1) * 3) (by have := hn.out; omega)
        obtain ⟨z1, y1⟩ := d2.2.1 ((i + 1) * 3 + 1) (by have := hn.out; omega)
        obtain ⟨z2, y2⟩ := d2.2.1 ((i + 1) * 3 + 2) (by have := hn.out; omega)
        replace y0 := cs _ _ y0
        replace y1 := cs _ _ y1
        replace y2 := cs _ _ y2
        have f0 := QL wr gs ((i + 1) * 3) _ _ d1
        have f1 := QL wr gs ((i + 1) * 3 + 1) _ _ d1
        have f2 := QL wr gs ((i + 1) * 3 + 2) _ _ d1
        have t1 : ((i : Int) + 1).toNat = i + 1 := by omega
        have gs1 : gs < wr.heap.size + 1 := by omega
        have gs2 : gs < wr.heap.size + 1 + 1 := by omega
        have gp1 : gp < wr.heap.size + 1 := by have := Q0 d4; omega
        have gp2 : gp < wr.heap.size + 1 + 1 := by omega
        have b1 : ad0.block < wr.heap.size + 1 := by omega
        have gpl := Q0 d4
        have p1 : wr.cell? ⟨gp, 1, none⟩ = some (.slice (some ⟨gs, 0, none⟩) (n + 1) (n + 1)) := by rw [cell_of_row wr gp 1 _ 79 (0, 0) d4, ← hn.out]; rfl
        generalize hx : qc l (i : Int) = X at x0 x1 x2 x3 x4 x5
        generalize hs : Qb l i = S at s0 s1 s2
        obtain ⟨kd_, wd_, st_, sh_, pe_, fl_⟩ := X
        obtain ⟨sa, sb, sc⟩ := S
        simp only at x0 x1 x2 x3 x4 x5 s0 s1 s2
        have HX := qa.mk hx
        have HS := qa.mk hs
        clear hx hs d1 d2 d3 d4 d5 cs
        go_wp2
        all_goals go_region
        all_goals go_wp2
        all_goals go_roundw
        all_goals first
          | (show _ < _; simp only [intOf]; omega)
          | exact ⟨i + 1, by omega, by push_cast; rfl, qa.mk (ZV.step _ _ HK.out Q.out (by have := hn.out; omega) (by rw [rk_rd_succ HX.out HS.out]; simp_all))⟩
      · obtain rfl : i = n := by omega
        obtain ⟨C, d1, d2, d3, d4, d5⟩ := HK.out
        have gbl := Q0 d3
        have gpl := Q0 d4
        have fb := QL wr gb i _ _ d3
        obtain ⟨zb, yb⟩ := HZ2.out.2 i (by have := hn.out; omega)
        have yb : wr.cell? ⟨gb, i, none⟩ = some (.int .i64 zb) := by rw [cell_of_row wr gb i _ 3 (0, 0) d3]; exact yb
        have p1 : wr.cell? ⟨gp, 2, none⟩ = some (.slice (some ⟨gb, 0, none⟩) (i + 1) (i + 1)) := by rw [cell_of_row wr gp 2 _ 79 (0, 0) d4, ← hn.out]; rfl
        have K0 := qa.mk (show QH A0 l c0 width gs gb gp w (wr.setCell ⟨gb, i, none⟩ (.int .i64 i)) 0 from by
          obtain ⟨q1, q2, q3, q4, q5⟩ := Q.out
          refine ⟨C, Z2.setIfInBounds i (.int .i64 i), zF d1 (show gs ≠ gb from q3) _, by rw [hn.out]; exact d2, Qy d3 _ _, ?_, zF d4 (show gp ≠ gb by omega) _, qm d5 q5⟩
          refine ⟨by simpa using HZ2.out.1, fun o ho => ?_, fun j hj => ?_⟩
          · by_cases e : o = i
            · exact ⟨i, by subst e; rw [Array.getElem?_setIfInBounds_self_of_lt (by have := HZ2.out.1; omega)]⟩
            rw [Array.getElem?_setIfInBounds_ne (Ne.symm e)]
            exact HZ2.out.2 o ho
          · obtain rfl : j = 0 := by omega
            rw [Nat.sub_zero, hn.out, Array.getElem?_setIfInBounds_self_of_lt (by have := HZ2.out.1; have := hn.out; omega)]
            simp only [Qj, hn.out])
        clear d1 d2 d3 d4 d5
        go_wp2
        clear p1 fb yb HK
        go_loopw [9] (fun v9 W => ∃ k : Nat, k ≤ i ∧ v9 = .int .i64 ((i : Int) - 1 - k) ∧ qa (QH A0 l c0 width gs gb gp w W k)) (fun v9 _ => ((intOf v9) + 1).toNat)
        case atStart => exact ⟨0, Nat.zero_le _, by simp, K0⟩
        case round =>
          clear K0
          rename_i wr0 wr
          obtain ⟨k, hk, rfl, HK⟩ := hrel
          obtain ⟨C1, D, d1, d2, d3, d4, d5, d6⟩ := HK.out
          have gbl := Q0 d3
          have gpl := Q0 d5
          by_cases hlt : k < i
          · obtain ⟨m, hm⟩ : ∃ m : Nat, k + 1 + m = i := ⟨i - (k + 1), by omega⟩
            have hmi : m < i := by omega
            have hm1 : (i : Int) - 1 - k = m := by omega
            have c82 : decide (0 ≤ (m : Int)) = true := by simp
            rw [hm1]
            obtain ⟨ad0, eA, x0, x1, x2, x3, x4, x5⟩ := zt HR.out (m : Int) (by omega) (by have := hn.out; omega)
            rw [Int.toNat_natCast] at x0
            clear x1 x2 x3 x4 x5
            have nb : ad0.block ≠ gb := by have := Je x0; have := Q.out; omega
            have nb' : gb ≠ ad0.block := Ne.symm nb
            replace x0 := zA d6 x0
            have b0 := Je x0
            subst eA
            have fb := QL wr gb m _ _ d3
            obtain ⟨zb, yb⟩ := d4.2.1 m (by have := hn.out; omega)
            have yb : wr.cell? ⟨gb, m, none⟩ = some (.int .i64 zb) := by rw [cell_of_row wr gb m _ 3 (0, 0) d3]; exact yb
            have sb := d4.2.2 k (Nat.le_refl _)
            rw [show l.length - k = m + 1 by have := hn.out; omega] at sb
            have sb : wr.cell? ⟨gb, m + 1, none⟩ = some (.int .i64 (Qj l k)) := by rw [cell_of_row wr gb (m + 1) _ 3 (0, 0) d3]; exact sb
            have t1 : ((m : Int) + 1).toNat = m + 1 := by omega
            have p1 : wr.cell? ⟨gp, 2, none⟩ = some (.slice (some ⟨gb, 0, none⟩) (i + 1) (i + 1)) := by rw [cell_of_row wr gp 2 _ 79 (0, 0) d5, ← hn.out]; rfl
            generalize hx : (qc l (m : Int)).f0 = kd_ at x0
            generalize hs : Qj l k = bk at sb
            have HX := qa.mk hx
            have HS := qa.mk hs
            have x9 : (wr.setCell ⟨gb, m, none⟩ (.int .i64 bk)).cell? (ad0.add (m * 6)) = some (.int .i64 kd_) := (World.cell?_of_block (w := wr) (Below.heap_setCell wr _ _ _ (by rw [add_block]; exact nb))).trans x0
            have y9 : (wr.setCell ⟨gb, m, none⟩ (.int .i64 bk)).cell? ⟨gb, m, none⟩ = some (.int .i64 bk) := by rw [cell_of_row _ gb m _ 3 (0, 0) (Qy d3 _ _), Array.getElem?_setIfInBounds_self_of_lt (by have := d4.1; have := hn.out; omega)]
            have f9 : (wr.setCell ⟨gb, m, none⟩ (.int .i64 bk)).frozen? ⟨gb, m, none⟩ = false := QL _ gb m _ _ (Qy d3 _ _)
            have p9 : (wr.setCell ⟨gb, m, none⟩ (.int .i64 bk)).cell? ⟨gp, 2, none⟩ = some (.slice (some ⟨gb, 0, none⟩) (i + 1) (i + 1)) := (World.cell?_of_block (w := wr) (Below.heap_setCell wr _ _ _ (show gp ≠ gb by have := Q.out; omega))).trans p1
            clear d1 d2 d3 d4 d5 d6 hx hs hm1
            go_wp2
            go_region
            all_goals go_wp2
            all_goals go_roundw
            all_goals first
              | (show Int.toNat _ < _; simp only [intOf]; omega)
              | exact ⟨k + 1, by omega, by congr 1; omega, qa.mk (QH.step1 HK.out Q.out (by have := hn.out; omega) (by have := hn.out; omega) (by rw [Jv HX.out HS.out (by have := hn.out; omega)]; simp_all))⟩
              | exact ⟨k + 1, by omega, by congr 1; omega, qa.mk (QH.step2 HK.out Q.out (by have := hn.out; omega) (by have := hn.out; omega) (by rw [Jv HX.out HS.out (by have := hn.out; omega)]; simp_all))⟩
          · obtain rfl : k = i := by omega
            have c82 : decide (0 ≤ (k : Int) - 1 - k) = false := by simp; omega
            clear d1 d2 d3 d4 d5 d6
            go_wp2
            go_ret
            exact ⟨gp, _, rfl, QH.done (by rw [hn.out]; exact HK.out) Q.out (by have := hn.out; omega) HR.out⟩
end
theorem rk_z_get (z : Array Value) (n o : Nat) (h : o < n) : (Go.madeCells z n)[o]? = some (z[o % z.size]!) := by
  simp [Go.madeCells, h]
theorem rk_Z1_ok (l : List S31) : Zb l (Go.madeCells #[.int .i64 0, .int .i64 0, .int .i64 0] ((l.length + 1) * 3)) 0 := by
  have g : ∀ o, o < (l.length + 1) * 3 → (Go.madeCells #[.int .i64 0, .int .i64 0, .int .i64 0] ((l.length + 1) * 3))[o]? = some (.int .i64 0) := fun o ho => by
    rw [rk_z_get _ _ _ ho]
    have h3 : o % 3 < 3 := Nat.mod_lt _ (by decide)
    show some ((#[.int .i64 0, .int .i64 0, .int .i64 0] : Array Value)[o % 3]!) = _
    match o % 3, h3 with
    | 0, _ => rfl
    | 1, _ => rfl
    | 2, _ => rfl
  refine ⟨by simp [Go.size_madeCells], fun o ho => ⟨0, g o ho⟩, fun j hj => ?_⟩
  obtain rfl : j = 0 := by omega
  exact ⟨g _ (by omega), g _ (by omega), g _ (by omega)⟩
theorem rk_Z2_ok (n : Nat) : (Go.madeCells #[.int .i64 0] (n + 1)).size = n + 1 ∧ ∀ o, o < n + 1 → ∃ z, (Go.madeCells #[.int .i64 0] (n + 1))[o]? = some (.int .i64 z) := by
  refine ⟨by simp [Go.size_madeCells], fun o ho => ⟨0, ?_⟩⟩
  rw [rk_z_get _ _ _ ho]
  have : o % 1 = 0 := by omega
  show some ((#[.int .i64 0] : Array Value)[o % 1]!) = _
  rw [this]; rfl
theorem rk_r_make {e t : TypeId} {z : Value} {sz bytes : Nat} (hi : (Try.prog.info? e).map (fun i => (i.zero, i.size, i.bytes)) = some (some z, sz, bytes)) (ht : Try.prog.underlying t = some (.slice e)) (n : Nat) (hb : bytes * (n + 1) ≤ 281474976710656) (hn : n ≤ 9223372036854775800) (W : World) :
    (Instr.makeSlice t (.int .i64 ((n : Int) + 1)) (.int .i64 ((n : Int) + 1))).run Try.prog W = .ok (.slice (some ⟨W.heap.size, 0, none⟩) (n + 1) (n + 1)) (W.alloc (.cells (Go.madeCells z.cells ((n + 1) * sz)) e)) := by
  obtain ⟨i, h1, h2⟩ := Option.map_eq_some_iff.mp hi
  have hz : i.zero = some z := congrArg Prod.fst h2
  have hs : i.size = sz := congrArg (fun p => p.2.1) h2
  have hy : i.bytes = bytes := congrArg (fun p => p.2.2) h2
  have := run_make W t e i z ht h1 hz .i64 .i64 ((n : Int) + 1) ((n : Int) + 1) (by omega) (by omega) (by rw [hy, show ((n : Int) + 1) = ((n + 1 : Nat) : Int) from rfl, ← Int.natCast_mul]; exact Int.ofNat_le.mpr hb) (by omega)
  rw [hs, show ((n : Int) + 1).toNat = n + 1 by omega] at this
  exact this
set_option maxRecDepth 100000 in
theorem Jd : (Try.prog.info? 81).map (fun i => (i.zero, i.size, i.bytes)) = some (some (.agg #[.int .i64 0, .int .i64 0, .int .i64 0]), 3, 24) := by kernel_rfl
theorem Ju (A0 : Option Addr) (c0 : Nat) (l : List S31) (width : Int) (w : World) (hr0 : Kd.C k31 w A0 l.length l) (hl : l.length ≤ 100000) :
    Calls Try.prog 28 #[.slice A0 l.length c0, .int .i64 width] w fun e w' => ∃ (g : Nat) (w0 : World), e = .returned (.pointer (some ⟨g, 0, none⟩)) ∧ qb w0 w' g l (zQ l) (zP l) width ∧ Below w0.heap.size w0 w' ∧ Below w.heap.size w w' ∧ Below w.heap.size w w0 := by
  refine rk_walk A0 l l.length c0 ⟨rfl⟩ width _ _ (by omega) w ⟨hr0⟩ ⟨rk_Z1_ok l⟩ ⟨rk_Z2_ok l.length⟩ (fun W => ?_) (fun W => ?_)
  · exact rk_r_make Jd Try.underlying77 l.length (by omega) (by omega) W
  · have := rk_r_make info3 Try.underlying24 l.length (by omega) (by omega) W
    rw [Nat.mul_one] at this
    exact this
def jM.f (l0 : List S31) (a1 : Int) : Option (List S31 × List S81 × List Int × Int) := if l0.length ≤ 100000 then some (l0, zQ l0, zP l0, a1) else none
def zy (w W : World) (g : Nat) (f0 : List S31) (f1 : List S81) (f2 : List Int) (f3 : Int) : Prop := ∃ w0, Below w.heap.size w w0 ∧ Below w0.heap.size w0 W ∧ qb w0 W g f0 f1 f2 f3
section
variable {w W : World} {g : Nat} {f0 : List S31} {f1 : List S81} {f2 : List Int} {f3 : Int}
theorem zy.below {W1 : World} (h : zy w W g f0 f1 f2 f3) (hw : Below W.heap.size W W1) : zy w W1 g f0 f1 f2 f3 := by
  obtain ⟨w0, h1, h2, h3⟩ := h
  exact ⟨w0, h1, qP h2 hw, h3.below hw⟩
theorem zy.alloc (h : zy w W g f0 f1 f2 f3) (o : Obj) : zy w (W.alloc o) g f0 f1 f2 f3 := h.below (qA (Below.refl _ _) o)
theorem zy.drewN (h : zy w W g f0 f1 f2 f3) (m : Nat) : zy w (W.drewN m) g f0 f1 f2 f3 := h.below (qx (Below.refl _ _) m)
theorem zy.drew (h : zy w W g f0 f1 f2 f3) : zy w W.drew g f0 f1 f2 f3 := h.below (Qq (Below.refl _ _))
theorem zy.lt (h : zy w W g f0 f1 f2 f3) : g < W.heap.size := h.choose_spec.2.2.lt
theorem zy.ge (h : zy w W g f0 f1 f2 f3) : w.heap.size ≤ g := by
  obtain ⟨w0, h1, h2, h3⟩ := h
  exact Nat.le_trans h1.size h3.ge
theorem zy.qO (h : zy w W g f0 f1 f2 f3) (x : Int) : zy w (W.setCell ⟨g, 3, none⟩ (.int .i64 x)) g f0 f1 f2 x := by
  obtain ⟨w0, h1, h2, h3⟩ := h
  exact ⟨w0, h1, qm h2 h3.ge, h3.qO x⟩
theorem zy.ZP {a : Nat} {cs : Array Value} {t : TypeId} {fr : Nat × Nat} (h : zy w W g f0 f1 f2 f3) (hb2 : W.heap[a]? = some (.cells cs t fr)) (ht : t ≠ 79) : g ≠ a := by
  obtain ⟨w0, h1, h2, h3⟩ := h
  exact h3.ZP hb2 ht
theorem zy.own_ne {α : Type} {d : Kd α} {e : Nat} {base : Nat} {ok : Nat → Prop} {v : Value} {xs : List α} (h : zy w W g f0 f1 f2 f3) (ho : d.R e W base ok v xs) (ht : e ≠ 79) : some g ≠ v.ownBlock := by
  obtain ⟨w0, h1, h2, h3⟩ := h
  exact h3.own_ne ho ht
theorem zy.apart {α : Type} {d : Kd α} {e : Nat} {base : Nat} {ok : Nat → Prop} {v : Value} {xs : List α} (h : zy w W g f0 f1 f2 f3) (ho : d.R e W base ok v xs) (ht : ∀ q, q ∈ e :: d.E → q ≠ 79) : d.R e W base (fun k => ok k ∧ k ≠ g) v xs := by
  obtain ⟨w0, h1, h2, h3⟩ := h
  exact h3.apart ho ht
end
theorem jM.calls (A0 : Option Addr) (c0 : Nat) (l0 : List S31) (a1 : Int) (r1 : List S31) (r2 : List S81) (r3 : List Int) (r4 : Int) (w0 w : World) (hB : Below w0.heap.size w0 w) (hr0 : Kd.C k31 w0 A0 l0.length l0) (hc0 : l0.length ≤ c0) (h : jM.f l0 a1 = some (r1, r2, r3, r4)) :
    Calls Try.prog 28 #[.slice A0 l0.length c0, .int .i64 a1] w fun e w' => ∃ g, e = .returned (.pointer (some ⟨g, 0, none⟩)) ∧ zy w0 w' g r1 r2 r3 r4 ∧ Below w0.heap.size w0 w' ∧ Below w.heap.size w w' := by
  unfold jM.f at h
  split at h
  · rename_i hl
    cases h
    refine (Ju A0 c0 l0 a1 w (Kd.zS hr0 hB) hl).mono ?_
    rintro e w' ⟨g, w1, rfl, h1, h2, h3, h4⟩
    exact ⟨g, rfl, ⟨w1, qP hB h4, h2, h1⟩, qP hB h3, h3⟩
  · cases h
theorem qd.Jk (k : Nat) (g : Nat) (s0_0 : List (S31)) (s0_1 : List (S81)) (s0_2 : List Int) (s0_3 : Int) (A1 : Option Addr) (c1 : Nat) (l1 : List Int) (a2 : Int) (r1 : List (S59)) (r2 : Int) (w0 w : World) (hI : zy w0 w g s0_0 s0_1 s0_2 s0_3) (hB : Below w0.heap.size w0 w) (hr1 : Kd.C (Kd.int .i64) w A1 l1.length l1) (hc1 : l1.length ≤ c1) (hf1 : ∀ ad, A1 = some ad → 0 < l1.length → ad.block ≠ g) (h : qd.f k s0_0 s0_1 s0_2 s0_3 l1 a2 = some (r1, r2)) :
    Calls Try.prog 30 #[.pointer (some ⟨g, 0, none⟩), .slice A1 l1.length c1, .int .i64 a2] w fun e w' => ∃ v0_ : Value, e = .returned (v0_) ∧ Kd.R k59 59 w' w.heap.size (fun _ => True) v0_ r1 ∧ zy w0 w' g s0_0 s0_1 s0_2 r2 ∧ Below w0.heap.size w0 w' ∧ qh w w' g none := by
  obtain ⟨x, h1, h2, h3⟩ := hI
  refine (qd.calls k g _ _ _ _ A1 c1 l1 a2 r1 r2 x w h3 h2 hr1 hc1 hf1 h).mono ?_
  rintro e w' ⟨v, he, hv, hi, hb, hk⟩
  exact ⟨v, he, hv, ⟨x, h1, hb, hi⟩, qP h1 hb, hk⟩
theorem qw.Jk (k : Nat) (g : Nat) (s0_0 : List (S31)) (s0_1 : List (S81)) (s0_2 : List Int) (s0_3 : Int) (A1 : Option Addr) (c1 : Nat) (l1 : List Int) (r1 : List Int) (r2 : Int) (w0 w : World) (hI : zy w0 w g s0_0 s0_1 s0_2 s0_3) (hB : Below w0.heap.size w0 w) (hr1 : Kd.C (Kd.int .i64) w A1 l1.length l1) (hc1 : l1.length ≤ c1) (hf1 : ∀ ad, A1 = some ad → 0 < l1.length → ad.block ≠ g) (h : qw.f k s0_0 s0_1 s0_2 s0_3 l1 = some (r1, r2)) :
    Calls Try.prog 31 #[.pointer (some ⟨g, 0, none⟩), .slice A1 l1.length c1] w fun e w' => ∃ v0_ : Value, e = .returned (v0_) ∧ Kd.R (Kd.int .i64) 3 w' w.heap.size (fun _ => True) v0_ r1 ∧ zy w0 w' g s0_0 s0_1 s0_2 r2 ∧ Below w0.heap.size w0 w' ∧ qh w w' g none := by
  obtain ⟨x, h1, h2, h3⟩ := hI
  refine (qw.calls k g _ _ _ _ A1 c1 l1 r1 r2 x w h3 h2 hr1 hc1 hf1 h).mono ?_
  rintro e w' ⟨v, he, hv, hi, hb, hk⟩
  exact ⟨v, he, hv, ⟨x, h1, hb, hi⟩, qP h1 hb, hk⟩
theorem qK.Jk (k : Nat) (g : Nat) (s0_0 : List (S31)) (s0_1 : List (S81)) (s0_2 : List Int) (s0_3 : Int) (a1 : Int) (a2 : Int) (r1 : Int) (r2 : Int) (r3 : Bool) (r4 : Int) (w0 w : World) (hI : zy w0 w g s0_0 s0_1 s0_2 s0_3) (hB : Below w0.heap.size w0 w) (h : qK.f k s0_0 s0_1 s0_2 s0_3 a1 a2 = some (r1, r2, r3, r4)) :
    Calls Try.prog 40 #[.pointer (some ⟨g, 0, none⟩), .int .i64 a1, .int .i64 a2] w fun e w' => e = .returned (.tuple #[.agg #[.int .i64 r1, .int .i64 r2], .bool r3]) ∧ zy w0 w' g s0_0 s0_1 s0_2 r4 ∧ Below w0.heap.size w0 w' ∧ qh w w' g none := by
  obtain ⟨x, h1, h2, h3⟩ := hI
  refine (qK.calls k g _ _ _ _ a1 a2 r1 r2 r3 r4 x w h3 h2 h).mono ?_
  rintro e w' ⟨he, hi, hb, hk⟩
  exact ⟨he, ⟨x, h1, hb, hi⟩, qP h1 hb, hk⟩
def qV.l0 : Nat → List Int → List (S59) → Int → List Int → Int → Bool → Option (List Int × Int × Bool × Int)
  | 0, _, _, _, _, _, _ => none
  | k + 1, x10, x11, x13, x215000, x215001, x215002 => if x13 < (x10.length : Int) then (if 0 ≤ x13 then (if x13 < (x11.length : Int) then (if 0 ≤ ((qX x11 x13).f0) then (if ((qX x11 x13).f0) < (x10.length : Int) then (if x215000.length < 17592186044416 then (qV.l0 k x10 x11 (wrap64 (((qX x11 x13).f0) + 1)) (x215000 ++ [rd x10 ((qX x11 x13).f0)]) x215001 x215002) else (none)) else (none)) else (none)) else (none)) else (none)) else (some (x215000, x215001, x215002, 0))
def qV.f (k : Nat) (l0 : List (S31)) (a1 : Int) (a2 : Int) : Option (List Int × Int × Bool × Int) := (zG.f k l0 a1 a2).bind fun t195 => (if t195 = 0 then ((jM.f l0 a1).bind fun bt196 => ((zh.f k l0).bind fun t201 => ((qd.f k bt196.1 bt196.2.1 bt196.2.2.1 bt196.2.2.2 t201 a2).bind fun bt204 => (if 0 < (bt204.1.length : Int) then (if ((qX bt204.1 0).f2 = true) then (qV.l0 k t201 bt204.1 0 ([] : List Int) ((qX bt204.1 0).f1) false) else ((qw.f k bt196.1 bt196.2.1 bt196.2.2.1 bt204.2 t201).bind fun bt209 => (some (bt209.1, 0, true, 0)))) else (none))))) else (some (([] : List Int), 0, false, t195)))
theorem qV.zT : ∀ k, (∀ y0 y1 y2 y3 y4 y5, LeO (qV.l0 k y0 y1 y2 y3 y4 y5) (qV.l0 (k + 1) y0 y1 y2 y3 y4 y5))
  | 0 => fun _ _ _ _ _ _ r h => by simp [qV.l0] at h
  | k + 1 => by
    have ih0 := qV.zT k
    · intro y0 y1 y2 y3 y4 y5
      unfold qV.l0
      repeat' first
      | (with_reducible exact ih0 _ _ _ _ _ _)
      | (with_reducible exact zG.mono _ _ _ _)
      | (with_reducible exact zh.mono _ _)
      | (with_reducible exact qd.mono _ _ _ _ _ _ _)
      | (with_reducible exact qw.mono _ _ _ _ _ _)
      | (with_reducible exact LeO.refl _)
      | (with_reducible exact LeO.none _)
      | (with_reducible refine LeO.ite ?_ ?_)
      | (with_reducible refine LeO.bind ?_ (fun _ => ?_))
      | exact ih0 _ _ _ _ _ _
      | exact zG.mono _ _ _ _
      | exact zh.mono _ _
      | exact qd.mono _ _ _ _ _ _ _
      | exact qw.mono _ _ _ _ _ _
      | exact LeO.none _
      | refine LeO.ite ?_ ?_
      | refine LeO.bind ?_ (fun _ => ?_)
theorem qV.mono : ∀ a0 a1 a2 k, LeO (qV.f k a0 a1 a2) (qV.f (k + 1) a0 a1 a2) := by
  intro a0 a1 a2 k
  have ih0 := qV.zT k
  unfold qV.f
  repeat' first
      | (with_reducible exact ih0 _ _ _ _ _ _)
      | (with_reducible exact zG.mono _ _ _ _)
      | (with_reducible exact zh.mono _ _)
      | (with_reducible exact qd.mono _ _ _ _ _ _ _)
      | (with_reducible exact qw.mono _ _ _ _ _ _)
      | (with_reducible exact LeO.refl _)
      | (with_reducible exact LeO.none _)
      | (with_reducible refine LeO.ite ?_ ?_)
      | (with_reducible refine LeO.bind ?_ (fun _ => ?_))
      | exact ih0 _ _ _ _ _ _
      | exact zG.mono _ _ _ _
      | exact zh.mono _ _
      | exact qd.mono _ _ _ _ _ _ _
      | exact qw.mono _ _ _ _ _ _
      | exact LeO.none _
      | refine LeO.ite ?_ ?_
      | refine LeO.bind ?_ (fun _ => ?_)
def qV.T13 : Bool × List (List Nat × List Nat) := (true, [([], []), ([0], [0]), ([], []), ([], []), ([], []), ([3, 4], [3, 4]), ([5], [5]), ([6], [6]), ([2, 7], [2, 7]), ([8], [8]), ([9], [9]), ([1, 10], [1, 10]), ([0, 1, 2, 3, 4, 5, 6, 7, 8, 9, 10, 11], []), ([12, 11, 11, 0, 1, 2, 3, 4, 5, 6, 7, 8, 9, 10, 11], [11, 12])])
def qV.B13 : List Nat := [0, 1, 0, 0, 0, 24, 56, 120, 252, 508, 1020, 2047, 4095, 8191]
theorem qV.tab13 : rtab .any (opsOf Try.f13 13) = qV.T13 := by kernel_rfl
theorem qV.bits13 : QY qV.T13.2 qV.B13 = true := by kernel_rfl
set_option maxHeartbeats 8000000 in
set_option maxRecDepth 100000 in
theorem qV.calls (k : Nat) (A0 : Option Addr) (c0 : Nat) (l0 : List (S31)) (a1 : Int) (a2 : Int) (r1 : List Int) (r2 : Int) (r3 : Bool) (r4 : Int) (w : World) (hr0 : Kd.C k31 w A0 l0.length l0) (hc0 : l0.length ≤ c0) (h : qV.f k l0 a1 a2 = some (r1, r2, r3, r4)) :
    Calls Try.prog 13 #[.slice A0 l0.length c0, .int .i64 a1, .int .i64 a2] w fun e w' => ∃ v0_ : Value, e = .returned (.tuple #[.agg #[v0_, .int .i64 r2, .bool r3], .int .i64 r4]) ∧ Kd.R (Kd.int .i64) 3 w' w.heap.size (fun _ => True) v0_ r1 ∧ Below w.heap.size w w' := by
  have hu26 := Try.underlying26
  have HR0 := qa.mk hr0
  have HC0 := qa.mk hc0
  clear hr0 hc0
  have HB := qa.mk (Below.refl w.heap.size w)
  have H : ((zG.f k l0 a1 a2).bind fun t195 => (if t195 = 0 then ((jM.f l0 a1).bind fun bt196 => ((zh.f k l0).bind fun t201 => ((qd.f k bt196.1 bt196.2.1 bt196.2.2.1 bt196.2.2.2 t201 a2).bind fun bt204 => (if 0 < (bt204.1.length : Int) then (if ((qX bt204.1 0).f2 = true) then (qV.l0 k t201 bt204.1 0 ([] : List Int) ((qX bt204.1 0).f1) false) else ((qw.f k bt196.1 bt196.2.1 bt196.2.2.1 bt204.2 t201).bind fun bt209 => (some (bt209.1, 0, true, 0)))) else (none))))) else (some (([] : List Int), 0, false, t195)))) = some (r1, r2, r3, r4) := h
  clear h
  replace H := Option.bind_eq_some_iff.mp H
  obtain ⟨t195, A40, H⟩ := H
  replace H : (if t195 = 0 then ((jM.f l0 a1).bind fun bt196 => ((zh.f k l0).bind fun t201 => ((qd.f k bt196.1 bt196.2.1 bt196.2.2.1 bt196.2.2.2 t201 a2).bind fun bt204 => (if 0 < (bt204.1.length : Int) then (if ((qX bt204.1 0).f2 = true) then (qV.l0 k t201 bt204.1 0 ([] : List Int) ((qX bt204.1 0).f1) false) else ((qw.f k bt196.1 bt196.2.1 bt196.2.2.1 bt204.2 t201).bind fun bt209 => (some (bt209.1, 0, true, 0)))) else (none))))) else (some (([] : List Int), 0, false, t195))) = some (r1, r2, r3, r4) := H
  have A4 := qa.mk A40
  clear A40
  by_cases c5 : t195 = 0
  · rw [if_pos c5] at H
    have c5b0 : (t195 == 0) = true := beq_iff_eq.mpr c5
    have c5b1 : (t195 != 0) = false := bne_eq_false_iff_eq.mpr c5
    clear c5
    replace H := Option.bind_eq_some_iff.mp H
    obtain ⟨⟨t196, t197, t198, t199⟩, A60, H⟩ := H
    replace H : ((zh.f k l0).bind fun t201 => ((qd.f k t196 t197 t198 t199 t201 a2).bind fun bt204 => (if 0 < (bt204.1.length : Int) then (if ((qX bt204.1 0).f2 = true) then (qV.l0 k t201 bt204.1 0 ([] : List Int) ((qX bt204.1 0).f1) false) else ((qw.f k t196 t197 t198 bt204.2 t201).bind fun bt209 => (some (bt209.1, 0, true, 0)))) else (none)))) = some (r1, r2, r3, r4) := H
    have A6 := qa.mk A60
    clear A60
    replace H := Option.bind_eq_some_iff.mp H
    obtain ⟨t201, A70, H⟩ := H
    replace H : ((qd.f k t196 t197 t198 t199 t201 a2).bind fun bt204 => (if 0 < (bt204.1.length : Int) then (if ((qX bt204.1 0).f2 = true) then (qV.l0 k t201 bt204.1 0 ([] : List Int) ((qX bt204.1 0).f1) false) else ((qw.f k t196 t197 t198 bt204.2 t201).bind fun bt209 => (some (bt209.1, 0, true, 0)))) else (none))) = some (r1, r2, r3, r4) := H
    have A7 := qa.mk A70
    clear A70
    replace H := Option.bind_eq_some_iff.mp H
    obtain ⟨⟨t204, t207⟩, A80, H⟩ := H
    replace H : (if 0 < (t204.length : Int) then (if ((qX t204 0).f2 = true) then (qV.l0 k t201 t204 0 ([] : List Int) ((qX t204 0).f1) false) else ((qw.f k t196 t197 t198 t207 t201).bind fun bt209 => (some (bt209.1, 0, true, 0)))) else (none)) = some (r1, r2, r3, r4) := H
    have A8 := qa.mk A80
    clear A80
    by_cases c9 : 0 < (t204.length : Int)
    · rw [if_pos c9] at H
      have c9b0 : decide (0 < (t204.length : Int)) = true := decide_eq_true c9
      have c9b1 : decide (0 < t204.length) = true := decide_eq_true (by omega)
      clear c9
      obtain ⟨bq10, hbq10⟩ : ∃ b_ : Bool, b_ = ((qX t204 0).f2) := ⟨_, rfl⟩
      replace H : (if (bq10 = true) then (qV.l0 k t201 t204 0 ([] : List Int) ((qX t204 0).f1) false) else ((qw.f k t196 t197 t198 t207 t201).bind fun bt209 => (some (bt209.1, 0, true, 0)))) = some (r1, r2, r3, r4) := by rw [← hbq10] at H; exact H
      have Nbq10 := qa.mk hbq10
      clear hbq10
      by_cases c11 : (bq10 = true)
      · subst c11
        have H1 : (qV.l0 k t201 t204 0 ([] : List Int) ((qX t204 0).f1) false) = some (r1, r2, r3, r4) := by rw [if_pos rfl] at H; exact H
        clear H
        have H := H1
        clear H1
        have H' := qa.mk H
        clear H
        go_enter Try.func13, Try.ntmps13
        go_wp2_with (first | ((with_reducible refine zw (N := 6) rfl ?_); refine zB ?hg (N := 6) ?hd (cs := #[.slice none 0 0, .int .i64 0, .bool false]) (t := 26) ?hr ?_; (case hd => rfl); (case hg => rfl); (case hr => first | (go_simp; done) | (go_simp; rfl)); intro gb194 hg w12 hbox hb; have n0_ := qa.mk (qP (bq HB) hb); have n1_ := qa.mk (hbox); have n2_ := qa.mk ((by rw [hg]; exact (qI (bq HB)) : w.heap.size ≤ gb194)); have n3_ := qa.mk ((by rw [hg]; exact (qI (bq HB)) : w.heap.size ≤ gb194)); clear HB; have HB := n0_; have BK194 := n1_; have GW194 := n2_; have GE194 := n3_; clear n0_ n1_ n2_ n3_; clear hb hbox hg) | ((with_reducible refine zl (f := 27) rfl ?_); refine zM (some 17) rfl rfl Try.func27 (by kernel_rfl) rfl #[.slice A0 l0.length c0, .int .i64 a1, .int .i64 a2] rfl (by (try simp only [List.map_toArray, List.map_cons, List.map_nil]); first | done | rfl | (simp only [List.length_drop, List.length_take]; rfl)) ?_; (with_reducible refine (zG.calls k _ _ l0 a1 a2 t195 _ ?side1 ?side2 A4.out).mono ?_); (case side1 => repeat (first | exact (Kd.zS HR0.out HB.out) | (with_reducible refine Kd.zI ?_ _) | (with_reducible refine Kd.zH ?_ _) | (with_reducible refine Kd.zL ?_))); (case side2 => exact HC0.out); rintro e w13 ⟨rfl, hb⟩; refine ⟨_, rfl, ?_⟩; have n0_ := qa.mk (zD (g := gb194) (o := .cells #[.slice none 0 0, .int .i64 0, .bool false] 26 (0, 0)) (kq BK194) hb); have n1_ := qa.mk (qP (bs HB GE194) hb); clear BK194; clear HB; have BK194 := n0_; have HB := n1_; clear n0_ n1_; (try clear hb); (try clear hb2); (try clear hk); (try clear hi)) | ((with_reducible refine zl (f := 28) rfl ?_); refine zM (some 24) rfl rfl Try.func28 (by kernel_rfl) rfl #[.slice A0 l0.length c0, .int .i64 a1] rfl (by (try simp only [List.map_toArray, List.map_cons, List.map_nil]); first | done | rfl | (simp only [List.length_drop, List.length_take]; rfl)) ?_; (with_reducible refine (jM.calls _ _ l0 a1 t196 t197 t198 t199 w _ ?side1 ?side2 ?side3 A6.out).mono ?_); (case side1 => repeat (first | (with_reducible first | exact HB.out | apply qA | apply qx | apply qC | refine qm ?_ GE194.out) | exact HB.out)); (case side2 => exact HR0.out); (case side3 => exact HC0.out); rintro e w14 ⟨g200, rfl, hi, hb, hb2⟩; refine ⟨_, rfl, ?_⟩; have n0_ := qa.mk (zD (g := gb194) (o := .cells #[.slice none 0 0, .int .i64 0, .bool false] 26 (0, 0)) (kq BK194) hb2); have n1_ := qa.mk (hb); have n2_ := qa.mk (hi); have n3_ := qa.mk (zy.ZP hi (zD (g := gb194) (o := .cells #[.slice none 0 0, .int .i64 0, .bool false] 26 (0, 0)) (kq BK194) hb2) (by decide)); have n4_ := qa.mk (Ne.symm (zy.ZP hi (zD (g := gb194) (o := .cells #[.slice none 0 0, .int .i64 0, .bool false] 26 (0, 0)) (kq BK194) hb2) (by decide))); clear BK194; clear HB; have BK194 := n0_; have HB := n1_; have HI200 := n2_; have NB200_194 := n3_; have NB194_200 := n4_; clear n0_ n1_ n2_ n3_ n4_; (try clear hb); (try clear hb2); (try clear hk); (try clear hi)) | ((with_reducible refine zl (f := 29) rfl ?_); refine zM (some 26) rfl rfl Try.func29 (by kernel_rfl) rfl #[.slice A0 l0.length c0] rfl (by (try simp only [List.map_toArray, List.map_cons, List.map_nil]); first | done | rfl | (simp only [List.length_drop, List.length_take]; rfl)) ?_; (with_reducible refine (zh.calls k _ _ l0 t201 _ ?side1 ?side2 A7.out).mono ?_); (case side1 => repeat (first | exact (Kd.zS HR0.out HB.out) | (with_reducible refine Kd.zI ?_ _) | (with_reducible refine Kd.zH ?_ _) | (with_reducible refine Kd.zL ?_))); (case side2 => exact HC0.out); rintro e w15 ⟨v202, rfl, ho0, hb⟩; refine ⟨_, rfl, ?_⟩; have n0_ := qa.mk (Kd.jm ho0 (qI (by repeat (first | (with_reducible first | exact HB.out | apply qA | apply qx | apply qC | refine qm ?_ (zy.ge HI200.out) | refine qm ?_ GE194.out) | exact HB.out)))); have n1_ := qa.mk (zD (g := gb194) (o := .cells #[.slice none 0 0, .int .i64 0, .bool false] 26 (0, 0)) (kq BK194) hb); have n2_ := qa.mk (zy.below (by repeat (first | (with_reducible first | exact HI200.out | apply zy.alloc | apply zy.drewN | apply zy.drew | apply zy.qO) | exact HI200.out)) hb); have n3_ := qa.mk (qP (by repeat (first | (with_reducible first | exact HB.out | apply qA | apply qx | apply qC | refine qm ?_ (zy.ge HI200.out) | refine qm ?_ GE194.out) | exact HB.out)) hb); clear BK194; clear HI200; clear HB; have HO203 := n0_; have BK194 := n1_; have HI200 := n2_; have HB := n3_; clear n0_ n1_ n2_ n3_; (try clear hb); (try clear hb2); (try clear hk); (try clear hi); (try clear ho0); obtain ⟨Ao16, co16, eo16⟩ := Kd.jo HO203.out; subst eo16) | ((with_reducible refine zl (f := 30) rfl ?_); refine zM (some 30) rfl rfl Try.func30 (by kernel_rfl) rfl #[.pointer (some ⟨g200, 0, none⟩), .slice Ao16 t201.length co16, .int .i64 a2] rfl (by (try simp only [List.map_toArray, List.map_cons, List.map_nil]); first | done | rfl | (simp only [List.length_drop, List.length_take]; rfl)) ?_; (with_reducible refine (qd.Jk k g200 t196 t197 t198 t199 _ _ t201 a2 t204 t207 w _ ?side1 ?side2 ?side3 ?side4 ?side5 A8.out).mono ?_); (case side1 => repeat (first | (with_reducible first | exact HI200.out | apply zy.alloc | apply zy.drewN | apply zy.drew | apply zy.qO) | exact HI200.out)); (case side2 => repeat (first | (with_reducible first | exact HB.out | apply qA | apply qx | apply qC | refine qm ?_ (zy.ge HI200.out) | refine qm ?_ GE194.out) | exact HB.out)); (case side3 => repeat (first | exact (Kd.zm HO203.out).2.2 | (with_reducible refine Kd.zI ?_ _) | (with_reducible refine Kd.zH ?_ _) | (with_reducible refine Kd.zL ?_))); (case side4 => exact (Kd.zm HO203.out).2.1); (case side5 => exact Z9 (zy.own_ne HI200.out HO203.out (by decide))); rintro e w17 ⟨v205, rfl, ho0, hi, hb, hk⟩; refine ⟨_, rfl, ?_⟩; have n0_ := qa.mk (qh.blk hk (g' := gb194) (o := .cells #[.slice none 0 0, .int .i64 0, .bool false] 26 (0, 0)) (kq BK194) NB194_200.out (by simp)); have n1_ := qa.mk (Kd.zi (Kd.jy (zy.apart (show zy w _ g200 t196 t197 t198 t199 from by repeat (first | (with_reducible first | exact HI200.out | apply zy.alloc | apply zy.drewN | apply zy.drew | apply zy.qO) | exact HI200.out)) (rq HO203) (by decide)) hk (fun _ h => h.2)) (fun _ h => h.1)); have n2_ := qa.mk (Kd.jm ho0 (qI (by repeat (first | (with_reducible first | exact HB.out | apply qA | apply qx | apply qC | refine qm ?_ (zy.ge HI200.out) | refine qm ?_ GE194.out) | exact HB.out)))); have n3_ := qa.mk (hb); have n4_ := qa.mk (hi); clear BK194; clear HO203; clear HB; clear HI200; have BK194 := n0_; have HO203 := n1_; have HO206 := n2_; have HB := n3_; have HI200 := n4_; clear n0_ n1_ n2_ n3_ n4_; (try clear hb); (try clear hb2); (try clear hk); (try clear hi); (try clear ho0); obtain ⟨Ao18, co18, eo18⟩ := Kd.jo HO206.out; subst eo18; have p208 : 0 ≤ (0 : Int) := (by omega); have q208 : 0 < (t204.length : Int) := odt; obtain ⟨ad208, e208, hx208_0, hx208_1, hx208_2⟩ := QV (Kd.zm HO206.out).2.2 0 p208 q208; (try rw [← Nbq10.out] at hx208_2); cases e208; have qi208 : (0 < t204.length) = True := eq_true (by omega); (try rw [show ((0 : Int)).toNat = 0 from rfl] at hx208_0); (try rw [show 0 * 3 = 0 from rfl] at hx208_0); (try rw [Addr.add_zero'] at hx208_0); (try rw [show ((0 : Int)).toNat = 0 from rfl] at hx208_1); (try rw [show 0 * 3 = 0 from rfl] at hx208_1); (try rw [Addr.add_zero'] at hx208_1); (try rw [show ((0 : Int)).toNat = 0 from rfl] at hx208_2); (try rw [show 0 * 3 = 0 from rfl] at hx208_2); (try rw [Addr.add_zero'] at hx208_2); replace p208 := eq_true p208; replace q208 := eq_true q208; have p213 : 0 ≤ (0 : Int) := (by omega); have q213 : 0 < (t204.length : Int) := odt; obtain ⟨ad213, e213, hx213_0, hx213_1, hx213_2⟩ := QV (Kd.zm HO206.out).2.2 0 p213 q213; (try rw [← Nbq10.out] at hx213_2); obtain rfl : ad208 = ad213 := (by injection e213); have qi213 : (0 < t204.length) = True := eq_true (by omega); (try rw [show ((0 : Int)).toNat = 0 from rfl] at hx213_0); (try rw [show 0 * 3 = 0 from rfl] at hx213_0); (try rw [Addr.add_zero'] at hx213_0); (try rw [show ((0 : Int)).toNat = 0 from rfl] at hx213_1); (try rw [show 0 * 3 = 0 from rfl] at hx213_1); (try rw [Addr.add_zero'] at hx213_1); (try rw [show ((0 : Int)).toNat = 0 from rfl] at hx213_2); (try rw [show 0 * 3 = 0 from rfl] at hx213_2); (try rw [Addr.add_zero'] at hx213_2); replace p213 := eq_true p213; replace q213 := eq_true q213) | ((with_reducible refine zw (N := 12) rfl ?_); refine zB ?hg (N := 12) ?hd (cs := #[.slice none 0 0, .int .i64 0, .bool false]) (t := 26) ?hr ?_; (case hd => rfl); (case hg => rfl); (case hr => first | (go_simp; done) | (go_simp; rfl)); intro gb214 hg w19 hbox hb; have n0_ := qa.mk (Kd.zz (rq HO203) hb); have n1_ := qa.mk (Kd.zz (rq HO206) hb); have n2_ := qa.mk (zD (g := gb194) (o := .cells #[.slice none 0 0, .int .i64 0, .bool false] 26 (0, 0)) (kq BK194) hb); have n3_ := qa.mk (zy.below (by repeat (first | (with_reducible first | exact HI200.out | apply zy.alloc | apply zy.drewN | apply zy.drew | apply zy.qO) | exact HI200.out)) hb); have n4_ := qa.mk (qP (by repeat (first | (with_reducible first | exact HB.out | apply qA | apply qx | apply qC | refine qm ?_ (zy.ge HI200.out) | refine qm ?_ GE194.out) | exact HB.out)) hb); have n5_ := qa.mk (hbox); have n6_ := qa.mk ((by rw [hg]; exact (qI (by repeat (first | (with_reducible first | exact HB.out | apply qA | apply qx | apply qC | refine qm ?_ (zy.ge HI200.out) | refine qm ?_ GE194.out) | exact HB.out))) : w.heap.size ≤ gb214)); have n7_ := qa.mk ((by rw [hg]; exact (qI (by repeat (first | (with_reducible first | exact HB.out | apply qA | apply qx | apply qC | refine qm ?_ (zy.ge HI200.out) | refine qm ?_ GE194.out) | exact HB.out))) : w.heap.size ≤ gb214)); have n8_ := qa.mk ((by rw [hg]; exact Nat.ne_of_lt (jB (g := gb194) (o := .cells #[.slice none 0 0, .int .i64 0, .bool false] 26 (0, 0)) (kq BK194)) : gb194 ≠ gb214)); have n9_ := qa.mk ((by rw [hg]; exact Nat.ne_of_gt (jB (g := gb194) (o := .cells #[.slice none 0 0, .int .i64 0, .bool false] 26 (0, 0)) (kq BK194)) : gb214 ≠ gb194)); have n10_ := qa.mk ((by rw [hg]; exact Nat.ne_of_lt (zy.lt (show zy w _ g200 t196 t197 t198 t207 from by repeat (first | (with_reducible first | exact HI200.out | apply zy.alloc | apply zy.drewN | apply zy.drew | apply zy.qO) | exact HI200.out))) : g200 ≠ gb214)); have n11_ := qa.mk ((by rw [hg]; exact Nat.ne_of_gt (zy.lt (show zy w _ g200 t196 t197 t198 t207 from by repeat (first | (with_reducible first | exact HI200.out | apply zy.alloc | apply zy.drewN | apply zy.drew | apply zy.qO) | exact HI200.out))) : gb214 ≠ g200)); clear HO203; clear HO206; clear BK194; clear HI200; clear HB; have HO203 := n0_; have HO206 := n1_; have BK194 := n2_; have HI200 := n3_; have HB := n4_; have BK214 := n5_; have GW214 := n6_; have GE214 := n7_; have NB194_214 := n8_; have NB214_194 := n9_; have NB200_214 := n10_; have NB214_200 := n11_; clear n0_ n1_ n2_ n3_ n4_ n5_ n6_ n7_ n8_ n9_ n10_ n11_; clear hb hbox hg; have hnb20 := NB214_194.out; have hnc20 := NB194_214.out; have hnb21 := NB214_200.out; have hnc21 := NB200_214.out; have hcz22_0 : w19.cell? ⟨gb214, 0, none⟩ = some (.slice none 0 0) := (ql BK214.out 0).trans rfl; have hcz22_1 : w19.cell? ⟨gb214, 1, none⟩ = some (.int .i64 0) := (ql BK214.out 1).trans rfl; have hcz22_2 : w19.cell? ⟨gb214, 2, none⟩ = some (.bool false) := (ql BK214.out 2).trans rfl; have hfz22_0 := qg BK214.out 0; have hfz22_1 := qg BK214.out 1; have hfz22_2 := qg BK214.out 2))
        go_loopg [13] k (fun kq v13 w' => ∃ (x13_1 : Int) (x215000_1 : List Int) (u215000 : Value), v13 = .int .i64 x13_1 ∧ qa (qV.l0 kq t201 t204 x13_1 x215000_1 ((qX t204 0).f1) false = some (r1, r2, r3, r4)) ∧ qa (kq ≤ k) ∧ qa (Kd.R (Kd.int .i64) 3 w' w.heap.size (fun k_ => some k_ ≠ (u215000 : Value).ownBlock) (.slice Ao16 t201.length co16) t201) ∧ qa (Kd.R k59 59 w' w.heap.size (fun _ => True) (.slice (some ad208) t204.length co18) t204) ∧ qa (Kd.R (Kd.int .i64) 3 w' w.heap.size (fun k_ => some k_ ≠ ((.slice Ao16 t201.length co16) : Value).ownBlock) u215000 x215000_1) ∧ qa (w'.heap[gb194]? = some (.cells #[(.slice none 0 0), .int .i64 0, .bool false] 26 (0, 0))) ∧ qa (w'.heap[gb214]? = some (.cells #[u215000, .int .i64 ((qX t204 0).f1), .bool false] 26 (0, 0))) ∧ qa (Below w.heap.size w w'))
        case atStart => exact ⟨(0), (([] : List Int)), (.slice none 0 0), (by first | rfl | (simp; done) | (simp [*]; done)), H', ⟨Nat.le_refl _⟩, ⟨by (with_reducible repeat (first | apply Kd.qD | apply Kd.qE | apply Kd.qG)); exact Kd.zi (Kd.ze (p := ⟨gb214, 2, none⟩) (Kd.ze (p := ⟨gb214, 1, none⟩) (Kd.ze (p := ⟨gb214, 0, none⟩) (Kd.zO HO203.out BK214.out (by decide)) (fun _ hk => hk.2) (.slice none 0 0)) (fun _ hk => hk.2) (.int .i64 ((qX t204 0).f1))) (fun _ hk => hk.2) (.bool false)) (fun _ hk => (by simp [Value.ownBlock]))⟩, ⟨by (with_reducible repeat (first | apply Kd.qD | apply Kd.qE | apply Kd.qG)); exact Kd.zi (Kd.ze (p := ⟨gb214, 2, none⟩) (Kd.ze (p := ⟨gb214, 1, none⟩) (Kd.ze (p := ⟨gb214, 0, none⟩) (Kd.zO HO206.out BK214.out (by decide)) (fun _ hk => hk.2) (.slice none 0 0)) (fun _ hk => hk.2) (.int .i64 ((qX t204 0).f1))) (fun _ hk => hk.2) (.bool false)) (fun _ hk => trivial)⟩, ⟨by first | exact Kd.Zm _ _ _ _ _ | exact Kd.N_nil _ _ _ _ _ | exact Kd.V_nil _ _ _ _ _ | exact Kd.Q_nil _ _ _ _ _ | exact Kd.S_nil _ _ _ _ _⟩, ⟨by (with_reducible repeat (first | refine qj ?_ _ | refine qo ?_ | refine qi ?_ _)); refine zF ?_ NB194_214.out _; (with_reducible repeat (first | refine qj ?_ _ | refine qo ?_ | refine qi ?_ _)); refine zF ?_ NB194_214.out _; (with_reducible repeat (first | refine qj ?_ _ | refine qo ?_ | refine qi ?_ _)); refine zF ?_ NB194_214.out _; exact kq BK194⟩, ⟨by (with_reducible repeat (first | refine qj ?_ _ | refine qo ?_ | refine qi ?_ _)); refine qR (cs := #[.slice none 0 0, .int .i64 ((qX t204 0).f1), .bool false]) ?_ 2 _ rfl; (with_reducible repeat (first | refine qj ?_ _ | refine qo ?_ | refine qi ?_ _)); refine qR (cs := #[.slice none 0 0, .int .i64 0, .bool false]) ?_ 1 _ rfl; (with_reducible repeat (first | refine qj ?_ _ | refine qo ?_ | refine qi ?_ _)); refine qR (cs := #[.slice none 0 0, .int .i64 0, .bool false]) ?_ 0 _ rfl; exact kq BK214⟩, ⟨by repeat (first | (with_reducible first | exact HB.out | apply qA | apply qx | apply qC | refine qm ?_ (zy.ge HI200.out) | refine qm ?_ GE194.out | refine qm ?_ GE214.out) | exact HB.out)⟩⟩
        case round =>
          clear H'
          try clear c1
          try clear q1
          try clear c2
          try clear p2
          try clear q2
          try clear hx2
          try clear qi2
          try clear c3
          try clear c5
          try clear c5b0
          try clear c5b1
          try clear c9
          try clear c9b0
          try clear c9b1
          try clear q10
          try clear c11
          try clear c13
          try clear c20
          try clear p20
          try clear q20
          try clear hx20
          try clear qi20
          try clear c21
          try clear p21
          try clear q21
          try clear hx21
          try clear qi21
          try clear hcz22_0
          try clear hcz22_1
          try clear hcz22_2
          try clear hfz22_0
          try clear hfz22_1
          try clear hfz22_2
          try clear hx208_0
          try clear hx208_1
          try clear hx208_2
          try clear hx213_0
          try clear hx213_1
          try clear hx213_2
          try clear p208
          try clear p213
          try clear q208
          try clear q213
          obtain ⟨x13_1, x215000_1, u215000, rfl, HA, HK1, HO_10, HO_11, HO_215000, BK194, BK214, HB⟩ := hrel
          cases gk with
          | zero => exact absurd HA.out (by simp [qV.l0])
          | succ k1 =>
            have H := HA.out
            clear HA
            simp only [qV.l0] at H
            by_cases c23 : x13_1 < (t201.length : Int)
            · rw [if_pos c23] at H
              have c23b0 : decide (x13_1 < (t201.length : Int)) = true := decide_eq_true c23
              clear c23
              by_cases c24 : 0 ≤ x13_1
              · rw [if_pos c24] at H
                have c24b0 : decide (0 ≤ x13_1) = true := decide_eq_true c24
                clear c24
                by_cases c25 : x13_1 < (t204.length : Int)
                · rw [if_pos c25] at H
                  have c25b0 : decide (x13_1 < (t204.length : Int)) = true := decide_eq_true c25
                  clear c25
                  by_cases c26 : 0 ≤ ((qX t204 x13_1).f0)
                  · rw [if_pos c26] at H
                    have c26b0 : decide (0 ≤ ((qX t204 x13_1).f0)) = true := decide_eq_true c26
                    clear c26
                    by_cases c27 : ((qX t204 x13_1).f0) < (t201.length : Int)
                    · rw [if_pos c27] at H
                      have c27b0 : decide (((qX t204 x13_1).f0) < (t201.length : Int)) = true := decide_eq_true c27
                      clear c27
                      by_cases c28 : x215000_1.length < 17592186044416
                      · rw [if_pos c28] at H
                        have LMc28 := qa.mk c28
                        clear c28
                        obtain ⟨y217, hy217⟩ : ∃ y_ : List Int, y_ = (x215000_1 ++ [rd t201 ((qX t204 x13_1).f0)]) := ⟨_, rfl⟩
                        replace H : (qV.l0 k1 t201 t204 (wrap64 (((qX t204 x13_1).f0) + 1)) y217 ((qX t204 0).f1) false) = some (r1, r2, r3, r4) := by first | (rw [hy217]; with_reducible exact H) | (have H2_ := (Option.bind_some _ _).symm.trans H; rw [hy217]; with_reducible exact H2_) | (have H2_ := (Option.bind_some _ _).symm.trans H; with_reducible exact H2_) | with_reducible exact H | (rw [hy217]; exact H) | exact H
                        have Ny217 := qa.mk hy217
                        clear hy217
                        have H' := qa.mk H
                        clear H
                        try go_wp2
                        have n0_ := qa.mk (Kd.qG HO_10.out)
                        have n1_ := qa.mk (Kd.qG HO_11.out)
                        have n2_ := qa.mk (Kd.qG HO_215000.out)
                        have n3_ := qa.mk (qo BK194.out)
                        have n4_ := qa.mk (qo BK214.out)
                        have n5_ := qa.mk (qC HB.out)
                        clear HO_10
                        clear HO_11
                        clear HO_215000
                        clear BK194
                        clear BK214
                        clear HB
                        have HO_10 := n0_
                        have HO_11 := n1_
                        have HO_215000 := n2_
                        have BK194 := n3_
                        have BK214 := n4_
                        have HB := n5_
                        clear n0_ n1_ n2_ n3_ n4_ n5_
                        have p215 : 0 ≤ (x13_1 : Int) := odt
                        have q215 : x13_1 < (t204.length : Int) := odt
                        obtain ⟨ad215, e215, hx215_0, hx215_1, hx215_2⟩ := QV (Kd.zm HO_11.out).2.2 x13_1 p215 q215
                        (try rw [← Nbq10.out] at hx215_2)
                        obtain rfl : ad208 = ad215 := (by injection e215)
                        replace p215 := eq_true p215
                        replace q215 := eq_true q215
                        have p216 : 0 ≤ (((qX t204 x13_1).f0) : Int) := odt
                        have q216 : ((qX t204 x13_1).f0) < (t201.length : Int) := odt
                        obtain ⟨ad216, e216, hx216_0⟩ := Kd.zY (Kd.zm HO_10.out).2.2 ((qX t204 x13_1).f0) p216 q216
                        cases e216
                        replace p216 := eq_true p216
                        replace q216 := eq_true q216
                        refine start_ (n := 14) (S := fun w' => w'.cell? ⟨gb214, 0, none⟩ = some (u215000) ∧ w'.cell? ⟨gb214, 1, none⟩ = some (.int .i64 ((qX t204 0).f1)) ∧ w'.cell? ⟨gb214, 2, none⟩ = some (.bool false) ∧ w'.cell? (ad208.add ((x13_1).toNat * 3)) = some (.int .i64 ((qX t204 x13_1).f0)) ∧ w'.cell? ⟨(ad208.add ((x13_1).toNat * 3)).block, (ad208.add ((x13_1).toNat * 3)).off + 1, none⟩ = some (.int .i64 ((qX t204 x13_1).f1)) ∧ w'.cell? ⟨(ad208.add ((x13_1).toNat * 3)).block, (ad208.add ((x13_1).toNat * 3)).off + 2, none⟩ = some (.bool ((qX t204 x13_1).f2)) ∧ w'.cell? (ad216.add (((qX t204 x13_1).f0)).toNat) = some (.int .i64 (rd t201 ((qX t204 x13_1).f0)))) (ds := [11, 13]) #[false, false, false, false, false, false, false, false, false, false, false, false, false, false] (by kernel_rfl) rfl rfl ⟨(ql BK214.out 0).trans rfl, (ql BK214.out 1).trans rfl, (ql BK214.out 2).trans rfl, hx215_0, hx215_1, hx215_2, hx216_0⟩ (fun hHeld => ?_); refine ZA qV.tab13 qV.bits13 (fun HT_ HW_ => ?_)
                        generalize wr.drew = w29 at HO_10 HO_11 HO_215000 BK194 BK214 HB hx215_0 hx215_1 hx215_2 hx216_0 hHeld ⊢
                        refine jD (i := 0) (N := some 55) (v := ?_) (a' := ?_) #[true, false, false, false, false, false, false, false, false, false, false, false, false, false] rfl rfl (jh HT_.out (by kernel_rfl)) (fun _ _ _ h => h) (Or.inl ⟨by rfl, ?_⟩) ?_ ?_
                        rotate_left
                        · intro w'
                          go_simp
                          with_reducible rfl
                        rotate_left
                        · simp only [Act.put, List.setIfInBounds_toArray, List.set_cons_zero, List.set_cons_succ, zJ, zN]
                          rfl
                        refine jD (i := 2) (N := some 57) (v := ?_) (a' := ?_) #[true, false, true, false, false, false, false, false, false, false, false, false, false, false] rfl rfl (jh HT_.out (by kernel_rfl)) (fun _ _ _ h => h) (Or.inl ⟨by rfl, ?_⟩) ?_ ?_
                        rotate_left
                        · intro w'
                          go_simp
                          with_reducible rfl
                        rotate_left
                        · simp only [Act.put, List.setIfInBounds_toArray, List.set_cons_zero, List.set_cons_succ, zJ, zN]
                          rfl
                        refine jD (i := 3) (N := some 58) (v := ?_) (a' := ?_) #[true, false, true, true, false, false, false, false, false, false, false, false, false, false] rfl rfl (jh HT_.out (by kernel_rfl)) (fun _ _ _ h => h) (Or.inl ⟨by rfl, ?_⟩) ?_ ?_
                        rotate_left
                        · intro w'
                          go_simp
                          with_reducible rfl
                        rotate_left
                        · simp only [Act.put, List.setIfInBounds_toArray, List.set_cons_zero, List.set_cons_succ, zJ, zN]
                          rfl
                        refine jD (i := 4) (N := some 59) (v := ?_) (a' := ?_) #[true, false, true, true, true, false, false, false, false, false, false, false, false, false] rfl rfl (jh HT_.out (by kernel_rfl)) (fun _ _ _ h => h) (Or.inl ⟨by rfl, ?_⟩) ?_ ?_
                        rotate_left
                        · intro w'
                          go_simp
                          with_reducible rfl
                        rotate_left
                        · simp only [Act.put, List.setIfInBounds_toArray, List.set_cons_zero, List.set_cons_succ, zJ, zN]
                          rfl
                        refine jD (i := 5) (N := some 60) (v := ?_) (a' := ?_) #[true, false, true, true, true, true, false, false, false, false, false, false, false, false] rfl rfl (jh HT_.out (by kernel_rfl)) (fun _ _ _ h => h) (Or.inl ⟨by rfl, ?_⟩) ?_ ?_
                        rotate_left
                        · intro w'
                          go_simp
                          with_reducible rfl
                        rotate_left
                        · simp only [Act.put, List.setIfInBounds_toArray, List.set_cons_zero, List.set_cons_succ, zJ, zN]
                          rfl
                        refine jD (i := 6) (N := some 61) (v := ?_) (a' := ?_) #[true, false, true, true, true, true, true, false, false, false, false, false, false, false] rfl rfl (jh HT_.out (by kernel_rfl)) (fun _ _ _ h => h) (Or.inl ⟨by rfl, ?_⟩) ?_ ?_
                        rotate_left
                        · intro w'
                          go_simp
                          with_reducible rfl
                        rotate_left
                        · simp only [Act.put, List.setIfInBounds_toArray, List.set_cons_zero, List.set_cons_succ, zJ, zN]
                          rfl
                        refine Zh (i := 1) (N := some 56) (v := ?_) (a' := ?_) #[true, true, true, true, true, true, true, false, false, false, false, false, false, false] rfl rfl (QO HT_.out HW_.out (by kernel_rfl)) (fun _ _ _ h => h) (Or.inl ⟨by rfl, ?_⟩) hHeld ?_ ?_
                        rotate_left
                        · rintro w' ⟨s0, s1, s2, s3, s4, s5, s6⟩
                          go_simp
                          with_reducible rfl
                        rotate_left
                        · simp only [Act.put, List.setIfInBounds_toArray, List.set_cons_zero, List.set_cons_succ, zJ, zN]
                          rfl
                        refine Zh (i := 7) (N := some 62) (v := ?_) (a' := ?_) #[true, true, true, true, true, true, true, true, false, false, false, false, false, false] rfl rfl (QO HT_.out HW_.out (by kernel_rfl)) (fun _ _ _ h => h) (Or.inl ⟨by rfl, ?_⟩) hHeld ?_ ?_
                        rotate_left
                        · rintro w' ⟨s0, s1, s2, s3, s4, s5, s6⟩
                          go_simp
                          with_reducible rfl
                        rotate_left
                        · simp only [Act.put, List.setIfInBounds_toArray, List.set_cons_zero, List.set_cons_succ, zJ, zN]
                          rfl
                        refine jD (i := 8) (N := some 63) (v := ?_) (a' := ?_) #[true, true, true, true, true, true, true, true, true, false, false, false, false, false] rfl rfl (jh HT_.out (by kernel_rfl)) (fun _ _ _ h => h) (Or.inl ⟨by rfl, ?_⟩) ?_ ?_
                        rotate_left
                        · intro w'
                          go_simp
                          with_reducible rfl
                        rotate_left
                        · simp only [Act.put, List.setIfInBounds_toArray, List.set_cons_zero, List.set_cons_succ, zJ, zN]
                          rfl
                        refine Zh (i := 9) (N := some 64) (v := ?_) (a' := ?_) #[true, true, true, true, true, true, true, true, true, true, false, false, false, false] rfl rfl (QO HT_.out HW_.out (by kernel_rfl)) (fun _ _ _ h => h) (Or.inl ⟨by rfl, ?_⟩) hHeld ?_ ?_
                        rotate_left
                        · rintro w' ⟨s0, s1, s2, s3, s4, s5, s6⟩
                          go_simp
                          with_reducible rfl
                        rotate_left
                        · simp only [Act.put, List.setIfInBounds_toArray, List.set_cons_zero, List.set_cons_succ, zJ, zN]
                          rfl
                        refine one_ (i := 10) (N := some 65) #[true, true, true, true, true, true, true, true, true, true, true, false, false, false] rfl rfl (ZJ HT_.out (by kernel_rfl)) (by decide) (fun K hK => ?_)
                        refine value_ (w1 := ?_) (v := ?_) (by rfl) rfl ?_ ?_
                        rotate_left 2
                        · go_simp
                          constructor
                          · rfl
                          · rfl
                        refine hK.out _ _ ⟨(ql (qi BK214.out _) 0).trans rfl, (ql (qi BK214.out _) 1).trans rfl, (ql (qi BK214.out _) 2).trans rfl, (World.cell?_alloc_lt _ _ _ (World.block_lt_of_cell? _ _ (hHeld.2.2.2.1))).trans (hHeld.2.2.2.1), (World.cell?_alloc_lt _ _ _ (World.block_lt_of_cell? _ _ (hHeld.2.2.2.2.1))).trans (hHeld.2.2.2.2.1), (World.cell?_alloc_lt _ _ _ (World.block_lt_of_cell? _ _ (hHeld.2.2.2.2.2.1))).trans (hHeld.2.2.2.2.2.1), (World.cell?_alloc_lt _ _ _ (World.block_lt_of_cell? _ _ (hHeld.2.2.2.2.2.2))).trans (hHeld.2.2.2.2.2.2)⟩ (fun hHeld => ?_)
                        clear hK K
                        refine norm_ (a' := ?_) ?_ ?_
                        rotate_left
                        · show Act.put _ (some 65) _ = _
                          simp only [Act.put, List.setIfInBounds_toArray, List.set_cons_zero, List.set_cons_succ, zJ, zN]
                          rfl
                        refine last_ (i := 11) (N := some 66) #[true, true, true, true, true, true, true, true, true, true, true, true, false, false] rfl rfl (ZJ HT_.out (by kernel_rfl)) (by decide) (fun K hK => ?_)
                        refine Kd.R_append_step (Kd.int .i64) (w0 := w) w.heap.size (by rfl) (.tmp 56) (.tmp 65) 24 3 (.int .i64 0) 8 rfl Try.underlying24 info3 rfl (by decide) (by omega) u215000 x215000_1 (rd t201 ((qX t204 x13_1).f0)) [.int .i64 (rd t201 ((qX t204 x13_1).f0))] (fun k_ => some k_ ≠ (.slice (some ad216) t201.length co16 : Value).ownBlock) (fun _ => False) rfl rfl ?aP (fun _ hk => hk.elim) ?aF ?aO ?aB ?aS ?aL ?_
                        (case aP => exact rfl)
                        (case aB => exact (by repeat (first | (with_reducible first | exact HB.out | apply qA | apply qx | apply qC | refine qm ?_ GE194.out | refine qm ?_ GE214.out) | exact HB.out)))
                        (case aF => exact (fun k_ hk => Kd.fresh' (Kd.QN (rq HO_10)) k_ hk))
                        (case aO => exact (rq HO_215000))
                        (case aS => exact (qI (by repeat (first | (with_reducible first | exact HB.out | apply qA | apply qx | apply qC | refine qm ?_ GE194.out | refine qm ?_ GE214.out) | exact HB.out))))
                        (case aL => have := LMc28.out; omega)
                        intro v218 w30 ho hb hg hat
                        rw [← Ny217.out] at ho
                        have n0_ := qa.mk (Kd.QT (ok := (fun _ => True)) (by (with_reducible repeat (first | apply Kd.qD | apply Kd.qE | apply Kd.qG)); exact Kd.zi HO_10.out (fun _ hk => ⟨trivial, hk⟩)) hg hat)
                        have n1_ := qa.mk (Kd.jV (rq HO_11) (Kd.Qa (rq HO_215000)) (by decide) hg)
                        have n2_ := qa.mk (jd (g := gb194) (o := .cells #[.slice none 0 0, .int .i64 0, .bool false] 26 (0, 0)) (kq BK194) hg (Kd.jP HO_215000.out BK194.out (by decide)))
                        have n3_ := qa.mk (jd (g := gb214) (o := .cells #[u215000, .int .i64 ((qX t204 0).f1), .bool false] 26 (0, 0)) (kq BK214) hg (Kd.jP HO_215000.out BK214.out (by decide)))
                        have n4_ := qa.mk (hb)
                        have n5_ := qa.mk (ho)
                        clear HO_10
                        clear HO_11
                        clear BK194
                        clear BK214
                        clear HB
                        clear HO_215000
                        have HO_10 := n0_
                        have HO_11 := n1_
                        have BK194 := n2_
                        have BK214 := n3_
                        have HB := n4_
                        have HO219 := n5_
                        clear n0_ n1_ n2_ n3_ n4_ n5_
                        clear ho hb hg hat
                        obtain ⟨Ao31, co31, eo31⟩ := Kd.jo HO219.out
                        (first | subst eo31 | (injection eo31 with f1_ f2_ f3_; have f4_ := f1_.symm; have f5_ := f3_.symm; clear f1_ f2_ f3_; subst f4_; subst f5_))
                        refine hK.out _ _ ?_
                        clear hK K
                        refine norm_ (a' := ?_) ?_ ?_
                        rotate_left
                        · show Act.put _ (some 66) _ = _
                          simp only [Act.put, List.setIfInBounds_toArray, List.set_cons_zero, List.set_cons_succ, zJ, zN]
                          rfl
                        refine jD (i := 12) (N := some 67) (v := ?_) (a' := ?_) #[true, true, true, true, true, true, true, true, true, true, true, true, true, false] rfl rfl (jh HT_.out (by kernel_rfl)) (fun _ _ _ h => h) (Or.inl ⟨by rfl, ?_⟩) ?_ ?_
                        rotate_left
                        · intro w'
                          go_simp
                          with_reducible rfl
                        rotate_left
                        · simp only [Act.put, List.setIfInBounds_toArray, List.set_cons_zero, List.set_cons_succ, zJ, zN]
                          rfl
                        refine last_ (i := 13) (N := none) #[true, true, true, true, true, true, true, true, true, true, true, true, true, true] rfl rfl (ZJ HT_.out (by kernel_rfl)) (by decide) (fun K hK => ?_)
                        have hs32 : w30.cell? ⟨gb214, 0, none⟩ = some (u215000) := (ql BK214.out 0).trans rfl
                        have hfs32 := qg BK214.out 0
                        have hns32_0 := NB194_214.out
                        have hms32_0 := NB214_194.out
                        refine skip_ (w1 := ?_) (by rfl) rfl ?_ ?_
                        rotate_left
                        · go_simp
                          rfl
                        refine hK.out _ _ ?_
                        clear hK K
                        refine done_ (Jr HT_.out (by kernel_rfl)) ?_
                        have p220 : 0 ≤ (x13_1 : Int) := odt
                        have q220 : x13_1 < (t204.length : Int) := odt
                        obtain ⟨ad220, e220, hx220_0, hx220_1, hx220_2⟩ := QV (Kd.zm HO_11.out).2.2 x13_1 p220 q220
                        (try rw [← Nbq10.out] at hx220_2)
                        obtain rfl : ad208 = ad220 := (by injection e220)
                        have hn220_0 : ad208.block ≠ gb214 := Kd.zV (Kd.jP HO_11.out BK214.out (by decide))
                        replace hx220_0 := (cell_far (p := ⟨gb214, 0, none⟩) (by first | (rw [add_block]; exact hn220_0) | (show (Addr.add _ _).block ≠ _; rw [add_block]; exact hn220_0) | exact hn220_0) (.slice Ao31 y217.length co31)).trans hx220_0
                        replace hx220_1 := (cell_far (p := ⟨gb214, 0, none⟩) (by first | (rw [add_block]; exact hn220_0) | (show (Addr.add _ _).block ≠ _; rw [add_block]; exact hn220_0) | exact hn220_0) (.slice Ao31 y217.length co31)).trans hx220_1
                        replace hx220_2 := (cell_far (p := ⟨gb214, 0, none⟩) (by first | (rw [add_block]; exact hn220_0) | (show (Addr.add _ _).block ≠ _; rw [add_block]; exact hn220_0) | exact hn220_0) (.slice Ao31 y217.length co31)).trans hx220_2
                        clear hn220_0
                        replace p220 := eq_true p220
                        replace q220 := eq_true q220
                        try go_wp2
                        go_roundg k1
                        case measure => have := HK1.out; omega
                        case rel => exact ⟨(wrap64 (((qX t204 x13_1).f0) + 1)), (y217), (.slice Ao31 y217.length co31), (by first | rfl | (simp; done) | (simp [*]; done)), H', ⟨by have := HK1.out; omega⟩, ⟨by (with_reducible repeat (first | apply Kd.qD | apply Kd.qE | apply Kd.qG)); exact Kd.zi (Kd.ze (p := ⟨gb214, 0, none⟩) (Kd.zO HO_10.out BK214.out (by decide)) (fun _ hk => hk.2) (.slice Ao31 y217.length co31)) (fun _ hk => hk.1.2)⟩, ⟨by (with_reducible repeat (first | apply Kd.qD | apply Kd.qE | apply Kd.qG)); exact Kd.zi (Kd.ze (p := ⟨gb214, 0, none⟩) (Kd.zO HO_11.out BK214.out (by decide)) (fun _ hk => hk.2) (.slice Ao31 y217.length co31)) (fun _ hk => trivial)⟩, ⟨by (with_reducible repeat (first | apply Kd.qD | apply Kd.qE | apply Kd.qG)); exact Kd.zi (Kd.ze (p := ⟨gb214, 0, none⟩) (Kd.zO HO219.out BK214.out (by decide)) (fun _ hk => hk.2) (.slice Ao31 y217.length co31)) (fun _ hk => hk.1)⟩, ⟨by (with_reducible repeat (first | refine qj ?_ _ | refine qo ?_ | refine qi ?_ _)); refine zF ?_ NB194_214.out _; exact kq BK194⟩, ⟨by (with_reducible repeat (first | refine qj ?_ _ | refine qo ?_ | refine qi ?_ _)); refine qR (cs := #[u215000, .int .i64 ((qX t204 0).f1), .bool false]) ?_ 0 _ rfl; exact kq BK214⟩, ⟨by repeat (first | (with_reducible first | exact HB.out | apply qA | apply qx | apply qC | refine qm ?_ GE194.out | refine qm ?_ GE214.out) | exact HB.out)⟩⟩
                      · rw [if_neg c28] at H
                        exact absurd H (by simp)
                    · rw [if_neg c27] at H
                      exact absurd H (by simp)
                  · rw [if_neg c26] at H
                    exact absurd H (by simp)
                · rw [if_neg c25] at H
                  exact absurd H (by simp)
              · rw [if_neg c24] at H
                exact absurd H (by simp)
            · rw [if_neg c23] at H
              have c23b0 : decide (x13_1 < (t201.length : Int)) = false := decide_eq_false c23
              clear c23
              simp only [Option.some.injEq, Prod.mk.injEq] at H
              obtain ⟨rfl, rfl, rfl, rfl⟩ := H
              have hnb33 := NB214_194.out
              have hnc33 := NB194_214.out
              have hcz34_0 : wr.cell? ⟨gb214, 0, none⟩ = some (u215000) := (ql BK214.out 0).trans rfl
              have hcz34_1 : wr.cell? ⟨gb214, 1, none⟩ = some (.int .i64 ((qX t204 0).f1)) := (ql BK214.out 1).trans rfl
              have hcz34_2 : wr.cell? ⟨gb214, 2, none⟩ = some (.bool false) := (ql BK214.out 2).trans rfl
              have hfz34_0 := qg BK214.out 0
              have hfz34_1 := qg BK214.out 1
              have hfz34_2 := qg BK214.out 2
              obtain ⟨Ao35, co35, eo35⟩ := Kd.jo HO_215000.out
              subst eo35
              have hcz36_0 : wr.cell? ⟨gb194, 0, none⟩ = some (.slice none 0 0) := (ql BK194.out 0).trans rfl
              have hcz36_1 : wr.cell? ⟨gb194, 1, none⟩ = some (.int .i64 0) := (ql BK194.out 1).trans rfl
              have hcz36_2 : wr.cell? ⟨gb194, 2, none⟩ = some (.bool false) := (ql BK194.out 2).trans rfl
              have hfz36_0 := qg BK194.out 0
              have hfz36_1 := qg BK194.out 1
              have hfz36_2 := qg BK194.out 2
              go_wp2
              refine bodyPost_ret (jZ rfl _ _ gb194 26 #[.slice Ao35 x215000_1.length co35, .int .i64 ((qX t204 0).f1), .bool false] (0, 0) _ rfl (by (with_reducible repeat (first | refine qj ?_ _ | refine qo ?_ | refine qi ?_ _)); refine qR (cs := #[.slice Ao35 x215000_1.length co35, .int .i64 ((qX t204 0).f1), .bool false]) ?_ 2 _ rfl; (with_reducible repeat (first | refine qj ?_ _ | refine qo ?_ | refine qi ?_ _)); refine qR (cs := #[.slice Ao35 x215000_1.length co35, .int .i64 0, .bool false]) ?_ 1 _ rfl; (with_reducible repeat (first | refine qj ?_ _ | refine qo ?_ | refine qi ?_ _)); refine qR (cs := #[.slice none 0 0, .int .i64 0, .bool false]) ?_ 0 _ rfl; exact kq BK194) Try.underlying26 rfl (by kernel_rfl)) rfl ?_
              exact ⟨_, by first | rfl | (simp [qN, qM] <;> rfl) | (simp [*, qN, qM] <;> rfl), by (with_reducible repeat (first | apply Kd.qD | apply Kd.qE | apply Kd.qG)); exact Kd.zi (Kd.ze (p := ⟨gb194, 2, none⟩) (Kd.ze (p := ⟨gb194, 1, none⟩) (Kd.ze (p := ⟨gb194, 0, none⟩) (Kd.zO HO_215000.out BK194.out (by decide)) (fun _ hk => hk.2) (.slice Ao35 x215000_1.length co35)) (fun _ hk => hk.2) (.int .i64 ((qX t204 0).f1))) (fun _ hk => hk.2) (.bool false)) (fun _ hk => trivial), by repeat (first | (with_reducible first | exact HB.out | apply qA | apply qx | apply qC | refine qm ?_ GE194.out | refine qm ?_ GE214.out) | exact HB.out)⟩
      · replace c11 := Bool.eq_false_iff.mpr c11
        subst c11
        have H1 : ((qw.f k t196 t197 t198 t207 t201).bind fun bt209 => (some (bt209.1, 0, true, 0))) = some (r1, r2, r3, r4) := by rw [if_neg (show ¬ (false = true) by decide)] at H; exact H
        clear H
        have H := H1
        clear H1
        replace H := Option.bind_eq_some_iff.mp H
        obtain ⟨⟨t209, t212⟩, A370, H⟩ := H
        replace H : (some (t209, 0, true, 0)) = some (r1, r2, r3, r4) := H
        have A37 := qa.mk A370
        clear A370
        simp only [Option.some.injEq, Prod.mk.injEq] at H
        obtain ⟨rfl, rfl, rfl, rfl⟩ := H
        go_enter Try.func13, Try.ntmps13
        go_wp2_with (first | ((with_reducible refine zw (N := 6) rfl ?_); refine zB ?hg (N := 6) ?hd (cs := #[.slice none 0 0, .int .i64 0, .bool false]) (t := 26) ?hr ?_; (case hd => rfl); (case hg => rfl); (case hr => first | (go_simp; done) | (go_simp; rfl)); intro gb194 hg w38 hbox hb; have n0_ := qa.mk (qP (bq HB) hb); have n1_ := qa.mk (hbox); have n2_ := qa.mk ((by rw [hg]; exact (qI (bq HB)) : w.heap.size ≤ gb194)); have n3_ := qa.mk ((by rw [hg]; exact (qI (bq HB)) : w.heap.size ≤ gb194)); clear HB; have HB := n0_; have BK194 := n1_; have GW194 := n2_; have GE194 := n3_; clear n0_ n1_ n2_ n3_; clear hb hbox hg) | ((with_reducible refine zl (f := 27) rfl ?_); refine zM (some 17) rfl rfl Try.func27 (by kernel_rfl) rfl #[.slice A0 l0.length c0, .int .i64 a1, .int .i64 a2] rfl (by (try simp only [List.map_toArray, List.map_cons, List.map_nil]); first | done | rfl | (simp only [List.length_drop, List.length_take]; rfl)) ?_; (with_reducible refine (zG.calls k _ _ l0 a1 a2 t195 _ ?side1 ?side2 A4.out).mono ?_); (case side1 => repeat (first | exact (Kd.zS HR0.out HB.out) | (with_reducible refine Kd.zI ?_ _) | (with_reducible refine Kd.zH ?_ _) | (with_reducible refine Kd.zL ?_))); (case side2 => exact HC0.out); rintro e w39 ⟨rfl, hb⟩; refine ⟨_, rfl, ?_⟩; have n0_ := qa.mk (zD (g := gb194) (o := .cells #[.slice none 0 0, .int .i64 0, .bool false] 26 (0, 0)) (kq BK194) hb); have n1_ := qa.mk (qP (bs HB GE194) hb); clear BK194; clear HB; have BK194 := n0_; have HB := n1_; clear n0_ n1_; (try clear hb); (try clear hb2); (try clear hk); (try clear hi)) | ((with_reducible refine zl (f := 28) rfl ?_); refine zM (some 24) rfl rfl Try.func28 (by kernel_rfl) rfl #[.slice A0 l0.length c0, .int .i64 a1] rfl (by (try simp only [List.map_toArray, List.map_cons, List.map_nil]); first | done | rfl | (simp only [List.length_drop, List.length_take]; rfl)) ?_; (with_reducible refine (jM.calls _ _ l0 a1 t196 t197 t198 t199 w _ ?side1 ?side2 ?side3 A6.out).mono ?_); (case side1 => repeat (first | (with_reducible first | exact HB.out | apply qA | apply qx | apply qC | refine qm ?_ GE194.out) | exact HB.out)); (case side2 => exact HR0.out); (case side3 => exact HC0.out); rintro e w40 ⟨g200, rfl, hi, hb, hb2⟩; refine ⟨_, rfl, ?_⟩; have n0_ := qa.mk (zD (g := gb194) (o := .cells #[.slice none 0 0, .int .i64 0, .bool false] 26 (0, 0)) (kq BK194) hb2); have n1_ := qa.mk (hb); have n2_ := qa.mk (hi); have n3_ := qa.mk (zy.ZP hi (zD (g := gb194) (o := .cells #[.slice none 0 0, .int .i64 0, .bool false] 26 (0, 0)) (kq BK194) hb2) (by decide)); have n4_ := qa.mk (Ne.symm (zy.ZP hi (zD (g := gb194) (o := .cells #[.slice none 0 0, .int .i64 0, .bool false] 26 (0, 0)) (kq BK194) hb2) (by decide))); clear BK194; clear HB; have BK194 := n0_; have HB := n1_; have HI200 := n2_; have NB200_194 := n3_; have NB194_200 := n4_; clear n0_ n1_ n2_ n3_ n4_; (try clear hb); (try clear hb2); (try clear hk); (try clear hi)) | ((with_reducible refine zl (f := 29) rfl ?_); refine zM (some 26) rfl rfl Try.func29 (by kernel_rfl) rfl #[.slice A0 l0.length c0] rfl (by (try simp only [List.map_toArray, List.map_cons, List.map_nil]); first | done | rfl | (simp only [List.length_drop, List.length_take]; rfl)) ?_; (with_reducible refine (zh.calls k _ _ l0 t201 _ ?side1 ?side2 A7.out).mono ?_); (case side1 => repeat (first | exact (Kd.zS HR0.out HB.out) | (with_reducible refine Kd.zI ?_ _) | (with_reducible refine Kd.zH ?_ _) | (with_reducible refine Kd.zL ?_))); (case side2 => exact HC0.out); rintro e w41 ⟨v202, rfl, ho0, hb⟩; refine ⟨_, rfl, ?_⟩; have n0_ := qa.mk (Kd.jm ho0 (qI (by repeat (first | (with_reducible first | exact HB.out | apply qA | apply qx | apply qC | refine qm ?_ (zy.ge HI200.out) | refine qm ?_ GE194.out) | exact HB.out)))); have n1_ := qa.mk (zD (g := gb194) (o := .cells #[.slice none 0 0, .int .i64 0, .bool false] 26 (0, 0)) (kq BK194) hb); have n2_ := qa.mk (zy.below (by repeat (first | (with_reducible first | exact HI200.out | apply zy.alloc | apply zy.drewN | apply zy.drew | apply zy.qO) | exact HI200.out)) hb); have n3_ := qa.mk (qP (by repeat (first | (with_reducible first | exact HB.out | apply qA | apply qx | apply qC | refine qm ?_ (zy.ge HI200.out) | refine qm ?_ GE194.out) | exact HB.out)) hb); clear BK194; clear HI200; clear HB; have HO203 := n0_; have BK194 := n1_; have HI200 := n2_; have HB := n3_; clear n0_ n1_ n2_ n3_; (try clear hb); (try clear hb2); (try clear hk); (try clear hi); (try clear ho0); obtain ⟨Ao42, co42, eo42⟩ := Kd.jo HO203.out; subst eo42) | ((with_reducible refine zl (f := 30) rfl ?_); refine zM (some 30) rfl rfl Try.func30 (by kernel_rfl) rfl #[.pointer (some ⟨g200, 0, none⟩), .slice Ao42 t201.length co42, .int .i64 a2] rfl (by (try simp only [List.map_toArray, List.map_cons, List.map_nil]); first | done | rfl | (simp only [List.length_drop, List.length_take]; rfl)) ?_; (with_reducible refine (qd.Jk k g200 t196 t197 t198 t199 _ _ t201 a2 t204 t207 w _ ?side1 ?side2 ?side3 ?side4 ?side5 A8.out).mono ?_); (case side1 => repeat (first | (with_reducible first | exact HI200.out | apply zy.alloc | apply zy.drewN | apply zy.drew | apply zy.qO) | exact HI200.out)); (case side2 => repeat (first | (with_reducible first | exact HB.out | apply qA | apply qx | apply qC | refine qm ?_ (zy.ge HI200.out) | refine qm ?_ GE194.out) | exact HB.out)); (case side3 => repeat (first | exact (Kd.zm HO203.out).2.2 | (with_reducible refine Kd.zI ?_ _) | (with_reducible refine Kd.zH ?_ _) | (with_reducible refine Kd.zL ?_))); (case side4 => exact (Kd.zm HO203.out).2.1); (case side5 => exact Z9 (zy.own_ne HI200.out HO203.out (by decide))); rintro e w43 ⟨v205, rfl, ho0, hi, hb, hk⟩; refine ⟨_, rfl, ?_⟩; have n0_ := qa.mk (qh.blk hk (g' := gb194) (o := .cells #[.slice none 0 0, .int .i64 0, .bool false] 26 (0, 0)) (kq BK194) NB194_200.out (by simp)); have n1_ := qa.mk (Kd.zi (Kd.jy (zy.apart (show zy w _ g200 t196 t197 t198 t199 from by repeat (first | (with_reducible first | exact HI200.out | apply zy.alloc | apply zy.drewN | apply zy.drew | apply zy.qO) | exact HI200.out)) (rq HO203) (by decide)) hk (fun _ h => h.2)) (fun _ h => h.1)); have n2_ := qa.mk (Kd.jm ho0 (qI (by repeat (first | (with_reducible first | exact HB.out | apply qA | apply qx | apply qC | refine qm ?_ (zy.ge HI200.out) | refine qm ?_ GE194.out) | exact HB.out)))); have n3_ := qa.mk (hb); have n4_ := qa.mk (hi); clear BK194; clear HO203; clear HB; clear HI200; have BK194 := n0_; have HO203 := n1_; have HO206 := n2_; have HB := n3_; have HI200 := n4_; clear n0_ n1_ n2_ n3_ n4_; (try clear hb); (try clear hb2); (try clear hk); (try clear hi); (try clear ho0); obtain ⟨Ao44, co44, eo44⟩ := Kd.jo HO206.out; subst eo44; have p208 : 0 ≤ (0 : Int) := (by omega); have q208 : 0 < (t204.length : Int) := odt; obtain ⟨ad208, e208, hx208_0, hx208_1, hx208_2⟩ := QV (Kd.zm HO206.out).2.2 0 p208 q208; (try rw [← Nbq10.out] at hx208_2); cases e208; have qi208 : (0 < t204.length) = True := eq_true (by omega); (try rw [show ((0 : Int)).toNat = 0 from rfl] at hx208_0); (try rw [show 0 * 3 = 0 from rfl] at hx208_0); (try rw [Addr.add_zero'] at hx208_0); (try rw [show ((0 : Int)).toNat = 0 from rfl] at hx208_1); (try rw [show 0 * 3 = 0 from rfl] at hx208_1); (try rw [Addr.add_zero'] at hx208_1); (try rw [show ((0 : Int)).toNat = 0 from rfl] at hx208_2); (try rw [show 0 * 3 = 0 from rfl] at hx208_2); (try rw [Addr.add_zero'] at hx208_2); replace p208 := eq_true p208; replace q208 := eq_true q208) | ((with_reducible refine zl (f := 31) rfl ?_); refine zM (some 38) rfl rfl Try.func31 (by kernel_rfl) rfl #[.pointer (some ⟨g200, 0, none⟩), .slice Ao42 t201.length co42] rfl (by (try simp only [List.map_toArray, List.map_cons, List.map_nil]); first | done | rfl | (simp only [List.length_drop, List.length_take]; rfl)) ?_; (with_reducible refine (qw.Jk k g200 t196 t197 t198 t207 _ _ t201 t209 t212 w _ ?side1 ?side2 ?side3 ?side4 ?side5 A37.out).mono ?_); (case side1 => repeat (first | (with_reducible first | exact HI200.out | apply zy.alloc | apply zy.drewN | apply zy.drew | apply zy.qO) | exact HI200.out)); (case side2 => repeat (first | (with_reducible first | exact HB.out | apply qA | apply qx | apply qC | refine qm ?_ (zy.ge HI200.out) | refine qm ?_ GE194.out) | exact HB.out)); (case side3 => repeat (first | exact (Kd.zm HO203.out).2.2 | (with_reducible refine Kd.zI ?_ _) | (with_reducible refine Kd.zH ?_ _) | (with_reducible refine Kd.zL ?_))); (case side4 => exact (Kd.zm HO203.out).2.1); (case side5 => exact Z9 (zy.own_ne HI200.out HO203.out (by decide))); rintro e w45 ⟨v210, rfl, ho0, hi, hb, hk⟩; refine ⟨_, rfl, ?_⟩; have n0_ := qa.mk (qh.blk hk (g' := gb194) (o := .cells #[.slice none 0 0, .int .i64 0, .bool false] 26 (0, 0)) (kq BK194) NB194_200.out (by simp)); have n1_ := qa.mk (Kd.zi (Kd.R_told (Kd.R_oldK (zy.apart (show zy w _ g200 t196 t197 t198 t207 from by repeat (first | (with_reducible first | exact HI200.out | apply zy.alloc | apply zy.drewN | apply zy.drew | apply zy.qO) | exact HI200.out)) (rq HO203) (by decide)) hk) (Kd.Qu ho0)) (fun _ h_ => h_.1)); have n2_ := qa.mk (Kd.zi (Kd.jy (zy.apart (show zy w _ g200 t196 t197 t198 t207 from by repeat (first | (with_reducible first | exact HI200.out | apply zy.alloc | apply zy.drewN | apply zy.drew | apply zy.qO) | exact HI200.out)) (rq HO206) (by decide)) hk (fun _ h => h.2)) (fun _ h => h.1)); have n3_ := qa.mk (Kd.jm (Kd.QA ho0 (Kd.QN (rq HO203))) (qI (by repeat (first | (with_reducible first | exact HB.out | apply qA | apply qx | apply qC | refine qm ?_ (zy.ge HI200.out) | refine qm ?_ GE194.out) | exact HB.out)))); have n4_ := qa.mk (hb); have n5_ := qa.mk (hi); clear BK194; clear HO203; clear HO206; clear HB; clear HI200; have BK194 := n0_; have HO203 := n1_; have HO206 := n2_; have HO211 := n3_; have HB := n4_; have HI200 := n5_; clear n0_ n1_ n2_ n3_ n4_ n5_; (try clear hb); (try clear hb2); (try clear hk); (try clear hi); (try clear ho0); obtain ⟨Ao46, co46, eo46⟩ := Kd.jo HO211.out; subst eo46; have hnb47 := NB194_200.out; have hnc47 := NB200_194.out; have hcz48_0 : w45.cell? ⟨gb194, 0, none⟩ = some (.slice none 0 0) := (ql BK194.out 0).trans rfl; have hcz48_1 : w45.cell? ⟨gb194, 1, none⟩ = some (.int .i64 0) := (ql BK194.out 1).trans rfl; have hcz48_2 : w45.cell? ⟨gb194, 2, none⟩ = some (.bool false) := (ql BK194.out 2).trans rfl; have hfz48_0 := qg BK194.out 0; have hfz48_1 := qg BK194.out 1; have hfz48_2 := qg BK194.out 2))
        refine bodyPost_ret (jZ rfl _ _ gb194 26 #[.slice Ao46 t209.length co46, .int .i64 0, .bool true] (0, 0) _ rfl (by (with_reducible repeat (first | refine qj ?_ _ | refine qo ?_ | refine qi ?_ _)); refine qR (cs := #[.slice Ao46 t209.length co46, .int .i64 0, .bool false]) ?_ 2 _ rfl; (with_reducible repeat (first | refine qj ?_ _ | refine qo ?_ | refine qi ?_ _)); refine qR (cs := #[.slice Ao46 t209.length co46, .int .i64 0, .bool false]) ?_ 1 _ rfl; (with_reducible repeat (first | refine qj ?_ _ | refine qo ?_ | refine qi ?_ _)); refine qR (cs := #[.slice none 0 0, .int .i64 0, .bool false]) ?_ 0 _ rfl; exact kq BK194) Try.underlying26 rfl (by kernel_rfl)) rfl ?_
        exact ⟨_, by first | rfl | (simp [qN, qM] <;> rfl) | (simp [*, qN, qM] <;> rfl), by (with_reducible repeat (first | apply Kd.qD | apply Kd.qE | apply Kd.qG)); exact Kd.zi (Kd.ze (p := ⟨gb194, 2, none⟩) (Kd.ze (p := ⟨gb194, 1, none⟩) (Kd.ze (p := ⟨gb194, 0, none⟩) (Kd.zO HO211.out BK194.out (by decide)) (fun _ hk => hk.2) (.slice Ao46 t209.length co46)) (fun _ hk => hk.2) (.int .i64 0)) (fun _ hk => hk.2) (.bool true)) (fun _ hk => trivial), by repeat (first | (with_reducible first | exact HB.out | apply qA | apply qx | apply qC | refine qm ?_ (zy.ge HI200.out) | refine qm ?_ GE194.out) | exact HB.out)⟩
    · rw [if_neg c9] at H
      exact absurd H (by simp)
  · rw [if_neg c5] at H
    have c5b0 : (t195 == 0) = false := beq_eq_false_iff_ne.mpr c5
    have c5b1 : (t195 != 0) = true := bne_iff_ne.mpr c5
    simp only [Option.some.injEq, Prod.mk.injEq] at H
    obtain ⟨rfl, rfl, rfl, rfl⟩ := H
    go_enter Try.func13, Try.ntmps13
    go_wp2_with (first | ((with_reducible refine zw (N := 6) rfl ?_); refine zB ?hg (N := 6) ?hd (cs := #[.slice none 0 0, .int .i64 0, .bool false]) (t := 26) ?hr ?_; (case hd => rfl); (case hg => rfl); (case hr => first | (go_simp; done) | (go_simp; rfl)); intro gb194 hg w49 hbox hb; have n0_ := qa.mk (qP (bq HB) hb); have n1_ := qa.mk (hbox); have n2_ := qa.mk ((by rw [hg]; exact (qI (bq HB)) : w.heap.size ≤ gb194)); have n3_ := qa.mk ((by rw [hg]; exact (qI (bq HB)) : w.heap.size ≤ gb194)); clear HB; have HB := n0_; have BK194 := n1_; have GW194 := n2_; have GE194 := n3_; clear n0_ n1_ n2_ n3_; clear hb hbox hg) | ((with_reducible refine zl (f := 27) rfl ?_); refine zM (some 17) rfl rfl Try.func27 (by kernel_rfl) rfl #[.slice A0 l0.length c0, .int .i64 a1, .int .i64 a2] rfl (by (try simp only [List.map_toArray, List.map_cons, List.map_nil]); first | done | rfl | (simp only [List.length_drop, List.length_take]; rfl)) ?_; (with_reducible refine (zG.calls k _ _ l0 a1 a2 t195 _ ?side1 ?side2 A4.out).mono ?_); (case side1 => repeat (first | exact (Kd.zS HR0.out HB.out) | (with_reducible refine Kd.zI ?_ _) | (with_reducible refine Kd.zH ?_ _) | (with_reducible refine Kd.zL ?_))); (case side2 => exact HC0.out); rintro e w50 ⟨rfl, hb⟩; refine ⟨_, rfl, ?_⟩; have n0_ := qa.mk (zD (g := gb194) (o := .cells #[.slice none 0 0, .int .i64 0, .bool false] 26 (0, 0)) (kq BK194) hb); have n1_ := qa.mk (qP (bs HB GE194) hb); clear BK194; clear HB; have BK194 := n0_; have HB := n1_; clear n0_ n1_; (try clear hb); (try clear hb2); (try clear hk); (try clear hi); have hcz51_0 : w50.cell? ⟨gb194, 0, none⟩ = some (.slice none 0 0) := (ql BK194.out 0).trans rfl; have hcz51_1 : w50.cell? ⟨gb194, 1, none⟩ = some (.int .i64 0) := (ql BK194.out 1).trans rfl; have hcz51_2 : w50.cell? ⟨gb194, 2, none⟩ = some (.bool false) := (ql BK194.out 2).trans rfl; have hfz51_0 := qg BK194.out 0; have hfz51_1 := qg BK194.out 1; have hfz51_2 := qg BK194.out 2))
    refine bodyPost_ret (jZ rfl _ _ gb194 26 #[.slice none 0 0, .int .i64 0, .bool false] (0, 0) _ rfl (by (with_reducible repeat (first | refine qj ?_ _ | refine qo ?_ | refine qi ?_ _)); refine qR (cs := #[.slice none 0 0, .int .i64 0, .bool false]) ?_ 2 _ rfl; (with_reducible repeat (first | refine qj ?_ _ | refine qo ?_ | refine qi ?_ _)); refine qR (cs := #[.slice none 0 0, .int .i64 0, .bool false]) ?_ 1 _ rfl; (with_reducible repeat (first | refine qj ?_ _ | refine qo ?_ | refine qi ?_ _)); refine qR (cs := #[.slice none 0 0, .int .i64 0, .bool false]) ?_ 0 _ rfl; exact kq BK194) Try.underlying26 rfl (by kernel_rfl)) rfl ?_
    exact ⟨_, by first | rfl | (simp [qN, qM] <;> rfl) | (simp [*, qN, qM] <;> rfl), by first | exact Kd.Zm _ _ _ _ _ | exact Kd.N_nil _ _ _ _ _ | exact Kd.V_nil _ _ _ _ _ | exact Kd.Q_nil _ _ _ _ _ | exact Kd.S_nil _ _ _ _ _, bs HB GE194⟩
end Go.Proofs.Ytfbanppdiglciaa.X
