-- written by a program of this session (wip/xprint.py) over the kit's print
import Derived.Test.YtfbanppdiglciaaYx0
namespace Go.Proofs.Ytfbanppdiglciaa.Y
open Go.RowKit Go.Proofs.YtfbanppdiglciaaW.PrintWords Go.Proofs.YtfbanppdiglciaaW.PrintLast Go.Proofs.YtfbanppdiglciaaW.PrintMore
attribute [local go_sem] max2_int min2_int max_two min_two max_three min_three max_four min_four   -- for this text's walks alone
set_option linter.unusedVariables false
set_option linter.unusedSimpArgs false

/-- A state of type 79 at block g of W; what its slices lead to came in by w0. -/
def IsS79 (w0 W : World) (g : Nat) (f0 : List (S31)) (f1 : List (S81)) (f2 : List Int) (f3 : Int) : Prop := ∃ A0 c0, ∃ A1 c1, ∃ A2 c2, W.heap[g]? = some (.cells #[.slice A0 f0.length c0, .slice A1 f1.length c1, .slice A2 f2.length c2, .int .i64 f3] 79 (0, 0)) ∧ w0.heap.size ≤ g ∧ Kd.C k31 w0 A0 f0.length f0 ∧ Kd.C k81 w0 A1 f1.length f1 ∧ Kd.C (Kd.int .i64) w0 A2 f2.length f2
theorem IsS79.grown {w0 W : World} {g : Nat} {f0 : List (S31)} {f1 : List (S81)} {f2 : List Int} {f3 : Int} {W1 : World} {row : Option Nat} (h : IsS79 w0 W g f0 f1 f2 f3) (hw : W.grownBy W1 row) (hne : some g ≠ row) : IsS79 w0 W1 g f0 f1 f2 f3 := by
 obtain ⟨A0, c0, A1, c1, A2, c2, hb, hg, hr0, hr1, hr2⟩ := h
 exact ⟨A0, c0, A1, c1, A2, c2, blk_grown hb hw hne, hg, hr0, hr1, hr2⟩
theorem IsS79.own_neN {w0 W : World} {g : Nat} {f0 : List (S31)} {f1 : List (S81)} {f2 : List Int} {f3 : Int} {α : Type} {d : Kd α} {e : Nat} {base : Nat} {ok : Nat → Prop} {v : Value} {xs : List α} (h : IsS79 w0 W g f0 f1 f2 f3) (ho : Kd.N d e W base ok v xs) (ht : e ≠ 79) : some g ≠ v.ownBlock := by
 obtain ⟨A0, c0, A1, c1, A2, c2, hb, hg, hr0, hr1, hr2⟩ := h
 exact Kd.N_ne ho hb ht
theorem IsS79.fresh {w0 W : World} {g : Nat} {f0 : List (S31)} {f1 : List (S81)} {f2 : List Int} {f3 : Int} (h : IsS79 w0 W g f0 f1 f2 f3) : ∀ k, W.heap.size ≤ k → k ≠ g := by
 obtain ⟨A0, c0, A1, c1, A2, c2, hb, hg, hr0, hr1, hr2⟩ := h
 exact Kd.freshB hb
theorem IsS79.kept {w0 W : World} {g : Nat} {f0 : List (S31)} {f1 : List (S81)} {f2 : List Int} {f3 : Int} {W1 : World} {S : Nat → Prop} (h : IsS79 w0 W g f0 f1 f2 f3) (hk : Kept W W1 S) (hne : ¬ S g) : IsS79 w0 W1 g f0 f1 f2 f3 := by
 obtain ⟨A0, c0, A1, c1, A2, c2, hb, hg, hr0, hr1, hr2⟩ := h
 exact ⟨A0, c0, A1, c1, A2, c2, blk_kept hb hk hne, hg, hr0, hr1, hr2⟩
theorem IsS79.below {w0 W : World} {g : Nat} {f0 : List (S31)} {f1 : List (S81)} {f2 : List Int} {f3 : Int} {W1 : World} (h : IsS79 w0 W g f0 f1 f2 f3) (hw : Below W.heap.size W W1) : IsS79 w0 W1 g f0 f1 f2 f3 := h.grown (grown_of_below hw none) (by simp)
theorem IsS79.alloc {w0 W : World} {g : Nat} {f0 : List (S31)} {f1 : List (S81)} {f2 : List Int} {f3 : Int} (h : IsS79 w0 W g f0 f1 f2 f3) (o : Obj) : IsS79 w0 (W.alloc o) g f0 f1 f2 f3 := h.below (below_alloc (Below.refl _ _) o)
theorem IsS79.drewN {w0 W : World} {g : Nat} {f0 : List (S31)} {f1 : List (S81)} {f2 : List Int} {f3 : Int} (h : IsS79 w0 W g f0 f1 f2 f3) (m : Nat) : IsS79 w0 (W.drewN m) g f0 f1 f2 f3 := h
theorem IsS79.drew {w0 W : World} {g : Nat} {f0 : List (S31)} {f1 : List (S81)} {f2 : List Int} {f3 : Int} (h : IsS79 w0 W g f0 f1 f2 f3) : IsS79 w0 W.drew g f0 f1 f2 f3 := h
theorem IsS79.at_ {w0 W : World} {g : Nat} {f0 : List (S31)} {f1 : List (S81)} {f2 : List Int} {f3 : Int} {w' : World} {m : Nat} (hq : W.drewN m = w') (h : IsS79 w0 W g f0 f1 f2 f3) : IsS79 w0 w' g f0 f1 f2 f3 := by subst hq; exact IsS79.drewN h m
theorem IsS79.apart {w0 W : World} {g : Nat} {f0 : List (S31)} {f1 : List (S81)} {f2 : List Int} {f3 : Int} {α : Type} {d : Kd α} {e : Nat} {base : Nat} {ok : Nat → Prop} {v : Value} {xs : List α} (h : IsS79 w0 W g f0 f1 f2 f3) (ho : d.R e W base ok v xs) (ht : ∀ q, q ∈ e :: d.E → q ≠ 79) : d.R e W base (fun k => ok k ∧ k ≠ g) v xs := by
 obtain ⟨A0, c0, A1, c1, A2, c2, hb, hg, hr0, hr1, hr2⟩ := h
 exact Kd.R_types ho hb ht
theorem IsS79.own_ne {w0 W : World} {g : Nat} {f0 : List (S31)} {f1 : List (S81)} {f2 : List Int} {f3 : Int} {α : Type} {d : Kd α} {e : Nat} {base : Nat} {ok : Nat → Prop} {v : Value} {xs : List α} (h : IsS79 w0 W g f0 f1 f2 f3) (ho : d.R e W base ok v xs) (ht : e ≠ 79) : some g ≠ v.ownBlock := by
 obtain ⟨A0, c0, A1, c1, A2, c2, hb, hg, hr0, hr1, hr2⟩ := h
 exact Kd.R_ne ho hb ht
theorem IsS79.apartQ {w0 W : World} {g : Nat} {f0 : List (S31)} {f1 : List (S81)} {f2 : List Int} {f3 : Int} {α : Type} {d : Kd α} {e : Nat} {base : Nat} {ok : Nat → Prop} {v : Value} {xs : List α} (h : IsS79 w0 W g f0 f1 f2 f3) (ho : d.Q e W base ok v xs) (ht : ∀ q, q ∈ e :: d.E → q ≠ 79) : d.Q e W base (fun k => ok k ∧ k ≠ g) v xs := by
 obtain ⟨A0, c0, A1, c1, A2, c2, hb, hg, hr0, hr1, hr2⟩ := h
 exact Kd.Q_types ho hb ht
theorem IsS79.own_neQ {w0 W : World} {g : Nat} {f0 : List (S31)} {f1 : List (S81)} {f2 : List Int} {f3 : Int} {α : Type} {d : Kd α} {e : Nat} {base : Nat} {ok : Nat → Prop} {v : Value} {xs : List α} (h : IsS79 w0 W g f0 f1 f2 f3) (ho : d.Q e W base ok v xs) (ht : e ≠ 79) : some g ≠ v.ownBlock := by
 obtain ⟨A0, c0, A1, c1, A2, c2, hb, hg, hr0, hr1, hr2⟩ := h
 exact Kd.Q_ne ho hb ht
theorem IsS79.apartS {w0 W : World} {g : Nat} {f0 : List (S31)} {f1 : List (S81)} {f2 : List Int} {f3 : Int} {α : Type} {d : Kd α} {e : Nat} {base : Nat} {ok : Nat → Prop} {v : Value} {xs : List α} (h : IsS79 w0 W g f0 f1 f2 f3) (ho : d.S e W base ok v xs) (ht : ∀ q, q ∈ e :: d.E → q ≠ 79) : d.S e W base (fun k => ok k ∧ k ≠ g) v xs := by
 obtain ⟨A0, c0, A1, c1, A2, c2, hb, hg, hr0, hr1, hr2⟩ := h
 exact Kd.S_types ho hb ht
theorem IsS79.own_neS {w0 W : World} {g : Nat} {f0 : List (S31)} {f1 : List (S81)} {f2 : List Int} {f3 : Int} {α : Type} {d : Kd α} {e : Nat} {base : Nat} {ok : Nat → Prop} {v : Value} {xs : List α} (h : IsS79 w0 W g f0 f1 f2 f3) (ho : d.S e W base ok v xs) (ht : e ≠ 79) : some g ≠ v.ownBlock := by
 obtain ⟨A0, c0, A1, c1, A2, c2, hb, hg, hr0, hr1, hr2⟩ := h
 exact Kd.S_ne ho hb ht
theorem IsS79.lt {w0 W : World} {g : Nat} {f0 : List (S31)} {f1 : List (S81)} {f2 : List Int} {f3 : Int} (h : IsS79 w0 W g f0 f1 f2 f3) : g < W.heap.size := by
 obtain ⟨A0, c0, A1, c1, A2, c2, hb, hg, hr0, hr1, hr2⟩ := h
 exact blk_lt hb
theorem IsS79.ge {w0 W : World} {g : Nat} {f0 : List (S31)} {f1 : List (S81)} {f2 : List Int} {f3 : Int} (h : IsS79 w0 W g f0 f1 f2 f3) : w0.heap.size ≤ g := by
 obtain ⟨A0, c0, A1, c1, A2, c2, hb, hg, hr0, hr1, hr2⟩ := h
 exact hg
theorem IsS79.ne_blk {w0 W : World} {g : Nat} {f0 : List (S31)} {f1 : List (S81)} {f2 : List Int} {f3 : Int} {a : Nat} {cs : Array Value} {t : TypeId} {fr : Nat × Nat} (h : IsS79 w0 W g f0 f1 f2 f3) (hb2 : W.heap[a]? = some (.cells cs t fr)) (ht : t ≠ 79) : g ≠ a := by
 obtain ⟨A0, c0, A1, c1, A2, c2, hb, hg, hr0, hr1, hr2⟩ := h
 rintro rfl
 rw [hb] at hb2
 injection hb2 with hb2
 injection hb2 with _ ht2
 exact ht ht2.symm
theorem IsS79.far {w0 W : World} {g : Nat} {f0 : List (S31)} {f1 : List (S81)} {f2 : List Int} {f3 : Int} {p : Addr} (h : IsS79 w0 W g f0 f1 f2 f3) (hne : g ≠ p.block) (u : Value) : IsS79 w0 (W.setCell p u) g f0 f1 f2 f3 := by
 obtain ⟨A0, c0, A1, c1, A2, c2, hb, hg, hr0, hr1, hr2⟩ := h
 exact ⟨A0, c0, A1, c1, A2, c2, blk_far hb hne u, hg, hr0, hr1, hr2⟩
theorem cellS79_0 {W : World} {g : Nat} {A0 : Option Addr} {c0 : Nat} {A1 : Option Addr} {c1 : Nat} {A2 : Option Addr} {c2 : Nat} {f0 : List (S31)} {f1 : List (S81)} {f2 : List Int} {f3 : Int} (h : W.heap[g]? = some (.cells #[.slice A0 f0.length c0, .slice A1 f1.length c1, .slice A2 f2.length c2, .int .i64 f3] 79 (0, 0))) : W.cell? ⟨g, 0, none⟩ = some (.slice A0 f0.length c0) := (blk_cell h 0).trans rfl
theorem cellS79_1 {W : World} {g : Nat} {A0 : Option Addr} {c0 : Nat} {A1 : Option Addr} {c1 : Nat} {A2 : Option Addr} {c2 : Nat} {f0 : List (S31)} {f1 : List (S81)} {f2 : List Int} {f3 : Int} (h : W.heap[g]? = some (.cells #[.slice A0 f0.length c0, .slice A1 f1.length c1, .slice A2 f2.length c2, .int .i64 f3] 79 (0, 0))) : W.cell? ⟨g, 1, none⟩ = some (.slice A1 f1.length c1) := (blk_cell h 1).trans rfl
theorem cellS79_2 {W : World} {g : Nat} {A0 : Option Addr} {c0 : Nat} {A1 : Option Addr} {c1 : Nat} {A2 : Option Addr} {c2 : Nat} {f0 : List (S31)} {f1 : List (S81)} {f2 : List Int} {f3 : Int} (h : W.heap[g]? = some (.cells #[.slice A0 f0.length c0, .slice A1 f1.length c1, .slice A2 f2.length c2, .int .i64 f3] 79 (0, 0))) : W.cell? ⟨g, 2, none⟩ = some (.slice A2 f2.length c2) := (blk_cell h 2).trans rfl
theorem cellS79_3 {W : World} {g : Nat} {A0 : Option Addr} {c0 : Nat} {A1 : Option Addr} {c1 : Nat} {A2 : Option Addr} {c2 : Nat} {f0 : List (S31)} {f1 : List (S81)} {f2 : List Int} {f3 : Int} (h : W.heap[g]? = some (.cells #[.slice A0 f0.length c0, .slice A1 f1.length c1, .slice A2 f2.length c2, .int .i64 f3] 79 (0, 0))) : W.cell? ⟨g, 3, none⟩ = some (.int .i64 f3) := (blk_cell h 3).trans rfl
theorem IsS79.set_3 {w0 W : World} {g : Nat} {f0 : List (S31)} {f1 : List (S81)} {f2 : List Int} {f3 : Int} (h : IsS79 w0 W g f0 f1 f2 f3) (x : Int) : IsS79 w0 (W.setCell ⟨g, 3, none⟩ (.int .i64 x)) g f0 f1 f2 x := by
 obtain ⟨A0, c0, A1, c1, A2, c2, hb, hg, hr0, hr1, hr2⟩ := h
 exact ⟨A0, c0, A1, c1, A2, c2, by simpa using blk_set hb 3 (.int .i64 x), hg, hr0, hr1, hr2⟩
theorem IsS79.new (w0 W : World) (A0 : Option Addr) (c0 : Nat) (A1 : Option Addr) (c1 : Nat) (A2 : Option Addr) (c2 : Nat) (f0 : List (S31)) (f1 : List (S81)) (f2 : List Int) (f3 : Int) (hB : Below w0.heap.size w0 W) (hr0 : Kd.C k31 w0 A0 f0.length f0) (hr1 : Kd.C k81 w0 A1 f1.length f1) (hr2 : Kd.C (Kd.int .i64) w0 A2 f2.length f2) : IsS79 w0 (W.alloc (.cells #[.slice A0 f0.length c0, .slice A1 f1.length c1, .slice A2 f2.length c2, .int .i64 f3] 79)) W.heap.size f0 f1 f2 f3 := ⟨A0, c0, A1, c1, A2, c2, by simpa using heap_alloc_new W _, hB.size, hr0, hr1, hr2⟩

/-! ### ahead of optimal_paragraph_fit -/
theorem x_block_add (a : Addr) (n : Nat) : (a.add n).block = a.block := by unfold Addr.add; split <;> rfl
theorem x_cell_alloc (w : World) (o : Obj) (a : Addr) (h : a.block < w.heap.size) : (w.alloc o).cell? a = w.cell? a := World.cell?_alloc_lt w o a h
section
attribute [local go_sem] max2_int min2_int max_two min_two x_block_add x_cell_alloc
set_option maxHeartbeats 8000000 in
set_option maxRecDepth 100000 in
theorem line_walk1 (g : Nat) (ad1 ad2 : Addr) (n0 c0 n1 c1 n2 c2 : Nat) (a1 a2 m b aw as_ ah bw bs bh : Int) (w0 w : World) (x0 : List S31) (x1 : List S81) (x2 : List Int) (x3 : Int)
  (g0 : g < w.heap.size) (g1 : g < w.heap.size + 1) (g2 : g < w.heap.size + 1 + 1) (g3 : g < w.heap.size + 1 + 1 + 1) (g4 : g < w.heap.size + 1 + 1 + 1 + 1) (e0 : ad1.block < w.heap.size) (e1 : ad1.block < w.heap.size + 1) (e2 : ad1.block < w.heap.size + 1 + 1) (e3 : ad1.block < w.heap.size + 1 + 1 + 1) (e4 : ad1.block < w.heap.size + 1 + 1 + 1 + 1) (f0 : ad2.block < w.heap.size) (f1 : ad2.block < w.heap.size + 1) (f2 : ad2.block < w.heap.size + 1 + 1) (f3 : ad2.block < w.heap.size + 1 + 1 + 1) (f4 : ad2.block < w.heap.size + 1 + 1 + 1 + 1)
  (k1 : w.cell? ⟨g, 1, none⟩ = some (.slice (some ad1) n1 c1)) (k2 : w.cell? ⟨g, 2, none⟩ = some (.slice (some ad2) n2 c2))
  (p1 : 0 ≤ a1 + 1) (p2 : a1 + 1 < (n2 : Int)) (p3 : a1 ≤ 9223372036854775806) (p4 : -9223372036854775808 ≤ a1) (q1 : 0 ≤ a2) (q2 : a2 < (n1 : Int)) (A0 : Option Addr) (q3 : (n0 : Int) ≤ a2) (k0 : w.cell? ⟨g, 0, none⟩ = some (.slice A0 n0 c0))
  (hb : w.cell? (ad2.add (a1 + 1).toNat) = some (.int .i64 b)) (hm1 : 0 ≤ m) (hm2 : m < (n1 : Int)) (hm : (if a2 < b then a2 else b) = m)
  (ha0 : w.cell? (ad1.add (m.toNat * 3)) = some (.int .i64 aw)) (ha1 : w.cell? ⟨ad1.block, (ad1.add (m.toNat * 3)).off + 1, none⟩ = some (.int .i64 as_)) (ha2 : w.cell? ⟨ad1.block, (ad1.add (m.toNat * 3)).off + 2, none⟩ = some (.int .i64 ah))
  (hb0 : w.cell? (ad1.add (a2.toNat * 3)) = some (.int .i64 bw)) (hb1 : w.cell? ⟨ad1.block, (ad1.add (a2.toNat * 3)).off + 1, none⟩ = some (.int .i64 bs)) (hb2 : w.cell? ⟨ad1.block, (ad1.add (a2.toNat * 3)).off + 2, none⟩ = some (.int .i64 bh))
  (HI : Aside0 (IsS79 w0 w g x0 x1 x2 x3)) (HB : Aside0 (Below w0.heap.size w0 w)) :
  Calls Try.prog 44 #[.pointer (some ⟨g, 0, none⟩), .int .i64 a1, .int .i64 a2] w fun e w' => e = .returned (.agg #[.int .i64 (wrap64 (bw - aw)), .int .i64 (wrap64 (bs - as_)), .int .i64 (wrap64 (bh - ah))]) ∧ IsS79 w0 w' g x0 x1 x2 x3 ∧ Below w0.heap.size w0 w' ∧ KeepBut w w' g none := by
 have hu81 := Try.underlying81
 have hu79 := Try.underlying79
 have hu31 := Try.underlying31
 go_enter Try.func44, Try.ntmps44
 go_wp2
 go_region
 go_wp2
 exact bodyPost_ret (v := .agg #[.int .i64 (wrap64 (bw - aw)), .int .i64 (wrap64 (bs - as_)), .int .i64 (wrap64 (bh - ah))]) (by simp [results, Try.results44, go_sem]) rfl ⟨rfl, by repeat (first | exact HI.out | apply IsS79.alloc | apply IsS79.drew), by repeat (first | exact HB.out | apply below_alloc | apply below_drew1), by repeat (first | exact KeepBut.refl _ _ _ | apply keep_alloc | apply keep_drew)⟩
set_option maxHeartbeats 8000000 in
set_option maxRecDepth 100000 in
theorem line_walk2 (g : Nat) (ad1 ad2 : Addr) (n0 c0 n1 c1 n2 c2 : Nat) (a1 a2 m b aw as_ ah bw bs bh : Int) (w0 w : World) (x0 : List S31) (x1 : List S81) (x2 : List Int) (x3 : Int)
  (g0 : g < w.heap.size) (g1 : g < w.heap.size + 1) (g2 : g < w.heap.size + 1 + 1) (g3 : g < w.heap.size + 1 + 1 + 1) (g4 : g < w.heap.size + 1 + 1 + 1 + 1) (e0 : ad1.block < w.heap.size) (e1 : ad1.block < w.heap.size + 1) (e2 : ad1.block < w.heap.size + 1 + 1) (e3 : ad1.block < w.heap.size + 1 + 1 + 1) (e4 : ad1.block < w.heap.size + 1 + 1 + 1 + 1) (f0 : ad2.block < w.heap.size) (f1 : ad2.block < w.heap.size + 1) (f2 : ad2.block < w.heap.size + 1 + 1) (f3 : ad2.block < w.heap.size + 1 + 1 + 1) (f4 : ad2.block < w.heap.size + 1 + 1 + 1 + 1)
  (k1 : w.cell? ⟨g, 1, none⟩ = some (.slice (some ad1) n1 c1)) (k2 : w.cell? ⟨g, 2, none⟩ = some (.slice (some ad2) n2 c2))
  (p1 : 0 ≤ a1 + 1) (p2 : a1 + 1 < (n2 : Int)) (p3 : a1 ≤ 9223372036854775806) (p4 : -9223372036854775808 ≤ a1) (q1 : 0 ≤ a2) (q2 : a2 < (n1 : Int)) (ad0 : Addr) (kind : Int) (q3 : a2 < (n0 : Int)) (q4 : (kind == 3) = false) (j0 : ad0.block < w.heap.size) (j1 : ad0.block < w.heap.size + 1) (j2 : ad0.block < w.heap.size + 1 + 1) (j3 : ad0.block < w.heap.size + 1 + 1 + 1) (j4 : ad0.block < w.heap.size + 1 + 1 + 1 + 1) (k0 : w.cell? ⟨g, 0, none⟩ = some (.slice (some ad0) n0 c0)) (hi0 : w.cell? (ad0.add (a2.toNat * 6)) = some (.int .i64 kind))
  (hb : w.cell? (ad2.add (a1 + 1).toNat) = some (.int .i64 b)) (hm1 : 0 ≤ m) (hm2 : m < (n1 : Int)) (hm : (if a2 < b then a2 else b) = m)
  (ha0 : w.cell? (ad1.add (m.toNat * 3)) = some (.int .i64 aw)) (ha1 : w.cell? ⟨ad1.block, (ad1.add (m.toNat * 3)).off + 1, none⟩ = some (.int .i64 as_)) (ha2 : w.cell? ⟨ad1.block, (ad1.add (m.toNat * 3)).off + 2, none⟩ = some (.int .i64 ah))
  (hb0 : w.cell? (ad1.add (a2.toNat * 3)) = some (.int .i64 bw)) (hb1 : w.cell? ⟨ad1.block, (ad1.add (a2.toNat * 3)).off + 1, none⟩ = some (.int .i64 bs)) (hb2 : w.cell? ⟨ad1.block, (ad1.add (a2.toNat * 3)).off + 2, none⟩ = some (.int .i64 bh))
  (HI : Aside0 (IsS79 w0 w g x0 x1 x2 x3)) (HB : Aside0 (Below w0.heap.size w0 w)) :
  Calls Try.prog 44 #[.pointer (some ⟨g, 0, none⟩), .int .i64 a1, .int .i64 a2] w fun e w' => e = .returned (.agg #[.int .i64 (wrap64 (bw - aw)), .int .i64 (wrap64 (bs - as_)), .int .i64 (wrap64 (bh - ah))]) ∧ IsS79 w0 w' g x0 x1 x2 x3 ∧ Below w0.heap.size w0 w' ∧ KeepBut w w' g none := by
 have hu81 := Try.underlying81
 have hu79 := Try.underlying79
 have hu31 := Try.underlying31
 go_enter Try.func44, Try.ntmps44
 go_wp2
 go_region
 go_wp2
 exact bodyPost_ret (v := .agg #[.int .i64 (wrap64 (bw - aw)), .int .i64 (wrap64 (bs - as_)), .int .i64 (wrap64 (bh - ah))]) (by simp [results, Try.results44, go_sem]) rfl ⟨rfl, by repeat (first | exact HI.out | apply IsS79.alloc | apply IsS79.drew), by repeat (first | exact HB.out | apply below_alloc | apply below_drew1), by repeat (first | exact KeepBut.refl _ _ _ | apply keep_alloc | apply keep_drew)⟩
set_option maxHeartbeats 8000000 in
set_option maxRecDepth 100000 in
theorem line_walk3 (g : Nat) (ad1 ad2 : Addr) (n0 c0 n1 c1 n2 c2 : Nat) (a1 a2 m b aw as_ ah bw bs bh : Int) (w0 w : World) (x0 : List S31) (x1 : List S81) (x2 : List Int) (x3 : Int)
  (g0 : g < w.heap.size) (g1 : g < w.heap.size + 1) (g2 : g < w.heap.size + 1 + 1) (g3 : g < w.heap.size + 1 + 1 + 1) (g4 : g < w.heap.size + 1 + 1 + 1 + 1) (e0 : ad1.block < w.heap.size) (e1 : ad1.block < w.heap.size + 1) (e2 : ad1.block < w.heap.size + 1 + 1) (e3 : ad1.block < w.heap.size + 1 + 1 + 1) (e4 : ad1.block < w.heap.size + 1 + 1 + 1 + 1) (f0 : ad2.block < w.heap.size) (f1 : ad2.block < w.heap.size + 1) (f2 : ad2.block < w.heap.size + 1 + 1) (f3 : ad2.block < w.heap.size + 1 + 1 + 1) (f4 : ad2.block < w.heap.size + 1 + 1 + 1 + 1)
  (k1 : w.cell? ⟨g, 1, none⟩ = some (.slice (some ad1) n1 c1)) (k2 : w.cell? ⟨g, 2, none⟩ = some (.slice (some ad2) n2 c2))
  (p1 : 0 ≤ a1 + 1) (p2 : a1 + 1 < (n2 : Int)) (p3 : a1 ≤ 9223372036854775806) (p4 : -9223372036854775808 ≤ a1) (q1 : 0 ≤ a2) (q2 : a2 < (n1 : Int)) (ad0 : Addr) (kind iw : Int) (q3 : a2 < (n0 : Int)) (q4 : (kind == 3) = true) (j0 : ad0.block < w.heap.size) (j1 : ad0.block < w.heap.size + 1) (j2 : ad0.block < w.heap.size + 1 + 1) (j3 : ad0.block < w.heap.size + 1 + 1 + 1) (j4 : ad0.block < w.heap.size + 1 + 1 + 1 + 1) (k0 : w.cell? ⟨g, 0, none⟩ = some (.slice (some ad0) n0 c0)) (hi0 : w.cell? (ad0.add (a2.toNat * 6)) = some (.int .i64 kind)) (hi1 : w.cell? ⟨ad0.block, (ad0.add (a2.toNat * 6)).off + 1, none⟩ = some (.int .i64 iw))
  (hb : w.cell? (ad2.add (a1 + 1).toNat) = some (.int .i64 b)) (hm1 : 0 ≤ m) (hm2 : m < (n1 : Int)) (hm : (if a2 < b then a2 else b) = m)
  (ha0 : w.cell? (ad1.add (m.toNat * 3)) = some (.int .i64 aw)) (ha1 : w.cell? ⟨ad1.block, (ad1.add (m.toNat * 3)).off + 1, none⟩ = some (.int .i64 as_)) (ha2 : w.cell? ⟨ad1.block, (ad1.add (m.toNat * 3)).off + 2, none⟩ = some (.int .i64 ah))
  (hb0 : w.cell? (ad1.add (a2.toNat * 3)) = some (.int .i64 bw)) (hb1 : w.cell? ⟨ad1.block, (ad1.add (a2.toNat * 3)).off + 1, none⟩ = some (.int .i64 bs)) (hb2 : w.cell? ⟨ad1.block, (ad1.add (a2.toNat * 3)).off + 2, none⟩ = some (.int .i64 bh))
  (HI : Aside0 (IsS79 w0 w g x0 x1 x2 x3)) (HB : Aside0 (Below w0.heap.size w0 w)) :
  Calls Try.prog 44 #[.pointer (some ⟨g, 0, none⟩), .int .i64 a1, .int .i64 a2] w fun e w' => e = .returned (.agg #[.int .i64 (wrap64 (wrap64 (bw - aw) + iw)), .int .i64 (wrap64 (bs - as_)), .int .i64 (wrap64 (bh - ah))]) ∧ IsS79 w0 w' g x0 x1 x2 x3 ∧ Below w0.heap.size w0 w' ∧ KeepBut w w' g none := by
 have hu81 := Try.underlying81
 have hu79 := Try.underlying79
 have hu31 := Try.underlying31
 go_enter Try.func44, Try.ntmps44
 go_wp2
 go_region
 go_wp2
 go_region
 go_wp2
 exact bodyPost_ret (v := .agg #[.int .i64 (wrap64 (wrap64 (bw - aw) + iw)), .int .i64 (wrap64 (bs - as_)), .int .i64 (wrap64 (bh - ah))]) (by simp [results, Try.results44, go_sem]) rfl ⟨rfl, by repeat (first | exact HI.out | apply IsS79.alloc | apply IsS79.drew), by repeat (first | exact HB.out | apply below_alloc | apply below_drew1), by repeat (first | exact KeepBut.refl _ _ _ | apply keep_alloc | apply keep_drew)⟩
end
def lineF (s0_0 : List S31) (s0_1 : List S81) (s0_2 : List Int) (a1 a2 : Int) : Int × Int × Int :=
 let m := mn (rd s0_2 (a1 + 1)) a2
 let x := wrap64 ((rd_T81 s0_1 a2).f0 - (rd_T81 s0_1 m).f0)
 (if a2 < (s0_0.length : Int) ∧ (rd_T31 s0_0 a2).f0 = 3 then wrap64 (x + (rd_T31 s0_0 a2).f1) else x, wrap64 ((rd_T81 s0_1 a2).f1 - (rd_T81 s0_1 m).f1), wrap64 ((rd_T81 s0_1 a2).f2 - (rd_T81 s0_1 m).f2))
def optimal_paragraph_line.f (s0_0 : List S31) (s0_1 : List S81) (s0_2 : List Int) (s0_3 : Int) (a1 a2 : Int) : Option (Int × Int × Int × Int) :=
 if -1 ≤ a1 ∧ a1 + 1 < (s0_2.length : Int) ∧ 0 ≤ a2 ∧ a2 < (s0_1.length : Int) ∧ 0 ≤ mn (rd s0_2 (a1 + 1)) a2 ∧ mn (rd s0_2 (a1 + 1)) a2 < (s0_1.length : Int) then some ((lineF s0_0 s0_1 s0_2 a1 a2).1, (lineF s0_0 s0_1 s0_2 a1 a2).2.1, (lineF s0_0 s0_1 s0_2 a1 a2).2.2, s0_3) else none
theorem blk_of {w : World} {a : Addr} {n : Nat} {v : Value} (h : w.cell? (a.add n) = some v) : a.block < w.heap.size := by
 have := World.block_lt_of_cell? w _ h
 rwa [add_block] at this
theorem optimal_paragraph_line.calls (g : Nat) (s0_0 : List S31) (s0_1 : List S81) (s0_2 : List Int) (s0_3 : Int) (a1 a2 : Int) (r1 r2 r3 r4 : Int) (w0 w : World) (hI : IsS79 w0 w g s0_0 s0_1 s0_2 s0_3) (hB : Below w0.heap.size w0 w) (h : optimal_paragraph_line.f s0_0 s0_1 s0_2 s0_3 a1 a2 = some (r1, r2, r3, r4)) :
  Calls Try.prog 44 #[.pointer (some ⟨g, 0, none⟩), .int .i64 a1, .int .i64 a2] w fun e w' => e = .returned (.agg #[.int .i64 r1, .int .i64 r2, .int .i64 r3]) ∧ IsS79 w0 w' g s0_0 s0_1 s0_2 r4 ∧ Below w0.heap.size w0 w' ∧ KeepBut w w' g none := by
 unfold optimal_paragraph_line.f at h
 split at h
 ·rename_i hok
  obtain ⟨p1, p2, q1, q2, hm1, hm2⟩ := hok
  simp only [Option.some.injEq, Prod.mk.injEq] at h
  obtain ⟨e1, e2, e3, rfl⟩ := h
  have hI0 := hI
  obtain ⟨A0, c0, A1, c1, A2, c2, hh, hge, hr0, hr1, hr2⟩ := hI
  have hg : g < w.heap.size := hI0.lt
  have cell : ∀ j (u : Value), (#[.slice A0 s0_0.length c0, .slice A1 s0_1.length c1, .slice A2 s0_2.length c2, .int .i64 s0_3] : Array Value)[j]? = some u → w.cell? ⟨g, j, none⟩ = some u := fun j u hu => by rw [cell_of_row w g j _ 79 (0, 0) hh]; exact hu
  have n1 : s0_1.length ≤ 9223372036854775807 := by have := hr1.2.1; exact this
  have n2 : s0_2.length ≤ 9223372036854775807 := by have := hr2.2.1; exact this
  have n0 : s0_0.length ≤ 9223372036854775807 := by have := hr0.2.1; exact this
  obtain ⟨ad2, cb, rfl, _, hKb, hcb⟩ := Kd.C_get hr2 (0 : Int) (a1 + 1) (by omega) p2
  have hKb' : cb = [.int .i64 (rd s0_2 (a1 + 1))] := hKb
  subst hKb'
  have hb := pw_cell_below hB (hcb 0 _ rfl)
  obtain ⟨ad1, rfl, ha0, ha1, ha2⟩ := at_T81 hr1 (mn (rd s0_2 (a1 + 1)) a2) hm1 hm2
  obtain ⟨ad1', e', hb0, hb1, hb2⟩ := at_T81 hr1 a2 q1 q2
  obtain rfl : ad1 = ad1' := by simpa using e'
  rw [add_block] at ha1 ha2 hb1 hb2
  have ha0 := pw_cell_below hB ha0
  have ha1 := pw_cell_below hB ha1
  have ha2 := pw_cell_below hB ha2
  have hb0 := pw_cell_below hB hb0
  have hb1 := pw_cell_below hB hb1
  have hb2 := pw_cell_below hB hb2
  have b1 := blk_of ha0
  have b2 := blk_of hb
  have hb' : w.cell? (ad2.add (a1 + 1).toNat) = some (.int .i64 (rd s0_2 (a1 + 1))) := by simpa [show (Kd.int .i64).sz = 1 from rfl] using hb
  by_cases q3 : a2 < (s0_0.length : Int)
  ·obtain ⟨ad0, rfl, hi0, hi1, _⟩ := at_T31 hr0 a2 q1 q3
   rw [add_block] at hi1
   have hi0 := pw_cell_below hB hi0
   have hi1 := pw_cell_below hB hi1
   have b0 := blk_of hi0
   by_cases q4 : (rd_T31 s0_0 a2).f0 = 3
   ·have := line_walk3 g ad1 ad2 s0_0.length c0 s0_1.length c1 s0_2.length c2 a1 a2 (mn (rd s0_2 (a1 + 1)) a2) (rd s0_2 (a1 + 1)) _ _ _ _ _ _ w0 w s0_0 s0_1 s0_2 s0_3 hg (by omega) (by omega) (by omega) (by omega) b1 (by omega) (by omega) (by omega) (by omega) b2 (by omega) (by omega) (by omega) (by omega) (cell 1 _ rfl) (cell 2 _ rfl) (by omega) p2 (by omega) (by omega) q1 q2 ad0 _ _ q3 (beq_iff_eq.2 q4) b0 (by omega) (by omega) (by omega) (by omega) (cell 0 _ rfl) hi0 hi1 hb' hm1 hm2 rfl ha0 ha1 ha2 hb0 hb1 hb2 ⟨hI0⟩ ⟨hB⟩
    have e1' : r1 = wrap64 (wrap64 ((rd_T81 s0_1 a2).f0 - (rd_T81 s0_1 (mn (rd s0_2 (a1 + 1)) a2)).f0) + (rd_T31 s0_0 a2).f1) := by rw [← e1]; simp only [lineF]; rw [if_pos ⟨q3, q4⟩]
    rw [e1', ← e2, ← e3]; exact this
   ·have := line_walk2 g ad1 ad2 s0_0.length c0 s0_1.length c1 s0_2.length c2 a1 a2 (mn (rd s0_2 (a1 + 1)) a2) (rd s0_2 (a1 + 1)) _ _ _ _ _ _ w0 w s0_0 s0_1 s0_2 s0_3 hg (by omega) (by omega) (by omega) (by omega) b1 (by omega) (by omega) (by omega) (by omega) b2 (by omega) (by omega) (by omega) (by omega) (cell 1 _ rfl) (cell 2 _ rfl) (by omega) p2 (by omega) (by omega) q1 q2 ad0 _ q3 (beq_eq_false_iff_ne.2 q4) b0 (by omega) (by omega) (by omega) (by omega) (cell 0 _ rfl) hi0 hb' hm1 hm2 rfl ha0 ha1 ha2 hb0 hb1 hb2 ⟨hI0⟩ ⟨hB⟩
    have e1' : r1 = wrap64 ((rd_T81 s0_1 a2).f0 - (rd_T81 s0_1 (mn (rd s0_2 (a1 + 1)) a2)).f0) := by rw [← e1]; simp only [lineF]; rw [if_neg (fun z => q4 z.2)]
    rw [e1', ← e2, ← e3]; exact this
  ·have := line_walk1 g ad1 ad2 s0_0.length c0 s0_1.length c1 s0_2.length c2 a1 a2 (mn (rd s0_2 (a1 + 1)) a2) (rd s0_2 (a1 + 1)) _ _ _ _ _ _ w0 w s0_0 s0_1 s0_2 s0_3 hg (by omega) (by omega) (by omega) (by omega) b1 (by omega) (by omega) (by omega) (by omega) b2 (by omega) (by omega) (by omega) (by omega) (cell 1 _ rfl) (cell 2 _ rfl) (by omega) p2 (by omega) (by omega) q1 q2 A0 (by omega) (cell 0 _ rfl) hb' hm1 hm2 rfl ha0 ha1 ha2 hb0 hb1 hb2 ⟨hI0⟩ ⟨hB⟩
   have e1' : r1 = wrap64 ((rd_T81 s0_1 a2).f0 - (rd_T81 s0_1 (mn (rd s0_2 (a1 + 1)) a2)).f0) := by rw [← e1]; simp only [lineF]; rw [if_neg (fun z => q3 z.1)]
   rw [e1', ← e2, ← e3]; exact this
 ·exact absurd h (by simp)

/-! ### optimal_paragraph_fit: function 40 -/
mutual
def optimal_paragraph_fit.j0 : Nat → Int → Int → List (S31) → List (S81) → List Int → Int → Int → Int → Int → Option (Int × Int × Bool × Int)
 | 0, _, _, _, _, _, _, _, _, _ => none
 | k + 1, x9, x10, x1000, x1001, x1002, x1003, x357000, x357001, x357002 => if x9 = 0 then (some (0, 0, true, x1003)) else (if x10 = 0 then (some (0, 0, false, x1003)) else (if x1003 > x357000 then (optimal_paragraph_fit.j1 k x9 x10 (decide (x1003 > x357000)) x1000 x1001 x1002 x1003) else (if x9 > x10 then (some (0, 0, false, x1003)) else (optimal_paragraph_fit.j1 k x9 x10 (decide (x1003 > x357000)) x1000 x1001 x1002 x1003))))
def optimal_paragraph_fit.j1 : Nat → Int → Int → Bool → List (S31) → List (S81) → List Int → Int → Option (Int × Int × Bool × Int)
 | 0, _, _, _, _, _, _, _ => none
 | k + 1, x9, x10, x11, x1000, x1001, x1002, x1003 => if x10 = 0 then (none) else (if x11 = true then (if (wrap64 (Int.tdiv (wrap64 (1000 * x9)) x10)) > 10000 then (some (0, 0, false, x1003)) else (some (wrap64 (Int.tdiv (wrap64 (1000 * x9)) x10), (wrap64 ((wrap64 ((wrap64 (100 * (wrap64 (Int.tdiv (wrap64 (256 * x9)) x10)))) * (wrap64 (Int.tdiv (wrap64 (256 * x9)) x10)))) * (wrap64 (Int.tdiv (wrap64 (256 * x9)) x10)))) / 16777216, true, x1003))) else (if (wrap64 (-(wrap64 (Int.tdiv (wrap64 ((wrap64 ((wrap64 (1000 * x9)) + x10)) - 1)) x10)))) > 10000 then (some (0, 0, false, x1003)) else (some (wrap64 (-(wrap64 (Int.tdiv (wrap64 ((wrap64 ((wrap64 (1000 * x9)) + x10)) - 1)) x10))), (wrap64 ((wrap64 ((wrap64 (100 * (wrap64 (Int.tdiv (wrap64 (256 * x9)) x10)))) * (wrap64 (Int.tdiv (wrap64 (256 * x9)) x10)))) * (wrap64 (Int.tdiv (wrap64 (256 * x9)) x10)))) / 16777216, true, x1003))))
end
def optimal_paragraph_fit.f (k : Nat) (s0_0 : List (S31)) (s0_1 : List (S81)) (s0_2 : List Int) (s0_3 : Int) (a1 : Int) (a2 : Int) : Option (Int × Int × Bool × Int) := (optimal_paragraph_line.f s0_0 s0_1 s0_2 s0_3 a1 a2).bind fun bt352 => (if (wrap64 (bt352.2.2.2 - bt352.1)) < 0 then (optimal_paragraph_fit.j0 k (wrap64 (-(wrap64 (bt352.2.2.2 - bt352.1)))) bt352.2.2.1 s0_0 s0_1 s0_2 bt352.2.2.2 bt352.1 bt352.2.1 bt352.2.2.1) else (optimal_paragraph_fit.j0 k (wrap64 (bt352.2.2.2 - bt352.1)) bt352.2.1 s0_0 s0_1 s0_2 bt352.2.2.2 bt352.1 bt352.2.1 bt352.2.2.1))
theorem optimal_paragraph_fit.mono_l : ∀ k, (∀ y0 y1 y2 y3 y4 y5 y6 y7 y8, LeO (optimal_paragraph_fit.j0 k y0 y1 y2 y3 y4 y5 y6 y7 y8) (optimal_paragraph_fit.j0 (k + 1) y0 y1 y2 y3 y4 y5 y6 y7 y8)) ∧ (∀ y0 y1 y2 y3 y4 y5 y6, LeO (optimal_paragraph_fit.j1 k y0 y1 y2 y3 y4 y5 y6) (optimal_paragraph_fit.j1 (k + 1) y0 y1 y2 y3 y4 y5 y6))
 | 0 => ⟨fun _ _ _ _ _ _ _ _ _ r h => by simp [optimal_paragraph_fit.j0] at h, fun _ _ _ _ _ _ _ r h => by simp [optimal_paragraph_fit.j1] at h⟩
 | k + 1 => by
  obtain ⟨ih0, ih1⟩ := optimal_paragraph_fit.mono_l k
  refine ⟨?_, ?_⟩
  ·intro y0 y1 y2 y3 y4 y5 y6 y7 y8
   unfold optimal_paragraph_fit.j0
   repeat' first
   | (with_reducible exact ih0 _ _ _ _ _ _ _ _ _)
   | (with_reducible exact ih1 _ _ _ _ _ _ _)
   | (with_reducible exact LeO.refl _)
   | (with_reducible exact LeO.none _)
   | (with_reducible refine LeO.ite ?_ ?_)
   | (with_reducible refine LeO.bind ?_ (fun _ => ?_))
   | exact ih0 _ _ _ _ _ _ _ _ _
   | exact ih1 _ _ _ _ _ _ _
   | exact LeO.none _
   | refine LeO.ite ?_ ?_
   | refine LeO.bind ?_ (fun _ => ?_)
  ·intro y0 y1 y2 y3 y4 y5 y6
   unfold optimal_paragraph_fit.j1
   repeat' first
   | (with_reducible exact ih0 _ _ _ _ _ _ _ _ _)
   | (with_reducible exact ih1 _ _ _ _ _ _ _)
   | (with_reducible exact LeO.refl _)
   | (with_reducible exact LeO.none _)
   | (with_reducible refine LeO.ite ?_ ?_)
   | (with_reducible refine LeO.bind ?_ (fun _ => ?_))
   | exact ih0 _ _ _ _ _ _ _ _ _
   | exact ih1 _ _ _ _ _ _ _
   | exact LeO.none _
   | refine LeO.ite ?_ ?_
   | refine LeO.bind ?_ (fun _ => ?_)
theorem optimal_paragraph_fit.mono : ∀ a0 a1 a2 a3 a4 a5 k, LeO (optimal_paragraph_fit.f k a0 a1 a2 a3 a4 a5) (optimal_paragraph_fit.f (k + 1) a0 a1 a2 a3 a4 a5) := by
 intro a0 a1 a2 a3 a4 a5 k
 obtain ⟨ih0, ih1⟩ := optimal_paragraph_fit.mono_l k
 unfold optimal_paragraph_fit.f
 repeat' first
   | (with_reducible exact ih0 _ _ _ _ _ _ _ _ _)
   | (with_reducible exact ih1 _ _ _ _ _ _ _)
   | (with_reducible exact LeO.refl _)
   | (with_reducible exact LeO.none _)
   | (with_reducible refine LeO.ite ?_ ?_)
   | (with_reducible refine LeO.bind ?_ (fun _ => ?_))
   | exact ih0 _ _ _ _ _ _ _ _ _
   | exact ih1 _ _ _ _ _ _ _
   | exact LeO.none _
   | refine LeO.ite ?_ ?_
   | refine LeO.bind ?_ (fun _ => ?_)
set_option maxHeartbeats 8000000 in
set_option maxRecDepth 100000 in
theorem optimal_paragraph_fit.calls (k : Nat) (g : Nat) (s0_0 : List (S31)) (s0_1 : List (S81)) (s0_2 : List Int) (s0_3 : Int) (a1 : Int) (a2 : Int) (r1 : Int) (r2 : Int) (r3 : Bool) (r4 : Int) (w0 w : World) (hI : IsS79 w0 w g s0_0 s0_1 s0_2 s0_3) (hB : Below w0.heap.size w0 w) (h : optimal_paragraph_fit.f k s0_0 s0_1 s0_2 s0_3 a1 a2 = some (r1, r2, r3, r4)) :
  Calls Try.prog 40 #[.pointer (some ⟨g, 0, none⟩), .int .i64 a1, .int .i64 a2] w fun e w' => e = .returned (.tuple #[.agg #[.int .i64 r1, .int .i64 r2], .bool r3]) ∧ IsS79 w0 w' g s0_0 s0_1 s0_2 r4 ∧ Below w0.heap.size w0 w' ∧ KeepBut w w' g none := by
 have hu73 := Try.underlying73
 have hu81 := Try.underlying81
 have HI0 := Aside0.mk hI
 have HK := Aside0.mk (KeepBut.refl w g none)
 have HL := Aside0.mk hB.size
 clear hI
 have HW0 := Aside0.mk hB.size
 have HB := Aside0.mk hB
 clear hB
 have H : ((optimal_paragraph_line.f s0_0 s0_1 s0_2 s0_3 a1 a2).bind fun bt352 => (if (wrap64 (bt352.2.2.2 - bt352.1)) < 0 then (optimal_paragraph_fit.j0 k (wrap64 (-(wrap64 (bt352.2.2.2 - bt352.1)))) bt352.2.2.1 s0_0 s0_1 s0_2 bt352.2.2.2 bt352.1 bt352.2.1 bt352.2.2.1) else (optimal_paragraph_fit.j0 k (wrap64 (bt352.2.2.2 - bt352.1)) bt352.2.1 s0_0 s0_1 s0_2 bt352.2.2.2 bt352.1 bt352.2.1 bt352.2.2.1))) = some (r1, r2, r3, r4) := h
 clear h
 replace H := Option.bind_eq_some_iff.mp H
 obtain ⟨⟨t352, t353, t354, t355⟩, A40, H⟩ := H
 replace H : (if (wrap64 (t355 - t352)) < 0 then (optimal_paragraph_fit.j0 k (wrap64 (-(wrap64 (t355 - t352)))) t354 s0_0 s0_1 s0_2 t355 t352 t353 t354) else (optimal_paragraph_fit.j0 k (wrap64 (t355 - t352)) t353 s0_0 s0_1 s0_2 t355 t352 t353 t354)) = some (r1, r2, r3, r4) := H
 have A4 := Aside0.mk A40
 clear A40
 have HC5 := Aside0.mk H
 clear H
 go_enter Try.func40, Try.ntmps40
 go_upto_if 28 with (first | ((with_reducible refine gate_dst (N := 6) rfl ?_); refine box_event ?hg (N := 6) ?hd (cs := #[.int .i64 0, .int .i64 0]) (t := 73) ?hr ?_; (case hd => rfl); (case hg => rfl); (case hr => first | (go_simp; done) | (go_simp; rfl)); intro gb351 hg w6 hbox hb; have n0_ := Aside0.mk (IsS79.below (by repeat (first | (with_reducible first | exact HI0.out | apply IsS79.alloc | apply IsS79.drewN | apply IsS79.drew | apply IsS79.set_3) | exact HI0.out)) hb); have n1_ := Aside0.mk (KeepBut.trans (by repeat (first | (with_reducible first | exact HK.out | apply KeepBut.set_ | apply keep_drewN | apply keep_drew | apply keep_alloc) | exact HK.out)) (KeepBut.of_below hb g none) (.inl rfl)); have n2_ := Aside0.mk (below_step (bs HB ⟨IsS79.ge HI0.out⟩) hb); have n3_ := Aside0.mk (hbox); have n4_ := Aside0.mk ((by rw [hg]; exact (keep_size (w := w) (g := g) (row := none) (by repeat (first | (with_reducible first | exact HK.out | apply KeepBut.set_ | apply keep_drewN | apply keep_drew | apply keep_alloc) | exact HK.out))) : w.heap.size ≤ gb351)); have n5_ := Aside0.mk ((Nat.le_trans HW0.out (by rw [hg]; exact (keep_size (w := w) (g := g) (row := none) (by repeat (first | (with_reducible first | exact HK.out | apply KeepBut.set_ | apply keep_drewN | apply keep_drew | apply keep_alloc) | exact HK.out))) : w.heap.size ≤ gb351) : w0.heap.size ≤ gb351)); have n6_ := Aside0.mk ((by rw [hg]; exact Nat.ne_of_lt (IsS79.lt (show IsS79 w0 _ g s0_0 s0_1 s0_2 s0_3 from by repeat (first | (with_reducible first | exact HI0.out | apply IsS79.alloc | apply IsS79.drewN | apply IsS79.drew | apply IsS79.set_3) | exact HI0.out))) : g ≠ gb351)); have n7_ := Aside0.mk ((by rw [hg]; exact Nat.ne_of_gt (IsS79.lt (show IsS79 w0 _ g s0_0 s0_1 s0_2 s0_3 from by repeat (first | (with_reducible first | exact HI0.out | apply IsS79.alloc | apply IsS79.drewN | apply IsS79.drew | apply IsS79.set_3) | exact HI0.out))) : gb351 ≠ g)); clear HI0; clear HK; clear HB; have HI0 := n0_; have HK := n1_; have HB := n2_; have BK351 := n3_; have GW351 := n4_; have GE351 := n5_; have NB0_351 := n6_; have NB351_0 := n7_; clear n0_ n1_ n2_ n3_ n4_ n5_ n6_ n7_; clear hb hbox hg) | (go_at_call 44; (with_reducible refine (optimal_paragraph_line.calls g s0_0 s0_1 s0_2 s0_3 a1 a2 t352 t353 t354 t355 w0 _ ?side1 ?side2 A4.out).mono ?_); (case side1 => repeat (first | (with_reducible first | exact HI0.out | apply IsS79.alloc | apply IsS79.drewN | apply IsS79.drew | apply IsS79.set_3 | refine IsS79.far ?_ NB0_351.out _) | exact HI0.out)); (case side2 => repeat (first | (with_reducible first | exact HB.out | apply below_alloc | apply pw_below_drewN | apply below_drew1 | refine below_set ?_ (IsS79.ge HI0.out) | refine below_set ?_ GE351.out) | exact HB.out)); rintro e w7 ⟨rfl, hi, hb, hk⟩; have n0_ := Aside0.mk (KeepBut.blk hk (g' := gb351) (o := .cells #[.int .i64 0, .int .i64 0] 73 (0, 0)) (kq BK351) NB351_0.out (by simp)); have n1_ := Aside0.mk (KeepBut.trans (by repeat (first | (with_reducible first | exact HK.out | apply KeepBut.set_ | apply keep_drewN | apply keep_drew | apply keep_alloc | refine keep_far ?_ GW351.out _) | exact HK.out)) hk (.inl rfl)); have n2_ := Aside0.mk (hb); have n3_ := Aside0.mk (hi); clear BK351; clear HK; clear HB; clear HI0; have BK351 := n0_; have HK := n1_; have HB := n2_; have HI0 := n3_; clear n0_ n1_ n2_ n3_; (try clear hb); (try clear hb2); (try clear hk); (try clear hi)) | ((with_reducible refine gate_dst (N := 8) rfl ?_); refine box_event ?hg (N := 8) ?hd (cs := #[.int .i64 0, .int .i64 0, .int .i64 0]) (t := 81) ?hr ?_; (case hd => rfl); (case hg => rfl); (case hr => first | (go_simp; done) | (go_simp; rfl)); intro gb356 hg w8 hbox hb; have n0_ := Aside0.mk (IsS79.below (by repeat (first | (with_reducible first | exact HI0.out | apply IsS79.alloc | apply IsS79.drewN | apply IsS79.drew | apply IsS79.set_3 | refine IsS79.far ?_ NB0_351.out _) | exact HI0.out)) hb); have n1_ := Aside0.mk (blk_below (g := gb351) (o := .cells #[.int .i64 0, .int .i64 0] 73 (0, 0)) (kq BK351) hb); have n2_ := Aside0.mk (KeepBut.trans (by repeat (first | (with_reducible first | exact HK.out | apply KeepBut.set_ | apply keep_drewN | apply keep_drew | apply keep_alloc | refine keep_far ?_ GW351.out _) | exact HK.out)) (KeepBut.of_below hb g none) (.inl rfl)); have n3_ := Aside0.mk (below_step (by repeat (first | (with_reducible first | exact HB.out | apply below_alloc | apply pw_below_drewN | apply below_drew1 | refine below_set ?_ (IsS79.ge HI0.out) | refine below_set ?_ GE351.out) | exact HB.out)) hb); have n4_ := Aside0.mk (hbox); have n5_ := Aside0.mk ((by rw [hg]; exact (keep_size (w := w) (g := g) (row := none) (by repeat (first | (with_reducible first | exact HK.out | apply KeepBut.set_ | apply keep_drewN | apply keep_drew | apply keep_alloc | refine keep_far ?_ GW351.out _) | exact HK.out))) : w.heap.size ≤ gb356)); have n6_ := Aside0.mk ((Nat.le_trans HW0.out (by rw [hg]; exact (keep_size (w := w) (g := g) (row := none) (by repeat (first | (with_reducible first | exact HK.out | apply KeepBut.set_ | apply keep_drewN | apply keep_drew | apply keep_alloc | refine keep_far ?_ GW351.out _) | exact HK.out))) : w.heap.size ≤ gb356) : w0.heap.size ≤ gb356)); have n7_ := Aside0.mk ((by rw [hg]; exact Nat.ne_of_lt (blk_lt (g := gb351) (o := .cells #[.int .i64 0, .int .i64 0] 73 (0, 0)) (kq BK351)) : gb351 ≠ gb356)); have n8_ := Aside0.mk ((by rw [hg]; exact Nat.ne_of_gt (blk_lt (g := gb351) (o := .cells #[.int .i64 0, .int .i64 0] 73 (0, 0)) (kq BK351)) : gb356 ≠ gb351)); have n9_ := Aside0.mk ((by rw [hg]; exact Nat.ne_of_lt (IsS79.lt (show IsS79 w0 _ g s0_0 s0_1 s0_2 t355 from by repeat (first | (with_reducible first | exact HI0.out | apply IsS79.alloc | apply IsS79.drewN | apply IsS79.drew | apply IsS79.set_3 | refine IsS79.far ?_ NB0_351.out _) | exact HI0.out))) : g ≠ gb356)); have n10_ := Aside0.mk ((by rw [hg]; exact Nat.ne_of_gt (IsS79.lt (show IsS79 w0 _ g s0_0 s0_1 s0_2 t355 from by repeat (first | (with_reducible first | exact HI0.out | apply IsS79.alloc | apply IsS79.drewN | apply IsS79.drew | apply IsS79.set_3 | refine IsS79.far ?_ NB0_351.out _) | exact HI0.out))) : gb356 ≠ g)); clear HI0; clear BK351; clear HK; clear HB; have HI0 := n0_; have BK351 := n1_; have HK := n2_; have HB := n3_; have BK356 := n4_; have GW356 := n5_; have GE356 := n6_; have NB351_356 := n7_; have NB356_351 := n8_; have NB0_356 := n9_; have NB356_0 := n10_; clear n0_ n1_ n2_ n3_ n4_ n5_ n6_ n7_ n8_ n9_ n10_; clear hb hbox hg; have hnb9 := NB356_351.out; have hnc9 := NB351_356.out; have hnb10 := NB356_0.out; have hnc10 := NB0_356.out; have hcz11_0 : w8.cell? ⟨gb356, 0, none⟩ = some (.int .i64 0) := (blk_cell BK356.out 0).trans rfl; have hcz11_1 : w8.cell? ⟨gb356, 1, none⟩ = some (.int .i64 0) := (blk_cell BK356.out 1).trans rfl; have hcz11_2 : w8.cell? ⟨gb356, 2, none⟩ = some (.int .i64 0) := (blk_cell BK356.out 2).trans rfl; have hfz11_0 := blk_frozen BK356.out 0; have hfz11_1 := blk_frozen BK356.out 1; have hfz11_2 := blk_frozen BK356.out 2; obtain ⟨ASz12_0, cSz12_0, ASz12_1, cSz12_1, ASz12_2, cSz12_2, HGz12, hgz12, HSz12_0, HSz12_1, HSz12_2⟩ := HI0.out; have hcz12_0 := cellS79_0 HGz12; have hcz12_1 := cellS79_1 HGz12; have hcz12_2 := cellS79_2 HGz12; have hcz12_3 := cellS79_3 HGz12; have hfz12_3 := blk_frozen HGz12 3; clear HGz12 hgz12))
 repeat (go_quiet (first | ((with_reducible refine gate_dst (N := 6) rfl ?_); refine box_event ?hg (N := 6) ?hd (cs := #[.int .i64 0, .int .i64 0]) (t := 73) ?hr ?_; (case hd => rfl); (case hg => rfl); (case hr => first | (go_simp; done) | (go_simp; rfl)); intro gb351 hg w6 hbox hb; have n0_ := Aside0.mk (IsS79.below (by repeat (first | (with_reducible first | exact HI0.out | apply IsS79.alloc | apply IsS79.drewN | apply IsS79.drew | apply IsS79.set_3) | exact HI0.out)) hb); have n1_ := Aside0.mk (KeepBut.trans (by repeat (first | (with_reducible first | exact HK.out | apply KeepBut.set_ | apply keep_drewN | apply keep_drew | apply keep_alloc) | exact HK.out)) (KeepBut.of_below hb g none) (.inl rfl)); have n2_ := Aside0.mk (below_step (bs HB ⟨IsS79.ge HI0.out⟩) hb); have n3_ := Aside0.mk (hbox); have n4_ := Aside0.mk ((by rw [hg]; exact (keep_size (w := w) (g := g) (row := none) (by repeat (first | (with_reducible first | exact HK.out | apply KeepBut.set_ | apply keep_drewN | apply keep_drew | apply keep_alloc) | exact HK.out))) : w.heap.size ≤ gb351)); have n5_ := Aside0.mk ((Nat.le_trans HW0.out (by rw [hg]; exact (keep_size (w := w) (g := g) (row := none) (by repeat (first | (with_reducible first | exact HK.out | apply KeepBut.set_ | apply keep_drewN | apply keep_drew | apply keep_alloc) | exact HK.out))) : w.heap.size ≤ gb351) : w0.heap.size ≤ gb351)); have n6_ := Aside0.mk ((by rw [hg]; exact Nat.ne_of_lt (IsS79.lt (show IsS79 w0 _ g s0_0 s0_1 s0_2 s0_3 from by repeat (first | (with_reducible first | exact HI0.out | apply IsS79.alloc | apply IsS79.drewN | apply IsS79.drew | apply IsS79.set_3) | exact HI0.out))) : g ≠ gb351)); have n7_ := Aside0.mk ((by rw [hg]; exact Nat.ne_of_gt (IsS79.lt (show IsS79 w0 _ g s0_0 s0_1 s0_2 s0_3 from by repeat (first | (with_reducible first | exact HI0.out | apply IsS79.alloc | apply IsS79.drewN | apply IsS79.drew | apply IsS79.set_3) | exact HI0.out))) : gb351 ≠ g)); clear HI0; clear HK; clear HB; have HI0 := n0_; have HK := n1_; have HB := n2_; have BK351 := n3_; have GW351 := n4_; have GE351 := n5_; have NB0_351 := n6_; have NB351_0 := n7_; clear n0_ n1_ n2_ n3_ n4_ n5_ n6_ n7_; clear hb hbox hg) | (go_at_call 44; (with_reducible refine (optimal_paragraph_line.calls g s0_0 s0_1 s0_2 s0_3 a1 a2 t352 t353 t354 t355 w0 _ ?side1 ?side2 A4.out).mono ?_); (case side1 => repeat (first | (with_reducible first | exact HI0.out | apply IsS79.alloc | apply IsS79.drewN | apply IsS79.drew | apply IsS79.set_3 | refine IsS79.far ?_ NB0_351.out _) | exact HI0.out)); (case side2 => repeat (first | (with_reducible first | exact HB.out | apply below_alloc | apply pw_below_drewN | apply below_drew1 | refine below_set ?_ (IsS79.ge HI0.out) | refine below_set ?_ GE351.out) | exact HB.out)); rintro e w7 ⟨rfl, hi, hb, hk⟩; have n0_ := Aside0.mk (KeepBut.blk hk (g' := gb351) (o := .cells #[.int .i64 0, .int .i64 0] 73 (0, 0)) (kq BK351) NB351_0.out (by simp)); have n1_ := Aside0.mk (KeepBut.trans (by repeat (first | (with_reducible first | exact HK.out | apply KeepBut.set_ | apply keep_drewN | apply keep_drew | apply keep_alloc | refine keep_far ?_ GW351.out _) | exact HK.out)) hk (.inl rfl)); have n2_ := Aside0.mk (hb); have n3_ := Aside0.mk (hi); clear BK351; clear HK; clear HB; clear HI0; have BK351 := n0_; have HK := n1_; have HB := n2_; have HI0 := n3_; clear n0_ n1_ n2_ n3_; (try clear hb); (try clear hb2); (try clear hk); (try clear hi)) | ((with_reducible refine gate_dst (N := 8) rfl ?_); refine box_event ?hg (N := 8) ?hd (cs := #[.int .i64 0, .int .i64 0, .int .i64 0]) (t := 81) ?hr ?_; (case hd => rfl); (case hg => rfl); (case hr => first | (go_simp; done) | (go_simp; rfl)); intro gb356 hg w8 hbox hb; have n0_ := Aside0.mk (IsS79.below (by repeat (first | (with_reducible first | exact HI0.out | apply IsS79.alloc | apply IsS79.drewN | apply IsS79.drew | apply IsS79.set_3 | refine IsS79.far ?_ NB0_351.out _) | exact HI0.out)) hb); have n1_ := Aside0.mk (blk_below (g := gb351) (o := .cells #[.int .i64 0, .int .i64 0] 73 (0, 0)) (kq BK351) hb); have n2_ := Aside0.mk (KeepBut.trans (by repeat (first | (with_reducible first | exact HK.out | apply KeepBut.set_ | apply keep_drewN | apply keep_drew | apply keep_alloc | refine keep_far ?_ GW351.out _) | exact HK.out)) (KeepBut.of_below hb g none) (.inl rfl)); have n3_ := Aside0.mk (below_step (by repeat (first | (with_reducible first | exact HB.out | apply below_alloc | apply pw_below_drewN | apply below_drew1 | refine below_set ?_ (IsS79.ge HI0.out) | refine below_set ?_ GE351.out) | exact HB.out)) hb); have n4_ := Aside0.mk (hbox); have n5_ := Aside0.mk ((by rw [hg]; exact (keep_size (w := w) (g := g) (row := none) (by repeat (first | (with_reducible first | exact HK.out | apply KeepBut.set_ | apply keep_drewN | apply keep_drew | apply keep_alloc | refine keep_far ?_ GW351.out _) | exact HK.out))) : w.heap.size ≤ gb356)); have n6_ := Aside0.mk ((Nat.le_trans HW0.out (by rw [hg]; exact (keep_size (w := w) (g := g) (row := none) (by repeat (first | (with_reducible first | exact HK.out | apply KeepBut.set_ | apply keep_drewN | apply keep_drew | apply keep_alloc | refine keep_far ?_ GW351.out _) | exact HK.out))) : w.heap.size ≤ gb356) : w0.heap.size ≤ gb356)); have n7_ := Aside0.mk ((by rw [hg]; exact Nat.ne_of_lt (blk_lt (g := gb351) (o := .cells #[.int .i64 0, .int .i64 0] 73 (0, 0)) (kq BK351)) : gb351 ≠ gb356)); have n8_ := Aside0.mk ((by rw [hg]; exact Nat.ne_of_gt (blk_lt (g := gb351) (o := .cells #[.int .i64 0, .int .i64 0] 73 (0, 0)) (kq BK351)) : gb356 ≠ gb351)); have n9_ := Aside0.mk ((by rw [hg]; exact Nat.ne_of_lt (IsS79.lt (show IsS79 w0 _ g s0_0 s0_1 s0_2 t355 from by repeat (first | (with_reducible first | exact HI0.out | apply IsS79.alloc | apply IsS79.drewN | apply IsS79.drew | apply IsS79.set_3 | refine IsS79.far ?_ NB0_351.out _) | exact HI0.out))) : g ≠ gb356)); have n10_ := Aside0.mk ((by rw [hg]; exact Nat.ne_of_gt (IsS79.lt (show IsS79 w0 _ g s0_0 s0_1 s0_2 t355 from by repeat (first | (with_reducible first | exact HI0.out | apply IsS79.alloc | apply IsS79.drewN | apply IsS79.drew | apply IsS79.set_3 | refine IsS79.far ?_ NB0_351.out _) | exact HI0.out))) : gb356 ≠ g)); clear HI0; clear BK351; clear HK; clear HB; have HI0 := n0_; have BK351 := n1_; have HK := n2_; have HB := n3_; have BK356 := n4_; have GW356 := n5_; have GE356 := n6_; have NB351_356 := n7_; have NB356_351 := n8_; have NB0_356 := n9_; have NB356_0 := n10_; clear n0_ n1_ n2_ n3_ n4_ n5_ n6_ n7_ n8_ n9_ n10_; clear hb hbox hg; have hnb9 := NB356_351.out; have hnc9 := NB351_356.out; have hnb10 := NB356_0.out; have hnc10 := NB0_356.out; have hcz11_0 : w8.cell? ⟨gb356, 0, none⟩ = some (.int .i64 0) := (blk_cell BK356.out 0).trans rfl; have hcz11_1 : w8.cell? ⟨gb356, 1, none⟩ = some (.int .i64 0) := (blk_cell BK356.out 1).trans rfl; have hcz11_2 : w8.cell? ⟨gb356, 2, none⟩ = some (.int .i64 0) := (blk_cell BK356.out 2).trans rfl; have hfz11_0 := blk_frozen BK356.out 0; have hfz11_1 := blk_frozen BK356.out 1; have hfz11_2 := blk_frozen BK356.out 2; obtain ⟨ASz12_0, cSz12_0, ASz12_1, cSz12_1, ASz12_2, cSz12_2, HGz12, hgz12, HSz12_0, HSz12_1, HSz12_2⟩ := HI0.out; have hcz12_0 := cellS79_0 HGz12; have hcz12_1 := cellS79_1 HGz12; have hcz12_2 := cellS79_2 HGz12; have hcz12_3 := cellS79_3 HGz12; have hfz12_3 := blk_frozen HGz12 3; clear HGz12 hgz12)); go_upto_if 28 with (first | ((with_reducible refine gate_dst (N := 6) rfl ?_); refine box_event ?hg (N := 6) ?hd (cs := #[.int .i64 0, .int .i64 0]) (t := 73) ?hr ?_; (case hd => rfl); (case hg => rfl); (case hr => first | (go_simp; done) | (go_simp; rfl)); intro gb351 hg w6 hbox hb; have n0_ := Aside0.mk (IsS79.below (by repeat (first | (with_reducible first | exact HI0.out | apply IsS79.alloc | apply IsS79.drewN | apply IsS79.drew | apply IsS79.set_3) | exact HI0.out)) hb); have n1_ := Aside0.mk (KeepBut.trans (by repeat (first | (with_reducible first | exact HK.out | apply KeepBut.set_ | apply keep_drewN | apply keep_drew | apply keep_alloc) | exact HK.out)) (KeepBut.of_below hb g none) (.inl rfl)); have n2_ := Aside0.mk (below_step (bs HB ⟨IsS79.ge HI0.out⟩) hb); have n3_ := Aside0.mk (hbox); have n4_ := Aside0.mk ((by rw [hg]; exact (keep_size (w := w) (g := g) (row := none) (by repeat (first | (with_reducible first | exact HK.out | apply KeepBut.set_ | apply keep_drewN | apply keep_drew | apply keep_alloc) | exact HK.out))) : w.heap.size ≤ gb351)); have n5_ := Aside0.mk ((Nat.le_trans HW0.out (by rw [hg]; exact (keep_size (w := w) (g := g) (row := none) (by repeat (first | (with_reducible first | exact HK.out | apply KeepBut.set_ | apply keep_drewN | apply keep_drew | apply keep_alloc) | exact HK.out))) : w.heap.size ≤ gb351) : w0.heap.size ≤ gb351)); have n6_ := Aside0.mk ((by rw [hg]; exact Nat.ne_of_lt (IsS79.lt (show IsS79 w0 _ g s0_0 s0_1 s0_2 s0_3 from by repeat (first | (with_reducible first | exact HI0.out | apply IsS79.alloc | apply IsS79.drewN | apply IsS79.drew | apply IsS79.set_3) | exact HI0.out))) : g ≠ gb351)); have n7_ := Aside0.mk ((by rw [hg]; exact Nat.ne_of_gt (IsS79.lt (show IsS79 w0 _ g s0_0 s0_1 s0_2 s0_3 from by repeat (first | (with_reducible first | exact HI0.out | apply IsS79.alloc | apply IsS79.drewN | apply IsS79.drew | apply IsS79.set_3) | exact HI0.out))) : gb351 ≠ g)); clear HI0; clear HK; clear HB; have HI0 := n0_; have HK := n1_; have HB := n2_; have BK351 := n3_; have GW351 := n4_; have GE351 := n5_; have NB0_351 := n6_; have NB351_0 := n7_; clear n0_ n1_ n2_ n3_ n4_ n5_ n6_ n7_; clear hb hbox hg) | (go_at_call 44; (with_reducible refine (optimal_paragraph_line.calls g s0_0 s0_1 s0_2 s0_3 a1 a2 t352 t353 t354 t355 w0 _ ?side1 ?side2 A4.out).mono ?_); (case side1 => repeat (first | (with_reducible first | exact HI0.out | apply IsS79.alloc | apply IsS79.drewN | apply IsS79.drew | apply IsS79.set_3 | refine IsS79.far ?_ NB0_351.out _) | exact HI0.out)); (case side2 => repeat (first | (with_reducible first | exact HB.out | apply below_alloc | apply pw_below_drewN | apply below_drew1 | refine below_set ?_ (IsS79.ge HI0.out) | refine below_set ?_ GE351.out) | exact HB.out)); rintro e w7 ⟨rfl, hi, hb, hk⟩; have n0_ := Aside0.mk (KeepBut.blk hk (g' := gb351) (o := .cells #[.int .i64 0, .int .i64 0] 73 (0, 0)) (kq BK351) NB351_0.out (by simp)); have n1_ := Aside0.mk (KeepBut.trans (by repeat (first | (with_reducible first | exact HK.out | apply KeepBut.set_ | apply keep_drewN | apply keep_drew | apply keep_alloc | refine keep_far ?_ GW351.out _) | exact HK.out)) hk (.inl rfl)); have n2_ := Aside0.mk (hb); have n3_ := Aside0.mk (hi); clear BK351; clear HK; clear HB; clear HI0; have BK351 := n0_; have HK := n1_; have HB := n2_; have HI0 := n3_; clear n0_ n1_ n2_ n3_; (try clear hb); (try clear hb2); (try clear hk); (try clear hi)) | ((with_reducible refine gate_dst (N := 8) rfl ?_); refine box_event ?hg (N := 8) ?hd (cs := #[.int .i64 0, .int .i64 0, .int .i64 0]) (t := 81) ?hr ?_; (case hd => rfl); (case hg => rfl); (case hr => first | (go_simp; done) | (go_simp; rfl)); intro gb356 hg w8 hbox hb; have n0_ := Aside0.mk (IsS79.below (by repeat (first | (with_reducible first | exact HI0.out | apply IsS79.alloc | apply IsS79.drewN | apply IsS79.drew | apply IsS79.set_3 | refine IsS79.far ?_ NB0_351.out _) | exact HI0.out)) hb); have n1_ := Aside0.mk (blk_below (g := gb351) (o := .cells #[.int .i64 0, .int .i64 0] 73 (0, 0)) (kq BK351) hb); have n2_ := Aside0.mk (KeepBut.trans (by repeat (first | (with_reducible first | exact HK.out | apply KeepBut.set_ | apply keep_drewN | apply keep_drew | apply keep_alloc | refine keep_far ?_ GW351.out _) | exact HK.out)) (KeepBut.of_below hb g none) (.inl rfl)); have n3_ := Aside0.mk (below_step (by repeat (first | (with_reducible first | exact HB.out | apply below_alloc | apply pw_below_drewN | apply below_drew1 | refine below_set ?_ (IsS79.ge HI0.out) | refine below_set ?_ GE351.out) | exact HB.out)) hb); have n4_ := Aside0.mk (hbox); have n5_ := Aside0.mk ((by rw [hg]; exact (keep_size (w := w) (g := g) (row := none) (by repeat (first | (with_reducible first | exact HK.out | apply KeepBut.set_ | apply keep_drewN | apply keep_drew | apply keep_alloc | refine keep_far ?_ GW351.out _) | exact HK.out))) : w.heap.size ≤ gb356)); have n6_ := Aside0.mk ((Nat.le_trans HW0.out (by rw [hg]; exact (keep_size (w := w) (g := g) (row := none) (by repeat (first | (with_reducible first | exact HK.out | apply KeepBut.set_ | apply keep_drewN | apply keep_drew | apply keep_alloc | refine keep_far ?_ GW351.out _) | exact HK.out))) : w.heap.size ≤ gb356) : w0.heap.size ≤ gb356)); have n7_ := Aside0.mk ((by rw [hg]; exact Nat.ne_of_lt (blk_lt (g := gb351) (o := .cells #[.int .i64 0, .int .i64 0] 73 (0, 0)) (kq BK351)) : gb351 ≠ gb356)); have n8_ := Aside0.mk ((by rw [hg]; exact Nat.ne_of_gt (blk_lt (g := gb351) (o := .cells #[.int .i64 0, .int .i64 0] 73 (0, 0)) (kq BK351)) : gb356 ≠ gb351)); have n9_ := Aside0.mk ((by rw [hg]; exact Nat.ne_of_lt (IsS79.lt (show IsS79 w0 _ g s0_0 s0_1 s0_2 t355 from by repeat (first | (with_reducible first | exact HI0.out | apply IsS79.alloc | apply IsS79.drewN | apply IsS79.drew | apply IsS79.set_3 | refine IsS79.far ?_ NB0_351.out _) | exact HI0.out))) : g ≠ gb356)); have n10_ := Aside0.mk ((by rw [hg]; exact Nat.ne_of_gt (IsS79.lt (show IsS79 w0 _ g s0_0 s0_1 s0_2 t355 from by repeat (first | (with_reducible first | exact HI0.out | apply IsS79.alloc | apply IsS79.drewN | apply IsS79.drew | apply IsS79.set_3 | refine IsS79.far ?_ NB0_351.out _) | exact HI0.out))) : gb356 ≠ g)); clear HI0; clear BK351; clear HK; clear HB; have HI0 := n0_; have BK351 := n1_; have HK := n2_; have HB := n3_; have BK356 := n4_; have GW356 := n5_; have GE356 := n6_; have NB351_356 := n7_; have NB356_351 := n8_; have NB0_356 := n9_; have NB356_0 := n10_; clear n0_ n1_ n2_ n3_ n4_ n5_ n6_ n7_ n8_ n9_ n10_; clear hb hbox hg; have hnb9 := NB356_351.out; have hnc9 := NB351_356.out; have hnb10 := NB356_0.out; have hnc10 := NB0_356.out; have hcz11_0 : w8.cell? ⟨gb356, 0, none⟩ = some (.int .i64 0) := (blk_cell BK356.out 0).trans rfl; have hcz11_1 : w8.cell? ⟨gb356, 1, none⟩ = some (.int .i64 0) := (blk_cell BK356.out 1).trans rfl; have hcz11_2 : w8.cell? ⟨gb356, 2, none⟩ = some (.int .i64 0) := (blk_cell BK356.out 2).trans rfl; have hfz11_0 := blk_frozen BK356.out 0; have hfz11_1 := blk_frozen BK356.out 1; have hfz11_2 := blk_frozen BK356.out 2; obtain ⟨ASz12_0, cSz12_0, ASz12_1, cSz12_1, ASz12_2, cSz12_2, HGz12, hgz12, HSz12_0, HSz12_1, HSz12_2⟩ := HI0.out; have hcz12_0 := cellS79_0 HGz12; have hcz12_1 := cellS79_1 HGz12; have hcz12_2 := cellS79_2 HGz12; have hcz12_3 := cellS79_3 HGz12; have hfz12_3 := blk_frozen HGz12 3; clear HGz12 hgz12)))
 (try simp only [Act.put, List.setIfInBounds_toArray, List.set_cons_zero, List.set_cons_succ])
 go_cut [9, 10] (fun v9 v10 wc => ∃ (kq : Nat) (x9_4 : Int) (x10_4 : Int), v9 = .int .i64 x9_4 ∧ v10 = .int .i64 x10_4 ∧ Aside0 (optimal_paragraph_fit.j0 kq x9_4 x10_4 s0_0 s0_1 s0_2 t355 t352 t353 t354 = some (r1, r2, r3, r4)) ∧ Aside0 (kq ≤ k) ∧ Aside0 (wc.heap[gb351]? = some (.cells #[.int .i64 0, .int .i64 0] 73 (0, 0))) ∧ Aside0 (wc.heap[gb356]? = some (.cells #[.int .i64 t352, .int .i64 t353, .int .i64 t354] 81 (0, 0))) ∧ Aside0 (IsS79 w0 wc g s0_0 s0_1 s0_2 t355) ∧ Aside0 (KeepBut w wc g none) ∧ Aside0 (Below w0.heap.size w0 wc))
 case first =>
  have H := HC5.out
  clear HC5
  by_cases c13 : (wrap64 (t355 - t352)) < 0
  ·rw [if_pos c13] at H
   have c13b0 : decide ((wrap64 (t355 - t352)) < 0) = true := decide_eq_true c13
   clear c13
   (first | rw [c13b0] | (simp only [i64_w, i32_w]; rw [c13b0]) | skip)
   have H' := Aside0.mk H
   clear H
   have hnb14 := NB356_351.out
   have hnc14 := NB351_356.out
   have hnb15 := NB356_0.out
   have hnc15 := NB0_356.out
   have hcz16_0 : w8.cell? ⟨gb356, 0, none⟩ = some (.int .i64 0) := (blk_cell BK356.out 0).trans rfl
   have hcz16_1 : w8.cell? ⟨gb356, 1, none⟩ = some (.int .i64 0) := (blk_cell BK356.out 1).trans rfl
   have hcz16_2 : w8.cell? ⟨gb356, 2, none⟩ = some (.int .i64 0) := (blk_cell BK356.out 2).trans rfl
   have hfz16_0 := blk_frozen BK356.out 0
   have hfz16_1 := blk_frozen BK356.out 1
   have hfz16_2 := blk_frozen BK356.out 2
   go_wp2
   repeat (go_quiet (fail); try go_wp2)
   go_meet
   case rel => exact ⟨_, (wrap64 (-(wrap64 (t355 - t352)))), (t354), (by first | rfl | (simp; done) | (simp [*]; done)), (by first | rfl | (simp; done) | (simp [*]; done)), H', ⟨by first | omega | exact Nat.le_refl _⟩, ⟨by (with_reducible repeat (first | refine blk_drewN ?_ _ | refine blk_drew ?_ | refine blk_alloc ?_ _)); refine blk_far ?_ NB351_356.out _; (with_reducible repeat (first | refine blk_drewN ?_ _ | refine blk_drew ?_ | refine blk_alloc ?_ _)); refine blk_far ?_ NB351_356.out _; (with_reducible repeat (first | refine blk_drewN ?_ _ | refine blk_drew ?_ | refine blk_alloc ?_ _)); refine blk_far ?_ NB351_356.out _; (with_reducible repeat (first | refine blk_drewN ?_ _ | refine blk_drew ?_ | refine blk_alloc ?_ _)); exact BK351.out⟩, ⟨by (with_reducible repeat (first | refine blk_drewN ?_ _ | refine blk_drew ?_ | refine blk_alloc ?_ _)); refine blk_put (cs := #[.int .i64 t352, .int .i64 t353, .int .i64 0]) ?_ 2 _ rfl; (with_reducible repeat (first | refine blk_drewN ?_ _ | refine blk_drew ?_ | refine blk_alloc ?_ _)); refine blk_put (cs := #[.int .i64 t352, .int .i64 0, .int .i64 0]) ?_ 1 _ rfl; (with_reducible repeat (first | refine blk_drewN ?_ _ | refine blk_drew ?_ | refine blk_alloc ?_ _)); refine blk_put (cs := #[.int .i64 0, .int .i64 0, .int .i64 0]) ?_ 0 _ rfl; (with_reducible repeat (first | refine blk_drewN ?_ _ | refine blk_drew ?_ | refine blk_alloc ?_ _)); exact BK356.out⟩, ⟨by repeat (first | (with_reducible first | exact HI0.out | apply IsS79.alloc | apply IsS79.drewN | apply IsS79.drew | apply IsS79.set_3 | refine IsS79.far ?_ NB0_351.out _ | refine IsS79.far ?_ NB0_356.out _) | exact HI0.out)⟩, ⟨by repeat (first | (with_reducible first | exact HK.out | apply KeepBut.set_ | apply keep_drewN | apply keep_drew | apply keep_alloc | refine keep_far ?_ GW351.out _ | refine keep_far ?_ GW356.out _) | exact HK.out)⟩, ⟨by repeat (first | (with_reducible first | exact HB.out | apply below_alloc | apply pw_below_drewN | apply below_drew1 | refine below_set ?_ (IsS79.ge HI0.out) | refine below_set ?_ GE351.out | refine below_set ?_ GE356.out) | exact HB.out)⟩⟩
  ·rw [if_neg c13] at H
   have c13b0 : decide ((wrap64 (t355 - t352)) < 0) = false := decide_eq_false c13
   clear c13
   (first | rw [c13b0] | (simp only [i64_w, i32_w]; rw [c13b0]) | skip)
   have H' := Aside0.mk H
   clear H
   go_wp2
   repeat (go_quiet (fail); try go_wp2)
   go_meet
   case rel => exact ⟨_, (wrap64 (t355 - t352)), (t353), (by first | rfl | (simp; done) | (simp [*]; done)), (by first | rfl | (simp; done) | (simp [*]; done)), H', ⟨by first | omega | exact Nat.le_refl _⟩, ⟨by (with_reducible repeat (first | refine blk_drewN ?_ _ | refine blk_drew ?_ | refine blk_alloc ?_ _)); refine blk_far ?_ NB351_356.out _; (with_reducible repeat (first | refine blk_drewN ?_ _ | refine blk_drew ?_ | refine blk_alloc ?_ _)); refine blk_far ?_ NB351_356.out _; (with_reducible repeat (first | refine blk_drewN ?_ _ | refine blk_drew ?_ | refine blk_alloc ?_ _)); refine blk_far ?_ NB351_356.out _; (with_reducible repeat (first | refine blk_drewN ?_ _ | refine blk_drew ?_ | refine blk_alloc ?_ _)); exact BK351.out⟩, ⟨by (with_reducible repeat (first | refine blk_drewN ?_ _ | refine blk_drew ?_ | refine blk_alloc ?_ _)); refine blk_put (cs := #[.int .i64 t352, .int .i64 t353, .int .i64 0]) ?_ 2 _ rfl; (with_reducible repeat (first | refine blk_drewN ?_ _ | refine blk_drew ?_ | refine blk_alloc ?_ _)); refine blk_put (cs := #[.int .i64 t352, .int .i64 0, .int .i64 0]) ?_ 1 _ rfl; (with_reducible repeat (first | refine blk_drewN ?_ _ | refine blk_drew ?_ | refine blk_alloc ?_ _)); refine blk_put (cs := #[.int .i64 0, .int .i64 0, .int .i64 0]) ?_ 0 _ rfl; (with_reducible repeat (first | refine blk_drewN ?_ _ | refine blk_drew ?_ | refine blk_alloc ?_ _)); exact BK356.out⟩, ⟨by repeat (first | (with_reducible first | exact HI0.out | apply IsS79.alloc | apply IsS79.drewN | apply IsS79.drew | apply IsS79.set_3 | refine IsS79.far ?_ NB0_351.out _ | refine IsS79.far ?_ NB0_356.out _) | exact HI0.out)⟩, ⟨by repeat (first | (with_reducible first | exact HK.out | apply KeepBut.set_ | apply keep_drewN | apply keep_drew | apply keep_alloc | refine keep_far ?_ GW351.out _ | refine keep_far ?_ GW356.out _) | exact HK.out)⟩, ⟨by repeat (first | (with_reducible first | exact HB.out | apply below_alloc | apply pw_below_drewN | apply below_drew1 | refine below_set ?_ (IsS79.ge HI0.out) | refine below_set ?_ GE351.out | refine below_set ?_ GE356.out) | exact HB.out)⟩⟩
 case rest =>
  clear HC5
  try clear c1
  try clear p2
  try clear c4
  try clear p6
  try clear c9
  try clear c10
  try clear c13
  try clear c13b0
  try clear c14
  try clear c15
  try clear hcz11_0
  try clear hcz11_1
  try clear hcz11_2
  try clear hcz12_0
  try clear hcz12_1
  try clear hcz12_2
  try clear hcz12_3
  try clear hcz16_0
  try clear hcz16_1
  try clear hcz16_2
  try clear hfz11_0
  try clear hfz11_1
  try clear hfz11_2
  try clear hfz12_3
  try clear hfz16_0
  try clear hfz16_1
  try clear hfz16_2
  obtain ⟨kq, x9_4, x10_4, rfl, rfl, HA, HJ4, BK351, BK356, HI0, HK, HB⟩ := hcut
  cases kq with
  | zero => exact absurd HA.out (by simp [optimal_paragraph_fit.j0])
  | succ kj4 =>
   have H := HA.out
   clear HA
   simp only [optimal_paragraph_fit.j0] at H
   have HC17 := Aside0.mk H
   clear H
   obtain ⟨ASz18_0, cSz18_0, ASz18_1, cSz18_1, ASz18_2, cSz18_2, HGz18, hgz18, HSz18_0, HSz18_1, HSz18_2⟩ := HI0.out
   have hcz18_0 := cellS79_0 HGz18
   have hcz18_1 := cellS79_1 HGz18
   have hcz18_2 := cellS79_2 HGz18
   have hcz18_3 := cellS79_3 HGz18
   have hfz18_3 := blk_frozen HGz18 3
   clear HGz18 hgz18
   have hnb19 := NB356_351.out
   have hnc19 := NB351_356.out
   have hnb20 := NB356_0.out
   have hnc20 := NB0_356.out
   have hcz21_0 : wc.cell? ⟨gb356, 0, none⟩ = some (.int .i64 t352) := (blk_cell BK356.out 0).trans rfl
   have hcz21_1 : wc.cell? ⟨gb356, 1, none⟩ = some (.int .i64 t353) := (blk_cell BK356.out 1).trans rfl
   have hcz21_2 : wc.cell? ⟨gb356, 2, none⟩ = some (.int .i64 t354) := (blk_cell BK356.out 2).trans rfl
   have hfz21_0 := blk_frozen BK356.out 0
   have hfz21_1 := blk_frozen BK356.out 1
   have hfz21_2 := blk_frozen BK356.out 2
   go_upto_block 0 with (fail)
   repeat (go_quiet (fail); go_upto_block 0 with (fail))
   go_cut [] (fun wc => ∃ (kq : Nat) (x352000_16 : Int) (x352001_16 : Int), Aside0 (optimal_paragraph_fit.j1 kq x9_4 x10_4 (decide (t355 > t352)) s0_0 s0_1 s0_2 t355 = some (r1, r2, r3, r4)) ∧ Aside0 (kq ≤ kj4) ∧ Aside0 (wc.heap[gb351]? = some (.cells #[.int .i64 x352000_16, .int .i64 x352001_16] 73 (0, 0))) ∧ Aside0 (wc.heap[gb356]? = some (.cells #[.int .i64 t352, .int .i64 t353, .int .i64 t354] 81 (0, 0))) ∧ Aside0 (IsS79 w0 wc g s0_0 s0_1 s0_2 t355) ∧ Aside0 (KeepBut w wc g none) ∧ Aside0 (Below w0.heap.size w0 wc))
   case first =>
    have H := HC17.out
    clear HC17
    by_cases c22 : x9_4 = 0
    ·rw [if_pos c22] at H
     have c22b0 : (x9_4 == 0) = true := beq_iff_eq.mpr c22
     have c22b1 : (x9_4 != 0) = false := bne_eq_false_iff_eq.mpr c22
     clear c22
     (first | rw [c22b0] | (simp only [i64_w, i32_w]; rw [c22b0]) | skip)
     simp only [Option.some.injEq, Prod.mk.injEq] at H
     obtain ⟨rfl, rfl, rfl, rfl⟩ := H
     have hnb23 := NB351_356.out
     have hnc23 := NB356_351.out
     have hnb24 := NB351_0.out
     have hnc24 := NB0_351.out
     have hcz25_0 : wc.cell? ⟨gb351, 0, none⟩ = some (.int .i64 0) := (blk_cell BK351.out 0).trans rfl
     have hcz25_1 : wc.cell? ⟨gb351, 1, none⟩ = some (.int .i64 0) := (blk_cell BK351.out 1).trans rfl
     have hfz25_0 := blk_frozen BK351.out 0
     have hfz25_1 := blk_frozen BK351.out 1
     go_wp2
     repeat (go_quiet (fail); try go_wp2)
     refine bodyPost_ret (results_ct rfl _ _ gb351 73 #[.int .i64 0, .int .i64 0] (0, 0) _ rfl (by (with_reducible repeat (first | refine blk_drewN ?_ _ | refine blk_drew ?_ | refine blk_alloc ?_ _)); refine blk_put (cs := #[.int .i64 0, .int .i64 0]) ?_ 1 _ rfl; (with_reducible repeat (first | refine blk_drewN ?_ _ | refine blk_drew ?_ | refine blk_alloc ?_ _)); refine blk_put (cs := #[.int .i64 0, .int .i64 0]) ?_ 0 _ rfl; (with_reducible repeat (first | refine blk_drewN ?_ _ | refine blk_drew ?_ | refine blk_alloc ?_ _)); exact BK351.out) Try.underlying73 rfl (by kernel_rfl)) rfl ?_
     exact ⟨by first | rfl | (simp [errW_none, errW_some] <;> rfl) | (simp [*, errW_none, errW_some] <;> rfl), by repeat (first | (with_reducible first | exact HI0.out | apply IsS79.alloc | apply IsS79.drewN | apply IsS79.drew | apply IsS79.set_3 | refine IsS79.far ?_ NB0_351.out _ | refine IsS79.far ?_ NB0_356.out _) | exact HI0.out), by repeat (first | (with_reducible first | exact HB.out | apply below_alloc | apply pw_below_drewN | apply below_drew1 | refine below_set ?_ (IsS79.ge HI0.out) | refine below_set ?_ GE351.out | refine below_set ?_ GE356.out) | exact HB.out), by repeat (first | (with_reducible first | exact HK.out | apply KeepBut.set_ | apply keep_drewN | apply keep_drew | apply keep_alloc | refine keep_far ?_ GW351.out _ | refine keep_far ?_ GW356.out _) | exact HK.out)⟩
    ·rw [if_neg c22] at H
     have c22b0 : (x9_4 == 0) = false := beq_eq_false_iff_ne.mpr c22
     have c22b1 : (x9_4 != 0) = true := bne_iff_ne.mpr c22
     (first | rw [c22b0] | (simp only [i64_w, i32_w]; rw [c22b0]) | skip)
     by_cases c26 : x10_4 = 0
     ·rw [if_pos c26] at H
      have c26b0 : (x10_4 == 0) = true := beq_iff_eq.mpr c26
      have c26b1 : (x10_4 != 0) = false := bne_eq_false_iff_eq.mpr c26
      clear c26
      simp only [Option.some.injEq, Prod.mk.injEq] at H
      obtain ⟨rfl, rfl, rfl, rfl⟩ := H
      have hnb27 := NB351_356.out
      have hnc27 := NB356_351.out
      have hnb28 := NB351_0.out
      have hnc28 := NB0_351.out
      have hcz29_0 : wc.cell? ⟨gb351, 0, none⟩ = some (.int .i64 0) := (blk_cell BK351.out 0).trans rfl
      have hcz29_1 : wc.cell? ⟨gb351, 1, none⟩ = some (.int .i64 0) := (blk_cell BK351.out 1).trans rfl
      have hfz29_0 := blk_frozen BK351.out 0
      have hfz29_1 := blk_frozen BK351.out 1
      go_wp2
      repeat (go_quiet (fail); try go_wp2)
      refine bodyPost_ret (results_ct rfl _ _ gb351 73 #[.int .i64 0, .int .i64 0] (0, 0) _ rfl (by (with_reducible repeat (first | refine blk_drewN ?_ _ | refine blk_drew ?_ | refine blk_alloc ?_ _)); refine blk_put (cs := #[.int .i64 0, .int .i64 0]) ?_ 1 _ rfl; (with_reducible repeat (first | refine blk_drewN ?_ _ | refine blk_drew ?_ | refine blk_alloc ?_ _)); refine blk_put (cs := #[.int .i64 0, .int .i64 0]) ?_ 0 _ rfl; (with_reducible repeat (first | refine blk_drewN ?_ _ | refine blk_drew ?_ | refine blk_alloc ?_ _)); exact BK351.out) Try.underlying73 rfl (by kernel_rfl)) rfl ?_
      exact ⟨by first | rfl | (simp [errW_none, errW_some] <;> rfl) | (simp [*, errW_none, errW_some] <;> rfl), by repeat (first | (with_reducible first | exact HI0.out | apply IsS79.alloc | apply IsS79.drewN | apply IsS79.drew | apply IsS79.set_3 | refine IsS79.far ?_ NB0_351.out _ | refine IsS79.far ?_ NB0_356.out _) | exact HI0.out), by repeat (first | (with_reducible first | exact HB.out | apply below_alloc | apply pw_below_drewN | apply below_drew1 | refine below_set ?_ (IsS79.ge HI0.out) | refine below_set ?_ GE351.out | refine below_set ?_ GE356.out) | exact HB.out), by repeat (first | (with_reducible first | exact HK.out | apply KeepBut.set_ | apply keep_drewN | apply keep_drew | apply keep_alloc | refine keep_far ?_ GW351.out _ | refine keep_far ?_ GW356.out _) | exact HK.out)⟩
     ·rw [if_neg c26] at H
      have c26b0 : (x10_4 == 0) = false := beq_eq_false_iff_ne.mpr c26
      have c26b1 : (x10_4 != 0) = true := bne_iff_ne.mpr c26
      by_cases c30 : t355 > t352
      ·rw [if_pos c30] at H
       have c30b0 : decide (t352 < t355) = true := decide_eq_true c30
       clear c30
       have H' := Aside0.mk H
       clear H
       go_wp2
       repeat (go_quiet (fail); try go_wp2)
       go_meet
       case rel => exact ⟨_, (0), (0), H', ⟨by have := HJ4.out; first | omega | exact Nat.le_refl _⟩, ⟨by (with_reducible repeat (first | refine blk_drewN ?_ _ | refine blk_drew ?_ | refine blk_alloc ?_ _)); exact BK351.out⟩, ⟨by (with_reducible repeat (first | refine blk_drewN ?_ _ | refine blk_drew ?_ | refine blk_alloc ?_ _)); exact BK356.out⟩, ⟨by repeat (first | (with_reducible first | exact HI0.out | apply IsS79.alloc | apply IsS79.drewN | apply IsS79.drew | apply IsS79.set_3 | refine IsS79.far ?_ NB0_351.out _ | refine IsS79.far ?_ NB0_356.out _) | exact HI0.out)⟩, ⟨by repeat (first | (with_reducible first | exact HK.out | apply KeepBut.set_ | apply keep_drewN | apply keep_drew | apply keep_alloc | refine keep_far ?_ GW351.out _ | refine keep_far ?_ GW356.out _) | exact HK.out)⟩, ⟨by repeat (first | (with_reducible first | exact HB.out | apply below_alloc | apply pw_below_drewN | apply below_drew1 | refine below_set ?_ (IsS79.ge HI0.out) | refine below_set ?_ GE351.out | refine below_set ?_ GE356.out) | exact HB.out)⟩⟩
      ·rw [if_neg c30] at H
       have c30b0 : decide (t352 < t355) = false := decide_eq_false c30
       clear c30
       by_cases c31 : x9_4 > x10_4
       ·rw [if_pos c31] at H
        have c31b0 : decide (x10_4 < x9_4) = true := decide_eq_true c31
        clear c31
        simp only [Option.some.injEq, Prod.mk.injEq] at H
        obtain ⟨rfl, rfl, rfl, rfl⟩ := H
        have hnb32 := NB351_356.out
        have hnc32 := NB356_351.out
        have hnb33 := NB351_0.out
        have hnc33 := NB0_351.out
        have hcz34_0 : wc.cell? ⟨gb351, 0, none⟩ = some (.int .i64 0) := (blk_cell BK351.out 0).trans rfl
        have hcz34_1 : wc.cell? ⟨gb351, 1, none⟩ = some (.int .i64 0) := (blk_cell BK351.out 1).trans rfl
        have hfz34_0 := blk_frozen BK351.out 0
        have hfz34_1 := blk_frozen BK351.out 1
        go_wp2
        repeat (go_quiet (fail); try go_wp2)
        refine bodyPost_ret (results_ct rfl _ _ gb351 73 #[.int .i64 0, .int .i64 0] (0, 0) _ rfl (by (with_reducible repeat (first | refine blk_drewN ?_ _ | refine blk_drew ?_ | refine blk_alloc ?_ _)); refine blk_put (cs := #[.int .i64 0, .int .i64 0]) ?_ 1 _ rfl; (with_reducible repeat (first | refine blk_drewN ?_ _ | refine blk_drew ?_ | refine blk_alloc ?_ _)); refine blk_put (cs := #[.int .i64 0, .int .i64 0]) ?_ 0 _ rfl; (with_reducible repeat (first | refine blk_drewN ?_ _ | refine blk_drew ?_ | refine blk_alloc ?_ _)); exact BK351.out) Try.underlying73 rfl (by kernel_rfl)) rfl ?_
        exact ⟨by first | rfl | (simp [errW_none, errW_some] <;> rfl) | (simp [*, errW_none, errW_some] <;> rfl), by repeat (first | (with_reducible first | exact HI0.out | apply IsS79.alloc | apply IsS79.drewN | apply IsS79.drew | apply IsS79.set_3 | refine IsS79.far ?_ NB0_351.out _ | refine IsS79.far ?_ NB0_356.out _) | exact HI0.out), by repeat (first | (with_reducible first | exact HB.out | apply below_alloc | apply pw_below_drewN | apply below_drew1 | refine below_set ?_ (IsS79.ge HI0.out) | refine below_set ?_ GE351.out | refine below_set ?_ GE356.out) | exact HB.out), by repeat (first | (with_reducible first | exact HK.out | apply KeepBut.set_ | apply keep_drewN | apply keep_drew | apply keep_alloc | refine keep_far ?_ GW351.out _ | refine keep_far ?_ GW356.out _) | exact HK.out)⟩
       ·rw [if_neg c31] at H
        have c31b0 : decide (x10_4 < x9_4) = false := decide_eq_false c31
        clear c31
        have H' := Aside0.mk H
        clear H
        go_wp2
        repeat (go_quiet (fail); try go_wp2)
        go_meet
        case rel => exact ⟨_, (0), (0), H', ⟨by have := HJ4.out; first | omega | exact Nat.le_refl _⟩, ⟨by (with_reducible repeat (first | refine blk_drewN ?_ _ | refine blk_drew ?_ | refine blk_alloc ?_ _)); exact BK351.out⟩, ⟨by (with_reducible repeat (first | refine blk_drewN ?_ _ | refine blk_drew ?_ | refine blk_alloc ?_ _)); exact BK356.out⟩, ⟨by repeat (first | (with_reducible first | exact HI0.out | apply IsS79.alloc | apply IsS79.drewN | apply IsS79.drew | apply IsS79.set_3 | refine IsS79.far ?_ NB0_351.out _ | refine IsS79.far ?_ NB0_356.out _) | exact HI0.out)⟩, ⟨by repeat (first | (with_reducible first | exact HK.out | apply KeepBut.set_ | apply keep_drewN | apply keep_drew | apply keep_alloc | refine keep_far ?_ GW351.out _ | refine keep_far ?_ GW356.out _) | exact HK.out)⟩, ⟨by repeat (first | (with_reducible first | exact HB.out | apply below_alloc | apply pw_below_drewN | apply below_drew1 | refine below_set ?_ (IsS79.ge HI0.out) | refine below_set ?_ GE351.out | refine below_set ?_ GE356.out) | exact HB.out)⟩⟩
   case rest =>
    clear HC17
    try clear c1
    try clear c2
    try clear p2
    try clear c3
    try clear c4
    try clear p6
    try clear c9
    try clear c10
    try clear c13
    try clear c13b0
    try clear c14
    try clear c15
    try clear c19
    try clear c20
    try clear c22
    try clear c22b0
    try clear c22b1
    try clear c23
    try clear c24
    try clear c26
    try clear c26b0
    try clear c26b1
    try clear c27
    try clear c28
    try clear c30
    try clear c30b0
    try clear c31
    try clear c31b0
    try clear c32
    try clear c33
    try clear hcz11_0
    try clear hcz11_1
    try clear hcz11_2
    try clear hcz12_0
    try clear hcz12_1
    try clear hcz12_2
    try clear hcz12_3
    try clear hcz16_0
    try clear hcz16_1
    try clear hcz16_2
    try clear hcz18_0
    try clear hcz18_1
    try clear hcz18_2
    try clear hcz18_3
    try clear hcz21_0
    try clear hcz21_1
    try clear hcz21_2
    try clear hcz25_0
    try clear hcz25_1
    try clear hcz29_0
    try clear hcz29_1
    try clear hcz34_0
    try clear hcz34_1
    try clear hfz11_0
    try clear hfz11_1
    try clear hfz11_2
    try clear hfz12_3
    try clear hfz16_0
    try clear hfz16_1
    try clear hfz16_2
    try clear hfz18_3
    try clear hfz21_0
    try clear hfz21_1
    try clear hfz21_2
    try clear hfz25_0
    try clear hfz25_1
    try clear hfz29_0
    try clear hfz29_1
    try clear hfz34_0
    try clear hfz34_1
    try clear p2
    try clear p6
    obtain ⟨kq, x352000_16, x352001_16, HA, HJ16, BK351, BK356, HI0, HK, HB⟩ := hcut
    cases kq with
    | zero => exact absurd HA.out (by simp [optimal_paragraph_fit.j1])
    | succ kj16 =>
     have H := HA.out
     clear HA
     simp only [optimal_paragraph_fit.j1] at H
     by_cases c35 : x10_4 = 0
     ·rw [if_pos c35] at H
      exact absurd H (by simp)
     ·rw [if_neg c35] at H
      have c35b0 : (x10_4 == 0) = false := beq_eq_false_iff_ne.mpr c35
      have c35b1 : (x10_4 != 0) = true := bne_iff_ne.mpr c35
      by_cases c36 : (decide (t355 > t352)) = true
      ·rw [if_pos c36] at H
       have c36b0 : (decide (t355 > t352)) = true := c36
       clear c36
       by_cases c37 : (wrap64 (Int.tdiv (wrap64 (1000 * x9_4)) x10_4)) > 10000
       ·rw [if_pos c37] at H
        have c37b0 : decide (10000 < (wrap64 (Int.tdiv (wrap64 (1000 * x9_4)) x10_4))) = true := decide_eq_true c37
        clear c37
        simp only [Option.some.injEq, Prod.mk.injEq] at H
        obtain ⟨rfl, rfl, rfl, rfl⟩ := H
        have hnb38 := NB351_356.out
        have hnc38 := NB356_351.out
        have hnb39 := NB351_0.out
        have hnc39 := NB0_351.out
        have hcz40_0 : wc.cell? ⟨gb351, 0, none⟩ = some (.int .i64 x352000_16) := (blk_cell BK351.out 0).trans rfl
        have hcz40_1 : wc.cell? ⟨gb351, 1, none⟩ = some (.int .i64 x352001_16) := (blk_cell BK351.out 1).trans rfl
        have hfz40_0 := blk_frozen BK351.out 0
        have hfz40_1 := blk_frozen BK351.out 1
        go_wp2
        repeat (go_quiet (fail); try go_wp2)
        refine bodyPost_ret (results_ct rfl _ _ gb351 73 #[.int .i64 0, .int .i64 0] (0, 0) _ rfl (by (with_reducible repeat (first | refine blk_drewN ?_ _ | refine blk_drew ?_ | refine blk_alloc ?_ _)); refine blk_put (cs := #[.int .i64 0, .int .i64 x352001_16]) ?_ 1 _ rfl; (with_reducible repeat (first | refine blk_drewN ?_ _ | refine blk_drew ?_ | refine blk_alloc ?_ _)); refine blk_put (cs := #[.int .i64 x352000_16, .int .i64 x352001_16]) ?_ 0 _ rfl; (with_reducible repeat (first | refine blk_drewN ?_ _ | refine blk_drew ?_ | refine blk_alloc ?_ _)); exact BK351.out) Try.underlying73 rfl (by kernel_rfl)) rfl ?_
        exact ⟨by first | rfl | (simp [errW_none, errW_some] <;> rfl) | (simp [*, errW_none, errW_some] <;> rfl), by repeat (first | (with_reducible first | exact HI0.out | apply IsS79.alloc | apply IsS79.drewN | apply IsS79.drew | apply IsS79.set_3 | refine IsS79.far ?_ NB0_351.out _ | refine IsS79.far ?_ NB0_356.out _) | exact HI0.out), by repeat (first | (with_reducible first | exact HB.out | apply below_alloc | apply pw_below_drewN | apply below_drew1 | refine below_set ?_ (IsS79.ge HI0.out) | refine below_set ?_ GE351.out | refine below_set ?_ GE356.out) | exact HB.out), by repeat (first | (with_reducible first | exact HK.out | apply KeepBut.set_ | apply keep_drewN | apply keep_drew | apply keep_alloc | refine keep_far ?_ GW351.out _ | refine keep_far ?_ GW356.out _) | exact HK.out)⟩
       ·rw [if_neg c37] at H
        have c37b0 : decide (10000 < (wrap64 (Int.tdiv (wrap64 (1000 * x9_4)) x10_4))) = false := decide_eq_false c37
        clear c37
        simp only [Option.some.injEq, Prod.mk.injEq] at H
        obtain ⟨rfl, rfl, rfl, rfl⟩ := H
        have hnb41 := NB351_356.out
        have hnc41 := NB356_351.out
        have hnb42 := NB351_0.out
        have hnc42 := NB0_351.out
        have hcz43_0 : wc.cell? ⟨gb351, 0, none⟩ = some (.int .i64 x352000_16) := (blk_cell BK351.out 0).trans rfl
        have hcz43_1 : wc.cell? ⟨gb351, 1, none⟩ = some (.int .i64 x352001_16) := (blk_cell BK351.out 1).trans rfl
        have hfz43_0 := blk_frozen BK351.out 0
        have hfz43_1 := blk_frozen BK351.out 1
        go_wp2
        repeat (go_quiet (fail); try go_wp2)
        refine bodyPost_ret (results_ct rfl _ _ gb351 73 #[.int .i64 (wrap64 (Int.tdiv (wrap64 (1000 * x9_4)) x10_4)), .int .i64 ((wrap64 ((wrap64 ((wrap64 (100 * (wrap64 (Int.tdiv (wrap64 (256 * x9_4)) x10_4)))) * (wrap64 (Int.tdiv (wrap64 (256 * x9_4)) x10_4)))) * (wrap64 (Int.tdiv (wrap64 (256 * x9_4)) x10_4)))) / 16777216)] (0, 0) _ rfl (by (with_reducible repeat (first | refine blk_drewN ?_ _ | refine blk_drew ?_ | refine blk_alloc ?_ _)); refine blk_put (cs := #[.int .i64 (wrap64 (Int.tdiv (wrap64 (1000 * x9_4)) x10_4)), .int .i64 x352001_16]) ?_ 1 _ rfl; (with_reducible repeat (first | refine blk_drewN ?_ _ | refine blk_drew ?_ | refine blk_alloc ?_ _)); refine blk_put (cs := #[.int .i64 x352000_16, .int .i64 x352001_16]) ?_ 0 _ rfl; (with_reducible repeat (first | refine blk_drewN ?_ _ | refine blk_drew ?_ | refine blk_alloc ?_ _)); exact BK351.out) Try.underlying73 rfl (by kernel_rfl)) rfl ?_
        exact ⟨by first | rfl | (simp [errW_none, errW_some] <;> rfl) | (simp [*, errW_none, errW_some] <;> rfl), by repeat (first | (with_reducible first | exact HI0.out | apply IsS79.alloc | apply IsS79.drewN | apply IsS79.drew | apply IsS79.set_3 | refine IsS79.far ?_ NB0_351.out _ | refine IsS79.far ?_ NB0_356.out _) | exact HI0.out), by repeat (first | (with_reducible first | exact HB.out | apply below_alloc | apply pw_below_drewN | apply below_drew1 | refine below_set ?_ (IsS79.ge HI0.out) | refine below_set ?_ GE351.out | refine below_set ?_ GE356.out) | exact HB.out), by repeat (first | (with_reducible first | exact HK.out | apply KeepBut.set_ | apply keep_drewN | apply keep_drew | apply keep_alloc | refine keep_far ?_ GW351.out _ | refine keep_far ?_ GW356.out _) | exact HK.out)⟩
      ·rw [if_neg c36] at H
       have c36b0 : (decide (t355 > t352)) = false := by simpa using c36
       clear c36
       by_cases c44 : (wrap64 (-(wrap64 (Int.tdiv (wrap64 ((wrap64 ((wrap64 (1000 * x9_4)) + x10_4)) - 1)) x10_4)))) > 10000
       ·rw [if_pos c44] at H
        have c44b0 : decide (10000 < (wrap64 (-(wrap64 (Int.tdiv (wrap64 ((wrap64 ((wrap64 (1000 * x9_4)) + x10_4)) - 1)) x10_4))))) = true := decide_eq_true c44
        clear c44
        simp only [Option.some.injEq, Prod.mk.injEq] at H
        obtain ⟨rfl, rfl, rfl, rfl⟩ := H
        have hnb45 := NB351_356.out
        have hnc45 := NB356_351.out
        have hnb46 := NB351_0.out
        have hnc46 := NB0_351.out
        have hcz47_0 : wc.cell? ⟨gb351, 0, none⟩ = some (.int .i64 x352000_16) := (blk_cell BK351.out 0).trans rfl
        have hcz47_1 : wc.cell? ⟨gb351, 1, none⟩ = some (.int .i64 x352001_16) := (blk_cell BK351.out 1).trans rfl
        have hfz47_0 := blk_frozen BK351.out 0
        have hfz47_1 := blk_frozen BK351.out 1
        go_wp2
        repeat (go_quiet (fail); try go_wp2)
        refine bodyPost_ret (results_ct rfl _ _ gb351 73 #[.int .i64 0, .int .i64 0] (0, 0) _ rfl (by (with_reducible repeat (first | refine blk_drewN ?_ _ | refine blk_drew ?_ | refine blk_alloc ?_ _)); refine blk_put (cs := #[.int .i64 0, .int .i64 x352001_16]) ?_ 1 _ rfl; (with_reducible repeat (first | refine blk_drewN ?_ _ | refine blk_drew ?_ | refine blk_alloc ?_ _)); refine blk_put (cs := #[.int .i64 x352000_16, .int .i64 x352001_16]) ?_ 0 _ rfl; (with_reducible repeat (first | refine blk_drewN ?_ _ | refine blk_drew ?_ | refine blk_alloc ?_ _)); exact BK351.out) Try.underlying73 rfl (by kernel_rfl)) rfl ?_
        exact ⟨by first | rfl | (simp [errW_none, errW_some] <;> rfl) | (simp [*, errW_none, errW_some] <;> rfl), by repeat (first | (with_reducible first | exact HI0.out | apply IsS79.alloc | apply IsS79.drewN | apply IsS79.drew | apply IsS79.set_3 | refine IsS79.far ?_ NB0_351.out _ | refine IsS79.far ?_ NB0_356.out _) | exact HI0.out), by repeat (first | (with_reducible first | exact HB.out | apply below_alloc | apply pw_below_drewN | apply below_drew1 | refine below_set ?_ (IsS79.ge HI0.out) | refine below_set ?_ GE351.out | refine below_set ?_ GE356.out) | exact HB.out), by repeat (first | (with_reducible first | exact HK.out | apply KeepBut.set_ | apply keep_drewN | apply keep_drew | apply keep_alloc | refine keep_far ?_ GW351.out _ | refine keep_far ?_ GW356.out _) | exact HK.out)⟩
       ·rw [if_neg c44] at H
        have c44b0 : decide (10000 < (wrap64 (-(wrap64 (Int.tdiv (wrap64 ((wrap64 ((wrap64 (1000 * x9_4)) + x10_4)) - 1)) x10_4))))) = false := decide_eq_false c44
        clear c44
        simp only [Option.some.injEq, Prod.mk.injEq] at H
        obtain ⟨rfl, rfl, rfl, rfl⟩ := H
        have hnb48 := NB351_356.out
        have hnc48 := NB356_351.out
        have hnb49 := NB351_0.out
        have hnc49 := NB0_351.out
        have hcz50_0 : wc.cell? ⟨gb351, 0, none⟩ = some (.int .i64 x352000_16) := (blk_cell BK351.out 0).trans rfl
        have hcz50_1 : wc.cell? ⟨gb351, 1, none⟩ = some (.int .i64 x352001_16) := (blk_cell BK351.out 1).trans rfl
        have hfz50_0 := blk_frozen BK351.out 0
        have hfz50_1 := blk_frozen BK351.out 1
        go_wp2
        repeat (go_quiet (fail); try go_wp2)
        refine bodyPost_ret (results_ct rfl _ _ gb351 73 #[.int .i64 (wrap64 (-(wrap64 (Int.tdiv (wrap64 ((wrap64 ((wrap64 (1000 * x9_4)) + x10_4)) - 1)) x10_4)))), .int .i64 ((wrap64 ((wrap64 ((wrap64 (100 * (wrap64 (Int.tdiv (wrap64 (256 * x9_4)) x10_4)))) * (wrap64 (Int.tdiv (wrap64 (256 * x9_4)) x10_4)))) * (wrap64 (Int.tdiv (wrap64 (256 * x9_4)) x10_4)))) / 16777216)] (0, 0) _ rfl (by (with_reducible repeat (first | refine blk_drewN ?_ _ | refine blk_drew ?_ | refine blk_alloc ?_ _)); refine blk_put (cs := #[.int .i64 (wrap64 (-(wrap64 (Int.tdiv (wrap64 ((wrap64 ((wrap64 (1000 * x9_4)) + x10_4)) - 1)) x10_4)))), .int .i64 x352001_16]) ?_ 1 _ rfl; (with_reducible repeat (first | refine blk_drewN ?_ _ | refine blk_drew ?_ | refine blk_alloc ?_ _)); refine blk_put (cs := #[.int .i64 x352000_16, .int .i64 x352001_16]) ?_ 0 _ rfl; (with_reducible repeat (first | refine blk_drewN ?_ _ | refine blk_drew ?_ | refine blk_alloc ?_ _)); exact BK351.out) Try.underlying73 rfl (by kernel_rfl)) rfl ?_
        exact ⟨by first | rfl | (simp [errW_none, errW_some] <;> rfl) | (simp [*, errW_none, errW_some] <;> rfl), by repeat (first | (with_reducible first | exact HI0.out | apply IsS79.alloc | apply IsS79.drewN | apply IsS79.drew | apply IsS79.set_3 | refine IsS79.far ?_ NB0_351.out _ | refine IsS79.far ?_ NB0_356.out _) | exact HI0.out), by repeat (first | (with_reducible first | exact HB.out | apply below_alloc | apply pw_below_drewN | apply below_drew1 | refine below_set ?_ (IsS79.ge HI0.out) | refine below_set ?_ GE351.out | refine below_set ?_ GE356.out) | exact HB.out), by repeat (first | (with_reducible first | exact HK.out | apply KeepBut.set_ | apply keep_drewN | apply keep_drew | apply keep_alloc | refine keep_far ?_ GW351.out _ | refine keep_far ?_ GW356.out _) | exact HK.out)⟩

end Go.Proofs.Ytfbanppdiglciaa.Y
