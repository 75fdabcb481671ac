import Derived.Test.YtmlkpadlafjfeaaPx90
import Derived.Test.YtmlkpadlafjfeaaPx14
import Derived.Test.YtmlkpadlafjfeaaPx20
import Derived.Test.YtmlkpadlafjfeaaLongP
import Derived.Outline
import Derived.Deep.RegionWith
import Derived.WalkLawsBesides
import Derived.WalkSpells
import Derived.Deep.QuietTactic
import Derived.BigQuiet
import Derived.Deep.RegionLaw
set_option linter.unusedVariables false
set_option linter.unusedSimpArgs false
namespace Go.Proofs.Ytmlkpadlafjfeaa.P
open Go Go.RowKit Go.Proofs.YtmlkpadlafjfeaaW.PrintWords Go.Proofs.YtmlkpadlafjfeaaW.PrintLast Go.Proofs.YtmlkpadlafjfeaaW.PrintMore
def zP (w0 W : World) (P : List Nat) (g : Nat) (out : List S35) (x y : Int) : Prop :=
  ∃ v, W.heap[g]? = some (.cells #[v, .int .i64 x, .int .i64 y] 89 (0, 0)) ∧ Kd.R k35 35 W w0.heap.size (fun k => k ∉ P) v out ∧ g ∈ P ∧ w0.heap.size ≤ g ∧ Below w0.heap.size w0 W ∧ ∀ k, k ∈ P → k < W.heap.size
def Kp (P : List Nat) (g : Nat) (w W : World) : Prop := w.heap.size ≤ W.heap.size ∧ ∀ k, k ∈ P → k ≠ g → W.heap[k]? = w.heap[k]?
theorem Jq {w : World} {g i : Nat} {v u : Value} {cs : Array Value} {t : TypeId} (h : w.heap[g]? = some (.cells cs t (0, 0))) : (w.setCell ⟨g, i, none⟩ u).heap[g]? = some (.cells (cs.setIfInBounds i u) t (0, 0)) := jN h i u
set_option maxRecDepth 100000 in
set_option maxHeartbeats 2000000 in
theorem JS (w0 w : World) (P : List Nat) (g : Nat) (out : List S35) (x y a b : Int) (hl : out.length ≤ 1000000) (HI : qa (zP w0 w P g out x y)) :
    Calls Try.prog 47 #[.pointer (some ⟨g, 0, none⟩), .agg #[.int .i64 a, .int .i64 b]] w fun e w' => e = .returned (.tuple #[]) ∧ zP w0 w' P g (out ++ [⟨a, b⟩]) a b ∧ Kp P g w w' := by
  obtain ⟨v, h1, h2, h3, h4, h5, h6⟩ := HI.out
  have gl := qy h1
  have c0 : w.cell? ⟨g, 0, none⟩ = some v := (qb h1 0).trans rfl
  have c1 : w.cell? ⟨g, 1, none⟩ = some (.int .i64 x) := (qb h1 1).trans rfl
  have c2 : w.cell? ⟨g, 2, none⟩ = some (.int .i64 y) := (qb h1 2).trans rfl
  have f0 := qo h1 0
  have f1 := qo h1 1
  have f2 := qo h1 2
  go_enter Try.func47, Try.ntmps47
  go_wp2
  have W1 : ∃ W, W = (((w.setCell ⟨g, 1, none⟩ (.int .i64 a)).setCell ⟨g, 2, none⟩ (.int .i64 b)).alloc (Obj.cells #[Value.int IntKind.i64 a, Value.int IntKind.i64 b] 35)) := ⟨_, rfl⟩
  obtain ⟨W, hW⟩ := W1
  rw [← hW]
  have sz : W.heap.size = w.heap.size + 1 := by rw [hW]; simp [World.alloc, World.setCell]
  have k1 : W.heap[g]? = some (.cells #[v, .int .i64 a, .int .i64 b] 89 (0, 0)) := by
    rw [hW]; exact qg ((Jq (v := v) (Jq (v := v) h1)).trans rfl) _
  have kb : W.heap[w.heap.size]? = some (.cells #[.int .i64 a, .int .i64 b] 35 (0, 0)) := by
    rw [hW]; have := zu ((w.setCell ⟨g, 1, none⟩ (.int .i64 a)).setCell ⟨g, 2, none⟩ (.int .i64 b)) (Obj.cells #[Value.int IntKind.i64 a, Value.int IntKind.i64 b] 35); simpa [World.setCell] using this
  have R1 : Kd.R k35 35 W w0.heap.size (fun k => k ∉ P) v out := by
    rw [hW]
    exact Kd.Qe (Kd.QO (Kd.QO h2 (fun k hk e => hk (e ▸ h3)) _) (fun k hk e => hk (e ▸ h3)) _) _
  have B1 : Below w0.heap.size w0 W := by rw [hW]; exact qw (qf (qf h5 h4) h4) _
  have K1 : ∀ k, k ∈ P → k ≠ g → W.heap[k]? = w.heap[k]? := by
    intro k hk hn
    rw [hW, Below.heap_alloc _ _ k (by have := h6 k hk; simpa [World.setCell] using this), Below.heap_setCell _ _ _ k (fun e => hn e), Below.heap_setCell _ _ _ k (fun e => hn e)]
  have c0' : W.cell? ⟨g, 0, none⟩ = some v := (qb k1 0).trans rfl
  have b0' : W.cell? ⟨w.heap.size, 0, none⟩ = some (.int .i64 a) := (qb kb 0).trans rfl
  have b1' : W.cell? ⟨w.heap.size, 1, none⟩ = some (.int .i64 b) := (qb kb 1).trans rfl
  have h6' : ∀ k, k ∈ P → k < W.heap.size := fun k hk => by have := h6 k hk; omega
  have V1 := (Kd.R_val R1).1
  have hkP : ∀ k, v.ownBlock = some k → k ∉ P := R1.1
  have nv : some g ≠ v.ownBlock := fun e => hkP g e.symm h3
  have nb : some w.heap.size ≠ v.ownBlock := fun e => by have := (Kd.QB h2).1 _ e.symm; omega
  have h6a : ∀ k, k ∈ P → k < W.drew.heap.size := h6'
  have c0d : W.drew.cell? ⟨g, 0, none⟩ = some v := c0'
  have b0d : W.drew.cell? ⟨w.heap.size, 0, none⟩ = some (.int .i64 a) := b0'
  have b1d : W.drew.cell? ⟨w.heap.size, 1, none⟩ = some (.int .i64 b) := b1'
  have bz := qx B1
  have SZ := qa.mk sz
  clear sz hW c0 c1 c2 f0 f1 f2 c0' b0' b1'
  refine jS (n := 11) (S := fun w' => w'.cell? ⟨g, 0, none⟩ = some v ∧ w'.cell? ⟨w.heap.size, 0, none⟩ = some (.int .i64 a) ∧ w'.cell? ⟨w.heap.size, 1, none⟩ = some (.int .i64 b)) (ds := [10]) #[false, false, false, false, false, false, false, false, false, false, false] (by kernel_rfl) rfl rfl ⟨c0d, b0d, b1d⟩ (fun hHeld => ?_)
  refine za (i := 0) (N := some 8) (v := ?_) (a' := ?_) #[true, false, false, false, false, false, false, false, false, false, false] rfl rfl (by kernel_rfl) (fun _ _ _ h => h) (Or.inl ⟨by rfl, ?_⟩) ?_ ?_
  rotate_left
  · intro w'
    go_simp
    with_reducible rfl
  rotate_left
  · simp only [Act.put, List.setIfInBounds_toArray, List.set_cons_zero, List.set_cons_succ, qz, qA]
    rfl
  refine za (i := 1) (N := some 9) (v := ?_) (a' := ?_) #[true, true, false, false, false, false, false, false, false, false, false] rfl rfl (by kernel_rfl) (fun _ _ _ h => h) (Or.inl ⟨by rfl, ?_⟩) ?_ ?_
  rotate_left
  · intro w'
    go_simp
    with_reducible rfl
  rotate_left
  · simp only [Act.put, List.setIfInBounds_toArray, List.set_cons_zero, List.set_cons_succ, qz, qA]
    rfl
  refine za (i := 2) (N := some 10) (v := ?_) (a' := ?_) #[true, true, true, false, false, false, false, false, false, false, false] rfl rfl (by kernel_rfl) (fun _ _ _ h => h) (Or.inl ⟨by rfl, ?_⟩) ?_ ?_
  rotate_left
  · intro w'
    go_simp
    with_reducible rfl
  rotate_left
  · simp only [Act.put, List.setIfInBounds_toArray, List.set_cons_zero, List.set_cons_succ, qz, qA]
    rfl
  refine za (i := 3) (N := some 11) (v := ?_) (a' := ?_) #[true, true, true, true, false, false, false, false, false, false, false] rfl rfl (by kernel_rfl) (fun _ _ _ h => h) (Or.inl ⟨by rfl, ?_⟩) ?_ ?_
  rotate_left
  · intro w'
    go_simp
    with_reducible rfl
  rotate_left
  · simp only [Act.put, List.setIfInBounds_toArray, List.set_cons_zero, List.set_cons_succ, qz, qA]
    rfl
  refine zD (i := 4) (N := some 12) (v := ?_) (a' := ?_) #[true, true, true, true, true, false, false, false, false, false, false] rfl rfl (by kernel_rfl) (fun _ _ _ h => h) (Or.inl ⟨by rfl, ?_⟩) hHeld ?_ ?_
  rotate_left
  · rintro w' ⟨s0, s1, s2⟩
    go_simp
    with_reducible rfl
  rotate_left
  · simp only [Act.put, List.setIfInBounds_toArray, List.set_cons_zero, List.set_cons_succ, qz, qA]
    rfl
  refine zD (i := 5) (N := some 13) (v := ?_) (a' := ?_) #[true, true, true, true, true, true, false, false, false, false, false] rfl rfl (by kernel_rfl) (fun _ _ _ h => h) (Or.inl ⟨by rfl, ?_⟩) hHeld ?_ ?_
  rotate_left
  · rintro w' ⟨s0, s1, s2⟩
    go_simp
    with_reducible rfl
  rotate_left
  · simp only [Act.put, List.setIfInBounds_toArray, List.set_cons_zero, List.set_cons_succ, qz, qA]
    rfl
  refine jd (i := 6) (N := some 14) #[true, true, true, true, true, true, true, false, false, false, false] rfl rfl (by kernel_rfl) (by decide) (fun K hK => ?_)
  refine Z5 (w1 := ?_) (v := ?_) (by rfl) rfl ?_ ?_
  rotate_left 2
  · go_simp
    constructor
    · rfl
    · rfl
  refine hK.out _ _ ⟨(World.cell?_alloc_lt _ _ _ (World.block_lt_of_cell? _ _ hHeld.1)).trans hHeld.1, (World.cell?_alloc_lt _ _ _ (World.block_lt_of_cell? _ _ hHeld.2.1)).trans hHeld.2.1, (World.cell?_alloc_lt _ _ _ (World.block_lt_of_cell? _ _ hHeld.2.2)).trans hHeld.2.2⟩ (fun hHeld => ?_)
  clear hK K
  refine zo (a' := ?_) ?_ ?_
  rotate_left
  · show Act.put _ (some 14) _ = _
    simp only [Act.put, List.setIfInBounds_toArray, List.set_cons_zero, List.set_cons_succ, qz, qA]
    rfl
  refine jd (i := 7) (N := some 15) #[true, true, true, true, true, true, true, true, false, false, false] rfl rfl (by kernel_rfl) (by decide) (fun K hK => ?_)
  refine Kd.Zv k35 (w0 := w0) (W := W.drew) w0.heap.size (by rfl) (.tmp 12) (.tmp 14) 33 35 (.agg #[(.int .i64 0), (.int .i64 0)]) 16 rfl Try.underlying33 info35 rfl (by decide) (by omega) v out (⟨a, b⟩ : S35) [.int .i64 a, .int .i64 b] (fun k => k ∉ P) (fun _ => False) rfl rfl ?aP (fun _ hk => hk.elim) ?aF ?aO ?aB ?aS ?aL ?_
  (case aP => exact JJ _ _ _ (⟨a, b⟩ : S35))
  (case aF => exact fun k hk hp => absurd (h6a k hp) (Nat.not_lt.2 hk))
  (case aO => exact Kd.Qu R1)
  (case aB => exact jf B1)
  (case aS => exact bz)
  (case aL => omega)
  intro v1 w1 hR hB hg hat
  obtain ⟨A1, cap1, e1⟩ := Kd.zX hR
  subst e1
  have K2 := qa.mk (Qy (qd k1) hg nv)
  have ff := qo K2.out 0
  have cc := (qb K2.out 0).trans rfl
  refine hK.out _ _ ⟨cell_grown hg c0d nv, cell_grown hg b0d nb, cell_grown hg b1d nb⟩ (fun hHeld => ?_)
  clear hK K
  refine zo (a' := ?_) ?_ ?_
  rotate_left
  · show Act.put _ (some 15) _ = _
    simp only [Act.put, List.setIfInBounds_toArray, List.set_cons_zero, List.set_cons_succ, qz, qA]
    rfl
  refine za (i := 8) (N := some 16) (v := ?_) (a' := ?_) #[true, true, true, true, true, true, true, true, true, false, false] rfl rfl (by kernel_rfl) (fun _ _ _ h => h) (Or.inl ⟨by rfl, ?_⟩) ?_ ?_
  rotate_left
  · intro w'
    go_simp
    with_reducible rfl
  rotate_left
  · simp only [Act.put, List.setIfInBounds_toArray, List.set_cons_zero, List.set_cons_succ, qz, qA]
    rfl
  refine za (i := 9) (N := some 17) (v := ?_) (a' := ?_) #[true, true, true, true, true, true, true, true, true, true, false] rfl rfl (by kernel_rfl) (fun _ _ _ h => h) (Or.inl ⟨by rfl, ?_⟩) ?_ ?_
  rotate_left
  · intro w'
    go_simp
    with_reducible rfl
  rotate_left
  · simp only [Act.put, List.setIfInBounds_toArray, List.set_cons_zero, List.set_cons_succ, qz, qA]
    rfl
  refine QP (i := 10) (N := none) #[true, true, true, true, true, true, true, true, true, true, true] rfl rfl (by kernel_rfl) (by decide) (fun K hK => ?_)
  refine ZT (w1 := ?_) (by rfl) rfl ?_ ?_
  rotate_left
  · go_simp
    rfl
  refine hK.out _ _ ?_
  clear hK K
  refine Qa (by kernel_rfl) ?_
  go_wp2
  refine bodyPost_end (results_none rfl _ _ _) rfl ?_
  have hn1 : some g ≠ (Value.slice A1 (out ++ [(⟨a, b⟩ : S35)]).length cap1).ownBlock := fun e => hR.1 g e.symm h3
  have sz := SZ.out
  have wz : w.heap.size ≤ w1.heap.size := by have h7 : W.heap.size ≤ w1.heap.size := hg.size; omega
  refine ⟨rfl, ⟨.slice A1 (out ++ [(⟨a, b⟩ : S35)]).length cap1, ?_, ?_, h3, h4, ?_, ?_⟩, ?_, ?_⟩
  · have := jN K2.out 0 (.slice A1 (out.length + 1) cap1)
    simpa using this
  · exact Kd.QO hR (fun k hk e => hk (e ▸ h3)) _
  · exact qf hB h4
  · intro k hk; have := h6 k hk; simp [World.setCell]; omega
  · simp [World.setCell]; omega
  · intro k hk hn
    rw [Below.heap_setCell _ _ _ k (fun e => hn e), hg.block k (h6a k hk) (fun e => hkP k e.symm hk)]
    exact K1 k hk hn
theorem quad_at (k : Nat) (w : World) (a c b j i n r : Int) (bj bi bn : Nat) (hj : w.heap[bj]? = some (.cells #[.int .i64 j] 3 (0, 0))) (hi : w.heap[bi]? = some (.cells #[.int .i64 i] 3 (0, 0))) (hn : w.heap[bn]? = some (.cells #[.int .i64 n] 3 (0, 0)))
    (h : qa (zZ.f k (wrap64 (wrap64 (wrap64 (wrap64 (a * j) * j) + wrap64 (wrap64 (wrap64 (2 * c) * i) * j)) + wrap64 (wrap64 (b * i) * i))) (wrap64 (n * n)) = some r)) :
    Calls Try.prog 66 #[.int .i64 a, .int .i64 c, .int .i64 b, .pointer (some ⟨bj, 0, none⟩), .pointer (some ⟨bi, 0, none⟩), .pointer (some ⟨bn, 0, none⟩)] w fun e w' => e = .returned (.int .i64 r) ∧ Below w.heap.size w w' := by
  have cj : w.cell? ⟨bj, 0, none⟩ = some (.int .i64 j) := (qb hj 0).trans rfl
  have ci : w.cell? ⟨bi, 0, none⟩ = some (.int .i64 i) := (qb hi 0).trans rfl
  have cn : w.cell? ⟨bn, 0, none⟩ = some (.int .i64 n) := (qb hn 0).trans rfl
  go_enter Try.func66, Try.ntmps66
  go_wp2_with (go_at_call 67; refine (zZ.calls k _ _ r _ h.out).mono ?_; rintro e w2 ⟨rfl, hd2⟩; have HD := qa.mk hd2; clear hd2)
  go_ret
  exact ⟨rfl, HD.out⟩
section
variable {w0 W W1 : World} {P : List Nat} {g : Nat} {out : List S35} {x y : Int}
theorem zP.below (h : zP w0 W P g out x y) (hb : Below W.heap.size W W1) : zP w0 W1 P g out x y := by
  obtain ⟨v, h1, h2, h3, h4, h5, h6⟩ := h
  exact ⟨v, (hb.block g (qy h1)).trans h1, Kd.QC h2 hb, h3, h4, qh h5 hb, fun k hk => Nat.lt_of_lt_of_le (h6 k hk) (qx hb)⟩
theorem zP.drew (h : zP w0 W P g out x y) : zP w0 W.drew P g out x y := h.below (jf (Below.refl _ _))
theorem zP.drewN (h : zP w0 W P g out x y) (n : Nat) : zP w0 (W.drewN n) P g out x y := h.below (qC (Below.refl _ _) n)
theorem zP.alloc (h : zP w0 W P g out x y) (o : Obj) : zP w0 (W.alloc o) P g out x y := h.below (qw (Below.refl _ _) o)
theorem zP.guard (h : zP w0 W P g out x y) (o : Obj) : zP w0 (W.alloc o) (W.heap.size :: P) g out x y := by
  obtain ⟨v, h1, h2, h3, h4, h5, h6⟩ := h
  refine ⟨v, qg h1 o, Kd.Qe (Kd.zV (Kd.QB h2) (fun k hk hm => ?_)) o, List.mem_cons_of_mem _ h3, h4, qw h5 o, fun k hk => ?_⟩
  · rcases List.mem_cons.1 hm with e | e
    · have := hk.2.2.1; omega
    · exact hk.1 e
  · have : (W.alloc o).heap.size = W.heap.size + 1 := by show (W.heap.push o).size = _; exact Array.size_push _
    rcases List.mem_cons.1 hk with e | e
    · omega
    · have := h6 k e; omega
theorem zP.set (h : zP w0 W P g out x y) {k j : Nat} {u : Value} (hk : k ∈ P) (hn : k ≠ g) (hb : w0.heap.size ≤ k) : zP w0 (W.setCell ⟨k, j, none⟩ u) P g out x y := by
  obtain ⟨v, h1, h2, h3, h4, h5, h6⟩ := h
  refine ⟨v, ?_, Kd.QO h2 (fun q hq e => hq (e ▸ hk)) u, h3, h4, qf h5 hb, fun q hq => ?_⟩
  · rw [Below.heap_setCell _ _ _ g (fun e => hn e.symm)]; exact h1
  · have := h6 q hq; simp [World.setCell]; omega
theorem zP.weak (h : zP w0 W P g out x y) {P' : List Nat} (hs : ∀ k, k ∈ P' → k ∈ P) (hg : g ∈ P') : zP w0 W P' g out x y := by
  obtain ⟨v, h1, h2, h3, h4, h5, h6⟩ := h
  exact ⟨v, h1, Kd.zV h2 (fun k hk hm => hk (hs k hm)), hg, h4, h5, fun k hk => h6 k (hs k hk)⟩
theorem zP.lt (h : zP w0 W P g out x y) : g < W.heap.size := by obtain ⟨v, h1, _⟩ := h; exact qy h1
theorem zP.base (h : zP w0 W P g out x y) : w0.heap.size ≤ W.heap.size := by obtain ⟨v, _, _, _, _, h5, _⟩ := h; exact qx h5
end
theorem Kp.refl (P : List Nat) (g : Nat) (w : World) : Kp P g w w := ⟨Nat.le_refl _, fun _ _ _ => rfl⟩
theorem Kp.trans {P : List Nat} {g : Nat} {a b c : World} (h : Kp P g a b) (h' : Kp P g b c) : Kp P g a c := ⟨Nat.le_trans h.1 h'.1, fun k hk hn => (h'.2 k hk hn).trans (h.2 k hk hn)⟩
theorem Kp.weak {P P' : List Nat} {g : Nat} {a b : World} (h : Kp P g a b) (hs : ∀ k, k ∈ P' → k ∈ P) : Kp P' g a b := ⟨h.1, fun k hk hn => h.2 k (hs k hk) hn⟩
theorem Kp.below {P : List Nat} {g : Nat} {a b c : World} (h : Kp P g a b) (hP : ∀ k, k ∈ P → k < b.heap.size) (hb : Below b.heap.size b c) : Kp P g a c :=
  ⟨Nat.le_trans h.1 (qx hb), fun k hk hn => (hb.block k (hP k hk)).trans (h.2 k hk hn)⟩
theorem Kp.set {P : List Nat} {g : Nat} {a b : World} (h : Kp P g a b) {k j : Nat} {u : Value} (hk : k ∉ P) : Kp P g a (b.setCell ⟨k, j, none⟩ u) :=
  ⟨by have := h.1; simp [World.setCell]; omega, fun q hq hn => by rw [Below.heap_setCell b ⟨k, j, none⟩ u q (fun e : q = k => hk (e ▸ hq))]; exact h.2 q hq hn⟩
theorem goesC_ {P : Program} {ops : Array Oper} {Q : Exit → Act → World → Prop} {oi : Oper} {N : Option Tmp} {a : Act} {w : World} {K : Act → World → Prop} {f : FuncId} {fn : Func} {ass : Array Operand} {ts : Array TypeId} {t : Tmp} {cap : Array Value} (hf : P.funcs[f]? = some fn) (hname : (fn.name == "runtime.NumGoroutine") = false) (hb : fn.body.isSome = true) (args all : Array Value)
    (hw : Region.wanted oi (yielded ops a.tmps) = true) (hN : oi.dst = N) (hop : oi.op = .call { callee := .value (.tmp t), args := ass, argTypes := ts }) (hfn : a.eval (.tmp t) = .func (.func f) #[] cap) (hargs : ass.map a.eval = args) (hall : args ++ cap = all)
    (h : Calls P f all w fun e w' => ∃ v, e = .returned v ∧ K (a.put N v) w') : if Region.wanted oi (yielded ops a.tmps) = true then Oper.wp P oi a w K Q else K (a.put N undef) w := by
  subst hall
  refine call_ f (args ++ cap) hw hN ?_ h
  have he := enters_ hf hname hb (args ++ cap) w
  unfold execOp
  simp [hop, resolve, Deferred.ofValue, invoke, hfn, hargs, he]
def qX (a c b n i : Int) : Int := wrap64 (wrap64 (wrap64 (wrap64 (a * (n - i)) * (n - i)) + wrap64 (wrap64 (wrap64 (2 * c) * i) * (n - i))) + wrap64 (wrap64 (b * i) * i))
def qL (k : Nat) (a0 a1 c0 c1 b0 b1 n : Int) : Nat → Int → Option (List S35)
  | 0, _ => some []
  | m + 1, i => (zZ.f k (qX a0 c0 b0 n i) (wrap64 (n * n))).bind fun r => (zZ.f k (qX a1 c1 b1 n i) (wrap64 (n * n))).bind fun s => (qL k a0 a1 c0 c1 b0 b1 n m (i + 1)).bind fun q => some (⟨r, s⟩ :: q)
def Zw (k : Nat) (a0 a1 c0 c1 b0 b1 : Int) : Option (List S35) :=
  (jo.f a0 a1 c0 c1 b0 b1).bind fun d => (zt.f k d).bind fun n => if 0 ≤ n ∧ n ≤ 100 then qL k a0 a1 c0 c1 b0 b1 n n.toNat 1 else none
def Qi (x y : Int) (l : List S35) : S35 := l.getLast?.getD ⟨x, y⟩
theorem Zq {w w' : World} (h : qE w w') : Below w.heap.size w w' := by obtain ⟨q, rfl⟩ := h.out; exact qC (Below.refl _ _) q
theorem zP.lts {w0 W : World} {P : List Nat} {g : Nat} {out : List S35} {x y : Int} (h : zP w0 W P g out x y) : ∀ k, k ∈ P → k < W.heap.size := by obtain ⟨v, _, _, _, _, _, h6⟩ := h; exact h6
theorem zP.gm {w0 W : World} {P : List Nat} {g : Nat} {out : List S35} {x y : Int} (h : zP w0 W P g out x y) : g ∈ P := by obtain ⟨v, _, _, h3, _⟩ := h; exact h3
theorem qbb (x y : Int) (l : List S35) (p : S35) : Qi x y (l ++ [p]) = p := by unfold Qi; simp
theorem QM (w : World) (o : Obj) : (w.alloc o).heap.size = w.heap.size + 1 := by show (w.heap.push o).size = _; exact Array.size_push _
theorem pen_three {w0 w : World} {P : List Nat} {g : Nat} {out : List S35} {x y : Int} (h : zP w0 w P g out x y) (o1 o2 o3 : Obj) :
    ∃ W tc tt ta, W = ((w.alloc o1).alloc o2).alloc o3 ∧ w.heap.size = tc ∧ w.heap.size + 1 = tt ∧ w.heap.size + 1 + 1 = ta ∧ zP w0 W (ta :: tt :: tc :: P) g out x y ∧ W.heap[tc]? = some o1 ∧ W.heap[tt]? = some o2 ∧ W.heap[ta]? = some o3 ∧ Below w.heap.size w W ∧ tc ≠ g ∧ tt ≠ g ∧ ta ≠ g := by
  have e1 : (w.alloc o1).heap.size = w.heap.size + 1 := by show (w.heap.push o1).size = _; exact Array.size_push _
  have e2 : ((w.alloc o1).alloc o2).heap.size = w.heap.size + 1 + 1 := by show ((w.alloc o1).heap.push o2).size = _; rw [Array.size_push, e1]
  have i3 := ((h.guard o1).guard o2).guard o3
  rw [e1, e2] at i3
  have gl := h.lt
  refine ⟨_, _, _, _, rfl, rfl, rfl, rfl, i3, qg (qg (zu w o1) o2) o3, qg (by rw [← e1]; exact zu (w.alloc o1) o2) o3, by rw [← e2]; exact zu ((w.alloc o1).alloc o2) o3, qw (qw (qw (Below.refl _ _) o1) o2) o3, by omega, by omega, by omega⟩
set_option maxRecDepth 100000 in
set_option maxHeartbeats 4000000 in
theorem pen_quad (k : Nat) (w0 w : World) (P : List Nat) (g : Nat) (out pts : List S35) (x y c0 c1 b0 b1 : Int) (hl : out.length ≤ 900000) (HI : qa (zP w0 w P g out x y)) (H : qa (Zw k x y c0 c1 b0 b1 = some pts)) :
    Calls Try.prog 50 #[.pointer (some ⟨g, 0, none⟩), .agg #[.int .i64 c0, .int .i64 c1], .agg #[.int .i64 b0, .int .i64 b1]] w fun e w' => e = .returned (.tuple #[]) ∧ zP w0 w' P g (out ++ pts) (Qi x y pts).f0 (Qi x y pts).f1 ∧ Kp P g w w' := by
  have h := H.out
  unfold Zw at h
  obtain ⟨d, h1, h⟩ := Option.bind_eq_some_iff.mp h
  obtain ⟨n, h2, h⟩ := Option.bind_eq_some_iff.mp h
  have n0 : 0 ≤ n ∧ n ≤ 100 := Classical.byContradiction fun z => by rw [if_neg z] at h; cases h
  rw [if_pos n0] at h
  have Hd := qa.mk h1
  have Hn := qa.mk h2
  have Hq := qa.mk h
  clear h h1 h2 H
  obtain ⟨v, p1, _⟩ := HI.out
  have gl := qy p1
  have x0 : w.cell? ⟨g, 1, none⟩ = some (.int .i64 x) := (qb p1 1).trans rfl
  have x1 : w.cell? ⟨g, 2, none⟩ = some (.int .i64 y) := (qb p1 2).trans rfl
  have gl1 : g < w.heap.size + 1 := by omega
  have gl2 : g < w.heap.size + 1 + 1 := by omega
  clear p1
  go_enter Try.func50, Try.ntmps50
  go_upto_region 2 with fail
  obtain ⟨W, tc, tt, ta, eW, ec, et, ea, I1, bc, bt, ba, bl, nc, nt, na⟩ := pen_three HI.out (Obj.cells #[.int .i64 c0, .int .i64 c1] 35) (Obj.cells #[.int .i64 b0, .int .i64 b1] 35) (Obj.cells #[.int .i64 x, .int .i64 y] 35)
  rw [← eW, ea, et, ec]
  have I1' := qa.mk I1
  have BC := qa.mk bc
  have BT := qa.mk bt
  have BA := qa.mk ba
  have BL := qa.mk bl
  have EC := qa.mk ec
  have cc0 : W.cell? ⟨tc, 0, none⟩ = some (.int .i64 c0) := (qb bc 0).trans rfl
  have cc1 : W.cell? ⟨tc, 1, none⟩ = some (.int .i64 c1) := (qb bc 1).trans rfl
  have ct0 : W.cell? ⟨tt, 0, none⟩ = some (.int .i64 b0) := (qb bt 0).trans rfl
  have ct1 : W.cell? ⟨tt, 1, none⟩ = some (.int .i64 b1) := (qb bt 1).trans rfl
  have ca0 : W.cell? ⟨ta, 0, none⟩ = some (.int .i64 x) := (qb ba 0).trans rfl
  have ca1 : W.cell? ⟨ta, 1, none⟩ = some (.int .i64 y) := (qb ba 1).trans rfl
  clear eW ec et ea I1 bc bt ba bl x0 x1 gl gl1 gl2
  go_upto_block 0 with (first | (go_at_call 65; refine (jo.calls _ _ _ _ _ _ d _ Hd.out).mono ?_; rintro e w2 ⟨rfl, hb2⟩; have HB2 := qa.mk hb2; clear hb2) | (go_at_call 64; refine (zt.calls k _ n _ Hn.out).mono ?_; rintro e w3 ⟨rfl, hd3⟩; have HB3 := qa.mk (Zq hd3); clear hd3))
  have i3 := qa.mk ((I1'.out.below HB2.out).below HB3.out)
  have hbW := qa.mk (qh HB2.out HB3.out)
  obtain ⟨W4, tn, ti, eW4, en, ei, I4, N4, K4, b4, en1⟩ : ∃ W4 tn ti, W4 = ((w3.alloc (Obj.cells #[.int .i64 n] 3)).alloc (Obj.cells #[.int .i64 1] 3)) ∧ w3.heap.size = tn ∧ w3.heap.size + 1 = ti ∧ zP w0 W4 (ti :: tn :: ta :: tt :: tc :: P) g out x y ∧ W4.heap[tn]? = some (.cells #[.int .i64 n] 3 (0, 0)) ∧ W4.heap[ti]? = some (.cells #[.int .i64 1] 3 (0, 0)) ∧ Below w3.heap.size w3 W4 ∧ (tn ≠ g ∧ ti ≠ g ∧ w0.heap.size ≤ ti ∧ ti ∉ tn :: ta :: tt :: tc :: P) := by
    have gl := i3.out.lt
    have hb0 := i3.out.base
    have hl3 := i3.out.lts
    have a := (i3.out.guard (Obj.cells #[.int .i64 n] 3)).guard (Obj.cells #[.int .i64 1] 3)
    rw [QM] at a
    refine ⟨_, _, _, rfl, rfl, rfl, a, qg (zu w3 _) _, by rw [← QM w3 (Obj.cells #[.int .i64 n] 3)]; exact zu _ _, qw (qw (Below.refl _ _) _) _, by omega, by omega, by omega, fun hm => ?_⟩
    rcases List.mem_cons.1 hm with e | e
    · omega
    · have := hl3 _ e; omega
  rw [← eW4, ei, en]
  have Q4 := qa.mk (Kp.refl (tn :: ta :: tt :: tc :: P) g W4)
  have I4' := qa.mk I4
  have N4' := qa.mk N4
  have K4' := qa.mk K4
  have C4 := qa.mk ((b4.block _ (i3.out.lts _ (by simp))).trans ((hbW.out.block _ (I1'.out.lts _ (by simp))).trans BC.out))
  have T4 := qa.mk ((b4.block _ (i3.out.lts _ (by simp))).trans ((hbW.out.block _ (I1'.out.lts _ (by simp))).trans BT.out))
  have A4 := qa.mk ((b4.block _ (i3.out.lts _ (by simp))).trans ((hbW.out.block _ (I1'.out.lts _ (by simp))).trans BA.out))
  have NN := qa.mk en1.1
  have E4 := qa.mk en1
  have BW4 := qa.mk (qh hbW.out b4)
  clear eW4 en ei I4 N4 K4 b4 en1
  go_wp2
  go_loopw [8] (fun v8 wr => ∃ (bi : Nat) (i : Int) (out1 done rest : List S35) (x1 y1 : Int) (m : Nat), v8 = .pointer (some ⟨bi, 0, none⟩) ∧ 1 ≤ i ∧ (m : Int) = n + 1 - i ∧ qa (wr.heap[bi]? = some (.cells #[.int .i64 i] 3 (0, 0))) ∧ qa (bi ≠ g ∧ bi ∉ tn :: ta :: tt :: tc :: P) ∧ qa (zP w0 wr (bi :: tn :: ta :: tt :: tc :: P) g out1 x1 y1) ∧ qa (qL k x y c0 c1 b0 b1 n m i = some rest) ∧ qa (out1 = out ++ done ∧ pts = done ++ rest ∧ (⟨x1, y1⟩ : S35) = Qi x y done) ∧ done.length ≤ (i - 1).toNat ∧
      qa (wr.heap[tn]? = some (.cells #[.int .i64 n] 3 (0, 0))) ∧ qa (wr.heap[tc]? = some (.cells #[.int .i64 c0, .int .i64 c1] 35 (0, 0))) ∧ qa (wr.heap[tt]? = some (.cells #[.int .i64 b0, .int .i64 b1] 35 (0, 0))) ∧ qa (wr.heap[ta]? = some (.cells #[.int .i64 x, .int .i64 y] 35 (0, 0))) ∧ qa (Kp (tn :: ta :: tt :: tc :: P) g W4 wr) ∧ qa (m = m)) (fun v8 wr => match v8 with | .pointer (some a) => (match wr.cell? a with | some (.int _ i) => (n + 1 - i).toNat | _ => 0) | _ => 0)
  case atStart => exact ⟨ti, 1, out, [], pts, x, y, n.toNat, rfl, by omega, by omega, K4', ⟨⟨E4.out.2.1, E4.out.2.2.2⟩⟩, I4', Hq, ⟨⟨by simp, rfl, rfl⟩⟩, by simp, N4', C4, T4, A4, Q4, ⟨rfl⟩⟩
  case round =>
    obtain ⟨bi, i, out1, done, rest, x1, y1, m, rfl, i1, im, KB, NG, IR, QR, OR, dl, NR, CR, TR, AR, KR, _⟩ := hrel
    have cb : wr.cell? ⟨bi, 0, none⟩ = some (.int .i64 i) := (qb KB.out 0).trans rfl
    have cn : wr.cell? ⟨tn, 0, none⟩ = some (.int .i64 n) := (qb NR.out 0).trans rfl
    by_cases hlt : i ≤ n
    · obtain ⟨m, rfl⟩ : ∃ q, m = q + 1 := ⟨m - 1, by omega⟩
      have qr := QR.out
      simp only [qL] at qr
      obtain ⟨r, hr, qr⟩ := Option.bind_eq_some_iff.mp qr
      obtain ⟨s, hs, qr⟩ := Option.bind_eq_some_iff.mp qr
      obtain ⟨rest, hq, qr⟩ := Option.bind_eq_some_iff.mp qr
      injection qr with qr
      subst qr
      have HR := qa.mk hr
      have HS := qa.mk hs
      have HQ := qa.mk hq
      have ol : out1.length ≤ 1000000 := by rw [OR.out.1, List.length_append]; omega
      clear hr hs hq QR
      go_upto_region 8 with fail
      obtain ⟨W5, bj, e5, ej, i5, j5, b5⟩ : ∃ W5 bj, W5 = wr.alloc (Obj.cells #[.int .i64 (n - i)] 3) ∧ wr.heap.size = bj ∧ zP w0 W5 (bj :: bi :: tn :: ta :: tt :: tc :: P) g out1 x1 y1 ∧ W5.heap[bj]? = some (.cells #[.int .i64 (n - i)] 3 (0, 0)) ∧ Below wr.heap.size wr W5 := ⟨_, _, rfl, rfl, IR.out.guard _, zu _ _, qw (Below.refl _ _) _⟩
      rw [← e5, ej]
      have I5 := qa.mk i5
      have J5 : qa (W5.drew.heap[bj]? = some (.cells #[.int .i64 (n - i)] 3 (0, 0))) := ⟨qd j5⟩
      have K5 : qa (W5.drew.heap[bi]? = some (.cells #[.int .i64 i] 3 (0, 0))) := ⟨qd ((b5.block _ (qy KB.out)).trans KB.out)⟩
      have N5 : qa (W5.drew.heap[tn]? = some (.cells #[.int .i64 n] 3 (0, 0))) := ⟨qd ((b5.block _ (qy NR.out)).trans NR.out)⟩
      have C5 : qa (W5.drew.heap[tc]? = some (.cells #[.int .i64 c0, .int .i64 c1] 35 (0, 0))) := ⟨qd ((b5.block _ (qy CR.out)).trans CR.out)⟩
      have T5 : qa (W5.drew.heap[tt]? = some (.cells #[.int .i64 b0, .int .i64 b1] 35 (0, 0))) := ⟨qd ((b5.block _ (qy TR.out)).trans TR.out)⟩
      have A5 : qa (W5.drew.heap[ta]? = some (.cells #[.int .i64 x, .int .i64 y] 35 (0, 0))) := ⟨qd ((b5.block _ (qy AR.out)).trans AR.out)⟩
      have Q5 : qa (Kp (tn :: ta :: tt :: tc :: P) g W4 W5.drew) := ⟨(KR.out.below (fun k hk => IR.out.lts k (by simp [hk])) b5).below (fun k hk => i5.lts k (by simp [hk])) (jf (Below.refl _ _))⟩
      have I5d : qa (zP w0 W5.drew (bj :: bi :: tn :: ta :: tt :: tc :: P) g out1 x1 y1) := ⟨i5.drew⟩
      have pa0 : W5.drew.cell? ⟨ta, 0, none⟩ = some (.int .i64 x) := (qb A5.out 0).trans rfl
      have pa1 : W5.drew.cell? ⟨ta, 1, none⟩ = some (.int .i64 y) := (qb A5.out 1).trans rfl
      have pc0 : W5.drew.cell? ⟨tc, 0, none⟩ = some (.int .i64 c0) := (qb C5.out 0).trans rfl
      have pc1 : W5.drew.cell? ⟨tc, 1, none⟩ = some (.int .i64 c1) := (qb C5.out 1).trans rfl
      have pt0 : W5.drew.cell? ⟨tt, 0, none⟩ = some (.int .i64 b0) := (qb T5.out 0).trans rfl
      have pt1 : W5.drew.cell? ⟨tt, 1, none⟩ = some (.int .i64 b1) := (qb T5.out 1).trans rfl
      have I5 := I5d
      have NB := qa.mk NG.out.1
      clear e5 ej i5 j5 b5 cb cn I5d
      refine jS (n := 19) (S := fun w' => w'.cell? ⟨ta, 0, none⟩ = some (.int .i64 x) ∧ w'.cell? ⟨tc, 0, none⟩ = some (.int .i64 c0) ∧ w'.cell? ⟨tt, 0, none⟩ = some (.int .i64 b0) ∧ w'.cell? ⟨ta, 1, none⟩ = some (.int .i64 y) ∧ w'.cell? ⟨tc, 1, none⟩ = some (.int .i64 c1) ∧ w'.cell? ⟨tt, 1, none⟩ = some (.int .i64 b1)) (ds := [18]) #[false, false, false, false, false, false, false, false, false, false, false, false, false, false, false, false, false, false, false] (by kernel_rfl) rfl rfl ⟨pa0, pc0, pt0, pa1, pc1, pt1⟩ (fun hHeld => ?_)
      refine za (i := 0) (N := some 29) (v := ?_) (a' := ?_) #[true, false, false, false, false, false, false, false, false, false, false, false, false, false, false, false, false, false, false] rfl rfl (by kernel_rfl) (fun _ _ _ h => h) (Or.inl ⟨by rfl, ?_⟩) ?_ ?_
      rotate_left
      · intro w'
        go_simp
        with_reducible rfl
      rotate_left
      · simp only [Act.put, List.setIfInBounds_toArray, List.set_cons_zero, List.set_cons_succ, qz, qA]
        rfl
      refine za (i := 1) (N := some 30) (v := ?_) (a' := ?_) #[true, true, false, false, false, false, false, false, false, false, false, false, false, false, false, false, false, false, false] rfl rfl (by kernel_rfl) (fun _ _ _ h => h) (Or.inl ⟨by rfl, ?_⟩) ?_ ?_
      rotate_left
      · intro w'
        go_simp
        with_reducible rfl
      rotate_left
      · simp only [Act.put, List.setIfInBounds_toArray, List.set_cons_zero, List.set_cons_succ, qz, qA]
        rfl
      refine za (i := 2) (N := some 31) (v := ?_) (a' := ?_) #[true, true, true, false, false, false, false, false, false, false, false, false, false, false, false, false, false, false, false] rfl rfl (by kernel_rfl) (fun _ _ _ h => h) (Or.inl ⟨by rfl, ?_⟩) ?_ ?_
      rotate_left
      · intro w'
        go_simp
        with_reducible rfl
      rotate_left
      · simp only [Act.put, List.setIfInBounds_toArray, List.set_cons_zero, List.set_cons_succ, qz, qA]
        rfl
      refine za (i := 4) (N := some 33) (v := ?_) (a' := ?_) #[true, true, true, false, true, false, false, false, false, false, false, false, false, false, false, false, false, false, false] rfl rfl (by kernel_rfl) (fun _ _ _ h => h) (Or.inl ⟨by rfl, ?_⟩) ?_ ?_
      rotate_left
      · intro w'
        go_simp
        with_reducible rfl
      rotate_left
      · simp only [Act.put, List.setIfInBounds_toArray, List.set_cons_zero, List.set_cons_succ, qz, qA]
        rfl
      refine za (i := 6) (N := some 35) (v := ?_) (a' := ?_) #[true, true, true, false, true, false, true, false, false, false, false, false, false, false, false, false, false, false, false] rfl rfl (by kernel_rfl) (fun _ _ _ h => h) (Or.inl ⟨by rfl, ?_⟩) ?_ ?_
      rotate_left
      · intro w'
        go_simp
        with_reducible rfl
      rotate_left
      · simp only [Act.put, List.setIfInBounds_toArray, List.set_cons_zero, List.set_cons_succ, qz, qA]
        rfl
      refine za (i := 9) (N := some 38) (v := ?_) (a' := ?_) #[true, true, true, false, true, false, true, false, false, true, false, false, false, false, false, false, false, false, false] rfl rfl (by kernel_rfl) (fun _ _ _ h => h) (Or.inl ⟨by rfl, ?_⟩) ?_ ?_
      rotate_left
      · intro w'
        go_simp
        with_reducible rfl
      rotate_left
      · simp only [Act.put, List.setIfInBounds_toArray, List.set_cons_zero, List.set_cons_succ, qz, qA]
        rfl
      refine za (i := 10) (N := some 39) (v := ?_) (a' := ?_) #[true, true, true, false, true, false, true, false, false, true, true, false, false, false, false, false, false, false, false] rfl rfl (by kernel_rfl) (fun _ _ _ h => h) (Or.inl ⟨by rfl, ?_⟩) ?_ ?_
      rotate_left
      · intro w'
        go_simp
        with_reducible rfl
      rotate_left
      · simp only [Act.put, List.setIfInBounds_toArray, List.set_cons_zero, List.set_cons_succ, qz, qA]
        rfl
      refine za (i := 12) (N := some 41) (v := ?_) (a' := ?_) #[true, true, true, false, true, false, true, false, false, true, true, false, true, false, false, false, false, false, false] rfl rfl (by kernel_rfl) (fun _ _ _ h => h) (Or.inl ⟨by rfl, ?_⟩) ?_ ?_
      rotate_left
      · intro w'
        go_simp
        with_reducible rfl
      rotate_left
      · simp only [Act.put, List.setIfInBounds_toArray, List.set_cons_zero, List.set_cons_succ, qz, qA]
        rfl
      refine za (i := 14) (N := some 43) (v := ?_) (a' := ?_) #[true, true, true, false, true, false, true, false, false, true, true, false, true, false, true, false, false, false, false] rfl rfl (by kernel_rfl) (fun _ _ _ h => h) (Or.inl ⟨by rfl, ?_⟩) ?_ ?_
      rotate_left
      · intro w'
        go_simp
        with_reducible rfl
      rotate_left
      · simp only [Act.put, List.setIfInBounds_toArray, List.set_cons_zero, List.set_cons_succ, qz, qA]
        rfl
      refine zD (i := 3) (N := some 32) (v := ?_) (a' := ?_) #[true, true, true, true, true, false, true, false, false, true, true, false, true, false, true, false, false, false, false] rfl rfl (by kernel_rfl) (fun _ _ _ h => h) (Or.inl ⟨by rfl, ?_⟩) hHeld ?_ ?_
      rotate_left
      · rintro w' ⟨s0, s1, s2, s3, s4, s5⟩
        go_simp
        with_reducible rfl
      rotate_left
      · simp only [Act.put, List.setIfInBounds_toArray, List.set_cons_zero, List.set_cons_succ, qz, qA]
        rfl
      refine zD (i := 5) (N := some 34) (v := ?_) (a' := ?_) #[true, true, true, true, true, true, true, false, false, true, true, false, true, false, true, false, false, false, false] rfl rfl (by kernel_rfl) (fun _ _ _ h => h) (Or.inl ⟨by rfl, ?_⟩) hHeld ?_ ?_
      rotate_left
      · rintro w' ⟨s0, s1, s2, s3, s4, s5⟩
        go_simp
        with_reducible rfl
      rotate_left
      · simp only [Act.put, List.setIfInBounds_toArray, List.set_cons_zero, List.set_cons_succ, qz, qA]
        rfl
      refine zD (i := 7) (N := some 36) (v := ?_) (a' := ?_) #[true, true, true, true, true, true, true, true, false, true, true, false, true, false, true, false, false, false, false] rfl rfl (by kernel_rfl) (fun _ _ _ h => h) (Or.inl ⟨by rfl, ?_⟩) hHeld ?_ ?_
      rotate_left
      · rintro w' ⟨s0, s1, s2, s3, s4, s5⟩
        go_simp
        with_reducible rfl
      rotate_left
      · simp only [Act.put, List.setIfInBounds_toArray, List.set_cons_zero, List.set_cons_succ, qz, qA]
        rfl
      refine zD (i := 11) (N := some 40) (v := ?_) (a' := ?_) #[true, true, true, true, true, true, true, true, false, true, true, true, true, false, true, false, false, false, false] rfl rfl (by kernel_rfl) (fun _ _ _ h => h) (Or.inl ⟨by rfl, ?_⟩) hHeld ?_ ?_
      rotate_left
      · rintro w' ⟨s0, s1, s2, s3, s4, s5⟩
        go_simp
        with_reducible rfl
      rotate_left
      · simp only [Act.put, List.setIfInBounds_toArray, List.set_cons_zero, List.set_cons_succ, qz, qA]
        rfl
      refine zD (i := 13) (N := some 42) (v := ?_) (a' := ?_) #[true, true, true, true, true, true, true, true, false, true, true, true, true, true, true, false, false, false, false] rfl rfl (by kernel_rfl) (fun _ _ _ h => h) (Or.inl ⟨by rfl, ?_⟩) hHeld ?_ ?_
      rotate_left
      · rintro w' ⟨s0, s1, s2, s3, s4, s5⟩
        go_simp
        with_reducible rfl
      rotate_left
      · simp only [Act.put, List.setIfInBounds_toArray, List.set_cons_zero, List.set_cons_succ, qz, qA]
        rfl
      refine zD (i := 15) (N := some 44) (v := ?_) (a' := ?_) #[true, true, true, true, true, true, true, true, false, true, true, true, true, true, true, true, false, false, false] rfl rfl (by kernel_rfl) (fun _ _ _ h => h) (Or.inl ⟨by rfl, ?_⟩) hHeld ?_ ?_
      rotate_left
      · rintro w' ⟨s0, s1, s2, s3, s4, s5⟩
        go_simp
        with_reducible rfl
      rotate_left
      · simp only [Act.put, List.setIfInBounds_toArray, List.set_cons_zero, List.set_cons_succ, qz, qA]
        rfl
      refine jd (i := 8) (N := some 37) #[true, true, true, true, true, true, true, true, true, true, true, true, true, true, true, true, false, false, false] rfl rfl (by kernel_rfl) (by decide) (fun K hK => ?_)
      refine goesC_ Try.func66 (by kernel_rfl) rfl #[.int .i64 x, .int .i64 c0, .int .i64 b0] #[.int .i64 x, .int .i64 c0, .int .i64 b0, .pointer (some ⟨bj, 0, none⟩), .pointer (some ⟨bi, 0, none⟩), .pointer (some ⟨tn, 0, none⟩)] (by rfl) rfl rfl rfl (by simp only [List.map_toArray, List.map_cons, List.map_nil]; rfl) rfl ?_
      refine (quad_at k _ x c0 b0 ((n - i)) i n r bj bi tn J5.out K5.out N5.out HR).mono ?_
      rintro e w6 ⟨rfl, hb6⟩
      have J6 := qa.mk ((hb6.block _ (qy J5.out)).trans J5.out)
      have K6 := qa.mk ((hb6.block _ (qy K5.out)).trans K5.out)
      have N6 := qa.mk ((hb6.block _ (qy N5.out)).trans N5.out)
      have C6 := qa.mk ((hb6.block _ (qy C5.out)).trans C5.out)
      have T6 := qa.mk ((hb6.block _ (qy T5.out)).trans T5.out)
      have A6 := qa.mk ((hb6.block _ (qy A5.out)).trans A5.out)
      have I6 := qa.mk (I5.out.below hb6)
      have Q6 := qa.mk (Q5.out.below (fun k hk => I5.out.lts k (by simp [hk])) hb6)
      refine ⟨_, rfl, ?_⟩
      refine hK.out _ _ ⟨qc hb6 hHeld.1, qc hb6 hHeld.2.1, qc hb6 hHeld.2.2.1, qc hb6 hHeld.2.2.2.1, qc hb6 hHeld.2.2.2.2.1, qc hb6 hHeld.2.2.2.2.2⟩ (fun hHeld => ?_)
      clear hK K
      refine zo (a' := ?_) ?_ ?_
      rotate_left
      · show Act.put _ (some 37) _ = _
        simp only [Act.put, List.setIfInBounds_toArray, List.set_cons_zero, List.set_cons_succ, qz, qA]
        rfl
      refine jd (i := 16) (N := some 45) #[true, true, true, true, true, true, true, true, true, true, true, true, true, true, true, true, true, false, false] rfl rfl (by kernel_rfl) (by decide) (fun K hK => ?_)
      refine goesC_ Try.func66 (by kernel_rfl) rfl #[.int .i64 y, .int .i64 c1, .int .i64 b1] #[.int .i64 y, .int .i64 c1, .int .i64 b1, .pointer (some ⟨bj, 0, none⟩), .pointer (some ⟨bi, 0, none⟩), .pointer (some ⟨tn, 0, none⟩)] (by rfl) rfl rfl rfl (by simp only [List.map_toArray, List.map_cons, List.map_nil]; rfl) rfl ?_
      refine (quad_at k _ y c1 b1 ((n - i)) i n s bj bi tn J6.out K6.out N6.out HS).mono ?_
      rintro e w7 ⟨rfl, hb7⟩
      have K7 := qa.mk ((hb7.block _ (qy K6.out)).trans K6.out)
      have N7 := qa.mk ((hb7.block _ (qy N6.out)).trans N6.out)
      have C7 := qa.mk ((hb7.block _ (qy C6.out)).trans C6.out)
      have T7 := qa.mk ((hb7.block _ (qy T6.out)).trans T6.out)
      have A7 := qa.mk ((hb7.block _ (qy A6.out)).trans A6.out)
      have I7 := qa.mk (I6.out.below hb7)
      have Q7 := qa.mk (Q6.out.below (fun k hk => I6.out.lts k (by simp [hk])) hb7)
      refine ⟨_, rfl, ?_⟩
      refine hK.out _ _ ⟨qc hb7 hHeld.1, qc hb7 hHeld.2.1, qc hb7 hHeld.2.2.1, qc hb7 hHeld.2.2.2.1, qc hb7 hHeld.2.2.2.2.1, qc hb7 hHeld.2.2.2.2.2⟩ (fun hHeld => ?_)
      clear hK K
      refine zo (a' := ?_) ?_ ?_
      rotate_left
      · show Act.put _ (some 45) _ = _
        simp only [Act.put, List.setIfInBounds_toArray, List.set_cons_zero, List.set_cons_succ, qz, qA]
        rfl
      refine za (i := 17) (N := some 46) (v := ?_) (a' := ?_) #[true, true, true, true, true, true, true, true, true, true, true, true, true, true, true, true, true, true, false] rfl rfl (by kernel_rfl) (fun _ _ _ h => h) (Or.inl ⟨by rfl, ?_⟩) ?_ ?_
      rotate_left
      · intro w'
        go_simp
        with_reducible rfl
      rotate_left
      · simp only [Act.put, List.setIfInBounds_toArray, List.set_cons_zero, List.set_cons_succ, qz, qA]
        rfl
      refine QP (i := 18) (N := some 47) #[true, true, true, true, true, true, true, true, true, true, true, true, true, true, true, true, true, true, true] rfl rfl (by kernel_rfl) (by decide) (fun K hK => ?_)
      refine zS Try.func47 (by kernel_rfl) rfl #[.pointer (some ⟨g, 0, none⟩), .agg #[.int .i64 r, .int .i64 s]] (by rfl) rfl rfl (by simp only [List.map_toArray, List.map_cons, List.map_nil]; rfl) ?_
      refine (JS w0 _ (bj :: bi :: tn :: ta :: tt :: tc :: P) g out1 x1 y1 r s (by omega) I7).mono ?_
      rintro e w8 ⟨rfl, i8, k8⟩
      have I8 := qa.mk i8
      have B8 := qa.mk ((k8.2 bi (by simp) (by simpa using NB.out)).trans K7.out)
      have N8 := qa.mk ((k8.2 tn (by simp) (by simpa using NN.out)).trans N7.out)
      have C8 := qa.mk ((k8.2 tc (by simp) nc).trans C7.out)
      have T8 := qa.mk ((k8.2 tt (by simp) nt).trans T7.out)
      have A8 := qa.mk ((k8.2 ta (by simp) na).trans A7.out)
      have Q8 := qa.mk (Q7.out.trans (k8.weak (fun k hk => by simp [hk])))
      have ci8 : w8.cell? ⟨bi, 0, none⟩ = some (.int .i64 i) := (qb B8.out 0).trans rfl
      clear i8 k8
      refine ⟨_, rfl, ?_⟩
      refine hK.out _ _ ?_
      clear hK K
      refine zo (a' := ?_) ?_ ?_
      rotate_left
      · show Act.put _ (some 47) _ = _
        simp only [Act.put, List.setIfInBounds_toArray, List.set_cons_zero, List.set_cons_succ, qz, qA]
        rfl
      refine Qa (by kernel_rfl) ?_
      go_wp2
      have cbr : wr.cell? ⟨bi, 0, none⟩ = some (.int .i64 i) := (qb KB.out 0).trans rfl
      have cbn : (w8.alloc (Obj.cells #[Value.int IntKind.i64 (i + 1)] 3)).cell? ⟨w8.heap.size, 0, none⟩ = some (.int .i64 (i + 1)) := (qb (zu w8 (Obj.cells #[Value.int IntKind.i64 (i + 1)] 3)) 0).trans rfl
      have l8 := I8.out.lts
      have gl8 := I8.out.lt
      refine ⟨⟨w8.heap.size, i + 1, out1 ++ [⟨r, s⟩], done ++ [⟨r, s⟩], rest, r, s, m, rfl, by omega, by omega, ⟨zu w8 _⟩, ⟨⟨by omega, fun hm => by have := l8 _ (List.mem_cons_of_mem _ (List.mem_cons_of_mem _ hm)); omega⟩⟩, ⟨(I8.out.weak (fun k hk => List.mem_cons_of_mem _ (List.mem_cons_of_mem _ hk)) (by have := IR.out.gm; rcases List.mem_cons.1 this with e | e; exact absurd e.symm NB.out; exact e)).guard _⟩, HQ, ⟨⟨by rw [OR.out.1, List.append_assoc], by rw [OR.out.2.1, List.append_assoc]; rfl, (qbb x y done _).symm⟩⟩, by rw [List.length_append]; simp; omega, ⟨qg N8.out _⟩, ⟨qg C8.out _⟩, ⟨qg T8.out _⟩, ⟨qg A8.out _⟩, ⟨Q8.out.below (fun k hk => l8 k (by simp [hk])) (qw (Below.refl _ _) _)⟩, ⟨trivial⟩⟩, ?_⟩
      show (match (w8.alloc (Obj.cells #[Value.int IntKind.i64 (i + 1)] 3)).cell? ⟨w8.heap.size, 0, none⟩ with | some (.int _ i) => (n + 1 - i).toNat | _ => 0) < (match wr.cell? ⟨bi, 0, none⟩ with | some (.int _ i) => (n + 1 - i).toNat | _ => 0)
      rw [cbn, cbr]
      show (n + 1 - (i + 1)).toNat < (n + 1 - i).toNat
      omega
    · obtain rfl : m = 0 := by omega
      have qr := QR.out
      simp only [qL, Option.some.injEq] at qr
      subst qr
      go_wp2
      refine bodyPost_end (results_none rfl _ _ _) rfl ?_
      have hp : pts = done := by rw [OR.out.2.1, List.append_nil]
      have hg : g ∈ P := HI.out.gm
      refine ⟨rfl, ?_, ?_⟩
      · have i9 := IR.out.weak (P' := P) (fun k hk => by simp [hk]) hg
        rw [hp, ← OR.out.2.2, ← OR.out.1]; exact i9
      · have kw : Kp P g w W4 := (Kp.refl P g w).below HI.out.lts (qh BL.out BW4.out)
        exact kw.trans (KR.out.weak (fun k hk => by simp [hk]))
def kdF (rest : List S40) (i : Int) : Int := if i < (rest.length : Int) then (ql rest i).f2 else 0
set_option maxRecDepth 100000 in
theorem kind_at (w : World) (rest : List S40) (A : Option Addr) (c : Nat) (bR : Nat) (i : Int) (h0 : 0 ≤ i) (hb : w.heap[bR]? = some (.cells #[.slice A rest.length c] 37 (0, 0))) (hC : Kd.C k40 w A rest.length rest) :
    Calls Try.prog 48 #[.int .i64 i, .pointer (some ⟨bR, 0, none⟩)] w fun e w' => e = .returned (.int .i64 (kdF rest i)) ∧ Below w.heap.size w w' := by
  have cb : w.cell? ⟨bR, 0, none⟩ = some (.slice A rest.length c) := (qb hb 0).trans rfl
  unfold kdF
  by_cases hlt : i < (rest.length : Int)
  · obtain ⟨ad, e, x0, x1, x2⟩ := jh hC i h0 hlt
    subst e
    rw [if_pos hlt]
    go_enter Try.func48, Try.ntmps48
    go_wp2
    go_ret
    exact ⟨rfl, by repeat (first | exact Below.refl _ _ | apply qw | apply qC | apply jf)⟩
  · rw [if_neg hlt]
    go_enter Try.func48, Try.ntmps48
    go_wp2
    go_ret
    exact ⟨rfl, by repeat (first | exact Below.refl _ _ | apply qw | apply qC | apply jf)⟩
theorem Qx (w : World) (rest : List S40) (A : Option Addr) (c : Nat) (bR : Nat) (i v : Int) (h0 : 0 ≤ i) (hb : w.heap[bR]? = some (.cells #[.slice A rest.length c] 37 (0, 0))) (hC : Kd.C k40 w A rest.length rest) (hk : kdF rest i = v) :
    Calls Try.prog 48 #[.int .i64 i, .pointer (some ⟨bR, 0, none⟩)] w fun e w' => e = .returned (.int .i64 v) ∧ Below w.heap.size w w' := by
  subst hk; exact kind_at w rest A c bR i h0 hb hC
theorem hp40 : Kd.Heap k40 := Kd.heap_iso _ (Kd.heap_pair (Kd.heap_int _) (Kd.heap_pair (Kd.heap_int _) (Kd.heap_int _)))
theorem jR {α β : Type} {a b : Option α} {f g : α → Option β} (h : LeO a b) (hf : ∀ x, LeO (f x) (g x)) : LeO (a.bind f) (b.bind g) := fun r hr => by
  obtain ⟨x, h1, h2⟩ := Option.bind_eq_some_iff.mp hr
  rw [h x h1]; exact hf x r h2
theorem qL_mono {k : Nat} {a0 a1 c0 c1 b0 b1 n : Int} : ∀ (m : Nat) (i : Int), LeO (qL k a0 a1 c0 c1 b0 b1 n m i) (qL (k + 1) a0 a1 c0 c1 b0 b1 n m i)
  | 0, _ => fun r h => h
  | m + 1, i => by
    simp only [qL]
    exact jR (zZ.mono _ _ k) fun r => jR (zZ.mono _ _ k) fun s => jR (qL_mono m _) fun q r h => h
theorem JR {k : Nat} {a0 a1 c0 c1 b0 b1 : Int} : LeO (Zw k a0 a1 c0 c1 b0 b1) (Zw (k + 1) a0 a1 c0 c1 b0 b1) := by
  unfold Zw
  refine jR (fun r h => h) fun d => jR (zt.mono _ k) fun n => ?_
  split
  · exact qL_mono _ _
  · exact fun r h => h
theorem Qj {α : Type} {c : Prop} [Decidable c] {a b a' b' : Option α} (h : LeO a a') (h' : LeO b b') : LeO (if c then a else b) (if c then a' else b') := by
  split
  · exact h
  · exact h'
theorem QZ {α : Type} {a : Option α} : LeO a a := fun r h => h
end Go.Proofs.Ytmlkpadlafjfeaa.P
