import Derived.Test.YtonljpciadeafaaSx0
import Derived.Test.YtonljpciadeafaaSxPA
import Derived.Test.YtonljpciadeafaaSfPS
import Derived.Test.YtonljpciadeafaaSx15
import Derived.Lib.SlBytesConst
set_option linter.unusedVariables false
set_option linter.unusedSimpArgs false
namespace Go.Proofs.Ytonljpciadeafaa.S
open Go Go.RowKit Go.Proofs.YtonljpciadeafaaW.PrintWords Go.Proofs.YtonljpciadeafaaW.PrintLast Go.Proofs.YtonljpciadeafaaW.PrintMore
theorem lit_reps (k : IntKind) (W : World) (b : Nat) (ok : Nat → Prop) (xs : List Int) : qY ((Kd.int k).M W b ok) (Kd.int k).sz xs (xs.map (Value.int k)) := by
  refine ⟨by show _ = xs.length * 1; simp, fun j p hj => ?_⟩
  show ((xs.map (Value.int k)).drop (j * 1)).take 1 = [Value.int k p]
  obtain ⟨hl, hp⟩ := List.getElem?_eq_some_iff.1 hj
  rw [Nat.mul_one, List.drop_eq_getElem_cons (by simpa using hl)]
  simp [hp]
theorem C_one {k : IntKind} {w : World} {p T : Nat} {x : Int} (h : w.heap[p]? = some (.cells #[.int k x] T (0, 0))) : Kd.C (Kd.int k) w (some ⟨p, 0, none⟩) 1 [x] := by
  refine Kd.Qn (d := 0) (h1 := fun _ => rfl) ⟨rfl, by decide, fun _ => ⟨_, rfl, fun j hj => ?_⟩⟩
  obtain rfl : j = 0 := by omega
  exact (qb h 0).trans rfl
theorem C_three {k : IntKind} {w : World} {p T : Nat} {x y z : Int} (h : w.heap[p]? = some (.cells #[.int k x, .int k y, .int k z] T (0, 0))) : Kd.C (Kd.int k) w (some ⟨p, 0, none⟩) 3 [x, y, z] := by
  refine Kd.Qn (d := 0) (h1 := fun _ => rfl) ⟨rfl, by decide, fun _ => ⟨_, rfl, fun j hj => ?_⟩⟩
  match j, hj with
  | 0, _ => exact (qb h 0).trans rfl
  | 1, _ => exact (qb h 1).trans rfl
  | 2, _ => exact (qb h 2).trans rfl
theorem blk_get {w : World} {g T : Nat} {fr : Nat × Nat} {cs : Array Value} (h : w.heap[g]? = some (.cells cs T fr)) {j : Nat} {u : Value} (hj : cs.toList[j]? = some u) : w.cell? ((⟨g, 0, none⟩ : Addr).add j) = some u := by
  rw [add_at, Nat.zero_add]
  simp only [World.cell?, h]
  simpa using hj
theorem qad {w : World} {base base' : Nat} {e : TypeId} {size : Nat} {v : Value} {n : Nat} {xs : List Value} (h : w.ownsRow base e size v n xs) (hb : base' ≤ base) : w.ownsRow base' e size v n xs := by
  obtain ⟨h1, h2 | ⟨g, cap, cur, h2, h3, h4⟩⟩ := h
  · exact ⟨h1, Or.inl h2⟩
  · exact ⟨h1, Or.inr ⟨g, cap, cur, h2, Nat.le_trans hb h3, h4⟩⟩
theorem sum_one (ks p : Nat) (w : World) (h : Kd.C (Kd.int .u8) w (some ⟨p, 0, none⟩) 1 [9]) (hs : zB.f ks [9] = some 150994944) : Calls Try.prog 11 #[.slice (some ⟨p, 0, none⟩) 1 1] w fun e w' => e = .returned (.int .i64 150994944) ∧ qD w w' :=
  zB.calls ks (some ⟨p, 0, none⟩) 1 [9] 150994944 w h (by decide) hs
theorem big_one (P0 : Nat → Prop) (Ab : Option Addr) (cb g : Nat) (w0 w : World) (hB : Below w0.heap.size w0 w) (ho : Kd.R (Kd.int .u8) 5 w w0.heap.size P0 (.slice Ab 16 cb) [0, 1, 0, 0, 0, 1, 0, 0, 0, 0, 0, 0, 97, 98, 99, 100]) (hr : ∀ W_, Kept w W_ P0 → Kd.C (Kd.int .i64) W_ (some ⟨g, 0, none⟩) 3 [150994944, 28, 1]) (h : zT.f 20 [0, 1, 0, 0, 0, 1, 0, 0, 0, 0, 0, 0, 97, 98, 99, 100] [150994944, 28, 1] = some [0, 1, 0, 0, 0, 1, 0, 0, 0, 0, 0, 0, 97, 98, 99, 100, 9, 0, 0, 0, 0, 0, 0, 28, 0, 0, 0, 1]) :
    Calls Try.prog 51 #[.slice Ab 16 cb, .slice (some ⟨g, 0, none⟩) 3 3] w fun e w' => ∃ v0_ : Value, e = .returned v0_ ∧ Kd.R (Kd.int .u8) 5 w' w0.heap.size (fun k_ => (P0 k_ ∨ w.heap.size ≤ k_)) v0_ [0, 1, 0, 0, 0, 1, 0, 0, 0, 0, 0, 0, 97, 98, 99, 100, 9, 0, 0, 0, 0, 0, 0, 28, 0, 0, 0, 1] ∧ Below w0.heap.size w0 w' ∧ Kept w w' (fun k_ => P0 k_) :=
  zT.calls 20 P0 (.slice Ab 16 cb) [0, 1, 0, 0, 0, 1, 0, 0, 0, 0, 0, 0, 97, 98, 99, 100] (some ⟨g, 0, none⟩) 3 [150994944, 28, 1] [0, 1, 0, 0, 0, 1, 0, 0, 0, 0, 0, 0, 97, 98, 99, 100, 9, 0, 0, 0, 0, 0, 0, 28, 0, 0, 0, 1] w0 w hB ho hr (by decide) h
set_option maxRecDepth 100000 in
set_option maxHeartbeats 8000000 in
theorem build_one (p q : Nat) (w : World) (hq : w.heap[q]? = some (.cells #[.string ⟨#[97, 98, 99, 100]⟩, .slice (some ⟨p, 0, none⟩) 1 1] 50 (0, 0))) (hp : w.heap[p]? = some (.cells #[.int .u8 9] 5 (0, 0))) :
    Calls Try.prog 25 #[.int .i64 1, .slice (some ⟨q, 0, none⟩) 1 1] w fun e w' => ∃ v, e = .returned (.tuple #[v, .int .i64 0]) ∧ Kd.R (Kd.int .u8) 5 w' w.heap.size (fun _ => True) v [0, 1, 0, 0, 0, 1, 0, 0, 0, 0, 0, 0, 97, 98, 99, 100, 9, 0, 0, 0, 0, 0, 0, 28, 0, 0, 0, 1, 9, 0, 0, 0] ∧ Below w.heap.size w w' := by
  have KQ := qa.mk hq
  have KP := qa.mk hp
  have x0 : w.cell? ⟨q, 0, none⟩ = some (.string ⟨#[97, 98, 99, 100]⟩) := (qb hq 0).trans rfl
  have x1 : w.cell? ⟨q, 1, none⟩ = some (.slice (some ⟨p, 0, none⟩) 1 1) := (qb hq 1).trans rfl
  have h32 : Go.bits .andNot .i64 4 3 = 4 := by decide +kernel
  have kc := fun (w : World) (C : Array Value) (n c : Nat) => Lib.run_convert_bytes_const (P := Try.prog) w 23 5 C n c Try.underlying23 Try.underlying5
  have hbl : Op.bytesLess [97, 98, 99, 100] [] = false := by decide
  obtain ⟨ks, hs⟩ := (sum_ev [9] (fun x hx => by simp at hx; omega) (by decide)).rounds
  have hs : zB.f ks [9] = some 150994944 := hs
  have SX := qa.mk hs
  have hbg : zT.f 20 [0, 1, 0, 0, 0, 1, 0, 0, 0, 0, 0, 0, 97, 98, 99, 100] [150994944, 28, 1] = some [0, 1, 0, 0, 0, 1, 0, 0, 0, 0, 0, 0, 97, 98, 99, 100, 9, 0, 0, 0, 0, 0, 0, 28, 0, 0, 0, 1] := by decide +kernel
  have BG := qa.mk hbg
  have H28 := qa.mk (show wrap64 28 = 28 from Qj (by decide) (by decide))
  clear hq hp hs hbg
  go_enter Try.func25, Try.ntmps25
  go_upto_region 6 with fail
  refine wp_loop_rounds 2 ?_
  rw [rounds_succ]
  go_wp2
  obtain ⟨W, hW, lW⟩ : ∃ W, W = w.alloc (Obj.cells #[.string ⟨#[97, 98, 99, 100]⟩, .slice (some ⟨p, 0, none⟩) 1 1] 50) ∧ Below w.heap.size w W := ⟨_, rfl, qF (Below.refl _ _) _⟩
  rw [← hW]
  have BW := qa.mk lW
  clear hW lW x0 x1 h32 hbl
  rw [rounds_succ]
  go_upto_region 19 with fail
  obtain ⟨W1, b0, hW, eb, kb, lW⟩ : ∃ W1 b0, W1 = W.alloc (Obj.cells #[.int .u8 0, .int .u8 1, .int .u8 0, .int .u8 0] 5 (4, 5)) ∧ W.heap.size = b0 ∧ W1.heap[b0]? = some (Obj.cells #[.int .u8 0, .int .u8 1, .int .u8 0, .int .u8 0] 5 (4, 5)) ∧ Below W.heap.size W W1 := ⟨_, _, rfl, rfl, heap_alloc_new _ _, qF (Below.refl _ _) _⟩
  rw [← hW, eb]
  have B1 := qa.mk (qc BW.out lW)
  have KB := qa.mk kb
  clear hW eb kb lW kc BW
  obtain ⟨i5, hi5, hz5, hs5, hb5⟩ := info_parts info5
  go_upto_region 23 with ((with_reducible refine qG (b := .append) (xs := #[.tmp 71, .tmp 79]) rfl ?_); at_builtin; refine wpList_append_grows (P := Try.prog) _ rfl (.tmp 71) (.tmp 79) 23 rfl 5 i5 (.int .u8 0) 1 1 Try.underlying23 hi5 hz5 hs5 hb5 rfl (by decide) (some ⟨b0, 0, none⟩) 4 4 (([0, 1, 0, 0] : List Int).map (Value.int .u8)) rfl (fun h => by cases h) rfl ?aH ⟨W1.heap.size, 0, none⟩ 8 8 (([0, 1, 0, 0, 0, 0, 0, 0] : List Int).map (Value.int .u8)) rfl rfl ?aN ?aC (by decide) (by decide) (by decide) ?_; (case aH => intro b hb j u hj; cases hb; exact blk_get (((qF (Below.refl W1.heap.size W1) _).block _ (qz KB.out)).trans KB.out) hj); (case aN => intro j u hj; exact blk_get (zk W1 _) hj); (case aC => intro u hu; obtain ⟨x, _, rfl⟩ := List.mem_map.1 hu; rfl); intro v2 w2 ho2 hg2; have R2 := qa.mk (Kd.QV (h1 := fun _ => rfl) (enc := Value.int .u8) (ok := fun _ => True) (xs := [0, 1, 0, 0, 0, 1, 0, 0, 0, 0, 0, 0]) (qad ho2 (qi (qF B1.out _))) (fun _ _ => trivial)); have B2 := qa.mk (Below.grown (qF B1.out _) hg2 (qi (qF B1.out _)) (fun k h => by cases h)); clear ho2 hg2)
  have x0 : w2.cell? ⟨q, 0, none⟩ = some (.string ⟨#[97, 98, 99, 100]⟩) := (qb ((B2.out.block _ (qz KQ.out)).trans KQ.out) 0).trans rfl
  have x1 : w2.cell? ⟨q, 1, none⟩ = some (.slice (some ⟨p, 0, none⟩) 1 1) := (qb ((B2.out.block _ (qz KQ.out)).trans KQ.out) 1).trans rfl
  refine wp_loop_rounds 2 ?_
  rw [rounds_succ]
  go_upto_region 25 with fail
  obtain ⟨w3, t, hW, et, kt, lW⟩ : ∃ w3 t, w3 = w2.alloc (Obj.cells #[.string ⟨#[97, 98, 99, 100]⟩, .slice (some ⟨p, 0, none⟩) 1 1] 50) ∧ w2.heap.size = t ∧ w3.heap[t]? = some (Obj.cells #[.string ⟨#[97, 98, 99, 100]⟩, .slice (some ⟨p, 0, none⟩) 1 1] 50 (0, 0)) ∧ Below w2.heap.size w2 w3 := ⟨_, _, rfl, rfl, zk _ _, qF (Below.refl _ _) _⟩
  rw [← hW, et]
  have B3 := qa.mk (qc B2.out lW)
  have T3 := qa.mk kt
  have R3 := qa.mk (Kd.qM R2.out lW)
  have y0 : w3.cell? ⟨t, 0, none⟩ = some (.string ⟨#[97, 98, 99, 100]⟩) := (qb kt 0).trans rfl
  have eb16 : [0, 1, 0, 0, 0, 1, 0, 0, 0, 0, 0, 0] ++ bytesOf ⟨#[97, 98, 99, 100]⟩ = [0, 1, 0, 0, 0, 1, 0, 0, 0, 0, 0, 0, 97, 98, 99, 100] := by decide
  have EB := qa.mk eb16
  clear hW et kt lW x0 x1 eb16 KB B1 R2 B2 hi5 hz5 hs5 hb5
  go_upto_region 26 with ((with_reducible refine qG (b := .append) (xs := #[.tmp 91, .tmp 93]) rfl ?_); at_builtin; refine JI (w0 := w) w.heap.size rfl (.tmp 91) (.tmp 93) 23 9 5 rfl Try.underlying23 Try.underlying9 info5 v2 [0, 1, 0, 0, 0, 1, 0, 0, 0, 0, 0, 0] ⟨#[97, 98, 99, 100]⟩ rfl rfl (Kd.QH R3.out) B3.out (qi B3.out) (by decide) ?_; intro v8 w8 ho hb hg; rw [EB.out] at ho; have r8 := Kd.QV (h1 := fun _ => rfl) (enc := Value.int .u8) (ok := fun _ => True) (xs := [0, 1, 0, 0, 0, 1, 0, 0, 0, 0, 0, 0, 97, 98, 99, 100]) ho (fun _ _ => trivial); obtain ⟨Ab, cb, rfl⟩ : ∃ A c, v8 = .slice A 16 c := Kd.qN r8; have R8 := qa.mk r8; have B8 := qa.mk hb; have T8 := qa.mk (zg T3.out hg (Kd.Qi R3.out T3.out (by decide))); clear r8 ho hb hg)
  clear y0
  have x2 : w8.drew.cell? ⟨t, 1, none⟩ = some (.slice (some ⟨p, 0, none⟩) 1 1) := (qb (qQ T8.out) 1).trans rfl
  have CP9 := qa.mk (C_one (((zm B8.out).block _ (qz KP.out)).trans KP.out))
  have B9 := qa.mk (zm B8.out)
  have T9 := qa.mk (qQ T8.out)
  have RB9 := qa.mk (Kd.qw R8.out)
  refine jf (n := 14) (S := fun w' => w'.cell? ⟨t, 1, none⟩ = some (.slice (some ⟨p, 0, none⟩) 1 1)) (ds := [11, 12]) #[false, false, false, false, false, false, false, false, false, false, false, false, false, false] (by kernel_rfl) rfl rfl (x2) (fun hHeld => ?_)
  generalize w8.drew = w9 at x2 CP9 B9 T9 RB9 hHeld ⊢
  refine qj (i := 0) (N := some 95) (v := ?_) (a' := ?_) #[true, false, false, false, false, false, false, false, false, false, false, false, false, false] rfl rfl (by kernel_rfl) (fun _ _ _ h => h) (Or.inl ⟨by rfl, ?_⟩) ?_ ?_
  rotate_left
  · intro w'
    go_simp
    with_reducible rfl
  rotate_left
  · simp only [Act.put, List.setIfInBounds_toArray, List.set_cons_zero, List.set_cons_succ, qg, qh]
    rfl
  refine qj (i := 1) (N := some 96) (v := ?_) (a' := ?_) #[true, true, false, false, false, false, false, false, false, false, false, false, false, false] rfl rfl (by kernel_rfl) (fun _ _ _ h => h) (Or.inl ⟨by rfl, ?_⟩) ?_ ?_
  rotate_left
  · intro w'
    go_simp
    with_reducible rfl
  rotate_left
  · simp only [Act.put, List.setIfInBounds_toArray, List.set_cons_zero, List.set_cons_succ, qg, qh]
    rfl
  refine qj (i := 4) (N := some 99) (v := ?_) (a' := ?_) #[true, true, false, false, true, false, false, false, false, false, false, false, false, false] rfl rfl (by kernel_rfl) (fun _ _ _ h => h) (Or.inl ⟨by rfl, ?_⟩) ?_ ?_
  rotate_left
  · intro w'
    go_simp
    with_reducible rfl
  rotate_left
  · simp only [Act.put, List.setIfInBounds_toArray, List.set_cons_zero, List.set_cons_succ, qg, qh]
    rfl
  refine qj (i := 5) (N := some 100) (v := ?_) (a' := ?_) #[true, true, false, false, true, true, false, false, false, false, false, false, false, false] rfl rfl (by kernel_rfl) (fun _ _ _ h => h) (Or.inl ⟨by rfl, ?_⟩) ?_ ?_
  rotate_left
  · intro w'
    go_simp
    with_reducible rfl
  rotate_left
  · simp only [Act.put, List.setIfInBounds_toArray, List.set_cons_zero, List.set_cons_succ, qg, qh]
    rfl
  refine qj (i := 6) (N := some 101) (v := ?_) (a' := ?_) #[true, true, false, false, true, true, true, false, false, false, false, false, false, false] rfl rfl (by kernel_rfl) (fun _ _ _ h => h) (Or.inl ⟨by rfl, ?_⟩) ?_ ?_
  rotate_left
  · intro w'
    go_simp
    with_reducible rfl
  rotate_left
  · simp only [Act.put, List.setIfInBounds_toArray, List.set_cons_zero, List.set_cons_succ, qg, qh]
    rfl
  refine qj (i := 7) (N := some 102) (v := ?_) (a' := ?_) #[true, true, false, false, true, true, true, true, false, false, false, false, false, false] rfl rfl (by kernel_rfl) (fun _ _ _ h => h) (Or.inl ⟨by rfl, ?_⟩) ?_ ?_
  rotate_left
  · intro w'
    go_simp
    with_reducible rfl
  rotate_left
  · simp only [Act.put, List.setIfInBounds_toArray, List.set_cons_zero, List.set_cons_succ, qg, qh]
    rfl
  refine qj (i := 8) (N := some 103) (v := ?_) (a' := ?_) #[true, true, false, false, true, true, true, true, true, false, false, false, false, false] rfl rfl (by kernel_rfl) (fun _ _ _ h => h) (Or.inl ⟨by rfl, ?_⟩) ?_ ?_
  rotate_left
  · intro w'
    go_simp
    with_reducible rfl
  rotate_left
  · simp only [Act.put, List.setIfInBounds_toArray, List.set_cons_zero, List.set_cons_succ, qg, qh]
    rfl
  refine zq (i := 2) (N := some 97) (v := ?_) (a' := ?_) #[true, true, true, false, true, true, true, true, true, false, false, false, false, false] rfl rfl (by kernel_rfl) (fun _ _ _ h => h) (Or.inl ⟨by rfl, ?_⟩) hHeld ?_ ?_
  rotate_left
  · intro w' s0
    go_simp
    with_reducible rfl
  rotate_left
  · simp only [Act.put, List.setIfInBounds_toArray, List.set_cons_zero, List.set_cons_succ, qg, qh]
    rfl
  refine zq (i := 9) (N := some 104) (v := ?_) (a' := ?_) #[true, true, true, false, true, true, true, true, true, true, false, false, false, false] rfl rfl (by kernel_rfl) (fun _ _ _ h => h) (Or.inl ⟨by rfl, ?_⟩) hHeld ?_ ?_
  rotate_left
  · intro w' s0
    go_simp
    with_reducible rfl
  rotate_left
  · simp only [Act.put, List.setIfInBounds_toArray, List.set_cons_zero, List.set_cons_succ, qg, qh]
    rfl
  refine qj (i := 10) (N := some 105) (v := ?_) (a' := ?_) #[true, true, true, false, true, true, true, true, true, true, true, false, false, false] rfl rfl (by kernel_rfl) (fun _ _ _ h => h) (Or.inl ⟨by rfl, ?_⟩) ?_ ?_
  rotate_left
  · intro w'
    go_simp
    with_reducible rfl
  rotate_left
  · simp only [Act.put, List.setIfInBounds_toArray, List.set_cons_zero, List.set_cons_succ, qg, qh]
    rfl
  refine QK (i := 3) (N := some 98) #[true, true, true, true, true, true, true, true, true, true, true, false, false, false] rfl rfl (by kernel_rfl) (by decide) (fun K hK => ?_)
  refine Qk Try.func11 (by kernel_rfl) rfl #[.slice (some ⟨p, 0, none⟩) 1 1] (by rfl) rfl rfl (by simp only [List.map_toArray, List.map_cons, List.map_nil]; rfl) ?_
  with_reducible refine (sum_one ks p w9 CP9.out SX.out).mono ?_
  rintro e w10 ⟨rfl, hd3⟩
  refine ⟨_, rfl, ?_⟩
  have B10 := qa.mk (qc B9.out hd3.below)
  have T10 := qa.mk ((hd3.below.block _ (qz T9.out)).trans T9.out)
  have RB10 := qa.mk (Kd.qM RB9.out hd3.below)
  have HB10 : qa (Kd.R (Kd.int .u8) 5 (w10.alloc (Obj.cells #[.int .i64 150994944, .int .i64 28, .int .i64 1] 3)) w.heap.size (fun k => k ≠ t ∧ w.heap.size ≤ k ∧ k < w10.heap.size) (.slice Ab 16 cb) [0, 1, 0, 0, 0, 1, 0, 0, 0, 0, 0, 0, 97, 98, 99, 100]) := ⟨Kd.qp (Kd.qH (Kd.jq RB10.out) (fun k hk => ⟨fun z => by obtain ⟨_, _, _, q, hq, cells, hc⟩ := hk; subst z; exact blk_ne hc T10.out (by simp [Kd.int, Kd.scalar] at hq; subst hq; decide) rfl, hk.2.1, hk.2.2.1⟩)) _⟩
  have HC10 : qa (∀ W_, Kept (w10.alloc (Obj.cells #[.int .i64 150994944, .int .i64 28, .int .i64 1] 3)) W_ (fun k => k ≠ t ∧ w.heap.size ≤ k ∧ k < w10.heap.size) → Kd.C (Kd.int .i64) W_ (some ⟨w10.heap.size, 0, none⟩) 3 [150994944, 28, 1]) := ⟨fun W_ hk => C_three ((hk.2 _ (by simp) (fun z => by omega)).trans (zk _ _))⟩
  refine hK.out _ _ ((hd3.below.cell (World.block_lt_of_cell? _ _ hHeld)).trans hHeld) (fun hHeld => ?_)
  clear hK K
  refine zO (a' := ?_) ?_ ?_
  rotate_left
  · show Act.put _ (some 98) _ = _
    simp only [Act.put, List.setIfInBounds_toArray, List.set_cons_zero, List.set_cons_succ, qg, qh]
    rfl
  refine zS (i := 11) (N := some 106) #[true, true, true, true, true, true, true, true, true, true, true, true, false, false] rfl rfl (by kernel_rfl) (by decide) (fun K hK => ?_)
  refine QD (w1 := ?_) (v := ?_) (by rfl) rfl ?_ ?_
  rotate_left 2
  · go_simp
    constructor
    · rfl
    · rfl
  refine hK.out _ _ ?_
  clear hK K
  refine zO (a' := ?_) ?_ ?_
  rotate_left
  · show Act.put _ (some 106) _ = _
    simp only [Act.put, List.setIfInBounds_toArray, List.set_cons_zero, List.set_cons_succ, qg, qh]
    rfl
  refine zS (i := 12) (N := some 107) #[true, true, true, true, true, true, true, true, true, true, true, true, true, false] rfl rfl (by kernel_rfl) (by decide) (fun K hK => ?_)
  refine Qk Try.func51 (by kernel_rfl) rfl #[.slice Ab 16 cb, .slice (some ⟨w10.heap.size, 0, none⟩) 3 3] (by rfl) rfl rfl (by simp only [List.map_toArray, List.map_cons, List.map_nil]; rfl) ?_
  rw [H28.out]
  with_reducible refine (big_one (fun k => k ≠ t ∧ w.heap.size ≤ k ∧ k < w10.heap.size) Ab cb w10.heap.size w (w10.alloc (Obj.cells #[.int .i64 150994944, .int .i64 28, .int .i64 1] 3)) (qF B10.out _) HB10.out HC10.out BG.out).mono ?_
  rintro e w12 ⟨v12, rfl, r12, b12, k12⟩
  refine ⟨_, rfl, ?_⟩
  have R12 := qa.mk r12
  have B12 := qa.mk b12
  have T12 := qa.mk ((k12.2 _ (by have := qz T10.out; simp; omega) (fun z => z.1 rfl)).trans (zn T10.out _))
  clear r12 b12 k12
  refine hK.out _ _ ?_
  clear hK K
  refine zO (a' := ?_) ?_ ?_
  rotate_left
  · show Act.put _ (some 107) _ = _
    simp only [Act.put, List.setIfInBounds_toArray, List.set_cons_zero, List.set_cons_succ, qg, qh]
    rfl
  refine qj (i := 13) (N := some 10) (v := ?_) (a' := ?_) #[true, true, true, true, true, true, true, true, true, true, true, true, true, true] rfl rfl (by kernel_rfl) (fun _ _ _ h => h) (Or.inl ⟨by rfl, ?_⟩) ?_ ?_
  rotate_left
  · intro w'
    go_simp
    with_reducible rfl
  rotate_left
  · simp only [Act.put, List.setIfInBounds_toArray, List.set_cons_zero, List.set_cons_succ, qg, qh]
    rfl
  refine jM (by kernel_rfl) ?_
  have z1 : w12.cell? ⟨t, 1, none⟩ = some (.slice (some ⟨p, 0, none⟩) 1 1) := (qb T12.out 1).trans rfl
  have CP12 := qa.mk (C_one ((B12.out.block _ (qz KP.out)).trans KP.out))
  have Q12 := qa.mk (Kd.qH (ok' := fun k => k < w12.heap.size) (Kd.jq R12.out) (fun k hk => hk.2.2.1))
  go_upto_region 28 with ((with_reducible refine qG (b := .append) (xs := #[.tmp 108, .tmp 110]) rfl ?_); at_builtin; refine Kd.zh (Kd.int .u8) (w0 := w) w.heap.size rfl (.tmp 108) (.tmp 110) 23 5 (.int .u8 0) 1 rfl Try.underlying23 info5 rfl (by decide) (by omega) (.slice none 0 0) [] [9] _ _ _ (fun k => w12.heap.size ≤ k) (fun _ => False) rfl rfl ?aO ?aR (fun _ _ h => h) (fun _ h => h.elim) ?aF ?aB ?aS ?aL ?_; (case aR => exact CP12.out); (case aB => exact B12.out); (case aF => exact (fun _ h => h)); (case aO => exact Kd.jE _ _ _ _ _); (case aS => exact qi B12.out); (case aL => decide); intro v13 w13 ho hb hg hat; obtain ⟨A13, c13, rfl⟩ : ∃ A c, v13 = .slice A 1 c := Kd.qN ho; have R13 := qa.mk (show Kd.R (Kd.int .u8) 5 w13 w.heap.size (fun k => w12.heap.size ≤ k) (.slice A13 1 c13) [9] from ho); have B13 := qa.mk hb; have Q13 := qa.mk (Kd.jo Q12.out hg (fun k _ => by simp [Value.ownBlock])); have W13 := qa.mk hg.size; clear ho hb hg hat)
  clear z1
  refine wp_loop_rounds 4 ?_
  rw [rounds_succ]
  go_wp2_with ((with_reducible refine qG (b := .append) (xs := #[.tmp 116, .tmp 117]) rfl ?_); at_builtin; refine Kd.zM (Kd.int .u8) (w0 := w) w.heap.size rfl (.tmp 116) (.tmp 117) 23 5 (.int .u8 0) 1 rfl Try.underlying23 info5 rfl (by decide) (by omega) (.slice A13 1 c13) [9] (0 : Int) [.int .u8 0] (fun k => w12.heap.size ≤ k) (fun _ => False) rfl (by first | (go_simp; done) | (go_simp; rfl)) ?aP (fun _ hk => hk.elim) ?aF ?aO ?aB ?aS ?aL ?_; (case aP => exact rfl); (case aF => exact fun _ h => Nat.le_trans W13.out h); (case aO => exact R13.out); (case aB => exact B13.out); (case aS => exact qi B13.out); (case aL => decide); intro v14 w14 ho hb hg hat; obtain ⟨A14, c14, rfl⟩ : ∃ A c, v14 = .slice A 2 c := Kd.qN ho; have R14 := qa.mk (show Kd.R (Kd.int .u8) 5 w14 w.heap.size (fun k => w12.heap.size ≤ k) (.slice A14 2 c14) [9, 0] from ho); have B14 := qa.mk hb; have Q14 := qa.mk (Kd.jo Q13.out hg (fun k hk e => by have := R13.out.1 k e.symm; omega)); have W14 := qa.mk (Nat.le_trans W13.out hg.size); clear ho hb hg hat)
  rw [rounds_succ]
  go_wp2_with ((with_reducible refine qG (b := .append) (xs := #[.tmp 116, .tmp 117]) rfl ?_); at_builtin; refine Kd.zM (Kd.int .u8) (w0 := w) w.heap.size rfl (.tmp 116) (.tmp 117) 23 5 (.int .u8 0) 1 rfl Try.underlying23 info5 rfl (by decide) (by omega) (.slice A14 2 c14) [9, 0] (0 : Int) [.int .u8 0] (fun k => w12.heap.size ≤ k) (fun _ => False) rfl (by first | (go_simp; done) | (go_simp; rfl)) ?aP (fun _ hk => hk.elim) ?aF ?aO ?aB ?aS ?aL ?_; (case aP => exact rfl); (case aF => exact fun _ h => Nat.le_trans W14.out h); (case aO => exact R14.out); (case aB => exact B14.out); (case aS => exact qi B14.out); (case aL => decide); intro v15 w15 ho hb hg hat; obtain ⟨A15, c15, rfl⟩ : ∃ A c, v15 = .slice A 3 c := Kd.qN ho; have R15 := qa.mk (show Kd.R (Kd.int .u8) 5 w15 w.heap.size (fun k => w12.heap.size ≤ k) (.slice A15 3 c15) [9, 0, 0] from ho); have B15 := qa.mk hb; have Q15 := qa.mk (Kd.jo Q14.out hg (fun k hk e => by have := R14.out.1 k e.symm; omega)); have W15 := qa.mk (Nat.le_trans W14.out hg.size); clear ho hb hg hat)
  rw [rounds_succ]
  go_wp2_with ((with_reducible refine qG (b := .append) (xs := #[.tmp 116, .tmp 117]) rfl ?_); at_builtin; refine Kd.zM (Kd.int .u8) (w0 := w) w.heap.size rfl (.tmp 116) (.tmp 117) 23 5 (.int .u8 0) 1 rfl Try.underlying23 info5 rfl (by decide) (by omega) (.slice A15 3 c15) [9, 0, 0] (0 : Int) [.int .u8 0] (fun k => w12.heap.size ≤ k) (fun _ => False) rfl (by first | (go_simp; done) | (go_simp; rfl)) ?aP (fun _ hk => hk.elim) ?aF ?aO ?aB ?aS ?aL ?_; (case aP => exact rfl); (case aF => exact fun _ h => Nat.le_trans W15.out h); (case aO => exact R15.out); (case aB => exact B15.out); (case aS => exact qi B15.out); (case aL => decide); intro v16 w16 ho hb hg hat; obtain ⟨A16, c16, rfl⟩ : ∃ A c, v16 = .slice A 4 c := Kd.qN ho; have R16 := qa.mk (show Kd.R (Kd.int .u8) 5 w16 w.heap.size (fun k => w12.heap.size ≤ k) (.slice A16 4 c16) [9, 0, 0, 0] from ho); have B16 := qa.mk hb; have Q16 := qa.mk (Kd.jo Q15.out hg (fun k hk e => by have := R15.out.1 k e.symm; omega)); have W16 := qa.mk (Nat.le_trans W15.out hg.size); clear ho hb hg hat)
  rw [rounds_succ]
  go_wp2
  rw [rounds_succ]
  go_wp2_with ((with_reducible refine qG (b := .append) (xs := #[.tmp 120, .tmp 121]) rfl ?_); at_builtin; refine Kd.zh (Kd.int .u8) (w0 := w) w.heap.size rfl (.tmp 120) (.tmp 121) 23 5 (.int .u8 0) 1 rfl Try.underlying23 info5 rfl (by decide) (by omega) v12 [0, 1, 0, 0, 0, 1, 0, 0, 0, 0, 0, 0, 97, 98, 99, 100, 9, 0, 0, 0, 0, 0, 0, 28, 0, 0, 0, 1] [9, 0, 0, 0] _ _ _ (fun _ => True) (fun _ => False) rfl rfl ?aO ?aR (fun _ _ h => h) (fun _ h => h.elim) ?aF ?aB ?aS ?aL ?_; (case aR => exact (Kd.qJ R16.out).2.2); (case aB => exact B16.out); (case aF => exact (fun _ _ => trivial)); (case aO => exact Kd.qH Q16.out (fun _ _ => trivial)); (case aS => exact qi B16.out); (case aL => decide); intro v17 w17 ho hb hg hat; have R17 := qa.mk ho; have B17 := qa.mk hb; clear ho hb hg hat)
  go_ret2
  exact ⟨_, rfl, R17.out, B17.out⟩
end Go.Proofs.Ytonljpciadeafaa.S
