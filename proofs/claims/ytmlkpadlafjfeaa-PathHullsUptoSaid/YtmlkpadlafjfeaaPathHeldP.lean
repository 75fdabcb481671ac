/- path.box.add and path.held (for knots and for points), walked by hand. -/
import Derived.Test.YtmlkpadlafjfeaaPx0
import Derived.Test.YtmlkpadlafjfeaaLongP
import Derived.Test.YtmlkpadlafjfeaaPathAllP
import Derived.Outline
import Derived.Deep.RegionWith
import Derived.WalkLawsBesides
import Derived.WalkSpells
import Derived.Deep.QuietTactic
import Derived.BigQuiet
import Derived.Deep.RegionLaw
set_option linter.unusedVariables false
set_option linter.unusedSimpArgs false
namespace Go.Proofs.Ytmlkpadlafjfeaa.P
open Go Go.RowKit Go.Proofs.YtmlkpadlafjfeaaW.PrintWords Go.Proofs.YtmlkpadlafjfeaaW.PrintLast Go.Proofs.YtmlkpadlafjfeaaW.PrintMore
attribute [local go_sem] max2_int min2_int max_two min_two
theorem mn_self (a : Int) : mn a a = a := by unfold mn; split <;> rfl
theorem mx_self (a : Int) : mx a a = a := by unfold mx; split <;> rfl
/-- A box that grows, as it lies. -/
def bxC (x0 y0 x1 y1 : Int) (s : Bool) : Obj := .cells #[.int .i64 x0, .int .i64 y0, .int .i64 x1, .int .i64 y1, .bool s] 96 (0, 0)
set_option maxRecDepth 100000 in
set_option maxHeartbeats 4000000 in
theorem box_add (w : World) (g : Nat) (x0 y0 x1 y1 x y : Int) (s : Bool) (hb : Aside0 (w.heap[g]? = some (bxC x0 y0 x1 y1 s))) :
    Calls Try.prog 53 #[.pointer (some ⟨g, 0, none⟩), .int .i64 x, .int .i64 y] w fun e w' => e = .returned (.tuple #[]) ∧ Below g w w' ∧
      w'.heap[g]? = some (if s = true then bxC (mn x0 x) (mn y0 y) (mx x1 x) (mx y1 y) true else bxC x y x y true) := by
  have b0 := hb.out
  unfold bxC at b0
  have c0 : w.cell? ⟨g, 0, none⟩ = some (.int .i64 x0) := (blk_cell b0 0).trans rfl
  have c1 : w.cell? ⟨g, 1, none⟩ = some (.int .i64 y0) := (blk_cell b0 1).trans rfl
  have c2 : w.cell? ⟨g, 2, none⟩ = some (.int .i64 x1) := (blk_cell b0 2).trans rfl
  have c3 : w.cell? ⟨g, 3, none⟩ = some (.int .i64 y1) := (blk_cell b0 3).trans rfl
  have c4 : w.cell? ⟨g, 4, none⟩ = some (.bool s) := (blk_cell b0 4).trans rfl
  have f0 := blk_frozen b0 0
  have f1 := blk_frozen b0 1
  have f2 := blk_frozen b0 2
  have f3 := blk_frozen b0 3
  have f4 := blk_frozen b0 4
  cases s with
  | true =>
    go_enter Try.func53, Try.ntmps53
    go_upto_region 3 with fail
    have wW : ∃ W, W = w ∧ W.heap[g]? = some (bxC x0 y0 x1 y1 true) ∧ Below g w W := ⟨w, rfl, hb.out, Below.refl _ _⟩
    obtain ⟨W, hW, bW, kW⟩ := wW
    rw [← hW]
    have d0 : W.drew.cell? ⟨g, 0, none⟩ = some (.int .i64 (x0)) := (blk_cell bW 0).trans rfl
    have e0 : W.drew.frozen? ⟨g, 0, none⟩ = false := blk_frozen bW 0
    have q0 : W.cell? ⟨g, 0, none⟩ = some (.int .i64 (x0)) := (blk_cell bW 0).trans rfl
    have p0 : W.frozen? ⟨g, 0, none⟩ = false := blk_frozen bW 0
    have d1 : W.drew.cell? ⟨g, 1, none⟩ = some (.int .i64 (y0)) := (blk_cell bW 1).trans rfl
    have e1 : W.drew.frozen? ⟨g, 1, none⟩ = false := blk_frozen bW 1
    have q1 : W.cell? ⟨g, 1, none⟩ = some (.int .i64 (y0)) := (blk_cell bW 1).trans rfl
    have p1 : W.frozen? ⟨g, 1, none⟩ = false := blk_frozen bW 1
    clear c0 c1 c2 c3 c4 f0 f1 f2 f3 f4 hW
    refine start_ (n := 24) (S := fun w' => w'.cell? ⟨g, 0, none⟩ = some (.int .i64 (x0)) ∧ w'.cell? ⟨g, 1, none⟩ = some (.int .i64 (y0))) (ds := [19, 23]) #[false, false, false, false, false, false, false, false, false, false, false, false, false, false, false, false, false, false, false, false, false, false, false, false] (by kernel_rfl) rfl rfl ⟨d0, d1⟩ (fun hHeld => ?_)
    refine pure_ (i := 0) (N := some 22) (v := ?_) (a' := ?_) #[true, false, false, false, false, false, false, false, false, false, false, false, false, false, false, false, false, false, false, false, false, false, false, false] rfl rfl (by kernel_rfl) (fun _ _ _ h => h) (Or.inl ⟨by rfl, ?_⟩) ?_ ?_
    rotate_left
    · intro w'
      go_simp
      with_reducible rfl
    rotate_left
    · simp only [Act.put, List.setIfInBounds_toArray, List.set_cons_zero, List.set_cons_succ, i64_w, i32_w]
      rfl
    refine pure_ (i := 1) (N := some 23) (v := ?_) (a' := ?_) #[true, true, false, false, false, false, false, false, false, false, false, false, false, false, false, false, false, false, false, false, false, false, false, false] rfl rfl (by kernel_rfl) (fun _ _ _ h => h) (Or.inl ⟨by rfl, ?_⟩) ?_ ?_
    rotate_left
    · intro w'
      go_simp
      with_reducible rfl
    rotate_left
    · simp only [Act.put, List.setIfInBounds_toArray, List.set_cons_zero, List.set_cons_succ, i64_w, i32_w]
      rfl
    refine pure_ (i := 2) (N := some 24) (v := ?_) (a' := ?_) #[true, true, true, false, false, false, false, false, false, false, false, false, false, false, false, false, false, false, false, false, false, false, false, false] rfl rfl (by kernel_rfl) (fun _ _ _ h => h) (Or.inl ⟨by rfl, ?_⟩) ?_ ?_
    rotate_left
    · intro w'
      go_simp
      with_reducible rfl
    rotate_left
    · simp only [Act.put, List.setIfInBounds_toArray, List.set_cons_zero, List.set_cons_succ, i64_w, i32_w]
      rfl
    refine pure_ (i := 3) (N := some 25) (v := ?_) (a' := ?_) #[true, true, true, true, false, false, false, false, false, false, false, false, false, false, false, false, false, false, false, false, false, false, false, false] rfl rfl (by kernel_rfl) (fun _ _ _ h => h) (Or.inl ⟨by rfl, ?_⟩) ?_ ?_
    rotate_left
    · intro w'
      go_simp
      with_reducible rfl
    rotate_left
    · simp only [Act.put, List.setIfInBounds_toArray, List.set_cons_zero, List.set_cons_succ, i64_w, i32_w]
      rfl
    refine pure_ (i := 4) (N := some 26) (v := ?_) (a' := ?_) #[true, true, true, true, true, false, false, false, false, false, false, false, false, false, false, false, false, false, false, false, false, false, false, false] rfl rfl (by kernel_rfl) (fun _ _ _ h => h) (Or.inl ⟨by rfl, ?_⟩) ?_ ?_
    rotate_left
    · intro w'
      go_simp
      with_reducible rfl
    rotate_left
    · simp only [Act.put, List.setIfInBounds_toArray, List.set_cons_zero, List.set_cons_succ, i64_w, i32_w]
      rfl
    refine pure_ (i := 5) (N := some 27) (v := ?_) (a' := ?_) #[true, true, true, true, true, true, false, false, false, false, false, false, false, false, false, false, false, false, false, false, false, false, false, false] rfl rfl (by kernel_rfl) (fun _ _ _ h => h) (Or.inl ⟨by rfl, ?_⟩) ?_ ?_
    rotate_left
    · intro w'
      go_simp
      with_reducible rfl
    rotate_left
    · simp only [Act.put, List.setIfInBounds_toArray, List.set_cons_zero, List.set_cons_succ, i64_w, i32_w]
      rfl
    refine pure_ (i := 7) (N := some 29) (v := ?_) (a' := ?_) #[true, true, true, true, true, true, false, true, false, false, false, false, false, false, false, false, false, false, false, false, false, false, false, false] rfl rfl (by kernel_rfl) (fun _ _ _ h => h) (Or.inl ⟨by rfl, ?_⟩) ?_ ?_
    rotate_left
    · intro w'
      go_simp
      with_reducible rfl
    rotate_left
    · simp only [Act.put, List.setIfInBounds_toArray, List.set_cons_zero, List.set_cons_succ, i64_w, i32_w]
      rfl
    refine pure_ (i := 9) (N := some 31) (v := ?_) (a' := ?_) #[true, true, true, true, true, true, false, true, false, true, false, false, false, false, false, false, false, false, false, false, false, false, false, false] rfl rfl (by kernel_rfl) (fun _ _ _ h => h) (Or.inl ⟨by rfl, ?_⟩) ?_ ?_
    rotate_left
    · intro w'
      go_simp
      with_reducible rfl
    rotate_left
    · simp only [Act.put, List.setIfInBounds_toArray, List.set_cons_zero, List.set_cons_succ, i64_w, i32_w]
      rfl
    refine pure_ (i := 10) (N := some 32) (v := ?_) (a' := ?_) #[true, true, true, true, true, true, false, true, false, true, true, false, false, false, false, false, false, false, false, false, false, false, false, false] rfl rfl (by kernel_rfl) (fun _ _ _ h => h) (Or.inl ⟨by rfl, ?_⟩) ?_ ?_
    rotate_left
    · intro w'
      go_simp
      with_reducible rfl
    rotate_left
    · simp only [Act.put, List.setIfInBounds_toArray, List.set_cons_zero, List.set_cons_succ, i64_w, i32_w]
      rfl
    refine pure_ (i := 11) (N := some 33) (v := ?_) (a' := ?_) #[true, true, true, true, true, true, false, true, false, true, true, true, false, false, false, false, false, false, false, false, false, false, false, false] rfl rfl (by kernel_rfl) (fun _ _ _ h => h) (Or.inl ⟨by rfl, ?_⟩) ?_ ?_
    rotate_left
    · intro w'
      go_simp
      with_reducible rfl
    rotate_left
    · simp only [Act.put, List.setIfInBounds_toArray, List.set_cons_zero, List.set_cons_succ, i64_w, i32_w]
      rfl
    refine pure_ (i := 12) (N := some 34) (v := ?_) (a' := ?_) #[true, true, true, true, true, true, false, true, false, true, true, true, true, false, false, false, false, false, false, false, false, false, false, false] rfl rfl (by kernel_rfl) (fun _ _ _ h => h) (Or.inl ⟨by rfl, ?_⟩) ?_ ?_
    rotate_left
    · intro w'
      go_simp
      with_reducible rfl
    rotate_left
    · simp only [Act.put, List.setIfInBounds_toArray, List.set_cons_zero, List.set_cons_succ, i64_w, i32_w]
      rfl
    refine pure_ (i := 14) (N := some 36) (v := ?_) (a' := ?_) #[true, true, true, true, true, true, false, true, false, true, true, true, true, false, true, false, false, false, false, false, false, false, false, false] rfl rfl (by kernel_rfl) (fun _ _ _ h => h) (Or.inl ⟨by rfl, ?_⟩) ?_ ?_
    rotate_left
    · intro w'
      go_simp
      with_reducible rfl
    rotate_left
    · simp only [Act.put, List.setIfInBounds_toArray, List.set_cons_zero, List.set_cons_succ, i64_w, i32_w]
      rfl
    refine take_ (i := 6) (N := some 28) (v := ?_) (a' := ?_) #[true, true, true, true, true, true, true, true, false, true, true, true, true, false, true, false, false, false, false, false, false, false, false, false] rfl rfl (by kernel_rfl) (fun _ _ _ h => h) (Or.inl ⟨by rfl, ?_⟩) hHeld ?_ ?_
    rotate_left
    · rintro w' ⟨s0, s1⟩
      go_simp
      with_reducible rfl
    rotate_left
    · simp only [Act.put, List.setIfInBounds_toArray, List.set_cons_zero, List.set_cons_succ, i64_w, i32_w]
      rfl
    refine pure_ (i := 8) (N := some 30) (v := ?_) (a' := ?_) #[true, true, true, true, true, true, true, true, true, true, true, true, true, false, true, false, false, false, false, false, false, false, false, false] rfl rfl (by kernel_rfl) (fun _ _ _ h => h) (Or.inl ⟨by rfl, ?_⟩) ?_ ?_
    rotate_left
    · intro w'
      go_simp
      with_reducible rfl
    rotate_left
    · simp only [Act.put, List.setIfInBounds_toArray, List.set_cons_zero, List.set_cons_succ, i64_w, i32_w]
      rfl
    refine take_ (i := 13) (N := some 35) (v := ?_) (a' := ?_) #[true, true, true, true, true, true, true, true, true, true, true, true, true, true, true, false, false, false, false, false, false, false, false, false] rfl rfl (by kernel_rfl) (fun _ _ _ h => h) (Or.inl ⟨by rfl, ?_⟩) hHeld ?_ ?_
    rotate_left
    · rintro w' ⟨s0, s1⟩
      go_simp
      with_reducible rfl
    rotate_left
    · simp only [Act.put, List.setIfInBounds_toArray, List.set_cons_zero, List.set_cons_succ, i64_w, i32_w]
      rfl
    refine pure_ (i := 15) (N := some 37) (v := ?_) (a' := ?_) #[true, true, true, true, true, true, true, true, true, true, true, true, true, true, true, true, false, false, false, false, false, false, false, false] rfl rfl (by kernel_rfl) (fun _ _ _ h => h) (Or.inl ⟨by rfl, ?_⟩) ?_ ?_
    rotate_left
    · intro w'
      go_simp
      with_reducible rfl
    rotate_left
    · simp only [Act.put, List.setIfInBounds_toArray, List.set_cons_zero, List.set_cons_succ, i64_w, i32_w]
      rfl
    refine pure_ (i := 16) (N := some 38) (v := ?_) (a' := ?_) #[true, true, true, true, true, true, true, true, true, true, true, true, true, true, true, true, true, false, false, false, false, false, false, false] rfl rfl (by kernel_rfl) (fun _ _ _ h => h) (Or.inl ⟨by rfl, ?_⟩) ?_ ?_
    rotate_left
    · intro w'
      go_simp
      with_reducible rfl
    rotate_left
    · simp only [Act.put, List.setIfInBounds_toArray, List.set_cons_zero, List.set_cons_succ, i64_w, i32_w]
      rfl
    refine pure_ (i := 17) (N := some 39) (v := ?_) (a' := ?_) #[true, true, true, true, true, true, true, true, true, true, true, true, true, true, true, true, true, true, false, false, false, false, false, false] rfl rfl (by kernel_rfl) (fun _ _ _ h => h) (Or.inl ⟨by rfl, ?_⟩) ?_ ?_
    rotate_left
    · intro w'
      go_simp
      with_reducible rfl
    rotate_left
    · simp only [Act.put, List.setIfInBounds_toArray, List.set_cons_zero, List.set_cons_succ, i64_w, i32_w]
      rfl
    refine pure_ (i := 18) (N := some 40) (v := ?_) (a' := ?_) #[true, true, true, true, true, true, true, true, true, true, true, true, true, true, true, true, true, true, true, false, false, false, false, false] rfl rfl (by kernel_rfl) (fun _ _ _ h => h) (Or.inl ⟨by rfl, ?_⟩) ?_ ?_
    rotate_left
    · intro w'
      go_simp
      with_reducible rfl
    rotate_left
    · simp only [Act.put, List.setIfInBounds_toArray, List.set_cons_zero, List.set_cons_succ, i64_w, i32_w]
      rfl
    refine last_ (i := 19) (N := none) #[true, true, true, true, true, true, true, true, true, true, true, true, true, true, true, true, true, true, true, true, false, false, false, false] rfl rfl (by kernel_rfl) (by decide) (fun K hK => ?_)
    refine skip_ (w1 := ?_) (by rfl) rfl ?_ ?_
    rotate_left
    · go_simp
      rfl
    refine hK.out _ _ ?_
    clear hK K
    refine pure_ (i := 20) (N := some 41) (v := ?_) (a' := ?_) #[true, true, true, true, true, true, true, true, true, true, true, true, true, true, true, true, true, true, true, true, true, false, false, false] rfl rfl (by kernel_rfl) (fun _ _ _ h => h) (Or.inl ⟨by rfl, ?_⟩) ?_ ?_
    rotate_left
    · intro w'
      go_simp
      with_reducible rfl
    rotate_left
    · simp only [Act.put, List.setIfInBounds_toArray, List.set_cons_zero, List.set_cons_succ, i64_w, i32_w]
      rfl
    refine pure_ (i := 21) (N := some 42) (v := ?_) (a' := ?_) #[true, true, true, true, true, true, true, true, true, true, true, true, true, true, true, true, true, true, true, true, true, true, false, false] rfl rfl (by kernel_rfl) (fun _ _ _ h => h) (Or.inl ⟨by rfl, ?_⟩) ?_ ?_
    rotate_left
    · intro w'
      go_simp
      with_reducible rfl
    rotate_left
    · simp only [Act.put, List.setIfInBounds_toArray, List.set_cons_zero, List.set_cons_succ, i64_w, i32_w]
      rfl
    refine pure_ (i := 22) (N := some 43) (v := ?_) (a' := ?_) #[true, true, true, true, true, true, true, true, true, true, true, true, true, true, true, true, true, true, true, true, true, true, true, false] rfl rfl (by kernel_rfl) (fun _ _ _ h => h) (Or.inl ⟨by rfl, ?_⟩) ?_ ?_
    rotate_left
    · intro w'
      go_simp
      with_reducible rfl
    rotate_left
    · simp only [Act.put, List.setIfInBounds_toArray, List.set_cons_zero, List.set_cons_succ, i64_w, i32_w]
      rfl
    refine last_ (i := 23) (N := none) #[true, true, true, true, true, true, true, true, true, true, true, true, true, true, true, true, true, true, true, true, true, true, true, true] rfl rfl (by kernel_rfl) (by decide) (fun K hK => ?_)
    refine skip_ (w1 := ?_) (by rfl) rfl ?_ ?_
    rotate_left
    · go_simp
      rfl
    refine hK.out _ _ ?_
    clear hK K
    refine done_ (by kernel_rfl) ?_

    go_upto_region 4 with fail
    have zW : ∃ Z, Z = ((W.setCell ⟨g, 0, none⟩ (.int .i64 (mn (x0) x))).setCell ⟨g, 1, none⟩ (.int .i64 (mn (y0) y))).drew ∧ Z.heap[g]? = some (bxC (mn (x0) x) (mn (y0) y) (x1) (y1) true) ∧ Below g w Z :=
      ⟨_, rfl, blk_drew ((blk_set (blk_set bW 0 _) 1 _).trans rfl), ((kW.setCell (p := ⟨g, 0, none⟩) (Nat.le_refl _) _).setCell (p := ⟨g, 1, none⟩) (Nat.le_refl _) _).drew⟩
    obtain ⟨Z, hZ, bZ, kZ⟩ := zW
    try unfold mn at hZ
    rw [← hZ]
    have d2 : Z.drew.cell? ⟨g, 2, none⟩ = some (.int .i64 (x1)) := (blk_cell bZ 2).trans rfl
    have e2 : Z.drew.frozen? ⟨g, 2, none⟩ = false := blk_frozen bZ 2
    have q2 : Z.cell? ⟨g, 2, none⟩ = some (.int .i64 (x1)) := (blk_cell bZ 2).trans rfl
    have p2 : Z.frozen? ⟨g, 2, none⟩ = false := blk_frozen bZ 2
    have d3 : Z.drew.cell? ⟨g, 3, none⟩ = some (.int .i64 (y1)) := (blk_cell bZ 3).trans rfl
    have e3 : Z.drew.frozen? ⟨g, 3, none⟩ = false := blk_frozen bZ 3
    have q3 : Z.cell? ⟨g, 3, none⟩ = some (.int .i64 (y1)) := (blk_cell bZ 3).trans rfl
    have p3 : Z.frozen? ⟨g, 3, none⟩ = false := blk_frozen bZ 3
    clear hZ d0 d1 e0 e1 q0 q1 p0 p1
    refine start_ (n := 24) (S := fun w' => w'.cell? ⟨g, 2, none⟩ = some (.int .i64 (x1)) ∧ w'.cell? ⟨g, 3, none⟩ = some (.int .i64 (y1))) (ds := [19, 23]) #[false, false, false, false, false, false, false, false, false, false, false, false, false, false, false, false, false, false, false, false, false, false, false, false] (by kernel_rfl) rfl rfl ⟨d2, d3⟩ (fun hHeld => ?_)
    refine pure_ (i := 0) (N := some 44) (v := ?_) (a' := ?_) #[true, false, false, false, false, false, false, false, false, false, false, false, false, false, false, false, false, false, false, false, false, false, false, false] rfl rfl (by kernel_rfl) (fun _ _ _ h => h) (Or.inl ⟨by rfl, ?_⟩) ?_ ?_
    rotate_left
    · intro w'
      go_simp
      with_reducible rfl
    rotate_left
    · simp only [Act.put, List.setIfInBounds_toArray, List.set_cons_zero, List.set_cons_succ, i64_w, i32_w]
      rfl
    refine pure_ (i := 1) (N := some 45) (v := ?_) (a' := ?_) #[true, true, false, false, false, false, false, false, false, false, false, false, false, false, false, false, false, false, false, false, false, false, false, false] rfl rfl (by kernel_rfl) (fun _ _ _ h => h) (Or.inl ⟨by rfl, ?_⟩) ?_ ?_
    rotate_left
    · intro w'
      go_simp
      with_reducible rfl
    rotate_left
    · simp only [Act.put, List.setIfInBounds_toArray, List.set_cons_zero, List.set_cons_succ, i64_w, i32_w]
      rfl
    refine pure_ (i := 2) (N := some 46) (v := ?_) (a' := ?_) #[true, true, true, false, false, false, false, false, false, false, false, false, false, false, false, false, false, false, false, false, false, false, false, false] rfl rfl (by kernel_rfl) (fun _ _ _ h => h) (Or.inl ⟨by rfl, ?_⟩) ?_ ?_
    rotate_left
    · intro w'
      go_simp
      with_reducible rfl
    rotate_left
    · simp only [Act.put, List.setIfInBounds_toArray, List.set_cons_zero, List.set_cons_succ, i64_w, i32_w]
      rfl
    refine pure_ (i := 3) (N := some 47) (v := ?_) (a' := ?_) #[true, true, true, true, false, false, false, false, false, false, false, false, false, false, false, false, false, false, false, false, false, false, false, false] rfl rfl (by kernel_rfl) (fun _ _ _ h => h) (Or.inl ⟨by rfl, ?_⟩) ?_ ?_
    rotate_left
    · intro w'
      go_simp
      with_reducible rfl
    rotate_left
    · simp only [Act.put, List.setIfInBounds_toArray, List.set_cons_zero, List.set_cons_succ, i64_w, i32_w]
      rfl
    refine pure_ (i := 4) (N := some 48) (v := ?_) (a' := ?_) #[true, true, true, true, true, false, false, false, false, false, false, false, false, false, false, false, false, false, false, false, false, false, false, false] rfl rfl (by kernel_rfl) (fun _ _ _ h => h) (Or.inl ⟨by rfl, ?_⟩) ?_ ?_
    rotate_left
    · intro w'
      go_simp
      with_reducible rfl
    rotate_left
    · simp only [Act.put, List.setIfInBounds_toArray, List.set_cons_zero, List.set_cons_succ, i64_w, i32_w]
      rfl
    refine pure_ (i := 5) (N := some 49) (v := ?_) (a' := ?_) #[true, true, true, true, true, true, false, false, false, false, false, false, false, false, false, false, false, false, false, false, false, false, false, false] rfl rfl (by kernel_rfl) (fun _ _ _ h => h) (Or.inl ⟨by rfl, ?_⟩) ?_ ?_
    rotate_left
    · intro w'
      go_simp
      with_reducible rfl
    rotate_left
    · simp only [Act.put, List.setIfInBounds_toArray, List.set_cons_zero, List.set_cons_succ, i64_w, i32_w]
      rfl
    refine pure_ (i := 7) (N := some 51) (v := ?_) (a' := ?_) #[true, true, true, true, true, true, false, true, false, false, false, false, false, false, false, false, false, false, false, false, false, false, false, false] rfl rfl (by kernel_rfl) (fun _ _ _ h => h) (Or.inl ⟨by rfl, ?_⟩) ?_ ?_
    rotate_left
    · intro w'
      go_simp
      with_reducible rfl
    rotate_left
    · simp only [Act.put, List.setIfInBounds_toArray, List.set_cons_zero, List.set_cons_succ, i64_w, i32_w]
      rfl
    refine pure_ (i := 9) (N := some 53) (v := ?_) (a' := ?_) #[true, true, true, true, true, true, false, true, false, true, false, false, false, false, false, false, false, false, false, false, false, false, false, false] rfl rfl (by kernel_rfl) (fun _ _ _ h => h) (Or.inl ⟨by rfl, ?_⟩) ?_ ?_
    rotate_left
    · intro w'
      go_simp
      with_reducible rfl
    rotate_left
    · simp only [Act.put, List.setIfInBounds_toArray, List.set_cons_zero, List.set_cons_succ, i64_w, i32_w]
      rfl
    refine pure_ (i := 10) (N := some 54) (v := ?_) (a' := ?_) #[true, true, true, true, true, true, false, true, false, true, true, false, false, false, false, false, false, false, false, false, false, false, false, false] rfl rfl (by kernel_rfl) (fun _ _ _ h => h) (Or.inl ⟨by rfl, ?_⟩) ?_ ?_
    rotate_left
    · intro w'
      go_simp
      with_reducible rfl
    rotate_left
    · simp only [Act.put, List.setIfInBounds_toArray, List.set_cons_zero, List.set_cons_succ, i64_w, i32_w]
      rfl
    refine pure_ (i := 11) (N := some 55) (v := ?_) (a' := ?_) #[true, true, true, true, true, true, false, true, false, true, true, true, false, false, false, false, false, false, false, false, false, false, false, false] rfl rfl (by kernel_rfl) (fun _ _ _ h => h) (Or.inl ⟨by rfl, ?_⟩) ?_ ?_
    rotate_left
    · intro w'
      go_simp
      with_reducible rfl
    rotate_left
    · simp only [Act.put, List.setIfInBounds_toArray, List.set_cons_zero, List.set_cons_succ, i64_w, i32_w]
      rfl
    refine pure_ (i := 12) (N := some 56) (v := ?_) (a' := ?_) #[true, true, true, true, true, true, false, true, false, true, true, true, true, false, false, false, false, false, false, false, false, false, false, false] rfl rfl (by kernel_rfl) (fun _ _ _ h => h) (Or.inl ⟨by rfl, ?_⟩) ?_ ?_
    rotate_left
    · intro w'
      go_simp
      with_reducible rfl
    rotate_left
    · simp only [Act.put, List.setIfInBounds_toArray, List.set_cons_zero, List.set_cons_succ, i64_w, i32_w]
      rfl
    refine pure_ (i := 14) (N := some 58) (v := ?_) (a' := ?_) #[true, true, true, true, true, true, false, true, false, true, true, true, true, false, true, false, false, false, false, false, false, false, false, false] rfl rfl (by kernel_rfl) (fun _ _ _ h => h) (Or.inl ⟨by rfl, ?_⟩) ?_ ?_
    rotate_left
    · intro w'
      go_simp
      with_reducible rfl
    rotate_left
    · simp only [Act.put, List.setIfInBounds_toArray, List.set_cons_zero, List.set_cons_succ, i64_w, i32_w]
      rfl
    refine take_ (i := 6) (N := some 50) (v := ?_) (a' := ?_) #[true, true, true, true, true, true, true, true, false, true, true, true, true, false, true, false, false, false, false, false, false, false, false, false] rfl rfl (by kernel_rfl) (fun _ _ _ h => h) (Or.inl ⟨by rfl, ?_⟩) hHeld ?_ ?_
    rotate_left
    · rintro w' ⟨s0, s1⟩
      go_simp
      with_reducible rfl
    rotate_left
    · simp only [Act.put, List.setIfInBounds_toArray, List.set_cons_zero, List.set_cons_succ, i64_w, i32_w]
      rfl
    refine pure_ (i := 8) (N := some 52) (v := ?_) (a' := ?_) #[true, true, true, true, true, true, true, true, true, true, true, true, true, false, true, false, false, false, false, false, false, false, false, false] rfl rfl (by kernel_rfl) (fun _ _ _ h => h) (Or.inl ⟨by rfl, ?_⟩) ?_ ?_
    rotate_left
    · intro w'
      go_simp
      with_reducible rfl
    rotate_left
    · simp only [Act.put, List.setIfInBounds_toArray, List.set_cons_zero, List.set_cons_succ, i64_w, i32_w]
      rfl
    refine take_ (i := 13) (N := some 57) (v := ?_) (a' := ?_) #[true, true, true, true, true, true, true, true, true, true, true, true, true, true, true, false, false, false, false, false, false, false, false, false] rfl rfl (by kernel_rfl) (fun _ _ _ h => h) (Or.inl ⟨by rfl, ?_⟩) hHeld ?_ ?_
    rotate_left
    · rintro w' ⟨s0, s1⟩
      go_simp
      with_reducible rfl
    rotate_left
    · simp only [Act.put, List.setIfInBounds_toArray, List.set_cons_zero, List.set_cons_succ, i64_w, i32_w]
      rfl
    refine pure_ (i := 15) (N := some 59) (v := ?_) (a' := ?_) #[true, true, true, true, true, true, true, true, true, true, true, true, true, true, true, true, false, false, false, false, false, false, false, false] rfl rfl (by kernel_rfl) (fun _ _ _ h => h) (Or.inl ⟨by rfl, ?_⟩) ?_ ?_
    rotate_left
    · intro w'
      go_simp
      with_reducible rfl
    rotate_left
    · simp only [Act.put, List.setIfInBounds_toArray, List.set_cons_zero, List.set_cons_succ, i64_w, i32_w]
      rfl
    refine pure_ (i := 16) (N := some 60) (v := ?_) (a' := ?_) #[true, true, true, true, true, true, true, true, true, true, true, true, true, true, true, true, true, false, false, false, false, false, false, false] rfl rfl (by kernel_rfl) (fun _ _ _ h => h) (Or.inl ⟨by rfl, ?_⟩) ?_ ?_
    rotate_left
    · intro w'
      go_simp
      with_reducible rfl
    rotate_left
    · simp only [Act.put, List.setIfInBounds_toArray, List.set_cons_zero, List.set_cons_succ, i64_w, i32_w]
      rfl
    refine pure_ (i := 17) (N := some 61) (v := ?_) (a' := ?_) #[true, true, true, true, true, true, true, true, true, true, true, true, true, true, true, true, true, true, false, false, false, false, false, false] rfl rfl (by kernel_rfl) (fun _ _ _ h => h) (Or.inl ⟨by rfl, ?_⟩) ?_ ?_
    rotate_left
    · intro w'
      go_simp
      with_reducible rfl
    rotate_left
    · simp only [Act.put, List.setIfInBounds_toArray, List.set_cons_zero, List.set_cons_succ, i64_w, i32_w]
      rfl
    refine pure_ (i := 18) (N := some 62) (v := ?_) (a' := ?_) #[true, true, true, true, true, true, true, true, true, true, true, true, true, true, true, true, true, true, true, false, false, false, false, false] rfl rfl (by kernel_rfl) (fun _ _ _ h => h) (Or.inl ⟨by rfl, ?_⟩) ?_ ?_
    rotate_left
    · intro w'
      go_simp
      with_reducible rfl
    rotate_left
    · simp only [Act.put, List.setIfInBounds_toArray, List.set_cons_zero, List.set_cons_succ, i64_w, i32_w]
      rfl
    refine last_ (i := 19) (N := none) #[true, true, true, true, true, true, true, true, true, true, true, true, true, true, true, true, true, true, true, true, false, false, false, false] rfl rfl (by kernel_rfl) (by decide) (fun K hK => ?_)
    refine skip_ (w1 := ?_) (by rfl) rfl ?_ ?_
    rotate_left
    · go_simp
      rfl
    refine hK.out _ _ ?_
    clear hK K
    refine pure_ (i := 20) (N := some 63) (v := ?_) (a' := ?_) #[true, true, true, true, true, true, true, true, true, true, true, true, true, true, true, true, true, true, true, true, true, false, false, false] rfl rfl (by kernel_rfl) (fun _ _ _ h => h) (Or.inl ⟨by rfl, ?_⟩) ?_ ?_
    rotate_left
    · intro w'
      go_simp
      with_reducible rfl
    rotate_left
    · simp only [Act.put, List.setIfInBounds_toArray, List.set_cons_zero, List.set_cons_succ, i64_w, i32_w]
      rfl
    refine pure_ (i := 21) (N := some 64) (v := ?_) (a' := ?_) #[true, true, true, true, true, true, true, true, true, true, true, true, true, true, true, true, true, true, true, true, true, true, false, false] rfl rfl (by kernel_rfl) (fun _ _ _ h => h) (Or.inl ⟨by rfl, ?_⟩) ?_ ?_
    rotate_left
    · intro w'
      go_simp
      with_reducible rfl
    rotate_left
    · simp only [Act.put, List.setIfInBounds_toArray, List.set_cons_zero, List.set_cons_succ, i64_w, i32_w]
      rfl
    refine pure_ (i := 22) (N := some 65) (v := ?_) (a' := ?_) #[true, true, true, true, true, true, true, true, true, true, true, true, true, true, true, true, true, true, true, true, true, true, true, false] rfl rfl (by kernel_rfl) (fun _ _ _ h => h) (Or.inl ⟨by rfl, ?_⟩) ?_ ?_
    rotate_left
    · intro w'
      go_simp
      with_reducible rfl
    rotate_left
    · simp only [Act.put, List.setIfInBounds_toArray, List.set_cons_zero, List.set_cons_succ, i64_w, i32_w]
      rfl
    refine last_ (i := 23) (N := none) #[true, true, true, true, true, true, true, true, true, true, true, true, true, true, true, true, true, true, true, true, true, true, true, true] rfl rfl (by kernel_rfl) (by decide) (fun K hK => ?_)
    refine skip_ (w1 := ?_) (by rfl) rfl ?_ ?_
    rotate_left
    · go_simp
      rfl
    refine hK.out _ _ ?_
    clear hK K
    refine done_ (by kernel_rfl) ?_

    have yW : ∃ Y, Y = ((Z.setCell ⟨g, 2, none⟩ (.int .i64 (mx (x1) x))).setCell ⟨g, 3, none⟩ (.int .i64 (mx (y1) y))).drew ∧ Y.heap[g]? = some (bxC (mn (x0) x) (mn (y0) y) (mx (x1) x) (mx (y1) y) true) ∧ Below g w Y :=
      ⟨_, rfl, blk_drew ((blk_set (blk_set bZ 2 _) 3 _).trans rfl), ((kZ.setCell (p := ⟨g, 2, none⟩) (Nat.le_refl _) _).setCell (p := ⟨g, 3, none⟩) (Nat.le_refl _) _).drew⟩
    obtain ⟨Y, hY, bY, kY⟩ := yW
    try unfold mx at hY
    rw [← hY]
    clear hY
    have FN := bY
    go_wp2
    all_goals (refine bodyPost_end (results_none rfl _ _ _) rfl ?_; exact ⟨rfl, kY, FN⟩)
  | false =>
    go_enter Try.func53, Try.ntmps53
    go_upto_region 3 with fail
    have wW : ∃ W, W = ((((w.setCell ⟨g, 0, none⟩ (.int .i64 x)).setCell ⟨g, 1, none⟩ (.int .i64 y)).setCell ⟨g, 2, none⟩ (.int .i64 x)).setCell ⟨g, 3, none⟩ (.int .i64 y)).setCell ⟨g, 4, none⟩ (.bool true) ∧ W.heap[g]? = some (bxC x y x y true) ∧ Below g w W :=
      ⟨_, rfl, (blk_set (blk_set (blk_set (blk_set (blk_set b0 0 _) 1 _) 2 _) 3 _) 4 _).trans rfl, (((((Below.refl g w).setCell (p := ⟨g, 0, none⟩) (Nat.le_refl _) _).setCell (p := ⟨g, 1, none⟩) (Nat.le_refl _) _).setCell (p := ⟨g, 2, none⟩) (Nat.le_refl _) _).setCell (p := ⟨g, 3, none⟩) (Nat.le_refl _) _).setCell (p := ⟨g, 4, none⟩) (Nat.le_refl _) _⟩
    obtain ⟨W, hW, bW, kW⟩ := wW
    rw [← hW]
    have d0 : W.drew.cell? ⟨g, 0, none⟩ = some (.int .i64 (x)) := (blk_cell bW 0).trans rfl
    have e0 : W.drew.frozen? ⟨g, 0, none⟩ = false := blk_frozen bW 0
    have q0 : W.cell? ⟨g, 0, none⟩ = some (.int .i64 (x)) := (blk_cell bW 0).trans rfl
    have p0 : W.frozen? ⟨g, 0, none⟩ = false := blk_frozen bW 0
    have d1 : W.drew.cell? ⟨g, 1, none⟩ = some (.int .i64 (y)) := (blk_cell bW 1).trans rfl
    have e1 : W.drew.frozen? ⟨g, 1, none⟩ = false := blk_frozen bW 1
    have q1 : W.cell? ⟨g, 1, none⟩ = some (.int .i64 (y)) := (blk_cell bW 1).trans rfl
    have p1 : W.frozen? ⟨g, 1, none⟩ = false := blk_frozen bW 1
    clear c0 c1 c2 c3 c4 f0 f1 f2 f3 f4 hW
    refine start_ (n := 24) (S := fun w' => w'.cell? ⟨g, 0, none⟩ = some (.int .i64 (x)) ∧ w'.cell? ⟨g, 1, none⟩ = some (.int .i64 (y))) (ds := [19, 23]) #[false, false, false, false, false, false, false, false, false, false, false, false, false, false, false, false, false, false, false, false, false, false, false, false] (by kernel_rfl) rfl rfl ⟨d0, d1⟩ (fun hHeld => ?_)
    refine pure_ (i := 0) (N := some 22) (v := ?_) (a' := ?_) #[true, false, false, false, false, false, false, false, false, false, false, false, false, false, false, false, false, false, false, false, false, false, false, false] rfl rfl (by kernel_rfl) (fun _ _ _ h => h) (Or.inl ⟨by rfl, ?_⟩) ?_ ?_
    rotate_left
    · intro w'
      go_simp
      with_reducible rfl
    rotate_left
    · simp only [Act.put, List.setIfInBounds_toArray, List.set_cons_zero, List.set_cons_succ, i64_w, i32_w]
      rfl
    refine pure_ (i := 1) (N := some 23) (v := ?_) (a' := ?_) #[true, true, false, false, false, false, false, false, false, false, false, false, false, false, false, false, false, false, false, false, false, false, false, false] rfl rfl (by kernel_rfl) (fun _ _ _ h => h) (Or.inl ⟨by rfl, ?_⟩) ?_ ?_
    rotate_left
    · intro w'
      go_simp
      with_reducible rfl
    rotate_left
    · simp only [Act.put, List.setIfInBounds_toArray, List.set_cons_zero, List.set_cons_succ, i64_w, i32_w]
      rfl
    refine pure_ (i := 2) (N := some 24) (v := ?_) (a' := ?_) #[true, true, true, false, false, false, false, false, false, false, false, false, false, false, false, false, false, false, false, false, false, false, false, false] rfl rfl (by kernel_rfl) (fun _ _ _ h => h) (Or.inl ⟨by rfl, ?_⟩) ?_ ?_
    rotate_left
    · intro w'
      go_simp
      with_reducible rfl
    rotate_left
    · simp only [Act.put, List.setIfInBounds_toArray, List.set_cons_zero, List.set_cons_succ, i64_w, i32_w]
      rfl
    refine pure_ (i := 3) (N := some 25) (v := ?_) (a' := ?_) #[true, true, true, true, false, false, false, false, false, false, false, false, false, false, false, false, false, false, false, false, false, false, false, false] rfl rfl (by kernel_rfl) (fun _ _ _ h => h) (Or.inl ⟨by rfl, ?_⟩) ?_ ?_
    rotate_left
    · intro w'
      go_simp
      with_reducible rfl
    rotate_left
    · simp only [Act.put, List.setIfInBounds_toArray, List.set_cons_zero, List.set_cons_succ, i64_w, i32_w]
      rfl
    refine pure_ (i := 4) (N := some 26) (v := ?_) (a' := ?_) #[true, true, true, true, true, false, false, false, false, false, false, false, false, false, false, false, false, false, false, false, false, false, false, false] rfl rfl (by kernel_rfl) (fun _ _ _ h => h) (Or.inl ⟨by rfl, ?_⟩) ?_ ?_
    rotate_left
    · intro w'
      go_simp
      with_reducible rfl
    rotate_left
    · simp only [Act.put, List.setIfInBounds_toArray, List.set_cons_zero, List.set_cons_succ, i64_w, i32_w]
      rfl
    refine pure_ (i := 5) (N := some 27) (v := ?_) (a' := ?_) #[true, true, true, true, true, true, false, false, false, false, false, false, false, false, false, false, false, false, false, false, false, false, false, false] rfl rfl (by kernel_rfl) (fun _ _ _ h => h) (Or.inl ⟨by rfl, ?_⟩) ?_ ?_
    rotate_left
    · intro w'
      go_simp
      with_reducible rfl
    rotate_left
    · simp only [Act.put, List.setIfInBounds_toArray, List.set_cons_zero, List.set_cons_succ, i64_w, i32_w]
      rfl
    refine pure_ (i := 7) (N := some 29) (v := ?_) (a' := ?_) #[true, true, true, true, true, true, false, true, false, false, false, false, false, false, false, false, false, false, false, false, false, false, false, false] rfl rfl (by kernel_rfl) (fun _ _ _ h => h) (Or.inl ⟨by rfl, ?_⟩) ?_ ?_
    rotate_left
    · intro w'
      go_simp
      with_reducible rfl
    rotate_left
    · simp only [Act.put, List.setIfInBounds_toArray, List.set_cons_zero, List.set_cons_succ, i64_w, i32_w]
      rfl
    refine pure_ (i := 9) (N := some 31) (v := ?_) (a' := ?_) #[true, true, true, true, true, true, false, true, false, true, false, false, false, false, false, false, false, false, false, false, false, false, false, false] rfl rfl (by kernel_rfl) (fun _ _ _ h => h) (Or.inl ⟨by rfl, ?_⟩) ?_ ?_
    rotate_left
    · intro w'
      go_simp
      with_reducible rfl
    rotate_left
    · simp only [Act.put, List.setIfInBounds_toArray, List.set_cons_zero, List.set_cons_succ, i64_w, i32_w]
      rfl
    refine pure_ (i := 10) (N := some 32) (v := ?_) (a' := ?_) #[true, true, true, true, true, true, false, true, false, true, true, false, false, false, false, false, false, false, false, false, false, false, false, false] rfl rfl (by kernel_rfl) (fun _ _ _ h => h) (Or.inl ⟨by rfl, ?_⟩) ?_ ?_
    rotate_left
    · intro w'
      go_simp
      with_reducible rfl
    rotate_left
    · simp only [Act.put, List.setIfInBounds_toArray, List.set_cons_zero, List.set_cons_succ, i64_w, i32_w]
      rfl
    refine pure_ (i := 11) (N := some 33) (v := ?_) (a' := ?_) #[true, true, true, true, true, true, false, true, false, true, true, true, false, false, false, false, false, false, false, false, false, false, false, false] rfl rfl (by kernel_rfl) (fun _ _ _ h => h) (Or.inl ⟨by rfl, ?_⟩) ?_ ?_
    rotate_left
    · intro w'
      go_simp
      with_reducible rfl
    rotate_left
    · simp only [Act.put, List.setIfInBounds_toArray, List.set_cons_zero, List.set_cons_succ, i64_w, i32_w]
      rfl
    refine pure_ (i := 12) (N := some 34) (v := ?_) (a' := ?_) #[true, true, true, true, true, true, false, true, false, true, true, true, true, false, false, false, false, false, false, false, false, false, false, false] rfl rfl (by kernel_rfl) (fun _ _ _ h => h) (Or.inl ⟨by rfl, ?_⟩) ?_ ?_
    rotate_left
    · intro w'
      go_simp
      with_reducible rfl
    rotate_left
    · simp only [Act.put, List.setIfInBounds_toArray, List.set_cons_zero, List.set_cons_succ, i64_w, i32_w]
      rfl
    refine pure_ (i := 14) (N := some 36) (v := ?_) (a' := ?_) #[true, true, true, true, true, true, false, true, false, true, true, true, true, false, true, false, false, false, false, false, false, false, false, false] rfl rfl (by kernel_rfl) (fun _ _ _ h => h) (Or.inl ⟨by rfl, ?_⟩) ?_ ?_
    rotate_left
    · intro w'
      go_simp
      with_reducible rfl
    rotate_left
    · simp only [Act.put, List.setIfInBounds_toArray, List.set_cons_zero, List.set_cons_succ, i64_w, i32_w]
      rfl
    refine take_ (i := 6) (N := some 28) (v := ?_) (a' := ?_) #[true, true, true, true, true, true, true, true, false, true, true, true, true, false, true, false, false, false, false, false, false, false, false, false] rfl rfl (by kernel_rfl) (fun _ _ _ h => h) (Or.inl ⟨by rfl, ?_⟩) hHeld ?_ ?_
    rotate_left
    · rintro w' ⟨s0, s1⟩
      go_simp
      with_reducible rfl
    rotate_left
    · simp only [Act.put, List.setIfInBounds_toArray, List.set_cons_zero, List.set_cons_succ, i64_w, i32_w]
      rfl
    refine pure_ (i := 8) (N := some 30) (v := ?_) (a' := ?_) #[true, true, true, true, true, true, true, true, true, true, true, true, true, false, true, false, false, false, false, false, false, false, false, false] rfl rfl (by kernel_rfl) (fun _ _ _ h => h) (Or.inl ⟨by rfl, ?_⟩) ?_ ?_
    rotate_left
    · intro w'
      go_simp
      with_reducible rfl
    rotate_left
    · simp only [Act.put, List.setIfInBounds_toArray, List.set_cons_zero, List.set_cons_succ, i64_w, i32_w]
      rfl
    refine take_ (i := 13) (N := some 35) (v := ?_) (a' := ?_) #[true, true, true, true, true, true, true, true, true, true, true, true, true, true, true, false, false, false, false, false, false, false, false, false] rfl rfl (by kernel_rfl) (fun _ _ _ h => h) (Or.inl ⟨by rfl, ?_⟩) hHeld ?_ ?_
    rotate_left
    · rintro w' ⟨s0, s1⟩
      go_simp
      with_reducible rfl
    rotate_left
    · simp only [Act.put, List.setIfInBounds_toArray, List.set_cons_zero, List.set_cons_succ, i64_w, i32_w]
      rfl
    refine pure_ (i := 15) (N := some 37) (v := ?_) (a' := ?_) #[true, true, true, true, true, true, true, true, true, true, true, true, true, true, true, true, false, false, false, false, false, false, false, false] rfl rfl (by kernel_rfl) (fun _ _ _ h => h) (Or.inl ⟨by rfl, ?_⟩) ?_ ?_
    rotate_left
    · intro w'
      go_simp
      with_reducible rfl
    rotate_left
    · simp only [Act.put, List.setIfInBounds_toArray, List.set_cons_zero, List.set_cons_succ, i64_w, i32_w]
      rfl
    refine pure_ (i := 16) (N := some 38) (v := ?_) (a' := ?_) #[true, true, true, true, true, true, true, true, true, true, true, true, true, true, true, true, true, false, false, false, false, false, false, false] rfl rfl (by kernel_rfl) (fun _ _ _ h => h) (Or.inl ⟨by rfl, ?_⟩) ?_ ?_
    rotate_left
    · intro w'
      go_simp
      with_reducible rfl
    rotate_left
    · simp only [Act.put, List.setIfInBounds_toArray, List.set_cons_zero, List.set_cons_succ, i64_w, i32_w]
      rfl
    refine pure_ (i := 17) (N := some 39) (v := ?_) (a' := ?_) #[true, true, true, true, true, true, true, true, true, true, true, true, true, true, true, true, true, true, false, false, false, false, false, false] rfl rfl (by kernel_rfl) (fun _ _ _ h => h) (Or.inl ⟨by rfl, ?_⟩) ?_ ?_
    rotate_left
    · intro w'
      go_simp
      with_reducible rfl
    rotate_left
    · simp only [Act.put, List.setIfInBounds_toArray, List.set_cons_zero, List.set_cons_succ, i64_w, i32_w]
      rfl
    refine pure_ (i := 18) (N := some 40) (v := ?_) (a' := ?_) #[true, true, true, true, true, true, true, true, true, true, true, true, true, true, true, true, true, true, true, false, false, false, false, false] rfl rfl (by kernel_rfl) (fun _ _ _ h => h) (Or.inl ⟨by rfl, ?_⟩) ?_ ?_
    rotate_left
    · intro w'
      go_simp
      with_reducible rfl
    rotate_left
    · simp only [Act.put, List.setIfInBounds_toArray, List.set_cons_zero, List.set_cons_succ, i64_w, i32_w]
      rfl
    refine last_ (i := 19) (N := none) #[true, true, true, true, true, true, true, true, true, true, true, true, true, true, true, true, true, true, true, true, false, false, false, false] rfl rfl (by kernel_rfl) (by decide) (fun K hK => ?_)
    refine skip_ (w1 := ?_) (by rfl) rfl ?_ ?_
    rotate_left
    · go_simp
      rfl
    refine hK.out _ _ ?_
    clear hK K
    refine pure_ (i := 20) (N := some 41) (v := ?_) (a' := ?_) #[true, true, true, true, true, true, true, true, true, true, true, true, true, true, true, true, true, true, true, true, true, false, false, false] rfl rfl (by kernel_rfl) (fun _ _ _ h => h) (Or.inl ⟨by rfl, ?_⟩) ?_ ?_
    rotate_left
    · intro w'
      go_simp
      with_reducible rfl
    rotate_left
    · simp only [Act.put, List.setIfInBounds_toArray, List.set_cons_zero, List.set_cons_succ, i64_w, i32_w]
      rfl
    refine pure_ (i := 21) (N := some 42) (v := ?_) (a' := ?_) #[true, true, true, true, true, true, true, true, true, true, true, true, true, true, true, true, true, true, true, true, true, true, false, false] rfl rfl (by kernel_rfl) (fun _ _ _ h => h) (Or.inl ⟨by rfl, ?_⟩) ?_ ?_
    rotate_left
    · intro w'
      go_simp
      with_reducible rfl
    rotate_left
    · simp only [Act.put, List.setIfInBounds_toArray, List.set_cons_zero, List.set_cons_succ, i64_w, i32_w]
      rfl
    refine pure_ (i := 22) (N := some 43) (v := ?_) (a' := ?_) #[true, true, true, true, true, true, true, true, true, true, true, true, true, true, true, true, true, true, true, true, true, true, true, false] rfl rfl (by kernel_rfl) (fun _ _ _ h => h) (Or.inl ⟨by rfl, ?_⟩) ?_ ?_
    rotate_left
    · intro w'
      go_simp
      with_reducible rfl
    rotate_left
    · simp only [Act.put, List.setIfInBounds_toArray, List.set_cons_zero, List.set_cons_succ, i64_w, i32_w]
      rfl
    refine last_ (i := 23) (N := none) #[true, true, true, true, true, true, true, true, true, true, true, true, true, true, true, true, true, true, true, true, true, true, true, true] rfl rfl (by kernel_rfl) (by decide) (fun K hK => ?_)
    refine skip_ (w1 := ?_) (by rfl) rfl ?_ ?_
    rotate_left
    · go_simp
      rfl
    refine hK.out _ _ ?_
    clear hK K
    refine done_ (by kernel_rfl) ?_

    go_upto_region 4 with fail
    have zW : ∃ Z, Z = ((W.setCell ⟨g, 0, none⟩ (.int .i64 x)).setCell ⟨g, 1, none⟩ (.int .i64 y)).drew ∧ Z.heap[g]? = some (bxC x y (x) (y) true) ∧ Below g w Z :=
      ⟨_, rfl, blk_drew ((blk_set (blk_set bW 0 _) 1 _).trans rfl), ((kW.setCell (p := ⟨g, 0, none⟩) (Nat.le_refl _) _).setCell (p := ⟨g, 1, none⟩) (Nat.le_refl _) _).drew⟩
    obtain ⟨Z, hZ, bZ, kZ⟩ := zW
    try unfold mn at hZ
    rw [← hZ]
    have d2 : Z.drew.cell? ⟨g, 2, none⟩ = some (.int .i64 (x)) := (blk_cell bZ 2).trans rfl
    have e2 : Z.drew.frozen? ⟨g, 2, none⟩ = false := blk_frozen bZ 2
    have q2 : Z.cell? ⟨g, 2, none⟩ = some (.int .i64 (x)) := (blk_cell bZ 2).trans rfl
    have p2 : Z.frozen? ⟨g, 2, none⟩ = false := blk_frozen bZ 2
    have d3 : Z.drew.cell? ⟨g, 3, none⟩ = some (.int .i64 (y)) := (blk_cell bZ 3).trans rfl
    have e3 : Z.drew.frozen? ⟨g, 3, none⟩ = false := blk_frozen bZ 3
    have q3 : Z.cell? ⟨g, 3, none⟩ = some (.int .i64 (y)) := (blk_cell bZ 3).trans rfl
    have p3 : Z.frozen? ⟨g, 3, none⟩ = false := blk_frozen bZ 3
    clear hZ d0 d1 e0 e1 q0 q1 p0 p1
    refine start_ (n := 24) (S := fun w' => w'.cell? ⟨g, 2, none⟩ = some (.int .i64 (x)) ∧ w'.cell? ⟨g, 3, none⟩ = some (.int .i64 (y))) (ds := [19, 23]) #[false, false, false, false, false, false, false, false, false, false, false, false, false, false, false, false, false, false, false, false, false, false, false, false] (by kernel_rfl) rfl rfl ⟨d2, d3⟩ (fun hHeld => ?_)
    refine pure_ (i := 0) (N := some 44) (v := ?_) (a' := ?_) #[true, false, false, false, false, false, false, false, false, false, false, false, false, false, false, false, false, false, false, false, false, false, false, false] rfl rfl (by kernel_rfl) (fun _ _ _ h => h) (Or.inl ⟨by rfl, ?_⟩) ?_ ?_
    rotate_left
    · intro w'
      go_simp
      with_reducible rfl
    rotate_left
    · simp only [Act.put, List.setIfInBounds_toArray, List.set_cons_zero, List.set_cons_succ, i64_w, i32_w]
      rfl
    refine pure_ (i := 1) (N := some 45) (v := ?_) (a' := ?_) #[true, true, false, false, false, false, false, false, false, false, false, false, false, false, false, false, false, false, false, false, false, false, false, false] rfl rfl (by kernel_rfl) (fun _ _ _ h => h) (Or.inl ⟨by rfl, ?_⟩) ?_ ?_
    rotate_left
    · intro w'
      go_simp
      with_reducible rfl
    rotate_left
    · simp only [Act.put, List.setIfInBounds_toArray, List.set_cons_zero, List.set_cons_succ, i64_w, i32_w]
      rfl
    refine pure_ (i := 2) (N := some 46) (v := ?_) (a' := ?_) #[true, true, true, false, false, false, false, false, false, false, false, false, false, false, false, false, false, false, false, false, false, false, false, false] rfl rfl (by kernel_rfl) (fun _ _ _ h => h) (Or.inl ⟨by rfl, ?_⟩) ?_ ?_
    rotate_left
    · intro w'
      go_simp
      with_reducible rfl
    rotate_left
    · simp only [Act.put, List.setIfInBounds_toArray, List.set_cons_zero, List.set_cons_succ, i64_w, i32_w]
      rfl
    refine pure_ (i := 3) (N := some 47) (v := ?_) (a' := ?_) #[true, true, true, true, false, false, false, false, false, false, false, false, false, false, false, false, false, false, false, false, false, false, false, false] rfl rfl (by kernel_rfl) (fun _ _ _ h => h) (Or.inl ⟨by rfl, ?_⟩) ?_ ?_
    rotate_left
    · intro w'
      go_simp
      with_reducible rfl
    rotate_left
    · simp only [Act.put, List.setIfInBounds_toArray, List.set_cons_zero, List.set_cons_succ, i64_w, i32_w]
      rfl
    refine pure_ (i := 4) (N := some 48) (v := ?_) (a' := ?_) #[true, true, true, true, true, false, false, false, false, false, false, false, false, false, false, false, false, false, false, false, false, false, false, false] rfl rfl (by kernel_rfl) (fun _ _ _ h => h) (Or.inl ⟨by rfl, ?_⟩) ?_ ?_
    rotate_left
    · intro w'
      go_simp
      with_reducible rfl
    rotate_left
    · simp only [Act.put, List.setIfInBounds_toArray, List.set_cons_zero, List.set_cons_succ, i64_w, i32_w]
      rfl
    refine pure_ (i := 5) (N := some 49) (v := ?_) (a' := ?_) #[true, true, true, true, true, true, false, false, false, false, false, false, false, false, false, false, false, false, false, false, false, false, false, false] rfl rfl (by kernel_rfl) (fun _ _ _ h => h) (Or.inl ⟨by rfl, ?_⟩) ?_ ?_
    rotate_left
    · intro w'
      go_simp
      with_reducible rfl
    rotate_left
    · simp only [Act.put, List.setIfInBounds_toArray, List.set_cons_zero, List.set_cons_succ, i64_w, i32_w]
      rfl
    refine pure_ (i := 7) (N := some 51) (v := ?_) (a' := ?_) #[true, true, true, true, true, true, false, true, false, false, false, false, false, false, false, false, false, false, false, false, false, false, false, false] rfl rfl (by kernel_rfl) (fun _ _ _ h => h) (Or.inl ⟨by rfl, ?_⟩) ?_ ?_
    rotate_left
    · intro w'
      go_simp
      with_reducible rfl
    rotate_left
    · simp only [Act.put, List.setIfInBounds_toArray, List.set_cons_zero, List.set_cons_succ, i64_w, i32_w]
      rfl
    refine pure_ (i := 9) (N := some 53) (v := ?_) (a' := ?_) #[true, true, true, true, true, true, false, true, false, true, false, false, false, false, false, false, false, false, false, false, false, false, false, false] rfl rfl (by kernel_rfl) (fun _ _ _ h => h) (Or.inl ⟨by rfl, ?_⟩) ?_ ?_
    rotate_left
    · intro w'
      go_simp
      with_reducible rfl
    rotate_left
    · simp only [Act.put, List.setIfInBounds_toArray, List.set_cons_zero, List.set_cons_succ, i64_w, i32_w]
      rfl
    refine pure_ (i := 10) (N := some 54) (v := ?_) (a' := ?_) #[true, true, true, true, true, true, false, true, false, true, true, false, false, false, false, false, false, false, false, false, false, false, false, false] rfl rfl (by kernel_rfl) (fun _ _ _ h => h) (Or.inl ⟨by rfl, ?_⟩) ?_ ?_
    rotate_left
    · intro w'
      go_simp
      with_reducible rfl
    rotate_left
    · simp only [Act.put, List.setIfInBounds_toArray, List.set_cons_zero, List.set_cons_succ, i64_w, i32_w]
      rfl
    refine pure_ (i := 11) (N := some 55) (v := ?_) (a' := ?_) #[true, true, true, true, true, true, false, true, false, true, true, true, false, false, false, false, false, false, false, false, false, false, false, false] rfl rfl (by kernel_rfl) (fun _ _ _ h => h) (Or.inl ⟨by rfl, ?_⟩) ?_ ?_
    rotate_left
    · intro w'
      go_simp
      with_reducible rfl
    rotate_left
    · simp only [Act.put, List.setIfInBounds_toArray, List.set_cons_zero, List.set_cons_succ, i64_w, i32_w]
      rfl
    refine pure_ (i := 12) (N := some 56) (v := ?_) (a' := ?_) #[true, true, true, true, true, true, false, true, false, true, true, true, true, false, false, false, false, false, false, false, false, false, false, false] rfl rfl (by kernel_rfl) (fun _ _ _ h => h) (Or.inl ⟨by rfl, ?_⟩) ?_ ?_
    rotate_left
    · intro w'
      go_simp
      with_reducible rfl
    rotate_left
    · simp only [Act.put, List.setIfInBounds_toArray, List.set_cons_zero, List.set_cons_succ, i64_w, i32_w]
      rfl
    refine pure_ (i := 14) (N := some 58) (v := ?_) (a' := ?_) #[true, true, true, true, true, true, false, true, false, true, true, true, true, false, true, false, false, false, false, false, false, false, false, false] rfl rfl (by kernel_rfl) (fun _ _ _ h => h) (Or.inl ⟨by rfl, ?_⟩) ?_ ?_
    rotate_left
    · intro w'
      go_simp
      with_reducible rfl
    rotate_left
    · simp only [Act.put, List.setIfInBounds_toArray, List.set_cons_zero, List.set_cons_succ, i64_w, i32_w]
      rfl
    refine take_ (i := 6) (N := some 50) (v := ?_) (a' := ?_) #[true, true, true, true, true, true, true, true, false, true, true, true, true, false, true, false, false, false, false, false, false, false, false, false] rfl rfl (by kernel_rfl) (fun _ _ _ h => h) (Or.inl ⟨by rfl, ?_⟩) hHeld ?_ ?_
    rotate_left
    · rintro w' ⟨s0, s1⟩
      go_simp
      with_reducible rfl
    rotate_left
    · simp only [Act.put, List.setIfInBounds_toArray, List.set_cons_zero, List.set_cons_succ, i64_w, i32_w]
      rfl
    refine pure_ (i := 8) (N := some 52) (v := ?_) (a' := ?_) #[true, true, true, true, true, true, true, true, true, true, true, true, true, false, true, false, false, false, false, false, false, false, false, false] rfl rfl (by kernel_rfl) (fun _ _ _ h => h) (Or.inl ⟨by rfl, ?_⟩) ?_ ?_
    rotate_left
    · intro w'
      go_simp
      with_reducible rfl
    rotate_left
    · simp only [Act.put, List.setIfInBounds_toArray, List.set_cons_zero, List.set_cons_succ, i64_w, i32_w]
      rfl
    refine take_ (i := 13) (N := some 57) (v := ?_) (a' := ?_) #[true, true, true, true, true, true, true, true, true, true, true, true, true, true, true, false, false, false, false, false, false, false, false, false] rfl rfl (by kernel_rfl) (fun _ _ _ h => h) (Or.inl ⟨by rfl, ?_⟩) hHeld ?_ ?_
    rotate_left
    · rintro w' ⟨s0, s1⟩
      go_simp
      with_reducible rfl
    rotate_left
    · simp only [Act.put, List.setIfInBounds_toArray, List.set_cons_zero, List.set_cons_succ, i64_w, i32_w]
      rfl
    refine pure_ (i := 15) (N := some 59) (v := ?_) (a' := ?_) #[true, true, true, true, true, true, true, true, true, true, true, true, true, true, true, true, false, false, false, false, false, false, false, false] rfl rfl (by kernel_rfl) (fun _ _ _ h => h) (Or.inl ⟨by rfl, ?_⟩) ?_ ?_
    rotate_left
    · intro w'
      go_simp
      with_reducible rfl
    rotate_left
    · simp only [Act.put, List.setIfInBounds_toArray, List.set_cons_zero, List.set_cons_succ, i64_w, i32_w]
      rfl
    refine pure_ (i := 16) (N := some 60) (v := ?_) (a' := ?_) #[true, true, true, true, true, true, true, true, true, true, true, true, true, true, true, true, true, false, false, false, false, false, false, false] rfl rfl (by kernel_rfl) (fun _ _ _ h => h) (Or.inl ⟨by rfl, ?_⟩) ?_ ?_
    rotate_left
    · intro w'
      go_simp
      with_reducible rfl
    rotate_left
    · simp only [Act.put, List.setIfInBounds_toArray, List.set_cons_zero, List.set_cons_succ, i64_w, i32_w]
      rfl
    refine pure_ (i := 17) (N := some 61) (v := ?_) (a' := ?_) #[true, true, true, true, true, true, true, true, true, true, true, true, true, true, true, true, true, true, false, false, false, false, false, false] rfl rfl (by kernel_rfl) (fun _ _ _ h => h) (Or.inl ⟨by rfl, ?_⟩) ?_ ?_
    rotate_left
    · intro w'
      go_simp
      with_reducible rfl
    rotate_left
    · simp only [Act.put, List.setIfInBounds_toArray, List.set_cons_zero, List.set_cons_succ, i64_w, i32_w]
      rfl
    refine pure_ (i := 18) (N := some 62) (v := ?_) (a' := ?_) #[true, true, true, true, true, true, true, true, true, true, true, true, true, true, true, true, true, true, true, false, false, false, false, false] rfl rfl (by kernel_rfl) (fun _ _ _ h => h) (Or.inl ⟨by rfl, ?_⟩) ?_ ?_
    rotate_left
    · intro w'
      go_simp
      with_reducible rfl
    rotate_left
    · simp only [Act.put, List.setIfInBounds_toArray, List.set_cons_zero, List.set_cons_succ, i64_w, i32_w]
      rfl
    refine last_ (i := 19) (N := none) #[true, true, true, true, true, true, true, true, true, true, true, true, true, true, true, true, true, true, true, true, false, false, false, false] rfl rfl (by kernel_rfl) (by decide) (fun K hK => ?_)
    refine skip_ (w1 := ?_) (by rfl) rfl ?_ ?_
    rotate_left
    · go_simp
      rfl
    refine hK.out _ _ ?_
    clear hK K
    refine pure_ (i := 20) (N := some 63) (v := ?_) (a' := ?_) #[true, true, true, true, true, true, true, true, true, true, true, true, true, true, true, true, true, true, true, true, true, false, false, false] rfl rfl (by kernel_rfl) (fun _ _ _ h => h) (Or.inl ⟨by rfl, ?_⟩) ?_ ?_
    rotate_left
    · intro w'
      go_simp
      with_reducible rfl
    rotate_left
    · simp only [Act.put, List.setIfInBounds_toArray, List.set_cons_zero, List.set_cons_succ, i64_w, i32_w]
      rfl
    refine pure_ (i := 21) (N := some 64) (v := ?_) (a' := ?_) #[true, true, true, true, true, true, true, true, true, true, true, true, true, true, true, true, true, true, true, true, true, true, false, false] rfl rfl (by kernel_rfl) (fun _ _ _ h => h) (Or.inl ⟨by rfl, ?_⟩) ?_ ?_
    rotate_left
    · intro w'
      go_simp
      with_reducible rfl
    rotate_left
    · simp only [Act.put, List.setIfInBounds_toArray, List.set_cons_zero, List.set_cons_succ, i64_w, i32_w]
      rfl
    refine pure_ (i := 22) (N := some 65) (v := ?_) (a' := ?_) #[true, true, true, true, true, true, true, true, true, true, true, true, true, true, true, true, true, true, true, true, true, true, true, false] rfl rfl (by kernel_rfl) (fun _ _ _ h => h) (Or.inl ⟨by rfl, ?_⟩) ?_ ?_
    rotate_left
    · intro w'
      go_simp
      with_reducible rfl
    rotate_left
    · simp only [Act.put, List.setIfInBounds_toArray, List.set_cons_zero, List.set_cons_succ, i64_w, i32_w]
      rfl
    refine last_ (i := 23) (N := none) #[true, true, true, true, true, true, true, true, true, true, true, true, true, true, true, true, true, true, true, true, true, true, true, true] rfl rfl (by kernel_rfl) (by decide) (fun K hK => ?_)
    refine skip_ (w1 := ?_) (by rfl) rfl ?_ ?_
    rotate_left
    · go_simp
      rfl
    refine hK.out _ _ ?_
    clear hK K
    refine done_ (by kernel_rfl) ?_

    have yW : ∃ Y, Y = ((Z.setCell ⟨g, 2, none⟩ (.int .i64 x)).setCell ⟨g, 3, none⟩ (.int .i64 y)).drew ∧ Y.heap[g]? = some (bxC x y x y true) ∧ Below g w Y :=
      ⟨_, rfl, blk_drew ((blk_set (blk_set bZ 2 _) 3 _).trans rfl), ((kZ.setCell (p := ⟨g, 2, none⟩) (Nat.le_refl _) _).setCell (p := ⟨g, 3, none⟩) (Nat.le_refl _) _).drew⟩
    obtain ⟨Y, hY, bY, kY⟩ := yW
    try unfold mx at hY
    rw [← hY]
    clear hY
    have FN := bY
    go_wp2
    all_goals (refine bodyPost_end (results_none rfl _ _ _) rfl ?_; exact ⟨rfl, kY, FN⟩)
structure Bx where
  x0 : Int
  y0 : Int
  x1 : Int
  y1 : Int
  s : Bool
def bxO (b : Bx) : Obj := bxC b.x0 b.y0 b.x1 b.y1 b.s
/-- The box that holds a point more. -/
def Bx.add (b : Bx) (x y : Int) : Bx := if b.s = true then ⟨mn b.x0 x, mn b.y0 y, mx b.x1 x, mx b.y1 y, true⟩ else ⟨x, y, x, y, true⟩
theorem box_more (w : World) (g : Nat) (b : Bx) (x y : Int) (hb : Aside0 (w.heap[g]? = some (bxO b))) :
    Calls Try.prog 53 #[.pointer (some ⟨g, 0, none⟩), .int .i64 x, .int .i64 y] w fun e w' => e = .returned (.tuple #[]) ∧ Below g w w' ∧ w'.heap[g]? = some (bxO (b.add x y)) := by
  refine (box_add w g b.x0 b.y0 b.x1 b.y1 x y b.s hb).mono ?_
  rintro e w' ⟨he, hk, hh⟩
  refine ⟨he, hk, hh.trans ?_⟩
  unfold Bx.add bxO
  by_cases c : b.s = true
  · rw [if_pos c, if_pos c]
  · rw [if_neg c, if_neg c]
def Bx.none : Bx := ⟨0, 0, 0, 0, false⟩
def Bx.all (b : Bx) (l : List S35) : Bx := l.foldl (fun b p => b.add p.f0 p.f1) b
theorem Bx.all_snoc (b : Bx) (l : List S35) (p : S35) : b.all (l ++ [p]) = (b.all l).add p.f0 p.f1 := by unfold Bx.all; rw [List.foldl_append]; rfl
set_option maxRecDepth 100000 in
theorem held_at31 (w : World) (X : S40) : Calls Try.prog 31 #[.agg #[.int .i64 X.f0, .int .i64 X.f1, .int .i64 X.f2]] w fun e w' => e = .returned (.tuple #[.int .i64 X.f0, .int .i64 X.f1]) ∧ Below w.heap.size w w' := by
  go_enter Try.func31, Try.ntmps31
  go_upto_region 1 with fail
  obtain ⟨W, g, hW, hg, bW, lW⟩ : ∃ W g, W = w.alloc (Obj.cells #[.int .i64 X.f0, .int .i64 X.f1, .int .i64 X.f2] 40) ∧ w.heap.size = g ∧ W.heap[g]? = some (Obj.cells #[.int .i64 X.f0, .int .i64 X.f1, .int .i64 X.f2] 40 (0, 0)) ∧ Below w.heap.size w W := ⟨_, _, rfl, rfl, blk_new _ _, below_alloc (Below.refl _ _) _⟩
  rw [← hW, hg]
  have c0 : W.cell? ⟨g, 0, none⟩ = some (.int .i64 X.f0) := (blk_cell bW 0).trans rfl
  have c1 : W.cell? ⟨g, 1, none⟩ = some (.int .i64 X.f1) := (blk_cell bW 1).trans rfl
  have LW := Aside0.mk lW
  clear hW hg bW lW
  go_quiet (fail)
  go_wp2
  go_ret2
  exact ⟨rfl, pw_below_drewN LW.out _⟩
set_option maxRecDepth 100000 in
set_option maxHeartbeats 8000000 in
theorem held30 (o : List (List S40)) (A : Option Addr) (c : Nat) (w : World) (hr : Kd.C (Kd.slice 40 k40) w A o.length o) (hc : o.length ≤ c) (hm : o.length ≤ 9000000000000000000 ∧ ∀ r ∈ o, r.length ≤ 9000000000000000000) :
    Calls Try.prog 30 #[.slice A o.length c, .func (Fn.func 31) #[] #[]] w fun e w' => e = .returned (.tuple #[.agg #[.int .i64 (Bx.none.all (o.flatten.map sp)).x0, .int .i64 (Bx.none.all (o.flatten.map sp)).y0, .int .i64 (Bx.none.all (o.flatten.map sp)).x1, .int .i64 (Bx.none.all (o.flatten.map sp)).y1], .bool (Bx.none.all (o.flatten.map sp)).s]) ∧ Below w.heap.size w w' := by
  have HR := Aside0.mk hr
  have lm := hm.1
  go_enter Try.func30, Try.ntmps30
  go_upto_region 2 with fail
  obtain ⟨W, gr, gb, hW, hgr, hgb, bR, bB, lW, nb, lr⟩ : ∃ W gr gb, W = (w.alloc (Obj.cells #[.int .i64 0, .int .i64 0, .int .i64 0, .int .i64 0] 45)).alloc (bxO Bx.none) ∧ w.heap.size = gr ∧ w.heap.size + 1 = gb ∧ W.heap[gr]? = some (Obj.cells #[.int .i64 0, .int .i64 0, .int .i64 0, .int .i64 0] 45 (0, 0)) ∧ W.heap[gb]? = some (bxO Bx.none) ∧ Below w.heap.size w W ∧ gr < gb ∧ w.heap.size ≤ gr :=
    ⟨_, _, _, rfl, rfl, rfl, blk_alloc (blk_new w _) _, by rw [← sz_alloc w (Obj.cells #[.int .i64 0, .int .i64 0, .int .i64 0, .int .i64 0] 45)]; exact blk_new _ _, below_alloc (below_alloc (Below.refl _ _) _) _, by omega, Nat.le_refl _⟩
  unfold bxO bxC Bx.none at hW
  rw [← hW, hgb, hgr]
  have BR := Aside0.mk bR
  have BB := Aside0.mk bB
  have LW := Aside0.mk lW
  have NB := Aside0.mk (And.intro nb (And.intro lr (by omega : w.heap.size ≤ gb)))
  clear hW hgr hgb bR bB lW nb lr
  go_wp2
  go_loopw [13] (fun v13 wr => ∃ (i : Nat), v13 = .int .i64 i ∧ i ≤ o.length ∧ Aside0 (wr.heap[gr]? = some (Obj.cells #[.int .i64 0, .int .i64 0, .int .i64 0, .int .i64 0] 45 (0, 0))) ∧ Aside0 (wr.heap[gb]? = some (bxO (Bx.none.all ((o.take i).flatten.map sp)))) ∧ Aside0 (Below w.heap.size w wr)) (fun v13 _ => o.length - (intOf v13).toNat)
  case atStart => exact ⟨0, rfl, Nat.zero_le _, BR, BB, LW⟩
  case round =>
    obtain ⟨i, rfl, hi, HG, HX, HB⟩ := hrel
    by_cases hlt : i < o.length
    · have ilt := eq_true (show (i : Int) < (o.length : Int) by omega)
      have ilt2 := eq_true hlt
      have ip := eq_true (show (0 : Int) ≤ (i : Int) by omega)
      obtain ⟨ad, Ai, ci, ea, x0, hci, hC⟩ := at_L2 HR.out (i : Int) (by omega) (by omega)
      subst ea
      rw [Int.toNat_natCast] at x0
      rw [rdL2 hlt] at x0 hci hC
      replace x0 := pw_cell_below HB.out x0
      have hrow := hm.2 _ (List.getElem_mem hlt)
      have et : (o.take (i + 1)).flatten = (o.take i).flatten ++ o[i] := by
        rw [List.take_add_one, List.flatten_append, List.getElem?_eq_getElem hlt]; simp
      obtain ⟨row, hrw⟩ : ∃ r, r = o[i] := ⟨_, rfl⟩
      rw [← hrw] at x0 hci hC hrow et
      have HC := Aside0.mk hC
      have ET := Aside0.mk et
      have e0 : (o.take i).flatten ++ row.take 0 = (o.take i).flatten := by simp
      have HX0 := HX
      rw [← e0] at HX0
      have lm2 := hrow
      clear hrw hC et e0
      go_wp2
      go_loopw [19] (fun v19 wq => ∃ (j : Nat), v19 = .int .i64 j ∧ j ≤ row.length ∧ Aside0 (wq.heap[gr]? = some (Obj.cells #[.int .i64 0, .int .i64 0, .int .i64 0, .int .i64 0] 45 (0, 0))) ∧ Aside0 (wq.heap[gb]? = some (bxO (Bx.none.all (((o.take i).flatten ++ row.take j).map sp)))) ∧ Aside0 (Below w.heap.size w wq)) (fun v19 _ => row.length - (intOf v19).toNat)
      case atStart => exact ⟨0, rfl, Nat.zero_le _, HG, HX0, HB⟩
      case round =>
        obtain ⟨j, rfl, hj, JG, JX, JB⟩ := hrel
        by_cases jlt : j < row.length
        · have jl := eq_true (show (j : Int) < (row.length : Int) by omega)
          have jl2 := eq_true jlt
          have jp := eq_true (show (0 : Int) ≤ (j : Int) by omega)
          obtain ⟨ad2, ea2, y0, y1, y2⟩ := at_T40 HC.out (j : Int) (by omega) (by omega)
          subst ea2
          rw [Int.toNat_natCast] at y0 y1 y2
          rw [rd40 jlt] at y0 y1 y2
          replace y0 := pw_cell_below JB.out y0
          replace y1 := pw_cell_below JB.out y1
          replace y2 := pw_cell_below JB.out y2
          have ej : ((o.take i).flatten ++ row.take (j + 1)).map sp = ((o.take i).flatten ++ row.take j).map sp ++ [sp row[j]] := by
            rw [List.take_add_one, List.getElem?_eq_getElem jlt, ← List.append_assoc, List.map_append]; rfl
          have EJ := Aside0.mk ej
          obtain ⟨X, hX⟩ : ∃ X, X = row[j] := ⟨_, rfl⟩
          rw [← hX] at y0 y1 y2 EJ
          clear hX ej
          go_upto_region 8 with fail
          obtain ⟨W2, bk, hW2, hbk, b2, l2⟩ : ∃ W2 bk, W2 = wr.alloc (Obj.cells #[.int .i64 X.f0, .int .i64 X.f1, .int .i64 X.f2] 40) ∧ wr.heap.size = bk ∧ W2.heap[bk]? = some (Obj.cells #[.int .i64 X.f0, .int .i64 X.f1, .int .i64 X.f2] 40 (0, 0)) ∧ Below wr.heap.size wr W2 := ⟨_, _, rfl, rfl, blk_new _ _, below_alloc (Below.refl _ _) _⟩
          rw [← hW2, hbk]
          have G2 := Aside0.mk ((l2.block _ (blk_lt JG.out)).trans JG.out)
          have X2 := Aside0.mk ((l2.block _ (blk_lt JX.out)).trans JX.out)
          have B2 := Aside0.mk (below_step JB.out l2)
          have z0 : W2.cell? ⟨bk, 0, none⟩ = some (.int .i64 X.f0) := (blk_cell b2 0).trans rfl
          have z1 : W2.cell? ⟨bk, 1, none⟩ = some (.int .i64 X.f1) := (blk_cell b2 1).trans rfl
          have z2 : W2.cell? ⟨bk, 2, none⟩ = some (.int .i64 X.f2) := (blk_cell b2 2).trans rfl
          clear hW2 hbk b2 l2 y0 y1 y2
          go_wp2_with (first | (go_at_call 31; refine (held_at31 W2 X).mono ?_; rintro e w6 ⟨rfl, hb6⟩; have G6 := Aside0.mk ((hb6.block _ (blk_lt G2.out)).trans G2.out); have X6 := Aside0.mk ((hb6.block _ (blk_lt X2.out)).trans X2.out); have B6 := Aside0.mk (below_step B2.out hb6); clear hb6) | (go_at_call 53; refine (box_more w6 gb _ X.f0 X.f1 X6).mono ?_; rintro e w7 ⟨rfl, k7, b7⟩; have G7 := Aside0.mk ((k7.block _ NB.out.1).trans G6.out); have X7 := Aside0.mk b7; have B7 := Aside0.mk (Below.trans B6.out (k7.mono NB.out.2.2)); clear k7 b7))
          refine ⟨⟨j + 1, by push_cast; rfl, by omega, G7, ⟨?_⟩, B7⟩, ?_⟩
          · rw [EJ.out, Bx.all_snoc]; exact X7.out
          · show (_ : Nat) < _
            simp only [intOf]; omega
        · have jl := eq_false (show ¬ (j : Int) < (row.length : Int) by omega)
          have jl2 := eq_false jlt
          have HE : Aside0 (wr.heap[gb]? = some (bxO (Bx.none.all ((o.take (i + 1)).flatten.map sp)))) := ⟨by rw [ET.out]; have := JX.out; rw [List.take_of_length_le (l := row) (by omega)] at this; exact this⟩
          go_wp2
          refine ⟨⟨i + 1, by push_cast; rfl, by omega, JG, HE, JB⟩, ?_⟩
          show (_ : Nat) < _
          simp only [intOf]; omega
    · have iln := eq_false (show ¬ (i : Int) < (o.length : Int) by omega)
      have iln2 := eq_false hlt
      have HE : Aside0 (wr.heap[gb]? = some (bxO (Bx.none.all (o.flatten.map sp)))) := ⟨by have := HX.out; rw [List.take_of_length_le (by omega)] at this; exact this⟩
      obtain ⟨b, hb⟩ : ∃ b, b = Bx.none.all (o.flatten.map sp) := ⟨_, rfl⟩
      rw [← hb] at HE
      have EB := Aside0.mk hb.symm
      clear hb
      clear HX
      go_upto_region 11 with fail
      have q0 : wr.drew.heap[gb]? = some (bxO b) := blk_drew HE.out
      unfold bxO bxC at q0
      have d0 : wr.drew.cell? ⟨gb, 0, none⟩ = some (.int .i64 b.x0) := (blk_cell q0 0).trans rfl
      have d1 : wr.drew.cell? ⟨gb, 1, none⟩ = some (.int .i64 b.y0) := (blk_cell q0 1).trans rfl
      have d2 : wr.drew.cell? ⟨gb, 2, none⟩ = some (.int .i64 b.x1) := (blk_cell q0 2).trans rfl
      have d3 : wr.drew.cell? ⟨gb, 3, none⟩ = some (.int .i64 b.y1) := (blk_cell q0 3).trans rfl
      have d4 : wr.drew.cell? ⟨gb, 4, none⟩ = some (.bool b.s) := (blk_cell q0 4).trans rfl
      have r0 : wr.cell? ⟨gr, 0, none⟩ = some (.int .i64 0) := (blk_cell HG.out 0).trans rfl
      have r1 : wr.cell? ⟨gr, 1, none⟩ = some (.int .i64 0) := (blk_cell HG.out 1).trans rfl
      have r2 : wr.cell? ⟨gr, 2, none⟩ = some (.int .i64 0) := (blk_cell HG.out 2).trans rfl
      have r3 : wr.cell? ⟨gr, 3, none⟩ = some (.int .i64 0) := (blk_cell HG.out 3).trans rfl
      have f0 := blk_frozen HG.out 0
      have f1 := blk_frozen HG.out 1
      have f2 := blk_frozen HG.out 2
      have f3 := blk_frozen HG.out 3
      clear q0
      have nbg : gb ≠ gr := by have := NB.out.1; omega
      refine start_ (n := 6) (S := fun w' => w'.cell? ⟨gb, 0, none⟩ = some (.int .i64 b.x0) ∧ w'.cell? ⟨gb, 1, none⟩ = some (.int .i64 b.y0) ∧ w'.cell? ⟨gb, 2, none⟩ = some (.int .i64 b.x1) ∧ w'.cell? ⟨gb, 3, none⟩ = some (.int .i64 b.y1) ∧ w'.cell? ⟨gb, 4, none⟩ = some (.bool b.s)) (ds := []) #[false, false, false, false, false, false] (by kernel_rfl) rfl rfl ⟨d0, d1, d2, d3, d4⟩ (fun hHeld => ?_)
      refine pure_ (i := 0) (N := some 31) (v := ?_) (a' := ?_) #[true, false, false, false, false, false] rfl rfl (by kernel_rfl) (fun _ _ _ h => h) (Or.inl ⟨by rfl, ?_⟩) ?_ ?_
      rotate_left
      · intro w'
        go_simp
        with_reducible rfl
      rotate_left
      · simp only [Act.put, List.setIfInBounds_toArray, List.set_cons_zero, List.set_cons_succ, i64_w, i32_w]
        rfl
      refine pure_ (i := 2) (N := some 33) (v := ?_) (a' := ?_) #[true, false, true, false, false, false] rfl rfl (by kernel_rfl) (fun _ _ _ h => h) (Or.inl ⟨by rfl, ?_⟩) ?_ ?_
      rotate_left
      · intro w'
        go_simp
        with_reducible rfl
      rotate_left
      · simp only [Act.put, List.setIfInBounds_toArray, List.set_cons_zero, List.set_cons_succ, i64_w, i32_w]
        rfl
      refine take_ (i := 1) (N := some 32) (v := ?_) (a' := ?_) #[true, true, true, false, false, false] rfl rfl (by kernel_rfl) (fun _ _ _ h => h) (Or.inl ⟨by rfl, ?_⟩) hHeld ?_ ?_
      rotate_left
      · rintro w' ⟨s0, s1, s2, s3, s4⟩
        go_simp
        with_reducible rfl
      rotate_left
      · simp only [Act.put, List.setIfInBounds_toArray, List.set_cons_zero, List.set_cons_succ, i64_w, i32_w]
        rfl
      refine take_ (i := 3) (N := some 34) (v := ?_) (a' := ?_) #[true, true, true, true, false, false] rfl rfl (by kernel_rfl) (fun _ _ _ h => h) (Or.inl ⟨by rfl, ?_⟩) hHeld ?_ ?_
      rotate_left
      · rintro w' ⟨s0, s1, s2, s3, s4⟩
        go_simp
        with_reducible rfl
      rotate_left
      · simp only [Act.put, List.setIfInBounds_toArray, List.set_cons_zero, List.set_cons_succ, i64_w, i32_w]
        rfl
      refine one_ (i := 4) (N := none) #[true, true, true, true, true, false] rfl rfl (by kernel_rfl) (by decide) (fun K hK => ?_)
      refine skip_ (w1 := ?_) (by rfl) rfl ?_ ?_
      rotate_left
      · go_simp
        rfl
      have bF : (((((wr.setCell ⟨gr, 0, none⟩ (.int .i64 b.x0)).setCell ⟨gr, 1, none⟩ (.int .i64 b.y0)).setCell ⟨gr, 2, none⟩ (.int .i64 b.x1)).setCell ⟨gr, 3, none⟩ (.int .i64 b.y1)).drew).heap[gb]? = some (.cells #[.int .i64 b.x0, .int .i64 b.y0, .int .i64 b.x1, .int .i64 b.y1, .bool b.s] 96 (0, 0)) := blk_drew (blk_far (blk_far (blk_far (blk_far HE.out nbg _) nbg _) nbg _) nbg _)
      refine hK.out _ _ ⟨(blk_cell bF 0).trans rfl, (blk_cell bF 1).trans rfl, (blk_cell bF 2).trans rfl, (blk_cell bF 3).trans rfl, (blk_cell bF 4).trans rfl⟩ (fun hHeld => ?_)
      clear hK K
      refine pure_ (i := 5) (N := some 5) (v := ?_) (a' := ?_) #[true, true, true, true, true, true] rfl rfl (by kernel_rfl) (fun _ _ _ h => h) (Or.inl ⟨by rfl, ?_⟩) ?_ ?_
      rotate_left
      · intro w'
        go_simp
        with_reducible rfl
      rotate_left
      · simp only [Act.put, List.setIfInBounds_toArray, List.set_cons_zero, List.set_cons_succ, i64_w, i32_w]
        rfl
      refine done_ (by kernel_rfl) ?_


      obtain ⟨Y, hY, hg, hBY⟩ : ∃ Y, Y = ((((wr.setCell ⟨gr, 0, none⟩ (.int .i64 b.x0)).setCell ⟨gr, 1, none⟩ (.int .i64 b.y0)).setCell ⟨gr, 2, none⟩ (.int .i64 b.x1)).setCell ⟨gr, 3, none⟩ (.int .i64 b.y1)).drew ∧ Y.heap[gr]? = some (.cells #[.int .i64 b.x0, .int .i64 b.y0, .int .i64 b.x1, .int .i64 b.y1] 45 (0, 0)) ∧ Below w.heap.size w Y :=
        ⟨_, rfl, blk_drew ((blk_set (blk_set (blk_set (blk_set HG.out 0 _) 1 _) 2 _) 3 _).trans rfl), below_drew (below_set (below_set (below_set (below_set HB.out NB.out.2.1) NB.out.2.1) NB.out.2.1) NB.out.2.1)⟩
      rw [← hY]
      have y0 : Y.cell? ⟨gr, 0, none⟩ = some (.int .i64 b.x0) := (blk_cell hg 0).trans rfl
      have y1 : Y.cell? ⟨gr, 1, none⟩ = some (.int .i64 b.y0) := (blk_cell hg 1).trans rfl
      have y2 : Y.cell? ⟨gr, 2, none⟩ = some (.int .i64 b.x1) := (blk_cell hg 2).trans rfl
      have y3 : Y.cell? ⟨gr, 3, none⟩ = some (.int .i64 b.y1) := (blk_cell hg 3).trans rfl
      have BY := Aside0.mk hBY
      have GY := Aside0.mk hg
      clear hY hg hBY d0 d1 d2 d3 d4 r0 r1 r2 r3 f0 f1 f2 f3
      go_wp2
      refine bodyPost_ret (results_ct rfl _ _ gr 45 #[.int .i64 b.x0, .int .i64 b.y0, .int .i64 b.x1, .int .i64 b.y1] (0, 0) _ rfl GY.out Try.underlying45 rfl (by kernel_rfl)) rfl ?_
      rw [EB.out]
      exact ⟨rfl, BY.out⟩
set_option maxRecDepth 100000 in
theorem held_at33 (w : World) (X : S35) : Calls Try.prog 33 #[.agg #[.int .i64 X.f0, .int .i64 X.f1]] w fun e w' => e = .returned (.tuple #[.int .i64 X.f0, .int .i64 X.f1]) ∧ Below w.heap.size w w' := by
  go_enter Try.func33, Try.ntmps33
  go_upto_region 1 with fail
  obtain ⟨W, g, hW, hg, bW, lW⟩ : ∃ W g, W = w.alloc (Obj.cells #[.int .i64 X.f0, .int .i64 X.f1] 35) ∧ w.heap.size = g ∧ W.heap[g]? = some (Obj.cells #[.int .i64 X.f0, .int .i64 X.f1] 35 (0, 0)) ∧ Below w.heap.size w W := ⟨_, _, rfl, rfl, blk_new _ _, below_alloc (Below.refl _ _) _⟩
  rw [← hW, hg]
  have c0 : W.cell? ⟨g, 0, none⟩ = some (.int .i64 X.f0) := (blk_cell bW 0).trans rfl
  have c1 : W.cell? ⟨g, 1, none⟩ = some (.int .i64 X.f1) := (blk_cell bW 1).trans rfl
  have LW := Aside0.mk lW
  clear hW hg bW lW
  go_quiet (fail)
  go_wp2
  go_ret2
  exact ⟨rfl, pw_below_drewN LW.out _⟩
set_option maxRecDepth 100000 in
set_option maxHeartbeats 8000000 in
theorem held32 (o : List (List S35)) (A : Option Addr) (c : Nat) (w : World) (hr : Kd.C (Kd.slice 35 k35) w A o.length o) (hc : o.length ≤ c) (hm : o.length ≤ 9000000000000000000 ∧ ∀ r ∈ o, r.length ≤ 9000000000000000000) :
    Calls Try.prog 32 #[.slice A o.length c, .func (Fn.func 33) #[] #[]] w fun e w' => e = .returned (.tuple #[.agg #[.int .i64 (Bx.none.all (o.flatten.map id)).x0, .int .i64 (Bx.none.all (o.flatten.map id)).y0, .int .i64 (Bx.none.all (o.flatten.map id)).x1, .int .i64 (Bx.none.all (o.flatten.map id)).y1], .bool (Bx.none.all (o.flatten.map id)).s]) ∧ Below w.heap.size w w' := by
  have HR := Aside0.mk hr
  have lm := hm.1
  go_enter Try.func32, Try.ntmps32
  go_upto_region 2 with fail
  obtain ⟨W, gr, gb, hW, hgr, hgb, bR, bB, lW, nb, lr⟩ : ∃ W gr gb, W = (w.alloc (Obj.cells #[.int .i64 0, .int .i64 0, .int .i64 0, .int .i64 0] 45)).alloc (bxO Bx.none) ∧ w.heap.size = gr ∧ w.heap.size + 1 = gb ∧ W.heap[gr]? = some (Obj.cells #[.int .i64 0, .int .i64 0, .int .i64 0, .int .i64 0] 45 (0, 0)) ∧ W.heap[gb]? = some (bxO Bx.none) ∧ Below w.heap.size w W ∧ gr < gb ∧ w.heap.size ≤ gr :=
    ⟨_, _, _, rfl, rfl, rfl, blk_alloc (blk_new w _) _, by rw [← sz_alloc w (Obj.cells #[.int .i64 0, .int .i64 0, .int .i64 0, .int .i64 0] 45)]; exact blk_new _ _, below_alloc (below_alloc (Below.refl _ _) _) _, by omega, Nat.le_refl _⟩
  unfold bxO bxC Bx.none at hW
  rw [← hW, hgb, hgr]
  have BR := Aside0.mk bR
  have BB := Aside0.mk bB
  have LW := Aside0.mk lW
  have NB := Aside0.mk (And.intro nb (And.intro lr (by omega : w.heap.size ≤ gb)))
  clear hW hgr hgb bR bB lW nb lr
  go_wp2
  go_loopw [13] (fun v13 wr => ∃ (i : Nat), v13 = .int .i64 i ∧ i ≤ o.length ∧ Aside0 (wr.heap[gr]? = some (Obj.cells #[.int .i64 0, .int .i64 0, .int .i64 0, .int .i64 0] 45 (0, 0))) ∧ Aside0 (wr.heap[gb]? = some (bxO (Bx.none.all ((o.take i).flatten.map id)))) ∧ Aside0 (Below w.heap.size w wr)) (fun v13 _ => o.length - (intOf v13).toNat)
  case atStart => exact ⟨0, rfl, Nat.zero_le _, BR, BB, LW⟩
  case round =>
    obtain ⟨i, rfl, hi, HG, HX, HB⟩ := hrel
    by_cases hlt : i < o.length
    · have ilt := eq_true (show (i : Int) < (o.length : Int) by omega)
      have ilt2 := eq_true hlt
      have ip := eq_true (show (0 : Int) ≤ (i : Int) by omega)
      obtain ⟨ad, Ai, ci, ea, x0, hci, hC⟩ := at_L4 HR.out (i : Int) (by omega) (by omega)
      subst ea
      rw [Int.toNat_natCast] at x0
      rw [rdL4 hlt] at x0 hci hC
      replace x0 := pw_cell_below HB.out x0
      have hrow := hm.2 _ (List.getElem_mem hlt)
      have et : (o.take (i + 1)).flatten = (o.take i).flatten ++ o[i] := by
        rw [List.take_add_one, List.flatten_append, List.getElem?_eq_getElem hlt]; simp
      obtain ⟨row, hrw⟩ : ∃ r, r = o[i] := ⟨_, rfl⟩
      rw [← hrw] at x0 hci hC hrow et
      have HC := Aside0.mk hC
      have ET := Aside0.mk et
      have e0 : (o.take i).flatten ++ row.take 0 = (o.take i).flatten := by simp
      have HX0 := HX
      rw [← e0] at HX0
      have lm2 := hrow
      clear hrw hC et e0
      go_wp2
      go_loopw [19] (fun v19 wq => ∃ (j : Nat), v19 = .int .i64 j ∧ j ≤ row.length ∧ Aside0 (wq.heap[gr]? = some (Obj.cells #[.int .i64 0, .int .i64 0, .int .i64 0, .int .i64 0] 45 (0, 0))) ∧ Aside0 (wq.heap[gb]? = some (bxO (Bx.none.all (((o.take i).flatten ++ row.take j).map id)))) ∧ Aside0 (Below w.heap.size w wq)) (fun v19 _ => row.length - (intOf v19).toNat)
      case atStart => exact ⟨0, rfl, Nat.zero_le _, HG, HX0, HB⟩
      case round =>
        obtain ⟨j, rfl, hj, JG, JX, JB⟩ := hrel
        by_cases jlt : j < row.length
        · have jl := eq_true (show (j : Int) < (row.length : Int) by omega)
          have jl2 := eq_true jlt
          have jp := eq_true (show (0 : Int) ≤ (j : Int) by omega)
          obtain ⟨ad2, ea2, y0, y1⟩ := at_T35 HC.out (j : Int) (by omega) (by omega)
          subst ea2
          rw [Int.toNat_natCast] at y0 y1
          rw [rd35 jlt] at y0 y1
          replace y0 := pw_cell_below JB.out y0
          replace y1 := pw_cell_below JB.out y1
          have ej : ((o.take i).flatten ++ row.take (j + 1)).map id = ((o.take i).flatten ++ row.take j).map id ++ [id row[j]] := by
            rw [List.take_add_one, List.getElem?_eq_getElem jlt, ← List.append_assoc, List.map_append]; rfl
          have EJ := Aside0.mk ej
          obtain ⟨X, hX⟩ : ∃ X, X = row[j] := ⟨_, rfl⟩
          rw [← hX] at y0 y1 EJ
          clear hX ej
          go_upto_region 8 with fail
          obtain ⟨W2, bk, hW2, hbk, b2, l2⟩ : ∃ W2 bk, W2 = wr.alloc (Obj.cells #[.int .i64 X.f0, .int .i64 X.f1] 35) ∧ wr.heap.size = bk ∧ W2.heap[bk]? = some (Obj.cells #[.int .i64 X.f0, .int .i64 X.f1] 35 (0, 0)) ∧ Below wr.heap.size wr W2 := ⟨_, _, rfl, rfl, blk_new _ _, below_alloc (Below.refl _ _) _⟩
          rw [← hW2, hbk]
          have G2 := Aside0.mk ((l2.block _ (blk_lt JG.out)).trans JG.out)
          have X2 := Aside0.mk ((l2.block _ (blk_lt JX.out)).trans JX.out)
          have B2 := Aside0.mk (below_step JB.out l2)
          have z0 : W2.cell? ⟨bk, 0, none⟩ = some (.int .i64 X.f0) := (blk_cell b2 0).trans rfl
          have z1 : W2.cell? ⟨bk, 1, none⟩ = some (.int .i64 X.f1) := (blk_cell b2 1).trans rfl
          clear hW2 hbk b2 l2 y0 y1
          go_wp2_with (first | (go_at_call 33; refine (held_at33 W2 X).mono ?_; rintro e w6 ⟨rfl, hb6⟩; have G6 := Aside0.mk ((hb6.block _ (blk_lt G2.out)).trans G2.out); have X6 := Aside0.mk ((hb6.block _ (blk_lt X2.out)).trans X2.out); have B6 := Aside0.mk (below_step B2.out hb6); clear hb6) | (go_at_call 53; refine (box_more w6 gb _ X.f0 X.f1 X6).mono ?_; rintro e w7 ⟨rfl, k7, b7⟩; have G7 := Aside0.mk ((k7.block _ NB.out.1).trans G6.out); have X7 := Aside0.mk b7; have B7 := Aside0.mk (Below.trans B6.out (k7.mono NB.out.2.2)); clear k7 b7))
          refine ⟨⟨j + 1, by push_cast; rfl, by omega, G7, ⟨?_⟩, B7⟩, ?_⟩
          · rw [EJ.out, Bx.all_snoc]; exact X7.out
          · show (_ : Nat) < _
            simp only [intOf]; omega
        · have jl := eq_false (show ¬ (j : Int) < (row.length : Int) by omega)
          have jl2 := eq_false jlt
          have HE : Aside0 (wr.heap[gb]? = some (bxO (Bx.none.all ((o.take (i + 1)).flatten.map id)))) := ⟨by rw [ET.out]; have := JX.out; rw [List.take_of_length_le (l := row) (by omega)] at this; exact this⟩
          go_wp2
          refine ⟨⟨i + 1, by push_cast; rfl, by omega, JG, HE, JB⟩, ?_⟩
          show (_ : Nat) < _
          simp only [intOf]; omega
    · have iln := eq_false (show ¬ (i : Int) < (o.length : Int) by omega)
      have iln2 := eq_false hlt
      have HE : Aside0 (wr.heap[gb]? = some (bxO (Bx.none.all (o.flatten.map id)))) := ⟨by have := HX.out; rw [List.take_of_length_le (by omega)] at this; exact this⟩
      obtain ⟨b, hb⟩ : ∃ b, b = Bx.none.all (o.flatten.map id) := ⟨_, rfl⟩
      rw [← hb] at HE
      have EB := Aside0.mk hb.symm
      clear hb
      clear HX
      go_upto_region 11 with fail
      have q0 : wr.drew.heap[gb]? = some (bxO b) := blk_drew HE.out
      unfold bxO bxC at q0
      have d0 : wr.drew.cell? ⟨gb, 0, none⟩ = some (.int .i64 b.x0) := (blk_cell q0 0).trans rfl
      have d1 : wr.drew.cell? ⟨gb, 1, none⟩ = some (.int .i64 b.y0) := (blk_cell q0 1).trans rfl
      have d2 : wr.drew.cell? ⟨gb, 2, none⟩ = some (.int .i64 b.x1) := (blk_cell q0 2).trans rfl
      have d3 : wr.drew.cell? ⟨gb, 3, none⟩ = some (.int .i64 b.y1) := (blk_cell q0 3).trans rfl
      have d4 : wr.drew.cell? ⟨gb, 4, none⟩ = some (.bool b.s) := (blk_cell q0 4).trans rfl
      have r0 : wr.cell? ⟨gr, 0, none⟩ = some (.int .i64 0) := (blk_cell HG.out 0).trans rfl
      have r1 : wr.cell? ⟨gr, 1, none⟩ = some (.int .i64 0) := (blk_cell HG.out 1).trans rfl
      have r2 : wr.cell? ⟨gr, 2, none⟩ = some (.int .i64 0) := (blk_cell HG.out 2).trans rfl
      have r3 : wr.cell? ⟨gr, 3, none⟩ = some (.int .i64 0) := (blk_cell HG.out 3).trans rfl
      have f0 := blk_frozen HG.out 0
      have f1 := blk_frozen HG.out 1
      have f2 := blk_frozen HG.out 2
      have f3 := blk_frozen HG.out 3
      clear q0
      have nbg : gb ≠ gr := by have := NB.out.1; omega
      refine start_ (n := 6) (S := fun w' => w'.cell? ⟨gb, 0, none⟩ = some (.int .i64 b.x0) ∧ w'.cell? ⟨gb, 1, none⟩ = some (.int .i64 b.y0) ∧ w'.cell? ⟨gb, 2, none⟩ = some (.int .i64 b.x1) ∧ w'.cell? ⟨gb, 3, none⟩ = some (.int .i64 b.y1) ∧ w'.cell? ⟨gb, 4, none⟩ = some (.bool b.s)) (ds := []) #[false, false, false, false, false, false] (by kernel_rfl) rfl rfl ⟨d0, d1, d2, d3, d4⟩ (fun hHeld => ?_)
      refine pure_ (i := 0) (N := some 31) (v := ?_) (a' := ?_) #[true, false, false, false, false, false] rfl rfl (by kernel_rfl) (fun _ _ _ h => h) (Or.inl ⟨by rfl, ?_⟩) ?_ ?_
      rotate_left
      · intro w'
        go_simp
        with_reducible rfl
      rotate_left
      · simp only [Act.put, List.setIfInBounds_toArray, List.set_cons_zero, List.set_cons_succ, i64_w, i32_w]
        rfl
      refine pure_ (i := 2) (N := some 33) (v := ?_) (a' := ?_) #[true, false, true, false, false, false] rfl rfl (by kernel_rfl) (fun _ _ _ h => h) (Or.inl ⟨by rfl, ?_⟩) ?_ ?_
      rotate_left
      · intro w'
        go_simp
        with_reducible rfl
      rotate_left
      · simp only [Act.put, List.setIfInBounds_toArray, List.set_cons_zero, List.set_cons_succ, i64_w, i32_w]
        rfl
      refine take_ (i := 1) (N := some 32) (v := ?_) (a' := ?_) #[true, true, true, false, false, false] rfl rfl (by kernel_rfl) (fun _ _ _ h => h) (Or.inl ⟨by rfl, ?_⟩) hHeld ?_ ?_
      rotate_left
      · rintro w' ⟨s0, s1, s2, s3, s4⟩
        go_simp
        with_reducible rfl
      rotate_left
      · simp only [Act.put, List.setIfInBounds_toArray, List.set_cons_zero, List.set_cons_succ, i64_w, i32_w]
        rfl
      refine take_ (i := 3) (N := some 34) (v := ?_) (a' := ?_) #[true, true, true, true, false, false] rfl rfl (by kernel_rfl) (fun _ _ _ h => h) (Or.inl ⟨by rfl, ?_⟩) hHeld ?_ ?_
      rotate_left
      · rintro w' ⟨s0, s1, s2, s3, s4⟩
        go_simp
        with_reducible rfl
      rotate_left
      · simp only [Act.put, List.setIfInBounds_toArray, List.set_cons_zero, List.set_cons_succ, i64_w, i32_w]
        rfl
      refine one_ (i := 4) (N := none) #[true, true, true, true, true, false] rfl rfl (by kernel_rfl) (by decide) (fun K hK => ?_)
      refine skip_ (w1 := ?_) (by rfl) rfl ?_ ?_
      rotate_left
      · go_simp
        rfl
      have bF : (((((wr.setCell ⟨gr, 0, none⟩ (.int .i64 b.x0)).setCell ⟨gr, 1, none⟩ (.int .i64 b.y0)).setCell ⟨gr, 2, none⟩ (.int .i64 b.x1)).setCell ⟨gr, 3, none⟩ (.int .i64 b.y1)).drew).heap[gb]? = some (.cells #[.int .i64 b.x0, .int .i64 b.y0, .int .i64 b.x1, .int .i64 b.y1, .bool b.s] 96 (0, 0)) := blk_drew (blk_far (blk_far (blk_far (blk_far HE.out nbg _) nbg _) nbg _) nbg _)
      refine hK.out _ _ ⟨(blk_cell bF 0).trans rfl, (blk_cell bF 1).trans rfl, (blk_cell bF 2).trans rfl, (blk_cell bF 3).trans rfl, (blk_cell bF 4).trans rfl⟩ (fun hHeld => ?_)
      clear hK K
      refine pure_ (i := 5) (N := some 5) (v := ?_) (a' := ?_) #[true, true, true, true, true, true] rfl rfl (by kernel_rfl) (fun _ _ _ h => h) (Or.inl ⟨by rfl, ?_⟩) ?_ ?_
      rotate_left
      · intro w'
        go_simp
        with_reducible rfl
      rotate_left
      · simp only [Act.put, List.setIfInBounds_toArray, List.set_cons_zero, List.set_cons_succ, i64_w, i32_w]
        rfl
      refine done_ (by kernel_rfl) ?_


      obtain ⟨Y, hY, hg, hBY⟩ : ∃ Y, Y = ((((wr.setCell ⟨gr, 0, none⟩ (.int .i64 b.x0)).setCell ⟨gr, 1, none⟩ (.int .i64 b.y0)).setCell ⟨gr, 2, none⟩ (.int .i64 b.x1)).setCell ⟨gr, 3, none⟩ (.int .i64 b.y1)).drew ∧ Y.heap[gr]? = some (.cells #[.int .i64 b.x0, .int .i64 b.y0, .int .i64 b.x1, .int .i64 b.y1] 45 (0, 0)) ∧ Below w.heap.size w Y :=
        ⟨_, rfl, blk_drew ((blk_set (blk_set (blk_set (blk_set HG.out 0 _) 1 _) 2 _) 3 _).trans rfl), below_drew (below_set (below_set (below_set (below_set HB.out NB.out.2.1) NB.out.2.1) NB.out.2.1) NB.out.2.1)⟩
      rw [← hY]
      have y0 : Y.cell? ⟨gr, 0, none⟩ = some (.int .i64 b.x0) := (blk_cell hg 0).trans rfl
      have y1 : Y.cell? ⟨gr, 1, none⟩ = some (.int .i64 b.y0) := (blk_cell hg 1).trans rfl
      have y2 : Y.cell? ⟨gr, 2, none⟩ = some (.int .i64 b.x1) := (blk_cell hg 2).trans rfl
      have y3 : Y.cell? ⟨gr, 3, none⟩ = some (.int .i64 b.y1) := (blk_cell hg 3).trans rfl
      have BY := Aside0.mk hBY
      have GY := Aside0.mk hg
      clear hY hg hBY d0 d1 d2 d3 d4 r0 r1 r2 r3 f0 f1 f2 f3
      go_wp2
      refine bodyPost_ret (results_ct rfl _ _ gr 45 #[.int .i64 b.x0, .int .i64 b.y0, .int .i64 b.x1, .int .i64 b.y1] (0, 0) _ rfl GY.out Try.underlying45 rfl (by kernel_rfl)) rfl ?_
      rw [EB.out]
      exact ⟨rfl, BY.out⟩
end Go.Proofs.Ytmlkpadlafjfeaa.P
