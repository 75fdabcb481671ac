-- written by a program of this session (wip/xprint.py) over the kit's print
import Derived.Test.YtmlkpadlafjfeaaPathHeldP
import Derived.Test.YtmlkpadlafjfeaaPx0
namespace Go.Proofs.Ytmlkpadlafjfeaa.P
open Go.RowKit Go.Proofs.YtmlkpadlafjfeaaW.PrintWords Go.Proofs.YtmlkpadlafjfeaaW.PrintLast Go.Proofs.YtmlkpadlafjfeaaW.PrintMore
attribute [local go_sem] max2_int min2_int max_two min_two max_three min_three max_four min_four   -- for this text's walks alone
set_option linter.unusedVariables false
set_option linter.unusedSimpArgs false

/-! ### path_Hull: function 20 -/
def path_Hull.f (k : Nat) (l0 : List (List (S40))) : Option (Int × Int × Int × Int × Bool) := if l0.length ≤ 9000000000000000000 ∧ (∀ r ∈ l0, r.length ≤ 9000000000000000000) then some ((Bx.none.all (l0.flatten.map sp)).x0, (Bx.none.all (l0.flatten.map sp)).y0, (Bx.none.all (l0.flatten.map sp)).x1, (Bx.none.all (l0.flatten.map sp)).y1, (Bx.none.all (l0.flatten.map sp)).s) else none
theorem path_Hull.mono : ∀ a0 k, LeO (path_Hull.f k a0) (path_Hull.f (k + 1) a0) := fun a0 k r h => h
set_option maxRecDepth 100000 in
set_option maxHeartbeats 4000000 in
theorem path_Hull.calls (k : Nat) (A0 : Option Addr) (c0 : Nat) (l0 : List (List (S40))) (r1 : Int) (r2 : Int) (r3 : Int) (r4 : Int) (r5 : Bool) (w : World) (hr0 : Kd.C (Kd.slice 40 k40) w A0 l0.length l0) (hc0 : l0.length ≤ c0) (h : path_Hull.f k l0 = some (r1, r2, r3, r4, r5)) :
 Calls Try.prog 20 #[.slice A0 l0.length c0] w fun e w' => e = .returned (.tuple #[.agg #[.int .i64 r1, .int .i64 r2, .int .i64 r3, .int .i64 r4], .bool r5]) ∧ Below w.heap.size w w' := by
 unfold path_Hull.f at h
 by_cases hm : l0.length ≤ 9000000000000000000 ∧ (∀ r ∈ l0, r.length ≤ 9000000000000000000)
 case neg => rw [if_neg hm] at h; cases h
 rw [if_pos hm] at h
 injection h with h; injection h with e1 h; injection h with e2 h; injection h with e3 h; injection h with e4 e5
 have hb := held30 l0 A0 c0
 rw [e1, e2, e3, e4, e5] at hb
 have HR := Aside0.mk hr0
 clear e1 e2 e3 e4 e5 hr0
 go_enter Try.func20, Try.ntmps20
 go_upto_region 1 with fail
 obtain ⟨W, gr, hW, hgr, bR, lW, lr⟩ : ∃ W gr, W = w.alloc (Obj.cells #[.int .i64 0, .int .i64 0, .int .i64 0, .int .i64 0] 45) ∧ w.heap.size = gr ∧ W.heap[gr]? = some (Obj.cells #[.int .i64 0, .int .i64 0, .int .i64 0, .int .i64 0] 45 (0, 0)) ∧ Below w.heap.size w W ∧ w.heap.size ≤ gr := ⟨_, _, rfl, rfl, blk_new _ _, below_alloc (Below.refl _ _) _, Nat.le_refl _⟩
 rw [← hW, hgr]
 have BR := Aside0.mk bR
 have LW := Aside0.mk lW
 have LR := Aside0.mk lr
 have CW := Aside0.mk (Kd.C_below HR.out lW)
 have HB := Aside0.mk (hb W CW.out hc0 hm)
 clear hW hgr bR lW lr hb
 go_upto_region 2 with (go_at_call 30; refine HB.out.mono ?_; rintro e w6 ⟨rfl, hb6⟩; have G6 := Aside0.mk ((hb6.block _ (blk_lt BR.out)).trans BR.out); have B6 := Aside0.mk (below_step LW.out hb6); have x0 : w6.cell? ⟨gr, 0, none⟩ = some (.int .i64 0) := (blk_cell G6.out 0).trans rfl; have x1 : w6.cell? ⟨gr, 1, none⟩ = some (.int .i64 0) := (blk_cell G6.out 1).trans rfl; have x2 : w6.cell? ⟨gr, 2, none⟩ = some (.int .i64 0) := (blk_cell G6.out 2).trans rfl; have x3 : w6.cell? ⟨gr, 3, none⟩ = some (.int .i64 0) := (blk_cell G6.out 3).trans rfl; have f0 := blk_frozen G6.out 0; have f1 := blk_frozen G6.out 1; have f2 := blk_frozen G6.out 2; have f3 := blk_frozen G6.out 3; clear hb6)
 refine bodyPost_ret (results_ct rfl _ _ gr 45 #[.int .i64 r1, .int .i64 r2, .int .i64 r3, .int .i64 r4] (0, 0) _ rfl ((blk_set (blk_set (blk_set (blk_set G6.out 0 _) 1 _) 2 _) 3 _).trans rfl) Try.underlying45 rfl (by kernel_rfl)) rfl ?_
 exact ⟨rfl, below_set (below_set (below_set (below_set B6.out LR.out) LR.out) LR.out) LR.out⟩


end Go.Proofs.Ytmlkpadlafjfeaa.P
