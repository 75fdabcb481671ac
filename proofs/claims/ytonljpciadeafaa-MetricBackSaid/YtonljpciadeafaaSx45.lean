-- written by a program of this session (wip/xprint.py) over the kit's print
import Derived.Test.YtonljpciadeafaaSx0
import Derived.Test.YtonljpciadeafaaSx43
import Derived.Test.YtonljpciadeafaaSx44
namespace Go.Proofs.Ytonljpciadeafaa.S
open Go.RowKit Go.Proofs.YtonljpciadeafaaW.PrintWords Go.Proofs.YtonljpciadeafaaW.PrintLast Go.Proofs.YtonljpciadeafaaW.PrintMore
attribute [local go_sem] max2_int min2_int max_two min_two max_three min_three max_four min_four   -- for this text's walks alone
set_option linter.unusedVariables false
set_option linter.unusedSimpArgs false

/-! ### fixed_times: function 68 -/
def fixed_times.f (a0 : Int) (a1 : Int) : Option (Int × Int × Bool) := (fixed_size.f a0).bind fun t287 => ((fixed_size.f a1).bind fun t288 => ((bits_Mul64.f t287 t288).bind fun bt289 => (some (bt289.1, bt289.2, ((decide (a0 < 0)) != (decide (a1 < 0)))))))
set_option maxHeartbeats 8000000 in
set_option maxRecDepth 100000 in
theorem fixed_times.calls (a0 : Int) (a1 : Int) (r1 : Int) (r2 : Int) (r3 : Bool) (w : World) (h : fixed_times.f a0 a1 = some (r1, r2, r3)) :
  Calls Try.prog 68 #[.int .i64 a0, .int .i64 a1] w fun e w' => e = .returned (.agg #[.int .u64 r1, .int .u64 r2, .bool r3]) ∧ Below w.heap.size w w' := by
 have hu111 := Try.underlying111
 have HB := Aside0.mk (Below.refl w.heap.size w)
 have H : ((fixed_size.f a0).bind fun t287 => ((fixed_size.f a1).bind fun t288 => ((bits_Mul64.f t287 t288).bind fun bt289 => (some (bt289.1, bt289.2, ((decide (a0 < 0)) != (decide (a1 < 0)))))))) = some (r1, r2, r3) := h
 clear h
 replace H := Option.bind_eq_some_iff.mp H
 obtain ⟨t287, A30, H⟩ := H
 replace H : ((fixed_size.f a1).bind fun t288 => ((bits_Mul64.f t287 t288).bind fun bt289 => (some (bt289.1, bt289.2, ((decide (a0 < 0)) != (decide (a1 < 0))))))) = some (r1, r2, r3) := H
 have A3 := Aside0.mk A30
 clear A30
 replace H := Option.bind_eq_some_iff.mp H
 obtain ⟨t288, A40, H⟩ := H
 replace H : ((bits_Mul64.f t287 t288).bind fun bt289 => (some (bt289.1, bt289.2, ((decide (a0 < 0)) != (decide (a1 < 0)))))) = some (r1, r2, r3) := H
 have A4 := Aside0.mk A40
 clear A40
 replace H := Option.bind_eq_some_iff.mp H
 obtain ⟨⟨t289, t290⟩, A50, H⟩ := H
 replace H : (some (t289, t290, ((decide (a0 < 0)) != (decide (a1 < 0))))) = some (r1, r2, r3) := H
 have A5 := Aside0.mk A50
 clear A50
 simp only [Option.some.injEq, Prod.mk.injEq] at H
 obtain ⟨rfl, rfl, rfl⟩ := H
 go_enter Try.func68, Try.ntmps68
 go_wp2_with (first | ((with_reducible refine gate_dst (N := 4) rfl ?_); refine box_event ?hg (N := 4) ?hd (cs := #[.int .u64 0, .int .u64 0, .bool false]) (t := 111) ?hr ?_; (case hd => rfl); (case hg => rfl); (case hr => first | (go_simp; done) | (go_simp; rfl)); intro gb286 hg w6 hbox hb; have n0_ := Aside0.mk (below_step (bq HB) hb); have n1_ := Aside0.mk (hbox); have n2_ := Aside0.mk ((by rw [hg]; exact (below_size (bq HB)) : w.heap.size ≤ gb286)); have n3_ := Aside0.mk ((by rw [hg]; exact (below_size (bq HB)) : w.heap.size ≤ gb286)); clear HB; have HB := n0_; have BK286 := n1_; have GW286 := n2_; have GE286 := n3_; clear n0_ n1_ n2_ n3_; clear hb hbox hg) | ((with_reducible refine gate_callee (f := 69) rfl ?_); refine goesL_ (some 9) rfl rfl Try.func69 (by kernel_rfl) rfl #[.int .i64 a0] rfl (by (try simp only [List.map_toArray, List.map_cons, List.map_nil]); first | done | rfl | (simp only [List.length_drop, List.length_take]; rfl)) ?_; (with_reducible refine (fixed_size.calls a0 t287 _ A3.out).mono ?_); rintro e w' ⟨rfl, ⟨nd, rfl⟩⟩; refine ⟨_, rfl, ?_⟩; (try (rw [drewN_self w6]; generalize hq_ : World.drewN w6 _ = w6; have n0_ : Aside0 (w6.heap[gb286]? = some (.cells #[.int .u64 0, .int .u64 0, .bool false] 111 (0, 0))) := ⟨by rw [← hq_]; exact (kq BK286)⟩; have n1_ : Aside0 (Below w.heap.size w w6) := ⟨by rw [← hq_]; exact (bs HB GE286)⟩; clear BK286 HB hq_; have BK286 := n0_; have HB := n1_; clear n0_ n1_))) | ((with_reducible refine gate_callee (f := 69) rfl ?_); refine goesL_ (some 11) rfl rfl Try.func69 (by kernel_rfl) rfl #[.int .i64 a1] rfl (by (try simp only [List.map_toArray, List.map_cons, List.map_nil]); first | done | rfl | (simp only [List.length_drop, List.length_take]; rfl)) ?_; (with_reducible refine (fixed_size.calls a1 t288 _ A4.out).mono ?_); rintro e w' ⟨rfl, ⟨nd, rfl⟩⟩; refine ⟨_, rfl, ?_⟩; (try (rw [drewN_self w6]; generalize hq_ : World.drewN w6 _ = w6; have n0_ : Aside0 (w6.heap[gb286]? = some (.cells #[.int .u64 0, .int .u64 0, .bool false] 111 (0, 0))) := ⟨by rw [← hq_]; exact (kq BK286)⟩; have n1_ : Aside0 (Below w.heap.size w w6) := ⟨by rw [← hq_]; exact (bs HB GE286)⟩; clear BK286 HB hq_; have BK286 := n0_; have HB := n1_; clear n0_ n1_))) | ((with_reducible refine gate_callee (f := 73) rfl ?_); refine goesL_ (some 12) rfl rfl Try.func73 (by kernel_rfl) rfl #[.int .u64 t287, .int .u64 t288] rfl (by (try simp only [List.map_toArray, List.map_cons, List.map_nil]); first | done | rfl | (simp only [List.length_drop, List.length_take]; rfl)) ?_; (with_reducible refine (bits_Mul64.calls t287 t288 t289 t290 _ A5.out).mono ?_); rintro e w' ⟨rfl, ⟨nd, rfl⟩⟩; refine ⟨_, rfl, ?_⟩; (try (rw [drewN_self w6]; generalize hq_ : World.drewN w6 _ = w6; have n0_ : Aside0 (w6.heap[gb286]? = some (.cells #[.int .u64 0, .int .u64 0, .bool false] 111 (0, 0))) := ⟨by rw [← hq_]; exact (kq BK286)⟩; have n1_ : Aside0 (Below w.heap.size w w6) := ⟨by rw [← hq_]; exact (bs HB GE286)⟩; clear BK286 HB hq_; have BK286 := n0_; have HB := n1_; clear n0_ n1_)); have hcz7_0 : w6.cell? ⟨gb286, 0, none⟩ = some (.int .u64 0) := (blk_cell BK286.out 0).trans rfl; have hcz7_1 : w6.cell? ⟨gb286, 1, none⟩ = some (.int .u64 0) := (blk_cell BK286.out 1).trans rfl; have hcz7_2 : w6.cell? ⟨gb286, 2, none⟩ = some (.bool false) := (blk_cell BK286.out 2).trans rfl; have hfz7_0 := blk_frozen BK286.out 0; have hfz7_1 := blk_frozen BK286.out 1; have hfz7_2 := blk_frozen BK286.out 2))
 refine bodyPost_ret (results_cell_row rfl _ _ gb286 111 #[.int .u64 t289, .int .u64 t290, .bool ((decide (a0 < 0)) != (decide (a1 < 0)))] (0, 0) _ rfl (by (with_reducible repeat (first | refine blk_drewN ?_ _ | refine blk_drew ?_ | refine blk_alloc ?_ _)); refine blk_put (cs := #[.int .u64 t289, .int .u64 t290, .bool false]) ?_ 2 _ rfl; (with_reducible repeat (first | refine blk_drewN ?_ _ | refine blk_drew ?_ | refine blk_alloc ?_ _)); refine blk_put (cs := #[.int .u64 t289, .int .u64 0, .bool false]) ?_ 1 _ rfl; (with_reducible repeat (first | refine blk_drewN ?_ _ | refine blk_drew ?_ | refine blk_alloc ?_ _)); refine blk_put (cs := #[.int .u64 0, .int .u64 0, .bool false]) ?_ 0 _ rfl; (with_reducible repeat (first | refine blk_drewN ?_ _ | refine blk_drew ?_ | refine blk_alloc ?_ _)); exact BK286.out) Try.underlying111 rfl (by kernel_rfl)) rfl ?_
 exact ⟨by first | rfl | (simp [errW_none, errW_some] <;> rfl) | (simp [*, errW_none, errW_some] <;> rfl), bs HB GE286⟩

end Go.Proofs.Ytonljpciadeafaa.S
