-- written by a program of this session (wip/xprint.py) over the kit's print
import Derived.Test.YtfbanppdiglciaaYx0
import Derived.Test.YtfbanppdiglciaaYx30
import Derived.Test.YtfbanppdiglciaaYx34
namespace Go.Proofs.Ytfbanppdiglciaa.Y
open Go.RowKit Go.Proofs.YtfbanppdiglciaaW.PrintWords Go.Proofs.YtfbanppdiglciaaW.PrintLast Go.Proofs.YtfbanppdiglciaaW.PrintMore
attribute [local go_sem] max2_int min2_int max_two min_two max_three min_three max_four min_four   -- for this text's walks alone
set_option linter.unusedVariables false
set_option linter.unusedSimpArgs false

/-! ### optimal_paragraph_forced: function 43 -/
def optimal_paragraph_forced.f (s0_0 : List (S31)) (s0_1 : List (S81)) (s0_2 : List Int) (s0_3 : Int) (a1 : Int) : Option (Bool × Int) := (optimal_paragraph_penalty.f s0_0 s0_1 s0_2 s0_3 a1).bind fun bt426 => (if a1 = (s0_0.length : Int) then (some (true, bt426.2.2)) else (some ((bt426.1 == (-10000)), bt426.2.2)))
set_option maxHeartbeats 8000000 in
set_option maxRecDepth 100000 in
theorem optimal_paragraph_forced.calls (g : Nat) (s0_0 : List (S31)) (s0_1 : List (S81)) (s0_2 : List Int) (s0_3 : Int) (a1 : Int) (r1 : Bool) (r2 : Int) (w0 w : World) (hI : IsS79 w0 w g s0_0 s0_1 s0_2 s0_3) (hB : Below w0.heap.size w0 w) (h : optimal_paragraph_forced.f s0_0 s0_1 s0_2 s0_3 a1 = some (r1, r2)) :
  Calls Try.prog 43 #[.pointer (some ⟨g, 0, none⟩), .int .i64 a1] w fun e w' => e = .returned (.bool r1) ∧ IsS79 w0 w' g s0_0 s0_1 s0_2 r2 ∧ Below w0.heap.size w0 w' ∧ KeepBut w w' g none := by
 have HI0 := Aside0.mk hI
 have HK := Aside0.mk (KeepBut.refl w g none)
 have HL := Aside0.mk hB.size
 clear hI
 have HW0 := Aside0.mk hB.size
 have HB := Aside0.mk hB
 clear hB
 have H : ((optimal_paragraph_penalty.f s0_0 s0_1 s0_2 s0_3 a1).bind fun bt426 => (if a1 = (s0_0.length : Int) then (some (true, bt426.2.2)) else (some ((bt426.1 == (-10000)), bt426.2.2)))) = some (r1, r2) := h
 clear h
 replace H := Option.bind_eq_some_iff.mp H
 obtain ⟨⟨t426, t427, t428⟩, A30, H⟩ := H
 replace H : (if a1 = (s0_0.length : Int) then (some (true, t428)) else (some ((t426 == (-10000)), t428))) = some (r1, r2) := H
 have A3 := Aside0.mk A30
 clear A30
 by_cases c4 : a1 = (s0_0.length : Int)
 ·rw [if_pos c4] at H
  have c4b0 : (a1 == (s0_0.length : Int)) = true := beq_iff_eq.mpr c4
  have c4b1 : (a1 != (s0_0.length : Int)) = false := bne_eq_false_iff_eq.mpr c4
  clear c4
  simp only [Option.some.injEq, Prod.mk.injEq] at H
  obtain ⟨rfl, rfl⟩ := H
  go_enter Try.func43, Try.ntmps43
  go_wp2_with (first | ((with_reducible refine gate_callee (f := 51) rfl ?_); refine goesL_ (some 10) rfl rfl Try.func51 (by kernel_rfl) rfl #[.pointer (some ⟨g, 0, none⟩), .int .i64 a1] rfl (by (try simp only [List.map_toArray, List.map_cons, List.map_nil]); first | done | rfl | (simp only [List.length_drop, List.length_take]; rfl)) ?_; (with_reducible refine (optimal_paragraph_penalty.calls g s0_0 s0_1 s0_2 s0_3 a1 t426 t427 t428 w0 _ ?side1 ?side2 A3.out).mono ?_); (case side1 => repeat (first | (with_reducible first | exact HI0.out | apply IsS79.alloc | apply IsS79.drewN | apply IsS79.drew | apply IsS79.set_3) | exact HI0.out)); (case side2 => repeat (first | (with_reducible first | exact HB.out | apply below_alloc | apply pw_below_drewN | apply below_drew1 | refine below_set ?_ (IsS79.ge HI0.out)) | exact HB.out)); rintro e w5 ⟨rfl, hi, hb, hk⟩; refine ⟨_, rfl, ?_⟩; have n0_ := Aside0.mk (KeepBut.trans (by repeat (first | (with_reducible first | exact HK.out | apply KeepBut.set_ | apply keep_drewN | apply keep_drew | apply keep_alloc) | exact HK.out)) hk (.inl rfl)); have n1_ := Aside0.mk (hb); have n2_ := Aside0.mk (hi); clear HK; clear HB; clear HI0; have HK := n0_; have HB := n1_; have HI0 := n2_; clear n0_ n1_ n2_; (try clear hb); (try clear hb2); (try clear hk); (try clear hi); obtain ⟨ASz6_0, cSz6_0, ASz6_1, cSz6_1, ASz6_2, cSz6_2, HGz6, hgz6, HSz6_0, HSz6_1, HSz6_2⟩ := HI0.out; have hcz6_0 := cellS79_0 HGz6; have hcz6_1 := cellS79_1 HGz6; have hcz6_2 := cellS79_2 HGz6; have hcz6_3 := cellS79_3 HGz6; have hfz6_3 := blk_frozen HGz6 3; clear HGz6 hgz6))
  go_ret
  exact ⟨by first | rfl | (simp [errW_none, errW_some] <;> rfl) | (simp [*, errW_none, errW_some] <;> rfl), by repeat (first | (with_reducible first | exact HI0.out | apply IsS79.alloc | apply IsS79.drewN | apply IsS79.drew | apply IsS79.set_3) | exact HI0.out), bs HB ⟨IsS79.ge HI0.out⟩, by repeat (first | (with_reducible first | exact HK.out | apply KeepBut.set_ | apply keep_drewN | apply keep_drew | apply keep_alloc) | exact HK.out)⟩
 ·rw [if_neg c4] at H
  have c4b0 : (a1 == (s0_0.length : Int)) = false := beq_eq_false_iff_ne.mpr c4
  have c4b1 : (a1 != (s0_0.length : Int)) = true := bne_iff_ne.mpr c4
  simp only [Option.some.injEq, Prod.mk.injEq] at H
  obtain ⟨rfl, rfl⟩ := H
  go_enter Try.func43, Try.ntmps43
  go_wp2_with (first | ((with_reducible refine gate_callee (f := 51) rfl ?_); refine goesL_ (some 10) rfl rfl Try.func51 (by kernel_rfl) rfl #[.pointer (some ⟨g, 0, none⟩), .int .i64 a1] rfl (by (try simp only [List.map_toArray, List.map_cons, List.map_nil]); first | done | rfl | (simp only [List.length_drop, List.length_take]; rfl)) ?_; (with_reducible refine (optimal_paragraph_penalty.calls g s0_0 s0_1 s0_2 s0_3 a1 t426 t427 t428 w0 _ ?side1 ?side2 A3.out).mono ?_); (case side1 => repeat (first | (with_reducible first | exact HI0.out | apply IsS79.alloc | apply IsS79.drewN | apply IsS79.drew | apply IsS79.set_3) | exact HI0.out)); (case side2 => repeat (first | (with_reducible first | exact HB.out | apply below_alloc | apply pw_below_drewN | apply below_drew1 | refine below_set ?_ (IsS79.ge HI0.out)) | exact HB.out)); rintro e w7 ⟨rfl, hi, hb, hk⟩; refine ⟨_, rfl, ?_⟩; have n0_ := Aside0.mk (KeepBut.trans (by repeat (first | (with_reducible first | exact HK.out | apply KeepBut.set_ | apply keep_drewN | apply keep_drew | apply keep_alloc) | exact HK.out)) hk (.inl rfl)); have n1_ := Aside0.mk (hb); have n2_ := Aside0.mk (hi); clear HK; clear HB; clear HI0; have HK := n0_; have HB := n1_; have HI0 := n2_; clear n0_ n1_ n2_; (try clear hb); (try clear hb2); (try clear hk); (try clear hi); obtain ⟨ASz8_0, cSz8_0, ASz8_1, cSz8_1, ASz8_2, cSz8_2, HGz8, hgz8, HSz8_0, HSz8_1, HSz8_2⟩ := HI0.out; have hcz8_0 := cellS79_0 HGz8; have hcz8_1 := cellS79_1 HGz8; have hcz8_2 := cellS79_2 HGz8; have hcz8_3 := cellS79_3 HGz8; have hfz8_3 := blk_frozen HGz8 3; clear HGz8 hgz8))
  go_ret
  exact ⟨by first | rfl | (simp [errW_none, errW_some] <;> rfl) | (simp [*, errW_none, errW_some] <;> rfl), by repeat (first | (with_reducible first | exact HI0.out | apply IsS79.alloc | apply IsS79.drewN | apply IsS79.drew | apply IsS79.set_3) | exact HI0.out), bs HB ⟨IsS79.ge HI0.out⟩, by repeat (first | (with_reducible first | exact HK.out | apply KeepBut.set_ | apply keep_drewN | apply keep_drew | apply keep_alloc) | exact HK.out)⟩

end Go.Proofs.Ytfbanppdiglciaa.Y
