/- glyf: the law's glyfAlive. Written by rk/gengf.py. -/
import Derived.Test.YtchmhcfdamdjdaaGx0
import Derived.Test.YtchmhcfdamdjdaaGfXG
import Derived.Test.YtchmhcfdamdjdaaGx29
import Derived.Test.YtchmhcfdamdjdaaGx30
import Derived.Test.YtchmhcfdamdjdaaGx26
set_option linter.unusedVariables false
set_option linter.unusedSimpArgs false
namespace Go.Proofs.Ytchmhcfdamdjdaa.G
open Go Go.RowKit Go.Proofs.YtchmhcfdamdjdaaW.PrintWords Go.Proofs.YtchmhcfdamdjdaaW.PrintLast Go.Proofs.YtchmhcfdamdjdaaW.PrintMore

theorem drawn_below {w w' : World} (h : Drawn0 w w') : Below w.heap.size w w' := by obtain ⟨q, rfl⟩ := h.out; exact pw_below_drewN (Below.refl _ _) q
theorem C_lit {α : Type} {d : Kd α} {w : World} {p T : Nat} {inner : List Value} {xs : List α} (h : w.heap[p]? = some (.cells inner.toArray T (0, 0))) (hr : Reps (d.K w) d.sz xs inner) (hm : xs.length ≤ 9223372036854775807) : Kd.C d w (some ⟨p, 0, none⟩) xs.length xs := by
  refine ⟨rfl, hm, fun _ => ⟨_, rfl, fun j q hj => ⟨(inner.drop (j * d.sz)).take d.sz, d.K_len (hr.2 j q hj), hr.2 j q hj, fun i u hu => ?_⟩⟩⟩
  have hi : i < d.sz := by
    have := (List.getElem?_eq_some_iff.1 hu).1
    rw [List.length_take] at this
    omega
  rw [List.getElem?_take_of_lt hi, List.getElem?_drop] at hu
  rw [add_at, Nat.zero_add]
  simp only [World.cell?, h]
  simpa using hu
def o0 : List (List S46) := [[⟨1, 2, 1⟩, ⟨9, -4, 2⟩, ⟨0, 7, 1⟩]]
def encB : List Int := [0, 1, 0, 0, 0, 0, 0, 0, 0, 0, 0, 2, 0, 1, 5, 1, 0, 1, 0, 1, 0, 8, 255, 247, 0, 2, 255, 250, 0, 11]
theorem enc_v : glyf_Encode.f 40 o0 [5] = some (encB, 0) := by decide +kernel
theorem copy_v : serifref06_Copy.f 40 o0 = some o0 := by kernel_rfl
theorem same_v : serifref06_SameOutline.f 40 o0 o0 = some true := by decide +kernel
theorem encB_ok : okB encB := by
  have h : ∀ x ∈ encB, 0 ≤ x ∧ x < 256 := by decide
  exact h
theorem knots_v : knotsB encB (10 + 4 + (1 : Nat)) (10 + 4 + (1 : Nat) + ((2 : Nat) + 1)) (10 + 4 + (1 : Nat) + ((2 : Nat) + 1) + 2 * ((2 : Nat) + 1)) (2 + 1) (2 + 1) = [⟨1, 2, 1⟩, ⟨9, -4, 2⟩, ⟨0, 7, 1⟩] := by kernel_rfl
theorem o0_row (w : World) (p : Nat) (h : w.heap[p]? = some (.cells #[.int .i64 1, .int .i64 2, .int .i64 1, .int .i64 9, .int .i64 (-4), .int .i64 2, .int .i64 0, .int .i64 7, .int .i64 1] 46 (0, 0))) : Kd.C k46 w (some ⟨p, 0, none⟩) 3 [⟨1, 2, 1⟩, ⟨9, -4, 2⟩, ⟨0, 7, 1⟩] :=
  C_lit (d := k46) (xs := [⟨1, 2, 1⟩, ⟨9, -4, 2⟩, ⟨0, 7, 1⟩]) (inner := [.int .i64 1, .int .i64 2, .int .i64 1, .int .i64 9, .int .i64 (-4), .int .i64 2, .int .i64 0, .int .i64 7, .int .i64 1]) h
    (Reps.front (k46_mk w ⟨1, 2, 1⟩) rfl (Reps.front (k46_mk w ⟨9, -4, 2⟩) rfl (Reps.front (k46_mk w ⟨0, 7, 1⟩) rfl (Reps.none _ _) rfl) rfl) rfl) (by decide)
theorem o0_C (w : World) (p q : Nat) (h : w.heap[p]? = some (.cells #[.int .i64 1, .int .i64 2, .int .i64 1, .int .i64 9, .int .i64 (-4), .int .i64 2, .int .i64 0, .int .i64 7, .int .i64 1] 46 (0, 0))) (k : w.heap[q]? = some (.cells #[.slice (some ⟨p, 0, none⟩) 3 3] 43 (0, 0))) : Kd.C (Kd.slice 46 k46) w (some ⟨q, 0, none⟩) 1 o0 :=
  C_lit (d := Kd.slice 46 k46) (xs := o0) (inner := [.slice (some ⟨p, 0, none⟩) 3 3]) k (Reps.one ⟨_, 3, rfl, Nat.le_refl _, o0_row w p h⟩ (Reps.none _ _)) (by decide)
theorem dec_one (W : World) (gv : Nat) (AP : Option Addr) (cP : Nat) (hv : Vw W gv encB) (hp : Kd.C (Kd.int .i64) W AP 2 [0, 30]) : Calls Try.prog 25 #[.pointer (some ⟨gv, 0, none⟩), .slice AP 2 cP, .int .i64 0] W (DecP (some (o0, [5])) 0 W) := by
  refine decode_good encB gv AP cP [0, 30] 0 o0 [5] W hv hp (fun W2 dk hd => ?_)
  have z := glyph_one encB encB_ok (by decide) dk gv AP cP [0, 30] 0 0 W2 hd (by decide) (by decide) (by decide) (by decide) (by decide) encB (by decide) (by decide) 2 1 (by decide) (by decide) (by decide) (by decide) (fun j hj => by
    match j, hj with
    | 0, _ => exact Or.inr (by decide)
    | 1, _ => exact Or.inl (by decide)
    | 2, _ => exact Or.inr (by decide))
  rw [knots_v] at z
  exact z
theorem two_obj (w : World) (o1 : Obj) (f : Nat → Obj) : ∃ X p q, X = (w.alloc o1).alloc (f w.heap.size) ∧ w.heap.size = p ∧ w.heap.size + 1 = q ∧ X.heap[p]? = some o1 ∧ X.heap[q]? = some (f p) ∧ Below w.heap.size w X := by
  have z1 : (w.alloc o1).heap.size = w.heap.size + 1 := Array.size_push ..
  refine ⟨_, _, _, rfl, rfl, rfl, blk_alloc (blk_new _ _) _, ?_, below_alloc (below_alloc (Below.refl _ _) _) _⟩
  rw [← z1]
  exact blk_new _ _
set_option maxRecDepth 100000 in
set_option maxHeartbeats 4000000 in
theorem alive_calls (w : World) : Calls Try.prog 9 #[] w fun e w' => e = .returned (.bool true) ∧ Below w.heap.size w w' := by
  go_enter Try.func9, Try.ntmps9
  go_upto_region 2 with fail
  obtain ⟨w1, p, q, hX, ep, eq_, kp, kq, b1⟩ := two_obj w (Obj.cells #[.int .i64 1, .int .i64 2, .int .i64 1, .int .i64 9, .int .i64 (-4), .int .i64 2, .int .i64 0, .int .i64 7, .int .i64 1] 46) (fun p => Obj.cells #[.slice (some ⟨p, 0, none⟩) 3 3] 43)
  try dsimp only at hX kq
  rw [← hX, eq_]
  have CO := Aside0.mk (o0_C w1 p q kp kq)
  have B1 := Aside0.mk b1
  clear hX ep eq_ kp kq b1
  go_upto_region 3 with (first | (go_at_call 22; refine (serifref06_Copy.calls 40 (some ⟨q, 0, none⟩) 1 o0 o0 w1 CO.out (Nat.le_refl 1) copy_v).mono ?_; rintro e w2 ⟨v2, rfl, k1, k2⟩; have S2 := Aside0.mk (Kd.S_R k1); have B2 := Aside0.mk k2; clear k1 k2; obtain ⟨A2, c2, e2⟩ := Kd.R_slice S2.out; subst e2) | ((with_reducible refine gate_dst (N := 14) rfl ?_); refine Kd.R_lit (Kd.int .u8) _ 5 ?hg (N := 14) ?hd (xs := ([5] : List Int)) (inner := [.int .u8 5]) (ok := fun _ => True) (okp := fun _ => True) ?hr ?hp (fun _ hk => hk) trivial (Below.refl _ _) (Nat.le_refl _) (by decide) ?_; (case hd => rfl); (case hg => rfl); (case hr => first | (go_simp; done) | (go_simp; rfl)); (case hp => exact (Reps.one rfl (Reps.none _ _))); intro v3 w3 ho hb hg_ hnew_; obtain ⟨A3, c3, e3⟩ := Kd.R_slice ho; subst e3; have R3 := Aside0.mk ho; have B3 := Aside0.mk hb; clear ho hb hg_ hnew_) | (go_at_call 21; refine (glyf_Encode.calls 40 A2 c2 o0 (fun _ => True) A3 c3 [5] encB 0 w3 (Kd.C_below (Kd.R_reads' S2.out).2.2 B3.out) (Kd.R_reads' S2.out).2.1 (Kd.R_V R3.out) enc_v).mono ?_; rintro e w4 ⟨v4, rfl, k1, k2⟩; have B4 := Aside0.mk (below_step (below_step B2.out B3.out) k2); obtain ⟨A4, c4, e4⟩ := Kd.R_slice k1; subst e4; have R4 := Aside0.mk (Kd.R_reads' k1); clear k1 k2))
  have CO4 := Aside0.mk (Kd.C_below CO.out B4.out)
  have D4 := Aside0.mk (below_step B1.out B4.out)
  clear CO S2 B2 R3 B3 B4 B1
  go_upto_region 4 with (first | ((with_reducible refine gate_dst (N := 22) rfl ?_); refine Kd.R_lit (Kd.int .i64) _ 3 ?hg (N := 22) ?hd (xs := ([0, 30] : List Int)) (inner := [.int .i64 0, .int .i64 30]) (ok := fun _ => True) (okp := fun _ => True) ?hr ?hp (fun _ hk => hk) trivial (Below.refl _ _) (Nat.le_refl _) (by decide) ?_; (case hd => rfl); (case hg => rfl); (case hr => first | (go_simp; done) | (go_simp; rfl)); (case hp => exact (Reps.one rfl (Reps.one rfl (Reps.none _ _)))); intro v5 w5 ho hb hg_ hnew_; obtain ⟨A5, c5, e5⟩ := Kd.R_slice ho; subst e5; have R5 := Aside0.mk (Kd.R_reads' ho); have B5 := Aside0.mk hb; clear ho hb hg_ hnew_) | (go_at_call 12; refine (dec_calls encB [0, 30] 0 (some (o0, [5])) 0 A4 c4 A5 c5 w5 (Kd.C_below R4.out.2.2 B5.out) R4.out.2.1 R5.out.2.2 R5.out.2.1 (by decide) (by decide) (fun W gv AP cP hv hp => dec_one W gv AP cP hv hp)).mono ?_; rintro e w6 ⟨k1, AO, cO, AC, cC, rfl, k2⟩; have P6 := Aside0.mk k2; have B6 := Aside0.mk (below_step B5.out k1); clear k1 k2))
  obtain ⟨w7, g, hX, eg, kg, b7⟩ : ∃ X g, X = w6.alloc (Obj.cells #[.slice AO o0.length cO, .slice AC 1 cC] 29) ∧ w6.heap.size = g ∧ X.heap[g]? = some (Obj.cells #[.slice AO o0.length cO, .slice AC 1 cC] 29 (0, 0)) ∧ Below w6.heap.size w6 X := ⟨_, _, rfl, rfl, blk_new _ _, below_alloc (Below.refl _ _) _⟩
  have hX2 : w6.alloc (Obj.cells #[.slice AO o0.length cO, .slice AC ([5] : List Int).length cC] 29) = w7 := hX.symm
  first | rw [hX2, eg] | rw [← hX, eg]
  have P7 := Aside0.mk (P6.out.below b7)
  have K7 := Aside0.mk kg
  have CO7 := Aside0.mk (Kd.C_below CO4.out (below_step B6.out b7))
  have B7 := Aside0.mk (below_step D4.out (below_step B6.out b7))
  clear hX hX2 eg kg b7 CO4 D4 B6 P6 R4 R5 B5
  have c0 : w7.cell? ⟨g, 0, none⟩ = some (.slice AO o0.length cO) := (blk_cell K7.out 0).trans rfl
  have c1 : w7.cell? ⟨g, 1, none⟩ = some (.slice AC 1 cC) := (blk_cell K7.out 1).trans rfl
  have ht : ((⟨#[5]⟩ : ByteArray).toList == [5]) = true := by kernel_rfl
  have hs : strOfNums [5] = ⟨#[5]⟩ := by kernel_rfl
  go_wp2_with (go_at_call 18; refine (serifref06_SameOutline.calls 40 AO cO o0 (some ⟨q, 0, none⟩) 1 o0 true _ (Kd.R_reads' P7.out.1).2.2 (Kd.R_reads' P7.out.1).2.1 CO7.out (Nat.le_refl 1) same_v).mono ?_; rintro e w8 ⟨rfl, k1⟩; have b8 := drawn_below k1; have B8 := Aside0.mk (below_step B7.out b8); have c1 : w8.cell? ⟨g, 1, none⟩ = some (.slice AC 1 cC) := (blk_cell ((b8.block _ (blk_lt K7.out)).trans K7.out) 1).trans rfl; have hcv := Kd.C_string (P := Try.prog) (A := AC) (c := cC) Try.underlying23 Try.underlying5 Try.underlying9 (Kd.C_below (Kd.R_reads' P7.out.2).2.2 b8); rw [hs, show ([5] : List Int).length = 1 from rfl] at hcv; clear k1 b8)
  trace_state
  go_ret
  exact ⟨rfl, B8.out⟩
end Go.Proofs.Ytchmhcfdamdjdaa.G
