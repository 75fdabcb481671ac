/- PathLines: the walk: a contour of knots on the curve alone is its own polygon. -/
import Derived.Test.YtmlkpadlafjfeaaPx0
import Derived.Test.YtmlkpadlafjfeaaPx22
import Derived.Test.YtmlkpadlafjfeaaPx23
import Derived.Test.YtmlkpadlafjfeaaPathPlainP
import Derived.Test.YtmlkpadlafjfeaaPx24
import Derived.Test.YtmlkpadlafjfeaaPx26
set_option linter.unusedVariables false
set_option linter.unusedSimpArgs false
namespace Go.Proofs.Ytmlkpadlafjfeaa.P
open Go Go.RowKit Go.Proofs.YtmlkpadlafjfeaaW.PrintWords Go.Proofs.YtmlkpadlafjfeaaW.PrintLast Go.Proofs.YtmlkpadlafjfeaaW.PrintMore

theorem pal : seriflaw06_pathAlive.f 60 = some true := by decide +kernel
/-- A row of one row. -/
theorem C_sing {α : Type} {d : Kd α} {e t g c : Nat} {W : World} {A : Option Addr} {xs : List α} (hb : W.heap[g]? = some (.cells #[.slice A xs.length c] t (0, 0))) (hC : Kd.C d W A xs.length xs) (hc : xs.length ≤ c) : Kd.C (Kd.slice e d) W (some ⟨g, 0, none⟩) 1 [xs] := by
  have cb : W.cell? ⟨g, 0, none⟩ = some (.slice A xs.length c) := (blk_cell hb 0).trans rfl
  refine ⟨rfl, by omega, fun _ => ⟨⟨g, 0, none⟩, rfl, fun j p hj => ?_⟩⟩
  match j, hj with
  | 0, hj =>
    simp only [List.getElem?_cons_zero, Option.some.injEq] at hj
    subst hj
    refine ⟨[.slice A xs.length c], rfl, ⟨A, c, rfl, hc, hC⟩, fun i u hu => ?_⟩
    match i, hu with
    | 0, hu => simp only [List.getElem?_cons_zero, Option.some.injEq] at hu; subst hu; exact cb
  | j + 1, hj => simp at hj
theorem fixT {n : Int} (h : fixB n) : serifref01_Fix.f n = some true := by
  have := h.1; have := h.2
  unfold serifref01_Fix.f; rw [if_pos (by omega), decide_eq_true (by omega)]
theorem fixN {n : Int} (h : ¬ fixB n) : serifref01_Fix.f n = some false := by
  unfold fixB at h
  unfold serifref01_Fix.f
  by_cases c : n ≥ -2147483647
  · rw [if_pos c, decide_eq_false (by omega)]
  · rw [if_neg c]
theorem drawn_below2 {w w' : World} (h : Drawn0 w w') : Below w.heap.size w w' := by obtain ⟨q, rfl⟩ := h.out; exact pw_below_drewN (Below.refl _ _) q
set_option maxRecDepth 100000 in
set_option maxHeartbeats 8000000 in
theorem lines_walk (l : List S35) (A : Option Addr) (c : Nat) (w : World) (hr : Kd.C k35 w A l.length l) (hc : l.length ≤ c) :
    Calls Try.prog 5 #[.slice A l.length c] w fun e w' => e = .returned (.bool true) ∧ Below w.heap.size w w' := by
  have HR := Aside0.mk hr
  have lm := hr.2.1
  by_cases big : 4096 < l.length
  · go_enter Try.func5, Try.ntmps5
    go_wp2_with (go_at_call 10; refine (seriflaw06_pathAlive.calls 60 true _ pal).mono ?_; rintro e w1 ⟨rfl, hb1⟩; have HB1 := Aside0.mk hb1; clear hb1)
    go_ret
    exact ⟨rfl, HB1.out⟩
  · go_enter Try.func5, Try.ntmps5
    go_upto_block 0 with (first | (go_at_call 10; refine (seriflaw06_pathAlive.calls 60 true _ pal).mono ?_; rintro e w1 ⟨rfl, hb1⟩; have HB1 := Aside0.mk hb1; clear hb1) | ((with_reducible refine gate_dst (N := 13) rfl ?_); refine Kd.R_lit k40 _ 40 ?hg (N := 13) ?hd (xs := ([] : List S40)) (inner := []) (ok := fun _ => True) (okp := fun _ => True) ?hr ?hp (fun _ hk => hk) trivial (Below.refl _ _) (Nat.le_refl _) (by simp) ?_; (case hd => rfl); (case hg => rfl); (case hr => first | (go_simp; done) | (go_simp; rfl)); (case hp => exact Reps.none _ _); intro z3 w3 ho3 hb3 hg_ hn_; clear hg_ hn_; have HO3 := Aside0.mk ho3; have HB3 := Aside0.mk hb3; clear ho3 hb3))
    have R3 := Aside0.mk (Kd.R_lower HO3.out (below_size HB1.out))
    have B3 := Aside0.mk (below_step HB1.out HB3.out)
    go_wp2
    go_loopw [3, 16] (fun v3 v16 wr => ∃ (i : Nat), v16 = .int .i64 i ∧ i ≤ l.length ∧ Aside0 (Kd.R k40 40 wr w.heap.size (fun _ => True) v3 ((l.take i).map kn)) ∧ Aside0 (Below w.heap.size w wr) ∧ Aside0 (∀ s ∈ l.take i, fixB s.f0 ∧ fixB s.f1)) (fun _ v16 _ => l.length - (intOf v16).toNat)
    case atStart => exact ⟨0, rfl, Nat.zero_le _, R3, B3, ⟨by simp⟩⟩
    case round =>
      obtain ⟨i, rfl, hi, HO, HB, HF⟩ := hrel
      by_cases hlt : i < l.length
      · obtain ⟨ad, ea, x0, x1⟩ := at_T35 HR.out (i : Int) (by omega) (by omega)
        subst ea
        rw [Int.toNat_natCast] at x0 x1
        replace x0 := pw_cell_below HB.out x0
        replace x1 := pw_cell_below HB.out x1
        have tk : l.take (i + 1) = l.take i ++ [rd_T35 l (i : Int)] := by rw [List.take_add_one, List.getElem?_eq_getElem hlt, rd35 hlt]; rfl
        generalize hX : rd_T35 l (i : Int) = X at x0 x1 tk
        obtain ⟨sx, sy⟩ := X
        have TK := Aside0.mk tk
        dsimp only at x0 x1
        clear tk hX
        go_upto_region 9 with fail
        obtain ⟨W5, bk, e5, r5, b5, k5⟩ : ∃ W5 bk, W5 = wr.alloc (Obj.cells #[.int .i64 sx, .int .i64 sy] 35) ∧ Kd.R k40 40 W5 w.heap.size (fun _ => True) u3 ((l.take i).map kn) ∧ Below w.heap.size w W5 ∧ (wr.heap.size = bk ∧ W5.heap[bk]? = some (.cells #[.int .i64 sx, .int .i64 sy] 35 (0, 0))) := ⟨_, _, rfl, Kd.R_alloc HO.out _, below_alloc HB.out _, rfl, blk_new _ _⟩
        obtain ⟨ek, k5⟩ := k5
        rw [← e5, ek]
        have R5 := Aside0.mk r5
        have B5 := Aside0.mk b5
        have K5 := Aside0.mk k5
        have c50 : W5.cell? ⟨bk, 0, none⟩ = some (.int .i64 sx) := (blk_cell k5 0).trans rfl
        have c51 : W5.cell? ⟨bk, 1, none⟩ = some (.int .i64 sy) := (blk_cell k5 1).trans rfl
        clear e5 ek r5 b5 k5 x0 x1
        by_cases fx : fixB sx
        · have FX := Aside0.mk (fixT fx)
          by_cases fy : fixB sy
          · have FY := Aside0.mk (fixT fy)
            have FF := Aside0.mk (And.intro fx fy)
            clear fx fy
            go_wp2_with (first | (go_at_call 16; refine (serifref01_Fix.calls sx true W5 FX.out).mono ?_; rintro e w6 ⟨rfl, hd6⟩; have hb6 := drawn_below2 hd6; have R6 := Aside0.mk (Kd.R_below R5.out hb6); have B6 := Aside0.mk (below_step B5.out hb6); have K6 := Aside0.mk ((hb6.block _ (blk_lt K5.out)).trans K5.out); have c60 : w6.cell? ⟨bk, 0, none⟩ = some (.int .i64 sx) := (blk_cell K6.out 0).trans rfl; have c61 : w6.cell? ⟨bk, 1, none⟩ = some (.int .i64 sy) := (blk_cell K6.out 1).trans rfl; clear hd6 hb6) | (go_at_call 16; refine (serifref01_Fix.calls sy true w6 FY.out).mono ?_; rintro e w7 ⟨rfl, hd7⟩; have hb7 := drawn_below2 hd7; have R7 := Aside0.mk (Kd.R_below R6.out hb7); have B7 := Aside0.mk (below_step B6.out hb7); have K7 := Aside0.mk ((hb7.block _ (blk_lt K6.out)).trans K6.out); have c70 : w7.cell? ⟨bk, 0, none⟩ = some (.int .i64 sx) := (blk_cell K7.out 0).trans rfl; have c71 : w7.cell? ⟨bk, 1, none⟩ = some (.int .i64 sy) := (blk_cell K7.out 1).trans rfl; clear hd7 hb7) | ((with_reducible refine gate_builtin (b := .append) (xs := #[.tmp 30, .tmp 36]) rfl ?_); at_builtin; refine Kd.R_append k40 (w0 := w) w.heap.size rfl (.tmp 30) (.tmp 36) 37 40 (.agg #[(.int .i64 0), (.int .i64 0), (.int .i64 0)]) 24 rfl Try.underlying37 info40 rfl (by decide) (by omega) u3 ((l.take i).map kn) (⟨sx, sy, 1⟩ : S40) [.int .i64 sx, .int .i64 sy, .int .i64 1] (fun _ => True) (fun _ => False) rfl (by first | (go_simp; done) | (go_simp; rfl)) ?aP (fun _ hk => hk.elim) ?aF ?aO ?aB ?aS ?aL ?_; (case aP => exact k40_mkM _ _ _ (⟨sx, sy, 1⟩ : S40)); (case aF => exact fun _ _ => trivial); (case aO => exact R7.out); (case aB => exact B7.out); (case aS => exact below_size B7.out); (case aL => simp; omega); intro v8 w8 r8 b8 hg hat; have R8 := Aside0.mk r8; have B8 := Aside0.mk b8; clear r8 b8 hg hat))
            refine ⟨⟨i + 1, by push_cast; rfl, by omega, ⟨?_⟩, B8, ⟨?_⟩⟩, ?_⟩
            · rw [TK.out, List.map_append]; exact R8.out
            · rw [TK.out]; intro s hs
              rcases List.mem_append.1 hs with h | h
              · exact HF.out s h
              · simp only [List.mem_singleton] at h; subst h; exact FF.out
            · show (_ : Nat) < _
              simp only [intOf]; omega
          · have FY := Aside0.mk (fixN fy)
            clear fx fy
            go_wp2_with (first | (go_at_call 16; refine (serifref01_Fix.calls sx true W5 FX.out).mono ?_; rintro e w6 ⟨rfl, hd6⟩; have hb6 := drawn_below2 hd6; have B6 := Aside0.mk (below_step B5.out hb6); have K6 := Aside0.mk ((hb6.block _ (blk_lt K5.out)).trans K5.out); have c60 : w6.cell? ⟨bk, 0, none⟩ = some (.int .i64 sx) := (blk_cell K6.out 0).trans rfl; have c61 : w6.cell? ⟨bk, 1, none⟩ = some (.int .i64 sy) := (blk_cell K6.out 1).trans rfl; clear hd6 hb6) | (go_at_call 16; refine (serifref01_Fix.calls sy false w6 FY.out).mono ?_; rintro e w7 ⟨rfl, hd7⟩; have hb7 := drawn_below2 hd7; have B7 := Aside0.mk (below_step B6.out hb7); clear hd7 hb7))
            go_ret
            exact ⟨rfl, B7.out⟩
        · have FX := Aside0.mk (fixN fx)
          clear fx
          go_wp2_with (go_at_call 16; refine (serifref01_Fix.calls sx false W5 FX.out).mono ?_; rintro e w6 ⟨rfl, hd6⟩; have hb6 := drawn_below2 hd6; have B6 := Aside0.mk (below_step B5.out hb6); clear hd6 hb6)
          go_ret
          exact ⟨rfl, B6.out⟩
      · obtain rfl : i = l.length := by omega
        rw [List.take_length] at HO HF
        have hl : l.length ≤ 4096 := by omega
        obtain ⟨kf, hf⟩ : ∃ k, path_Flat.f k [l.map kn] = some ([l], 0) := by obtain ⟨K, hK⟩ := flat_on hl HF.out; exact ⟨K, hK K (Nat.le_refl _)⟩
        obtain ⟨ks, hs⟩ : ∃ k, serifref06_SameSpots.f k [l] [l] = some true := by obtain ⟨K, hK⟩ := same_on (l := l) (by omega); exact ⟨K, hK K (Nat.le_refl _)⟩
        obtain ⟨cl, ecl⟩ : ∃ cl, cl = l.map kn := ⟨_, rfl⟩
        rw [← ecl] at HO hf
        clear ecl
        have FL := Aside0.mk hf
        have SL := Aside0.mk hs
        obtain ⟨A3, c3, rfl⟩ := Kd.R_slice HO.out
        have HC := Aside0.mk hc
        clear hf hs HF hi big hlt
        go_wp2_with (first | (go_at_call 13; refine (path_Flat.calls kf (some ⟨wr.heap.size, 0, none⟩) 1 [cl] [l] 0 _ ?h1 (by simp) FL.out).mono ?_; (case h1 => exact C_sing (blk_new wr _) (Kd.C_alloc (Kd.R_reads' HO.out).2.2 _) (Kd.R_reads' HO.out).2.1); rintro e w9 ⟨v9, rfl, s9, hb9⟩; obtain ⟨A9, c9, rfl⟩ := Kd.R_slice (Kd.S_R s9); have S9 := Aside0.mk (Kd.S_reads' s9); have B9 := Aside0.mk (below_step (below_alloc HB.out _) hb9); clear s9 hb9) | (go_at_call 14; refine (serifref06_SameSpots.calls ks A9 c9 [l] (some ⟨w9.heap.size, 0, none⟩) 1 [l] true _ ?h3 ?h4 ?h5 (by simp) SL.out).mono ?_; (case h3 => exact Kd.C_alloc S9.out.2.2 _); (case h4 => exact S9.out.2.1); (case h5 => exact C_sing (blk_new w9 _) (Kd.C_alloc (Kd.C_below HR.out B9.out) _) HC.out); rintro e w10 ⟨rfl, hd10⟩; have hb10 := drawn_below2 hd10; have B10 := Aside0.mk (below_step (below_alloc B9.out _) hb10); clear hd10 hb10))
        go_ret
        exact ⟨rfl, B10.out⟩
end Go.Proofs.Ytmlkpadlafjfeaa.P
