/- PathBack: the walk. -/
import Derived.Test.YtmlkpadlafjfeaaPx0
import Derived.Test.YtmlkpadlafjfeaaPx23
import Derived.Test.YtmlkpadlafjfeaaPx25
import Derived.Test.YtmlkpadlafjfeaaPx29
import Derived.Test.YtmlkpadlafjfeaaPathRevP
import Derived.Test.YtmlkpadlafjfeaaPathAllP
set_option linter.unusedVariables false
set_option linter.unusedSimpArgs false
namespace Go.Proofs.Ytmlkpadlafjfeaa.P
open Go Go.RowKit Go.Proofs.YtmlkpadlafjfeaaW.PrintWords Go.Proofs.YtmlkpadlafjfeaaW.PrintLast Go.Proofs.YtmlkpadlafjfeaaW.PrintMore

theorem palK : seriflaw06_pathAlive.f 60 = some true := by decide +kernel
/-- A row of one row. -/
theorem C_sing {α : Type} {d : Kd α} {e t g c : Nat} {W : World} {A : Option Addr} {xs : List α} (hb : W.heap[g]? = some (.cells #[.slice A xs.length c] t (0, 0))) (hC : Kd.C d W A xs.length xs) (hc : xs.length ≤ c) : Kd.C (Kd.slice e d) W (some ⟨g, 0, none⟩) 1 [xs] := by
  have cb : W.cell? ⟨g, 0, none⟩ = some (.slice A xs.length c) := (blk_cell hb 0).trans rfl
  refine ⟨rfl, by omega, fun _ => ⟨⟨g, 0, none⟩, rfl, fun j p hj => ?_⟩⟩
  match j, hj with
  | 0, hj =>
    simp only [List.getElem?_cons_zero, Option.some.injEq] at hj
    subst hj
    refine ⟨[.slice A xs.length c], rfl, ⟨A, c, rfl, hc, hC⟩, fun i u hu => ?_⟩
    match i, hu with
    | 0, hu => simp only [List.getElem?_cons_zero, Option.some.injEq] at hu; subst hu; exact cb
  | j + 1, hj => simp at hj
theorem drawn_below2 {w w' : World} (h : Drawn0 w w') : Below w.heap.size w w' := by obtain ⟨q, rfl⟩ := h.out; exact pw_below_drewN (Below.refl _ _) q
theorem ev_at {α : Type} {g : Nat → Option α} {r : α} (h : Ev g r) : ∃ k, g k = some r := h.rounds
/-- The point on the other side. -/
theorem back_at {s : S35} {p : List S35} {n i : Nat} (hn : (s :: p).length = n) (hi : i < n) : ∃ x : Nat, ((n : Int) - (i : Int)).tmod (n : Int) = (x : Int) ∧ x < n ∧ rd_T35 (s :: p) (i : Int) = rd_T35 (s :: p.reverse) (x : Int) := by
  have hn2 : (s :: p.reverse).length = n := by rw [← hn]; simp
  simp only [List.length_cons] at hn
  match i, hi with
  | 0, hi =>
    refine ⟨0, ?_, by omega, rfl⟩
    rw [show ((n : Int) - ((0 : Nat) : Int)) = (n : Int) by omega, Int.tmod_self]; rfl
  | i + 1, hi =>
    refine ⟨n - (i + 1), ?_, by omega, ?_⟩
    · rw [Int.tmod_eq_of_lt (by omega) (by omega)]; omega
    · rw [rd35 (l := s :: p) (by simp; omega), rd35 (l := s :: p.reverse) (by simp; omega), List.getElem_cons_succ]
      have e : n - (i + 1) = (n - (i + 1) - 1) + 1 := by omega
      have key : ∀ (y : Nat) (h : y < (s :: p.reverse).length), y = (n - (i + 1) - 1) + 1 → (s :: p.reverse)[y] = p[i]'(by omega) := by
        intro y h hy
        subst hy
        rw [List.getElem_cons_succ, List.getElem_reverse]
        congr 1
        omega
      exact (key _ _ e).symm
set_option maxRecDepth 100000 in
set_option maxHeartbeats 8000000 in
theorem back_walk (l : List S40) (A : Option Addr) (c : Nat) (w : World) (hr : Kd.C k40 w A l.length l) (hc : l.length ≤ c) (hm : l.length ≤ 5864062014634) :
    Calls Try.prog 6 #[.slice A l.length c] w fun e w' => e = .returned (.bool true) ∧ Below w.heap.size w w' := by
  have HR := Aside0.mk hr
  by_cases n0 : l.length = 0
  · have q1 : ((l.length : Int) == 0) = true := by rw [beq_iff_eq]; omega
    go_enter Try.func6, Try.ntmps6
    go_wp2_with (go_at_call 10; refine (seriflaw06_pathAlive.calls 60 true _ palK).mono ?_; rintro e w1 ⟨rfl, hb1⟩; have HB1 := Aside0.mk hb1; clear hb1)
    go_ret
    exact ⟨rfl, HB1.out⟩
  have q1 : ((l.length : Int) == 0) = false := by rw [beq_eq_false_iff_ne]; omega
  have l0 : 0 < l.length := by omega
  obtain ⟨X, r, rfl⟩ : ∃ X r, l = X :: r := by cases l with | nil => exact absurd rfl n0 | cons X r => exact ⟨X, r, rfl⟩
  obtain ⟨ad, ea, x0, x1, x2⟩ := at_T40 hr 0 (by omega) (by omega)
  have e0 : rd_T40 (X :: r) 0 = X := rfl
  have a0 : ad.add (Int.toNat 0 * 3) = ad := by rw [show Int.toNat 0 * 3 = 0 from rfl]; exact Addr.add_zero' ad
  rw [a0] at x0 x1 x2
  rw [e0] at x0 x1 x2
  subst ea
  obtain ⟨kx, ky, kk⟩ := X
  dsimp only at x0 x1 x2
  generalize hL : (⟨kx, ky, kk⟩ : S40) :: r = l at *
  have X0 := Aside0.mk x0
  have X1 := Aside0.mk x1
  have X2 := Aside0.mk x2
  have pl : (0 : Int) < (l.length : Int) := by omega
  have plt := eq_true pl
  clear x0 x1 x2 n0 e0
  go_enter Try.func6, Try.ntmps6
  go_upto_region 3 with (go_at_call 10; refine (seriflaw06_pathAlive.calls 60 true _ palK).mono ?_; rintro e w1 ⟨rfl, hb1⟩; have HB1 := Aside0.mk hb1; have x0 := pw_cell_below hb1 X0.out; have x1 := pw_cell_below hb1 X1.out; have x2 := pw_cell_below hb1 X2.out; clear hb1)
  by_cases k1 : kk = 1
  case neg =>
    have k2 : (kk != 1) = true := by rw [bne_iff_ne]; exact k1
    go_wp2
    go_ret
    exact ⟨rfl, HB1.out⟩
  subst k1
  go_upto_block 0 with ((with_reducible refine gate_dst (N := 26) rfl ?_); refine Kd.R_lit k40 _ 40 ?hg (N := 26) ?hd (xs := ([⟨kx, ky, 1⟩] : List S40)) (inner := [.int .i64 kx, .int .i64 ky, .int .i64 1]) (ok := fun _ => True) (okp := fun _ => True) ?hr ?hp (fun _ hk => hk) trivial (Below.refl _ _) (Nat.le_refl _) (by simp) ?_; (case hd => rfl); (case hg => rfl); (case hr => first | (go_simp; done) | (go_simp; rfl)); (case hp => exact Reps.c3 (show Kd.M k40 _ _ _ (⟨kx, ky, 1⟩ : S40) [.int .i64 kx, .int .i64 ky, .int .i64 1] from k40_mkM _ _ _ (⟨kx, ky, 1⟩ : S40)) (Reps.none _ _)); intro z3 w3 ho3 hb3 hg_ hn_; clear hg_ hn_; have HO3 := Aside0.mk ho3; have HB3 := Aside0.mk hb3; clear ho3 hb3)
  have R3 := Aside0.mk (Kd.R_lower HO3.out (below_size HB1.out))
  have B3 := Aside0.mk (below_step HB1.out HB3.out)
  have HL := Aside0.mk hL
  clear hL
  go_wp2
  go_loopw [3, 4] (fun v3 v4 wr => ∃ (j : Nat), v4 = .int .i64 j ∧ j < l.length ∧ Aside0 (Kd.R k40 40 wr w.heap.size (fun _ => True) v3 (⟨kx, ky, 1⟩ :: (l.drop (j + 1)).reverse)) ∧ Aside0 (Below w.heap.size w wr)) (fun _ v4 _ => (intOf v4).toNat)
  case atStart =>
    refine ⟨l.length - 1, by rw [show ((l.length - 1 : Nat) : Int) = (l.length : Int) - 1 by omega], by omega, ⟨?_⟩, B3⟩
    rw [List.drop_of_length_le (by omega)]; exact R3.out
  case round =>
    obtain ⟨j, rfl, hj, HO, HB⟩ := hrel
    by_cases hlt : 0 < j
    · have jlt := eq_true (show (0 : Int) < (j : Int) by omega)
      have jp : (0 : Int) ≤ (j : Int) := by omega
      have jq : (j : Int) < (l.length : Int) := by omega
      obtain ⟨ad2, ea2, y0, y1, y2⟩ := at_T40 HR.out (j : Int) jp jq
      injection ea2 with ea2
      subst ea2
      replace jp := eq_true jp
      replace jq := eq_true jq
      rw [rd40 hj] at y0 y1 y2
      rw [Int.toNat_natCast] at y0 y1 y2
      replace y0 := pw_cell_below HB.out y0
      replace y1 := pw_cell_below HB.out y1
      replace y2 := pw_cell_below HB.out y2
      have dj : (l.drop j).reverse = (l.drop (j + 1)).reverse ++ [l[j]] := by rw [List.drop_eq_getElem_cons hj, List.reverse_cons]
      have ln : (l.drop (j + 1)).length ≤ 5864062014634 := by rw [List.length_drop]; omega
      generalize hY : l[j] = Y at y0 y1 y2 dj
      obtain ⟨yx, yy, yk⟩ := Y
      have DJ := Aside0.mk dj
      dsimp only at y0 y1 y2
      clear dj hY
      go_wp2_with ((with_reducible refine gate_builtin (b := .append) (xs := #[.tmp 34, .tmp 39]) rfl ?_); at_builtin; refine Kd.R_append k40 (w0 := w) w.heap.size rfl (.tmp 34) (.tmp 39) 37 40 (.agg #[(.int .i64 0), (.int .i64 0), (.int .i64 0)]) 24 rfl Try.underlying37 info40 rfl (by decide) (by omega) u3 (⟨kx, ky, 1⟩ :: (l.drop (j + 1)).reverse) (⟨yx, yy, yk⟩ : S40) [.int .i64 yx, .int .i64 yy, .int .i64 yk] (fun _ => True) (fun _ => False) rfl (by first | (go_simp; done) | (go_simp; rfl)) ?aP (fun _ hk => hk.elim) ?aF ?aO ?aB ?aS ?aL ?_; (case aP => exact k40_mkM _ _ _ (⟨yx, yy, yk⟩ : S40)); (case aF => exact fun _ _ => trivial); (case aO => exact HO.out); (case aB => exact HB.out); (case aS => exact below_size HB.out); (case aL => rw [List.length_cons, List.length_reverse]; omega); intro v8 w8 r8 b8 hg hat; have R8 := Aside0.mk r8; have B8 := Aside0.mk b8; clear r8 b8 hg hat)
      refine ⟨⟨j - 1, ?_, by omega, ⟨?_⟩, B8⟩, ?_⟩
      · rw [show ((j - 1 : Nat) : Int) = (j : Int) - 1 by omega]
      · rw [show j - 1 + 1 = j by omega, DJ.out]; exact R8.out
      · show (_ : Nat) < _
        simp only [intOf]; omega
    · have jn := eq_false (show ¬ (0 : Int) < (j : Int) by omega)
      have jn2 := eq_false hlt
      have jn3 : decide ((0 : Int) < (j : Int)) = false := decide_eq_false (by omega)
      have dr : l.drop (j + 1) = r := by rw [show j + 1 = 1 by omega, ← HL.out]; rfl
      rw [dr] at HO
      have rl : r.length ≤ 5864062014634 := by have := congrArg List.length HL.out; rw [List.length_cons] at this; omega
      have M1 : memO [l] := ⟨by simp, fun c hc => by rw [List.mem_singleton.1 hc]; exact hm⟩
      have rl1 : ((⟨kx, ky, 1⟩ : S40) :: r.reverse).length ≤ 5864062014634 := by rw [List.length_cons, List.length_reverse]; have := congrArg List.length HL.out; rw [List.length_cons] at this; omega
      have M2 : memO [(⟨kx, ky, 1⟩ : S40) :: r.reverse] := ⟨by simp, fun c hc => by rw [List.mem_singleton.1 hc]; exact rl1⟩
      have bf := back_flat ⟨kx, ky, 1⟩ rfl r
      rw [HL.out] at bf
      obtain ⟨kc, cp⟩ := (copy_ev [l] M1).rounds
      obtain ⟨kf, fp⟩ := (flat_ev [l] M1).rounds
      obtain ⟨kg, gp⟩ := (flat_ev [(⟨kx, ky, 1⟩ : S40) :: r.reverse] M2).rounds
      have CP := Aside0.mk cp
      obtain ⟨q, hq⟩ : ∃ q, q = (⟨kx, ky, 1⟩ : S40) :: r.reverse := ⟨_, rfl⟩
      rw [← hq] at gp bf HO
      obtain ⟨F1, e1, hF1⟩ : ∃ a b, FL [l] = (a, b) := ⟨_, _, rfl⟩
      obtain ⟨G1, g1, hG1⟩ : ∃ a b, FL [q] = (a, b) := ⟨_, _, rfl⟩
      rw [hF1] at fp bf
      rw [hG1] at gp bf
      have FP := Aside0.mk fp
      have GP := Aside0.mk gp
      have BF := Aside0.mk bf
      have HC := Aside0.mk hc
      clear hF1 hG1 cp fp gp bf M1 M2 rl rl1 dr hq hc hj hlt HL
      obtain ⟨A3, c3, rfl⟩ := Kd.R_slice HO.out
      have C3 := Aside0.mk (Kd.R_reads' HO.out).2.2
      have D3 := Aside0.mk (Kd.R_reads' HO.out).2.1
      go_upto_region 11 with (first | (go_at_call 11; refine (serifref06_Copy.calls kc (some ⟨wr.heap.size, 0, none⟩) 1 [l] [l] _ ?h1 (by simp) CP.out).mono ?_; (case h1 => exact C_sing (blk_new wr _) (Kd.C_alloc (Kd.C_below HR.out HB.out) _) HC.out); rintro e w9 ⟨v9, rfl, s9, hb9⟩; obtain ⟨A9, c9, rfl⟩ := Kd.R_slice (Kd.S_R s9); have S9 := Aside0.mk (Kd.S_reads' s9); have B9 := Aside0.mk (below_step (below_alloc HB.out _) hb9); have C9 := Aside0.mk (Kd.C_below (Kd.C_alloc C3.out _) hb9); clear s9 hb9) | (go_at_call 13; refine (path_Flat.calls kf A9 c9 [l] F1 e1 _ ?h2 ?h3 FP.out).mono ?_; (case h2 => exact S9.out.2.2); (case h3 => exact S9.out.2.1); rintro e w10 ⟨v10, rfl, s10, hb10⟩; obtain ⟨A10, c10, rfl⟩ := Kd.R_slice (Kd.S_R s10); have S10 := Aside0.mk (Kd.S_reads' s10); have B10 := Aside0.mk (below_step B9.out hb10); have C10 := Aside0.mk (Kd.C_below C9.out hb10); clear s10 hb10))
      go_upto_region 12 with (go_at_call 13; refine (path_Flat.calls kg (some ⟨w10.heap.size, 0, none⟩) 1 [q] G1 g1 _ ?h4 (by simp) GP.out).mono ?_; (case h4 => exact C_sing (blk_new w10 _) (Kd.C_alloc C10.out _) D3.out); rintro e w11 ⟨v11, rfl, s11, hb11⟩; obtain ⟨A11, c11, rfl⟩ := Kd.R_slice (Kd.S_R s11); have S11 := Aside0.mk (Kd.S_reads' s11); have B11 := Aside0.mk (below_step (below_alloc B10.out _) hb11); have T10 := Aside0.mk (Kd.C_below (Kd.C_alloc S10.out.2.2 _) hb11); clear s11 hb11)
      have bf := BF.out
      rcases bf with ⟨hne, heq⟩ | ⟨s, p, hF, hG⟩
      · subst heq
        have b0 : (g1 != g1) = false := by simp
        have b1 : (g1 != 0) = true := by rw [bne_iff_ne]; exact hne
        have b2 : (g1 == g1) = true := by simp
        go_wp2
        go_ret
        exact ⟨rfl, B11.out⟩
      · injection hF with f1 f2
        injection hG with f3 f4
        subst f1 f2 f3 f4
        obtain ⟨ad5, A5, c5, e5, h5, l5, i5⟩ := at_L4 T10.out 0 (by omega) (by simp)
        obtain ⟨ad7, A7, c7, e7, h7, l7, i7⟩ := at_L4 S11.out.2.2 0 (by omega) (by simp)
        subst e5 e7
        rw [show Int.toNat 0 = 0 from rfl, Addr.add_zero'] at h5 h7
        have r5 : rd_L4 [s :: p] 0 = s :: p := rfl
        have r7 : rd_L4 [s :: p.reverse] 0 = s :: p.reverse := rfl
        rw [r5] at h5 l5 i5
        rw [r7] at h7 l7 i7
        have n7 : (s :: p.reverse).length = (s :: p).length := by simp
        have bn : (((s :: p).length : Int) != ((s :: p).length : Int)) = false := by simp
        rw [n7] at h7 l7 i7
        generalize hn : (s :: p).length = n at *
        have I5 := Aside0.mk i5
        have I7 := Aside0.mk i7
        have HN := Aside0.mk hn
        clear hn i5 i7 r5 r7
        go_wp2
        repeat (go_quiet (fail); try go_wp2)
        go_loopw [91] (fun v91 wr2 => ∃ (i m : Nat), v91 = .int .i64 i ∧ i ≤ n ∧ wr2 = w11.drewN m) (fun v91 _ => n - (intOf v91).toNat)
        case atStart => exact ⟨0, _, rfl, Nat.zero_le _, rfl⟩
        case round =>
          obtain ⟨i, m, rfl, hi, rfl⟩ := hrel
          by_cases hlt2 : i < n
          · have ilt := eq_true (show (i : Int) < (n : Int) by omega)
            have ip := eq_true (show (0 : Int) ≤ (i : Int) by omega)
            obtain ⟨ad6, e6, p0, p1⟩ := at_T35 I5.out (i : Int) (by omega) (by omega)
            subst e6
            rw [Int.toNat_natCast] at p0 p1
            obtain ⟨x, hx, hxn, hxe⟩ : ∃ x : Nat, ((n : Int) - (i : Int)).tmod (n : Int) = (x : Int) ∧ x < n ∧ rd_T35 (s :: p) (i : Int) = rd_T35 (s :: p.reverse) (x : Int) := back_at HN.out hlt2
            have n1 : ((n : Int) == 0) = false := by rw [beq_eq_false_iff_ne]; omega
            have n2 : ((n : Int) = 0) = False := eq_false (by omega)
            have n3 : (n = 0) = False := eq_false (by omega)
            have xp := eq_true (show (0 : Int) ≤ (x : Int) by omega)
            have xn := eq_true (show (x : Int) < (n : Int) by omega)
            obtain ⟨ad8, e8, t0, t1⟩ := at_T35 I7.out (x : Int) (by omega) (by omega)
            subst e8
            rw [Int.toNat_natCast] at t0 t1
            rw [← hxe] at t0 t1
            generalize rd_T35 (s :: p) (i : Int) = Z at p0 p1 t0 t1
            obtain ⟨zx, zy⟩ := Z
            dsimp only at p0 p1 t0 t1
            have hw : IntKind.i64.wrap ((n : Int) - (i : Int)) = (n : Int) - (i : Int) := by
              have := I5.out.2.1
              rw [IntKind.wrap_i64]; omega
            go_upto_region 20 with fail
            go_quiet (fail)
            go_wp2
            have wi : wrap64 ((i : Int) + 1) = ((i + 1 : Nat) : Int) := by
              have h5 := I5.out.2.1
              rw [w64 (n := (i : Int) + 1) (by omega) (by omega)]; omega
            rw [wi]
            refine ⟨⟨i + 1, _, rfl, by omega, rfl⟩, ?_⟩
            show (_ : Nat) < _
            simp only [intOf]; omega
          · have iln := eq_false (show ¬ (i : Int) < (n : Int) by omega)
            have iln2 := eq_false hlt2
            go_wp2
            go_ret
            exact ⟨rfl, pw_below_drewN B11.out _⟩
end Go.Proofs.Ytmlkpadlafjfeaa.P
