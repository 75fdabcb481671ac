import Derived.Test.YtmlkpadlafjfeaaPathCubP
import Derived.Test.YtmlkpadlafjfeaaPx90
import Derived.Test.YtmlkpadlafjfeaaPx15
import Derived.Test.YtmlkpadlafjfeaaPx16
namespace Go.Proofs.Ytmlkpadlafjfeaa.P
open Go.RowKit Go.Proofs.YtmlkpadlafjfeaaW.PrintWords Go.Proofs.YtmlkpadlafjfeaaW.PrintLast Go.Proofs.YtmlkpadlafjfeaaW.PrintMore
attribute [local go_sem] zH zK zU zT zB zC zJ zI
set_option linter.unusedVariables false
set_option linter.unusedSimpArgs false
def ctL (k : Nat) (sx sy : Int) (rest : List S40) : Nat → Int → List S35 → Int → Int → Bool → Option (List S35 × Bool)
  | 0, _, _, _, _, _ => none
  | m + 1, i, out, x, y, cl =>
    if i < (rest.length : Int) then
      (if 800000 < out.length then none
       else if (ql rest i).f2 = 1 then ctL k sx sy rest m (i + 1) (out ++ [⟨(ql rest i).f0, (ql rest i).f1⟩]) (ql rest i).f0 (ql rest i).f1 cl
       else if (ql rest i).f2 = 2 then
         (if kdF rest (i + 1) = 2 then (zM.f k (ql rest i).f0 (ql rest i).f1 2 (ql rest (i + 1)).f0 (ql rest (i + 1)).f1 (ql rest (i + 1)).f2).bind fun mm => (Zw k x y (ql rest i).f0 (ql rest i).f1 mm.1 mm.2).bind fun pts => ctL k sx sy rest m (i + 1) (out ++ pts) (Qi x y pts).f0 (Qi x y pts).f1 cl
          else if kdF rest (i + 1) = 3 then some ([], false)
          else if i + 1 = (rest.length : Int) then (Zw k x y (ql rest i).f0 (ql rest i).f1 sx sy).bind fun pts => ctL k sx sy rest m (i + 2) (out ++ pts) (Qi x y pts).f0 (Qi x y pts).f1 true
          else (Zw k x y (ql rest i).f0 (ql rest i).f1 (ql rest (i + 1)).f0 (ql rest (i + 1)).f1).bind fun pts => ctL k sx sy rest m (i + 2) (out ++ pts) (Qi x y pts).f0 (Qi x y pts).f1 false)
       else if (ql rest i).f2 = 3 then
         (if kdF rest (i + 1) ≠ 3 then some ([], false)
          else if kdF rest (i + 2) = 3 then some ([], false)
          else if kdF rest (i + 2) = 2 then some ([], false)
          else if i + 2 = (rest.length : Int) then (Zf k x y (ql rest i).f0 (ql rest i).f1 (ql rest (i + 1)).f0 (ql rest (i + 1)).f1 sx sy).bind fun pts => ctL k sx sy rest m (i + 3) (out ++ pts) (Qi x y pts).f0 (Qi x y pts).f1 true
          else (Zf k x y (ql rest i).f0 (ql rest i).f1 (ql rest (i + 1)).f0 (ql rest (i + 1)).f1 (ql rest (i + 2)).f0 (ql rest (i + 2)).f1).bind fun pts => ctL k sx sy rest m (i + 3) (out ++ pts) (Qi x y pts).f0 (Qi x y pts).f1 false)
       else none)
    else some (if cl = true ∧ 1 < out.length then out.take (out.length - 1) else out, true)
def jm.f (k : Nat) (l0 : List S40) : Option (List S35 × Bool) :=
  if l0.length = 0 then some ([], true) else (zg.f k l0).bind fun r => if r.2.2.2 = false then some ([], false) else if r.2.2.1.length ≤ 100000 then ctL k r.1 r.2.1 r.2.2.1 (r.2.2.1.length + 1) 0 [⟨r.1, r.2.1⟩] r.1 r.2.1 false else none
theorem zP.gb {w0 W : World} {P : List Nat} {g : Nat} {out : List S35} {x y : Int} (h : zP w0 W P g out x y) : w0.heap.size ≤ g := by obtain ⟨v, _, _, _, h4, _⟩ := h; exact h4
theorem pen_start (w : World) (o1 o2 : Obj) : ∃ W bS bR g, W = ((w.alloc o1).alloc o2).alloc (.cells #[.slice none 0 0, .int .i64 0, .int .i64 0] 89) ∧ w.heap.size = bS ∧ w.heap.size + 1 = bR ∧ w.heap.size + 1 + 1 = g ∧ zP w W [g, bR, bS] g [] 0 0 ∧ W.heap[bS]? = some o1 ∧ W.heap[bR]? = some o2 ∧ bS ≠ g ∧ bR ≠ g := by
  have e1 : (w.alloc o1).heap.size = w.heap.size + 1 := QM _ _
  have e2 : ((w.alloc o1).alloc o2).heap.size = w.heap.size + 1 + 1 := by rw [QM, e1]
  refine ⟨_, _, _, _, rfl, rfl, rfl, rfl, ⟨.slice none 0 0, by rw [← e2]; exact zu _ _, Kd.QF _ _ _ _ _, by simp, by omega, qw (qw (qw (Below.refl _ _) _) _) _, fun k hk => ?_⟩, qg (qg (zu w o1) o2) _, qg (by rw [← e1]; exact zu (w.alloc o1) o2) _, by omega, by omega⟩
  rw [QM, e2]
  simp at hk
  omega
set_option maxRecDepth 100000 in
set_option maxHeartbeats 16000000 in
theorem jm.calls (k : Nat) (A0 : Option Addr) (c0 : Nat) (l0 : List S40) (r1 : List S35) (r2 : Bool) (w : World) (hr0 : Kd.C k40 w A0 l0.length l0) (hc0 : l0.length ≤ c0) (h : jm.f k l0 = some (r1, r2)) :
    Calls Try.prog 29 #[.slice A0 l0.length c0] w fun e w' => ∃ v1_, e = .returned (.tuple #[v1_, .bool r2]) ∧ Kd.R k35 35 w' w.heap.size (fun _ => True) v1_ r1 ∧ Below w.heap.size w w' := by
  unfold jm.f at h
  have HR := qa.mk hr0
  by_cases n0 : l0.length = 0
  · rw [if_pos n0] at h
    injection h with h; injection h with e1 e2
    subst e1 e2
    have q0 : (l0.length : Int) = 0 := by omega
    have q1 : ((l0.length : Int) == 0) = true := by rw [beq_iff_eq]; exact q0
    go_enter Try.func29, Try.ntmps29
    go_wp2
    go_ret2
    exact ⟨_, rfl, Kd.QF _ _ _ _ _, by repeat (first | exact Below.refl _ _ | apply qw | apply qC | apply jf)⟩
  · rw [if_neg n0] at h
    obtain ⟨⟨sx, sy, rest, ok⟩, h1, h⟩ := Option.bind_eq_some_iff.mp h
    dsimp only at h
    have HV := qa.mk (show Kd.V k40 40 w w.heap.size (fun k_ => k_ < w.heap.size) (.slice A0 l0.length c0) l0 from Kd.V_mk hc0 (Kd.C_F hp40 hr0))
    have q1 : ((l0.length : Int) == 0) = false := by rw [beq_eq_false_iff_ne]; omega
    cases ok with
    | false =>
      rw [if_pos rfl] at h
      injection h with h; injection h with e1 e2
      subst e1 e2
      have H1 := qa.mk h1
      clear h1
      go_enter Try.func29, Try.ntmps29
      go_wp2_with (go_at_call 46; refine (zg.calls k (fun k_ => k_ < w.heap.size) A0 c0 l0 sx sy rest false w HV.out H1.out).mono ?_; rintro e w1 ⟨v2, rfl, hv2, hb1⟩; obtain ⟨A1, c1, rfl⟩ := Kd.V_slice hv2; have HB1 := qa.mk hb1; clear hv2 hb1)
      go_ret2
      exact ⟨_, rfl, Kd.QF _ _ _ _ _, by repeat (first | exact HB1.out | apply qw | apply qC | apply jf)⟩
    | true =>
    rw [if_neg (by simp)] at h
    have hrl : rest.length ≤ 100000 := Classical.byContradiction fun z => by rw [if_neg z] at h; cases h
    rw [if_pos hrl] at h
    have H1 := qa.mk h1
    have H2 := qa.mk h
    clear h h1 hr0
    go_enter Try.func29, Try.ntmps29
    go_upto_region 4 with (go_at_call 46; refine (zg.calls k (fun k_ => k_ < w.heap.size) A0 c0 l0 sx sy rest true w HV.out H1.out).mono ?_; rintro e w1 ⟨v2, rfl, hv2, hb1⟩; obtain ⟨A1, c1, rfl⟩ := Kd.V_slice hv2; have HV1 := qa.mk hv2; have HB1 := qa.mk hb1; clear hv2 hb1)
    go_upto_region 7 with fail
    obtain ⟨W, bS, bR, g, eW, eS, eR, eg, I0, S0, R0, nS, nR⟩ := pen_start w1 (Obj.cells #[.int .i64 sx, .int .i64 sy] 35) (Obj.cells #[.slice A1 rest.length c1] 37)
    rw [← eW, eg, eR, eS]
    have I0' := qa.mk I0
    have S0' := qa.mk S0
    have R0' := qa.mk R0
    have s0 : W.cell? ⟨bS, 0, none⟩ = some (.int .i64 sx) := (qb S0 0).trans rfl
    have s1 : W.cell? ⟨bS, 1, none⟩ = some (.int .i64 sy) := (qb S0 1).trans rfl
    have r0 : W.cell? ⟨bR, 0, none⟩ = some (.slice A1 rest.length c1) := (qb R0 0).trans rfl
    clear eW eS eR eg I0 S0 R0
    go_upto_block 0 with (go_at_call 47; refine (JS w1 W [g, bR, bS] g [] 0 0 sx sy (by simp) I0').mono ?_; rintro e w2 ⟨rfl, i2, k2⟩; have I2 := qa.mk i2; have S2 := qa.mk ((k2.2 bS (by simp) nS).trans S0'.out); have R2 := qa.mk ((k2.2 bR (by simp) nR).trans R0'.out); clear i2 k2)
    go_wp2
    go_loopw [9, 10] (fun v9 v10 wr => ∃ (m : Nat) (i : Int) (out : List S35) (x y : Int) (cl : Bool), v9 = .bool cl ∧ v10 = .int .i64 i ∧ 0 ≤ i ∧ i ≤ (rest.length : Int) + 1 ∧ qa (ctL k sx sy rest m i out x y cl = some (r1, r2)) ∧ qa (zP w1 wr [g, bR, bS] g out x y) ∧ qa (wr.heap[bS]? = some (Obj.cells #[.int .i64 sx, .int .i64 sy] 35 (0, 0))) ∧ qa (wr.heap[bR]? = some (Obj.cells #[.slice A1 rest.length c1] 37 (0, 0)))) (fun _ v10 _ => ((rest.length : Int) + 2 - intOf v10).toNat)
    case atStart => exact ⟨rest.length + 1, 0, [⟨sx, sy⟩], sx, sy, false, rfl, rfl, by omega, by omega, H2, I2, S2, R2⟩
    case round =>
      obtain ⟨m, i, out, x, y, cl, rfl, rfl, i0, i1, HL, HI, HS, HRr⟩ := hrel
      have cr : wr.cell? ⟨bR, 0, none⟩ = some (.slice A1 rest.length c1) := (qb HRr.out 0).trans rfl
      have BW : Below w1.heap.size w1 wr := by obtain ⟨v, _, _, _, _, h5, _⟩ := HI.out; exact h5
      have hC1 := (Kd.QN HV1.out).2.2
      have lm := hC1.2.1
      by_cases hlt : i < (rest.length : Int)
      · obtain ⟨m, rfl⟩ : ∃ p, m = p + 1 := by
          cases m with
          | zero => have := HL.out; simp [ctL] at this
          | succ m => exact ⟨m, rfl⟩
        have hl := HL.out
        simp only [ctL] at hl
        rw [if_pos hlt] at hl
        by_cases ol : 800000 < out.length
        · rw [if_pos ol] at hl; cases hl
        rw [if_neg ol] at hl
        obtain ⟨ad, ea, x0, x1, x2⟩ := jh hC1 i i0 hlt
        subst ea
        replace x0 := qc BW x0
        replace x1 := qc BW x1
        replace x2 := qc BW x2
        have BW' := qa.mk BW
        have HC1 := qa.mk hC1
        generalize hX : ql rest i = X at hl x0 x1 x2
        obtain ⟨kx, ky, kk⟩ := X
        dsimp only at hl x0 x1 x2
        clear BW hC1 HL
        go_upto_region 13 with fail
        obtain ⟨W5, bk, e5, ek, i5, k5, b5⟩ : ∃ W5 bk, W5 = wr.alloc (Obj.cells #[.int .i64 kx, .int .i64 ky, .int .i64 kk] 40) ∧ wr.heap.size = bk ∧ zP w1 W5 [bk, g, bR, bS] g out x y ∧ W5.heap[bk]? = some (.cells #[.int .i64 kx, .int .i64 ky, .int .i64 kk] 40 (0, 0)) ∧ Below wr.heap.size wr W5 := ⟨_, _, rfl, rfl, HI.out.guard _, zu _ _, qw (Below.refl _ _) _⟩
        rw [← e5, ek]
        have I5 := qa.mk (i5.weak (P' := [g, bR, bS]) (fun k hk => List.mem_cons_of_mem _ hk) (by simp))
        have K5 := qa.mk k5
        have S5 := qa.mk ((b5.block _ (qy HS.out)).trans HS.out)
        have R5 := qa.mk ((b5.block _ (qy HRr.out)).trans HRr.out)
        have C5 := qa.mk (Kd.jb HC1.out (qh BW'.out b5))
        have c50 : W5.cell? ⟨bk, 0, none⟩ = some (.int .i64 kx) := (qb k5 0).trans rfl
        have c51 : W5.cell? ⟨bk, 1, none⟩ = some (.int .i64 ky) := (qb k5 1).trans rfl
        have c52 : W5.cell? ⟨bk, 2, none⟩ = some (.int .i64 kk) := (qb k5 2).trans rfl
        clear e5 ek i5 k5 b5 x0 x1 x2 cr
        by_cases k1 : kk = 1
        · subst k1
          rw [if_pos rfl] at hl
          have HL := qa.mk hl
          clear hl
          go_wp2_with (first | (go_at_call 49; refine (jD.calls kx ky 1 kx ky _ rfl).mono ?_; rintro e w6 ⟨rfl, hb6⟩; have I6 := qa.mk (I5.out.below hb6); have S6 := qa.mk ((hb6.block _ (qy S5.out)).trans S5.out); have R6 := qa.mk ((hb6.block _ (qy R5.out)).trans R5.out); clear hb6) | (go_at_call 47; refine (JS w1 _ [g, bR, bS] g out x y kx ky (by omega) I6).mono ?_; rintro e w7 ⟨rfl, i7, k7⟩; have I7 := qa.mk i7; have S7 := qa.mk ((k7.2 bS (by simp) nS).trans S6.out); have R7 := qa.mk ((k7.2 bR (by simp) nR).trans R6.out); clear i7 k7))
          refine ⟨⟨m, i + 1, _, kx, ky, cl, rfl, rfl, by omega, by omega, HL, I7, S7, R7⟩, ?_⟩
          show (_ : Nat) < _
          simp only [intOf]
          omega
        · rw [if_neg k1] at hl
          by_cases k2 : kk = 2
          case neg =>
            rw [if_neg k2] at hl
            have k9 : kk = 3 := Classical.byContradiction fun z => by rw [if_neg z] at hl; cases hl
            rw [if_pos k9] at hl
            subst k9
            by_cases k3 : kdF rest (i + 1) ≠ 3
            · rw [if_pos k3] at hl
              injection hl with hl; injection hl with h1 h2
              subst h1 h2
              obtain ⟨kv, hkv⟩ : ∃ v, v = kdF rest (i + 1) := ⟨_, rfl⟩
              have n3 : (kv == 3) = false := by rw [beq_eq_false_iff_ne, hkv]; exact k3
              have n3' : (kv != 3) = true := by rw [bne_iff_ne, hkv]; exact k3
              have K31 := qa.mk hkv.symm
              clear hkv k3 k1 k2
              go_wp2_with (go_at_call 48; (with_reducible refine (Qx _ rest (some ad) c1 bR (i + 1) kv (by omega) R5.out C5.out K31.out).mono ?_); rintro e w6 ⟨rfl, hb6⟩; have I6 := qa.mk (I5.out.below hb6); have S6 := qa.mk ((hb6.block _ (qy S5.out)).trans S5.out); have R6 := qa.mk ((hb6.block _ (qy R5.out)).trans R5.out); have K6 := qa.mk ((hb6.block _ (qy K5.out)).trans K5.out); have C6 := qa.mk (Kd.jb C5.out hb6); have c62 : w6.cell? ⟨bk, 2, none⟩ = some (.int .i64 3) := (qb K6.out 2).trans rfl; clear hb6)
              go_ret2
              exact ⟨_, rfl, Kd.QF _ _ _ _ _, qh HB1.out (by obtain ⟨v, _, _, _, _, h5, _⟩ := I6.out; exact h5)⟩
            rw [if_neg k3] at hl
            have k3 : kdF rest (i + 1) = 3 := Classical.not_not.1 k3
            have i2 : i + 1 < (rest.length : Int) := Classical.byContradiction fun z => by unfold kdF at k3; rw [if_neg z] at k3; omega
            have K31 := qa.mk k3
            by_cases k4 : kdF rest (i + 2) = 3
            · rw [if_pos k4] at hl
              injection hl with hl; injection hl with h1 h2
              subst h1 h2
              have K32 : qa (kdF rest (i + 3 - 1) = 3) := ⟨by rw [show i + 3 - 1 = i + 2 by omega]; exact k4⟩
              clear k3 k4 k1 k2
              go_upto_region 19 with fail
              go_wp2_with (first | (go_at_call 48; (with_reducible refine (Qx _ rest (some ad) c1 bR (i + 1) 3 (by omega) R5.out C5.out K31.out).mono ?_); rintro e w6 ⟨rfl, hb6⟩; have I6 := qa.mk (I5.out.below hb6); have S6 := qa.mk ((hb6.block _ (qy S5.out)).trans S5.out); have R6 := qa.mk ((hb6.block _ (qy R5.out)).trans R5.out); have K6 := qa.mk ((hb6.block _ (qy K5.out)).trans K5.out); have C6 := qa.mk (Kd.jb C5.out hb6); have c62 : w6.cell? ⟨bk, 2, none⟩ = some (.int .i64 3) := (qb K6.out 2).trans rfl; clear hb6) | (go_at_call 48; (with_reducible refine (Qx _ rest (some ad) c1 bR (i + 3 - 1) 3 (by omega) R6.out C6.out K32.out).mono ?_); rintro e w7 ⟨rfl, hb7⟩; have I7 := qa.mk (I6.out.below hb7); have S7 := qa.mk ((hb7.block _ (qy S6.out)).trans S6.out); have R7 := qa.mk ((hb7.block _ (qy R6.out)).trans R6.out); have K7 := qa.mk ((hb7.block _ (qy K6.out)).trans K6.out); have C7 := qa.mk (Kd.jb C6.out hb7); have c72 : w7.cell? ⟨bk, 2, none⟩ = some (.int .i64 3) := (qb K7.out 2).trans rfl; clear hb7))
              go_ret2
              exact ⟨_, rfl, Kd.QF _ _ _ _ _, qh HB1.out (by obtain ⟨v, _, _, _, _, h5, _⟩ := I7.out; exact h5)⟩
            rw [if_neg k4] at hl
            by_cases k5 : kdF rest (i + 2) = 2
            case neg =>
              rw [if_neg k5] at hl
              obtain ⟨kw, hkw⟩ : ∃ v, v = kdF rest (i + 2) := ⟨_, rfl⟩
              have n2 : (kw == 2) = false := by rw [beq_eq_false_iff_ne, hkw]; exact k5
              have n3 : (kw == 3) = false := by rw [beq_eq_false_iff_ne, hkw]; exact k4
              have K32 : qa (kdF rest (i + 3 - 1) = kw) := ⟨by rw [show i + 3 - 1 = i + 2 by omega]; exact hkw.symm⟩
              have K33 := qa.mk hkw.symm
              clear k3 k4 k5 k1 k2 hkw
              go_upto_region 21 with (first | (go_at_call 48; (with_reducible refine (Qx _ rest (some ad) c1 bR (i + 1) 3 (by omega) R5.out C5.out K31.out).mono ?_); rintro e w6 ⟨rfl, hb6⟩; have I6 := qa.mk (I5.out.below hb6); have S6 := qa.mk ((hb6.block _ (qy S5.out)).trans S5.out); have R6 := qa.mk ((hb6.block _ (qy R5.out)).trans R5.out); have K6 := qa.mk ((hb6.block _ (qy K5.out)).trans K5.out); have C6 := qa.mk (Kd.jb C5.out hb6); have c62 : w6.cell? ⟨bk, 2, none⟩ = some (.int .i64 3) := (qb K6.out 2).trans rfl; clear hb6) | (go_at_call 48; (with_reducible refine (Qx _ rest (some ad) c1 bR (i + 3 - 1) kw (by omega) R6.out C6.out K32.out).mono ?_); rintro e w7 ⟨rfl, hb7⟩; have I7 := qa.mk (I6.out.below hb7); have S7 := qa.mk ((hb7.block _ (qy S6.out)).trans S6.out); have R7 := qa.mk ((hb7.block _ (qy R6.out)).trans R6.out); have K7 := qa.mk ((hb7.block _ (qy K6.out)).trans K6.out); have C7 := qa.mk (Kd.jb C6.out hb7); have c72 : w7.cell? ⟨bk, 2, none⟩ = some (.int .i64 3) := (qb K7.out 2).trans rfl; clear hb7))
              go_upto_region 23 with (go_at_call 48; (with_reducible refine (Qx _ rest (some ad) c1 bR (i + 2) kw (by omega) R7.out C7.out K33.out).mono ?_); rintro e w9 ⟨rfl, hb9⟩; have I9 := qa.mk (I7.out.below hb9); have S9 := qa.mk ((hb9.block _ (qy S7.out)).trans S7.out); have R9 := qa.mk ((hb9.block _ (qy R7.out)).trans R7.out); have K9 := qa.mk ((hb9.block _ (qy K7.out)).trans K7.out); have C9 := qa.mk (Kd.jb C7.out hb9); have c92 : w9.cell? ⟨bk, 2, none⟩ = some (.int .i64 3) := (qb K9.out 2).trans rfl; clear hb9)
              have s90 : w9.cell? ⟨bS, 0, none⟩ = some (.int .i64 sx) := (qb S9.out 0).trans rfl
              have s91 : w9.cell? ⟨bS, 1, none⟩ = some (.int .i64 sy) := (qb S9.out 1).trans rfl
              have r90 : w9.cell? ⟨bR, 0, none⟩ = some (.slice (some ad) rest.length c1) := (qb R9.out 0).trans rfl
              have lR9 := qy R9.out
              have OLN : qa (out.length ≤ 800000) := ⟨by omega⟩
              clear c50 c51 c52 c62 c72
              have lk9 := qy K9.out
              by_cases i3 : i + 2 = (rest.length : Int)
              · rw [if_pos i3] at hl
                obtain ⟨pts, hq1, hl⟩ := Option.bind_eq_some_iff.mp hl
                have HL := qa.mk hl
                obtain ⟨ad2, ea2, y0, y1, y2⟩ := jh C9.out (i + 1) (by omega) i2
                injection ea2 with ea2
                subst ea2
                generalize hY : ql rest (i + 1) = Y at hq1 y0 y1 y2
                obtain ⟨ux, uy, uk⟩ := Y
                dsimp only at hq1 y0 y1 y2
                have HQ := qa.mk hq1
                have qe : ((i + 2 : Int) == (rest.length : Int)) = true := by rw [beq_iff_eq]; exact i3
                clear hl hq1 hY
                go_upto_region 28 with fail
                obtain ⟨W6, bt, e6, et, i6, k6, s6, r6, t6, b6⟩ : ∃ W6 bt, W6 = w9.alloc (Obj.cells #[.int .i64 sx, .int .i64 sy] 35) ∧ w9.heap.size = bt ∧ zP w1 W6 [g, bR, bS] g out x y ∧ W6.heap[bk]? = some (.cells #[.int .i64 kx, .int .i64 ky, .int .i64 3] 40 (0, 0)) ∧ W6.heap[bS]? = some (.cells #[.int .i64 sx, .int .i64 sy] 35 (0, 0)) ∧ W6.heap[bR]? = some (.cells #[.slice (some ad) rest.length c1] 37 (0, 0)) ∧ W6.heap[bt]? = some (.cells #[.int .i64 sx, .int .i64 sy] 35 (0, 0)) ∧ Below w9.heap.size w9 W6 := ⟨_, _, rfl, rfl, I9.out.alloc _, qg K9.out _, qg S9.out _, qg R9.out _, zu _ _, qw (Below.refl _ _) _⟩
                rw [← e6, et]
                have y06 := qc b6 y0
                have y16 := qc b6 y1
                have y26 := qc b6 y2
                have I6 := qa.mk i6
                have Id := qa.mk i6.drew
                have Sd : qa (W6.drew.heap[bS]? = _) := ⟨qd s6⟩
                have Rd : qa (W6.drew.heap[bR]? = _) := ⟨qd r6⟩
                have kd0 : W6.drew.cell? ⟨bk, 0, none⟩ = some (.int .i64 kx) := (qb (qd k6) 0).trans rfl
                have kd1 : W6.drew.cell? ⟨bk, 1, none⟩ = some (.int .i64 ky) := (qb (qd k6) 1).trans rfl
                have kd2 : W6.drew.cell? ⟨bk, 2, none⟩ = some (.int .i64 3) := (qb (qd k6) 2).trans rfl
                have rd0 : W6.drew.cell? ⟨bR, 0, none⟩ = some (.slice (some ad) rest.length c1) := (qb (qd r6) 0).trans rfl
                have td0 : W6.drew.cell? ⟨bt, 0, none⟩ = some (.int .i64 sx) := (qb (qd t6) 0).trans rfl
                have td1 : W6.drew.cell? ⟨bt, 1, none⟩ = some (.int .i64 sy) := (qb (qd t6) 1).trans rfl
                have yd0 : W6.drew.cell? (ad.add ((i + 1).toNat * 3)) = some (.int .i64 ux) := y06
                have yd1 : W6.drew.cell? ⟨(ad.add ((i + 1).toNat * 3)).block, (ad.add ((i + 1).toNat * 3)).off + 1, none⟩ = some (.int .i64 uy) := y16
                have yd2 : W6.drew.cell? ⟨(ad.add ((i + 1).toNat * 3)).block, (ad.add ((i + 1).toNat * 3)).off + 2, none⟩ = some (.int .i64 uk) := y26
                clear e6 et i6 k6 s6 r6 t6 s90 s91 r90 lR9 lk9 c92 y0 y1 y2 y06 y16 y26 b6
                have hwi : wrap64 (i + 1) = i + 1 := by unfold wrap64; omega
                have pi1 : (0 ≤ i + 1) = True := eq_true (by omega)
                have pi2 : (i + 1 < (rest.length : Int)) = True := eq_true i2
                go_upto_region 30 with fail
                refine jS (n := 11) (S := fun w' => w'.cell? ⟨bk, 0, none⟩ = some (.int .i64 kx) ∧ w'.cell? ⟨bk, 1, none⟩ = some (.int .i64 ky) ∧ w'.cell? ⟨bk, 2, none⟩ = some (.int .i64 3) ∧ w'.cell? ⟨bR, 0, none⟩ = some (.slice (some ad) rest.length c1) ∧ w'.cell? (ad.add ((i + 1).toNat * 3)) = some (.int .i64 ux) ∧ w'.cell? ⟨(ad.add ((i + 1).toNat * 3)).block, (ad.add ((i + 1).toNat * 3)).off + 1, none⟩ = some (.int .i64 uy) ∧ w'.cell? ⟨(ad.add ((i + 1).toNat * 3)).block, (ad.add ((i + 1).toNat * 3)).off + 2, none⟩ = some (.int .i64 uk) ∧ w'.cell? ⟨bt, 0, none⟩ = some (.int .i64 sx) ∧ w'.cell? ⟨bt, 1, none⟩ = some (.int .i64 sy)) (ds := [10]) #[false, false, false, false, false, false, false, false, false, false, false] (by kernel_rfl) rfl rfl ⟨kd0, kd1, kd2, rd0, yd0, yd1, yd2, td0, td1⟩ (fun hHeld => ?_)
                refine za (i := 0) (N := some 131) (v := ?_) (a' := ?_) #[true, false, false, false, false, false, false, false, false, false, false] rfl rfl (by kernel_rfl) (fun _ _ _ h => h) (Or.inl ⟨by rfl, ?_⟩) ?_ ?_
                rotate_left
                · intro w'
                  go_simp
                  with_reducible rfl
                rotate_left
                · simp only [Act.put, List.setIfInBounds_toArray, List.set_cons_zero, List.set_cons_succ, qz, qA]
                  rfl
                refine za (i := 4) (N := some 135) (v := ?_) (a' := ?_) #[true, false, false, false, true, false, false, false, false, false, false] rfl rfl (by kernel_rfl) (fun _ _ _ h => h) (Or.inl ⟨by rfl, ?_⟩) ?_ ?_
                rotate_left
                · intro w'
                  go_simp
                  with_reducible rfl
                rotate_left
                · simp only [Act.put, List.setIfInBounds_toArray, List.set_cons_zero, List.set_cons_succ, qz, qA]
                  rfl
                refine za (i := 5) (N := some 136) (v := ?_) (a' := ?_) #[true, false, false, false, true, true, false, false, false, false, false] rfl rfl (by kernel_rfl) (fun _ _ _ h => h) (Or.inl ⟨by rfl, ?_⟩) ?_ ?_
                rotate_left
                · intro w'
                  go_simp
                  with_reducible rfl
                rotate_left
                · simp only [Act.put, List.setIfInBounds_toArray, List.set_cons_zero, List.set_cons_succ, qz, qA]
                  rfl
                refine zD (i := 1) (N := some 132) (v := ?_) (a' := ?_) #[true, true, false, false, true, true, false, false, false, false, false] rfl rfl (by kernel_rfl) (fun _ _ _ h => h) (Or.inl ⟨by rfl, ?_⟩) hHeld ?_ ?_
                rotate_left
                · rintro w' ⟨s0, s1, s2, s3, s4, s5, s6, s7, s8⟩
                  go_simp
                  with_reducible rfl
                rotate_left
                · simp only [Act.put, List.setIfInBounds_toArray, List.set_cons_zero, List.set_cons_succ, qz, qA]
                  rfl
                refine zD (i := 3) (N := some 134) (v := ?_) (a' := ?_) #[true, true, false, true, true, true, false, false, false, false, false] rfl rfl (by kernel_rfl) (fun _ _ _ h => h) (Or.inl ⟨by rfl, ?_⟩) hHeld ?_ ?_
                rotate_left
                · rintro w' ⟨s0, s1, s2, s3, s4, s5, s6, s7, s8⟩
                  go_simp
                  with_reducible rfl
                rotate_left
                · simp only [Act.put, List.setIfInBounds_toArray, List.set_cons_zero, List.set_cons_succ, qz, qA]
                  rfl
                refine za (i := 6) (N := some 137) (v := ?_) (a' := ?_) #[true, true, false, true, true, true, true, false, false, false, false] rfl rfl (by kernel_rfl) (fun _ _ _ h => h) (Or.inl ⟨by rfl, ?_⟩) ?_ ?_
                rotate_left
                · intro w'
                  go_simp
                  with_reducible rfl
                rotate_left
                · simp only [Act.put, List.setIfInBounds_toArray, List.set_cons_zero, List.set_cons_succ, qz, qA]
                  rfl
                refine zD (i := 7) (N := some 138) (v := ?_) (a' := ?_) #[true, true, false, true, true, true, true, true, false, false, false] rfl rfl (by kernel_rfl) (fun _ _ _ h => h) (Or.inl ⟨by rfl, ?_⟩) hHeld ?_ ?_
                rotate_left
                · rintro w' ⟨s0, s1, s2, s3, s4, s5, s6, s7, s8⟩
                  go_simp
                  with_reducible rfl
                rotate_left
                · simp only [Act.put, List.setIfInBounds_toArray, List.set_cons_zero, List.set_cons_succ, qz, qA]
                  rfl
                refine zD (i := 9) (N := some 140) (v := ?_) (a' := ?_) #[true, true, false, true, true, true, true, true, false, true, false] rfl rfl (by kernel_rfl) (fun _ _ _ h => h) (Or.inl ⟨by rfl, ?_⟩) hHeld ?_ ?_
                rotate_left
                · rintro w' ⟨s0, s1, s2, s3, s4, s5, s6, s7, s8⟩
                  go_simp
                  with_reducible rfl
                rotate_left
                · simp only [Act.put, List.setIfInBounds_toArray, List.set_cons_zero, List.set_cons_succ, qz, qA]
                  rfl
                refine jd (i := 2) (N := some 133) #[true, true, true, true, true, true, true, true, false, true, false] rfl rfl (by kernel_rfl) (by decide) (fun K hK => ?_)
                refine zS Try.func49 (by kernel_rfl) rfl #[.agg #[.int .i64 kx, .int .i64 ky, .int .i64 3]] (by rfl) rfl rfl (by simp only [List.map_toArray, List.map_cons, List.map_nil]; rfl) ?_
                refine (jD.calls kx ky 3 kx ky _ rfl).mono ?_
                rintro e w10 ⟨rfl, hb10⟩
                have I10 := qa.mk (Id.out.below hb10)
                have S10 := qa.mk ((hb10.block _ (qy Sd.out)).trans Sd.out)
                have R10 := qa.mk ((hb10.block _ (qy Rd.out)).trans Rd.out)
                refine ⟨_, rfl, ?_⟩
                refine hK.out _ _ ⟨qc hb10 (hHeld.1), qc hb10 (hHeld.2.1), qc hb10 (hHeld.2.2.1), qc hb10 (hHeld.2.2.2.1), qc hb10 (hHeld.2.2.2.2.1), qc hb10 (hHeld.2.2.2.2.2.1), qc hb10 (hHeld.2.2.2.2.2.2.1), qc hb10 (hHeld.2.2.2.2.2.2.2.1), qc hb10 (hHeld.2.2.2.2.2.2.2.2)⟩ (fun hHeld => ?_)
                clear hK K
                refine zo (a' := ?_) ?_ ?_
                rotate_left
                · show Act.put _ (some 133) _ = _
                  simp only [Act.put, List.setIfInBounds_toArray, List.set_cons_zero, List.set_cons_succ, qz, qA]
                  rfl
                refine jd (i := 8) (N := some 139) #[true, true, true, true, true, true, true, true, true, true, false] rfl rfl (by kernel_rfl) (by decide) (fun K hK => ?_)
                refine zS Try.func49 (by kernel_rfl) rfl #[.agg #[.int .i64 ux, .int .i64 uy, .int .i64 uk]] (by rfl) rfl rfl (by simp only [List.map_toArray, List.map_cons, List.map_nil]; rfl) ?_
                refine (jD.calls ux uy uk ux uy _ rfl).mono ?_
                rintro e w11 ⟨rfl, hb11⟩
                have I11 := qa.mk (I10.out.below hb11)
                have S11 := qa.mk ((hb11.block _ (qy S10.out)).trans S10.out)
                have R11 := qa.mk ((hb11.block _ (qy R10.out)).trans R10.out)
                refine ⟨_, rfl, ?_⟩
                refine hK.out _ _ ⟨qc hb11 (hHeld.1), qc hb11 (hHeld.2.1), qc hb11 (hHeld.2.2.1), qc hb11 (hHeld.2.2.2.1), qc hb11 (hHeld.2.2.2.2.1), qc hb11 (hHeld.2.2.2.2.2.1), qc hb11 (hHeld.2.2.2.2.2.2.1), qc hb11 (hHeld.2.2.2.2.2.2.2.1), qc hb11 (hHeld.2.2.2.2.2.2.2.2)⟩ (fun hHeld => ?_)
                clear hK K
                refine zo (a' := ?_) ?_ ?_
                rotate_left
                · show Act.put _ (some 139) _ = _
                  simp only [Act.put, List.setIfInBounds_toArray, List.set_cons_zero, List.set_cons_succ, qz, qA]
                  rfl
                refine QP (i := 10) (N := some 141) #[true, true, true, true, true, true, true, true, true, true, true] rfl rfl (by kernel_rfl) (by decide) (fun K hK => ?_)
                refine zS Try.func52 (by kernel_rfl) rfl #[.pointer (some ⟨g, 0, none⟩), .agg #[.int .i64 kx, .int .i64 ky], .agg #[.int .i64 ux, .int .i64 uy], .agg #[.int .i64 sx, .int .i64 sy]] (by rfl) rfl rfl (by simp only [List.map_toArray, List.map_cons, List.map_nil]; rfl) ?_
                refine (pen_cubic k w1 _ [g, bR, bS] g out pts x y kx ky ux uy sx sy (Nat.le_trans OLN.out (by decide)) I11 HQ).mono ?_
                rintro e w12 ⟨rfl, i12, k12⟩
                have I12 := qa.mk i12
                have S12 := qa.mk ((k12.2 bS (by simp) nS).trans S11.out)
                have R12 := qa.mk ((k12.2 bR (by simp) nR).trans R11.out)
                clear i12 k12
                refine ⟨_, rfl, ?_⟩
                refine hK.out _ _ ?_
                clear hK K
                refine zo (a' := ?_) ?_ ?_
                rotate_left
                · show Act.put _ (some 141) _ = _
                  simp only [Act.put, List.setIfInBounds_toArray, List.set_cons_zero, List.set_cons_succ, qz, qA]
                  rfl
                refine Qa (by kernel_rfl) ?_
                clear hwi pi1 pi2
                go_wp2
                refine ⟨⟨m, i + 3, _, _, _, true, rfl, rfl, by omega, by omega, HL, I12, S12, R12⟩, ?_⟩
                show (_ : Nat) < _
                simp only [intOf]
                omega
              rw [if_neg i3] at hl
              obtain ⟨pts, hq1, hl⟩ := Option.bind_eq_some_iff.mp hl
              have HL := qa.mk hl
              obtain ⟨ad2, ea2, y0, y1, y2⟩ := jh C9.out (i + 1) (by omega) i2
              injection ea2 with ea2
              subst ea2
              generalize hY : ql rest (i + 1) = Y at hq1 y0 y1 y2
              obtain ⟨ux, uy, uk⟩ := Y
              dsimp only at hq1 y0 y1 y2
              have i3 : i + 2 < (rest.length : Int) := by omega
              obtain ⟨ad2, ea2, z0, z1, z2⟩ := jh C9.out (i + 2) (by omega) i3
              injection ea2 with ea2
              subst ea2
              generalize hZ : ql rest (i + 2) = Z at hq1 z0 z1 z2
              obtain ⟨tx, ty, tk⟩ := Z
              dsimp only at hq1 z0 z1 z2
              have HQ := qa.mk hq1
              have qe : ((i + 2 : Int) == (rest.length : Int)) = false := by rw [beq_eq_false_iff_ne]; omega
              clear hl hq1 hY hZ
              go_upto_region 27 with fail
              obtain ⟨W8, bt, e8, et, i8, t8, b8⟩ : ∃ W8 bt, W8 = w9.alloc (Obj.cells #[.int .i64 sx, .int .i64 sy] 35) ∧ w9.heap.size = bt ∧ zP w1 W8 [bt, g, bR, bS] g out x y ∧ W8.heap[bt]? = some (.cells #[.int .i64 sx, .int .i64 sy] 35 (0, 0)) ∧ Below w9.heap.size w9 W8 := ⟨_, _, rfl, rfl, I9.out.guard _, zu _ _, qw (Below.refl _ _) _⟩
              rw [← e8, et]
              have nbt : bt ≠ bR ∧ bt ≠ bS ∧ bt ≠ bk ∧ bt ≠ g := by
                have := qy S9.out; have := I9.out.lt; have h1 := lR9; have h2 := lk9; omega
              have NBT := qa.mk nbt
              have nby := qa.mk (show (ad.add ((i + 1).toNat * 3)).block ≠ bt by rw [← et]; exact fun e => Nat.lt_irrefl _ (e ▸ World.block_lt_of_cell? _ _ y0))
              have I8 := qa.mk i8
              have T8 := qa.mk t8
              have S8 := qa.mk ((b8.block _ (qy S9.out)).trans S9.out)
              have R8 := qa.mk ((b8.block _ (qy R9.out)).trans R9.out)
              have K8 := qa.mk ((b8.block _ (qy K9.out)).trans K9.out)
              have BT := qa.mk (show w1.heap.size ≤ bt by rw [← et]; exact I9.out.base)
              replace z0 := qc b8 z0
              replace z1 := qc b8 z1
              replace z2 := qc b8 z2
              have Y0 := qa.mk (qc b8 y0)
              have Y1 := qa.mk (qc b8 y1)
              have Y2 := qa.mk (qc b8 y2)
              have r80 : W8.cell? ⟨bR, 0, none⟩ = some (.slice (some ad) rest.length c1) := (qb R8.out 0).trans rfl
              have t80 : W8.cell? ⟨bt, 0, none⟩ = some (.int .i64 sx) := (qb t8 0).trans rfl
              have t81 : W8.cell? ⟨bt, 1, none⟩ = some (.int .i64 sy) := (qb t8 1).trans rfl
              clear e8 et i8 t8 b8 lR9 lk9 s90 s91 r90 c92 nbt y0 y1 y2
              go_upto_region 28 with (go_at_call 49; refine (jD.calls tx ty tk tx ty _ rfl).mono ?_; rintro e w0' ⟨rfl, hb0'⟩; have J9 := qa.mk (I8.out.below hb0'); have S0' := qa.mk ((hb0'.block _ (qy S8.out)).trans S8.out); have R0' := qa.mk ((hb0'.block _ (qy R8.out)).trans R8.out); have K0' := qa.mk ((hb0'.block _ (qy K8.out)).trans K8.out); have T0' := qa.mk ((hb0'.block _ (qy T8.out)).trans T8.out); have t90 : w0'.cell? ⟨bt, 0, none⟩ = some (.int .i64 sx) := (qb T0'.out 0).trans rfl; have t91 : w0'.cell? ⟨bt, 1, none⟩ = some (.int .i64 sy) := (qb T0'.out 1).trans rfl; have f90 := qo T0'.out 0; have f91 := qo T0'.out 1; have Y0' := qa.mk (qc hb0' Y0.out); have Y1' := qa.mk (qc hb0' Y1.out); have Y2' := qa.mk (qc hb0' Y2.out); clear hb0')
              obtain ⟨W6, e6, i6, k6, s6, r6, t6, y06, y16, y26⟩ : ∃ W6, W6 = (w0'.setCell ⟨bt, 0, none⟩ (.int .i64 tx)).setCell ⟨bt, 1, none⟩ (.int .i64 ty) ∧ zP w1 W6 [g, bR, bS] g out x y ∧ W6.heap[bk]? = some (.cells #[.int .i64 kx, .int .i64 ky, .int .i64 3] 40 (0, 0)) ∧ W6.heap[bS]? = some (.cells #[.int .i64 sx, .int .i64 sy] 35 (0, 0)) ∧ W6.heap[bR]? = some (.cells #[.slice (some ad) rest.length c1] 37 (0, 0)) ∧ W6.heap[bt]? = some (.cells #[.int .i64 tx, .int .i64 ty] 35 (0, 0)) ∧ W6.cell? (ad.add ((i + 1).toNat * 3)) = some (.int .i64 ux) ∧ W6.cell? ⟨(ad.add ((i + 1).toNat * 3)).block, (ad.add ((i + 1).toNat * 3)).off + 1, none⟩ = some (.int .i64 uy) ∧ W6.cell? ⟨(ad.add ((i + 1).toNat * 3)).block, (ad.add ((i + 1).toNat * 3)).off + 2, none⟩ = some (.int .i64 uk) := by
                obtain ⟨n1, n2, n3, n4⟩ := NBT.out
                have ny := nby.out
                refine ⟨_, rfl, ((J9.out.set (by simp) n4 BT.out).set (by simp) n4 BT.out).weak (fun k hk => List.mem_cons_of_mem _ hk) (by simp), ?_, ?_, ?_, ?_, ?_, ?_, ?_⟩
                · rw [Below.heap_setCell _ _ _ bk (fun e => n3 e.symm), Below.heap_setCell _ _ _ bk (fun e => n3 e.symm)]; exact K0'.out
                · rw [Below.heap_setCell _ _ _ bS (fun e => n2 e.symm), Below.heap_setCell _ _ _ bS (fun e => n2 e.symm)]; exact S0'.out
                · rw [Below.heap_setCell _ _ _ bR (fun e => n1 e.symm), Below.heap_setCell _ _ _ bR (fun e => n1 e.symm)]; exact R0'.out
                · exact (Jq (v := .int .i64 tx) (Jq (v := .int .i64 tx) T0'.out)).trans rfl
                · exact (cell_far ny _).trans ((cell_far ny _).trans Y0'.out)
                · exact (cell_far ny _).trans ((cell_far ny _).trans Y1'.out)
                · exact (cell_far ny _).trans ((cell_far ny _).trans Y2'.out)
              rw [← e6]
              have I6 := qa.mk i6
              have Id := qa.mk i6.drew
              have Sd : qa (W6.drew.heap[bS]? = _) := ⟨qd s6⟩
              have Rd : qa (W6.drew.heap[bR]? = _) := ⟨qd r6⟩
              have kd0 : W6.drew.cell? ⟨bk, 0, none⟩ = some (.int .i64 kx) := (qb (qd k6) 0).trans rfl
              have kd1 : W6.drew.cell? ⟨bk, 1, none⟩ = some (.int .i64 ky) := (qb (qd k6) 1).trans rfl
              have kd2 : W6.drew.cell? ⟨bk, 2, none⟩ = some (.int .i64 3) := (qb (qd k6) 2).trans rfl
              have rd0 : W6.drew.cell? ⟨bR, 0, none⟩ = some (.slice (some ad) rest.length c1) := (qb (qd r6) 0).trans rfl
              have td0 : W6.drew.cell? ⟨bt, 0, none⟩ = some (.int .i64 tx) := (qb (qd t6) 0).trans rfl
              have td1 : W6.drew.cell? ⟨bt, 1, none⟩ = some (.int .i64 ty) := (qb (qd t6) 1).trans rfl
              have yd0 : W6.drew.cell? (ad.add ((i + 1).toNat * 3)) = some (.int .i64 ux) := y06
              have yd1 : W6.drew.cell? ⟨(ad.add ((i + 1).toNat * 3)).block, (ad.add ((i + 1).toNat * 3)).off + 1, none⟩ = some (.int .i64 uy) := y16
              have yd2 : W6.drew.cell? ⟨(ad.add ((i + 1).toNat * 3)).block, (ad.add ((i + 1).toNat * 3)).off + 2, none⟩ = some (.int .i64 uk) := y26
              clear e6 i6 k6 s6 r6 t6 t80 t81 t90 t91 f90 f91 r80 y06 y16 y26 z0 z1 z2
              have hwi : wrap64 (i + 1) = i + 1 := by unfold wrap64; omega
              have pi1 : (0 ≤ i + 1) = True := eq_true (by omega)
              have pi2 : (i + 1 < (rest.length : Int)) = True := eq_true i2
              go_upto_region 30 with fail
              refine jS (n := 11) (S := fun w' => w'.cell? ⟨bk, 0, none⟩ = some (.int .i64 kx) ∧ w'.cell? ⟨bk, 1, none⟩ = some (.int .i64 ky) ∧ w'.cell? ⟨bk, 2, none⟩ = some (.int .i64 3) ∧ w'.cell? ⟨bR, 0, none⟩ = some (.slice (some ad) rest.length c1) ∧ w'.cell? (ad.add ((i + 1).toNat * 3)) = some (.int .i64 ux) ∧ w'.cell? ⟨(ad.add ((i + 1).toNat * 3)).block, (ad.add ((i + 1).toNat * 3)).off + 1, none⟩ = some (.int .i64 uy) ∧ w'.cell? ⟨(ad.add ((i + 1).toNat * 3)).block, (ad.add ((i + 1).toNat * 3)).off + 2, none⟩ = some (.int .i64 uk) ∧ w'.cell? ⟨bt, 0, none⟩ = some (.int .i64 tx) ∧ w'.cell? ⟨bt, 1, none⟩ = some (.int .i64 ty)) (ds := [10]) #[false, false, false, false, false, false, false, false, false, false, false] (by kernel_rfl) rfl rfl ⟨kd0, kd1, kd2, rd0, yd0, yd1, yd2, td0, td1⟩ (fun hHeld => ?_)
              refine za (i := 0) (N := some 131) (v := ?_) (a' := ?_) #[true, false, false, false, false, false, false, false, false, false, false] rfl rfl (by kernel_rfl) (fun _ _ _ h => h) (Or.inl ⟨by rfl, ?_⟩) ?_ ?_
              rotate_left
              · intro w'
                go_simp
                with_reducible rfl
              rotate_left
              · simp only [Act.put, List.setIfInBounds_toArray, List.set_cons_zero, List.set_cons_succ, qz, qA]
                rfl
              refine za (i := 4) (N := some 135) (v := ?_) (a' := ?_) #[true, false, false, false, true, false, false, false, false, false, false] rfl rfl (by kernel_rfl) (fun _ _ _ h => h) (Or.inl ⟨by rfl, ?_⟩) ?_ ?_
              rotate_left
              · intro w'
                go_simp
                with_reducible rfl
              rotate_left
              · simp only [Act.put, List.setIfInBounds_toArray, List.set_cons_zero, List.set_cons_succ, qz, qA]
                rfl
              refine za (i := 5) (N := some 136) (v := ?_) (a' := ?_) #[true, false, false, false, true, true, false, false, false, false, false] rfl rfl (by kernel_rfl) (fun _ _ _ h => h) (Or.inl ⟨by rfl, ?_⟩) ?_ ?_
              rotate_left
              · intro w'
                go_simp
                with_reducible rfl
              rotate_left
              · simp only [Act.put, List.setIfInBounds_toArray, List.set_cons_zero, List.set_cons_succ, qz, qA]
                rfl
              refine zD (i := 1) (N := some 132) (v := ?_) (a' := ?_) #[true, true, false, false, true, true, false, false, false, false, false] rfl rfl (by kernel_rfl) (fun _ _ _ h => h) (Or.inl ⟨by rfl, ?_⟩) hHeld ?_ ?_
              rotate_left
              · rintro w' ⟨s0, s1, s2, s3, s4, s5, s6, s7, s8⟩
                go_simp
                with_reducible rfl
              rotate_left
              · simp only [Act.put, List.setIfInBounds_toArray, List.set_cons_zero, List.set_cons_succ, qz, qA]
                rfl
              refine zD (i := 3) (N := some 134) (v := ?_) (a' := ?_) #[true, true, false, true, true, true, false, false, false, false, false] rfl rfl (by kernel_rfl) (fun _ _ _ h => h) (Or.inl ⟨by rfl, ?_⟩) hHeld ?_ ?_
              rotate_left
              · rintro w' ⟨s0, s1, s2, s3, s4, s5, s6, s7, s8⟩
                go_simp
                with_reducible rfl
              rotate_left
              · simp only [Act.put, List.setIfInBounds_toArray, List.set_cons_zero, List.set_cons_succ, qz, qA]
                rfl
              refine za (i := 6) (N := some 137) (v := ?_) (a' := ?_) #[true, true, false, true, true, true, true, false, false, false, false] rfl rfl (by kernel_rfl) (fun _ _ _ h => h) (Or.inl ⟨by rfl, ?_⟩) ?_ ?_
              rotate_left
              · intro w'
                go_simp
                with_reducible rfl
              rotate_left
              · simp only [Act.put, List.setIfInBounds_toArray, List.set_cons_zero, List.set_cons_succ, qz, qA]
                rfl
              refine zD (i := 7) (N := some 138) (v := ?_) (a' := ?_) #[true, true, false, true, true, true, true, true, false, false, false] rfl rfl (by kernel_rfl) (fun _ _ _ h => h) (Or.inl ⟨by rfl, ?_⟩) hHeld ?_ ?_
              rotate_left
              · rintro w' ⟨s0, s1, s2, s3, s4, s5, s6, s7, s8⟩
                go_simp
                with_reducible rfl
              rotate_left
              · simp only [Act.put, List.setIfInBounds_toArray, List.set_cons_zero, List.set_cons_succ, qz, qA]
                rfl
              refine zD (i := 9) (N := some 140) (v := ?_) (a' := ?_) #[true, true, false, true, true, true, true, true, false, true, false] rfl rfl (by kernel_rfl) (fun _ _ _ h => h) (Or.inl ⟨by rfl, ?_⟩) hHeld ?_ ?_
              rotate_left
              · rintro w' ⟨s0, s1, s2, s3, s4, s5, s6, s7, s8⟩
                go_simp
                with_reducible rfl
              rotate_left
              · simp only [Act.put, List.setIfInBounds_toArray, List.set_cons_zero, List.set_cons_succ, qz, qA]
                rfl
              refine jd (i := 2) (N := some 133) #[true, true, true, true, true, true, true, true, false, true, false] rfl rfl (by kernel_rfl) (by decide) (fun K hK => ?_)
              refine zS Try.func49 (by kernel_rfl) rfl #[.agg #[.int .i64 kx, .int .i64 ky, .int .i64 3]] (by rfl) rfl rfl (by simp only [List.map_toArray, List.map_cons, List.map_nil]; rfl) ?_
              refine (jD.calls kx ky 3 kx ky _ rfl).mono ?_
              rintro e w10 ⟨rfl, hb10⟩
              have I10 := qa.mk (Id.out.below hb10)
              have S10 := qa.mk ((hb10.block _ (qy Sd.out)).trans Sd.out)
              have R10 := qa.mk ((hb10.block _ (qy Rd.out)).trans Rd.out)
              refine ⟨_, rfl, ?_⟩
              refine hK.out _ _ ⟨qc hb10 (hHeld.1), qc hb10 (hHeld.2.1), qc hb10 (hHeld.2.2.1), qc hb10 (hHeld.2.2.2.1), qc hb10 (hHeld.2.2.2.2.1), qc hb10 (hHeld.2.2.2.2.2.1), qc hb10 (hHeld.2.2.2.2.2.2.1), qc hb10 (hHeld.2.2.2.2.2.2.2.1), qc hb10 (hHeld.2.2.2.2.2.2.2.2)⟩ (fun hHeld => ?_)
              clear hK K
              refine zo (a' := ?_) ?_ ?_
              rotate_left
              · show Act.put _ (some 133) _ = _
                simp only [Act.put, List.setIfInBounds_toArray, List.set_cons_zero, List.set_cons_succ, qz, qA]
                rfl
              refine jd (i := 8) (N := some 139) #[true, true, true, true, true, true, true, true, true, true, false] rfl rfl (by kernel_rfl) (by decide) (fun K hK => ?_)
              refine zS Try.func49 (by kernel_rfl) rfl #[.agg #[.int .i64 ux, .int .i64 uy, .int .i64 uk]] (by rfl) rfl rfl (by simp only [List.map_toArray, List.map_cons, List.map_nil]; rfl) ?_
              refine (jD.calls ux uy uk ux uy _ rfl).mono ?_
              rintro e w11 ⟨rfl, hb11⟩
              have I11 := qa.mk (I10.out.below hb11)
              have S11 := qa.mk ((hb11.block _ (qy S10.out)).trans S10.out)
              have R11 := qa.mk ((hb11.block _ (qy R10.out)).trans R10.out)
              refine ⟨_, rfl, ?_⟩
              refine hK.out _ _ ⟨qc hb11 (hHeld.1), qc hb11 (hHeld.2.1), qc hb11 (hHeld.2.2.1), qc hb11 (hHeld.2.2.2.1), qc hb11 (hHeld.2.2.2.2.1), qc hb11 (hHeld.2.2.2.2.2.1), qc hb11 (hHeld.2.2.2.2.2.2.1), qc hb11 (hHeld.2.2.2.2.2.2.2.1), qc hb11 (hHeld.2.2.2.2.2.2.2.2)⟩ (fun hHeld => ?_)
              clear hK K
              refine zo (a' := ?_) ?_ ?_
              rotate_left
              · show Act.put _ (some 139) _ = _
                simp only [Act.put, List.setIfInBounds_toArray, List.set_cons_zero, List.set_cons_succ, qz, qA]
                rfl
              refine QP (i := 10) (N := some 141) #[true, true, true, true, true, true, true, true, true, true, true] rfl rfl (by kernel_rfl) (by decide) (fun K hK => ?_)
              refine zS Try.func52 (by kernel_rfl) rfl #[.pointer (some ⟨g, 0, none⟩), .agg #[.int .i64 kx, .int .i64 ky], .agg #[.int .i64 ux, .int .i64 uy], .agg #[.int .i64 tx, .int .i64 ty]] (by rfl) rfl rfl (by simp only [List.map_toArray, List.map_cons, List.map_nil]; rfl) ?_
              refine (pen_cubic k w1 _ [g, bR, bS] g out pts x y kx ky ux uy tx ty (Nat.le_trans OLN.out (by decide)) I11 HQ).mono ?_
              rintro e w12 ⟨rfl, i12, k12⟩
              have I12 := qa.mk i12
              have S12 := qa.mk ((k12.2 bS (by simp) nS).trans S11.out)
              have R12 := qa.mk ((k12.2 bR (by simp) nR).trans R11.out)
              clear i12 k12
              refine ⟨_, rfl, ?_⟩
              refine hK.out _ _ ?_
              clear hK K
              refine zo (a' := ?_) ?_ ?_
              rotate_left
              · show Act.put _ (some 141) _ = _
                simp only [Act.put, List.setIfInBounds_toArray, List.set_cons_zero, List.set_cons_succ, qz, qA]
                rfl
              refine Qa (by kernel_rfl) ?_
              clear hwi pi1 pi2
              go_wp2
              refine ⟨⟨m, i + 3, _, _, _, false, rfl, rfl, by omega, by omega, HL, I12, S12, R12⟩, ?_⟩
              show (_ : Nat) < _
              simp only [intOf]
              omega
            rw [if_pos k5] at hl
            injection hl with hl; injection hl with h1 h2
            subst h1 h2
            have K32 : qa (kdF rest (i + 3 - 1) = 2) := ⟨by rw [show i + 3 - 1 = i + 2 by omega]; exact k5⟩
            have K33 := qa.mk k5
            clear k3 k4 k5 k1 k2
            go_upto_region 21 with (first | (go_at_call 48; (with_reducible refine (Qx _ rest (some ad) c1 bR (i + 1) 3 (by omega) R5.out C5.out K31.out).mono ?_); rintro e w6 ⟨rfl, hb6⟩; have I6 := qa.mk (I5.out.below hb6); have S6 := qa.mk ((hb6.block _ (qy S5.out)).trans S5.out); have R6 := qa.mk ((hb6.block _ (qy R5.out)).trans R5.out); have K6 := qa.mk ((hb6.block _ (qy K5.out)).trans K5.out); have C6 := qa.mk (Kd.jb C5.out hb6); have c62 : w6.cell? ⟨bk, 2, none⟩ = some (.int .i64 3) := (qb K6.out 2).trans rfl; clear hb6) | (go_at_call 48; (with_reducible refine (Qx _ rest (some ad) c1 bR (i + 3 - 1) 2 (by omega) R6.out C6.out K32.out).mono ?_); rintro e w7 ⟨rfl, hb7⟩; have I7 := qa.mk (I6.out.below hb7); have S7 := qa.mk ((hb7.block _ (qy S6.out)).trans S6.out); have R7 := qa.mk ((hb7.block _ (qy R6.out)).trans R6.out); have K7 := qa.mk ((hb7.block _ (qy K6.out)).trans K6.out); have C7 := qa.mk (Kd.jb C6.out hb7); have c72 : w7.cell? ⟨bk, 2, none⟩ = some (.int .i64 3) := (qb K7.out 2).trans rfl; clear hb7))
            go_wp2_with (go_at_call 48; (with_reducible refine (Qx _ rest (some ad) c1 bR (i + 2) 2 (by omega) R7.out C7.out K33.out).mono ?_); rintro e w9 ⟨rfl, hb9⟩; have I9 := qa.mk (I7.out.below hb9); have S9 := qa.mk ((hb9.block _ (qy S7.out)).trans S7.out); have R9 := qa.mk ((hb9.block _ (qy R7.out)).trans R7.out); have K9 := qa.mk ((hb9.block _ (qy K7.out)).trans K7.out); have C9 := qa.mk (Kd.jb C7.out hb9); have c92 : w9.cell? ⟨bk, 2, none⟩ = some (.int .i64 3) := (qb K9.out 2).trans rfl; clear hb9)
            go_ret2
            exact ⟨_, rfl, Kd.QF _ _ _ _ _, qh HB1.out (by obtain ⟨v, _, _, _, _, h5, _⟩ := I9.out; exact h5)⟩
          rw [if_pos k2] at hl
          subst k2
          by_cases k3 : kdF rest (i + 1) = 2
          · rw [if_pos k3] at hl
            have i2 : i + 1 < (rest.length : Int) := Classical.byContradiction fun z => by unfold kdF at k3; rw [if_neg z] at k3; omega
            have K31 := qa.mk k3
            clear k3 k1
            go_upto_region 17 with (go_at_call 48; refine (Qx _ rest (some ad) c1 bR (i + 1) 2 (by omega) R5.out C5.out K31.out).mono ?_; rintro e w6 ⟨rfl, hb6⟩; have I6 := qa.mk (I5.out.below hb6); have S6 := qa.mk ((hb6.block _ (qy S5.out)).trans S5.out); have R6 := qa.mk ((hb6.block _ (qy R5.out)).trans R5.out); have K6 := qa.mk ((hb6.block _ (qy K5.out)).trans K5.out); have C6 := qa.mk (Kd.jb C5.out hb6); have c62 : w6.cell? ⟨bk, 2, none⟩ = some (.int .i64 2) := (qb K6.out 2).trans rfl; clear hb6)
            obtain ⟨ad2, ea2, y0, y1, y2⟩ := jh C6.out (i + 1) (by omega) i2
            injection ea2 with ea2
            subst ea2
            generalize hY : ql rest (i + 1) = Y at hl y0 y1 y2
            obtain ⟨tx, ty, tk⟩ := Y
            obtain ⟨⟨m1, m2⟩, hm1, hl⟩ := Option.bind_eq_some_iff.mp hl
            obtain ⟨pts, hq1, hl⟩ := Option.bind_eq_some_iff.mp hl
            dsimp only at hm1 hq1 hl y0 y1 y2
            have HM := qa.mk hm1
            have HQ := qa.mk hq1
            have HL := qa.mk hl
            have OLN : qa (out.length ≤ 800000) := ⟨by omega⟩
            have Id := qa.mk I6.out.drew
            have Sd : qa (w6.drew.heap[bS]? = _) := ⟨qd S6.out⟩
            have Rd : qa (w6.drew.heap[bR]? = _) := ⟨qd R6.out⟩
            have kd0 : w6.drew.cell? ⟨bk, 0, none⟩ = some (.int .i64 kx) := (qb (qd K6.out) 0).trans rfl
            have kd1 : w6.drew.cell? ⟨bk, 1, none⟩ = some (.int .i64 ky) := (qb (qd K6.out) 1).trans rfl
            have kd2 : w6.drew.cell? ⟨bk, 2, none⟩ = some (.int .i64 2) := (qb (qd K6.out) 2).trans rfl
            have rd0 : w6.drew.cell? ⟨bR, 0, none⟩ = some (.slice (some ad) rest.length c1) := (qb (qd R6.out) 0).trans rfl
            have yd0 : w6.drew.cell? (ad.add ((i + 1).toNat * 3)) = some (.int .i64 tx) := y0
            have yd1 : w6.drew.cell? ⟨(ad.add ((i + 1).toNat * 3)).block, (ad.add ((i + 1).toNat * 3)).off + 1, none⟩ = some (.int .i64 ty) := y1
            have yd2 : w6.drew.cell? ⟨(ad.add ((i + 1).toNat * 3)).block, (ad.add ((i + 1).toNat * 3)).off + 2, none⟩ = some (.int .i64 tk) := y2
            have hwi : wrap64 (i + 1) = i + 1 := by unfold wrap64; omega
            have pi1 : (0 ≤ i + 1) = True := eq_true (by omega)
            have pi2 : (i + 1 < (rest.length : Int)) = True := eq_true i2
            clear hl hm1 hq1 hY y0 y1 y2 c50 c51 c52 c62
            refine jS (n := 11) (S := fun w' => w'.cell? ⟨bk, 0, none⟩ = some (.int .i64 kx) ∧ w'.cell? ⟨bk, 1, none⟩ = some (.int .i64 ky) ∧ w'.cell? ⟨bk, 2, none⟩ = some (.int .i64 2) ∧ w'.cell? ⟨bR, 0, none⟩ = some (.slice (some ad) rest.length c1) ∧ w'.cell? (ad.add ((i + 1).toNat * 3)) = some (.int .i64 tx) ∧ w'.cell? ⟨(ad.add ((i + 1).toNat * 3)).block, (ad.add ((i + 1).toNat * 3)).off + 1, none⟩ = some (.int .i64 ty) ∧ w'.cell? ⟨(ad.add ((i + 1).toNat * 3)).block, (ad.add ((i + 1).toNat * 3)).off + 2, none⟩ = some (.int .i64 tk)) (ds := [10]) #[false, false, false, false, false, false, false, false, false, false, false] (by kernel_rfl) rfl rfl ⟨kd0, kd1, kd2, rd0, yd0, yd1, yd2⟩ (fun hHeld => ?_)
            refine za (i := 0) (N := some 60) (v := ?_) (a' := ?_) #[true, false, false, false, false, false, false, false, false, false, false] rfl rfl (by kernel_rfl) (fun _ _ _ h => h) (Or.inl ⟨by rfl, ?_⟩) ?_ ?_
            rotate_left
            · intro w'
              go_simp
              with_reducible rfl
            rotate_left
            · simp only [Act.put, List.setIfInBounds_toArray, List.set_cons_zero, List.set_cons_succ, qz, qA]
              rfl
            refine za (i := 5) (N := some 65) (v := ?_) (a' := ?_) #[true, false, false, false, false, true, false, false, false, false, false] rfl rfl (by kernel_rfl) (fun _ _ _ h => h) (Or.inl ⟨by rfl, ?_⟩) ?_ ?_
            rotate_left
            · intro w'
              go_simp
              with_reducible rfl
            rotate_left
            · simp only [Act.put, List.setIfInBounds_toArray, List.set_cons_zero, List.set_cons_succ, qz, qA]
              rfl
            refine za (i := 6) (N := some 66) (v := ?_) (a' := ?_) #[true, false, false, false, false, true, true, false, false, false, false] rfl rfl (by kernel_rfl) (fun _ _ _ h => h) (Or.inl ⟨by rfl, ?_⟩) ?_ ?_
            rotate_left
            · intro w'
              go_simp
              with_reducible rfl
            rotate_left
            · simp only [Act.put, List.setIfInBounds_toArray, List.set_cons_zero, List.set_cons_succ, qz, qA]
              rfl
            refine zD (i := 1) (N := some 61) (v := ?_) (a' := ?_) #[true, true, false, false, false, true, true, false, false, false, false] rfl rfl (by kernel_rfl) (fun _ _ _ h => h) (Or.inl ⟨by rfl, ?_⟩) hHeld ?_ ?_
            rotate_left
            · rintro w' ⟨s0, s1, s2, s3, s4, s5, s6⟩
              go_simp
              with_reducible rfl
            rotate_left
            · simp only [Act.put, List.setIfInBounds_toArray, List.set_cons_zero, List.set_cons_succ, qz, qA]
              rfl
            refine zD (i := 3) (N := some 63) (v := ?_) (a' := ?_) #[true, true, false, true, false, true, true, false, false, false, false] rfl rfl (by kernel_rfl) (fun _ _ _ h => h) (Or.inl ⟨by rfl, ?_⟩) hHeld ?_ ?_
            rotate_left
            · rintro w' ⟨s0, s1, s2, s3, s4, s5, s6⟩
              go_simp
              with_reducible rfl
            rotate_left
            · simp only [Act.put, List.setIfInBounds_toArray, List.set_cons_zero, List.set_cons_succ, qz, qA]
              rfl
            refine zD (i := 4) (N := some 64) (v := ?_) (a' := ?_) #[true, true, false, true, true, true, true, false, false, false, false] rfl rfl (by kernel_rfl) (fun _ _ _ h => h) (Or.inl ⟨by rfl, ?_⟩) hHeld ?_ ?_
            rotate_left
            · rintro w' ⟨s0, s1, s2, s3, s4, s5, s6⟩
              go_simp
              with_reducible rfl
            rotate_left
            · simp only [Act.put, List.setIfInBounds_toArray, List.set_cons_zero, List.set_cons_succ, qz, qA]
              rfl
            refine za (i := 7) (N := some 67) (v := ?_) (a' := ?_) #[true, true, false, true, true, true, true, true, false, false, false] rfl rfl (by kernel_rfl) (fun _ _ _ h => h) (Or.inl ⟨by rfl, ?_⟩) ?_ ?_
            rotate_left
            · intro w'
              go_simp
              with_reducible rfl
            rotate_left
            · simp only [Act.put, List.setIfInBounds_toArray, List.set_cons_zero, List.set_cons_succ, qz, qA]
              rfl
            refine zD (i := 8) (N := some 68) (v := ?_) (a' := ?_) #[true, true, false, true, true, true, true, true, true, false, false] rfl rfl (by kernel_rfl) (fun _ _ _ h => h) (Or.inl ⟨by rfl, ?_⟩) hHeld ?_ ?_
            rotate_left
            · rintro w' ⟨s0, s1, s2, s3, s4, s5, s6⟩
              go_simp
              with_reducible rfl
            rotate_left
            · simp only [Act.put, List.setIfInBounds_toArray, List.set_cons_zero, List.set_cons_succ, qz, qA]
              rfl
            refine jd (i := 2) (N := some 62) #[true, true, true, true, true, true, true, true, true, false, false] rfl rfl (by kernel_rfl) (by decide) (fun K hK => ?_)
            refine zS Try.func49 (by kernel_rfl) rfl #[.agg #[.int .i64 kx, .int .i64 ky, .int .i64 2]] (by rfl) rfl rfl (by simp only [List.map_toArray, List.map_cons, List.map_nil]; rfl) ?_
            refine (jD.calls kx ky 2 kx ky _ rfl).mono ?_
            rintro e w7 ⟨rfl, hb7⟩
            have I7 := qa.mk (Id.out.below hb7)
            have S7 := qa.mk ((hb7.block _ (qy Sd.out)).trans Sd.out)
            have R7 := qa.mk ((hb7.block _ (qy Rd.out)).trans Rd.out)
            refine ⟨_, rfl, ?_⟩
            refine hK.out _ _ ⟨qc hb7 hHeld.1, qc hb7 hHeld.2.1, qc hb7 hHeld.2.2.1, qc hb7 hHeld.2.2.2.1, qc hb7 hHeld.2.2.2.2.1, qc hb7 hHeld.2.2.2.2.2.1, qc hb7 hHeld.2.2.2.2.2.2⟩ (fun hHeld => ?_)
            clear hK K
            refine zo (a' := ?_) ?_ ?_
            rotate_left
            · show Act.put _ (some 62) _ = _
              simp only [Act.put, List.setIfInBounds_toArray, List.set_cons_zero, List.set_cons_succ, qz, qA]
              rfl
            refine jd (i := 9) (N := some 69) #[true, true, true, true, true, true, true, true, true, true, false] rfl rfl (by kernel_rfl) (by decide) (fun K hK => ?_)
            refine zS Try.func51 (by kernel_rfl) rfl #[.agg #[.int .i64 kx, .int .i64 ky, .int .i64 2], .agg #[.int .i64 tx, .int .i64 ty, .int .i64 tk]] (by rfl) rfl rfl (by simp only [List.map_toArray, List.map_cons, List.map_nil]; rfl) ?_
            refine (zM.calls k kx ky 2 tx ty tk m1 m2 _ HM.out).mono ?_
            rintro e w8 ⟨rfl, hb8⟩
            have I8 := qa.mk (I7.out.below hb8)
            have S8 := qa.mk ((hb8.block _ (qy S7.out)).trans S7.out)
            have R8 := qa.mk ((hb8.block _ (qy R7.out)).trans R7.out)
            refine ⟨_, rfl, ?_⟩
            refine hK.out _ _ ⟨qc hb8 hHeld.1, qc hb8 hHeld.2.1, qc hb8 hHeld.2.2.1, qc hb8 hHeld.2.2.2.1, qc hb8 hHeld.2.2.2.2.1, qc hb8 hHeld.2.2.2.2.2.1, qc hb8 hHeld.2.2.2.2.2.2⟩ (fun hHeld => ?_)
            clear hK K
            refine zo (a' := ?_) ?_ ?_
            rotate_left
            · show Act.put _ (some 69) _ = _
              simp only [Act.put, List.setIfInBounds_toArray, List.set_cons_zero, List.set_cons_succ, qz, qA]
              rfl
            refine QP (i := 10) (N := some 70) #[true, true, true, true, true, true, true, true, true, true, true] rfl rfl (by kernel_rfl) (by decide) (fun K hK => ?_)
            refine zS Try.func50 (by kernel_rfl) rfl #[.pointer (some ⟨g, 0, none⟩), .agg #[.int .i64 kx, .int .i64 ky], .agg #[.int .i64 m1, .int .i64 m2]] (by rfl) rfl rfl (by simp only [List.map_toArray, List.map_cons, List.map_nil]; rfl) ?_
            refine (pen_quad k w1 _ [g, bR, bS] g out pts x y kx ky m1 m2 (Nat.le_trans OLN.out (by decide)) I8 HQ).mono ?_
            rintro e w9 ⟨rfl, i9, k9⟩
            have I9 := qa.mk i9
            have S9 := qa.mk ((k9.2 bS (by simp) nS).trans S8.out)
            have R9 := qa.mk ((k9.2 bR (by simp) nR).trans R8.out)
            clear i9 k9
            refine ⟨_, rfl, ?_⟩
            refine hK.out _ _ ?_
            clear hK K
            refine zo (a' := ?_) ?_ ?_
            rotate_left
            · show Act.put _ (some 70) _ = _
              simp only [Act.put, List.setIfInBounds_toArray, List.set_cons_zero, List.set_cons_succ, qz, qA]
              rfl
            refine Qa (by kernel_rfl) ?_
            clear hwi pi1 pi2
            go_wp2
            refine ⟨⟨m, i + 1, _, _, _, cl, rfl, rfl, by omega, by omega, HL, I9, S9, R9⟩, ?_⟩
            show (_ : Nat) < _
            simp only [intOf]
            omega
          rw [if_neg k3] at hl
          by_cases k4 : kdF rest (i + 1) = 3
          · rw [if_pos k4] at hl
            injection hl with hl; injection hl with h1 h2
            subst h1 h2
            have K31 := qa.mk k4
            have K32 : qa (kdF rest (i + 2 - 1) = 3) := ⟨by rw [show i + 2 - 1 = i + 1 by omega]; exact k4⟩
            clear k3 k4 k1
            go_upto_region 19 with (go_at_call 48; refine (Qx _ rest (some ad) c1 bR (i + 1) 3 (by omega) R5.out C5.out K31.out).mono ?_; rintro e w6 ⟨rfl, hb6⟩; have I6 := qa.mk (I5.out.below hb6); have S6 := qa.mk ((hb6.block _ (qy S5.out)).trans S5.out); have R6 := qa.mk ((hb6.block _ (qy R5.out)).trans R5.out); have K6 := qa.mk ((hb6.block _ (qy K5.out)).trans K5.out); have C6 := qa.mk (Kd.jb C5.out hb6); have c62 : w6.cell? ⟨bk, 2, none⟩ = some (.int .i64 2) := (qb K6.out 2).trans rfl; clear hb6)
            go_wp2_with (go_at_call 48; refine (Qx _ rest (some ad) c1 bR (i + 2 - 1) 3 (by omega) R6.out C6.out K32.out).mono ?_; rintro e w7 ⟨rfl, hb7⟩; have I7 := qa.mk (I6.out.below hb7); have S7 := qa.mk ((hb7.block _ (qy S6.out)).trans S6.out); have R7 := qa.mk ((hb7.block _ (qy R6.out)).trans R6.out); have K7 := qa.mk ((hb7.block _ (qy K6.out)).trans K6.out); have C7 := qa.mk (Kd.jb C6.out hb7); have c72 : w7.cell? ⟨bk, 2, none⟩ = some (.int .i64 2) := (qb K7.out 2).trans rfl; clear hb7)
            go_ret2
            exact ⟨_, rfl, Kd.QF _ _ _ _ _, qh HB1.out (by obtain ⟨v, _, _, _, _, h5, _⟩ := I7.out; exact h5)⟩
          rw [if_neg k4] at hl
          obtain ⟨kv, hkv⟩ : ∃ v, v = kdF rest (i + 1) := ⟨_, rfl⟩
          have n2 : (kv == 2) = false := by rw [beq_eq_false_iff_ne, hkv]; exact k3
          have n3 : (kv == 3) = false := by rw [beq_eq_false_iff_ne, hkv]; exact k4
          have K31 := qa.mk hkv.symm
          have K32 : qa (kdF rest (i + 2 - 1) = kv) := ⟨by rw [show i + 2 - 1 = i + 1 by omega]; exact hkv.symm⟩
          clear hkv k3 k4 k1
          go_upto_region 19 with (go_at_call 48; refine (Qx _ rest (some ad) c1 bR (i + 1) kv (by omega) R5.out C5.out K31.out).mono ?_; rintro e w6 ⟨rfl, hb6⟩; have I6 := qa.mk (I5.out.below hb6); have S6 := qa.mk ((hb6.block _ (qy S5.out)).trans S5.out); have R6 := qa.mk ((hb6.block _ (qy R5.out)).trans R5.out); have K6 := qa.mk ((hb6.block _ (qy K5.out)).trans K5.out); have C6 := qa.mk (Kd.jb C5.out hb6); have c62 : w6.cell? ⟨bk, 2, none⟩ = some (.int .i64 2) := (qb K6.out 2).trans rfl; clear hb6)
          go_upto_region 21 with (go_at_call 48; refine (Qx _ rest (some ad) c1 bR (i + 2 - 1) kv (by omega) R6.out C6.out K32.out).mono ?_; rintro e w7 ⟨rfl, hb7⟩; have I7 := qa.mk (I6.out.below hb7); have S7 := qa.mk ((hb7.block _ (qy S6.out)).trans S6.out); have R7 := qa.mk ((hb7.block _ (qy R6.out)).trans R6.out); have K7 := qa.mk ((hb7.block _ (qy K6.out)).trans K6.out); have C7 := qa.mk (Kd.jb C6.out hb7); have c72 : w7.cell? ⟨bk, 2, none⟩ = some (.int .i64 2) := (qb K7.out 2).trans rfl; clear hb7)
          have s70 : w7.cell? ⟨bS, 0, none⟩ = some (.int .i64 sx) := (qb S7.out 0).trans rfl
          have s71 : w7.cell? ⟨bS, 1, none⟩ = some (.int .i64 sy) := (qb S7.out 1).trans rfl
          have r70 : w7.cell? ⟨bR, 0, none⟩ = some (.slice (some ad) rest.length c1) := (qb R7.out 0).trans rfl
          by_cases i2 : i + 1 = (rest.length : Int)
          · rw [if_pos i2] at hl
            obtain ⟨pts, hq1, hl⟩ := Option.bind_eq_some_iff.mp hl
            have HQ := qa.mk hq1
            have HL := qa.mk hl
            have qe : ((i + 1 : Int) == (rest.length : Int)) = true := by rw [beq_iff_eq]; exact i2
            have lR7 := qy R7.out
            have lk7 := qy K7.out
            clear hl hq1 c50 c51 c52 c62
            have s70 : w7.cell? ⟨bS, 0, none⟩ = some (.int .i64 sx) := (qb S7.out 0).trans rfl
            have s71 : w7.cell? ⟨bS, 1, none⟩ = some (.int .i64 sy) := (qb S7.out 1).trans rfl
            have r70 : w7.cell? ⟨bR, 0, none⟩ = some (.slice (some ad) rest.length c1) := (qb R7.out 0).trans rfl
            go_upto_region 28 with fail
            obtain ⟨W6, bt, e6, et, i6, k6, s6, r6, t6⟩ : ∃ W6 bt, W6 = w7.alloc (Obj.cells #[.int .i64 sx, .int .i64 sy] 35) ∧ w7.heap.size = bt ∧ zP w1 W6 [g, bR, bS] g out x y ∧ W6.heap[bk]? = some (.cells #[.int .i64 kx, .int .i64 ky, .int .i64 2] 40 (0, 0)) ∧ W6.heap[bS]? = some (.cells #[.int .i64 sx, .int .i64 sy] 35 (0, 0)) ∧ W6.heap[bR]? = some (.cells #[.slice (some ad) rest.length c1] 37 (0, 0)) ∧ W6.heap[bt]? = some (.cells #[.int .i64 sx, .int .i64 sy] 35 (0, 0)) := ⟨_, _, rfl, rfl, I7.out.alloc _, qg K7.out _, qg S7.out _, qg R7.out _, zu _ _⟩
            rw [← e6, et]
            have I6 := qa.mk i6
            have S6 := qa.mk s6
            have R6 := qa.mk r6
            have kd0 : W6.drew.cell? ⟨bk, 0, none⟩ = some (.int .i64 kx) := (qb (qd k6) 0).trans rfl
            have kd1 : W6.drew.cell? ⟨bk, 1, none⟩ = some (.int .i64 ky) := (qb (qd k6) 1).trans rfl
            have kd2 : W6.drew.cell? ⟨bk, 2, none⟩ = some (.int .i64 2) := (qb (qd k6) 2).trans rfl
            have td0 : W6.drew.cell? ⟨bt, 0, none⟩ = some (.int .i64 sx) := (qb (qd t6) 0).trans rfl
            have td1 : W6.drew.cell? ⟨bt, 1, none⟩ = some (.int .i64 sy) := (qb (qd t6) 1).trans rfl
            clear e6 et i6 k6 s6 r6 t6 s70 s71 r70 lR7 lk7 c72
            go_upto_region 29 with fail
            refine jS (n := 5) (S := fun w' => w'.cell? ⟨bk, 0, none⟩ = some (.int .i64 kx) ∧ w'.cell? ⟨bk, 1, none⟩ = some (.int .i64 ky) ∧ w'.cell? ⟨bk, 2, none⟩ = some (.int .i64 2) ∧ w'.cell? ⟨bt, 0, none⟩ = some (.int .i64 sx) ∧ w'.cell? ⟨bt, 1, none⟩ = some (.int .i64 sy)) (ds := [4]) #[false, false, false, false, false] (by kernel_rfl) rfl rfl ⟨kd0, kd1, kd2, td0, td1⟩ (fun hHeld => ?_)
            refine za (i := 0) (N := some 126) (v := ?_) (a' := ?_) #[true, false, false, false, false] rfl rfl (by kernel_rfl) (fun _ _ _ h => h) (Or.inl ⟨by rfl, ?_⟩) ?_ ?_
            rotate_left
            · intro w'
              go_simp
              with_reducible rfl
            rotate_left
            · simp only [Act.put, List.setIfInBounds_toArray, List.set_cons_zero, List.set_cons_succ, qz, qA]
              rfl
            refine zD (i := 1) (N := some 127) (v := ?_) (a' := ?_) #[true, true, false, false, false] rfl rfl (by kernel_rfl) (fun _ _ _ h => h) (Or.inl ⟨by rfl, ?_⟩) hHeld ?_ ?_
            rotate_left
            · rintro w' ⟨s0, s1, s2, s3, s4⟩
              go_simp
              with_reducible rfl
            rotate_left
            · simp only [Act.put, List.setIfInBounds_toArray, List.set_cons_zero, List.set_cons_succ, qz, qA]
              rfl
            refine zD (i := 3) (N := some 129) (v := ?_) (a' := ?_) #[true, true, false, true, false] rfl rfl (by kernel_rfl) (fun _ _ _ h => h) (Or.inl ⟨by rfl, ?_⟩) hHeld ?_ ?_
            rotate_left
            · rintro w' ⟨s0, s1, s2, s3, s4⟩
              go_simp
              with_reducible rfl
            rotate_left
            · simp only [Act.put, List.setIfInBounds_toArray, List.set_cons_zero, List.set_cons_succ, qz, qA]
              rfl
            refine jd (i := 2) (N := some 128) #[true, true, true, true, false] rfl rfl (by kernel_rfl) (by decide) (fun K hK => ?_)
            refine zS Try.func49 (by kernel_rfl) rfl #[.agg #[.int .i64 kx, .int .i64 ky, .int .i64 2]] (by rfl) rfl rfl (by simp only [List.map_toArray, List.map_cons, List.map_nil]; rfl) ?_
            refine (jD.calls kx ky 2 kx ky _ rfl).mono ?_
            rintro e w7 ⟨rfl, hb7⟩
            have I7 := qa.mk (I6.out.drew.below hb7)
            have S7 := qa.mk ((hb7.block _ (qy (qd S6.out))).trans (qd S6.out))
            have R7 := qa.mk ((hb7.block _ (qy (qd R6.out))).trans (qd R6.out))
            refine ⟨_, rfl, ?_⟩
            refine hK.out _ _ ⟨qc hb7 hHeld.1, qc hb7 hHeld.2.1, qc hb7 hHeld.2.2.1, qc hb7 hHeld.2.2.2.1, qc hb7 hHeld.2.2.2.2⟩ (fun hHeld => ?_)
            clear hK K
            refine zo (a' := ?_) ?_ ?_
            rotate_left
            · show Act.put _ (some 128) _ = _
              simp only [Act.put, List.setIfInBounds_toArray, List.set_cons_zero, List.set_cons_succ, qz, qA]
              rfl
            refine QP (i := 4) (N := some 130) #[true, true, true, true, true] rfl rfl (by kernel_rfl) (by decide) (fun K hK => ?_)
            refine zS Try.func50 (by kernel_rfl) rfl #[.pointer (some ⟨g, 0, none⟩), .agg #[.int .i64 kx, .int .i64 ky], .agg #[.int .i64 sx, .int .i64 sy]] (by rfl) rfl rfl (by simp only [List.map_toArray, List.map_cons, List.map_nil]; rfl) ?_
            refine (pen_quad k w1 _ [g, bR, bS] g out pts x y kx ky sx sy (by omega) I7 HQ).mono ?_
            rintro e w8 ⟨rfl, i8, k8⟩
            have I8 := qa.mk i8
            have S8 := qa.mk ((k8.2 bS (by simp) nS).trans S7.out)
            have R8 := qa.mk ((k8.2 bR (by simp) nR).trans R7.out)
            clear i8 k8
            refine ⟨_, rfl, ?_⟩
            refine hK.out _ _ ?_
            clear hK K
            refine zo (a' := ?_) ?_ ?_
            rotate_left
            · show Act.put _ (some 130) _ = _
              simp only [Act.put, List.setIfInBounds_toArray, List.set_cons_zero, List.set_cons_succ, qz, qA]
              rfl
            refine Qa (by kernel_rfl) ?_
            go_wp2
            refine ⟨⟨m, i + 2, _, _, _, true, rfl, rfl, by omega, by omega, HL, I8, S8, R8⟩, ?_⟩
            show (_ : Nat) < _
            simp only [intOf]
            omega
          rw [if_neg i2] at hl
          obtain ⟨pts, hq1, hl⟩ := Option.bind_eq_some_iff.mp hl
          have HQ := qa.mk hq1
          have HL := qa.mk hl
          have i2 : i + 1 < (rest.length : Int) := by omega
          clear hl hq1
          have qe : ((i + 1 : Int) == (rest.length : Int)) = false := by rw [beq_eq_false_iff_ne]; omega
          have lR7 := qy R7.out
          have lk7 := qy K7.out
          clear c50 c51 c52 c62
          go_upto_region 27 with fail
          obtain ⟨W8, bt, e8, et, i8, t8, b8⟩ : ∃ W8 bt, W8 = w7.alloc (Obj.cells #[.int .i64 sx, .int .i64 sy] 35) ∧ w7.heap.size = bt ∧ zP w1 W8 [bt, g, bR, bS] g out x y ∧ W8.heap[bt]? = some (.cells #[.int .i64 sx, .int .i64 sy] 35 (0, 0)) ∧ Below w7.heap.size w7 W8 := ⟨_, _, rfl, rfl, I7.out.guard _, zu _ _, qw (Below.refl _ _) _⟩
          rw [← e8, et]
          have nbt : bt ≠ bR ∧ bt ≠ bS ∧ bt ≠ bk ∧ bt ≠ g := by
            have := qy S7.out; have := I7.out.lt; have h1 := lR7; have h2 := lk7; omega
          have NBT := qa.mk nbt
          have I8 := qa.mk i8
          have T8 := qa.mk t8
          have S8 := qa.mk ((b8.block _ (qy S7.out)).trans S7.out)
          have R8 := qa.mk ((b8.block _ (qy R7.out)).trans R7.out)
          have K8 := qa.mk ((b8.block _ (qy K7.out)).trans K7.out)
          have c8 := Kd.jb C7.out b8
          have BT := qa.mk (show w1.heap.size ≤ bt by rw [← et]; exact I7.out.base)
          obtain ⟨ad2, ea2, y0, y1, y2⟩ := jh c8 (i + 1) (by omega) i2
          injection ea2 with ea2
          subst ea2
          have r80 : W8.cell? ⟨bR, 0, none⟩ = some (.slice (some ad) rest.length c1) := (qb R8.out 0).trans rfl
          generalize hY : ql rest (i + 1) = Y at HQ y0 y1 y2
          obtain ⟨tx, ty, tk⟩ := Y
          dsimp only at HQ y0 y1 y2
          have t80 : W8.cell? ⟨bt, 0, none⟩ = some (.int .i64 sx) := (qb t8 0).trans rfl
          have t81 : W8.cell? ⟨bt, 1, none⟩ = some (.int .i64 sy) := (qb t8 1).trans rfl
          clear e8 et i8 t8 b8 c8 hY lR7 lk7 s70 s71 r70 c72 nbt
          go_upto_region 28 with (go_at_call 49; refine (jD.calls tx ty tk tx ty _ rfl).mono ?_; rintro e w9 ⟨rfl, hb9⟩; have I9 := qa.mk (I8.out.below hb9); have S9 := qa.mk ((hb9.block _ (qy S8.out)).trans S8.out); have R9 := qa.mk ((hb9.block _ (qy R8.out)).trans R8.out); have K9 := qa.mk ((hb9.block _ (qy K8.out)).trans K8.out); have T9 := qa.mk ((hb9.block _ (qy T8.out)).trans T8.out); have t90 : w9.cell? ⟨bt, 0, none⟩ = some (.int .i64 sx) := (qb T9.out 0).trans rfl; have t91 : w9.cell? ⟨bt, 1, none⟩ = some (.int .i64 sy) := (qb T9.out 1).trans rfl; have f90 := qo T9.out 0; have f91 := qo T9.out 1; clear hb9)
          obtain ⟨W6, e6, i6, k6, s6, r6, t6⟩ : ∃ W6, W6 = (w9.setCell ⟨bt, 0, none⟩ (.int .i64 tx)).setCell ⟨bt, 1, none⟩ (.int .i64 ty) ∧ zP w1 W6 [g, bR, bS] g out x y ∧ W6.heap[bk]? = some (.cells #[.int .i64 kx, .int .i64 ky, .int .i64 2] 40 (0, 0)) ∧ W6.heap[bS]? = some (.cells #[.int .i64 sx, .int .i64 sy] 35 (0, 0)) ∧ W6.heap[bR]? = some (.cells #[.slice (some ad) rest.length c1] 37 (0, 0)) ∧ W6.heap[bt]? = some (.cells #[.int .i64 tx, .int .i64 ty] 35 (0, 0)) := by
            obtain ⟨n1, n2, n3, n4⟩ := NBT.out
            refine ⟨_, rfl, ((I9.out.set (by simp) n4 BT.out).set (by simp) n4 BT.out).weak (fun k hk => List.mem_cons_of_mem _ hk) (by simp), ?_, ?_, ?_, ?_⟩
            · rw [Below.heap_setCell _ _ _ bk (fun e => n3 e.symm), Below.heap_setCell _ _ _ bk (fun e => n3 e.symm)]; exact K9.out
            · rw [Below.heap_setCell _ _ _ bS (fun e => n2 e.symm), Below.heap_setCell _ _ _ bS (fun e => n2 e.symm)]; exact S9.out
            · rw [Below.heap_setCell _ _ _ bR (fun e => n1 e.symm), Below.heap_setCell _ _ _ bR (fun e => n1 e.symm)]; exact R9.out
            · exact (Jq (v := .int .i64 tx) (Jq (v := .int .i64 tx) T9.out)).trans rfl
          rw [← e6]
          have I6 := qa.mk i6
          have S6 := qa.mk s6
          have R6 := qa.mk r6
          have kd0 : W6.drew.cell? ⟨bk, 0, none⟩ = some (.int .i64 kx) := (qb (qd k6) 0).trans rfl
          have kd1 : W6.drew.cell? ⟨bk, 1, none⟩ = some (.int .i64 ky) := (qb (qd k6) 1).trans rfl
          have kd2 : W6.drew.cell? ⟨bk, 2, none⟩ = some (.int .i64 2) := (qb (qd k6) 2).trans rfl
          have td0 : W6.drew.cell? ⟨bt, 0, none⟩ = some (.int .i64 tx) := (qb (qd t6) 0).trans rfl
          have td1 : W6.drew.cell? ⟨bt, 1, none⟩ = some (.int .i64 ty) := (qb (qd t6) 1).trans rfl
          clear e6 i6 k6 s6 r6 t6 y0 y1 y2 t80 t81 t90 t91 f90 f91 r80
          go_upto_region 29 with fail
          refine jS (n := 5) (S := fun w' => w'.cell? ⟨bk, 0, none⟩ = some (.int .i64 kx) ∧ w'.cell? ⟨bk, 1, none⟩ = some (.int .i64 ky) ∧ w'.cell? ⟨bk, 2, none⟩ = some (.int .i64 2) ∧ w'.cell? ⟨bt, 0, none⟩ = some (.int .i64 tx) ∧ w'.cell? ⟨bt, 1, none⟩ = some (.int .i64 ty)) (ds := [4]) #[false, false, false, false, false] (by kernel_rfl) rfl rfl ⟨kd0, kd1, kd2, td0, td1⟩ (fun hHeld => ?_)
          refine za (i := 0) (N := some 126) (v := ?_) (a' := ?_) #[true, false, false, false, false] rfl rfl (by kernel_rfl) (fun _ _ _ h => h) (Or.inl ⟨by rfl, ?_⟩) ?_ ?_
          rotate_left
          · intro w'
            go_simp
            with_reducible rfl
          rotate_left
          · simp only [Act.put, List.setIfInBounds_toArray, List.set_cons_zero, List.set_cons_succ, qz, qA]
            rfl
          refine zD (i := 1) (N := some 127) (v := ?_) (a' := ?_) #[true, true, false, false, false] rfl rfl (by kernel_rfl) (fun _ _ _ h => h) (Or.inl ⟨by rfl, ?_⟩) hHeld ?_ ?_
          rotate_left
          · rintro w' ⟨s0, s1, s2, s3, s4⟩
            go_simp
            with_reducible rfl
          rotate_left
          · simp only [Act.put, List.setIfInBounds_toArray, List.set_cons_zero, List.set_cons_succ, qz, qA]
            rfl
          refine zD (i := 3) (N := some 129) (v := ?_) (a' := ?_) #[true, true, false, true, false] rfl rfl (by kernel_rfl) (fun _ _ _ h => h) (Or.inl ⟨by rfl, ?_⟩) hHeld ?_ ?_
          rotate_left
          · rintro w' ⟨s0, s1, s2, s3, s4⟩
            go_simp
            with_reducible rfl
          rotate_left
          · simp only [Act.put, List.setIfInBounds_toArray, List.set_cons_zero, List.set_cons_succ, qz, qA]
            rfl
          refine jd (i := 2) (N := some 128) #[true, true, true, true, false] rfl rfl (by kernel_rfl) (by decide) (fun K hK => ?_)
          refine zS Try.func49 (by kernel_rfl) rfl #[.agg #[.int .i64 kx, .int .i64 ky, .int .i64 2]] (by rfl) rfl rfl (by simp only [List.map_toArray, List.map_cons, List.map_nil]; rfl) ?_
          refine (jD.calls kx ky 2 kx ky _ rfl).mono ?_
          rintro e w7 ⟨rfl, hb7⟩
          have I7 := qa.mk (I6.out.drew.below hb7)
          have S7 := qa.mk ((hb7.block _ (qy (qd S6.out))).trans (qd S6.out))
          have R7 := qa.mk ((hb7.block _ (qy (qd R6.out))).trans (qd R6.out))
          refine ⟨_, rfl, ?_⟩
          refine hK.out _ _ ⟨qc hb7 hHeld.1, qc hb7 hHeld.2.1, qc hb7 hHeld.2.2.1, qc hb7 hHeld.2.2.2.1, qc hb7 hHeld.2.2.2.2⟩ (fun hHeld => ?_)
          clear hK K
          refine zo (a' := ?_) ?_ ?_
          rotate_left
          · show Act.put _ (some 128) _ = _
            simp only [Act.put, List.setIfInBounds_toArray, List.set_cons_zero, List.set_cons_succ, qz, qA]
            rfl
          refine QP (i := 4) (N := some 130) #[true, true, true, true, true] rfl rfl (by kernel_rfl) (by decide) (fun K hK => ?_)
          refine zS Try.func50 (by kernel_rfl) rfl #[.pointer (some ⟨g, 0, none⟩), .agg #[.int .i64 kx, .int .i64 ky], .agg #[.int .i64 tx, .int .i64 ty]] (by rfl) rfl rfl (by simp only [List.map_toArray, List.map_cons, List.map_nil]; rfl) ?_
          refine (pen_quad k w1 _ [g, bR, bS] g out pts x y kx ky tx ty (by omega) I7 HQ).mono ?_
          rintro e w8 ⟨rfl, i8, k8⟩
          have I8 := qa.mk i8
          have S8 := qa.mk ((k8.2 bS (by simp) nS).trans S7.out)
          have R8 := qa.mk ((k8.2 bR (by simp) nR).trans R7.out)
          clear i8 k8
          refine ⟨_, rfl, ?_⟩
          refine hK.out _ _ ?_
          clear hK K
          refine zo (a' := ?_) ?_ ?_
          rotate_left
          · show Act.put _ (some 130) _ = _
            simp only [Act.put, List.setIfInBounds_toArray, List.set_cons_zero, List.set_cons_succ, qz, qA]
            rfl
          refine Qa (by kernel_rfl) ?_
          go_wp2
          refine ⟨⟨m, i + 2, _, _, _, false, rfl, rfl, by omega, by omega, HL, I8, S8, R8⟩, ?_⟩
          show (_ : Nat) < _
          simp only [intOf]
          omega
      · cases m with
        | zero => have := HL.out; simp [ctL] at this
        | succ m =>
          have hl := HL.out
          simp only [ctL] at hl
          rw [if_neg hlt] at hl
          injection hl with hl; injection hl with hl e2
          subst e2
          obtain ⟨v, p1, p2, _, pg, pb, _⟩ := HI.out
          obtain ⟨Ao, co, rfl⟩ := Kd.zX p2
          have p0 : wr.cell? ⟨g, 0, none⟩ = some (.slice Ao out.length co) := (qb p1 0).trans rfl
          have P1 := qa.mk p1
          have P2 := qa.mk p2
          have PB := qa.mk pb
          clear p1 p2 pb
          by_cases cq : cl = true ∧ 1 < out.length
          · rw [if_pos cq] at hl
            obtain ⟨rfl, c1⟩ := cq
            subst hl
            obtain ⟨gr, cap, ef, _, grl, _⟩ := Kd.R_form P2.out (show 0 < out.length by omega)
            injection ef with ef1 ef2 ef3
            subst ef1 ef3
            have lc := (Kd.jq P2.out).2.1
            have fg0 := qo P1.out 0
            have hw1 : wrap64 ((out.length : Int) - 1) = ((out.length - 1 : Nat) : Int) := by
              have := HL.out
              have h1 := P2.out
              unfold wrap64; have := (Kd.jq P2.out).2.2.2.1; omega
            have HW1 := qa.mk hw1
            have hcut : (0 ≤ wrap64 ((out.length : Int) - 1) ∧ wrap64 ((out.length : Int) - 1) ≤ (co : Int)) = True := eq_true (by rw [hw1]; omega)
            clear hw1
            go_upto_region 33 with fail
            have pd0 : wr.drew.cell? ⟨g, 0, none⟩ = some (.slice (some ⟨gr, 0, none⟩) out.length co) := p0
            have fd0 : wr.drew.frozen? ⟨g, 0, none⟩ = false := fg0
            refine jS (n := 15) (S := fun w' => w'.cell? ⟨g, 0, none⟩ = some (.slice (some ⟨gr, 0, none⟩) out.length co)) (ds := [14]) #[false, false, false, false, false, false, false, false, false, false, false, false, false, false, false] (by kernel_rfl) rfl rfl (pd0) (fun hHeld => ?_)
            refine za (i := 0) (N := some 155) (v := ?_) (a' := ?_) #[true, false, false, false, false, false, false, false, false, false, false, false, false, false, false] rfl rfl (by kernel_rfl) (fun _ _ _ h => h) (Or.inl ⟨by rfl, ?_⟩) ?_ ?_
            rotate_left
            · intro w'
              go_simp
              with_reducible rfl
            rotate_left
            · simp only [Act.put, List.setIfInBounds_toArray, List.set_cons_zero, List.set_cons_succ, qz, qA]
              rfl
            refine za (i := 1) (N := some 156) (v := ?_) (a' := ?_) #[true, true, false, false, false, false, false, false, false, false, false, false, false, false, false] rfl rfl (by kernel_rfl) (fun _ _ _ h => h) (Or.inl ⟨by rfl, ?_⟩) ?_ ?_
            rotate_left
            · intro w'
              go_simp
              with_reducible rfl
            rotate_left
            · simp only [Act.put, List.setIfInBounds_toArray, List.set_cons_zero, List.set_cons_succ, qz, qA]
              rfl
            refine za (i := 2) (N := some 157) (v := ?_) (a' := ?_) #[true, true, true, false, false, false, false, false, false, false, false, false, false, false, false] rfl rfl (by kernel_rfl) (fun _ _ _ h => h) (Or.inl ⟨by rfl, ?_⟩) ?_ ?_
            rotate_left
            · intro w'
              go_simp
              with_reducible rfl
            rotate_left
            · simp only [Act.put, List.setIfInBounds_toArray, List.set_cons_zero, List.set_cons_succ, qz, qA]
              rfl
            refine za (i := 3) (N := some 158) (v := ?_) (a' := ?_) #[true, true, true, true, false, false, false, false, false, false, false, false, false, false, false] rfl rfl (by kernel_rfl) (fun _ _ _ h => h) (Or.inl ⟨by rfl, ?_⟩) ?_ ?_
            rotate_left
            · intro w'
              go_simp
              with_reducible rfl
            rotate_left
            · simp only [Act.put, List.setIfInBounds_toArray, List.set_cons_zero, List.set_cons_succ, qz, qA]
              rfl
            refine za (i := 5) (N := some 160) (v := ?_) (a' := ?_) #[true, true, true, true, false, true, false, false, false, false, false, false, false, false, false] rfl rfl (by kernel_rfl) (fun _ _ _ h => h) (Or.inl ⟨by rfl, ?_⟩) ?_ ?_
            rotate_left
            · intro w'
              go_simp
              with_reducible rfl
            rotate_left
            · simp only [Act.put, List.setIfInBounds_toArray, List.set_cons_zero, List.set_cons_succ, qz, qA]
              rfl
            refine za (i := 6) (N := some 161) (v := ?_) (a' := ?_) #[true, true, true, true, false, true, true, false, false, false, false, false, false, false, false] rfl rfl (by kernel_rfl) (fun _ _ _ h => h) (Or.inl ⟨by rfl, ?_⟩) ?_ ?_
            rotate_left
            · intro w'
              go_simp
              with_reducible rfl
            rotate_left
            · simp only [Act.put, List.setIfInBounds_toArray, List.set_cons_zero, List.set_cons_succ, qz, qA]
              rfl
            refine za (i := 7) (N := some 162) (v := ?_) (a' := ?_) #[true, true, true, true, false, true, true, true, false, false, false, false, false, false, false] rfl rfl (by kernel_rfl) (fun _ _ _ h => h) (Or.inl ⟨by rfl, ?_⟩) ?_ ?_
            rotate_left
            · intro w'
              go_simp
              with_reducible rfl
            rotate_left
            · simp only [Act.put, List.setIfInBounds_toArray, List.set_cons_zero, List.set_cons_succ, qz, qA]
              rfl
            refine zD (i := 4) (N := some 159) (v := ?_) (a' := ?_) #[true, true, true, true, true, true, true, true, false, false, false, false, false, false, false] rfl rfl (by kernel_rfl) (fun _ _ _ h => h) (Or.inl ⟨by rfl, ?_⟩) hHeld ?_ ?_
            rotate_left
            · intro w' s0
              go_simp
              with_reducible rfl
            rotate_left
            · simp only [Act.put, List.setIfInBounds_toArray, List.set_cons_zero, List.set_cons_succ, qz, qA]
              rfl
            refine zD (i := 8) (N := some 163) (v := ?_) (a' := ?_) #[true, true, true, true, true, true, true, true, true, false, false, false, false, false, false] rfl rfl (by kernel_rfl) (fun _ _ _ h => h) (Or.inl ⟨by rfl, ?_⟩) hHeld ?_ ?_
            rotate_left
            · intro w' s0
              go_simp
              with_reducible rfl
            rotate_left
            · simp only [Act.put, List.setIfInBounds_toArray, List.set_cons_zero, List.set_cons_succ, qz, qA]
              rfl
            refine za (i := 9) (N := some 164) (v := ?_) (a' := ?_) #[true, true, true, true, true, true, true, true, true, true, false, false, false, false, false] rfl rfl (by kernel_rfl) (fun _ _ _ h => h) (Or.inl ⟨by rfl, ?_⟩) ?_ ?_
            rotate_left
            · intro w'
              go_simp
              with_reducible rfl
            rotate_left
            · simp only [Act.put, List.setIfInBounds_toArray, List.set_cons_zero, List.set_cons_succ, qz, qA]
              rfl
            refine za (i := 10) (N := some 165) (v := ?_) (a' := ?_) #[true, true, true, true, true, true, true, true, true, true, true, false, false, false, false] rfl rfl (by kernel_rfl) (fun _ _ _ h => h) (Or.inl ⟨by rfl, ?_⟩) ?_ ?_
            rotate_left
            · intro w'
              go_simp
              with_reducible rfl
            rotate_left
            · simp only [Act.put, List.setIfInBounds_toArray, List.set_cons_zero, List.set_cons_succ, qz, qA]
              rfl
            refine za (i := 11) (N := some 166) (v := ?_) (a' := ?_) #[true, true, true, true, true, true, true, true, true, true, true, true, false, false, false] rfl rfl (by kernel_rfl) (fun _ _ _ h => h) (Or.inl ⟨by rfl, ?_⟩) ?_ ?_
            rotate_left
            · intro w'
              go_simp
              with_reducible rfl
            rotate_left
            · simp only [Act.put, List.setIfInBounds_toArray, List.set_cons_zero, List.set_cons_succ, qz, qA]
              rfl
            refine za (i := 12) (N := some 167) (v := ?_) (a' := ?_) #[true, true, true, true, true, true, true, true, true, true, true, true, true, false, false] rfl rfl (by kernel_rfl) (fun _ _ _ h => h) (Or.inl ⟨by rfl, ?_⟩) ?_ ?_
            rotate_left
            · intro w'
              go_simp
              with_reducible rfl
            rotate_left
            · simp only [Act.put, List.setIfInBounds_toArray, List.set_cons_zero, List.set_cons_succ, qz, qA]
              rfl
            refine za (i := 13) (N := some 168) (v := ?_) (a' := ?_) #[true, true, true, true, true, true, true, true, true, true, true, true, true, true, false] rfl rfl (by kernel_rfl) (fun _ _ _ h => h) (Or.inl ⟨by rfl, ?_⟩) ?_ ?_
            rotate_left
            · intro w'
              go_simp
              with_reducible rfl
            rotate_left
            · simp only [Act.put, List.setIfInBounds_toArray, List.set_cons_zero, List.set_cons_succ, qz, qA]
              rfl
            refine QP (i := 14) (N := none) #[true, true, true, true, true, true, true, true, true, true, true, true, true, true, true] rfl rfl (by kernel_rfl) (by decide) (fun K hK => ?_)
            refine ZT (w1 := ?_) (by rfl) rfl ?_ ?_
            rotate_left
            · go_simp
              rfl
            refine hK.out _ _ ?_
            clear hK K
            refine Qa (by kernel_rfl) ?_
            go_wp2
            go_ret2
            refine ⟨_, rfl, ?_, qf (qh HB1.out (jf PB.out)) (Nat.le_trans (qx HB1.out) HI.out.gb)⟩
            rw [HW1.out, Int.toNat_natCast]
            have hg := HI.out.gm
            exact Kd.zV (Kd.jU (Kd.QO (Kd.Qu (Kd.R_take P2.out (m := out.length - 1) (by omega))) (fun k hk e => hk (e ▸ hg)) _) (qx HB1.out)) (fun _ _ => trivial)
          · rw [if_neg cq] at hl
            subst hl
            cases cl with
            | false =>
              go_wp2
              go_ret2
              exact ⟨_, rfl, Kd.zV (Kd.jU P2.out (qx HB1.out)) (fun _ _ => trivial), qh HB1.out PB.out⟩
            | true =>
              have c1 : ¬ 1 < out.length := fun z => cq ⟨rfl, z⟩
              go_wp2
              go_ret2
              exact ⟨_, rfl, Kd.zV (Kd.jU P2.out (qx HB1.out)) (fun _ _ => trivial), qh HB1.out PB.out⟩
theorem Zx {k : Nat} {sx sy : Int} {rest : List S40} : ∀ (m : Nat) (i : Int) (out : List S35) (x y : Int) (cl : Bool), LeO (ctL k sx sy rest m i out x y cl) (ctL (k + 1) sx sy rest m i out x y cl)
  | 0, _, _, _, _, _ => fun r h => h
  | m + 1, i, out, x, y, cl => by
    unfold ctL
    exact Qj (Qj QZ (Qj (Zx m _ _ _ _ _) (Qj (Qj (jR (zM.mono _ _ _ _ _ _ k) fun mm => jR JR fun pts => Zx m _ _ _ _ _) (Qj QZ (Qj (jR JR fun pts => Zx m _ _ _ _ _) (jR JR fun pts => Zx m _ _ _ _ _)))) (Qj (Qj QZ (Qj QZ (Qj QZ (Qj (jR qaN fun pts => Zx m _ _ _ _ _) (jR qaN fun pts => Zx m _ _ _ _ _))))) QZ)))) QZ
theorem jm.mono : ∀ l0 k, LeO (jm.f k l0) (jm.f (k + 1) l0) := by
  intro l0 k
  unfold jm.f
  exact Qj QZ (jR (zg.mono l0 k) fun r => Qj QZ (Qj (Zx _ _ _ _ _ _) QZ))
end Go.Proofs.Ytmlkpadlafjfeaa.P
