import Derived.Test.YtonljpciadeafaaSx0
import Derived.Test.YtonljpciadeafaaSfAS
import Derived.WalkLawsBesides
set_option linter.unusedVariables false
set_option linter.unusedSimpArgs false
namespace Go.Proofs.Ytonljpciadeafaa.S
open Go Go.RowKit Go.Proofs.YtonljpciadeafaaW.PrintWords Go.Proofs.YtonljpciadeafaaW.PrintLast Go.Proofs.YtonljpciadeafaaW.PrintMore
def Qb (bs : List Int) (tag : ByteArray) : List S71 → Option (List Int)
  | [] => none
  | t :: r => if t.f0.toList = tag.toList then (if (ze bs t.f1 t.f2).2 = 0 then some (ze bs t.f1 t.f2).1 else none) else Qb bs tag r
theorem tabV_ok {bs : List Int} (h : okB bs) (tag : ByteArray) : ∀ (rows : List S71) (L : List Int), Qb bs tag rows = some L → okB L
  | [], _, e => by simp [Qb] at e
  | t :: r, L, e => by
    unfold Qb at e
    split at e
    · split at e
      · injection e with e
        rw [← e]
        exact ZO h _ _
      · cases e
    · exact tabV_ok h tag r L e
def TabP (T : Option (List Int)) (w : World) (e : Ending) (w' : World) : Prop := Below w.heap.size w w' ∧
  match T with
  | none => e = .returned (.tuple #[.pointer none, .bool false])
  | some L => ∃ g', w.heap.size ≤ g' ∧ e = .returned (.tuple #[.pointer (some ⟨g', 0, none⟩), .bool true]) ∧ Vw w' g' L
theorem TabP.bad {T : Option (List Int)} {w w' : World} (e : none = T) (h : Below w.heap.size w w') : TabP T w (.returned (.tuple #[.pointer none, .bool false])) w' := by
  subst e; exact ⟨h, rfl⟩
theorem TabP.good {T : Option (List Int)} {L : List Int} {w w' : World} {g : Nat} (e : some L = T) (h : Below w.heap.size w w') (hg : w.heap.size ≤ g) (hv : Vw w' g L) : TabP T w (.returned (.tuple #[.pointer (some ⟨g, 0, none⟩), .bool true])) w' := by
  subst e; exact ⟨h, g, hg, rfl, hv⟩
set_option maxRecDepth 100000 in
set_option maxHeartbeats 4000000 in
theorem tab_calls (bs : List Int) (g : Nat) (kd : Int) (rows : List S71) (tag : ByteArray) (w : World) (h : Fn w g kd rows bs) :
    Calls Try.prog 71 #[.pointer (some ⟨g, 0, none⟩), .string tag] w (TabP (Qb bs tag rows) w) := by
  obtain ⟨gv, A, c, hb, hv, hc, hr⟩ := h
  have c0 : w.cell? ⟨g, 0, none⟩ = some (.pointer (some ⟨gv, 0, none⟩)) := (qb hb 0).trans rfl
  have c2 : w.cell? ⟨g, 2, none⟩ = some (.slice A rows.length c) := (qb hb 2).trans rfl
  have HV := qa.mk hv
  have HR := qa.mk hr
  have HK := qa.mk hb
  have HL := qa.mk hr.2.1
  have HB0 := qa.mk (Below.refl w.heap.size w)
  have hl : (rows.length : Int) ≤ 9223372036854775807 := by have := hr.2.1; omega
  obtain ⟨Q, hQ⟩ : ∃ Q, Qb bs tag rows = Q := ⟨_, rfl⟩
  rw [hQ]
  have HQ0 : qa (Qb bs tag (rows.drop 0) = Q) := ⟨by rw [List.drop_zero]; exact hQ⟩
  clear hv hr hb hc hQ
  go_enter Try.func71, Try.ntmps71
  go_wp2
  go_loopw [15] (fun v15 wr => ∃ (i : Nat), v15 = .int .i64 i ∧ i ≤ rows.length ∧ qa (Qb bs tag (rows.drop i) = Q) ∧ qa (Below w.heap.size w wr)) (fun v15 _ => rows.length - (intOf v15).toNat)
  case atStart => exact ⟨0, rfl, Nat.zero_le _, HQ0, HB0⟩
  case round =>
    obtain ⟨i, rfl, hi, HQ, HB⟩ := hrel
    by_cases hlt : i < rows.length
    · have ilt := eq_true (show (i : Int) < (rows.length : Int) by omega)
      have ilt2 := eq_true hlt
      have ip := eq_true (show (0 : Int) ≤ (i : Int) by omega)
      obtain ⟨ad, ea, x0, x1, x2⟩ := at_T71 HR.out (i : Int) (by omega) (by omega)
      subst ea
      rw [Int.toNat_natCast] at x0 x1 x2
      replace x0 := zJ HB.out x0
      replace x1 := zJ HB.out x1
      replace x2 := zJ HB.out x2
      have er : QR rows (i : Int) = rows[i] := by unfold QR; rw [Int.toNat_natCast, List.getD_eq_getElem?_getD, List.getElem?_eq_getElem hlt]; rfl
      rw [er] at x0 x1 x2
      have hq := HQ.out
      rw [List.drop_eq_getElem_cons hlt, Qb] at hq
      obtain ⟨t, ht⟩ : ∃ t, rows[i] = t := ⟨_, rfl⟩
      rw [ht] at hq x0 x1 x2
      have hi' : (i : Int) + 1 ≤ 9223372036854775807 := by omega
      clear er ht
      by_cases ct : t.f0.toList = tag.toList
      · rw [if_pos ct] at hq
        have ctb : (t.f0.toList == tag.toList) = true := beq_iff_eq.mpr ct
        have y0 : wr.cell? ⟨g, 0, none⟩ = some (.pointer (some ⟨gv, 0, none⟩)) := zJ HB.out c0
        have V := qa.mk (HV.out.below HB.out)
        by_cases cp : (ze bs t.f1 t.f2).2 = 0
        · rw [if_pos cp] at hq
          have E := qa.mk hq
          have CG := qa.mk (fun (w2 : World) (hv : Vw w2 gv bs) => cut_good bs gv t.f1 t.f2 w2 hv cp)
          clear cp hq ct HQ
          go_upto_region 5 with fail
          obtain ⟨wT, gT, hW, eT, kT, lT⟩ : ∃ wT gT, wT = wr.alloc (Obj.cells #[.string t.f0, .int .i64 t.f1, .int .i64 t.f2] 71) ∧ wr.heap.size = gT ∧ wT.heap[gT]? = some (Obj.cells #[.string t.f0, .int .i64 t.f1, .int .i64 t.f2] 71 (0, 0)) ∧ Below wr.heap.size wr wT := ⟨_, _, rfl, rfl, zk _ _, qF (Below.refl _ _) _⟩
          rw [← hW, eT]
          replace y0 := zJ lT y0
          have z1 : wT.cell? ⟨gT, 1, none⟩ = some (.int .i64 t.f1) := (qb kT 1).trans rfl
          have z2 : wT.cell? ⟨gT, 2, none⟩ = some (.int .i64 t.f2) := (qb kT 2).trans rfl
          have B4 := qa.mk (qc HB.out lT)
          have V4 := qa.mk (V.out.below lT)
          clear hW eT kT lT
          refine jf (n := 14) (S := fun w' => w'.cell? ⟨g, 0, none⟩ = some (.pointer (some ⟨gv, 0, none⟩)) ∧ w'.cell? ⟨gT, 1, none⟩ = some (.int .i64 t.f1) ∧ w'.cell? ⟨gT, 2, none⟩ = some (.int .i64 t.f2)) (ds := [8]) #[false, false, false, false, false, false, false, false, false, false, false, false, false, false] (by kernel_rfl) rfl rfl ⟨y0, z1, z2⟩ (fun hHeld => ?_)
          obtain ⟨w4, hW4, B6, V6⟩ : ∃ w4, w4 = wT.drew ∧ qa (Below w.heap.size w w4) ∧ qa (Vw w4 gv bs) := ⟨_, rfl, ⟨zm B4.out⟩, ⟨V4.out.below (zm (Below.refl _ _))⟩⟩
          rw [← hW4] at hHeld ⊢
          clear hW4 B4 V4
          refine qj (i := 0) (N := some 24) (v := ?_) (a' := ?_) #[true, false, false, false, false, false, false, false, false, false, false, false, false, false] rfl rfl (by kernel_rfl) (fun _ _ _ h => h) (Or.inl ⟨by rfl, ?_⟩) ?_ ?_
          rotate_left
          · intro w'
            go_simp
            with_reducible rfl
          rotate_left
          · simp only [Act.put, List.setIfInBounds_toArray, List.set_cons_zero, List.set_cons_succ, qg, qh]
            rfl
          refine qj (i := 1) (N := some 25) (v := ?_) (a' := ?_) #[true, true, false, false, false, false, false, false, false, false, false, false, false, false] rfl rfl (by kernel_rfl) (fun _ _ _ h => h) (Or.inl ⟨by rfl, ?_⟩) ?_ ?_
          rotate_left
          · intro w'
            go_simp
            with_reducible rfl
          rotate_left
          · simp only [Act.put, List.setIfInBounds_toArray, List.set_cons_zero, List.set_cons_succ, qg, qh]
            rfl
          refine qj (i := 2) (N := some 26) (v := ?_) (a' := ?_) #[true, true, true, false, false, false, false, false, false, false, false, false, false, false] rfl rfl (by kernel_rfl) (fun _ _ _ h => h) (Or.inl ⟨by rfl, ?_⟩) ?_ ?_
          rotate_left
          · intro w'
            go_simp
            with_reducible rfl
          rotate_left
          · simp only [Act.put, List.setIfInBounds_toArray, List.set_cons_zero, List.set_cons_succ, qg, qh]
            rfl
          refine qj (i := 4) (N := some 28) (v := ?_) (a' := ?_) #[true, true, true, false, true, false, false, false, false, false, false, false, false, false] rfl rfl (by kernel_rfl) (fun _ _ _ h => h) (Or.inl ⟨by rfl, ?_⟩) ?_ ?_
          rotate_left
          · intro w'
            go_simp
            with_reducible rfl
          rotate_left
          · simp only [Act.put, List.setIfInBounds_toArray, List.set_cons_zero, List.set_cons_succ, qg, qh]
            rfl
          refine qj (i := 6) (N := some 30) (v := ?_) (a' := ?_) #[true, true, true, false, true, false, true, false, false, false, false, false, false, false] rfl rfl (by kernel_rfl) (fun _ _ _ h => h) (Or.inl ⟨by rfl, ?_⟩) ?_ ?_
          rotate_left
          · intro w'
            go_simp
            with_reducible rfl
          rotate_left
          · simp only [Act.put, List.setIfInBounds_toArray, List.set_cons_zero, List.set_cons_succ, qg, qh]
            rfl
          refine zq (i := 3) (N := some 27) (v := ?_) (a' := ?_) #[true, true, true, true, true, false, true, false, false, false, false, false, false, false] rfl rfl (by kernel_rfl) (fun _ _ _ h => h) (Or.inl ⟨by rfl, ?_⟩) hHeld ?_ ?_
          rotate_left
          · rintro w' ⟨s0, s1, s2⟩
            go_simp
            with_reducible rfl
          rotate_left
          · simp only [Act.put, List.setIfInBounds_toArray, List.set_cons_zero, List.set_cons_succ, qg, qh]
            rfl
          refine zq (i := 5) (N := some 29) (v := ?_) (a' := ?_) #[true, true, true, true, true, true, true, false, false, false, false, false, false, false] rfl rfl (by kernel_rfl) (fun _ _ _ h => h) (Or.inl ⟨by rfl, ?_⟩) hHeld ?_ ?_
          rotate_left
          · rintro w' ⟨s0, s1, s2⟩
            go_simp
            with_reducible rfl
          rotate_left
          · simp only [Act.put, List.setIfInBounds_toArray, List.set_cons_zero, List.set_cons_succ, qg, qh]
            rfl
          refine zq (i := 7) (N := some 31) (v := ?_) (a' := ?_) #[true, true, true, true, true, true, true, true, false, false, false, false, false, false] rfl rfl (by kernel_rfl) (fun _ _ _ h => h) (Or.inl ⟨by rfl, ?_⟩) hHeld ?_ ?_
          rotate_left
          · rintro w' ⟨s0, s1, s2⟩
            go_simp
            with_reducible rfl
          rotate_left
          · simp only [Act.put, List.setIfInBounds_toArray, List.set_cons_zero, List.set_cons_succ, qg, qh]
            rfl
          refine zS (i := 8) (N := some 32) #[true, true, true, true, true, true, true, true, true, false, false, false, false, false] rfl rfl (by kernel_rfl) (by decide) (fun K hK => ?_)
          refine Qk Try.func60 (by kernel_rfl) rfl #[.pointer (some ⟨gv, 0, none⟩), .int .i64 t.f1, .int .i64 t.f2] (by rfl) rfl rfl (by simp only [List.map_toArray, List.map_cons, List.map_nil]; rfl) ?_
          with_reducible refine (CG.out w4 V6.out).mono ?_
          rintro q w5 ⟨g', h1, rfl, h2, h3⟩
          refine ⟨_, rfl, ?_⟩
          have V5 := qa.mk h2
          have B5 := qa.mk (qc B6.out h3)
          have G5 := qa.mk (Nat.le_trans (qi B6.out) h1)
          clear h1 h2 h3
          refine hK.out _ _ ?_
          clear hK K
          refine zO (a' := ?_) ?_ ?_
          rotate_left
          · show Act.put _ (some 32) _ = _
            simp only [Act.put, List.setIfInBounds_toArray, List.set_cons_zero, List.set_cons_succ, qg, qh]
            rfl
          refine qj (i := 9) (N := some 23) (v := ?_) (a' := ?_) #[true, true, true, true, true, true, true, true, true, true, false, false, false, false] rfl rfl (by kernel_rfl) (fun _ _ _ h => h) (Or.inl ⟨by rfl, ?_⟩) ?_ ?_
          rotate_left
          · intro w'
            go_simp
            with_reducible rfl
          rotate_left
          · simp only [Act.put, List.setIfInBounds_toArray, List.set_cons_zero, List.set_cons_succ, qg, qh]
            rfl
          refine qj (i := 10) (N := some 33) (v := ?_) (a' := ?_) #[true, true, true, true, true, true, true, true, true, true, true, false, false, false] rfl rfl (by kernel_rfl) (fun _ _ _ h => h) (Or.inl ⟨by rfl, ?_⟩) ?_ ?_
          rotate_left
          · intro w'
            go_simp
            with_reducible rfl
          rotate_left
          · simp only [Act.put, List.setIfInBounds_toArray, List.set_cons_zero, List.set_cons_succ, qg, qh]
            rfl
          refine qj (i := 11) (N := some 34) (v := ?_) (a' := ?_) #[true, true, true, true, true, true, true, true, true, true, true, true, false, false] rfl rfl (by kernel_rfl) (fun _ _ _ h => h) (Or.inl ⟨by rfl, ?_⟩) ?_ ?_
          rotate_left
          · intro w'
            go_simp
            with_reducible rfl
          rotate_left
          · simp only [Act.put, List.setIfInBounds_toArray, List.set_cons_zero, List.set_cons_succ, qg, qh]
            rfl
          refine qj (i := 12) (N := some 8) (v := ?_) (a' := ?_) #[true, true, true, true, true, true, true, true, true, true, true, true, true, false] rfl rfl (by kernel_rfl) (fun _ _ _ h => h) (Or.inl ⟨by rfl, ?_⟩) ?_ ?_
          rotate_left
          · intro w'
            go_simp
            with_reducible rfl
          rotate_left
          · simp only [Act.put, List.setIfInBounds_toArray, List.set_cons_zero, List.set_cons_succ, qg, qh]
            rfl
          refine qj (i := 13) (N := some 9) (v := ?_) (a' := ?_) #[true, true, true, true, true, true, true, true, true, true, true, true, true, true] rfl rfl (by kernel_rfl) (fun _ _ _ h => h) (Or.inl ⟨by rfl, ?_⟩) ?_ ?_
          rotate_left
          · intro w'
            go_simp
            with_reducible rfl
          rotate_left
          · simp only [Act.put, List.setIfInBounds_toArray, List.set_cons_zero, List.set_cons_succ, qg, qh]
            rfl
          refine jM (by kernel_rfl) ?_
          go_wp2
          go_ret2
          exact TabP.good E.out B5.out G5.out V5.out
        · rw [if_neg cp] at hq
          have E := qa.mk hq
          have CG := qa.mk (fun (w2 : World) (hv : Vw w2 gv bs) => cut_bad bs gv t.f1 t.f2 w2 hv cp)
          clear cp hq ct HQ
          go_upto_region 5 with fail
          obtain ⟨wT, gT, hW, eT, kT, lT⟩ : ∃ wT gT, wT = wr.alloc (Obj.cells #[.string t.f0, .int .i64 t.f1, .int .i64 t.f2] 71) ∧ wr.heap.size = gT ∧ wT.heap[gT]? = some (Obj.cells #[.string t.f0, .int .i64 t.f1, .int .i64 t.f2] 71 (0, 0)) ∧ Below wr.heap.size wr wT := ⟨_, _, rfl, rfl, zk _ _, qF (Below.refl _ _) _⟩
          rw [← hW, eT]
          replace y0 := zJ lT y0
          have z1 : wT.cell? ⟨gT, 1, none⟩ = some (.int .i64 t.f1) := (qb kT 1).trans rfl
          have z2 : wT.cell? ⟨gT, 2, none⟩ = some (.int .i64 t.f2) := (qb kT 2).trans rfl
          have B4 := qa.mk (qc HB.out lT)
          have V4 := qa.mk (V.out.below lT)
          clear hW eT kT lT
          refine jf (n := 14) (S := fun w' => w'.cell? ⟨g, 0, none⟩ = some (.pointer (some ⟨gv, 0, none⟩)) ∧ w'.cell? ⟨gT, 1, none⟩ = some (.int .i64 t.f1) ∧ w'.cell? ⟨gT, 2, none⟩ = some (.int .i64 t.f2)) (ds := [8]) #[false, false, false, false, false, false, false, false, false, false, false, false, false, false] (by kernel_rfl) rfl rfl ⟨y0, z1, z2⟩ (fun hHeld => ?_)
          obtain ⟨w4, hW4, B6, V6⟩ : ∃ w4, w4 = wT.drew ∧ qa (Below w.heap.size w w4) ∧ qa (Vw w4 gv bs) := ⟨_, rfl, ⟨zm B4.out⟩, ⟨V4.out.below (zm (Below.refl _ _))⟩⟩
          rw [← hW4] at hHeld ⊢
          clear hW4 B4 V4
          refine qj (i := 0) (N := some 24) (v := ?_) (a' := ?_) #[true, false, false, false, false, false, false, false, false, false, false, false, false, false] rfl rfl (by kernel_rfl) (fun _ _ _ h => h) (Or.inl ⟨by rfl, ?_⟩) ?_ ?_
          rotate_left
          · intro w'
            go_simp
            with_reducible rfl
          rotate_left
          · simp only [Act.put, List.setIfInBounds_toArray, List.set_cons_zero, List.set_cons_succ, qg, qh]
            rfl
          refine qj (i := 1) (N := some 25) (v := ?_) (a' := ?_) #[true, true, false, false, false, false, false, false, false, false, false, false, false, false] rfl rfl (by kernel_rfl) (fun _ _ _ h => h) (Or.inl ⟨by rfl, ?_⟩) ?_ ?_
          rotate_left
          · intro w'
            go_simp
            with_reducible rfl
          rotate_left
          · simp only [Act.put, List.setIfInBounds_toArray, List.set_cons_zero, List.set_cons_succ, qg, qh]
            rfl
          refine qj (i := 2) (N := some 26) (v := ?_) (a' := ?_) #[true, true, true, false, false, false, false, false, false, false, false, false, false, false] rfl rfl (by kernel_rfl) (fun _ _ _ h => h) (Or.inl ⟨by rfl, ?_⟩) ?_ ?_
          rotate_left
          · intro w'
            go_simp
            with_reducible rfl
          rotate_left
          · simp only [Act.put, List.setIfInBounds_toArray, List.set_cons_zero, List.set_cons_succ, qg, qh]
            rfl
          refine qj (i := 4) (N := some 28) (v := ?_) (a' := ?_) #[true, true, true, false, true, false, false, false, false, false, false, false, false, false] rfl rfl (by kernel_rfl) (fun _ _ _ h => h) (Or.inl ⟨by rfl, ?_⟩) ?_ ?_
          rotate_left
          · intro w'
            go_simp
            with_reducible rfl
          rotate_left
          · simp only [Act.put, List.setIfInBounds_toArray, List.set_cons_zero, List.set_cons_succ, qg, qh]
            rfl
          refine qj (i := 6) (N := some 30) (v := ?_) (a' := ?_) #[true, true, true, false, true, false, true, false, false, false, false, false, false, false] rfl rfl (by kernel_rfl) (fun _ _ _ h => h) (Or.inl ⟨by rfl, ?_⟩) ?_ ?_
          rotate_left
          · intro w'
            go_simp
            with_reducible rfl
          rotate_left
          · simp only [Act.put, List.setIfInBounds_toArray, List.set_cons_zero, List.set_cons_succ, qg, qh]
            rfl
          refine zq (i := 3) (N := some 27) (v := ?_) (a' := ?_) #[true, true, true, true, true, false, true, false, false, false, false, false, false, false] rfl rfl (by kernel_rfl) (fun _ _ _ h => h) (Or.inl ⟨by rfl, ?_⟩) hHeld ?_ ?_
          rotate_left
          · rintro w' ⟨s0, s1, s2⟩
            go_simp
            with_reducible rfl
          rotate_left
          · simp only [Act.put, List.setIfInBounds_toArray, List.set_cons_zero, List.set_cons_succ, qg, qh]
            rfl
          refine zq (i := 5) (N := some 29) (v := ?_) (a' := ?_) #[true, true, true, true, true, true, true, false, false, false, false, false, false, false] rfl rfl (by kernel_rfl) (fun _ _ _ h => h) (Or.inl ⟨by rfl, ?_⟩) hHeld ?_ ?_
          rotate_left
          · rintro w' ⟨s0, s1, s2⟩
            go_simp
            with_reducible rfl
          rotate_left
          · simp only [Act.put, List.setIfInBounds_toArray, List.set_cons_zero, List.set_cons_succ, qg, qh]
            rfl
          refine zq (i := 7) (N := some 31) (v := ?_) (a' := ?_) #[true, true, true, true, true, true, true, true, false, false, false, false, false, false] rfl rfl (by kernel_rfl) (fun _ _ _ h => h) (Or.inl ⟨by rfl, ?_⟩) hHeld ?_ ?_
          rotate_left
          · rintro w' ⟨s0, s1, s2⟩
            go_simp
            with_reducible rfl
          rotate_left
          · simp only [Act.put, List.setIfInBounds_toArray, List.set_cons_zero, List.set_cons_succ, qg, qh]
            rfl
          refine zS (i := 8) (N := some 32) #[true, true, true, true, true, true, true, true, true, false, false, false, false, false] rfl rfl (by kernel_rfl) (by decide) (fun K hK => ?_)
          refine Qk Try.func60 (by kernel_rfl) rfl #[.pointer (some ⟨gv, 0, none⟩), .int .i64 t.f1, .int .i64 t.f2] (by rfl) rfl rfl (by simp only [List.map_toArray, List.map_cons, List.map_nil]; rfl) ?_
          with_reducible refine (CG.out w4 V6.out).mono ?_
          rintro q w5 ⟨rfl, h3⟩
          refine ⟨_, rfl, ?_⟩
          have B5 := qa.mk (qc B6.out h3)
          clear h3
          refine hK.out _ _ ?_
          clear hK K
          refine zO (a' := ?_) ?_ ?_
          rotate_left
          · show Act.put _ (some 32) _ = _
            simp only [Act.put, List.setIfInBounds_toArray, List.set_cons_zero, List.set_cons_succ, qg, qh]
            rfl
          refine qj (i := 9) (N := some 23) (v := ?_) (a' := ?_) #[true, true, true, true, true, true, true, true, true, true, false, false, false, false] rfl rfl (by kernel_rfl) (fun _ _ _ h => h) (Or.inl ⟨by rfl, ?_⟩) ?_ ?_
          rotate_left
          · intro w'
            go_simp
            with_reducible rfl
          rotate_left
          · simp only [Act.put, List.setIfInBounds_toArray, List.set_cons_zero, List.set_cons_succ, qg, qh]
            rfl
          refine qj (i := 10) (N := some 33) (v := ?_) (a' := ?_) #[true, true, true, true, true, true, true, true, true, true, true, false, false, false] rfl rfl (by kernel_rfl) (fun _ _ _ h => h) (Or.inl ⟨by rfl, ?_⟩) ?_ ?_
          rotate_left
          · intro w'
            go_simp
            with_reducible rfl
          rotate_left
          · simp only [Act.put, List.setIfInBounds_toArray, List.set_cons_zero, List.set_cons_succ, qg, qh]
            rfl
          refine qj (i := 11) (N := some 34) (v := ?_) (a' := ?_) #[true, true, true, true, true, true, true, true, true, true, true, true, false, false] rfl rfl (by kernel_rfl) (fun _ _ _ h => h) (Or.inl ⟨by rfl, ?_⟩) ?_ ?_
          rotate_left
          · intro w'
            go_simp
            with_reducible rfl
          rotate_left
          · simp only [Act.put, List.setIfInBounds_toArray, List.set_cons_zero, List.set_cons_succ, qg, qh]
            rfl
          refine qj (i := 12) (N := some 8) (v := ?_) (a' := ?_) #[true, true, true, true, true, true, true, true, true, true, true, true, true, false] rfl rfl (by kernel_rfl) (fun _ _ _ h => h) (Or.inl ⟨by rfl, ?_⟩) ?_ ?_
          rotate_left
          · intro w'
            go_simp
            with_reducible rfl
          rotate_left
          · simp only [Act.put, List.setIfInBounds_toArray, List.set_cons_zero, List.set_cons_succ, qg, qh]
            rfl
          refine qj (i := 13) (N := some 9) (v := ?_) (a' := ?_) #[true, true, true, true, true, true, true, true, true, true, true, true, true, true] rfl rfl (by kernel_rfl) (fun _ _ _ h => h) (Or.inl ⟨by rfl, ?_⟩) ?_ ?_
          rotate_left
          · intro w'
            go_simp
            with_reducible rfl
          rotate_left
          · simp only [Act.put, List.setIfInBounds_toArray, List.set_cons_zero, List.set_cons_succ, qg, qh]
            rfl
          refine jM (by kernel_rfl) ?_
          go_wp2
          go_ret2
          exact TabP.bad E.out B5.out
      · rw [if_neg ct] at hq
        have ctb : (t.f0.toList == tag.toList) = false := beq_eq_false_iff_ne.mpr ct
        have HQ2 := qa.mk hq
        clear hq ct HQ
        go_wp2
        exact ⟨⟨i + 1, by push_cast; rfl, by omega, HQ2, ⟨qF HB.out _⟩⟩, by show (_ : Nat) < _; simp only [intOf]; omega⟩
    · have ilt := eq_false (show ¬ (i : Int) < (rows.length : Int) by omega)
      have ilt2 := eq_false hlt
      have E := HQ.out
      rw [List.drop_eq_nil_of_le (by omega), Qb] at E
      have E := qa.mk E
      go_wp2
      go_ret2
      exact TabP.bad E.out HB.out
end Go.Proofs.Ytonljpciadeafaa.S
set_option linter.unusedVariables false
set_option linter.unusedSimpArgs false
namespace Go.Proofs.Ytonljpciadeafaa.S
open Go Go.RowKit Go.Proofs.YtonljpciadeafaaW.PrintWords Go.Proofs.YtonljpciadeafaaW.PrintLast Go.Proofs.YtonljpciadeafaaW.PrintMore
abbrev thr (E : Int) : Ending := .panicked [{ v := .iface 32 (.int .i64 E), recovered := false }]
theorem Qt (E : Int) (w : World) : Calls Try.prog 64 #[.bool true, .int .i64 E] w fun e w' => e = .returned (.tuple #[]) ∧ w' = w := by
  go_enter Try.func64, Try.ntmps64
  go_wp2
  go_end0
  exact ⟨rfl, rfl⟩
theorem jJ (E : Int) (w : World) : Calls Try.prog 64 #[.bool false, .int .i64 E] w fun e w' => e = thr E ∧ w' = w := by
  go_enter Try.func64, Try.ntmps64
  go_wp2
  exact ⟨rfl, rfl, rfl⟩
section
variable (bs : List Int) (g : Nat) (p : Int) (w : World) (hv : Vw w g bs) (ho : okB bs)
include hv ho
theorem QJ : Calls Try.prog 65 #[.pointer (some ⟨g, 0, none⟩), .int .i64 p] w fun e w' => e = .returned (.int .i64 (qI bs p 2).1) ∧ Below w.heap.size w w' := by
  have HP := qa.mk (Ji bs g p w hv ho)
  clear hv ho
  generalize qI bs p 2 = r at *
  go_enter Try.func65, Try.ntmps65
  go_wp2_with (go_at_call 37; refine HP.out.mono ?_; rintro q w1 ⟨rfl, h1⟩; have B1 := qa.mk h1; clear h1)
  go_ret
  exact ⟨rfl, B1.out⟩
theorem JX : Calls Try.prog 66 #[.pointer (some ⟨g, 0, none⟩), .int .i64 p] w fun e w' => e = .returned (.int .i64 (jK (qI bs p 2).1)) ∧ Below w.heap.size w w' := by
  have HP := qa.mk (i16_calls bs g p w hv ho)
  clear hv ho
  generalize jK (qI bs p 2).1 = s at *
  generalize qI bs p 2 = r at *
  go_enter Try.func66, Try.ntmps66
  go_wp2_with (go_at_call 72; refine HP.out.mono ?_; rintro q w1 ⟨rfl, h1⟩; have B1 := qa.mk h1; clear h1)
  go_ret
  exact ⟨rfl, B1.out⟩
end
def zl (bs : List Int) (tag : ByteArray) (n : Int) (rows : List S71) : Option (List Int) :=
  match Qb bs tag rows with
  | none => none
  | some L => if n ≤ L.length then some L else none
theorem QE {bs : List Int} (h : okB bs) {tag : ByteArray} {n : Int} {rows : List S71} {L : List Int} (e : zl bs tag n rows = some L) : okB L ∧ n ≤ L.length := by
  unfold zl at e
  cases q : Qb bs tag rows with
  | none => rw [q] at e; cases e
  | some M =>
    rw [q] at e
    dsimp only at e
    split at e
    · injection e with e
      subst e
      exact ⟨tabV_ok h tag rows M q, by assumption⟩
    · cases e
def TbP (T : Option (List Int)) (w : World) (e : Ending) (w' : World) : Prop := Below w.heap.size w w' ∧
  match T with
  | none => e = thr 41
  | some L => ∃ g', w.heap.size ≤ g' ∧ e = .returned (.pointer (some ⟨g', 0, none⟩)) ∧ Vw w' g' L
theorem TbP.bad {T : Option (List Int)} {w w' : World} (e : none = T) (h : Below w.heap.size w w') : TbP T w (thr 41) w' := by
  subst e; exact ⟨h, rfl⟩
theorem TbP.good {T : Option (List Int)} {L : List Int} {w w' : World} {g : Nat} (e : some L = T) (h : Below w.heap.size w w') (hg : w.heap.size ≤ g) (hv : Vw w' g L) : TbP T w (.returned (.pointer (some ⟨g, 0, none⟩))) w' := by
  subst e; exact ⟨h, g, hg, rfl, hv⟩
set_option maxRecDepth 100000 in
set_option maxHeartbeats 4000000 in
theorem QS (bs : List Int) (g gF : Nat) (kd : Int) (rows : List S71) (tag : ByteArray) (n : Int) (w : World) (h : Fn w gF kd rows bs) (hg : w.cell? ⟨g, 0, none⟩ = some (.pointer (some ⟨gF, 0, none⟩))) :
    Calls Try.prog 63 #[.pointer (some ⟨g, 0, none⟩), .string tag, .int .i64 n] w (TbP (zl bs tag n rows) w) := by
  have HP := qa.mk (tab_calls bs gF kd rows tag w h)
  obtain ⟨Q, hQ⟩ : ∃ Q, zl bs tag n rows = Q := ⟨_, rfl⟩
  rw [hQ]
  unfold zl at hQ
  clear h
  cases q : Qb bs tag rows with
  | none =>
    rw [q] at HP hQ
    have HQ := qa.mk hQ
    clear hQ q
    go_enter Try.func63, Try.ntmps63
    go_wp2_with (first | (go_at_call 71; refine HP.out.mono ?_; rintro e w1 ⟨h1, rfl⟩; have B1 := qa.mk h1; clear h1) | (go_at_call 64; refine (jJ _ _).mono ?_; rintro e w2 ⟨rfl, rfl⟩))
    exact ⟨rfl, TbP.bad HQ.out B1.out⟩
  | some L =>
    rw [q] at HP hQ
    dsimp only at hQ
    by_cases c : n ≤ L.length
    · rw [if_pos c] at hQ
      have HQ := qa.mk hQ
      have cb : decide (n ≤ (L.length : Int)) = true := decide_eq_true c
      have cc := eq_true c
      clear hQ q c
      go_enter Try.func63, Try.ntmps63
      go_wp2_with (first | (go_at_call 71; refine HP.out.mono ?_; rintro e w1 ⟨h1, g', h2, rfl, h3⟩; have B1 := qa.mk h1; have G1 := qa.mk h2; have V1 := qa.mk h3; clear h1 h2 h3) | (go_at_call 64; refine (Qt _ _).mono ?_; rintro e w3 ⟨rfl, rfl⟩) | (go_at_call 67; refine (ZC L g' _ V1.out).mono ?_; rintro e w2 ⟨rfl, h1⟩; have B2 := qa.mk (qc B1.out h1); have V2 := qa.mk (V1.out.below h1); clear h1))
      go_ret
      exact TbP.good HQ.out B2.out G1.out V2.out
    · rw [if_neg c] at hQ
      have HQ := qa.mk hQ
      have cb : decide (n ≤ (L.length : Int)) = false := decide_eq_false c
      have cc := eq_false c
      clear hQ q c
      go_enter Try.func63, Try.ntmps63
      go_wp2_with (first | (go_at_call 71; refine HP.out.mono ?_; rintro e w1 ⟨h1, g', h2, rfl, h3⟩; have B1 := qa.mk h1; have G1 := qa.mk h2; have V1 := qa.mk h3; clear h1 h2 h3) | (go_at_call 64; refine (jJ _ _).mono ?_; rintro e w3 ⟨rfl, rfl⟩) | (go_at_call 67; refine (ZC L g' _ V1.out).mono ?_; rintro e w2 ⟨rfl, h1⟩; have B2 := qa.mk (qc B1.out h1); clear h1))
      exact ⟨rfl, TbP.bad HQ.out B2.out⟩
end Go.Proofs.Ytonljpciadeafaa.S
set_option linter.unusedVariables false
set_option linter.unusedSimpArgs false
namespace Go.Proofs.Ytonljpciadeafaa.S
open Go Go.RowKit Go.Proofs.YtonljpciadeafaaW.PrintWords Go.Proofs.YtonljpciadeafaaW.PrintLast Go.Proofs.YtonljpciadeafaaW.PrintMore
theorem C_set {k : IntKind} {w : World} {p : Addr} {old x : Value} {A : Option Addr} {n : Nat} {xs : List Int} (h : Kd.C (Kd.int k) w A n xs) (ho : w.cell? p = some old) (hne : ∀ y, old ≠ .int k y) : Kd.C (Kd.int k) (w.setCell p x) A n xs := by
  refine ⟨h.1, h.2.1, fun hn => ?_⟩
  obtain ⟨ad, e, hc⟩ := h.2.2 hn
  refine ⟨ad, e, fun j q hj => ?_⟩
  obtain ⟨c, hs, hr, hcell⟩ := hc j q hj
  refine ⟨c, hs, hr, fun i u hu => ?_⟩
  have hr' : c = [Value.int k q] := hr
  have hu' : u = .int k q := by
    subst hr'
    match i, hu with
    | 0, hu => simpa using hu.symm
  have h0 := hcell i u hu
  rw [World.cell?_setCell_other]
  · exact h0
  · intro e2
    rw [e2] at ho
    have ho : w.cell? (ad.add (j * (Kd.int k).sz + i)) = some old := ho
    rw [h0] at ho
    injection ho with ho
    exact hne q (ho.symm.trans hu')
theorem Vw.set {w : World} {gv g j : Nat} {L : List Int} {cs : Array Value} {old x : Value} (h : Vw w gv L) (hb : w.heap[g]? = some (.cells cs 88 (0, 0))) (ho : w.cell? ⟨g, j, none⟩ = some old) (hne : ∀ y, old ≠ .int .u8 y) : Vw (w.setCell ⟨g, j, none⟩ x) gv L := by
  obtain ⟨A, c, h1, h2, h3⟩ := h
  refine ⟨A, c, blk_far h1 (p := ⟨g, j, none⟩) (fun e => ?_) x, h2, C_set h3 ho hne⟩
  have e : gv = g := e
  rw [e, hb] at h1
  injection h1 with h1
  injection h1 with _ h1
  exact absurd h1 (by decide)
structure St (w0 w wc : World) (g : Nat) (cs : Array Value) : Prop where
  lo : w0.heap.size ≤ g
  be : Below w0.heap.size w0 wc
  gr : w.grownBy wc (some g)
  bk : wc.heap[g]? = some (.cells cs 88 (0, 0))
theorem St.step {w0 w wc w' : World} {g : Nat} {cs : Array Value} (h : St w0 w wc g cs) (hb : Below wc.heap.size wc w') : St w0 w w' g cs :=
  ⟨h.lo, qc h.be hb, h.gr.trans ⟨hb.os, hb.tape, hb.output, hb.size, fun k hk _ => hb.block k hk⟩, (hb.block _ (qz h.bk)).trans h.bk⟩
theorem jh (w : World) (g j : Nat) (x : Value) : w.grownBy (w.setCell ⟨g, j, none⟩ x) (some g) :=
  ⟨rfl, rfl, rfl, by simp [World.setCell], fun k _ hk => Below.heap_setCell _ _ _ _ (fun e => hk (by simp [e]))⟩
theorem St.set {w0 w wc : World} {g : Nat} {cs cs' : Array Value} (h : St w0 w wc g cs) (j : Nat) (x : Value) (e : cs.setIfInBounds j x = cs') : St w0 w (wc.setCell ⟨g, j, none⟩ x) g cs' :=
  ⟨h.lo, qA h.be h.lo, h.gr.trans (jh _ _ _ _), qR h.bk j x e⟩
theorem St.view {w0 w wc : World} {gv g : Nat} {L : List Int} {cs : Array Value} (h : St w0 w wc g cs) (j : Nat) (x : Value) {old : Value} (hv : Vw wc gv L) (e : cs[j]? = some old) (hne : ∀ y, old ≠ .int .u8 y) : Vw (wc.setCell ⟨g, j, none⟩ x) gv L :=
  hv.set h.bk ((qb h.bk j).trans e) hne
def ThrP (E : Int) (cs : Array Value) (g : Nat) (w0 w : World) (e : Ending) (w' : World) : Prop :=
  Below w0.heap.size w0 w' ∧ w.grownBy w' (some g) ∧ (E ≠ 0 ∧ e = thr E ∨ E = 0 ∧ e = .returned (.tuple #[]) ∧ St w0 w w' g cs)
theorem St.bad {w0 w wc : World} {g : Nat} {cs cs' : Array Value} {E E' : Int} (h : St w0 w wc g cs) (e : E = E') (hn : E' ≠ 0) : ThrP E cs' g w0 w (thr E') wc := by
  subst e; exact ⟨h.be, h.gr, Or.inl ⟨hn, rfl⟩⟩
theorem St.good {w0 w wc : World} {g : Nat} {cs cs' : Array Value} {E : Int} (h : St w0 w wc g cs) (e : E = 0) (ec : cs = cs') : ThrP E cs' g w0 w (.returned (.tuple #[])) wc := by
  subst e ec; exact ⟨h.be, h.gr, Or.inr ⟨rfl, rfl, h⟩⟩
abbrev rdr (gF : Nat) (kd u n a d gp : Int) (va vb vp : Value) (f wd : Int) : Array Value := #[.pointer (some ⟨gF, 0, none⟩), .int .i64 kd, .int .i64 u, .int .i64 n, .int .i64 a, .int .i64 d, .int .i64 gp, va, vb, vp, .int .i64 f, .int .i64 wd]
abbrev zw : Value := .slice none 0 0
section
variable {P : Program} {ops : Array Oper} {Q : Exit → Act → World → Prop}
theorem throws_ {oi : Oper} {N : Option Tmp} {a : Act} {w : World} {K : Act → World → Prop} {f : FuncId} {fn : Func} {as_ : Array Operand} {ts : Array TypeId} (hf : P.funcs[f]? = some fn) (hname : (fn.name == "runtime.NumGoroutine") = false) (hb : fn.body.isSome = true) (args : Array Value)
    (hw : Region.wanted oi (yielded ops a.tmps) = true) (hN : oi.dst = N) (hop : oi.op = .call { callee := .value (.func f), args := as_, argTypes := ts }) (hargs : as_.map a.eval = args)
    (h : Calls P f args w fun e w' => ∃ c, e = .panicked c ∧ Q (.panic c) a w') : if Region.wanted oi (yielded ops a.tmps) = true then Oper.wp P oi a w K Q else K (a.put N undef) w := by
  have he := enters_ hf hname hb args w
  have hrun : (execOp a.eval oi).run P w = .ok (.enter f args) w := by
    unfold execOp
    simp [hop, resolve, Deferred.ofValue, invoke, Act.eval, hargs, he]
  rw [if_pos hw]
  subst hN
  unfold Oper.wp
  rw [hrun, Oper.upon_enter]
  refine h.mono fun e w'' hh => ?_
  obtain ⟨v, rfl, hk⟩ := hh
  exact hk
end
end Go.Proofs.Ytonljpciadeafaa.S
set_option linter.unusedVariables false
set_option linter.unusedSimpArgs false
namespace Go.Proofs.Ytonljpciadeafaa.S
open Go Go.RowKit Go.Proofs.YtonljpciadeafaaW.PrintWords Go.Proofs.YtonljpciadeafaaW.PrintLast Go.Proofs.YtonljpciadeafaaW.PrintMore
def j3 (T : Option (List Int)) : Int × Int × Int :=
  match T with
  | none => (41, 0, 0)
  | some L =>
    if (qI L 12 4).1 ≠ 1594834165 then (41, 0, 0)
    else if (qI L 18 2).1 < 16 then (41, 0, 0)
    else if 16384 < (qI L 18 2).1 then (41, 0, 0)
    else if 2 ≤ (qI L 50 2).1 then (41, 0, 0)
    else if (qI L 52 2).1 ≠ 0 then (42, 0, 0)
    else (0, (qI L 18 2).1, (qI L 50 2).1)
set_option maxRecDepth 100000 in
set_option maxHeartbeats 8000000 in
theorem head_calls (bs : List Int) (ho : okB bs) (g gF : Nat) (kd : Int) (rows : List S71) (w0 w : World) (hF : Fn w0 gF kd rows bs)
    (hs : St w0 w w g (rdr gF kd 0 0 0 0 0 zw zw zw 0 0)) (T : Option (List Int)) (hT : zl bs ⟨#[104, 101, 97, 100]⟩ 54 rows = T) :
    Calls Try.prog 43 #[.pointer (some ⟨g, 0, none⟩)] w (ThrP (j3 T).1 (rdr gF kd (j3 T).2.1 0 0 0 0 zw zw zw (j3 T).2.2 0) g w0 w) := by
  have S := qa.mk hs
  have HP := qa.mk (QS bs g gF kd rows ⟨#[104, 101, 97, 100]⟩ 54 w (hF.below hs.be) ((qb hs.bk 0).trans rfl))
  rw [hT] at HP
  have hok := fun L (e : T = some L) => (QE ho (hT.trans e)).1
  clear hT hs hF ho
  obtain ⟨E, hE⟩ : ∃ E, j3 T = E := ⟨_, rfl⟩
  rw [hE]
  cases T with
  | none =>
    have HE := qa.mk hE
    clear hE hok
    go_enter Try.func43, Try.ntmps43
    go_wp2_with (go_at_call 63; refine HP.out.mono ?_; rintro e w1 ⟨h1, rfl⟩; have S1 := qa.mk (S.out.step h1); clear h1)
    exact ⟨rfl, S1.out.bad (by rw [← HE.out]; rfl) (by decide)⟩
  | some L =>
    have ok := hok L rfl
    unfold j3 at hE
    dsimp only at hE
    have HE := qa.mk hE
    have U := qa.mk (fun (g' : Nat) (p : Int) (w : World) (hv : Vw w g' L) => QJ L g' p w hv ok)
    have U4 := qa.mk (fun (g' : Nat) (w : World) (hv : Vw w g' L) => Qu L g' 12 w hv ok)
    clear hE hok
    obtain ⟨m, e12, hm⟩ : ∃ a b, qI L 12 4 = (a, b) := ⟨_, _, rfl⟩
    rw [hm] at HE U4
    dsimp only at HE U4
    clear hm ok
    by_cases c1 : m = 1594834165
    rotate_left
    · rw [if_pos c1] at HE
      have c1b : (m == 1594834165) = false := beq_eq_false_iff_ne.mpr c1
      clear c1
      go_enter Try.func43, Try.ntmps43
      go_wp2_with (first | (go_at_call 63; refine HP.out.mono ?_; rintro e w1 ⟨h1, g', h2, rfl, h3⟩; have S1 := qa.mk (S.out.step h1); have V1 := qa.mk h3; clear h1 h2 h3) | (go_at_call 57; refine (U4.out g' w1 V1.out).mono ?_; rintro e w2 ⟨rfl, h1⟩; have S2 := qa.mk (S1.out.step h1); clear h1) | (go_at_call 64; refine (jJ _ _).mono ?_; rintro e w3 ⟨rfl, rfl⟩))
      exact ⟨rfl, S2.out.bad (by rw [← HE.out]) (by decide)⟩
    rw [if_neg (fun z => z c1)] at HE
    subst c1
    go_enter Try.func43, Try.ntmps43
    go_upto_region 3 with (first | (go_at_call 63; refine HP.out.mono ?_; rintro e w1 ⟨h1, g', h2, rfl, h3⟩; have S1 := qa.mk (S.out.step h1); have V1 := qa.mk h3; clear h1 h2 h3) | (go_at_call 57; refine (U4.out g' w1 V1.out).mono ?_; rintro e w2 ⟨rfl, h1⟩; have S2 := qa.mk (S1.out.step h1); have V2 := qa.mk (V1.out.below h1); clear h1) | (go_at_call 64; refine (Qt _ _).mono ?_; rintro e w3 ⟨rfl, rfl⟩))
    obtain ⟨u, hu⟩ : ∃ u, (qI L 18 2).1 = u := ⟨_, rfl⟩
    have U18 := qa.mk (fun (g' : Nat) (w : World) (hv : Vw w g' L) => U.out g' 18 w hv)
    rw [hu] at U18 HE
    clear hu
    go_upto_region 4 with (go_at_call 65; refine (U18.out g' _ V2.out).mono ?_; rintro e w4 ⟨rfl, h1⟩; have S4 := qa.mk (S2.out.step h1); have V4 := qa.mk (V2.out.below h1); have z0 := (qb S4.out.bk 2); have zf := qd S4.out.bk 2; clear h1)
    obtain ⟨X4, hX, SX4, VX4⟩ : ∃ X, X = w4.setCell ⟨g, 2, none⟩ (.int .i64 u) ∧ qa (St w0 w X g (rdr gF kd u 0 0 0 0 zw zw zw 0 0)) ∧ qa (Vw X g' L) := ⟨_, rfl, ⟨S4.out.set 2 _ rfl⟩, ⟨S4.out.view 2 _ V4.out rfl (by simp)⟩⟩
    rw [← hX]
    clear hX z0 zf S4 V4 S2 V2 U18
    have y2 : X4.cell? ⟨g, 2, none⟩ = some (.int .i64 u) := (qb SX4.out.bk 2).trans rfl
    by_cases c2 : u < 16
    · rw [if_pos c2] at HE
      have c2b : decide (16 ≤ u) = false := decide_eq_false (by omega)
      have c2c := eq_false (show ¬ 16 ≤ u by omega)
      clear c2
      go_wp2_with (go_at_call 64; refine (jJ _ _).mono ?_; rintro e w9 ⟨rfl, rfl⟩)
      exact ⟨rfl, SX4.out.bad (by rw [← HE.out]) (by decide)⟩
    rw [if_neg c2] at HE
    have c2b : decide (16 ≤ u) = true := decide_eq_true (by omega)
    have c2c := eq_true (show 16 ≤ u by omega)
    by_cases c3 : 16384 < u
    · rw [if_pos c3] at HE
      have c3b : decide (u ≤ 16384) = false := decide_eq_false (by omega)
      have c3c := eq_false (show ¬ u ≤ 16384 by omega)
      clear c3
      go_wp2_with (go_at_call 64; refine (jJ _ _).mono ?_; rintro e w9 ⟨rfl, rfl⟩)
      exact ⟨rfl, SX4.out.bad (by rw [← HE.out]) (by decide)⟩
    rw [if_neg c3] at HE
    have c3b : decide (u ≤ 16384) = true := decide_eq_true (by omega)
    have c3c := eq_true (show u ≤ 16384 by omega)
    go_upto_region 5 with (go_at_call 64; refine (Qt _ _).mono ?_; rintro e w5 ⟨rfl, rfl⟩)
    clear c2b c2c c3b c3c c2 c3 y2
    obtain ⟨f, hu⟩ : ∃ u, (qI L 50 2).1 = u := ⟨_, rfl⟩
    have U50 := qa.mk (fun (g' : Nat) (w : World) (hv : Vw w g' L) => U.out g' 50 w hv)
    rw [hu] at U50 HE
    clear hu
    go_upto_region 6 with (go_at_call 65; refine (U50.out g' _ VX4.out).mono ?_; rintro e w6 ⟨rfl, h1⟩; have S6 := qa.mk (SX4.out.step h1); have V6 := qa.mk (VX4.out.below h1); have z0 := (qb S6.out.bk 10); have zf := qd S6.out.bk 10; clear h1)
    obtain ⟨X6, hX, SX6, VX6⟩ : ∃ X, X = w6.setCell ⟨g, 10, none⟩ (.int .i64 f) ∧ qa (St w0 w X g (rdr gF kd u 0 0 0 0 zw zw zw f 0)) ∧ qa (Vw X g' L) := ⟨_, rfl, ⟨S6.out.set 10 _ rfl⟩, ⟨S6.out.view 10 _ V6.out rfl (by simp)⟩⟩
    rw [← hX]
    clear hX z0 zf S6 V6 SX4 VX4 U50
    have y10 : X6.cell? ⟨g, 10, none⟩ = some (.int .i64 f) := (qb SX6.out.bk 10).trans rfl
    by_cases c4 : 2 ≤ f
    · rw [if_pos c4] at HE
      have c4b : decide (f < 2) = false := decide_eq_false (by omega)
      have c4c := eq_false (show ¬ f < 2 by omega)
      clear c4
      go_wp2_with (go_at_call 64; refine (jJ _ _).mono ?_; rintro e w9 ⟨rfl, rfl⟩)
      exact ⟨rfl, SX6.out.bad (by rw [← HE.out]) (by decide)⟩
    rw [if_neg c4] at HE
    have c4b : decide (f < 2) = true := decide_eq_true (by omega)
    have c4c := eq_true (show f < 2 by omega)
    go_upto_region 7 with (go_at_call 64; refine (Qt _ _).mono ?_; rintro e w7 ⟨rfl, rfl⟩)
    clear c4b c4c c4 y10
    obtain ⟨v, hu⟩ : ∃ u, (qI L 52 2).1 = u := ⟨_, rfl⟩
    have U52 := qa.mk (fun (g' : Nat) (w : World) (hv : Vw w g' L) => U.out g' 52 w hv)
    rw [hu] at U52 HE
    clear hu
    by_cases c5 : v = 0
    · subst c5
      rw [if_neg (fun z => z rfl)] at HE
      go_wp2_with (first | (go_at_call 65; refine (U52.out g' _ VX6.out).mono ?_; rintro e w8 ⟨rfl, h1⟩; have S8 := qa.mk (SX6.out.step h1); clear h1) | (go_at_call 64; refine (Qt _ _).mono ?_; rintro e w9 ⟨rfl, rfl⟩))
      go_end0
      have q := HE.out
      subst q
      exact S8.out.good rfl rfl
    · rw [if_pos c5] at HE
      have c5b : (v == 0) = false := beq_eq_false_iff_ne.mpr c5
      clear c5
      go_wp2_with (first | (go_at_call 65; refine (U52.out g' _ VX6.out).mono ?_; rintro e w8 ⟨rfl, h1⟩; have S8 := qa.mk (SX6.out.step h1); clear h1) | (go_at_call 64; refine (jJ _ _).mono ?_; rintro e w9 ⟨rfl, rfl⟩))
      exact ⟨rfl, S8.out.bad (by rw [← HE.out]) (by decide)⟩
end Go.Proofs.Ytonljpciadeafaa.S
set_option linter.unusedVariables false
set_option linter.unusedSimpArgs false
namespace Go.Proofs.Ytonljpciadeafaa.S
open Go Go.RowKit Go.Proofs.YtonljpciadeafaaW.PrintWords Go.Proofs.YtonljpciadeafaaW.PrintLast Go.Proofs.YtonljpciadeafaaW.PrintMore
def jF (T : Option (List Int)) : Int × Int :=
  match T with
  | none => (41, 0)
  | some L =>
    if (qI L 0 4).1 = 20480 ∨ (qI L 0 4).1 = 65536 then
      (if (qI L 4 2).1 < 1 then (41, 0)
       else if 4096 < (qI L 4 2).1 then (43, 0)
       else (0, (qI L 4 2).1))
    else (42, 0)
set_option maxRecDepth 100000 in
set_option maxHeartbeats 8000000 in
theorem maxp_calls (bs : List Int) (ho : okB bs) (g gF : Nat) (kd u f : Int) (rows : List S71) (w0 w : World) (hF : Fn w0 gF kd rows bs)
    (hs : St w0 w w g (rdr gF kd u 0 0 0 0 zw zw zw f 0)) (T : Option (List Int)) (hT : zl bs ⟨#[109, 97, 120, 112]⟩ 6 rows = T) :
    Calls Try.prog 44 #[.pointer (some ⟨g, 0, none⟩)] w (ThrP (jF T).1 (rdr gF kd u (jF T).2 0 0 0 zw zw zw f 0) g w0 w) := by
  have S := qa.mk hs
  have HP := qa.mk (QS bs g gF kd rows ⟨#[109, 97, 120, 112]⟩ 6 w (hF.below hs.be) ((qb hs.bk 0).trans rfl))
  rw [hT] at HP
  have hok := fun L (e : T = some L) => (QE ho (hT.trans e)).1
  clear hT hs hF ho
  obtain ⟨E, hE⟩ : ∃ E, jF T = E := ⟨_, rfl⟩
  rw [hE]
  cases T with
  | none =>
    have HE := qa.mk hE
    clear hE hok
    go_enter Try.func44, Try.ntmps44
    go_wp2_with (go_at_call 63; refine HP.out.mono ?_; rintro e w1 ⟨h1, rfl⟩; have S1 := qa.mk (S.out.step h1); clear h1)
    exact ⟨rfl, S1.out.bad (by rw [← HE.out]; rfl) (by decide)⟩
  | some L =>
    have ok := hok L rfl
    unfold jF at hE
    dsimp only at hE
    have HE := qa.mk hE
    have U := qa.mk (fun (g' : Nat) (p : Int) (w : World) (hv : Vw w g' L) => QJ L g' p w hv ok)
    have U4 := qa.mk (fun (g' : Nat) (w : World) (hv : Vw w g' L) => Qu L g' 0 w hv ok)
    clear hE hok
    obtain ⟨m, e12, hm⟩ : ∃ a b, qI L 0 4 = (a, b) := ⟨_, _, rfl⟩
    rw [hm] at HE U4
    dsimp only at HE U4
    clear hm ok
    by_cases c1 : m = 20480 ∨ m = 65536
    rotate_left
    · rw [if_neg c1] at HE
      have c1b : (m == 20480) = false := beq_eq_false_iff_ne.mpr (fun z => c1 (Or.inl z))
      have c1c : (m == 65536) = false := beq_eq_false_iff_ne.mpr (fun z => c1 (Or.inr z))
      clear c1
      go_enter Try.func44, Try.ntmps44
      go_wp2_with (first | (go_at_call 63; refine HP.out.mono ?_; rintro e w1 ⟨h1, g', h2, rfl, h3⟩; have S1 := qa.mk (S.out.step h1); have V1 := qa.mk h3; clear h1 h2 h3) | (go_at_call 57; refine (U4.out g' w1 V1.out).mono ?_; rintro e w2 ⟨rfl, h1⟩; have S2 := qa.mk (S1.out.step h1); clear h1) | (go_at_call 64; refine (jJ _ _).mono ?_; rintro e w3 ⟨rfl, rfl⟩))
      exact ⟨rfl, S2.out.bad (by rw [← HE.out]) (by decide)⟩
    rw [if_pos c1] at HE
    rcases c1 with rfl | rfl
    all_goals
      go_enter Try.func44, Try.ntmps44
      go_upto_region 3 with (first | (go_at_call 63; refine HP.out.mono ?_; rintro e w1 ⟨h1, g', h2, rfl, h3⟩; have S1 := qa.mk (S.out.step h1); have V1 := qa.mk h3; clear h1 h2 h3) | (go_at_call 57; refine (U4.out g' w1 V1.out).mono ?_; rintro e w2 ⟨rfl, h1⟩; have S2 := qa.mk (S1.out.step h1); have V2 := qa.mk (V1.out.below h1); clear h1) | (go_at_call 64; refine (Qt _ _).mono ?_; rintro e w3 ⟨rfl, rfl⟩))
      obtain ⟨n, hu⟩ : ∃ u, (qI L 4 2).1 = u := ⟨_, rfl⟩
      have U4 := qa.mk (fun (g' : Nat) (w : World) (hv : Vw w g' L) => U.out g' 4 w hv)
      rw [hu] at U4 HE
      clear hu
      go_upto_region 4 with (go_at_call 65; refine (U4.out g' _ V2.out).mono ?_; rintro e w4 ⟨rfl, h1⟩; have S4 := qa.mk (S2.out.step h1); have V4 := qa.mk (V2.out.below h1); have z0 := (qb S4.out.bk 3); have zf := qd S4.out.bk 3; clear h1)
      obtain ⟨X4, hX, SX4, VX4⟩ : ∃ X, X = w4.setCell ⟨g, 3, none⟩ (.int .i64 n) ∧ qa (St w0 w X g (rdr gF kd u n 0 0 0 zw zw zw f 0)) ∧ qa (Vw X g' L) := ⟨_, rfl, ⟨S4.out.set 3 _ rfl⟩, ⟨S4.out.view 3 _ V4.out rfl (by simp)⟩⟩
      rw [← hX]
      clear hX z0 zf S4 V4 S2 V2 U4
      have y3 : X4.cell? ⟨g, 3, none⟩ = some (.int .i64 n) := (qb SX4.out.bk 3).trans rfl
      by_cases c2 : n < 1
      · rw [if_pos c2] at HE
        have c2b : decide (1 ≤ n) = false := decide_eq_false (by omega)
        have c2c := eq_false (show ¬ 1 ≤ n by omega)
        clear c2
        go_wp2_with (go_at_call 64; refine (jJ _ _).mono ?_; rintro e w9 ⟨rfl, rfl⟩)
        exact ⟨rfl, SX4.out.bad (by rw [← HE.out]) (by decide)⟩
      rw [if_neg c2] at HE
      have c2b : decide (1 ≤ n) = true := decide_eq_true (by omega)
      have c2c := eq_true (show 1 ≤ n by omega)
      go_upto_region 5 with (go_at_call 64; refine (Qt _ _).mono ?_; rintro e w5 ⟨rfl, rfl⟩)
      clear c2b c2c c2
      by_cases c3 : 4096 < n
      · rw [if_pos c3] at HE
        have c3b : decide (n ≤ 4096) = false := decide_eq_false (by omega)
        have c3c := eq_false (show ¬ n ≤ 4096 by omega)
        clear c3
        go_wp2_with (go_at_call 64; refine (jJ _ _).mono ?_; rintro e w9 ⟨rfl, rfl⟩)
        exact ⟨rfl, SX4.out.bad (by rw [← HE.out]) (by decide)⟩
      rw [if_neg c3] at HE
      have c3b : decide (n ≤ 4096) = true := decide_eq_true (by omega)
      have c3c := eq_true (show n ≤ 4096 by omega)
      go_wp2_with (go_at_call 64; refine (Qt _ _).mono ?_; rintro e w6 ⟨rfl, rfl⟩)
      go_end0
      have q := HE.out
      subst q
      exact SX4.out.good rfl rfl
end Go.Proofs.Ytonljpciadeafaa.S
set_option linter.unusedVariables false
set_option linter.unusedSimpArgs false
namespace Go.Proofs.Ytonljpciadeafaa.S
open Go Go.RowKit Go.Proofs.YtonljpciadeafaaW.PrintWords Go.Proofs.YtonljpciadeafaaW.PrintLast Go.Proofs.YtonljpciadeafaaW.PrintMore
def jW (n : Int) (T : Option (List Int)) : Int × Int × Int × Int × Int :=
  match T with
  | none => (41, 0, 0, 0, 0)
  | some L =>
    if (qI L 34 2).1 < 1 then (41, 0, 0, 0, 0)
    else if n < (qI L 34 2).1 then (41, 0, 0, 0, 0)
    else (0, jK (qI L 4 2).1, jK (qI L 6 2).1, jK (qI L 8 2).1, (qI L 34 2).1)
set_option maxRecDepth 100000 in
set_option maxHeartbeats 8000000 in
theorem hhea_calls (bs : List Int) (ho : okB bs) (g gF : Nat) (kd u f n : Int) (rows : List S71) (w0 w : World) (hF : Fn w0 gF kd rows bs)
    (hs : St w0 w w g (rdr gF kd u n 0 0 0 zw zw zw f 0)) (T : Option (List Int)) (hT : zl bs ⟨#[104, 104, 101, 97]⟩ 36 rows = T) :
    Calls Try.prog 45 #[.pointer (some ⟨g, 0, none⟩)] w (ThrP (jW n T).1 (rdr gF kd u n (jW n T).2.1 (jW n T).2.2.1 (jW n T).2.2.2.1 zw zw zw f (jW n T).2.2.2.2) g w0 w) := by
  have S := qa.mk hs
  have HP := qa.mk (QS bs g gF kd rows ⟨#[104, 104, 101, 97]⟩ 36 w (hF.below hs.be) ((qb hs.bk 0).trans rfl))
  rw [hT] at HP
  have hok := fun L (e : T = some L) => (QE ho (hT.trans e)).1
  clear hT hs hF ho
  obtain ⟨E, hE⟩ : ∃ E, jW n T = E := ⟨_, rfl⟩
  rw [hE]
  cases T with
  | none =>
    have HE := qa.mk hE
    clear hE hok
    go_enter Try.func45, Try.ntmps45
    go_wp2_with (go_at_call 63; refine HP.out.mono ?_; rintro e w1 ⟨h1, rfl⟩; have S1 := qa.mk (S.out.step h1); clear h1)
    exact ⟨rfl, S1.out.bad (by rw [← HE.out]; rfl) (by decide)⟩
  | some L =>
    have ok := hok L rfl
    unfold jW at hE
    dsimp only at hE
    have HE := qa.mk hE
    have U := qa.mk (fun (g' : Nat) (p : Int) (w : World) (hv : Vw w g' L) => QJ L g' p w hv ok)
    have I16 := qa.mk (fun (g' : Nat) (p : Int) (w : World) (hv : Vw w g' L) => JX L g' p w hv ok)
    clear hE hok ok
    obtain ⟨a, ha⟩ : ∃ u, jK (qI L 4 2).1 = u := ⟨_, rfl⟩
    obtain ⟨d, hd⟩ : ∃ u, jK (qI L 6 2).1 = u := ⟨_, rfl⟩
    obtain ⟨gp, hgp⟩ : ∃ u, jK (qI L 8 2).1 = u := ⟨_, rfl⟩
    have I4 := qa.mk (fun (g' : Nat) (w : World) (hv : Vw w g' L) => I16.out g' 4 w hv)
    have I6 := qa.mk (fun (g' : Nat) (w : World) (hv : Vw w g' L) => I16.out g' 6 w hv)
    have I8 := qa.mk (fun (g' : Nat) (w : World) (hv : Vw w g' L) => I16.out g' 8 w hv)
    rw [ha] at I4 HE
    rw [hd] at I6 HE
    rw [hgp] at I8 HE
    clear ha hd hgp I16
    go_enter Try.func45, Try.ntmps45
    go_upto_region 1 with (go_at_call 63; refine HP.out.mono ?_; rintro e w1 ⟨h1, g', h2, rfl, h3⟩; have S1 := qa.mk (S.out.step h1); have V1 := qa.mk h3; clear h1 h2 h3)
    go_upto_region 2 with (first | (go_at_call 66; refine (I8.out g' w3 V3.out).mono ?_; rintro e w4 ⟨rfl, h1⟩; have S4 := qa.mk (S3.out.step h1); have V4 := qa.mk (V3.out.below h1); have z4 := qb S4.out.bk 4; have z5 := qb S4.out.bk 5; have z6 := qb S4.out.bk 6; have f4 := qd S4.out.bk 4; have f5 := qd S4.out.bk 5; have f6 := qd S4.out.bk 6; clear h1) | (go_at_call 66; refine (I6.out g' w2 V2.out).mono ?_; rintro e w3 ⟨rfl, h1⟩; have S3 := qa.mk (S2.out.step h1); have V3 := qa.mk (V2.out.below h1); clear h1) | (go_at_call 66; refine (I4.out g' w1 V1.out).mono ?_; rintro e w2 ⟨rfl, h1⟩; have S2 := qa.mk (S1.out.step h1); have V2 := qa.mk (V1.out.below h1); clear h1))
    obtain ⟨X, hX, SX, VX⟩ : ∃ X, X = ((w4.setCell ⟨g, 4, none⟩ (.int .i64 a)).setCell ⟨g, 5, none⟩ (.int .i64 d)).setCell ⟨g, 6, none⟩ (.int .i64 gp) ∧ qa (St w0 w X g (rdr gF kd u n a d gp zw zw zw f 0)) ∧ qa (Vw X g' L) := by
      have s4 := S4.out.set (cs' := rdr gF kd u n a 0 0 zw zw zw f 0) 4 (.int .i64 a) rfl
      have v4 := S4.out.view 4 (.int .i64 a) V4.out rfl (by simp)
      have s5 := s4.set (cs' := rdr gF kd u n a d 0 zw zw zw f 0) 5 (.int .i64 d) rfl
      have v5 := s4.view 5 (.int .i64 d) v4 rfl (by simp)
      exact ⟨_, rfl, ⟨s5.set 6 _ rfl⟩, ⟨s5.view 6 _ v5 rfl (by simp)⟩⟩
    rw [← hX]
    clear hX z4 z5 z6 f4 f5 f6 S4 V4 S1 S2 S3 V1 V2 V3 S
    obtain ⟨wd, hu⟩ : ∃ u, (qI L 34 2).1 = u := ⟨_, rfl⟩
    have U34 := qa.mk (fun (g' : Nat) (w : World) (hv : Vw w g' L) => U.out g' 34 w hv)
    rw [hu] at U34 HE
    clear hu
    go_upto_region 3 with (go_at_call 65; refine (U34.out g' _ VX.out).mono ?_; rintro e w5 ⟨rfl, h1⟩; have S5 := qa.mk (SX.out.step h1); have V5 := qa.mk (VX.out.below h1); have z0 := (qb S5.out.bk 11); have zf := qd S5.out.bk 11; clear h1)
    obtain ⟨X5, hX, SX5, VX5⟩ : ∃ X, X = w5.setCell ⟨g, 11, none⟩ (.int .i64 wd) ∧ qa (St w0 w X g (rdr gF kd u n a d gp zw zw zw f wd)) ∧ qa (Vw X g' L) := ⟨_, rfl, ⟨S5.out.set 11 _ rfl⟩, ⟨S5.out.view 11 _ V5.out rfl (by simp)⟩⟩
    rw [← hX]
    clear hX z0 zf S5 V5 SX VX U34
    have y11 : X5.cell? ⟨g, 11, none⟩ = some (.int .i64 wd) := (qb SX5.out.bk 11).trans rfl
    have y3 : X5.cell? ⟨g, 3, none⟩ = some (.int .i64 n) := (qb SX5.out.bk 3).trans rfl
    have D5 := qa.mk (show St w0 w X5.drew g (rdr gF kd u n a d gp zw zw zw f wd) from SX5.out.step (zm (Below.refl _ _)))
    by_cases c1 : wd < 1
    · rw [if_pos c1] at HE
      have c1b : decide (1 ≤ wd) = false := decide_eq_false (by omega)
      have c1c := eq_false (show ¬ 1 ≤ wd by omega)
      clear c1
      refine jf (n := 18) (S := fun w' => w'.cell? ⟨g, 11, none⟩ = some (.int .i64 wd) ∧ w'.cell? ⟨g, 3, none⟩ = some (.int .i64 n)) (ds := [17]) #[false, false, false, false, false, false, false, false, false, false, false, false, false, false, false, false, false, false] (by kernel_rfl) rfl rfl ⟨y11, y3⟩ (fun hHeld => ?_)
      refine qj (i := 0) (N := some 28) (v := ?_) (a' := ?_) #[true, false, false, false, false, false, false, false, false, false, false, false, false, false, false, false, false, false] rfl rfl (by kernel_rfl) (fun _ _ _ h => h) (Or.inl ⟨by rfl, ?_⟩) ?_ ?_
      rotate_left
      · intro w'
        go_simp
        with_reducible rfl
      rotate_left
      · simp only [Act.put, List.setIfInBounds_toArray, List.set_cons_zero, List.set_cons_succ, qg, qh]
        rfl
      refine qj (i := 1) (N := some 29) (v := ?_) (a' := ?_) #[true, true, false, false, false, false, false, false, false, false, false, false, false, false, false, false, false, false] rfl rfl (by kernel_rfl) (fun _ _ _ h => h) (Or.inl ⟨by rfl, ?_⟩) ?_ ?_
      rotate_left
      · intro w'
        go_simp
        with_reducible rfl
      rotate_left
      · simp only [Act.put, List.setIfInBounds_toArray, List.set_cons_zero, List.set_cons_succ, qg, qh]
        rfl
      refine qj (i := 2) (N := some 30) (v := ?_) (a' := ?_) #[true, true, true, false, false, false, false, false, false, false, false, false, false, false, false, false, false, false] rfl rfl (by kernel_rfl) (fun _ _ _ h => h) (Or.inl ⟨by rfl, ?_⟩) ?_ ?_
      rotate_left
      · intro w'
        go_simp
        with_reducible rfl
      rotate_left
      · simp only [Act.put, List.setIfInBounds_toArray, List.set_cons_zero, List.set_cons_succ, qg, qh]
        rfl
      refine zq (i := 3) (N := some 31) (v := ?_) (a' := ?_) #[true, true, true, true, false, false, false, false, false, false, false, false, false, false, false, false, false, false] rfl rfl (by kernel_rfl) (fun _ _ _ h => h) (Or.inl ⟨by rfl, ?_⟩) hHeld ?_ ?_
      rotate_left
      · rintro w' ⟨s0, s1⟩
        go_simp
        with_reducible rfl
      rotate_left
      · simp only [Act.put, List.setIfInBounds_toArray, List.set_cons_zero, List.set_cons_succ, qg, qh]
        rfl
      refine qj (i := 4) (N := some 32) (v := ?_) (a' := ?_) #[true, true, true, true, true, false, false, false, false, false, false, false, false, false, false, false, false, false] rfl rfl (by kernel_rfl) (fun _ _ _ h => h) (Or.inl ⟨by rfl, ?_⟩) ?_ ?_
      rotate_left
      · intro w'
        go_simp
        with_reducible rfl
      rotate_left
      · simp only [Act.put, List.setIfInBounds_toArray, List.set_cons_zero, List.set_cons_succ, qg, qh]
        rfl
      refine qj (i := 5) (N := some 33) (v := ?_) (a' := ?_) #[true, true, true, true, true, true, false, false, false, false, false, false, false, false, false, false, false, false] rfl rfl (by kernel_rfl) (fun _ _ _ h => h) (Or.inl ⟨by rfl, ?_⟩) ?_ ?_
      rotate_left
      · intro w'
        go_simp
        with_reducible rfl
      rotate_left
      · simp only [Act.put, List.setIfInBounds_toArray, List.set_cons_zero, List.set_cons_succ, qg, qh]
        rfl
      refine qj (i := 6) (N := some 34) (v := undef) (a' := ?_) #[true, true, true, true, true, true, true, false, false, false, false, false, false, false, false, false, false, false] rfl rfl (by kernel_rfl) (fun _ _ _ h => h) (Or.inr ⟨by rfl, rfl⟩) ?_ ?_
      rotate_left
      · simp only [Act.put, List.setIfInBounds_toArray, List.set_cons_zero, List.set_cons_succ, qg, qh]
        rfl
      refine qj (i := 7) (N := some 35) (v := undef) (a' := ?_) #[true, true, true, true, true, true, true, true, false, false, false, false, false, false, false, false, false, false] rfl rfl (by kernel_rfl) (fun _ _ _ h => h) (Or.inr ⟨by rfl, rfl⟩) ?_ ?_
      rotate_left
      · simp only [Act.put, List.setIfInBounds_toArray, List.set_cons_zero, List.set_cons_succ, qg, qh]
        rfl
      refine qj (i := 8) (N := some 36) (v := undef) (a' := ?_) #[true, true, true, true, true, true, true, true, true, false, false, false, false, false, false, false, false, false] rfl rfl (by kernel_rfl) (fun _ _ _ h => h) (Or.inr ⟨by rfl, rfl⟩) ?_ ?_
      rotate_left
      · simp only [Act.put, List.setIfInBounds_toArray, List.set_cons_zero, List.set_cons_succ, qg, qh]
        rfl
      refine qj (i := 9) (N := some 37) (v := undef) (a' := ?_) #[true, true, true, true, true, true, true, true, true, true, false, false, false, false, false, false, false, false] rfl rfl (by kernel_rfl) (fun _ _ _ h => h) (Or.inr ⟨by rfl, rfl⟩) ?_ ?_
      rotate_left
      · simp only [Act.put, List.setIfInBounds_toArray, List.set_cons_zero, List.set_cons_succ, qg, qh]
        rfl
      refine qj (i := 10) (N := some 38) (v := undef) (a' := ?_) #[true, true, true, true, true, true, true, true, true, true, true, false, false, false, false, false, false, false] rfl rfl (by kernel_rfl) (fun _ _ _ h => h) (Or.inr ⟨by rfl, rfl⟩) ?_ ?_
      rotate_left
      · simp only [Act.put, List.setIfInBounds_toArray, List.set_cons_zero, List.set_cons_succ, qg, qh]
        rfl
      refine qj (i := 11) (N := some 39) (v := undef) (a' := ?_) #[true, true, true, true, true, true, true, true, true, true, true, true, false, false, false, false, false, false] rfl rfl (by kernel_rfl) (fun _ _ _ h => h) (Or.inr ⟨by rfl, rfl⟩) ?_ ?_
      rotate_left
      · simp only [Act.put, List.setIfInBounds_toArray, List.set_cons_zero, List.set_cons_succ, qg, qh]
        rfl
      refine qj (i := 12) (N := some 40) (v := undef) (a' := ?_) #[true, true, true, true, true, true, true, true, true, true, true, true, true, false, false, false, false, false] rfl rfl (by kernel_rfl) (fun _ _ _ h => h) (Or.inr ⟨by rfl, rfl⟩) ?_ ?_
      rotate_left
      · simp only [Act.put, List.setIfInBounds_toArray, List.set_cons_zero, List.set_cons_succ, qg, qh]
        rfl
      refine qj (i := 13) (N := some 41) (v := undef) (a' := ?_) #[true, true, true, true, true, true, true, true, true, true, true, true, true, true, false, false, false, false] rfl rfl (by kernel_rfl) (fun _ _ _ h => h) (Or.inr ⟨by rfl, rfl⟩) ?_ ?_
      rotate_left
      · simp only [Act.put, List.setIfInBounds_toArray, List.set_cons_zero, List.set_cons_succ, qg, qh]
        rfl
      refine qj (i := 14) (N := some 42) (v := undef) (a' := ?_) #[true, true, true, true, true, true, true, true, true, true, true, true, true, true, true, false, false, false] rfl rfl (by kernel_rfl) (fun _ _ _ h => h) (Or.inr ⟨by rfl, rfl⟩) ?_ ?_
      rotate_left
      · simp only [Act.put, List.setIfInBounds_toArray, List.set_cons_zero, List.set_cons_succ, qg, qh]
        rfl
      refine qj (i := 15) (N := some 43) (v := undef) (a' := ?_) #[true, true, true, true, true, true, true, true, true, true, true, true, true, true, true, true, false, false] rfl rfl (by kernel_rfl) (fun _ _ _ h => h) (Or.inr ⟨by rfl, rfl⟩) ?_ ?_
      rotate_left
      · simp only [Act.put, List.setIfInBounds_toArray, List.set_cons_zero, List.set_cons_succ, qg, qh]
        rfl
      refine qj (i := 16) (N := some 44) (v := ?_) (a' := ?_) #[true, true, true, true, true, true, true, true, true, true, true, true, true, true, true, true, true, false] rfl rfl (by kernel_rfl) (fun _ _ _ h => h) (Or.inl ⟨by rfl, ?_⟩) ?_ ?_
      rotate_left
      · intro w'
        go_simp
        with_reducible rfl
      rotate_left
      · simp only [Act.put, List.setIfInBounds_toArray, List.set_cons_zero, List.set_cons_succ, qg, qh]
        rfl
      refine zS (i := 17) (N := some 45) #[true, true, true, true, true, true, true, true, true, true, true, true, true, true, true, true, true, true] rfl rfl (by kernel_rfl) (by decide) (fun K hK => ?_)
      refine throws_ Try.func64 (by kernel_rfl) rfl #[.bool false, .int .i64 41] (by rfl) rfl rfl (by simp only [List.map_toArray, List.map_cons, List.map_nil]; rfl) ?_
      with_reducible refine (jJ _ _).mono ?_
      rintro e w9 ⟨rfl, rfl⟩
      exact ⟨_, rfl, rfl, D5.out.bad (by rw [← HE.out]) (by decide)⟩
    rw [if_neg c1] at HE
    have c1b : decide (1 ≤ wd) = true := decide_eq_true (by omega)
    have c1c := eq_true (show 1 ≤ wd by omega)
    by_cases c2 : n < wd
    · rw [if_pos c2] at HE
      have c2b : decide (wd ≤ n) = false := decide_eq_false (by omega)
      have c2c := eq_false (show ¬ wd ≤ n by omega)
      clear c2
      refine jf (n := 18) (S := fun w' => w'.cell? ⟨g, 11, none⟩ = some (.int .i64 wd) ∧ w'.cell? ⟨g, 3, none⟩ = some (.int .i64 n)) (ds := [17]) #[false, false, false, false, false, false, false, false, false, false, false, false, false, false, false, false, false, false] (by kernel_rfl) rfl rfl ⟨y11, y3⟩ (fun hHeld => ?_)
      refine qj (i := 0) (N := some 28) (v := ?_) (a' := ?_) #[true, false, false, false, false, false, false, false, false, false, false, false, false, false, false, false, false, false] rfl rfl (by kernel_rfl) (fun _ _ _ h => h) (Or.inl ⟨by rfl, ?_⟩) ?_ ?_
      rotate_left
      · intro w'
        go_simp
        with_reducible rfl
      rotate_left
      · simp only [Act.put, List.setIfInBounds_toArray, List.set_cons_zero, List.set_cons_succ, qg, qh]
        rfl
      refine qj (i := 1) (N := some 29) (v := ?_) (a' := ?_) #[true, true, false, false, false, false, false, false, false, false, false, false, false, false, false, false, false, false] rfl rfl (by kernel_rfl) (fun _ _ _ h => h) (Or.inl ⟨by rfl, ?_⟩) ?_ ?_
      rotate_left
      · intro w'
        go_simp
        with_reducible rfl
      rotate_left
      · simp only [Act.put, List.setIfInBounds_toArray, List.set_cons_zero, List.set_cons_succ, qg, qh]
        rfl
      refine qj (i := 2) (N := some 30) (v := ?_) (a' := ?_) #[true, true, true, false, false, false, false, false, false, false, false, false, false, false, false, false, false, false] rfl rfl (by kernel_rfl) (fun _ _ _ h => h) (Or.inl ⟨by rfl, ?_⟩) ?_ ?_
      rotate_left
      · intro w'
        go_simp
        with_reducible rfl
      rotate_left
      · simp only [Act.put, List.setIfInBounds_toArray, List.set_cons_zero, List.set_cons_succ, qg, qh]
        rfl
      refine zq (i := 3) (N := some 31) (v := ?_) (a' := ?_) #[true, true, true, true, false, false, false, false, false, false, false, false, false, false, false, false, false, false] rfl rfl (by kernel_rfl) (fun _ _ _ h => h) (Or.inl ⟨by rfl, ?_⟩) hHeld ?_ ?_
      rotate_left
      · rintro w' ⟨s0, s1⟩
        go_simp
        with_reducible rfl
      rotate_left
      · simp only [Act.put, List.setIfInBounds_toArray, List.set_cons_zero, List.set_cons_succ, qg, qh]
        rfl
      refine qj (i := 4) (N := some 32) (v := ?_) (a' := ?_) #[true, true, true, true, true, false, false, false, false, false, false, false, false, false, false, false, false, false] rfl rfl (by kernel_rfl) (fun _ _ _ h => h) (Or.inl ⟨by rfl, ?_⟩) ?_ ?_
      rotate_left
      · intro w'
        go_simp
        with_reducible rfl
      rotate_left
      · simp only [Act.put, List.setIfInBounds_toArray, List.set_cons_zero, List.set_cons_succ, qg, qh]
        rfl
      refine qj (i := 5) (N := some 33) (v := ?_) (a' := ?_) #[true, true, true, true, true, true, false, false, false, false, false, false, false, false, false, false, false, false] rfl rfl (by kernel_rfl) (fun _ _ _ h => h) (Or.inl ⟨by rfl, ?_⟩) ?_ ?_
      rotate_left
      · intro w'
        go_simp
        with_reducible rfl
      rotate_left
      · simp only [Act.put, List.setIfInBounds_toArray, List.set_cons_zero, List.set_cons_succ, qg, qh]
        rfl
      refine qj (i := 6) (N := some 34) (v := ?_) (a' := ?_) #[true, true, true, true, true, true, true, false, false, false, false, false, false, false, false, false, false, false] rfl rfl (by kernel_rfl) (fun _ _ _ h => h) (Or.inl ⟨by rfl, ?_⟩) ?_ ?_
      rotate_left
      · intro w'
        go_simp
        with_reducible rfl
      rotate_left
      · simp only [Act.put, List.setIfInBounds_toArray, List.set_cons_zero, List.set_cons_succ, qg, qh]
        rfl
      refine qj (i := 7) (N := some 35) (v := ?_) (a' := ?_) #[true, true, true, true, true, true, true, true, false, false, false, false, false, false, false, false, false, false] rfl rfl (by kernel_rfl) (fun _ _ _ h => h) (Or.inl ⟨by rfl, ?_⟩) ?_ ?_
      rotate_left
      · intro w'
        go_simp
        with_reducible rfl
      rotate_left
      · simp only [Act.put, List.setIfInBounds_toArray, List.set_cons_zero, List.set_cons_succ, qg, qh]
        rfl
      refine qj (i := 8) (N := some 36) (v := ?_) (a' := ?_) #[true, true, true, true, true, true, true, true, true, false, false, false, false, false, false, false, false, false] rfl rfl (by kernel_rfl) (fun _ _ _ h => h) (Or.inl ⟨by rfl, ?_⟩) ?_ ?_
      rotate_left
      · intro w'
        go_simp
        with_reducible rfl
      rotate_left
      · simp only [Act.put, List.setIfInBounds_toArray, List.set_cons_zero, List.set_cons_succ, qg, qh]
        rfl
      refine qj (i := 10) (N := some 38) (v := ?_) (a' := ?_) #[true, true, true, true, true, true, true, true, true, false, true, false, false, false, false, false, false, false] rfl rfl (by kernel_rfl) (fun _ _ _ h => h) (Or.inl ⟨by rfl, ?_⟩) ?_ ?_
      rotate_left
      · intro w'
        go_simp
        with_reducible rfl
      rotate_left
      · simp only [Act.put, List.setIfInBounds_toArray, List.set_cons_zero, List.set_cons_succ, qg, qh]
        rfl
      refine qj (i := 11) (N := some 39) (v := ?_) (a' := ?_) #[true, true, true, true, true, true, true, true, true, false, true, true, false, false, false, false, false, false] rfl rfl (by kernel_rfl) (fun _ _ _ h => h) (Or.inl ⟨by rfl, ?_⟩) ?_ ?_
      rotate_left
      · intro w'
        go_simp
        with_reducible rfl
      rotate_left
      · simp only [Act.put, List.setIfInBounds_toArray, List.set_cons_zero, List.set_cons_succ, qg, qh]
        rfl
      refine qj (i := 12) (N := some 40) (v := ?_) (a' := ?_) #[true, true, true, true, true, true, true, true, true, false, true, true, true, false, false, false, false, false] rfl rfl (by kernel_rfl) (fun _ _ _ h => h) (Or.inl ⟨by rfl, ?_⟩) ?_ ?_
      rotate_left
      · intro w'
        go_simp
        with_reducible rfl
      rotate_left
      · simp only [Act.put, List.setIfInBounds_toArray, List.set_cons_zero, List.set_cons_succ, qg, qh]
        rfl
      refine qj (i := 13) (N := some 41) (v := ?_) (a' := ?_) #[true, true, true, true, true, true, true, true, true, false, true, true, true, true, false, false, false, false] rfl rfl (by kernel_rfl) (fun _ _ _ h => h) (Or.inl ⟨by rfl, ?_⟩) ?_ ?_
      rotate_left
      · intro w'
        go_simp
        with_reducible rfl
      rotate_left
      · simp only [Act.put, List.setIfInBounds_toArray, List.set_cons_zero, List.set_cons_succ, qg, qh]
        rfl
      refine zq (i := 9) (N := some 37) (v := ?_) (a' := ?_) #[true, true, true, true, true, true, true, true, true, true, true, true, true, true, false, false, false, false] rfl rfl (by kernel_rfl) (fun _ _ _ h => h) (Or.inl ⟨by rfl, ?_⟩) hHeld ?_ ?_
      rotate_left
      · rintro w' ⟨s0, s1⟩
        go_simp
        with_reducible rfl
      rotate_left
      · simp only [Act.put, List.setIfInBounds_toArray, List.set_cons_zero, List.set_cons_succ, qg, qh]
        rfl
      refine zq (i := 14) (N := some 42) (v := ?_) (a' := ?_) #[true, true, true, true, true, true, true, true, true, true, true, true, true, true, true, false, false, false] rfl rfl (by kernel_rfl) (fun _ _ _ h => h) (Or.inl ⟨by rfl, ?_⟩) hHeld ?_ ?_
      rotate_left
      · rintro w' ⟨s0, s1⟩
        go_simp
        with_reducible rfl
      rotate_left
      · simp only [Act.put, List.setIfInBounds_toArray, List.set_cons_zero, List.set_cons_succ, qg, qh]
        rfl
      refine qj (i := 15) (N := some 43) (v := ?_) (a' := ?_) #[true, true, true, true, true, true, true, true, true, true, true, true, true, true, true, true, false, false] rfl rfl (by kernel_rfl) (fun _ _ _ h => h) (Or.inl ⟨by rfl, ?_⟩) ?_ ?_
      rotate_left
      · intro w'
        go_simp
        with_reducible rfl
      rotate_left
      · simp only [Act.put, List.setIfInBounds_toArray, List.set_cons_zero, List.set_cons_succ, qg, qh]
        rfl
      refine qj (i := 16) (N := some 44) (v := ?_) (a' := ?_) #[true, true, true, true, true, true, true, true, true, true, true, true, true, true, true, true, true, false] rfl rfl (by kernel_rfl) (fun _ _ _ h => h) (Or.inl ⟨by rfl, ?_⟩) ?_ ?_
      rotate_left
      · intro w'
        go_simp
        with_reducible rfl
      rotate_left
      · simp only [Act.put, List.setIfInBounds_toArray, List.set_cons_zero, List.set_cons_succ, qg, qh]
        rfl
      refine zS (i := 17) (N := some 45) #[true, true, true, true, true, true, true, true, true, true, true, true, true, true, true, true, true, true] rfl rfl (by kernel_rfl) (by decide) (fun K hK => ?_)
      refine throws_ Try.func64 (by kernel_rfl) rfl #[.bool false, .int .i64 41] (by rfl) rfl rfl (by simp only [List.map_toArray, List.map_cons, List.map_nil]; rfl) ?_
      with_reducible refine (jJ _ _).mono ?_
      rintro e w9 ⟨rfl, rfl⟩
      exact ⟨_, rfl, rfl, D5.out.bad (by rw [← HE.out]) (by decide)⟩
    rw [if_neg c2] at HE
    have c2b : decide (wd ≤ n) = true := decide_eq_true (by omega)
    have c2c := eq_true (show wd ≤ n by omega)
    refine jf (n := 18) (S := fun w' => w'.cell? ⟨g, 11, none⟩ = some (.int .i64 wd) ∧ w'.cell? ⟨g, 3, none⟩ = some (.int .i64 n)) (ds := [17]) #[false, false, false, false, false, false, false, false, false, false, false, false, false, false, false, false, false, false] (by kernel_rfl) rfl rfl ⟨y11, y3⟩ (fun hHeld => ?_)
    refine qj (i := 0) (N := some 28) (v := ?_) (a' := ?_) #[true, false, false, false, false, false, false, false, false, false, false, false, false, false, false, false, false, false] rfl rfl (by kernel_rfl) (fun _ _ _ h => h) (Or.inl ⟨by rfl, ?_⟩) ?_ ?_
    rotate_left
    · intro w'
      go_simp
      with_reducible rfl
    rotate_left
    · simp only [Act.put, List.setIfInBounds_toArray, List.set_cons_zero, List.set_cons_succ, qg, qh]
      rfl
    refine qj (i := 1) (N := some 29) (v := ?_) (a' := ?_) #[true, true, false, false, false, false, false, false, false, false, false, false, false, false, false, false, false, false] rfl rfl (by kernel_rfl) (fun _ _ _ h => h) (Or.inl ⟨by rfl, ?_⟩) ?_ ?_
    rotate_left
    · intro w'
      go_simp
      with_reducible rfl
    rotate_left
    · simp only [Act.put, List.setIfInBounds_toArray, List.set_cons_zero, List.set_cons_succ, qg, qh]
      rfl
    refine qj (i := 2) (N := some 30) (v := ?_) (a' := ?_) #[true, true, true, false, false, false, false, false, false, false, false, false, false, false, false, false, false, false] rfl rfl (by kernel_rfl) (fun _ _ _ h => h) (Or.inl ⟨by rfl, ?_⟩) ?_ ?_
    rotate_left
    · intro w'
      go_simp
      with_reducible rfl
    rotate_left
    · simp only [Act.put, List.setIfInBounds_toArray, List.set_cons_zero, List.set_cons_succ, qg, qh]
      rfl
    refine zq (i := 3) (N := some 31) (v := ?_) (a' := ?_) #[true, true, true, true, false, false, false, false, false, false, false, false, false, false, false, false, false, false] rfl rfl (by kernel_rfl) (fun _ _ _ h => h) (Or.inl ⟨by rfl, ?_⟩) hHeld ?_ ?_
    rotate_left
    · rintro w' ⟨s0, s1⟩
      go_simp
      with_reducible rfl
    rotate_left
    · simp only [Act.put, List.setIfInBounds_toArray, List.set_cons_zero, List.set_cons_succ, qg, qh]
      rfl
    refine qj (i := 4) (N := some 32) (v := ?_) (a' := ?_) #[true, true, true, true, true, false, false, false, false, false, false, false, false, false, false, false, false, false] rfl rfl (by kernel_rfl) (fun _ _ _ h => h) (Or.inl ⟨by rfl, ?_⟩) ?_ ?_
    rotate_left
    · intro w'
      go_simp
      with_reducible rfl
    rotate_left
    · simp only [Act.put, List.setIfInBounds_toArray, List.set_cons_zero, List.set_cons_succ, qg, qh]
      rfl
    refine qj (i := 5) (N := some 33) (v := ?_) (a' := ?_) #[true, true, true, true, true, true, false, false, false, false, false, false, false, false, false, false, false, false] rfl rfl (by kernel_rfl) (fun _ _ _ h => h) (Or.inl ⟨by rfl, ?_⟩) ?_ ?_
    rotate_left
    · intro w'
      go_simp
      with_reducible rfl
    rotate_left
    · simp only [Act.put, List.setIfInBounds_toArray, List.set_cons_zero, List.set_cons_succ, qg, qh]
      rfl
    refine qj (i := 6) (N := some 34) (v := ?_) (a' := ?_) #[true, true, true, true, true, true, true, false, false, false, false, false, false, false, false, false, false, false] rfl rfl (by kernel_rfl) (fun _ _ _ h => h) (Or.inl ⟨by rfl, ?_⟩) ?_ ?_
    rotate_left
    · intro w'
      go_simp
      with_reducible rfl
    rotate_left
    · simp only [Act.put, List.setIfInBounds_toArray, List.set_cons_zero, List.set_cons_succ, qg, qh]
      rfl
    refine qj (i := 7) (N := some 35) (v := ?_) (a' := ?_) #[true, true, true, true, true, true, true, true, false, false, false, false, false, false, false, false, false, false] rfl rfl (by kernel_rfl) (fun _ _ _ h => h) (Or.inl ⟨by rfl, ?_⟩) ?_ ?_
    rotate_left
    · intro w'
      go_simp
      with_reducible rfl
    rotate_left
    · simp only [Act.put, List.setIfInBounds_toArray, List.set_cons_zero, List.set_cons_succ, qg, qh]
      rfl
    refine qj (i := 8) (N := some 36) (v := ?_) (a' := ?_) #[true, true, true, true, true, true, true, true, true, false, false, false, false, false, false, false, false, false] rfl rfl (by kernel_rfl) (fun _ _ _ h => h) (Or.inl ⟨by rfl, ?_⟩) ?_ ?_
    rotate_left
    · intro w'
      go_simp
      with_reducible rfl
    rotate_left
    · simp only [Act.put, List.setIfInBounds_toArray, List.set_cons_zero, List.set_cons_succ, qg, qh]
      rfl
    refine qj (i := 10) (N := some 38) (v := ?_) (a' := ?_) #[true, true, true, true, true, true, true, true, true, false, true, false, false, false, false, false, false, false] rfl rfl (by kernel_rfl) (fun _ _ _ h => h) (Or.inl ⟨by rfl, ?_⟩) ?_ ?_
    rotate_left
    · intro w'
      go_simp
      with_reducible rfl
    rotate_left
    · simp only [Act.put, List.setIfInBounds_toArray, List.set_cons_zero, List.set_cons_succ, qg, qh]
      rfl
    refine qj (i := 11) (N := some 39) (v := ?_) (a' := ?_) #[true, true, true, true, true, true, true, true, true, false, true, true, false, false, false, false, false, false] rfl rfl (by kernel_rfl) (fun _ _ _ h => h) (Or.inl ⟨by rfl, ?_⟩) ?_ ?_
    rotate_left
    · intro w'
      go_simp
      with_reducible rfl
    rotate_left
    · simp only [Act.put, List.setIfInBounds_toArray, List.set_cons_zero, List.set_cons_succ, qg, qh]
      rfl
    refine qj (i := 12) (N := some 40) (v := ?_) (a' := ?_) #[true, true, true, true, true, true, true, true, true, false, true, true, true, false, false, false, false, false] rfl rfl (by kernel_rfl) (fun _ _ _ h => h) (Or.inl ⟨by rfl, ?_⟩) ?_ ?_
    rotate_left
    · intro w'
      go_simp
      with_reducible rfl
    rotate_left
    · simp only [Act.put, List.setIfInBounds_toArray, List.set_cons_zero, List.set_cons_succ, qg, qh]
      rfl
    refine qj (i := 13) (N := some 41) (v := ?_) (a' := ?_) #[true, true, true, true, true, true, true, true, true, false, true, true, true, true, false, false, false, false] rfl rfl (by kernel_rfl) (fun _ _ _ h => h) (Or.inl ⟨by rfl, ?_⟩) ?_ ?_
    rotate_left
    · intro w'
      go_simp
      with_reducible rfl
    rotate_left
    · simp only [Act.put, List.setIfInBounds_toArray, List.set_cons_zero, List.set_cons_succ, qg, qh]
      rfl
    refine zq (i := 9) (N := some 37) (v := ?_) (a' := ?_) #[true, true, true, true, true, true, true, true, true, true, true, true, true, true, false, false, false, false] rfl rfl (by kernel_rfl) (fun _ _ _ h => h) (Or.inl ⟨by rfl, ?_⟩) hHeld ?_ ?_
    rotate_left
    · rintro w' ⟨s0, s1⟩
      go_simp
      with_reducible rfl
    rotate_left
    · simp only [Act.put, List.setIfInBounds_toArray, List.set_cons_zero, List.set_cons_succ, qg, qh]
      rfl
    refine zq (i := 14) (N := some 42) (v := ?_) (a' := ?_) #[true, true, true, true, true, true, true, true, true, true, true, true, true, true, true, false, false, false] rfl rfl (by kernel_rfl) (fun _ _ _ h => h) (Or.inl ⟨by rfl, ?_⟩) hHeld ?_ ?_
    rotate_left
    · rintro w' ⟨s0, s1⟩
      go_simp
      with_reducible rfl
    rotate_left
    · simp only [Act.put, List.setIfInBounds_toArray, List.set_cons_zero, List.set_cons_succ, qg, qh]
      rfl
    refine qj (i := 15) (N := some 43) (v := ?_) (a' := ?_) #[true, true, true, true, true, true, true, true, true, true, true, true, true, true, true, true, false, false] rfl rfl (by kernel_rfl) (fun _ _ _ h => h) (Or.inl ⟨by rfl, ?_⟩) ?_ ?_
    rotate_left
    · intro w'
      go_simp
      with_reducible rfl
    rotate_left
    · simp only [Act.put, List.setIfInBounds_toArray, List.set_cons_zero, List.set_cons_succ, qg, qh]
      rfl
    refine qj (i := 16) (N := some 44) (v := ?_) (a' := ?_) #[true, true, true, true, true, true, true, true, true, true, true, true, true, true, true, true, true, false] rfl rfl (by kernel_rfl) (fun _ _ _ h => h) (Or.inl ⟨by rfl, ?_⟩) ?_ ?_
    rotate_left
    · intro w'
      go_simp
      with_reducible rfl
    rotate_left
    · simp only [Act.put, List.setIfInBounds_toArray, List.set_cons_zero, List.set_cons_succ, qg, qh]
      rfl
    refine zS (i := 17) (N := some 45) #[true, true, true, true, true, true, true, true, true, true, true, true, true, true, true, true, true, true] rfl rfl (by kernel_rfl) (by decide) (fun K hK => ?_)
    refine Qk Try.func64 (by kernel_rfl) rfl #[.bool true, .int .i64 41] (by rfl) rfl rfl (by simp only [List.map_toArray, List.map_cons, List.map_nil]; rfl) ?_
    with_reducible refine (Qt _ _).mono ?_
    rintro e w9 ⟨rfl, rfl⟩
    refine ⟨_, rfl, ?_⟩
    have S9 := D5
    refine hK.out _ _ ?_
    clear hK K
    refine zO (a' := ?_) ?_ ?_
    rotate_left
    · show Act.put _ (some 45) _ = _
      simp only [Act.put, List.setIfInBounds_toArray, List.set_cons_zero, List.set_cons_succ, qg, qh]
      rfl
    refine jM (by kernel_rfl) ?_
    go_end0
    have q := HE.out
    subst q
    exact S9.out.good rfl rfl
end Go.Proofs.Ytonljpciadeafaa.S
