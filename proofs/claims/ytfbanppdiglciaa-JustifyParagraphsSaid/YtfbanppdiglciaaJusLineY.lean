/- Set in plain numbers: the row of a line is its own widths with the glue's shares; its sums are those of the paragraph's reckoning. -/
import Derived.Test.YtfbanppdiglciaaYx0
import Derived.Test.YtfbanppdiglciaaYx12
import Derived.Test.YtfbanppdiglciaaJusRowY
import Derived.Test.YtfbanppdiglciaaJmC
set_option linter.unusedVariables false
set_option linter.unusedSimpArgs false
namespace Go.Proofs.Ytfbanppdiglciaa.Y
open Go Go.RowKit Go.Proofs.YtfbanppdiglciaaW.PrintWords Go.Proofs.YtfbanppdiglciaaW.PrintLast Go.Proofs.YtfbanppdiglciaaW.PrintMore

/-- An item's own width in a line. -/
def nw (x : S31) : Int := if x.f0 = 3 then 0 else x.f1
/-- What the place at the line's end adds to the row. -/
def jE (L : List S31) (t : Nat) : List Int := if t < L.length then [if (itm L t).f0 = 3 then (itm L t).f1 else 0] else []
def jJ (L : List S31) (a t : Nat) : List S31 := (stIn L a t).drop (stB (stIn L a t))
theorem rdI31 {I : List S31} {j : Nat} (h : j < I.length) : rd_T31 I (j : Int) = I[j] := by
  unfold rd_T31; rw [Int.toNat_natCast, List.getD_eq_getElem?_getD, List.getElem?_eq_getElem h]; rfl
theorem stZ_eq (I : List S31) (fi e : Nat) (h : fi ≤ I.length) : stZ I fi (I.length + e) I.length = List.replicate fi 0 ++ ((I.drop fi).map nw ++ List.replicate e 0) := by
  apply List.ext_getElem?
  intro j
  unfold stZ
  rw [List.getElem?_map]
  by_cases c0 : j < I.length + e
  · rw [List.getElem?_range c0, Option.map_some]
    by_cases c1 : j < fi
    · rw [List.getElem?_append_left (by simpa using c1), List.getElem?_replicate, if_pos c1, if_pos (by omega)]
      unfold stO; rw [if_pos c1]
    · rw [List.getElem?_append_right (by simpa using c1), List.length_replicate]
      by_cases c2 : j < I.length
      · rw [List.getElem?_append_left (by simp; omega), List.getElem?_map, List.getElem?_drop, show fi + (j - fi) = j by omega, List.getElem?_eq_getElem c2, Option.map_some, if_pos c2]
        unfold stO nw; rw [if_neg c1, rdI31 c2]
      · rw [List.getElem?_append_right (by simp; omega), List.getElem?_replicate, if_neg c2, if_pos (by simp; omega)]
  · rw [List.getElem?_eq_none (by simp; omega), List.getElem?_eq_none (by simp; omega)]; rfl
theorem stIn_len {L : List S31} {a t : Nat} (h2 : t ≤ L.length) : (stIn L a t).length = t - a := by unfold stIn; simp; omega
theorem stIn_get {L : List S31} {a t j : Nat} (h2 : t ≤ L.length) (h : a + j < t) : (stIn L a t)[j]? = some (itm L (a + j)) := by
  unfold stIn
  rw [List.getElem?_drop, List.getElem?_take_of_lt h, List.getElem?_eq_getElem (by omega), itm_get (by omega)]
/-- The line begins at its first box, or nowhere. -/
theorem stB_eq {L : List S31} {a t : Nat} (h1 : a ≤ t) (h2 : t ≤ L.length) : a + stB (stIn L a t) = min (bN L a) t := by
  have hl := stIn_len (a := a) h2
  have hle := stB_le (stIn L a t)
  have hb := bN_ge L (a := a) (by omega)
  have no : ∀ j, j < stB (stIn L a t) → (itm L (a + j)).f0 ≠ 1 := by
    intro j hj
    have := List.not_of_lt_findIdx (xs := stIn L a t) (p := fun x : S31 => x.f0 == 1) (i := j) (show j < List.findIdx (fun x : S31 => x.f0 == 1) (stIn L a t) from hj)
    have e := stIn_get (L := L) (a := a) (t := t) (j := j) h2 (by omega)
    rw [List.getElem?_eq_getElem (by omega)] at e
    injection e with e
    rw [e] at this
    simpa using this
  by_cases c : stB (stIn L a t) < t - a
  · have yes : (itm L (a + stB (stIn L a t))).f0 = 1 := by
      have := List.findIdx_getElem (xs := stIn L a t) (p := fun x : S31 => x.f0 == 1) (w := show List.findIdx (fun x : S31 => x.f0 == 1) (stIn L a t) < (stIn L a t).length from (show stB (stIn L a t) < (stIn L a t).length by omega))
      have e := stIn_get (L := L) (a := a) (t := t) (j := stB (stIn L a t)) h2 (by omega)
      rw [List.getElem?_eq_getElem (by omega)] at e
      injection e with e
      have this' : ((stIn L a t)[stB (stIn L a t)]'(by omega)).f0 == 1 := this
      rw [e] at this'
      simpa using this'
    have h3 : bN L a ≤ a + stB (stIn L a t) := by
      rcases Nat.lt_or_ge (a + stB (stIn L a t)) (bN L a) with z | z
      · exact absurd yes (bN_no L (by omega) (by omega) z)
      · exact z
    have h4 : ¬ bN L a < a + stB (stIn L a t) := fun z => no (bN L a - a) (by omega) (by rw [show a + (bN L a - a) = bN L a by omega]; exact bN_yes L (by omega))
    omega
  · have h4 : ¬ bN L a < t := fun z => no (bN L a - a) (by omega) (by rw [show a + (bN L a - a) = bN L a by omega]; exact bN_yes L (by omega))
    omega
theorem jJ_eq {L : List S31} {a t : Nat} (h1 : a ≤ t) (h2 : t ≤ L.length) : jJ L a t = (L.take t).drop (min (bN L a) t) := by
  unfold jJ; rw [← stB_eq h1 h2]; unfold stIn; rw [List.drop_drop]
theorem seg_sum {L : List S31} {f : S31 → Int} {g : Nat → Int} (hg : ∀ j, j < L.length → g (j + 1) = g j + f (itm L j)) {m : Nat} : ∀ t, m ≤ t → t ≤ L.length → (((L.take t).drop m).map f).sum = g t - g m
  | 0, h, _ => by obtain rfl : m = 0 := by omega
                  simp
  | t + 1, h, h2 => by
    by_cases e : m = t + 1
    · subst e; rw [List.drop_eq_nil_of_le (by simp; omega)]; simp
    · have ih := seg_sum hg (m := m) t (by omega) (by omega)
      have tk : L.take (t + 1) = L.take t ++ [itm L t] := by rw [List.take_add_one, List.getElem?_eq_getElem (by omega), itm_get (by omega)]; rfl
      rw [tk, List.drop_append_of_le_length (by simp; omega), List.map_append, List.sum_append, ih, hg t (by omega)]
      simp; omega
theorem gvAll_map (b : Bool) : ∀ J : List S31, gvAll b J = (J.map (fun x => if x.f0 = 2 then gvs b x else 0)).sum
  | [] => rfl
  | x :: r => by rw [List.map_cons, List.sum_cons, ← gvAll_map b r]; rfl
/-- The sums of a line are those of the paragraph's reckoning. -/
theorem line_sums {L : List S31} {a t : Nat} (h1 : a ≤ t) (h2 : t ≤ L.length) :
    (lineS L a t).1 = ((jJ L a t).map nw).sum + (jE L t).sum ∧ (lineS L a t).2.1 = gvAll true (jJ L a t) ∧ (lineS L a t).2.2 = gvAll false (jJ L a t) := by
  rw [gvAll_map, gvAll_map, jJ_eq h1 h2]
  rw [seg_sum (f := nw) (g := sW L) (fun j _ => rfl) t (by omega) h2, seg_sum (f := fun x => if x.f0 = 2 then gvs true x else 0) (g := sS L) (fun j _ => rfl) t (by omega) h2, seg_sum (f := fun x => if x.f0 = 2 then gvs false x else 0) (g := sH L) (fun j _ => rfl) t (by omega) h2]
  refine ⟨?_, rfl, rfl⟩
  unfold lineS jE
  by_cases c : t < L.length
  · by_cases c3 : (itm L t).f0 = 3
    · simp only [c, c3, and_self, if_true]; simp
    · simp only [c, c3, and_false, if_true, if_false]; simp
  · simp only [c, false_and, if_false]; simp
/-- The row that Set answers for the line behind place a - 1 up to the place t; whether it is set. -/
def setP (L : List S31) (a t : Nat) (w : Int) : List Int × Bool := spSP (w - (lineS L a t).1) (lineS L a t).2.1 (lineS L a t).2.2 (jJ L a t) ((jJ L a t).map nw ++ jE L t)
def setR (L : List S31) (a t : Nat) (w : Int) : List Int := List.replicate (stB (stIn L a t)) 0 ++ (setP L a t w).1
theorem fine_ok {L : List S31} {w t : Int} (F : Fine L w t) : ∀ x ∈ L, itOk x := by
  intro x hx
  obtain ⟨i, hi, rfl⟩ := List.mem_iff_getElem.1 hx
  have := (okI_iff _).1 (F.item i hi)
  rw [itm_get hi] at this
  unfold itOk; omega
theorem mem_stIn {L : List S31} {a t : Nat} {x : S31} (h : x ∈ stIn L a t) : x ∈ L := List.mem_of_mem_take (List.mem_of_mem_drop h)
theorem mem_jJ {L : List S31} {a t : Nat} {x : S31} (h : x ∈ jJ L a t) : x ∈ L := mem_stIn (List.mem_of_mem_drop h)
theorem nw_bd {L : List S31} {w t : Int} (F : Fine L w t) {x : S31} (hx : x ∈ L) : 0 ≤ nw x ∧ nw x ≤ 2147483647 := by
  have := fine_ok F x hx
  unfold itOk at this; unfold nw; split <;> omega
theorem jE_bd {L : List S31} {w u : Int} (F : Fine L w u) (t : Nat) : ∀ z ∈ jE L t, 0 ≤ z ∧ z ≤ 2147483647 := by
  intro z hz
  unfold jE at hz
  split at hz
  · rename_i c
    have := (okI_iff _).1 (F.item t c)
    simp only [List.mem_singleton] at hz
    subst hz; split <;> omega
  · simp at hz
theorem stRow_eq {L : List S31} {w u : Int} (F : Fine L w u) {a t : Nat} (h1 : a ≤ t) (h2 : t ≤ L.length) :
    stRow L a t = (List.replicate (stB (stIn L a t)) 0 ++ ((jJ L a t).map nw ++ jE L t), (lineS L a t).1) := by
  have hl := stIn_len (a := a) h2
  have hb := stB_le (stIn L a t)
  have hn := F.len
  have ok : ∀ x ∈ stIn L a t, itOk x := fun x hx => fine_ok F x (mem_stIn hx)
  have ls := (line_sums h1 h2).1
  have lb := (lineS_bd F a h2).1
  have z0 := stZ_eq (stIn L a t) (stB (stIn L a t)) 0 hb
  have z1 := stZ_eq (stIn L a t) (stB (stIn L a t)) 1 hb
  have sm := stZ_sum (n := (stIn L a t).length + 0) (fi := stB (stIn L a t)) ok (Nat.le_refl _) (by omega) (by omega)
  rw [z0, List.sum_append, List.sum_append] at sm
  have e0 : (List.replicate (stB (stIn L a t)) (0 : Int)).sum = 0 := by simp
  have sm' : ((jJ L a t).map nw).sum = (stF (stIn L a t) (stB (stIn L a t)) (t - a)).1 := by
    rw [← hl, ← sm, e0]; unfold jJ; simp
  unfold stRow
  rw [ls, show t + 1 - a = (stIn L a t).length + 1 by omega, ← sm', ← hl, z1]
  unfold jE at ls ⊢
  by_cases c : t < L.length
  · simp only [if_pos c] at ls ⊢
    rw [itm_rd]
    by_cases c3 : (itm L t).f0 = 3
    · simp only [if_pos c3] at ls ⊢
      have o := (okI_iff _).1 (F.item t c)
      simp only [List.sum_cons, List.sum_nil, Int.add_zero] at ls ⊢
      rw [wrap64_in' (by omega) (by omega)]
      refine Prod.ext ?_ rfl
      show List.set _ _ _ = _
      rw [← List.append_assoc, ← List.append_assoc, List.set_append_right _ _ (by simp; omega)]
      have hJ : (jJ L a t).length = (stIn L a t).length - stB (stIn L a t) := by unfold jJ; rw [List.length_drop]
      have z : (stIn L a t).length - (List.replicate (stB (stIn L a t)) (0 : Int) ++ (jJ L a t).map nw).length = 0 := by simp; omega
      show _ ++ List.set _ ((stIn L a t).length - (List.replicate (stB (stIn L a t)) (0 : Int) ++ (jJ L a t).map nw).length) _ = _
      rw [z]; rfl
    · simp only [if_neg c3]; refine Prod.ext rfl ?_; simp
  · simp only [if_neg c]
    rw [show stZ (stIn L a t) (stB (stIn L a t)) (stIn L a t).length (stIn L a t).length = _ from z0]
    refine Prod.ext ?_ ?_
    · simp [jJ]
    · simp
theorem stGo_ev {L : List S31} {w u : Int} (F : Fine L w u) {a t : Nat} (h1 : a ≤ t) (h2 : t ≤ L.length) : Ev (fun k => stGo k L a t w) (setR L a t w, (setP L a t w).2, 0) := by
  have hl := stIn_len (a := a) h2
  have hb := stB_le (stIn L a t)
  have hn := F.len
  have w0 := F.w0
  have w1 := F.w1
  have ls := line_sums h1 h2
  have lb := lineS_bd F a h2
  have ok : ∀ x ∈ stIn L a t, itOk x := fun x hx => fine_ok F x (mem_stIn hx)
  have gv := stF_gv (fi := stB (stIn L a t)) ok (stIn L a t).length (Nat.le_refl _) (by omega)
  rw [List.take_length, hl] at gv
  have g1 : (stF (stIn L a t) (stB (stIn L a t)) (t - a)).2.1 = (lineS L a t).2.1 := by rw [ls.2.1]; exact gv.1
  have g2 : (stF (stIn L a t) (stB (stIn L a t)) (t - a)).2.2 = (lineS L a t).2.2 := by rw [ls.2.2]; exact gv.2
  unfold stGo
  rw [stRow_eq F h1 h2, g1, g2]
  by_cases c : t < L.length ∨ a < t
  · simp only [if_pos c]
    have dr : List.drop (stB (stIn L a t)) (List.replicate (stB (stIn L a t)) (0 : Int) ++ ((jJ L a t).map nw ++ jE L t)) = (jJ L a t).map nw ++ jE L t := by
      rw [List.drop_append_of_le_length (by simp), List.drop_eq_nil_of_le (by simp)]; rfl
    have tk : List.take (stB (stIn L a t)) (List.replicate (stB (stIn L a t)) (0 : Int) ++ ((jJ L a t).map nw ++ jE L t)) = List.replicate (stB (stIn L a t)) 0 := by
      rw [List.take_append_of_le_length (by simp), List.take_of_length_le (by simp)]
    rw [dr, tk, wrap64_in' (n := w - (lineS L a t).1) (by omega) (by omega)]
    refine Ev.bind (a := setP L a t w) ?_ ⟨0, fun _ _ => rfl⟩
    have hJ : (jJ L a t).length = (stIn L a t).length - stB (stIn L a t) := by unfold jJ; rw [List.length_drop]
    refine spS_ev (by omega) (by omega) (by simp; omega) ls.2.1 ls.2.2 (by omega) (by omega) (fun x hx => ?_) (fun z hz => ?_)
    · have := fine_ok F x (mem_jJ hx); unfold itOk at this; omega
    · rcases List.mem_append.1 hz with hz | hz
      · obtain ⟨x, hx, rfl⟩ := List.mem_map.1 hz
        have := nw_bd F (mem_jJ hx); omega
      · have := jE_bd F t z hz; omega
  · simp only [if_neg c]
    have e : a = t := by omega
    have e2 : ¬ t < L.length := by omega
    have J0 : jJ L a t = [] := by unfold jJ; rw [List.drop_eq_nil_of_le]; rw [hl]; omega
    have E0 : jE L t = [] := by unfold jE; rw [if_neg e2]
    have I0 : stB (stIn L a t) = 0 := by omega
    rw [J0, E0] at ls
    have s0 : gvAll true [] = 0 := rfl
    have s1 : gvAll false [] = 0 := rfl
    rw [s0, s1] at ls
    have l0 : (lineS L a t).1 = 0 := by rw [ls.1]; rfl
    refine ⟨0, fun k _ => ?_⟩
    have dd : decide (wrap64 w = 0) = false := by rw [wrap64_in' (by omega) (by omega)]; simp; omega
    rw [dd]
    unfold setR setP
    rw [J0, E0, I0, l0, ls.2.1, ls.2.2]
    unfold spSP
    rw [if_neg (by omega), if_neg (by omega), if_pos rfl]; rfl
/-- Set: refused, or the line's row. -/
def setV (L : List S31) (a1 a2 w : Int) : List Int × Bool × Int :=
  if chkL L w 0 ≠ 0 ∨ a1 < -1 ∨ a2 ≤ a1 ∨ (L.length : Int) < a2 then ([], false, 205) else (setR L (a1 + 1).toNat a2.toNat w, (setP L (a1 + 1).toNat a2.toNat w).2, 0)
theorem set_ev (L : List S31) (a1 a2 w : Int) : Ev (fun k => justify_Set.f k L a1 a2 w) (setV L a1 a2 w) := by
  unfold justify_Set.f
  refine Ev.bind (ocheck L w 0) ?_
  unfold setV
  by_cases c0 : chkL L w 0 = 0
  · by_cases c1 : a1 < -1
    · simp only [c0, c1, ne_eq, not_true_eq_false, if_false, false_or, true_or, if_true]; exact ⟨0, fun _ _ => rfl⟩
    by_cases c2 : a2 ≤ a1
    · simp only [c0, c1, c2, ne_eq, not_true_eq_false, if_false, false_or, true_or, if_true]; exact ⟨0, fun _ _ => rfl⟩
    by_cases c3 : (L.length : Int) < a2
    · simp only [c0, c1, c2, c3, ne_eq, not_true_eq_false, if_false, false_or, if_true]; exact ⟨0, fun _ _ => rfl⟩
    have F := Fine.of c0
    have hn := F.len
    simp only [c0, c1, c2, c3, ne_eq, not_true_eq_false, if_false, false_or, show ¬ 5000 < L.length by omega]
    exact stGo_ev F (by omega) (by omega)
  · simp only [c0, ne_eq, not_false_eq_true, true_or, if_true]; exact ⟨0, fun _ _ => rfl⟩
end Go.Proofs.Ytfbanppdiglciaa.Y
