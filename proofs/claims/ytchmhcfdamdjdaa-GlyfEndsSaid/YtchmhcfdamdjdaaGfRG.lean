/- glyf: the reader of bytes (written by rk/gengf.py). -/
import Derived.Test.YtchmhcfdamdjdaaGfVG
import Derived.WalkLawsBesides
set_option linter.unusedVariables false
set_option linter.unusedSimpArgs false
namespace Go.Proofs.Ytchmhcfdamdjdaa.G
open Go Go.RowKit Go.Proofs.YtchmhcfdamdjdaaW.PrintWords Go.Proofs.YtchmhcfdamdjdaaW.PrintLast Go.Proofs.YtchmhcfdamdjdaaW.PrintMore

abbrev thr (E : Int) : Ending := .panicked [{ v := .iface 30 (.int .i64 E), recovered := false }]
theorem gmust_ok (E : Int) (w : World) : Calls Try.prog 38 #[.bool true, .int .i64 E] w fun e w' => e = .returned (.tuple #[]) ∧ w' = w := by
  go_enter Try.func38, Try.ntmps38
  go_wp2
  go_end0
  exact ⟨rfl, rfl⟩
theorem gmust_bad (E : Int) (w : World) : Calls Try.prog 38 #[.bool false, .int .i64 E] w fun e w' => e = thr E ∧ w' = w := by
  go_enter Try.func38, Try.ntmps38
  go_wp2
  exact ⟨rfl, rfl, rfl⟩
theorem tmust_ok (E : Int) (w : World) : Calls Try.prog 46 #[.bool true, .int .i64 E] w fun e w' => e = .returned (.tuple #[]) ∧ w' = w := by
  go_enter Try.func46, Try.ntmps46
  go_wp2
  go_end0
  exact ⟨rfl, rfl⟩
theorem tmust_bad (E : Int) (w : World) : Calls Try.prog 46 #[.bool false, .int .i64 E] w fun e w' => e = thr E ∧ w' = w := by
  go_enter Try.func46, Try.ntmps46
  go_wp2
  exact ⟨rfl, rfl, rfl⟩
theorem C_set {k : IntKind} {w : World} {p : Addr} {old x : Value} {A : Option Addr} {n : Nat} {xs : List Int} (h : Kd.C (Kd.int k) w A n xs) (ho : w.cell? p = some old) (hne : ∀ y, old ≠ .int k y) : Kd.C (Kd.int k) (w.setCell p x) A n xs := by
  refine ⟨h.1, h.2.1, fun hn => ?_⟩
  obtain ⟨ad, e, hc⟩ := h.2.2 hn
  refine ⟨ad, e, fun j q hj => ?_⟩
  obtain ⟨c, hs, hr, hcell⟩ := hc j q hj
  refine ⟨c, hs, hr, fun i u hu => ?_⟩
  have hr' : c = [Value.int k q] := hr
  have hu' : u = .int k q := by
    subst hr'
    match i, hu with
    | 0, hu => simpa using hu.symm
  have h0 := hcell i u hu
  rw [World.cell?_setCell_other]
  · exact h0
  · intro e2
    rw [e2] at ho
    have ho : w.cell? (ad.add (j * (Kd.int k).sz + i)) = some old := ho
    rw [h0] at ho
    injection ho with ho
    exact hne q (ho.symm.trans hu')
theorem Vw.set {w : World} {gv g j t : Nat} {L : List Int} {cs : Array Value} {old x : Value} (h : Vw w gv L) (hb : w.heap[g]? = some (.cells cs t (0, 0))) (ht : t ≠ 71) (ho : w.cell? ⟨g, j, none⟩ = some old) (hne : ∀ y, old ≠ .int .u8 y) : Vw (w.setCell ⟨g, j, none⟩ x) gv L := by
  obtain ⟨A, c, h1, h2, h3⟩ := h
  refine ⟨A, c, blk_far h1 (p := ⟨g, j, none⟩) (fun e => ?_) x, h2, C_set h3 ho hne⟩
  have e : gv = g := e
  rw [e, hb] at h1
  injection h1 with h1
  injection h1 with _ h1
  exact absurd h1 ht
theorem grown_set (w : World) (g j : Nat) (x : Value) : w.grownBy (w.setCell ⟨g, j, none⟩ x) (some g) :=
  ⟨rfl, rfl, rfl, by simp [World.setCell], fun k _ hk => Below.heap_setCell _ _ _ _ (fun e => hk (by simp [e]))⟩
theorem grown_below {w w' : World} {row : Option Nat} (hb : Below w.heap.size w w') : w.grownBy w' row := ⟨hb.os, hb.tape, hb.output, hb.size, fun k hk _ => hb.block k hk⟩
/-- A reader: a view and a place in it. -/
structure Rd (w : World) (t g gv : Nat) (bs : List Int) (p : Int) : Prop where
  bk : w.heap[g]? = some (.cells #[.pointer (some ⟨gv, 0, none⟩), .int .i64 p] t (0, 0))
  vw : Vw w gv bs
theorem Rd.below {w w' : World} {t g gv : Nat} {bs : List Int} {p : Int} (h : Rd w t g gv bs p) (hb : Below w.heap.size w w') : Rd w' t g gv bs p :=
  ⟨(hb.block _ (blk_lt h.bk)).trans h.bk, h.vw.below hb⟩
theorem Rd.c0 {w : World} {t g gv : Nat} {bs : List Int} {p : Int} (h : Rd w t g gv bs p) : w.cell? ⟨g, 0, none⟩ = some (.pointer (some ⟨gv, 0, none⟩)) := (blk_cell h.bk 0).trans rfl
theorem Rd.c1 {w : World} {t g gv : Nat} {bs : List Int} {p : Int} (h : Rd w t g gv bs p) : w.cell? ⟨g, 1, none⟩ = some (.int .i64 p) := (blk_cell h.bk 1).trans rfl
theorem Rd.set {w : World} {t g gv : Nat} {bs : List Int} {p : Int} (h : Rd w t g gv bs p) (ht : t ≠ 71) (q : Int) : Rd (w.setCell ⟨g, 1, none⟩ (.int .i64 q)) t g gv bs q :=
  ⟨blk_put h.bk 1 _ rfl, h.vw.set h.bk ht h.c1 (by simp)⟩
/-- What a call leaves that reads on up to q. -/
structure On (w : World) (t g gv : Nat) (bs : List Int) (q : Int) (w' : World) : Prop where
  gr : w.grownBy w' (some g)
  rd : Rd w' t g gv bs q
theorem On.refl {w : World} {t g gv : Nat} {bs : List Int} {p : Int} (h : Rd w t g gv bs p) : On w t g gv bs p w := ⟨grown_below (Below.refl _ _), h⟩
theorem On.below {w w1 w2 : World} {t g gv : Nat} {bs : List Int} {p : Int} (h : On w t g gv bs p w1) (hb : Below w1.heap.size w1 w2) : On w t g gv bs p w2 := ⟨h.gr.trans (grown_below hb), h.rd.below hb⟩
theorem On.set {w w1 : World} {t g gv : Nat} {bs : List Int} {p : Int} (h : On w t g gv bs p w1) (ht : t ≠ 71) (q : Int) : On w t g gv bs q (w1.setCell ⟨g, 1, none⟩ (.int .i64 q)) := ⟨h.gr.trans (grown_set _ _ _ _), h.rd.set ht q⟩
theorem On.trans {w w1 w2 : World} {t g gv : Nat} {bs : List Int} {p q : Int} (h : On w t g gv bs p w1) (k : On w1 t g gv bs q w2) : On w t g gv bs q w2 := ⟨h.gr.trans k.gr, k.rd⟩
theorem below_setRow1 {w W : World} {g : Nat} (h : Below w.heap.size w W) (hg : w.heap.size ≤ g) (cs : Array Value) : Below w.heap.size w (W.setRow g cs) :=
  ⟨h.os, h.tape, h.output, by rw [size_setRow]; exact h.size, fun k hk => (setRow_other W g k cs (by omega)).trans (h.block k hk)⟩
theorem R_setrow {α : Type} {d : Kd α} {e base g : Nat} {w : World} {ok : Nat → Prop} {v : Value} {xs : List α} {cs : Array Value} (h : d.R e w base ok v xs) (hg : g < base) : d.R e (w.setRow g cs) base ok v xs :=
  Kd.R_mono (Kd.R_step (Kd.R_bound h) (fun k hk _ => setRow_other w g k cs (fun z => by have := hk.2.1; omega))) (fun _ hk => hk.1)
theorem grown_setRow (w : World) (g : Nat) (cs : Array Value) : w.grownBy (w.setRow g cs) (some g) :=
  ⟨rfl, rfl, rfl, by rw [size_setRow]; exact Nat.le_refl _, fun k _ hk => setRow_other w g k cs (fun e => hk (by rw [e]))⟩
theorem wrap_id {x : Int} (h0 : -9223372036854775808 ≤ x) (h1 : x ≤ 9223372036854775807) : wrap64 x = x := by unfold wrap64; omega
/-- A row of one's own, above the reader's block. -/
theorem R_grown {α : Type} {d : Kd α} {e base g : Nat} {w w' : World} {ok : Nat → Prop} {v : Value} {xs : List α} (h : d.R e w base ok v xs) (hg : w.grownBy w' (some g)) (hlt : g < base) : d.R e w' base ok v xs :=
  Kd.R_mono (Kd.R_grown (Kd.R_bound h) hg (fun k hk z => by injection z with z; have := hk.2.1; omega)) (fun _ hk => hk.1)
theorem R_setg {α : Type} {d : Kd α} {e base g j : Nat} {w : World} {ok : Nat → Prop} {v x : Value} {xs : List α} (h : d.R e w base ok v xs) (hg : g < base) : d.R e (w.setCell ⟨g, j, none⟩ x) base ok v xs :=
  R_grown h (grown_set _ _ _ _) hg
theorem Vw.but {w1 w2 : World} {t g gv : Nat} {bs : List Int} {p : Int} (h : Rd w1 t g gv bs p) (ht : t ≠ 71) (hg : w1.grownBy w2 (some g)) : Vw w2 gv bs := by
  obtain ⟨A, c, h1, h2, h3⟩ := h.vw
  refine ⟨A, c, blk_grown h1 hg (fun e => ?_), h2, h3.1, h3.2.1, fun hn0 => ?_⟩
  · injection e with e
    subst e
    have hb := h.bk
    rw [hb] at h1
    injection h1 with h1
    injection h1 with _ h1
    exact absurd h1 ht
  · obtain ⟨ad, e, hc⟩ := h3.2.2 hn0
    refine ⟨ad, e, fun j q hj => ?_⟩
    obtain ⟨c, hs, hr, hcell⟩ := hc j q hj
    refine ⟨c, hs, hr, fun i u hu => ?_⟩
    have hr' : c = [Value.int .u8 q] := hr
    have hu' : u = .int .u8 q := by
      subst hr'
      match i, hu with
      | 0, hu => simpa using hu.symm
    have h0 := hcell i u hu
    subst hu'
    refine cell_grown hg h0 (fun z => ?_)
    injection z with z
    have hb := h.bk
    unfold World.cell? at h0
    rw [z, hb] at h0
    dsimp only at h0
    split at h0
    · cases h0
    · generalize (ad.add (j * (Kd.int .u8).sz + i)).off = o at h0
      match o, h0 with
      | 0, h0 => simp at h0
      | 1, h0 => simp at h0
      | o + 2, h0 => simp at h0
/-- Beside what is one's own: a world that has grown from w but for the reader's block. -/
theorem On.own {w W W' : World} {t g gv : Nat} {bs : List Int} {p q : Int} {row : Option Nat} (h0 : Rd w t g gv bs p) (ht : t ≠ 71) (h : On w t g gv bs q W) (hg : W.grownBy W' row) (hr : ∀ k, row = some k → w.heap.size ≤ k) : On w t g gv bs q W' := by
  have hlt := blk_lt h0.bk
  have gr : w.grownBy W' (some g) := ⟨hg.os.trans h.gr.os, hg.tape.trans h.gr.tape, hg.output.trans h.gr.output, Nat.le_trans h.gr.size hg.size, fun k hk hn => by
    have h1 := h.gr.block k hk hn
    have h2 := hg.block k (Nat.lt_of_lt_of_le hk h.gr.size) (fun e => by have := hr k e.symm; omega)
    rw [h2, h1]⟩
  exact ⟨gr, ⟨blk_grown h.rd.bk hg (fun e => by have := hr g e.symm; omega), Vw.but h0 ht gr⟩⟩
theorem part_in {bs : List Int} {p n : Int} (h0 : 0 ≤ p) (h1 : 0 ≤ n) (h2 : p + n ≤ bs.length) : partV bs p n = ((bs.take (p + n).toNat).drop p.toNat, 0) := by
  unfold partV
  rw [if_neg (by omega)]
theorem num_in {bs : List Int} {p n : Int} (h0 : 0 ≤ p) (h1 : 0 ≤ n) (h2 : p + n ≤ bs.length) : (numV bs p n).2 = 0 := by
  unfold numV
  rw [part_in h0 h1 h2]
theorem num_one {bs : List Int} {p : Int} (h0 : 0 ≤ p) (h2 : p < bs.length) : numV bs p 1 = (rd bs p, 0) := by
  unfold numV
  rw [part_in h0 (by omega) (by omega)]
  obtain ⟨k, rfl⟩ := Int.eq_ofNat_of_zero_le h0
  have hk : k < bs.length := by omega
  have e : (bs.take ((k : Int) + 1).toNat).drop (k : Int).toNat = [bs[k]] := by
    rw [show ((k : Int) + 1).toNat = k + 1 by omega, Int.toNat_natCast, List.take_add_one, List.getElem?_eq_getElem hk, List.drop_append_of_le_length (by rw [List.length_take]; omega)]
    rw [List.drop_take, Nat.sub_self]
    rfl
  rw [e]
  unfold rd
  rw [Int.toNat_natCast, List.getD_eq_getElem?_getD, List.getElem?_eq_getElem hk]
  simp [numB]
set_option maxRecDepth 100000 in
set_option maxHeartbeats 1000000 in
theorem gu8_calls (bs : List Int) (ho : okB bs) (g gv : Nat) (p : Int) (w : World) (h : Rd w 86 g gv bs p) (h0 : 0 ≤ p) (h1 : p < bs.length) (hl : bs.length ≤ 1099511627776) :
    Calls Try.prog 60 #[.pointer (some ⟨g, 0, none⟩)] w fun e w' => e = .returned (.int .i64 (rd bs p)) ∧ On w 86 g gv bs (p + 1) w' := by
  have H := Aside0.mk h
  have y0 := h.c0
  have y1 := h.c1
  have hu := fun (W : World) (hv : Vw W gv bs) => u8_calls bs gv p W hv ho
  rw [num_one h0 h1] at hu
  have U := Aside0.mk hu
  have p64 : p + 1 ≤ 9223372036854775807 := by omega
  have p63 : -9223372036854775808 ≤ p := by omega
  clear h hu ho hl
  go_enter Try.func60, Try.ntmps60
  go_upto_region 1 with fail
  refine start_ (n := 14) (S := fun w' => w'.cell? ⟨g, 0, none⟩ = some (.pointer (some ⟨gv, 0, none⟩)) ∧ w'.cell? ⟨g, 1, none⟩ = some (.int .i64 p)) (ds := [8]) #[false, false, false, false, false, false, false, false, false, false, false, false, false, false] (by kernel_rfl) rfl rfl ⟨y0, y1⟩ (fun hHeld => ?_)
  obtain ⟨w4, hW4, O4⟩ : ∃ w4, w4 = w.drew ∧ Aside0 (On w 86 g gv bs p w4) := ⟨_, rfl, ⟨(On.refl H.out).below (below_drew (Below.refl _ _))⟩⟩
  rw [← hW4] at hHeld ⊢
  clear hW4
  refine pure_ (i := 0) (N := some 6) (v := ?_) (a' := ?_) #[true, false, false, false, false, false, false, false, false, false, false, false, false, false] rfl rfl (by kernel_rfl) (fun _ _ _ h => h) (Or.inl ⟨by rfl, ?_⟩) ?_ ?_
  rotate_left
  · intro w'
    go_simp
    with_reducible rfl
  rotate_left
  · simp only [Act.put, List.setIfInBounds_toArray, List.set_cons_zero, List.set_cons_succ, i64_w, i32_w]
    rfl
  refine pure_ (i := 1) (N := some 7) (v := ?_) (a' := ?_) #[true, true, false, false, false, false, false, false, false, false, false, false, false, false] rfl rfl (by kernel_rfl) (fun _ _ _ h => h) (Or.inl ⟨by rfl, ?_⟩) ?_ ?_
  rotate_left
  · intro w'
    go_simp
    with_reducible rfl
  rotate_left
  · simp only [Act.put, List.setIfInBounds_toArray, List.set_cons_zero, List.set_cons_succ, i64_w, i32_w]
    rfl
  refine pure_ (i := 2) (N := some 8) (v := ?_) (a' := ?_) #[true, true, true, false, false, false, false, false, false, false, false, false, false, false] rfl rfl (by kernel_rfl) (fun _ _ _ h => h) (Or.inl ⟨by rfl, ?_⟩) ?_ ?_
  rotate_left
  · intro w'
    go_simp
    with_reducible rfl
  rotate_left
  · simp only [Act.put, List.setIfInBounds_toArray, List.set_cons_zero, List.set_cons_succ, i64_w, i32_w]
    rfl
  refine pure_ (i := 4) (N := some 10) (v := ?_) (a' := ?_) #[true, true, true, false, true, false, false, false, false, false, false, false, false, false] rfl rfl (by kernel_rfl) (fun _ _ _ h => h) (Or.inl ⟨by rfl, ?_⟩) ?_ ?_
  rotate_left
  · intro w'
    go_simp
    with_reducible rfl
  rotate_left
  · simp only [Act.put, List.setIfInBounds_toArray, List.set_cons_zero, List.set_cons_succ, i64_w, i32_w]
    rfl
  refine pure_ (i := 5) (N := some 11) (v := ?_) (a' := ?_) #[true, true, true, false, true, true, false, false, false, false, false, false, false, false] rfl rfl (by kernel_rfl) (fun _ _ _ h => h) (Or.inl ⟨by rfl, ?_⟩) ?_ ?_
  rotate_left
  · intro w'
    go_simp
    with_reducible rfl
  rotate_left
  · simp only [Act.put, List.setIfInBounds_toArray, List.set_cons_zero, List.set_cons_succ, i64_w, i32_w]
    rfl
  refine pure_ (i := 6) (N := some 12) (v := ?_) (a' := ?_) #[true, true, true, false, true, true, true, false, false, false, false, false, false, false] rfl rfl (by kernel_rfl) (fun _ _ _ h => h) (Or.inl ⟨by rfl, ?_⟩) ?_ ?_
  rotate_left
  · intro w'
    go_simp
    with_reducible rfl
  rotate_left
  · simp only [Act.put, List.setIfInBounds_toArray, List.set_cons_zero, List.set_cons_succ, i64_w, i32_w]
    rfl
  refine take_ (i := 3) (N := some 9) (v := ?_) (a' := ?_) #[true, true, true, true, true, true, true, false, false, false, false, false, false, false] rfl rfl (by kernel_rfl) (fun _ _ _ h => h) (Or.inl ⟨by rfl, ?_⟩) hHeld ?_ ?_
  rotate_left
  · rintro w' ⟨s0, s1⟩
    go_simp
    with_reducible rfl
  rotate_left
  · simp only [Act.put, List.setIfInBounds_toArray, List.set_cons_zero, List.set_cons_succ, i64_w, i32_w]
    rfl
  refine take_ (i := 7) (N := some 13) (v := ?_) (a' := ?_) #[true, true, true, true, true, true, true, true, false, false, false, false, false, false] rfl rfl (by kernel_rfl) (fun _ _ _ h => h) (Or.inl ⟨by rfl, ?_⟩) hHeld ?_ ?_
  rotate_left
  · rintro w' ⟨s0, s1⟩
    go_simp
    with_reducible rfl
  rotate_left
  · simp only [Act.put, List.setIfInBounds_toArray, List.set_cons_zero, List.set_cons_succ, i64_w, i32_w]
    rfl
  refine last_ (i := 8) (N := some 14) #[true, true, true, true, true, true, true, true, true, false, false, false, false, false] rfl rfl (by kernel_rfl) (by decide) (fun K hK => ?_)
  refine goes_ Try.func69 (by kernel_rfl) rfl #[.pointer (some ⟨gv, 0, none⟩), .int .i64 p] (by rfl) rfl rfl (by simp only [List.map_toArray, List.map_cons, List.map_nil]; rfl) ?_
  with_reducible refine (U.out w4 O4.out.rd.vw).mono ?_
  rintro e w5 ⟨rfl, k1⟩
  refine ⟨_, rfl, ?_⟩
  have O5 := Aside0.mk (O4.out.below k1)
  clear k1
  refine hK.out _ _ ?_
  clear hK K
  refine norm_ (a' := ?_) ?_ ?_
  rotate_left
  · show Act.put _ (some 14) _ = _
    simp only [Act.put, List.setIfInBounds_toArray, List.set_cons_zero, List.set_cons_succ, i64_w, i32_w]
    rfl
  refine pure_ (i := 9) (N := some 5) (v := ?_) (a' := ?_) #[true, true, true, true, true, true, true, true, true, true, false, false, false, false] rfl rfl (by kernel_rfl) (fun _ _ _ h => h) (Or.inl ⟨by rfl, ?_⟩) ?_ ?_
  rotate_left
  · intro w'
    go_simp
    with_reducible rfl
  rotate_left
  · simp only [Act.put, List.setIfInBounds_toArray, List.set_cons_zero, List.set_cons_succ, i64_w, i32_w]
    rfl
  refine pure_ (i := 10) (N := some 15) (v := ?_) (a' := ?_) #[true, true, true, true, true, true, true, true, true, true, true, false, false, false] rfl rfl (by kernel_rfl) (fun _ _ _ h => h) (Or.inl ⟨by rfl, ?_⟩) ?_ ?_
  rotate_left
  · intro w'
    go_simp
    with_reducible rfl
  rotate_left
  · simp only [Act.put, List.setIfInBounds_toArray, List.set_cons_zero, List.set_cons_succ, i64_w, i32_w]
    rfl
  refine pure_ (i := 11) (N := some 16) (v := ?_) (a' := ?_) #[true, true, true, true, true, true, true, true, true, true, true, true, false, false] rfl rfl (by kernel_rfl) (fun _ _ _ h => h) (Or.inl ⟨by rfl, ?_⟩) ?_ ?_
  rotate_left
  · intro w'
    go_simp
    with_reducible rfl
  rotate_left
  · simp only [Act.put, List.setIfInBounds_toArray, List.set_cons_zero, List.set_cons_succ, i64_w, i32_w]
    rfl
  refine pure_ (i := 12) (N := some 3) (v := ?_) (a' := ?_) #[true, true, true, true, true, true, true, true, true, true, true, true, true, false] rfl rfl (by kernel_rfl) (fun _ _ _ h => h) (Or.inl ⟨by rfl, ?_⟩) ?_ ?_
  rotate_left
  · intro w'
    go_simp
    with_reducible rfl
  rotate_left
  · simp only [Act.put, List.setIfInBounds_toArray, List.set_cons_zero, List.set_cons_succ, i64_w, i32_w]
    rfl
  refine pure_ (i := 13) (N := some 4) (v := ?_) (a' := ?_) #[true, true, true, true, true, true, true, true, true, true, true, true, true, true] rfl rfl (by kernel_rfl) (fun _ _ _ h => h) (Or.inl ⟨by rfl, ?_⟩) ?_ ?_
  rotate_left
  · intro w'
    go_simp
    with_reducible rfl
  rotate_left
  · simp only [Act.put, List.setIfInBounds_toArray, List.set_cons_zero, List.set_cons_succ, i64_w, i32_w]
    rfl
  refine done_ (by kernel_rfl) ?_

  have z1 := O5.out.rd.c1
  have zf := blk_frozen O5.out.rd.bk 1
  go_wp2_with (go_at_call 38; refine (gmust_ok _ _).mono ?_; rintro e w6 ⟨rfl, rfl⟩)
  go_ret
  exact ⟨rfl, O5.out.set (by decide) _⟩
theorem rd_bd {bs : List Int} (ho : okB bs) {p : Int} (h0 : 0 ≤ p) (h1 : p < bs.length) : 0 ≤ rd bs p ∧ rd bs p < 256 := by
  have hk : p.toNat < bs.length := by omega
  unfold rd
  rw [List.getD_eq_getElem?_getD, List.getElem?_eq_getElem hk]
  exact ho _ (List.getElem_mem hk)
/-- A number of two bytes. -/
def u2 (bs : List Int) (p : Int) : Int := rd bs p * 256 + rd bs (p + 1)
theorem u2_bd {bs : List Int} (ho : okB bs) {p : Int} (h0 : 0 ≤ p) (h1 : p + 1 < bs.length) : 0 ≤ u2 bs p ∧ u2 bs p < 65536 := by
  have a := rd_bd ho h0 (by omega)
  have b := rd_bd ho (p := p + 1) (by omega) h1
  unfold u2
  omega
set_option maxRecDepth 100000 in
set_option maxHeartbeats 1000000 in
theorem gu16_calls (bs : List Int) (ho : okB bs) (g gv : Nat) (p : Int) (w : World) (h : Rd w 86 g gv bs p) (h0 : 0 ≤ p) (h1 : p + 1 < bs.length) (hl : bs.length ≤ 1099511627776) :
    Calls Try.prog 56 #[.pointer (some ⟨g, 0, none⟩)] w fun e w' => e = .returned (.int .i64 (u2 bs p)) ∧ On w 86 g gv bs (p + 2) w' := by
  have P1 := Aside0.mk (gu8_calls bs ho g gv p w h h0 (by omega) hl)
  have P2 := Aside0.mk (fun (W : World) (k : Rd W 86 g gv bs (p + 1)) => gu8_calls bs ho g gv (p + 1) W k (by omega) h1 hl)
  have a := rd_bd ho h0 (by omega)
  have b := rd_bd ho (p := p + 1) (by omega) h1
  have hs := or_step a.1 (by omega) b.1 b.2
  have E : Aside0 (u2 bs p = rd bs p * 256 + rd bs (p + 1)) := ⟨rfl⟩
  have x1 : rd bs p * 256 ≤ 9223372036854775807 := by omega
  have x0 : -9223372036854775808 ≤ rd bs p * 256 := by omega
  generalize rd bs p = x at *
  generalize rd bs (p + 1) = y at *
  clear h h0 h1 hl ho a b
  go_enter Try.func56, Try.ntmps56
  go_wp2_with (go_at_call 60; first | (refine (P2.out w1 O1.out.rd).mono ?_; rintro e w2 ⟨rfl, k2⟩; have O2 := Aside0.mk (O1.out.trans k2); clear k2) | (refine P1.out.mono ?_; rintro e w1 ⟨rfl, k1⟩; have O1 := Aside0.mk k1; clear k1))
  go_ret
  refine ⟨?_, by have z := O2.out; rwa [show p + 1 + 1 = p + 2 by omega] at z⟩
  rw [E.out]
  rfl
set_option maxRecDepth 100000 in
set_option maxHeartbeats 1000000 in
theorem gi16_calls (bs : List Int) (ho : okB bs) (g gv : Nat) (p : Int) (w : World) (h : Rd w 86 g gv bs p) (h0 : 0 ≤ p) (h1 : p + 1 < bs.length) (hl : bs.length ≤ 1099511627776) :
    Calls Try.prog 41 #[.pointer (some ⟨g, 0, none⟩)] w fun e w' => e = .returned (.int .i64 (sgn16 (u2 bs p))) ∧ On w 86 g gv bs (p + 2) w' := by
  have HP := Aside0.mk (gu16_calls bs ho g gv p w h h0 h1 hl)
  have hb := u2_bd ho h0 h1
  have hw : IntKind.i16.wrap (u2 bs p) = sgn16 (u2 bs p) := by
    simp [IntKind.wrap, IntKind.bits, IntKind.signed, sgn16] at hb ⊢
    split <;> omega
  have hw2 : wrap64 (sgn16 (u2 bs p)) = sgn16 (u2 bs p) := by
    simp [sgn16] at hb ⊢
    unfold wrap64
    split <;> omega
  clear h h0 h1 hl ho hb
  generalize u2 bs p = r at *
  have HW2 := Aside0.mk hw2
  clear hw2
  have HW := Aside0.mk hw
  clear hw
  go_enter Try.func41, Try.ntmps41
  go_wp2_with (go_at_call 56; refine HP.out.mono ?_; rintro q w1 ⟨rfl, k1⟩; have O1 := Aside0.mk k1; clear k1)
  go_ret
  exact ⟨by simp [HW.out, HW2.out], O1.out⟩
set_option maxRecDepth 100000 in
set_option maxHeartbeats 1000000 in
theorem gbytes_calls (bs : List Int) (ho : okB bs) (g gv : Nat) (p n : Int) (w : World) (h : Rd w 86 g gv bs p) (h0 : 0 ≤ p) (h1 : 0 ≤ n) (h2 : p + n ≤ bs.length) (hl : bs.length ≤ 1099511627776) :
    Calls Try.prog 42 #[.pointer (some ⟨g, 0, none⟩), .int .i64 n] w fun e w' => ∃ v, e = .returned v ∧ Kd.R (Kd.int .u8) 5 w' w.heap.size (fun _ => True) v ((bs.take (p + n).toNat).drop p.toNat) ∧ On w 86 g gv bs (p + n) w' := by
  have H := Aside0.mk h
  have y0 := h.c0
  have y1 := h.c1
  obtain ⟨L, hL⟩ : ∃ L, (bs.take (p + n).toNat).drop p.toNat = L := ⟨_, rfl⟩
  have hn : L.length ≤ 140737488355328 := by rw [← hL, List.length_drop, List.length_take]; omega
  have hu := fun (W : World) (hv : Vw W gv bs) => cut_good bs gv p n W hv (by rw [part_in h0 h1 h2])
  rw [part_in h0 h1 h2, hL] at hu
  dsimp only at hu
  have U := Aside0.mk hu
  have LL := Aside0.mk hn
  have p64 : p + n ≤ 9223372036854775807 := by omega
  have p63 : -9223372036854775808 ≤ p + n := by omega
  rw [hL]
  clear h hu ho hl hn hL
  go_enter Try.func42, Try.ntmps42
  go_upto_region 1 with fail
  refine start_ (n := 15) (S := fun w' => w'.cell? ⟨g, 0, none⟩ = some (.pointer (some ⟨gv, 0, none⟩)) ∧ w'.cell? ⟨g, 1, none⟩ = some (.int .i64 p)) (ds := [9]) #[false, false, false, false, false, false, false, false, false, false, false, false, false, false, false] (by kernel_rfl) rfl rfl ⟨y0, y1⟩ (fun hHeld => ?_)
  obtain ⟨w4, hW4, O4⟩ : ∃ w4, w4 = w.drew ∧ Aside0 (On w 86 g gv bs p w4) := ⟨_, rfl, ⟨(On.refl H.out).below (below_drew (Below.refl _ _))⟩⟩
  rw [← hW4] at hHeld ⊢
  clear hW4
  refine pure_ (i := 0) (N := some 8) (v := ?_) (a' := ?_) #[true, false, false, false, false, false, false, false, false, false, false, false, false, false, false] rfl rfl (by kernel_rfl) (fun _ _ _ h => h) (Or.inl ⟨by rfl, ?_⟩) ?_ ?_
  rotate_left
  · intro w'
    go_simp
    with_reducible rfl
  rotate_left
  · simp only [Act.put, List.setIfInBounds_toArray, List.set_cons_zero, List.set_cons_succ, i64_w, i32_w]
    rfl
  refine pure_ (i := 1) (N := some 9) (v := ?_) (a' := ?_) #[true, true, false, false, false, false, false, false, false, false, false, false, false, false, false] rfl rfl (by kernel_rfl) (fun _ _ _ h => h) (Or.inl ⟨by rfl, ?_⟩) ?_ ?_
  rotate_left
  · intro w'
    go_simp
    with_reducible rfl
  rotate_left
  · simp only [Act.put, List.setIfInBounds_toArray, List.set_cons_zero, List.set_cons_succ, i64_w, i32_w]
    rfl
  refine pure_ (i := 2) (N := some 10) (v := ?_) (a' := ?_) #[true, true, true, false, false, false, false, false, false, false, false, false, false, false, false] rfl rfl (by kernel_rfl) (fun _ _ _ h => h) (Or.inl ⟨by rfl, ?_⟩) ?_ ?_
  rotate_left
  · intro w'
    go_simp
    with_reducible rfl
  rotate_left
  · simp only [Act.put, List.setIfInBounds_toArray, List.set_cons_zero, List.set_cons_succ, i64_w, i32_w]
    rfl
  refine pure_ (i := 4) (N := some 12) (v := ?_) (a' := ?_) #[true, true, true, false, true, false, false, false, false, false, false, false, false, false, false] rfl rfl (by kernel_rfl) (fun _ _ _ h => h) (Or.inl ⟨by rfl, ?_⟩) ?_ ?_
  rotate_left
  · intro w'
    go_simp
    with_reducible rfl
  rotate_left
  · simp only [Act.put, List.setIfInBounds_toArray, List.set_cons_zero, List.set_cons_succ, i64_w, i32_w]
    rfl
  refine pure_ (i := 5) (N := some 13) (v := ?_) (a' := ?_) #[true, true, true, false, true, true, false, false, false, false, false, false, false, false, false] rfl rfl (by kernel_rfl) (fun _ _ _ h => h) (Or.inl ⟨by rfl, ?_⟩) ?_ ?_
  rotate_left
  · intro w'
    go_simp
    with_reducible rfl
  rotate_left
  · simp only [Act.put, List.setIfInBounds_toArray, List.set_cons_zero, List.set_cons_succ, i64_w, i32_w]
    rfl
  refine pure_ (i := 6) (N := some 14) (v := ?_) (a' := ?_) #[true, true, true, false, true, true, true, false, false, false, false, false, false, false, false] rfl rfl (by kernel_rfl) (fun _ _ _ h => h) (Or.inl ⟨by rfl, ?_⟩) ?_ ?_
  rotate_left
  · intro w'
    go_simp
    with_reducible rfl
  rotate_left
  · simp only [Act.put, List.setIfInBounds_toArray, List.set_cons_zero, List.set_cons_succ, i64_w, i32_w]
    rfl
  refine pure_ (i := 8) (N := some 16) (v := ?_) (a' := ?_) #[true, true, true, false, true, true, true, false, true, false, false, false, false, false, false] rfl rfl (by kernel_rfl) (fun _ _ _ h => h) (Or.inl ⟨by rfl, ?_⟩) ?_ ?_
  rotate_left
  · intro w'
    go_simp
    with_reducible rfl
  rotate_left
  · simp only [Act.put, List.setIfInBounds_toArray, List.set_cons_zero, List.set_cons_succ, i64_w, i32_w]
    rfl
  refine take_ (i := 3) (N := some 11) (v := ?_) (a' := ?_) #[true, true, true, true, true, true, true, false, true, false, false, false, false, false, false] rfl rfl (by kernel_rfl) (fun _ _ _ h => h) (Or.inl ⟨by rfl, ?_⟩) hHeld ?_ ?_
  rotate_left
  · rintro w' ⟨s0, s1⟩
    go_simp
    with_reducible rfl
  rotate_left
  · simp only [Act.put, List.setIfInBounds_toArray, List.set_cons_zero, List.set_cons_succ, i64_w, i32_w]
    rfl
  refine take_ (i := 7) (N := some 15) (v := ?_) (a' := ?_) #[true, true, true, true, true, true, true, true, true, false, false, false, false, false, false] rfl rfl (by kernel_rfl) (fun _ _ _ h => h) (Or.inl ⟨by rfl, ?_⟩) hHeld ?_ ?_
  rotate_left
  · rintro w' ⟨s0, s1⟩
    go_simp
    with_reducible rfl
  rotate_left
  · simp only [Act.put, List.setIfInBounds_toArray, List.set_cons_zero, List.set_cons_succ, i64_w, i32_w]
    rfl
  refine last_ (i := 9) (N := some 17) #[true, true, true, true, true, true, true, true, true, true, false, false, false, false, false] rfl rfl (by kernel_rfl) (by decide) (fun K hK => ?_)
  refine goes_ Try.func39 (by kernel_rfl) rfl #[.pointer (some ⟨gv, 0, none⟩), .int .i64 p, .int .i64 n] (by rfl) rfl rfl (by simp only [List.map_toArray, List.map_cons, List.map_nil]; rfl) ?_
  with_reducible refine (U.out w4 O4.out.rd.vw).mono ?_
  rintro e w5 ⟨gq, k1, rfl, k2, k3⟩
  refine ⟨_, rfl, ?_⟩
  have O5 := Aside0.mk (O4.out.below k3)
  have V5 := Aside0.mk k2
  clear k1 k2 k3
  refine hK.out _ _ ?_
  clear hK K
  refine norm_ (a' := ?_) ?_ ?_
  rotate_left
  · show Act.put _ (some 17) _ = _
    simp only [Act.put, List.setIfInBounds_toArray, List.set_cons_zero, List.set_cons_succ, i64_w, i32_w]
    rfl
  refine pure_ (i := 10) (N := some 7) (v := ?_) (a' := ?_) #[true, true, true, true, true, true, true, true, true, true, true, false, false, false, false] rfl rfl (by kernel_rfl) (fun _ _ _ h => h) (Or.inl ⟨by rfl, ?_⟩) ?_ ?_
  rotate_left
  · intro w'
    go_simp
    with_reducible rfl
  rotate_left
  · simp only [Act.put, List.setIfInBounds_toArray, List.set_cons_zero, List.set_cons_succ, i64_w, i32_w]
    rfl
  refine pure_ (i := 11) (N := some 18) (v := ?_) (a' := ?_) #[true, true, true, true, true, true, true, true, true, true, true, true, false, false, false] rfl rfl (by kernel_rfl) (fun _ _ _ h => h) (Or.inl ⟨by rfl, ?_⟩) ?_ ?_
  rotate_left
  · intro w'
    go_simp
    with_reducible rfl
  rotate_left
  · simp only [Act.put, List.setIfInBounds_toArray, List.set_cons_zero, List.set_cons_succ, i64_w, i32_w]
    rfl
  refine pure_ (i := 12) (N := some 19) (v := ?_) (a' := ?_) #[true, true, true, true, true, true, true, true, true, true, true, true, true, false, false] rfl rfl (by kernel_rfl) (fun _ _ _ h => h) (Or.inl ⟨by rfl, ?_⟩) ?_ ?_
  rotate_left
  · intro w'
    go_simp
    with_reducible rfl
  rotate_left
  · simp only [Act.put, List.setIfInBounds_toArray, List.set_cons_zero, List.set_cons_succ, i64_w, i32_w]
    rfl
  refine pure_ (i := 13) (N := some 5) (v := ?_) (a' := ?_) #[true, true, true, true, true, true, true, true, true, true, true, true, true, true, false] rfl rfl (by kernel_rfl) (fun _ _ _ h => h) (Or.inl ⟨by rfl, ?_⟩) ?_ ?_
  rotate_left
  · intro w'
    go_simp
    with_reducible rfl
  rotate_left
  · simp only [Act.put, List.setIfInBounds_toArray, List.set_cons_zero, List.set_cons_succ, i64_w, i32_w]
    rfl
  refine pure_ (i := 14) (N := some 6) (v := ?_) (a' := ?_) #[true, true, true, true, true, true, true, true, true, true, true, true, true, true, true] rfl rfl (by kernel_rfl) (fun _ _ _ h => h) (Or.inl ⟨by rfl, ?_⟩) ?_ ?_
  rotate_left
  · intro w'
    go_simp
    with_reducible rfl
  rotate_left
  · simp only [Act.put, List.setIfInBounds_toArray, List.set_cons_zero, List.set_cons_succ, i64_w, i32_w]
    rfl
  refine done_ (by kernel_rfl) ?_

  have z1 := O5.out.rd.c1
  have zf := blk_frozen O5.out.rd.bk 1
  go_upto_region 4 with (go_at_call 38; refine (gmust_ok _ _).mono ?_; rintro e w6 ⟨rfl, rfl⟩)
  have O7 := Aside0.mk (O5.out.set (t := 86) (by decide) (p + n))
  have V7 := Aside0.mk (V5.out.set O5.out.rd.bk (t := 86) (by decide) O5.out.rd.c1 (x := .int .i64 (p + n)) (by simp))
  generalize (w6.setCell _ _) = w7 at *
  go_wp2_with (go_at_call 57; refine (bytes_calls L gq w7 V7.out LL.out).mono ?_; rintro e w8 ⟨v, rfl, k1, k2⟩; have O8 := Aside0.mk (O7.out.below k2); have R8 := Aside0.mk (Kd.R_lower k1 O7.out.gr.size); clear k1 k2)
  go_ret
  exact ⟨_, rfl, R8.out, O8.out⟩
end Go.Proofs.Ytchmhcfdamdjdaa.G
