import Derived.Test.YtonljpciadeafaaSx0
import Derived.Test.YtonljpciadeafaaMtPAS
import Derived.Tactics2
import Derived.Defers
import Derived.Recover
import Derived.Laws.Pointers
set_option linter.unusedVariables false
set_option linter.unusedSimpArgs false
namespace Go.Proofs.Ytonljpciadeafaa.S
open Go Go.RowKit Go.Proofs.YtonljpciadeafaaW.PrintWords Go.Proofs.YtonljpciadeafaaW.PrintLast Go.Proofs.YtonljpciadeafaaW.PrintMore
theorem St.grown {w0 w wc w1 : World} {g : Nat} {cs : Array Value} {row : Option Nat} (h : St w0 w wc g cs) (hg : wc.grownBy w1 row) (hr : ∀ k, row = some k → w.heap.size ≤ k) (hlt : g < w.heap.size) : St w0 w w1 g cs := by
  have hz := h.gr.size
  have hlo := h.lo
  refine ⟨h.lo, h.be.grown hg (qi h.be) (fun k hk => by have := hr k hk; omega), ⟨hg.os.trans h.gr.os, hg.tape.trans h.gr.tape, hg.output.trans h.gr.output, Nat.le_trans hz hg.size, fun k hk hne => ?_⟩, ?_⟩
  · rw [hg.block k (by omega) (fun e => by have := hr k e.symm; omega)]
    exact h.gr.block k hk hne
  · exact zg h.bk hg (fun e => by have := hr g e.symm; omega)
theorem zU {α : Type} {d : Kd α} {e base g j : Nat} {w : World} {ok : Nat → Prop} {v x : Value} {xs : List α} (h : d.R e w base ok v xs) (hg : g < base) : d.R e (w.setCell ⟨g, j, none⟩ x) base ok v xs :=
  Kd.qH (Kd.jZ (Kd.jq h) (p := ⟨g, j, none⟩) (fun k hk z => by have := hk.2.1; have z : k = g := z; omega) x) (fun _ hk => hk.1)
theorem St.trans {w0 w w1 wc : World} {g : Nat} {cs cs' : Array Value} (h : St w0 w w1 g cs) (k : St w0 w1 wc g cs') : St w0 w wc g cs' := ⟨h.lo, k.be, h.gr.trans k.gr, k.bk⟩
theorem St.here {w0 w w1 : World} {g : Nat} {cs : Array Value} (h : St w0 w w1 g cs) : St w0 w1 w1 g cs := ⟨h.lo, h.be, World.grownBy.refl _ _, h.bk⟩
def noU8 (cs : Array Value) : Prop := ∀ (j : Nat) (y : Int), cs[j]? ≠ some (.int .u8 y)
theorem cell_but {w1 w2 : World} {g : Nat} {cs : Array Value} (hb : w1.heap[g]? = some (.cells cs 88 (0, 0))) (hn : noU8 cs) (hg : w1.grownBy w2 (some g)) {a : Addr} {y : Int} (h : w1.cell? a = some (.int .u8 y)) : w2.cell? a = some (.int .u8 y) := by
  have hlt := World.block_lt_of_cell? _ _ h
  by_cases e : a.block = g
  · exfalso
    rcases a with ⟨b, o, s⟩
    have e : b = g := e
    subst e
    cases s with
    | none =>
      simp only [World.cell?, hb] at h
      exact hn o y (by simpa using h)
    | some s => simp [World.cell?, hb] at h
  · have hh := hg.block a.block hlt (fun z => e (by injection z))
    rw [← h]
    simp only [World.cell?, hh]
theorem Vw.but {w1 w2 : World} {gv g : Nat} {L : List Int} {cs : Array Value} (h : Vw w1 gv L) (hb : w1.heap[g]? = some (.cells cs 88 (0, 0))) (hn : noU8 cs) (hg : w1.grownBy w2 (some g)) : Vw w2 gv L := by
  obtain ⟨A, c, h1, h2, h3⟩ := h
  refine ⟨A, c, zg h1 hg (fun e => ?_), h2, h3.1, h3.2.1, fun hn0 => ?_⟩
  · injection e with e
    subst e
    rw [hb] at h1
    injection h1 with h1
    injection h1 with _ h1
    exact absurd h1 (by decide)
  · obtain ⟨ad, e, hc⟩ := h3.2.2 hn0
    refine ⟨ad, e, fun j q hj => ?_⟩
    obtain ⟨c, hs, hr, hcell⟩ := hc j q hj
    refine ⟨c, hs, hr, fun i u hu => ?_⟩
    have hr' : c = [Value.int .u8 q] := hr
    have hu' : u = .int .u8 q := by
      subst hr'
      match i, hu with
      | 0, hu => simpa using hu.symm
    have h0 := hcell i u hu
    subst hu'
    exact cell_but hb hn hg h0
theorem JG (gF : Nat) (kd u n a d gp : Int) (A7 A8 A9 : Option Addr) (n7 c7 n8 c8 n9 c9 : Nat) (f wd : Int) : noU8 (rdr gF kd u n a d gp (.slice A7 n7 c7) (.slice A8 n8 c8) (.slice A9 n9 c9) f wd) := by
  intro j y
  match j with
  | 0 | 1 | 2 | 3 | 4 | 5 | 6 | 7 | 8 | 9 | 10 | 11 => simp
  | j + 12 => simp
def Qx (L : List Int) (wd : Int) (i : Nat) : Int := if (i : Int) < wd then (qI L (4 * (i : Int)) 2).1 else (qI L (4 * (wd - 1)) 2).1
def Qq (L : List Int) (wd : Int) (i : Nat) : Int := if (i : Int) < wd then jK (qI L (4 * (i : Int) + 2) 2).1 else jK (qI L (4 * wd + 2 * ((i : Int) - wd)) 2).1
def jN (L : List Int) (wd : Int) (m : Nat) : List Int := (List.range m).map (Qx L wd)
def jm (L : List Int) (wd : Int) (m : Nat) : List Int := (List.range m).map (Qq L wd)
theorem Jk (L : List Int) (wd : Int) (m : Nat) : jN L wd (m + 1) = jN L wd m ++ [Qx L wd m] := by simp [jN, List.range_succ]
theorem Z0 (L : List Int) (wd : Int) (m : Nat) : jm L wd (m + 1) = jm L wd m ++ [Qq L wd m] := by simp [jm, List.range_succ]
theorem QA (L : List Int) (wd : Int) (m : Nat) : (jN L wd m).length = m := by simp [jN]
theorem Qo (L : List Int) (wd : Int) (m : Nat) : (jm L wd m).length = m := by simp [jm]
def Jr (L : List Int) (wd : Int) (i : Nat) : Int := if i = 0 then 0 else Qx L wd (i - 1)
theorem last_wide {L : List Int} {wd : Int} {i : Nat} (h1 : 1 ≤ wd) (h : ¬ (i : Int) < wd) : Jr L wd i = Qx L wd i := by
  unfold Jr Qx
  rw [if_neg (by omega), if_neg h]
  split
  · congr 2
    omega
  · rfl
def HmP (T : Option (List Int)) (gF : Nat) (kd u : Int) (m : Nat) (a d gp f wd : Int) (g : Nat) (w0 w : World) (e : Ending) (w' : World) : Prop :=
  Below w0.heap.size w0 w' ∧ w.grownBy w' (some g) ∧ (T = none ∧ e = thr 41 ∨ ∃ L, T = some L ∧ e = .returned (.tuple #[]) ∧ ∃ A7 c7 A8 c8,
    St w0 w w' g (rdr gF kd u m a d gp (.slice A7 m c7) (.slice A8 m c8) zw f wd) ∧ Kd.R (Kd.int .i64) 3 w' w.heap.size (fun k => some k ≠ (.slice A8 m c8 : Value).ownBlock) (.slice A7 m c7) (jN L wd m) ∧ Kd.R (Kd.int .i64) 3 w' w.heap.size (fun k => some k ≠ (.slice A7 m c7 : Value).ownBlock) (.slice A8 m c8) (jm L wd m))
set_option maxRecDepth 100000 in
set_option maxHeartbeats 8000000 in
theorem hmtx_calls (bs : List Int) (ho : okB bs) (g gF : Nat) (kd u a d gp f wd : Int) (m : Nat) (rows : List S71) (w0 w : World) (hF : Fn w0 gF kd rows bs)
    (hs : St w0 w w g (rdr gF kd u m a d gp zw zw zw f wd)) (h1 : 1 ≤ wd) (h2 : wd ≤ m) (h3 : m ≤ 4096) (T : Option (List Int)) (hT : zl bs ⟨#[104, 109, 116, 120]⟩ (4 * wd + 2 * ((m : Int) - wd)) rows = T) :
    Calls Try.prog 46 #[.pointer (some ⟨g, 0, none⟩)] w (HmP T gF kd u m a d gp f wd g w0 w) := by
  have S := qa.mk hs
  have D := qa.mk (show St w0 w w.drew g (rdr gF kd u m a d gp zw zw zw f wd) from hs.step (zm (Below.refl _ _)))
  have HP := qa.mk (QS bs g gF kd rows ⟨#[104, 109, 116, 120]⟩ (4 * wd + 2 * ((m : Int) - wd)) w.drew (hF.below D.out.be) ((qb D.out.bk 0).trans rfl))
  rw [hT] at HP
  have hraw : wrap64 (wrap64 (4 * wd) + wrap64 (2 * wrap64 ((m : Int) - wd))) = 4 * wd + 2 * ((m : Int) - wd) := by
    rw [Qj (n := 4 * wd) (by omega) (by omega), Qj (n := (m : Int) - wd) (by omega) (by omega), Qj (n := 2 * ((m : Int) - wd)) (by omega) (by omega), Qj (by omega) (by omega)]
  rw [← hraw] at HP
  have hok := fun L (e : T = some L) => (QE ho (hT.trans e)).1
  have y3 : w.cell? ⟨g, 3, none⟩ = some (.int .i64 (m : Int)) := (qb hs.bk 3).trans rfl
  have y11 : w.cell? ⟨g, 11, none⟩ = some (.int .i64 wd) := (qb hs.bk 11).trans rfl
  have GL := qa.mk (qz hs.bk)
  clear hT hs hF ho hraw
  cases T with
  | none =>
    go_enter Try.func46, Try.ntmps46
    go_upto_region 0 with fail
    refine jf (n := 20) (S := fun w' => w'.cell? ⟨g, 3, none⟩ = some (.int .i64 (m : Int)) ∧ w'.cell? ⟨g, 11, none⟩ = some (.int .i64 wd)) (ds := [18]) #[false, false, false, false, false, false, false, false, false, false, false, false, false, false, false, false, false, false, false, false] (by kernel_rfl) rfl rfl ⟨y3, y11⟩ (fun hHeld => ?_)
    refine qj (i := 0) (N := some 6) (v := ?_) (a' := ?_) #[true, false, false, false, false, false, false, false, false, false, false, false, false, false, false, false, false, false, false, false] rfl rfl (by kernel_rfl) (fun _ _ _ h => h) (Or.inl ⟨by rfl, ?_⟩) ?_ ?_
    rotate_left
    · intro w'
      go_simp
      with_reducible rfl
    rotate_left
    · simp only [Act.put, List.setIfInBounds_toArray, List.set_cons_zero, List.set_cons_succ, qg, qh]
      rfl
    refine qj (i := 1) (N := some 7) (v := ?_) (a' := ?_) #[true, true, false, false, false, false, false, false, false, false, false, false, false, false, false, false, false, false, false, false] rfl rfl (by kernel_rfl) (fun _ _ _ h => h) (Or.inl ⟨by rfl, ?_⟩) ?_ ?_
    rotate_left
    · intro w'
      go_simp
      with_reducible rfl
    rotate_left
    · simp only [Act.put, List.setIfInBounds_toArray, List.set_cons_zero, List.set_cons_succ, qg, qh]
      rfl
    refine qj (i := 2) (N := some 8) (v := ?_) (a' := ?_) #[true, true, true, false, false, false, false, false, false, false, false, false, false, false, false, false, false, false, false, false] rfl rfl (by kernel_rfl) (fun _ _ _ h => h) (Or.inl ⟨by rfl, ?_⟩) ?_ ?_
    rotate_left
    · intro w'
      go_simp
      with_reducible rfl
    rotate_left
    · simp only [Act.put, List.setIfInBounds_toArray, List.set_cons_zero, List.set_cons_succ, qg, qh]
      rfl
    refine qj (i := 3) (N := some 9) (v := ?_) (a' := ?_) #[true, true, true, true, false, false, false, false, false, false, false, false, false, false, false, false, false, false, false, false] rfl rfl (by kernel_rfl) (fun _ _ _ h => h) (Or.inl ⟨by rfl, ?_⟩) ?_ ?_
    rotate_left
    · intro w'
      go_simp
      with_reducible rfl
    rotate_left
    · simp only [Act.put, List.setIfInBounds_toArray, List.set_cons_zero, List.set_cons_succ, qg, qh]
      rfl
    refine qj (i := 6) (N := some 12) (v := ?_) (a' := ?_) #[true, true, true, true, false, false, true, false, false, false, false, false, false, false, false, false, false, false, false, false] rfl rfl (by kernel_rfl) (fun _ _ _ h => h) (Or.inl ⟨by rfl, ?_⟩) ?_ ?_
    rotate_left
    · intro w'
      go_simp
      with_reducible rfl
    rotate_left
    · simp only [Act.put, List.setIfInBounds_toArray, List.set_cons_zero, List.set_cons_succ, qg, qh]
      rfl
    refine qj (i := 7) (N := some 13) (v := ?_) (a' := ?_) #[true, true, true, true, false, false, true, true, false, false, false, false, false, false, false, false, false, false, false, false] rfl rfl (by kernel_rfl) (fun _ _ _ h => h) (Or.inl ⟨by rfl, ?_⟩) ?_ ?_
    rotate_left
    · intro w'
      go_simp
      with_reducible rfl
    rotate_left
    · simp only [Act.put, List.setIfInBounds_toArray, List.set_cons_zero, List.set_cons_succ, qg, qh]
      rfl
    refine qj (i := 8) (N := some 14) (v := ?_) (a' := ?_) #[true, true, true, true, false, false, true, true, true, false, false, false, false, false, false, false, false, false, false, false] rfl rfl (by kernel_rfl) (fun _ _ _ h => h) (Or.inl ⟨by rfl, ?_⟩) ?_ ?_
    rotate_left
    · intro w'
      go_simp
      with_reducible rfl
    rotate_left
    · simp only [Act.put, List.setIfInBounds_toArray, List.set_cons_zero, List.set_cons_succ, qg, qh]
      rfl
    refine qj (i := 9) (N := some 15) (v := ?_) (a' := ?_) #[true, true, true, true, false, false, true, true, true, true, false, false, false, false, false, false, false, false, false, false] rfl rfl (by kernel_rfl) (fun _ _ _ h => h) (Or.inl ⟨by rfl, ?_⟩) ?_ ?_
    rotate_left
    · intro w'
      go_simp
      with_reducible rfl
    rotate_left
    · simp only [Act.put, List.setIfInBounds_toArray, List.set_cons_zero, List.set_cons_succ, qg, qh]
      rfl
    refine qj (i := 11) (N := some 17) (v := ?_) (a' := ?_) #[true, true, true, true, false, false, true, true, true, true, false, true, false, false, false, false, false, false, false, false] rfl rfl (by kernel_rfl) (fun _ _ _ h => h) (Or.inl ⟨by rfl, ?_⟩) ?_ ?_
    rotate_left
    · intro w'
      go_simp
      with_reducible rfl
    rotate_left
    · simp only [Act.put, List.setIfInBounds_toArray, List.set_cons_zero, List.set_cons_succ, qg, qh]
      rfl
    refine qj (i := 12) (N := some 18) (v := ?_) (a' := ?_) #[true, true, true, true, false, false, true, true, true, true, false, true, true, false, false, false, false, false, false, false] rfl rfl (by kernel_rfl) (fun _ _ _ h => h) (Or.inl ⟨by rfl, ?_⟩) ?_ ?_
    rotate_left
    · intro w'
      go_simp
      with_reducible rfl
    rotate_left
    · simp only [Act.put, List.setIfInBounds_toArray, List.set_cons_zero, List.set_cons_succ, qg, qh]
      rfl
    refine qj (i := 13) (N := some 19) (v := ?_) (a' := ?_) #[true, true, true, true, false, false, true, true, true, true, false, true, true, true, false, false, false, false, false, false] rfl rfl (by kernel_rfl) (fun _ _ _ h => h) (Or.inl ⟨by rfl, ?_⟩) ?_ ?_
    rotate_left
    · intro w'
      go_simp
      with_reducible rfl
    rotate_left
    · simp only [Act.put, List.setIfInBounds_toArray, List.set_cons_zero, List.set_cons_succ, qg, qh]
      rfl
    refine zq (i := 4) (N := some 10) (v := ?_) (a' := ?_) #[true, true, true, true, true, false, true, true, true, true, false, true, true, true, false, false, false, false, false, false] rfl rfl (by kernel_rfl) (fun _ _ _ h => h) (Or.inl ⟨by rfl, ?_⟩) hHeld ?_ ?_
    rotate_left
    · rintro w' ⟨s0, s1⟩
      go_simp
      with_reducible rfl
    rotate_left
    · simp only [Act.put, List.setIfInBounds_toArray, List.set_cons_zero, List.set_cons_succ, qg, qh]
      rfl
    refine qj (i := 5) (N := some 11) (v := ?_) (a' := ?_) #[true, true, true, true, true, true, true, true, true, true, false, true, true, true, false, false, false, false, false, false] rfl rfl (by kernel_rfl) (fun _ _ _ h => h) (Or.inl ⟨by rfl, ?_⟩) ?_ ?_
    rotate_left
    · intro w'
      go_simp
      with_reducible rfl
    rotate_left
    · simp only [Act.put, List.setIfInBounds_toArray, List.set_cons_zero, List.set_cons_succ, qg, qh]
      rfl
    refine zq (i := 10) (N := some 16) (v := ?_) (a' := ?_) #[true, true, true, true, true, true, true, true, true, true, true, true, true, true, false, false, false, false, false, false] rfl rfl (by kernel_rfl) (fun _ _ _ h => h) (Or.inl ⟨by rfl, ?_⟩) hHeld ?_ ?_
    rotate_left
    · rintro w' ⟨s0, s1⟩
      go_simp
      with_reducible rfl
    rotate_left
    · simp only [Act.put, List.setIfInBounds_toArray, List.set_cons_zero, List.set_cons_succ, qg, qh]
      rfl
    refine zq (i := 14) (N := some 20) (v := ?_) (a' := ?_) #[true, true, true, true, true, true, true, true, true, true, true, true, true, true, true, false, false, false, false, false] rfl rfl (by kernel_rfl) (fun _ _ _ h => h) (Or.inl ⟨by rfl, ?_⟩) hHeld ?_ ?_
    rotate_left
    · rintro w' ⟨s0, s1⟩
      go_simp
      with_reducible rfl
    rotate_left
    · simp only [Act.put, List.setIfInBounds_toArray, List.set_cons_zero, List.set_cons_succ, qg, qh]
      rfl
    refine qj (i := 15) (N := some 21) (v := ?_) (a' := ?_) #[true, true, true, true, true, true, true, true, true, true, true, true, true, true, true, true, false, false, false, false] rfl rfl (by kernel_rfl) (fun _ _ _ h => h) (Or.inl ⟨by rfl, ?_⟩) ?_ ?_
    rotate_left
    · intro w'
      go_simp
      with_reducible rfl
    rotate_left
    · simp only [Act.put, List.setIfInBounds_toArray, List.set_cons_zero, List.set_cons_succ, qg, qh]
      rfl
    refine qj (i := 16) (N := some 22) (v := ?_) (a' := ?_) #[true, true, true, true, true, true, true, true, true, true, true, true, true, true, true, true, true, false, false, false] rfl rfl (by kernel_rfl) (fun _ _ _ h => h) (Or.inl ⟨by rfl, ?_⟩) ?_ ?_
    rotate_left
    · intro w'
      go_simp
      with_reducible rfl
    rotate_left
    · simp only [Act.put, List.setIfInBounds_toArray, List.set_cons_zero, List.set_cons_succ, qg, qh]
      rfl
    refine qj (i := 17) (N := some 23) (v := ?_) (a' := ?_) #[true, true, true, true, true, true, true, true, true, true, true, true, true, true, true, true, true, true, false, false] rfl rfl (by kernel_rfl) (fun _ _ _ h => h) (Or.inl ⟨by rfl, ?_⟩) ?_ ?_
    rotate_left
    · intro w'
      go_simp
      with_reducible rfl
    rotate_left
    · simp only [Act.put, List.setIfInBounds_toArray, List.set_cons_zero, List.set_cons_succ, qg, qh]
      rfl
    refine zS (i := 18) (N := some 24) #[true, true, true, true, true, true, true, true, true, true, true, true, true, true, true, true, true, true, true, false] rfl rfl (by kernel_rfl) (by decide) (fun K hK => ?_)
    refine throws_ Try.func63 (by kernel_rfl) rfl #[.pointer (some ⟨g, 0, none⟩), .string ⟨#[104, 109, 116, 120]⟩, .int .i64 (wrap64 (wrap64 (4 * wd) + wrap64 (2 * wrap64 ((m : Int) - wd))))] (by rfl) rfl rfl (by simp only [List.map_toArray, List.map_cons, List.map_nil]; rfl) ?_
    with_reducible refine HP.out.mono ?_
    rintro e w1 ⟨k1, rfl⟩
    have S1 := D.out.step k1
    exact ⟨_, rfl, rfl, S1.be, S1.gr, Or.inl ⟨rfl, rfl⟩⟩
  | some L =>
    have ok := hok L rfl
    have U := qa.mk (fun (g' : Nat) (p : Int) (w : World) (hv : Vw w g' L) => QJ L g' p w hv ok)
    have I16 := qa.mk (fun (g' : Nat) (p : Int) (w : World) (hv : Vw w g' L) => JX L g' p w hv ok)
    clear hok ok
    go_enter Try.func46, Try.ntmps46
    go_upto_region 0 with fail
    refine jf (n := 20) (S := fun w' => w'.cell? ⟨g, 3, none⟩ = some (.int .i64 (m : Int)) ∧ w'.cell? ⟨g, 11, none⟩ = some (.int .i64 wd)) (ds := [18]) #[false, false, false, false, false, false, false, false, false, false, false, false, false, false, false, false, false, false, false, false] (by kernel_rfl) rfl rfl ⟨y3, y11⟩ (fun hHeld => ?_)
    refine qj (i := 0) (N := some 6) (v := ?_) (a' := ?_) #[true, false, false, false, false, false, false, false, false, false, false, false, false, false, false, false, false, false, false, false] rfl rfl (by kernel_rfl) (fun _ _ _ h => h) (Or.inl ⟨by rfl, ?_⟩) ?_ ?_
    rotate_left
    · intro w'
      go_simp
      with_reducible rfl
    rotate_left
    · simp only [Act.put, List.setIfInBounds_toArray, List.set_cons_zero, List.set_cons_succ, qg, qh]
      rfl
    refine qj (i := 1) (N := some 7) (v := ?_) (a' := ?_) #[true, true, false, false, false, false, false, false, false, false, false, false, false, false, false, false, false, false, false, false] rfl rfl (by kernel_rfl) (fun _ _ _ h => h) (Or.inl ⟨by rfl, ?_⟩) ?_ ?_
    rotate_left
    · intro w'
      go_simp
      with_reducible rfl
    rotate_left
    · simp only [Act.put, List.setIfInBounds_toArray, List.set_cons_zero, List.set_cons_succ, qg, qh]
      rfl
    refine qj (i := 2) (N := some 8) (v := ?_) (a' := ?_) #[true, true, true, false, false, false, false, false, false, false, false, false, false, false, false, false, false, false, false, false] rfl rfl (by kernel_rfl) (fun _ _ _ h => h) (Or.inl ⟨by rfl, ?_⟩) ?_ ?_
    rotate_left
    · intro w'
      go_simp
      with_reducible rfl
    rotate_left
    · simp only [Act.put, List.setIfInBounds_toArray, List.set_cons_zero, List.set_cons_succ, qg, qh]
      rfl
    refine qj (i := 3) (N := some 9) (v := ?_) (a' := ?_) #[true, true, true, true, false, false, false, false, false, false, false, false, false, false, false, false, false, false, false, false] rfl rfl (by kernel_rfl) (fun _ _ _ h => h) (Or.inl ⟨by rfl, ?_⟩) ?_ ?_
    rotate_left
    · intro w'
      go_simp
      with_reducible rfl
    rotate_left
    · simp only [Act.put, List.setIfInBounds_toArray, List.set_cons_zero, List.set_cons_succ, qg, qh]
      rfl
    refine qj (i := 6) (N := some 12) (v := ?_) (a' := ?_) #[true, true, true, true, false, false, true, false, false, false, false, false, false, false, false, false, false, false, false, false] rfl rfl (by kernel_rfl) (fun _ _ _ h => h) (Or.inl ⟨by rfl, ?_⟩) ?_ ?_
    rotate_left
    · intro w'
      go_simp
      with_reducible rfl
    rotate_left
    · simp only [Act.put, List.setIfInBounds_toArray, List.set_cons_zero, List.set_cons_succ, qg, qh]
      rfl
    refine qj (i := 7) (N := some 13) (v := ?_) (a' := ?_) #[true, true, true, true, false, false, true, true, false, false, false, false, false, false, false, false, false, false, false, false] rfl rfl (by kernel_rfl) (fun _ _ _ h => h) (Or.inl ⟨by rfl, ?_⟩) ?_ ?_
    rotate_left
    · intro w'
      go_simp
      with_reducible rfl
    rotate_left
    · simp only [Act.put, List.setIfInBounds_toArray, List.set_cons_zero, List.set_cons_succ, qg, qh]
      rfl
    refine qj (i := 8) (N := some 14) (v := ?_) (a' := ?_) #[true, true, true, true, false, false, true, true, true, false, false, false, false, false, false, false, false, false, false, false] rfl rfl (by kernel_rfl) (fun _ _ _ h => h) (Or.inl ⟨by rfl, ?_⟩) ?_ ?_
    rotate_left
    · intro w'
      go_simp
      with_reducible rfl
    rotate_left
    · simp only [Act.put, List.setIfInBounds_toArray, List.set_cons_zero, List.set_cons_succ, qg, qh]
      rfl
    refine qj (i := 9) (N := some 15) (v := ?_) (a' := ?_) #[true, true, true, true, false, false, true, true, true, true, false, false, false, false, false, false, false, false, false, false] rfl rfl (by kernel_rfl) (fun _ _ _ h => h) (Or.inl ⟨by rfl, ?_⟩) ?_ ?_
    rotate_left
    · intro w'
      go_simp
      with_reducible rfl
    rotate_left
    · simp only [Act.put, List.setIfInBounds_toArray, List.set_cons_zero, List.set_cons_succ, qg, qh]
      rfl
    refine qj (i := 11) (N := some 17) (v := ?_) (a' := ?_) #[true, true, true, true, false, false, true, true, true, true, false, true, false, false, false, false, false, false, false, false] rfl rfl (by kernel_rfl) (fun _ _ _ h => h) (Or.inl ⟨by rfl, ?_⟩) ?_ ?_
    rotate_left
    · intro w'
      go_simp
      with_reducible rfl
    rotate_left
    · simp only [Act.put, List.setIfInBounds_toArray, List.set_cons_zero, List.set_cons_succ, qg, qh]
      rfl
    refine qj (i := 12) (N := some 18) (v := ?_) (a' := ?_) #[true, true, true, true, false, false, true, true, true, true, false, true, true, false, false, false, false, false, false, false] rfl rfl (by kernel_rfl) (fun _ _ _ h => h) (Or.inl ⟨by rfl, ?_⟩) ?_ ?_
    rotate_left
    · intro w'
      go_simp
      with_reducible rfl
    rotate_left
    · simp only [Act.put, List.setIfInBounds_toArray, List.set_cons_zero, List.set_cons_succ, qg, qh]
      rfl
    refine qj (i := 13) (N := some 19) (v := ?_) (a' := ?_) #[true, true, true, true, false, false, true, true, true, true, false, true, true, true, false, false, false, false, false, false] rfl rfl (by kernel_rfl) (fun _ _ _ h => h) (Or.inl ⟨by rfl, ?_⟩) ?_ ?_
    rotate_left
    · intro w'
      go_simp
      with_reducible rfl
    rotate_left
    · simp only [Act.put, List.setIfInBounds_toArray, List.set_cons_zero, List.set_cons_succ, qg, qh]
      rfl
    refine zq (i := 4) (N := some 10) (v := ?_) (a' := ?_) #[true, true, true, true, true, false, true, true, true, true, false, true, true, true, false, false, false, false, false, false] rfl rfl (by kernel_rfl) (fun _ _ _ h => h) (Or.inl ⟨by rfl, ?_⟩) hHeld ?_ ?_
    rotate_left
    · rintro w' ⟨s0, s1⟩
      go_simp
      with_reducible rfl
    rotate_left
    · simp only [Act.put, List.setIfInBounds_toArray, List.set_cons_zero, List.set_cons_succ, qg, qh]
      rfl
    refine qj (i := 5) (N := some 11) (v := ?_) (a' := ?_) #[true, true, true, true, true, true, true, true, true, true, false, true, true, true, false, false, false, false, false, false] rfl rfl (by kernel_rfl) (fun _ _ _ h => h) (Or.inl ⟨by rfl, ?_⟩) ?_ ?_
    rotate_left
    · intro w'
      go_simp
      with_reducible rfl
    rotate_left
    · simp only [Act.put, List.setIfInBounds_toArray, List.set_cons_zero, List.set_cons_succ, qg, qh]
      rfl
    refine zq (i := 10) (N := some 16) (v := ?_) (a' := ?_) #[true, true, true, true, true, true, true, true, true, true, true, true, true, true, false, false, false, false, false, false] rfl rfl (by kernel_rfl) (fun _ _ _ h => h) (Or.inl ⟨by rfl, ?_⟩) hHeld ?_ ?_
    rotate_left
    · rintro w' ⟨s0, s1⟩
      go_simp
      with_reducible rfl
    rotate_left
    · simp only [Act.put, List.setIfInBounds_toArray, List.set_cons_zero, List.set_cons_succ, qg, qh]
      rfl
    refine zq (i := 14) (N := some 20) (v := ?_) (a' := ?_) #[true, true, true, true, true, true, true, true, true, true, true, true, true, true, true, false, false, false, false, false] rfl rfl (by kernel_rfl) (fun _ _ _ h => h) (Or.inl ⟨by rfl, ?_⟩) hHeld ?_ ?_
    rotate_left
    · rintro w' ⟨s0, s1⟩
      go_simp
      with_reducible rfl
    rotate_left
    · simp only [Act.put, List.setIfInBounds_toArray, List.set_cons_zero, List.set_cons_succ, qg, qh]
      rfl
    refine qj (i := 15) (N := some 21) (v := ?_) (a' := ?_) #[true, true, true, true, true, true, true, true, true, true, true, true, true, true, true, true, false, false, false, false] rfl rfl (by kernel_rfl) (fun _ _ _ h => h) (Or.inl ⟨by rfl, ?_⟩) ?_ ?_
    rotate_left
    · intro w'
      go_simp
      with_reducible rfl
    rotate_left
    · simp only [Act.put, List.setIfInBounds_toArray, List.set_cons_zero, List.set_cons_succ, qg, qh]
      rfl
    refine qj (i := 16) (N := some 22) (v := ?_) (a' := ?_) #[true, true, true, true, true, true, true, true, true, true, true, true, true, true, true, true, true, false, false, false] rfl rfl (by kernel_rfl) (fun _ _ _ h => h) (Or.inl ⟨by rfl, ?_⟩) ?_ ?_
    rotate_left
    · intro w'
      go_simp
      with_reducible rfl
    rotate_left
    · simp only [Act.put, List.setIfInBounds_toArray, List.set_cons_zero, List.set_cons_succ, qg, qh]
      rfl
    refine qj (i := 17) (N := some 23) (v := ?_) (a' := ?_) #[true, true, true, true, true, true, true, true, true, true, true, true, true, true, true, true, true, true, false, false] rfl rfl (by kernel_rfl) (fun _ _ _ h => h) (Or.inl ⟨by rfl, ?_⟩) ?_ ?_
    rotate_left
    · intro w'
      go_simp
      with_reducible rfl
    rotate_left
    · simp only [Act.put, List.setIfInBounds_toArray, List.set_cons_zero, List.set_cons_succ, qg, qh]
      rfl
    refine zS (i := 18) (N := some 24) #[true, true, true, true, true, true, true, true, true, true, true, true, true, true, true, true, true, true, true, false] rfl rfl (by kernel_rfl) (by decide) (fun K hK => ?_)
    refine Qk Try.func63 (by kernel_rfl) rfl #[.pointer (some ⟨g, 0, none⟩), .string ⟨#[104, 109, 116, 120]⟩, .int .i64 (wrap64 (wrap64 (4 * wd) + wrap64 (2 * wrap64 ((m : Int) - wd))))] (by rfl) rfl rfl (by simp only [List.map_toArray, List.map_cons, List.map_nil]; rfl) ?_
    with_reducible refine (HP.out).mono ?_
    rintro e w1 ⟨k1, g', k2, rfl, k3⟩
    refine ⟨_, rfl, ?_⟩
    have S1 := qa.mk (D.out.step k1)
    have V1 := qa.mk k3
    clear k1 k2 k3
    refine hK.out _ _ ?_
    clear hK K
    refine zO (a' := ?_) ?_ ?_
    rotate_left
    · show Act.put _ (some 24) _ = _
      simp only [Act.put, List.setIfInBounds_toArray, List.set_cons_zero, List.set_cons_succ, qg, qh]
      rfl
    refine qj (i := 19) (N := some 2) (v := ?_) (a' := ?_) #[true, true, true, true, true, true, true, true, true, true, true, true, true, true, true, true, true, true, true, true] rfl rfl (by kernel_rfl) (fun _ _ _ h => h) (Or.inl ⟨by rfl, ?_⟩) ?_ ?_
    rotate_left
    · intro w'
      go_simp
      with_reducible rfl
    rotate_left
    · simp only [Act.put, List.setIfInBounds_toArray, List.set_cons_zero, List.set_cons_succ, qg, qh]
      rfl
    refine jM (by kernel_rfl) ?_
    have z3 : w1.cell? ⟨g, 3, none⟩ = some (.int .i64 (m : Int)) := (qb S1.out.bk 3).trans rfl
    have H1 := qa.mk S1.out.here
    have N1 := qa.mk (JG gF kd u m a d gp none none none 0 0 0 0 0 0 f wd)
    have GL1 := qa.mk (qz S1.out.bk)
    go_wp2
    go_loopw [3, 30] (fun v3 v30 wr => ∃ (i : Nat) (A7 A8 : Option Addr) (c7 c8 : Nat), v3 = .int .i64 (Jr L wd i) ∧ v30 = .int .i64 i ∧ i ≤ m ∧ qa (St w0 w1 wr g (rdr gF kd u m a d gp (.slice A7 (jN L wd i).length c7) (.slice A8 (jm L wd i).length c8) zw f wd)) ∧ qa (Kd.R (Kd.int .i64) 3 wr w1.heap.size (fun k => some k ≠ (.slice A8 (jm L wd i).length c8 : Value).ownBlock) (.slice A7 (jN L wd i).length c7) (jN L wd i)) ∧ qa (Kd.R (Kd.int .i64) 3 wr w1.heap.size (fun k => some k ≠ (.slice A7 (jN L wd i).length c7 : Value).ownBlock) (.slice A8 (jm L wd i).length c8) (jm L wd i))) (fun _ v30 _ => m - (intOf v30).toNat)
    case atStart => exact ⟨0, none, none, 0, 0, rfl, rfl, Nat.zero_le _, H1, ⟨Kd.jE _ _ _ _ _⟩, ⟨Kd.jE _ _ _ _ _⟩⟩
    case round =>
      obtain ⟨i, A7, A8, c7, c8, rfl, rfl, hi, HS, R7, R8⟩ := hrel
      by_cases ilt : i < m
      · have il := eq_true (show (i : Int) < (m : Int) by omega)
        have il2 := eq_true ilt
        have ip := eq_true (show (0 : Int) ≤ (i : Int) by omega)
        obtain ⟨q, hq⟩ : ∃ q, Qx L wd i = q := ⟨_, rfl⟩
        obtain ⟨s, hsr⟩ : ∃ q, Qq L wd i = q := ⟨_, rfl⟩
        obtain ⟨xs, hxs⟩ : ∃ q, jN L wd i = q := ⟨_, rfl⟩
        obtain ⟨ys, hys⟩ : ∃ q, jm L wd i = q := ⟨_, rfl⟩
        have n7 := qa.mk (Jk L wd i)
        have n8 := qa.mk (Z0 L wd i)
        have l7 := QA L wd i
        have l8 := Qo L wd i
        have hl : Jr L wd (i + 1) = q := by rw [← hq]; rfl
        rw [hq, hxs] at n7
        rw [hsr, hys] at n8
        rw [hxs] at l7 R7 R8 HS
        rw [hys] at l8 R7 R8 HS
        have HLn := qa.mk hl
        have E7 := qa.mk l7
        have E8 := qa.mk l8
        have y11r : wr.cell? ⟨g, 11, none⟩ = some (.int .i64 wd) := (qb HS.out.bk 11).trans rfl
        have im : (i : Int) < 4096 := by omega
        have VR := qa.mk (fun (w2 : World) (cs : Array Value) (h : St w0 w1 w2 g cs) => V1.out.but S1.out.bk N1.out h.gr)
        clear hl l7 l8 hxs hys
        by_cases hw : (i : Int) < wd
        · have hwb : decide ((i : Int) < wd) = true := decide_eq_true hw
          have hwc := eq_true hw
          have UQ := qa.mk (fun (g' : Nat) (w : World) (hv : Vw w g' L) => U.out g' (4 * (i : Int)) w hv)
          have IB := qa.mk (fun (g' : Nat) (w : World) (hv : Vw w g' L) => I16.out g' (4 * (i : Int) + 2) w hv)
          unfold Qx at hq
          unfold Qq at hsr
          rw [if_pos hw] at hq hsr
          rw [hq] at UQ
          rw [hsr] at IB
          clear hq hsr
          go_upto_region 5 with fail
          refine jf (n := 14) (S := fun w' => w'.cell? ⟨g, 11, none⟩ = some (.int .i64 wd)) (ds := []) #[false, false, false, false, false, false, false, false, false, false, false, false, false, false] (by kernel_rfl) rfl rfl (y11r) (fun hHeld => ?_)
          have D5 := qa.mk (HS.out.step (zm (Below.refl _ _)))
          have Q7 := qa.mk (Kd.qw R7.out)
          have Q8 := qa.mk (Kd.qw R8.out)
          refine qj (i := 0) (N := some 33) (v := ?_) (a' := ?_) #[true, false, false, false, false, false, false, false, false, false, false, false, false, false] rfl rfl (by kernel_rfl) (fun _ _ _ h => h) (Or.inl ⟨by rfl, ?_⟩) ?_ ?_
          rotate_left
          · intro w'
            go_simp
            with_reducible rfl
          rotate_left
          · simp only [Act.put, List.setIfInBounds_toArray, List.set_cons_zero, List.set_cons_succ, qg, qh]
            rfl
          refine qj (i := 1) (N := some 34) (v := ?_) (a' := ?_) #[true, true, false, false, false, false, false, false, false, false, false, false, false, false] rfl rfl (by kernel_rfl) (fun _ _ _ h => h) (Or.inl ⟨by rfl, ?_⟩) ?_ ?_
          rotate_left
          · intro w'
            go_simp
            with_reducible rfl
          rotate_left
          · simp only [Act.put, List.setIfInBounds_toArray, List.set_cons_zero, List.set_cons_succ, qg, qh]
            rfl
          refine qj (i := 2) (N := some 35) (v := ?_) (a' := ?_) #[true, true, true, false, false, false, false, false, false, false, false, false, false, false] rfl rfl (by kernel_rfl) (fun _ _ _ h => h) (Or.inl ⟨by rfl, ?_⟩) ?_ ?_
          rotate_left
          · intro w'
            go_simp
            with_reducible rfl
          rotate_left
          · simp only [Act.put, List.setIfInBounds_toArray, List.set_cons_zero, List.set_cons_succ, qg, qh]
            rfl
          refine qj (i := 5) (N := some 38) (v := ?_) (a' := ?_) #[true, true, true, false, false, true, false, false, false, false, false, false, false, false] rfl rfl (by kernel_rfl) (fun _ _ _ h => h) (Or.inl ⟨by rfl, ?_⟩) ?_ ?_
          rotate_left
          · intro w'
            go_simp
            with_reducible rfl
          rotate_left
          · simp only [Act.put, List.setIfInBounds_toArray, List.set_cons_zero, List.set_cons_succ, qg, qh]
            rfl
          refine qj (i := 6) (N := some 39) (v := ?_) (a' := ?_) #[true, true, true, false, false, true, true, false, false, false, false, false, false, false] rfl rfl (by kernel_rfl) (fun _ _ _ h => h) (Or.inl ⟨by rfl, ?_⟩) ?_ ?_
          rotate_left
          · intro w'
            go_simp
            with_reducible rfl
          rotate_left
          · simp only [Act.put, List.setIfInBounds_toArray, List.set_cons_zero, List.set_cons_succ, qg, qh]
            rfl
          refine qj (i := 7) (N := some 40) (v := ?_) (a' := ?_) #[true, true, true, false, false, true, true, true, false, false, false, false, false, false] rfl rfl (by kernel_rfl) (fun _ _ _ h => h) (Or.inl ⟨by rfl, ?_⟩) ?_ ?_
          rotate_left
          · intro w'
            go_simp
            with_reducible rfl
          rotate_left
          · simp only [Act.put, List.setIfInBounds_toArray, List.set_cons_zero, List.set_cons_succ, qg, qh]
            rfl
          refine qj (i := 8) (N := some 41) (v := ?_) (a' := ?_) #[true, true, true, false, false, true, true, true, true, false, false, false, false, false] rfl rfl (by kernel_rfl) (fun _ _ _ h => h) (Or.inl ⟨by rfl, ?_⟩) ?_ ?_
          rotate_left
          · intro w'
            go_simp
            with_reducible rfl
          rotate_left
          · simp only [Act.put, List.setIfInBounds_toArray, List.set_cons_zero, List.set_cons_succ, qg, qh]
            rfl
          refine zq (i := 3) (N := some 36) (v := ?_) (a' := ?_) #[true, true, true, true, false, true, true, true, true, false, false, false, false, false] rfl rfl (by kernel_rfl) (fun _ _ _ h => h) (Or.inl ⟨by rfl, ?_⟩) hHeld ?_ ?_
          rotate_left
          · intro w' s0
            go_simp
            with_reducible rfl
          rotate_left
          · simp only [Act.put, List.setIfInBounds_toArray, List.set_cons_zero, List.set_cons_succ, qg, qh]
            rfl
          refine qj (i := 4) (N := some 37) (v := ?_) (a' := ?_) #[true, true, true, true, true, true, true, true, true, false, false, false, false, false] rfl rfl (by kernel_rfl) (fun _ _ _ h => h) (Or.inl ⟨by rfl, ?_⟩) ?_ ?_
          rotate_left
          · intro w'
            go_simp
            with_reducible rfl
          rotate_left
          · simp only [Act.put, List.setIfInBounds_toArray, List.set_cons_zero, List.set_cons_succ, qg, qh]
            rfl
          refine zq (i := 9) (N := some 42) (v := ?_) (a' := ?_) #[true, true, true, true, true, true, true, true, true, true, false, false, false, false] rfl rfl (by kernel_rfl) (fun _ _ _ h => h) (Or.inl ⟨by rfl, ?_⟩) hHeld ?_ ?_
          rotate_left
          · intro w' s0
            go_simp
            with_reducible rfl
          rotate_left
          · simp only [Act.put, List.setIfInBounds_toArray, List.set_cons_zero, List.set_cons_succ, qg, qh]
            rfl
          refine qj (i := 10) (N := some 43) (v := ?_) (a' := ?_) #[true, true, true, true, true, true, true, true, true, true, true, false, false, false] rfl rfl (by kernel_rfl) (fun _ _ _ h => h) (Or.inl ⟨by rfl, ?_⟩) ?_ ?_
          rotate_left
          · intro w'
            go_simp
            with_reducible rfl
          rotate_left
          · simp only [Act.put, List.setIfInBounds_toArray, List.set_cons_zero, List.set_cons_succ, qg, qh]
            rfl
          refine qj (i := 11) (N := some 44) (v := ?_) (a' := ?_) #[true, true, true, true, true, true, true, true, true, true, true, true, false, false] rfl rfl (by kernel_rfl) (fun _ _ _ h => h) (Or.inl ⟨by rfl, ?_⟩) ?_ ?_
          rotate_left
          · intro w'
            go_simp
            with_reducible rfl
          rotate_left
          · simp only [Act.put, List.setIfInBounds_toArray, List.set_cons_zero, List.set_cons_succ, qg, qh]
            rfl
          refine qj (i := 12) (N := some 45) (v := ?_) (a' := ?_) #[true, true, true, true, true, true, true, true, true, true, true, true, true, false] rfl rfl (by kernel_rfl) (fun _ _ _ h => h) (Or.inl ⟨by rfl, ?_⟩) ?_ ?_
          rotate_left
          · intro w'
            go_simp
            with_reducible rfl
          rotate_left
          · simp only [Act.put, List.setIfInBounds_toArray, List.set_cons_zero, List.set_cons_succ, qg, qh]
            rfl
          refine qj (i := 13) (N := some 5) (v := ?_) (a' := ?_) #[true, true, true, true, true, true, true, true, true, true, true, true, true, true] rfl rfl (by kernel_rfl) (fun _ _ _ h => h) (Or.inl ⟨by rfl, ?_⟩) ?_ ?_
          rotate_left
          · intro w'
            go_simp
            with_reducible rfl
          rotate_left
          · simp only [Act.put, List.setIfInBounds_toArray, List.set_cons_zero, List.set_cons_succ, qg, qh]
            rfl
          refine jM (by kernel_rfl) ?_
          generalize wrap64 (wrap64 (4 * wd) + wrap64 (2 * wrap64 ((i : Int) - wd))) = b5
          go_upto_region 9 with (go_at_call 65; refine (UQ.out g' _ (VR.out _ _ D5.out)).mono ?_; rintro e w6 ⟨rfl, k1⟩; have S6 := qa.mk (D5.out.step k1); have P7 := qa.mk (Kd.qM Q7.out k1); have P8 := qa.mk (Kd.qM Q8.out k1); have z7 : w6.cell? ⟨g, 7, none⟩ = some (.slice A7 xs.length c7) := (qb S6.out.bk 7).trans rfl; clear k1)
          generalize 4 * (i : Int) + 2 = b at IB ⊢
          go_upto_region 10 with ((with_reducible refine qG (b := .append) (xs := #[.tmp 64, .tmp 66]) rfl ?_); at_builtin; refine Kd.zM (Kd.int .i64) (w0 := w6) w1.heap.size rfl (.tmp 64) (.tmp 66) 35 3 (.int .i64 0) 8 rfl Try.underlying35 info3 rfl (by decide) (by omega) (.slice A7 xs.length c7) xs q [.int .i64 q] (fun k_ => some k_ ≠ (.slice A8 ys.length c8 : Value).ownBlock) (fun _ => False) rfl rfl ?aP (fun _ hk => hk.elim) ?aF ?aO ?aB ?aS ?aL ?_; (case aP => exact rfl); (case aB => exact Below.refl _ _); (case aF => exact (fun k_ hk => Kd.fresh' (Kd.za P8.out) k_ hk)); (case aO => exact P7.out); (case aS => exact S6.out.gr.size); (case aL => have := E7.out; omega); intro v9 w9 k1 kb hg hat; have S9 := qa.mk (S6.out.grown hg (fun k hk => Kd.qZ P7.out k hk) GL1.out); have T8 := qa.mk (Kd.zb (ok := fun _ => True) (Kd.qH P8.out (fun _ hk => ⟨trivial, hk⟩)) hg hat); obtain ⟨A9, c9, e9⟩ := Kd.qN k1; rw [List.length_append, List.length_singleton] at e9; subst e9; have T7 := qa.mk k1; have q7 := qb S9.out.bk 7; have qf := qd S9.out.bk 7; clear k1 kb hg hat)
          obtain ⟨X, w10, hX, hW, y8, SX, X7, X8⟩ : ∃ (X : World) (w10 : World), X = w9.setCell ⟨g, 7, none⟩ (.slice A9 (xs.length + 1) c9) ∧ w10 = X.drew ∧ X.cell? ⟨g, 8, none⟩ = some (.slice A8 ys.length c8) ∧ qa (St w0 w1 w10 g (rdr gF kd u m a d gp (.slice A9 (xs.length + 1) c9) (.slice A8 ys.length c8) zw f wd)) ∧ qa (Kd.R (Kd.int .i64) 3 w10 w1.heap.size (fun k => some k ≠ (.slice A8 ys.length c8 : Value).ownBlock) (.slice A9 (xs.length + 1) c9) (xs ++ [q])) ∧ qa (Kd.R (Kd.int .i64) 3 w10 w1.heap.size (fun k => some k ≠ (.slice A9 (xs.length + 1) c9 : Value).ownBlock) (.slice A8 ys.length c8) ys) := by
            have z := S9.out.set (cs' := rdr gF kd u m a d gp (.slice A9 (xs.length + 1) c9) (.slice A8 ys.length c8) zw f wd) 7 (.slice A9 (xs.length + 1) c9) rfl
            exact ⟨_, _, rfl, rfl, (qb z.bk 8).trans rfl, ⟨z.step (zm (Below.refl _ _))⟩, ⟨Kd.qw (zU T7.out GL1.out)⟩, ⟨Kd.qw (zU (Kd.qH T8.out (fun _ hk => hk.2)) GL1.out)⟩⟩
          rw [← hX]
          clear hX q7 qf S9 T7 T8 z7 S6 P7 P8
          refine jf (n := 15) (S := fun w' => w'.cell? ⟨g, 8, none⟩ = some (.slice A8 ys.length c8)) (ds := [10, 14]) #[false, false, false, false, false, false, false, false, false, false, false, false, false, false, false] (by kernel_rfl) rfl rfl (y8) (fun hHeld => ?_)
          rw [← hW] at hHeld ⊢
          refine qj (i := 0) (N := some 71) (v := ?_) (a' := ?_) #[true, false, false, false, false, false, false, false, false, false, false, false, false, false, false] rfl rfl (by kernel_rfl) (fun _ _ _ h => h) (Or.inl ⟨by rfl, ?_⟩) ?_ ?_
          rotate_left
          · intro w'
            go_simp
            with_reducible rfl
          rotate_left
          · simp only [Act.put, List.setIfInBounds_toArray, List.set_cons_zero, List.set_cons_succ, qg, qh]
            rfl
          refine qj (i := 1) (N := some 72) (v := ?_) (a' := ?_) #[true, true, false, false, false, false, false, false, false, false, false, false, false, false, false] rfl rfl (by kernel_rfl) (fun _ _ _ h => h) (Or.inl ⟨by rfl, ?_⟩) ?_ ?_
          rotate_left
          · intro w'
            go_simp
            with_reducible rfl
          rotate_left
          · simp only [Act.put, List.setIfInBounds_toArray, List.set_cons_zero, List.set_cons_succ, qg, qh]
            rfl
          refine qj (i := 2) (N := some 73) (v := ?_) (a' := ?_) #[true, true, true, false, false, false, false, false, false, false, false, false, false, false, false] rfl rfl (by kernel_rfl) (fun _ _ _ h => h) (Or.inl ⟨by rfl, ?_⟩) ?_ ?_
          rotate_left
          · intro w'
            go_simp
            with_reducible rfl
          rotate_left
          · simp only [Act.put, List.setIfInBounds_toArray, List.set_cons_zero, List.set_cons_succ, qg, qh]
            rfl
          refine qj (i := 3) (N := some 74) (v := ?_) (a' := ?_) #[true, true, true, true, false, false, false, false, false, false, false, false, false, false, false] rfl rfl (by kernel_rfl) (fun _ _ _ h => h) (Or.inl ⟨by rfl, ?_⟩) ?_ ?_
          rotate_left
          · intro w'
            go_simp
            with_reducible rfl
          rotate_left
          · simp only [Act.put, List.setIfInBounds_toArray, List.set_cons_zero, List.set_cons_succ, qg, qh]
            rfl
          refine qj (i := 4) (N := some 75) (v := ?_) (a' := ?_) #[true, true, true, true, true, false, false, false, false, false, false, false, false, false, false] rfl rfl (by kernel_rfl) (fun _ _ _ h => h) (Or.inl ⟨by rfl, ?_⟩) ?_ ?_
          rotate_left
          · intro w'
            go_simp
            with_reducible rfl
          rotate_left
          · simp only [Act.put, List.setIfInBounds_toArray, List.set_cons_zero, List.set_cons_succ, qg, qh]
            rfl
          refine qj (i := 6) (N := some 77) (v := ?_) (a' := ?_) #[true, true, true, true, true, false, true, false, false, false, false, false, false, false, false] rfl rfl (by kernel_rfl) (fun _ _ _ h => h) (Or.inl ⟨by rfl, ?_⟩) ?_ ?_
          rotate_left
          · intro w'
            go_simp
            with_reducible rfl
          rotate_left
          · simp only [Act.put, List.setIfInBounds_toArray, List.set_cons_zero, List.set_cons_succ, qg, qh]
            rfl
          refine qj (i := 7) (N := some 78) (v := ?_) (a' := ?_) #[true, true, true, true, true, false, true, true, false, false, false, false, false, false, false] rfl rfl (by kernel_rfl) (fun _ _ _ h => h) (Or.inl ⟨by rfl, ?_⟩) ?_ ?_
          rotate_left
          · intro w'
            go_simp
            with_reducible rfl
          rotate_left
          · simp only [Act.put, List.setIfInBounds_toArray, List.set_cons_zero, List.set_cons_succ, qg, qh]
            rfl
          refine zq (i := 5) (N := some 76) (v := ?_) (a' := ?_) #[true, true, true, true, true, true, true, true, false, false, false, false, false, false, false] rfl rfl (by kernel_rfl) (fun _ _ _ h => h) (Or.inl ⟨by rfl, ?_⟩) hHeld ?_ ?_
          rotate_left
          · intro w' s0
            go_simp
            with_reducible rfl
          rotate_left
          · simp only [Act.put, List.setIfInBounds_toArray, List.set_cons_zero, List.set_cons_succ, qg, qh]
            rfl
          refine QK (i := 8) (N := some 79) #[true, true, true, true, true, true, true, true, true, false, false, false, false, false, false] rfl rfl (by kernel_rfl) (by decide) (fun K hK => ?_)
          refine Qk Try.func66 (by kernel_rfl) rfl #[.pointer (some ⟨g', 0, none⟩), .int .i64 b] (by rfl) rfl rfl (by simp only [List.map_toArray, List.map_cons, List.map_nil]; rfl) ?_
          with_reducible refine ((IB.out g' w10 (VR.out _ _ SX.out))).mono ?_
          rintro e w8 ⟨rfl, k1⟩
          refine ⟨_, rfl, ?_⟩
          have S8 := qa.mk (SX.out.step k1)
          have M7 := qa.mk (Kd.qM X7.out k1)
          have M8 := qa.mk (Kd.qM X8.out k1)
          clear k1
          refine hK.out _ _ ((qb S8.out.bk 8).trans rfl) (fun hHeld => ?_)
          clear hK K
          refine zO (a' := ?_) ?_ ?_
          rotate_left
          · show Act.put _ (some 79) _ = _
            simp only [Act.put, List.setIfInBounds_toArray, List.set_cons_zero, List.set_cons_succ, qg, qh]
            rfl
          refine QK (i := 9) (N := some 80) #[true, true, true, true, true, true, true, true, true, true, false, false, false, false, false] rfl rfl (by kernel_rfl) (by decide) (fun K hK => ?_)
          refine QD (w1 := ?_) (v := ?_) (by rfl) rfl ?_ ?_
          rotate_left 2
          · go_simp
            constructor
            · rfl
            · rfl
          refine hK.out _ _ ((World.cell?_alloc_lt _ _ _ (World.block_lt_of_cell? _ _ hHeld)).trans hHeld) (fun hHeld => ?_)
          clear hK K
          refine zO (a' := ?_) ?_ ?_
          rotate_left
          · show Act.put _ (some 80) _ = _
            simp only [Act.put, List.setIfInBounds_toArray, List.set_cons_zero, List.set_cons_succ, qg, qh]
            rfl
          refine zS (i := 10) (N := some 81) #[true, true, true, true, true, true, true, true, true, true, true, false, false, false, false] rfl rfl (by kernel_rfl) (by decide) (fun K hK => ?_)
          refine Kd.jO (Kd.int .i64) (w0 := w8) w1.heap.size (by rfl) (.tmp 76) (.tmp 80) 35 3 (.int .i64 0) 8 rfl Try.underlying35 info3 rfl (by decide) (by omega) (.slice A8 ys.length c8) ys s [.int .i64 s] (fun k_ => some k_ ≠ (.slice A9 (xs.length + 1) c9 : Value).ownBlock) (fun _ => False) (by first | rfl | (go_simp; done) | (go_simp; rfl)) rfl ?aP (fun _ hk => hk.elim) ?aF ?aO ?aB ?aS ?aL ?_
          (case aP => exact rfl)
          (case aF => exact fun k_ hk => Kd.fresh' (Kd.za M7.out) k_ hk)
          (case aO => exact M8.out)
          (case aB => exact Below.refl _ _)
          (case aS => exact S8.out.gr.size)
          (case aL => have := E8.out; omega)
          intro v11 w11 k1 kb hg hat
          have S11 := qa.mk (S8.out.grown hg (fun k hk => Kd.qZ M8.out k hk) GL1.out)
          have M11 := qa.mk (Kd.zb (ok := fun _ => True) (Kd.qH M7.out (fun _ hk => ⟨trivial, hk⟩)) hg hat)
          obtain ⟨A11, c11, e11⟩ := Kd.qN k1
          rw [List.length_append, List.length_singleton] at e11
          subst e11
          have N11 := qa.mk k1
          have q8 := qb S11.out.bk 8
          have qf8 := qd S11.out.bk 8
          clear k1 kb hg hat
          refine hK.out _ _ ?_
          clear hK K
          refine zO (a' := ?_) ?_ ?_
          rotate_left
          · show Act.put _ (some 81) _ = _
            simp only [Act.put, List.setIfInBounds_toArray, List.set_cons_zero, List.set_cons_succ, qg, qh]
            rfl
          refine qj (i := 11) (N := some 82) (v := ?_) (a' := ?_) #[true, true, true, true, true, true, true, true, true, true, true, true, false, false, false] rfl rfl (by kernel_rfl) (fun _ _ _ h => h) (Or.inl ⟨by rfl, ?_⟩) ?_ ?_
          rotate_left
          · intro w'
            go_simp
            with_reducible rfl
          rotate_left
          · simp only [Act.put, List.setIfInBounds_toArray, List.set_cons_zero, List.set_cons_succ, qg, qh]
            rfl
          refine qj (i := 12) (N := some 83) (v := ?_) (a' := ?_) #[true, true, true, true, true, true, true, true, true, true, true, true, true, false, false] rfl rfl (by kernel_rfl) (fun _ _ _ h => h) (Or.inl ⟨by rfl, ?_⟩) ?_ ?_
          rotate_left
          · intro w'
            go_simp
            with_reducible rfl
          rotate_left
          · simp only [Act.put, List.setIfInBounds_toArray, List.set_cons_zero, List.set_cons_succ, qg, qh]
            rfl
          refine qj (i := 13) (N := some 84) (v := ?_) (a' := ?_) #[true, true, true, true, true, true, true, true, true, true, true, true, true, true, false] rfl rfl (by kernel_rfl) (fun _ _ _ h => h) (Or.inl ⟨by rfl, ?_⟩) ?_ ?_
          rotate_left
          · intro w'
            go_simp
            with_reducible rfl
          rotate_left
          · simp only [Act.put, List.setIfInBounds_toArray, List.set_cons_zero, List.set_cons_succ, qg, qh]
            rfl
          refine zS (i := 14) (N := none) #[true, true, true, true, true, true, true, true, true, true, true, true, true, true, true] rfl rfl (by kernel_rfl) (by decide) (fun K hK => ?_)
          refine Zg (w1 := ?_) (by rfl) rfl ?_ ?_
          rotate_left
          · go_simp
            rfl
          refine hK.out _ _ ?_
          clear hK K
          refine jM (by kernel_rfl) ?_
          go_wp2
          refine ⟨⟨i + 1, A9, A11, c9, c11, ?_, by push_cast; rfl, by omega, ⟨?_⟩, ⟨?_⟩, ⟨?_⟩⟩, ?_⟩
          · rw [HLn.out]
          · rw [n7.out, n8.out, List.length_append, List.length_append]
            exact S11.out.set 8 _ rfl
          · rw [n7.out, n8.out, List.length_append, List.length_append]
            exact zU (Kd.qH M11.out (fun _ hk => hk.2)) GL1.out
          · rw [n7.out, n8.out, List.length_append, List.length_append]
            exact zU N11.out GL1.out
          · show (_ : Nat) < _
            simp only [intOf]
            omega
        · have hwb : decide ((i : Int) < wd) = false := decide_eq_false hw
          have hwc := eq_false hw
          have IB := qa.mk (fun (g' : Nat) (w : World) (hv : Vw w g' L) => I16.out g' (4 * wd + 2 * ((i : Int) - wd)) w hv)
          have hb5 : wrap64 (wrap64 (4 * wd) + wrap64 (2 * wrap64 ((i : Int) - wd))) = 4 * wd + 2 * ((i : Int) - wd) := by
            rw [Qj (n := 4 * wd) (by omega) (by omega), Qj (n := (i : Int) - wd) (by omega) (by omega), Qj (n := 2 * ((i : Int) - wd)) (by omega) (by omega), Qj (by omega) (by omega)]
          have hlq : Jr L wd i = q := (last_wide h1 hw).trans hq
          unfold Qq at hsr
          rw [if_neg hw] at hsr
          rw [hsr] at IB
          rw [hlq]
          clear hq hsr hlq
          go_upto_region 5 with fail
          refine jf (n := 14) (S := fun w' => w'.cell? ⟨g, 11, none⟩ = some (.int .i64 wd)) (ds := []) #[false, false, false, false, false, false, false, false, false, false, false, false, false, false] (by kernel_rfl) rfl rfl (y11r) (fun hHeld => ?_)
          have D5 := qa.mk (HS.out.step (zm (Below.refl _ _)))
          have Q7 := qa.mk (Kd.qw R7.out)
          have Q8 := qa.mk (Kd.qw R8.out)
          refine qj (i := 0) (N := some 33) (v := ?_) (a' := ?_) #[true, false, false, false, false, false, false, false, false, false, false, false, false, false] rfl rfl (by kernel_rfl) (fun _ _ _ h => h) (Or.inl ⟨by rfl, ?_⟩) ?_ ?_
          rotate_left
          · intro w'
            go_simp
            with_reducible rfl
          rotate_left
          · simp only [Act.put, List.setIfInBounds_toArray, List.set_cons_zero, List.set_cons_succ, qg, qh]
            rfl
          refine qj (i := 1) (N := some 34) (v := ?_) (a' := ?_) #[true, true, false, false, false, false, false, false, false, false, false, false, false, false] rfl rfl (by kernel_rfl) (fun _ _ _ h => h) (Or.inl ⟨by rfl, ?_⟩) ?_ ?_
          rotate_left
          · intro w'
            go_simp
            with_reducible rfl
          rotate_left
          · simp only [Act.put, List.setIfInBounds_toArray, List.set_cons_zero, List.set_cons_succ, qg, qh]
            rfl
          refine qj (i := 2) (N := some 35) (v := ?_) (a' := ?_) #[true, true, true, false, false, false, false, false, false, false, false, false, false, false] rfl rfl (by kernel_rfl) (fun _ _ _ h => h) (Or.inl ⟨by rfl, ?_⟩) ?_ ?_
          rotate_left
          · intro w'
            go_simp
            with_reducible rfl
          rotate_left
          · simp only [Act.put, List.setIfInBounds_toArray, List.set_cons_zero, List.set_cons_succ, qg, qh]
            rfl
          refine qj (i := 5) (N := some 38) (v := ?_) (a' := ?_) #[true, true, true, false, false, true, false, false, false, false, false, false, false, false] rfl rfl (by kernel_rfl) (fun _ _ _ h => h) (Or.inl ⟨by rfl, ?_⟩) ?_ ?_
          rotate_left
          · intro w'
            go_simp
            with_reducible rfl
          rotate_left
          · simp only [Act.put, List.setIfInBounds_toArray, List.set_cons_zero, List.set_cons_succ, qg, qh]
            rfl
          refine qj (i := 6) (N := some 39) (v := ?_) (a' := ?_) #[true, true, true, false, false, true, true, false, false, false, false, false, false, false] rfl rfl (by kernel_rfl) (fun _ _ _ h => h) (Or.inl ⟨by rfl, ?_⟩) ?_ ?_
          rotate_left
          · intro w'
            go_simp
            with_reducible rfl
          rotate_left
          · simp only [Act.put, List.setIfInBounds_toArray, List.set_cons_zero, List.set_cons_succ, qg, qh]
            rfl
          refine qj (i := 7) (N := some 40) (v := ?_) (a' := ?_) #[true, true, true, false, false, true, true, true, false, false, false, false, false, false] rfl rfl (by kernel_rfl) (fun _ _ _ h => h) (Or.inl ⟨by rfl, ?_⟩) ?_ ?_
          rotate_left
          · intro w'
            go_simp
            with_reducible rfl
          rotate_left
          · simp only [Act.put, List.setIfInBounds_toArray, List.set_cons_zero, List.set_cons_succ, qg, qh]
            rfl
          refine qj (i := 8) (N := some 41) (v := ?_) (a' := ?_) #[true, true, true, false, false, true, true, true, true, false, false, false, false, false] rfl rfl (by kernel_rfl) (fun _ _ _ h => h) (Or.inl ⟨by rfl, ?_⟩) ?_ ?_
          rotate_left
          · intro w'
            go_simp
            with_reducible rfl
          rotate_left
          · simp only [Act.put, List.setIfInBounds_toArray, List.set_cons_zero, List.set_cons_succ, qg, qh]
            rfl
          refine zq (i := 3) (N := some 36) (v := ?_) (a' := ?_) #[true, true, true, true, false, true, true, true, true, false, false, false, false, false] rfl rfl (by kernel_rfl) (fun _ _ _ h => h) (Or.inl ⟨by rfl, ?_⟩) hHeld ?_ ?_
          rotate_left
          · intro w' s0
            go_simp
            with_reducible rfl
          rotate_left
          · simp only [Act.put, List.setIfInBounds_toArray, List.set_cons_zero, List.set_cons_succ, qg, qh]
            rfl
          refine qj (i := 4) (N := some 37) (v := ?_) (a' := ?_) #[true, true, true, true, true, true, true, true, true, false, false, false, false, false] rfl rfl (by kernel_rfl) (fun _ _ _ h => h) (Or.inl ⟨by rfl, ?_⟩) ?_ ?_
          rotate_left
          · intro w'
            go_simp
            with_reducible rfl
          rotate_left
          · simp only [Act.put, List.setIfInBounds_toArray, List.set_cons_zero, List.set_cons_succ, qg, qh]
            rfl
          refine zq (i := 9) (N := some 42) (v := ?_) (a' := ?_) #[true, true, true, true, true, true, true, true, true, true, false, false, false, false] rfl rfl (by kernel_rfl) (fun _ _ _ h => h) (Or.inl ⟨by rfl, ?_⟩) hHeld ?_ ?_
          rotate_left
          · intro w' s0
            go_simp
            with_reducible rfl
          rotate_left
          · simp only [Act.put, List.setIfInBounds_toArray, List.set_cons_zero, List.set_cons_succ, qg, qh]
            rfl
          refine qj (i := 10) (N := some 43) (v := ?_) (a' := ?_) #[true, true, true, true, true, true, true, true, true, true, true, false, false, false] rfl rfl (by kernel_rfl) (fun _ _ _ h => h) (Or.inl ⟨by rfl, ?_⟩) ?_ ?_
          rotate_left
          · intro w'
            go_simp
            with_reducible rfl
          rotate_left
          · simp only [Act.put, List.setIfInBounds_toArray, List.set_cons_zero, List.set_cons_succ, qg, qh]
            rfl
          refine qj (i := 11) (N := some 44) (v := ?_) (a' := ?_) #[true, true, true, true, true, true, true, true, true, true, true, true, false, false] rfl rfl (by kernel_rfl) (fun _ _ _ h => h) (Or.inl ⟨by rfl, ?_⟩) ?_ ?_
          rotate_left
          · intro w'
            go_simp
            with_reducible rfl
          rotate_left
          · simp only [Act.put, List.setIfInBounds_toArray, List.set_cons_zero, List.set_cons_succ, qg, qh]
            rfl
          refine qj (i := 12) (N := some 45) (v := ?_) (a' := ?_) #[true, true, true, true, true, true, true, true, true, true, true, true, true, false] rfl rfl (by kernel_rfl) (fun _ _ _ h => h) (Or.inl ⟨by rfl, ?_⟩) ?_ ?_
          rotate_left
          · intro w'
            go_simp
            with_reducible rfl
          rotate_left
          · simp only [Act.put, List.setIfInBounds_toArray, List.set_cons_zero, List.set_cons_succ, qg, qh]
            rfl
          refine qj (i := 13) (N := some 5) (v := ?_) (a' := ?_) #[true, true, true, true, true, true, true, true, true, true, true, true, true, true] rfl rfl (by kernel_rfl) (fun _ _ _ h => h) (Or.inl ⟨by rfl, ?_⟩) ?_ ?_
          rotate_left
          · intro w'
            go_simp
            with_reducible rfl
          rotate_left
          · simp only [Act.put, List.setIfInBounds_toArray, List.set_cons_zero, List.set_cons_succ, qg, qh]
            rfl
          refine jM (by kernel_rfl) ?_
          rw [hb5]
          generalize 4 * wd + 2 * ((i : Int) - wd) = b at IB ⊢
          clear hb5
          obtain ⟨w6, hW6, S6, P7, P8⟩ : ∃ w6, w6 = wr.drew ∧ qa (St w0 w1 w6 g (rdr gF kd u m a d gp (.slice A7 xs.length c7) (.slice A8 ys.length c8) zw f wd)) ∧ qa (Kd.R (Kd.int .i64) 3 w6 w1.heap.size (fun k => some k ≠ (.slice A8 ys.length c8 : Value).ownBlock) (.slice A7 xs.length c7) xs) ∧ qa (Kd.R (Kd.int .i64) 3 w6 w1.heap.size (fun k => some k ≠ (.slice A7 xs.length c7 : Value).ownBlock) (.slice A8 ys.length c8) ys) := ⟨_, rfl, D5, Q7, Q8⟩
          rw [← hW6]
          clear hW6
          have y6 : w6.cell? ⟨g, 11, none⟩ = some (.int .i64 wd) := (qb S6.out.bk 11).trans rfl
          have z7 : w6.cell? ⟨g, 7, none⟩ = some (.slice A7 xs.length c7) := (qb S6.out.bk 7).trans rfl
          go_upto_region 9 with fail
          go_upto_region 10 with ((with_reducible refine qG (b := .append) (xs := #[.tmp 64, .tmp 66]) rfl ?_); at_builtin; refine Kd.zM (Kd.int .i64) (w0 := w6) w1.heap.size rfl (.tmp 64) (.tmp 66) 35 3 (.int .i64 0) 8 rfl Try.underlying35 info3 rfl (by decide) (by omega) (.slice A7 xs.length c7) xs q [.int .i64 q] (fun k_ => some k_ ≠ (.slice A8 ys.length c8 : Value).ownBlock) (fun _ => False) rfl rfl ?aP (fun _ hk => hk.elim) ?aF ?aO ?aB ?aS ?aL ?_; (case aP => exact rfl); (case aB => exact Below.refl _ _); (case aF => exact (fun k_ hk => Kd.fresh' (Kd.za P8.out) k_ hk)); (case aO => exact P7.out); (case aS => exact S6.out.gr.size); (case aL => have := E7.out; omega); intro v9 w9 k1 kb hg hat; have S9 := qa.mk (S6.out.grown hg (fun k hk => Kd.qZ P7.out k hk) GL1.out); have T8 := qa.mk (Kd.zb (ok := fun _ => True) (Kd.qH P8.out (fun _ hk => ⟨trivial, hk⟩)) hg hat); obtain ⟨A9, c9, e9⟩ := Kd.qN k1; rw [List.length_append, List.length_singleton] at e9; subst e9; have T7 := qa.mk k1; have q7 := qb S9.out.bk 7; have qf := qd S9.out.bk 7; clear k1 kb hg hat)
          obtain ⟨X, w10, hX, hW, y8, SX, X7, X8⟩ : ∃ (X : World) (w10 : World), X = w9.setCell ⟨g, 7, none⟩ (.slice A9 (xs.length + 1) c9) ∧ w10 = X.drew ∧ X.cell? ⟨g, 8, none⟩ = some (.slice A8 ys.length c8) ∧ qa (St w0 w1 w10 g (rdr gF kd u m a d gp (.slice A9 (xs.length + 1) c9) (.slice A8 ys.length c8) zw f wd)) ∧ qa (Kd.R (Kd.int .i64) 3 w10 w1.heap.size (fun k => some k ≠ (.slice A8 ys.length c8 : Value).ownBlock) (.slice A9 (xs.length + 1) c9) (xs ++ [q])) ∧ qa (Kd.R (Kd.int .i64) 3 w10 w1.heap.size (fun k => some k ≠ (.slice A9 (xs.length + 1) c9 : Value).ownBlock) (.slice A8 ys.length c8) ys) := by
            have z := S9.out.set (cs' := rdr gF kd u m a d gp (.slice A9 (xs.length + 1) c9) (.slice A8 ys.length c8) zw f wd) 7 (.slice A9 (xs.length + 1) c9) rfl
            exact ⟨_, _, rfl, rfl, (qb z.bk 8).trans rfl, ⟨z.step (zm (Below.refl _ _))⟩, ⟨Kd.qw (zU T7.out GL1.out)⟩, ⟨Kd.qw (zU (Kd.qH T8.out (fun _ hk => hk.2)) GL1.out)⟩⟩
          rw [← hX]
          clear hX q7 qf S9 T7 T8 z7 S6 P7 P8
          refine jf (n := 15) (S := fun w' => w'.cell? ⟨g, 8, none⟩ = some (.slice A8 ys.length c8)) (ds := [10, 14]) #[false, false, false, false, false, false, false, false, false, false, false, false, false, false, false] (by kernel_rfl) rfl rfl (y8) (fun hHeld => ?_)
          rw [← hW] at hHeld ⊢
          refine qj (i := 0) (N := some 71) (v := ?_) (a' := ?_) #[true, false, false, false, false, false, false, false, false, false, false, false, false, false, false] rfl rfl (by kernel_rfl) (fun _ _ _ h => h) (Or.inl ⟨by rfl, ?_⟩) ?_ ?_
          rotate_left
          · intro w'
            go_simp
            with_reducible rfl
          rotate_left
          · simp only [Act.put, List.setIfInBounds_toArray, List.set_cons_zero, List.set_cons_succ, qg, qh]
            rfl
          refine qj (i := 1) (N := some 72) (v := ?_) (a' := ?_) #[true, true, false, false, false, false, false, false, false, false, false, false, false, false, false] rfl rfl (by kernel_rfl) (fun _ _ _ h => h) (Or.inl ⟨by rfl, ?_⟩) ?_ ?_
          rotate_left
          · intro w'
            go_simp
            with_reducible rfl
          rotate_left
          · simp only [Act.put, List.setIfInBounds_toArray, List.set_cons_zero, List.set_cons_succ, qg, qh]
            rfl
          refine qj (i := 2) (N := some 73) (v := ?_) (a' := ?_) #[true, true, true, false, false, false, false, false, false, false, false, false, false, false, false] rfl rfl (by kernel_rfl) (fun _ _ _ h => h) (Or.inl ⟨by rfl, ?_⟩) ?_ ?_
          rotate_left
          · intro w'
            go_simp
            with_reducible rfl
          rotate_left
          · simp only [Act.put, List.setIfInBounds_toArray, List.set_cons_zero, List.set_cons_succ, qg, qh]
            rfl
          refine qj (i := 3) (N := some 74) (v := ?_) (a' := ?_) #[true, true, true, true, false, false, false, false, false, false, false, false, false, false, false] rfl rfl (by kernel_rfl) (fun _ _ _ h => h) (Or.inl ⟨by rfl, ?_⟩) ?_ ?_
          rotate_left
          · intro w'
            go_simp
            with_reducible rfl
          rotate_left
          · simp only [Act.put, List.setIfInBounds_toArray, List.set_cons_zero, List.set_cons_succ, qg, qh]
            rfl
          refine qj (i := 4) (N := some 75) (v := ?_) (a' := ?_) #[true, true, true, true, true, false, false, false, false, false, false, false, false, false, false] rfl rfl (by kernel_rfl) (fun _ _ _ h => h) (Or.inl ⟨by rfl, ?_⟩) ?_ ?_
          rotate_left
          · intro w'
            go_simp
            with_reducible rfl
          rotate_left
          · simp only [Act.put, List.setIfInBounds_toArray, List.set_cons_zero, List.set_cons_succ, qg, qh]
            rfl
          refine qj (i := 6) (N := some 77) (v := ?_) (a' := ?_) #[true, true, true, true, true, false, true, false, false, false, false, false, false, false, false] rfl rfl (by kernel_rfl) (fun _ _ _ h => h) (Or.inl ⟨by rfl, ?_⟩) ?_ ?_
          rotate_left
          · intro w'
            go_simp
            with_reducible rfl
          rotate_left
          · simp only [Act.put, List.setIfInBounds_toArray, List.set_cons_zero, List.set_cons_succ, qg, qh]
            rfl
          refine qj (i := 7) (N := some 78) (v := ?_) (a' := ?_) #[true, true, true, true, true, false, true, true, false, false, false, false, false, false, false] rfl rfl (by kernel_rfl) (fun _ _ _ h => h) (Or.inl ⟨by rfl, ?_⟩) ?_ ?_
          rotate_left
          · intro w'
            go_simp
            with_reducible rfl
          rotate_left
          · simp only [Act.put, List.setIfInBounds_toArray, List.set_cons_zero, List.set_cons_succ, qg, qh]
            rfl
          refine zq (i := 5) (N := some 76) (v := ?_) (a' := ?_) #[true, true, true, true, true, true, true, true, false, false, false, false, false, false, false] rfl rfl (by kernel_rfl) (fun _ _ _ h => h) (Or.inl ⟨by rfl, ?_⟩) hHeld ?_ ?_
          rotate_left
          · intro w' s0
            go_simp
            with_reducible rfl
          rotate_left
          · simp only [Act.put, List.setIfInBounds_toArray, List.set_cons_zero, List.set_cons_succ, qg, qh]
            rfl
          refine QK (i := 8) (N := some 79) #[true, true, true, true, true, true, true, true, true, false, false, false, false, false, false] rfl rfl (by kernel_rfl) (by decide) (fun K hK => ?_)
          refine Qk Try.func66 (by kernel_rfl) rfl #[.pointer (some ⟨g', 0, none⟩), .int .i64 b] (by rfl) rfl rfl (by simp only [List.map_toArray, List.map_cons, List.map_nil]; rfl) ?_
          with_reducible refine ((IB.out g' w10 (VR.out _ _ SX.out))).mono ?_
          rintro e w8 ⟨rfl, k1⟩
          refine ⟨_, rfl, ?_⟩
          have S8 := qa.mk (SX.out.step k1)
          have M7 := qa.mk (Kd.qM X7.out k1)
          have M8 := qa.mk (Kd.qM X8.out k1)
          clear k1
          refine hK.out _ _ ((qb S8.out.bk 8).trans rfl) (fun hHeld => ?_)
          clear hK K
          refine zO (a' := ?_) ?_ ?_
          rotate_left
          · show Act.put _ (some 79) _ = _
            simp only [Act.put, List.setIfInBounds_toArray, List.set_cons_zero, List.set_cons_succ, qg, qh]
            rfl
          refine QK (i := 9) (N := some 80) #[true, true, true, true, true, true, true, true, true, true, false, false, false, false, false] rfl rfl (by kernel_rfl) (by decide) (fun K hK => ?_)
          refine QD (w1 := ?_) (v := ?_) (by rfl) rfl ?_ ?_
          rotate_left 2
          · go_simp
            constructor
            · rfl
            · rfl
          refine hK.out _ _ ((World.cell?_alloc_lt _ _ _ (World.block_lt_of_cell? _ _ hHeld)).trans hHeld) (fun hHeld => ?_)
          clear hK K
          refine zO (a' := ?_) ?_ ?_
          rotate_left
          · show Act.put _ (some 80) _ = _
            simp only [Act.put, List.setIfInBounds_toArray, List.set_cons_zero, List.set_cons_succ, qg, qh]
            rfl
          refine zS (i := 10) (N := some 81) #[true, true, true, true, true, true, true, true, true, true, true, false, false, false, false] rfl rfl (by kernel_rfl) (by decide) (fun K hK => ?_)
          refine Kd.jO (Kd.int .i64) (w0 := w8) w1.heap.size (by rfl) (.tmp 76) (.tmp 80) 35 3 (.int .i64 0) 8 rfl Try.underlying35 info3 rfl (by decide) (by omega) (.slice A8 ys.length c8) ys s [.int .i64 s] (fun k_ => some k_ ≠ (.slice A9 (xs.length + 1) c9 : Value).ownBlock) (fun _ => False) (by first | rfl | (go_simp; done) | (go_simp; rfl)) rfl ?aP (fun _ hk => hk.elim) ?aF ?aO ?aB ?aS ?aL ?_
          (case aP => exact rfl)
          (case aF => exact fun k_ hk => Kd.fresh' (Kd.za M7.out) k_ hk)
          (case aO => exact M8.out)
          (case aB => exact Below.refl _ _)
          (case aS => exact S8.out.gr.size)
          (case aL => have := E8.out; omega)
          intro v11 w11 k1 kb hg hat
          have S11 := qa.mk (S8.out.grown hg (fun k hk => Kd.qZ M8.out k hk) GL1.out)
          have M11 := qa.mk (Kd.zb (ok := fun _ => True) (Kd.qH M7.out (fun _ hk => ⟨trivial, hk⟩)) hg hat)
          obtain ⟨A11, c11, e11⟩ := Kd.qN k1
          rw [List.length_append, List.length_singleton] at e11
          subst e11
          have N11 := qa.mk k1
          have q8 := qb S11.out.bk 8
          have qf8 := qd S11.out.bk 8
          clear k1 kb hg hat
          refine hK.out _ _ ?_
          clear hK K
          refine zO (a' := ?_) ?_ ?_
          rotate_left
          · show Act.put _ (some 81) _ = _
            simp only [Act.put, List.setIfInBounds_toArray, List.set_cons_zero, List.set_cons_succ, qg, qh]
            rfl
          refine qj (i := 11) (N := some 82) (v := ?_) (a' := ?_) #[true, true, true, true, true, true, true, true, true, true, true, true, false, false, false] rfl rfl (by kernel_rfl) (fun _ _ _ h => h) (Or.inl ⟨by rfl, ?_⟩) ?_ ?_
          rotate_left
          · intro w'
            go_simp
            with_reducible rfl
          rotate_left
          · simp only [Act.put, List.setIfInBounds_toArray, List.set_cons_zero, List.set_cons_succ, qg, qh]
            rfl
          refine qj (i := 12) (N := some 83) (v := ?_) (a' := ?_) #[true, true, true, true, true, true, true, true, true, true, true, true, true, false, false] rfl rfl (by kernel_rfl) (fun _ _ _ h => h) (Or.inl ⟨by rfl, ?_⟩) ?_ ?_
          rotate_left
          · intro w'
            go_simp
            with_reducible rfl
          rotate_left
          · simp only [Act.put, List.setIfInBounds_toArray, List.set_cons_zero, List.set_cons_succ, qg, qh]
            rfl
          refine qj (i := 13) (N := some 84) (v := ?_) (a' := ?_) #[true, true, true, true, true, true, true, true, true, true, true, true, true, true, false] rfl rfl (by kernel_rfl) (fun _ _ _ h => h) (Or.inl ⟨by rfl, ?_⟩) ?_ ?_
          rotate_left
          · intro w'
            go_simp
            with_reducible rfl
          rotate_left
          · simp only [Act.put, List.setIfInBounds_toArray, List.set_cons_zero, List.set_cons_succ, qg, qh]
            rfl
          refine zS (i := 14) (N := none) #[true, true, true, true, true, true, true, true, true, true, true, true, true, true, true] rfl rfl (by kernel_rfl) (by decide) (fun K hK => ?_)
          refine Zg (w1 := ?_) (by rfl) rfl ?_ ?_
          rotate_left
          · go_simp
            rfl
          refine hK.out _ _ ?_
          clear hK K
          refine jM (by kernel_rfl) ?_
          go_wp2
          refine ⟨⟨i + 1, A9, A11, c9, c11, ?_, by push_cast; rfl, by omega, ⟨?_⟩, ⟨?_⟩, ⟨?_⟩⟩, ?_⟩
          · rw [HLn.out]
          · rw [n7.out, n8.out, List.length_append, List.length_append]
            exact S11.out.set 8 _ rfl
          · rw [n7.out, n8.out, List.length_append, List.length_append]
            exact zU (Kd.qH M11.out (fun _ hk => hk.2)) GL1.out
          · rw [n7.out, n8.out, List.length_append, List.length_append]
            exact zU N11.out GL1.out
          · show (_ : Nat) < _
            simp only [intOf]
            omega
      · have il := eq_false (show ¬ (i : Int) < (m : Int) by omega)
        have il2 := eq_false ilt
        obtain rfl : i = m := by omega
        go_wp2
        go_end0
        have e7 := QA L wd i
        have e8 := Qo L wd i
        obtain ⟨xs, hxs⟩ : ∃ q, jN L wd i = q := ⟨_, rfl⟩
        obtain ⟨ys, hys⟩ : ∃ q, jm L wd i = q := ⟨_, rfl⟩
        rw [hxs] at e7 HS R7 R8
        rw [hys] at e8 HS R7 R8
        refine ⟨HS.out.be, S1.out.gr.trans HS.out.gr, Or.inr ⟨L, rfl, rfl, A7, c7, A8, c8, ?_, ?_, ?_⟩⟩
        · have z := S1.out.trans HS.out
          rw [e7, e8] at z
          exact z
        · have z := Kd.zI R7.out S1.out.gr.size
          rw [e7, e8] at z
          rw [hxs]
          exact z
        · have z := Kd.zI R8.out S1.out.gr.size
          rw [e7, e8] at z
          rw [hys]
          exact z
end Go.Proofs.Ytonljpciadeafaa.S
set_option linter.unusedVariables false
set_option linter.unusedSimpArgs false
namespace Go.Proofs.Ytonljpciadeafaa.S
open Go Go.RowKit Go.Proofs.YtonljpciadeafaaW.PrintWords Go.Proofs.YtonljpciadeafaaW.PrintLast Go.Proofs.YtonljpciadeafaaW.PrintMore
def Zl (L : List Int) (f : Int) (i : Nat) : Int := if f = 1 then (qI L (4 * (i : Int)) 4).1 else 2 * (qI L (2 * (i : Int)) 2).1
def plV (L : List Int) (f en : Int) : Nat → Nat → Int → List Int → Option (List Int)
  | 0, _, _, acc => some acc
  | k + 1, i, last, acc => if Zl L f i < last then none else if en < Zl L f i then none else plV L f en k (i + 1) (Zl L f i) (acc ++ [Zl L f i])
def Zk (kd f : Int) (m : Nat) (TC TL TG : Option (List Int)) : Option (List Int) :=
  if kd = 2 then (match TC with | none => none | some _ => some [])
  else match TL with | none => none | some L => (match TG with | none => none | some G => plV L f (G.length : Int) (m + 1) 0 0 [])
def OuP (R : Option (List Int)) (gF : Nat) (kd u : Int) (m : Nat) (a d gp f wd : Int) (v7 v8 : Value) (g : Nat) (w0 w : World) (e : Ending) (w' : World) : Prop :=
  Below w0.heap.size w0 w' ∧ w.grownBy w' (some g) ∧ (R = none ∧ e = thr 41 ∨ ∃ ps A9 c9, R = some ps ∧ e = .returned (.tuple #[]) ∧
    St w0 w w' g (rdr gF kd u m a d gp v7 v8 (.slice A9 ps.length c9) f wd) ∧ Kd.R (Kd.int .i64) 3 w' w.heap.size (fun _ => True) (.slice A9 ps.length c9) ps)
theorem OuP.bad {R : Option (List Int)} {gF : Nat} {kd u : Int} {m : Nat} {a d gp f wd : Int} {v7 v8 : Value} {g : Nat} {w0 w w' : World} {cs : Array Value} (h : St w0 w w' g cs) (e : R = none) : OuP R gF kd u m a d gp f wd v7 v8 g w0 w (thr 41) w' := ⟨h.be, h.gr, Or.inl ⟨e, rfl⟩⟩
set_option maxRecDepth 100000 in
set_option maxHeartbeats 3000000 in
theorem qag (bs : List Int) (ho : okB bs) (g gF : Nat) (kd u a d gp f wd : Int) (A7 A8 : Option Addr) (n7 c7 n8 c8 m : Nat) (rows : List S71) (w0 w : World) (hF : Fn w0 gF kd rows bs)
    (hs : St w0 w w g (rdr gF kd u m a d gp (.slice A7 n7 c7) (.slice A8 n8 c8) zw f wd)) (hf : f = 0 ∨ f = 1) (h3 : m ≤ 4096) (TC TL TG : Option (List Int)) (hC : zl bs ⟨#[67, 70, 70, 32]⟩ 0 rows = TC) (hL : zl bs ⟨#[108, 111, 99, 97]⟩ ((2 + 2 * f) * ((m : Int) + 1)) rows = TL) (hG : zl bs ⟨#[103, 108, 121, 102]⟩ 0 rows = TG) :
    Calls Try.prog 47 #[.pointer (some ⟨g, 0, none⟩)] w (OuP (Zk kd f m TC TL TG) gF kd u m a d gp f wd (.slice A7 n7 c7) (.slice A8 n8 c8) g w0 w) := by
  have S := qa.mk hs
  have HF := qa.mk hF
  have HP := qa.mk (fun (tag : ByteArray) (n : Int) (w2 : World) (cs : Array Value) (h : St w0 w w2 g cs) (h0 : cs[0]? = some (.pointer (some ⟨gF, 0, none⟩))) => QS bs g gF kd rows tag n w2 (hF.below h.be) ((qb h.bk 0).trans h0))
  have y1 : w.cell? ⟨g, 1, none⟩ = some (.int .i64 kd) := (qb hs.bk 1).trans rfl
  have y3 : w.cell? ⟨g, 3, none⟩ = some (.int .i64 (m : Int)) := (qb hs.bk 3).trans rfl
  have y10 : w.cell? ⟨g, 10, none⟩ = some (.int .i64 f) := (qb hs.bk 10).trans rfl
  obtain ⟨R, hR⟩ : ∃ R, Zk kd f m TC TL TG = R := ⟨_, rfl⟩
  rw [hR]
  unfold Zk at hR
  by_cases ck : kd = 2
  · rw [if_pos ck] at hR
    have HR := qa.mk hR
    have PC := qa.mk (HP.out ⟨#[67, 70, 70, 32]⟩ 0 w _ hs rfl)
    rw [hC] at PC
    clear hR hs hF ho hC hL hG HP hf
    subst ck
    cases TC with
    | none =>
      go_enter Try.func47, Try.ntmps47
      go_wp2_with (go_at_call 63; refine PC.out.mono ?_; rintro e w1 ⟨k1, rfl⟩; have S1 := qa.mk (S.out.step k1); clear k1)
      exact ⟨rfl, OuP.bad S1.out HR.out.symm⟩
    | some L =>
      go_enter Try.func47, Try.ntmps47
      go_wp2_with (go_at_call 63; refine PC.out.mono ?_; rintro e w1 ⟨k1, g', k2, rfl, k3⟩; have S1 := qa.mk (S.out.step k1); clear k1 k2 k3)
      go_end0
      exact ⟨S1.out.be, S1.out.gr, Or.inr ⟨[], none, 0, HR.out.symm, rfl, S1.out, Kd.jE _ _ _ _ _⟩⟩
  rw [if_neg ck] at hR
  have ckb : (kd == 2) = false := beq_eq_false_iff_ne.mpr ck
  clear ck hC
  have okL := fun L (e : TL = some L) => (QE ho (hL.trans e)).1
  have PG := qa.mk (fun (w2 : World) (cs : Array Value) (h : St w0 w w2 g cs) (h0 : cs[0]? = some (.pointer (some ⟨gF, 0, none⟩))) => HP.out ⟨#[103, 108, 121, 102]⟩ 0 w2 cs h h0)
  rw [hG] at PG
  clear hG ho hF
  rcases hf with rfl | rfl
  · have PL := qa.mk (HP.out ⟨#[108, 111, 99, 97]⟩ ((2 + 2 * 0) * ((m : Int) + 1)) w _ hs rfl)
    rw [hL] at PL
    rw [show (2 + 2 * 0) * ((m : Int) + 1) = 2 * ((m : Int) + 1) from rfl] at PL
    clear hL hs HP
    cases TL with
    | none =>
      have HR := qa.mk hR
      clear hR okL
      go_enter Try.func47, Try.ntmps47
      go_wp2_with (go_at_call 63; refine PL.out.mono ?_; rintro e w1 ⟨k1, rfl⟩; have S1 := qa.mk (S.out.step k1); clear k1)
      exact ⟨rfl, OuP.bad S1.out HR.out.symm⟩
    | some L =>
      have ok := okL L rfl
      cases TG with
      | none =>
        have HR := qa.mk hR
        clear hR okL
        go_enter Try.func47, Try.ntmps47
        go_wp2_with (first | (go_at_call 63; refine (PG.out w1 _ S1.out rfl).mono ?_; rintro e w2 ⟨k1, rfl⟩; have S2 := qa.mk (S1.out.step k1); clear k1) | (go_at_call 63; refine PL.out.mono ?_; rintro e w1 ⟨k1, g', k2, rfl, k3⟩; have S1 := qa.mk (S.out.step k1); clear k1 k2 k3))
        exact ⟨rfl, OuP.bad S2.out HR.out.symm⟩
      | some G =>
        dsimp only at hR
        have HR := qa.mk hR
        have U := qa.mk (fun (g' : Nat) (p : Int) (w : World) (hv : Vw w g' L) => QJ L g' p w hv ok)
        have U4 := qa.mk (fun (g' : Nat) (p : Int) (w : World) (hv : Vw w g' L) => Qu L g' p w hv ok)
        have NB := qa.mk (fun p => jX L ok p 2 (by decide))
        clear hR okL ok
        go_enter Try.func47, Try.ntmps47
        go_wp2_with (first | (go_at_call 63; refine (PG.out w1 _ S1.out rfl).mono ?_; rintro e w2 ⟨k1, g2, k2, rfl, k3⟩; have S2 := qa.mk (S1.out.step k1); have V2 := qa.mk (V1.out.below k1); have G2 := qa.mk k3; clear k1 k2 k3) | (go_at_call 63; refine PL.out.mono ?_; rintro e w1 ⟨k1, g', k2, rfl, k3⟩; have S1 := qa.mk (S.out.step k1); have V1 := qa.mk k3; clear k1 k2 k3) | (go_at_call 67; refine (ZC G g2 _ G2.out).mono ?_; rintro e w3 ⟨rfl, k1⟩; have S3 := qa.mk (S2.out.step k1); have V3 := qa.mk (V2.out.below k1); have z3 : w3.cell? ⟨g, 3, none⟩ = some (.int .i64 (m : Int)) := (qb S3.out.bk 3).trans rfl; clear k1))
        obtain ⟨en, hen⟩ : ∃ en, (G.length : Int) = en := ⟨_, rfl⟩
        rw [hen] at HR ⊢
        clear hen
        have H3 := qa.mk S3.out.here
        have N3 := qa.mk (JG gF kd u m a d gp A7 A8 none n7 c7 n8 c8 0 0 0 wd)
        have GL := qa.mk (qz S3.out.bk)
        have VR := qa.mk (fun (w2 : World) (cs : Array Value) (h : St w0 w3 w2 g cs) => V3.out.but S3.out.bk N3.out h.gr)
        go_loopw [5, 41] (fun v5 v41 wr => ∃ (i : Nat) (last : Int) (acc : List Int) (A9 : Option Addr) (c9 : Nat), v5 = .int .i64 last ∧ v41 = .int .i64 i ∧ i ≤ m + 1 ∧ qa (plV L 0 en (m + 1 - i) i last acc = R) ∧ qa (acc.length = i) ∧ qa (St w0 w3 wr g (rdr gF kd u m a d gp (.slice A7 n7 c7) (.slice A8 n8 c8) (.slice A9 acc.length c9) 0 wd)) ∧ qa (Kd.R (Kd.int .i64) 3 wr w3.heap.size (fun _ => True) (.slice A9 acc.length c9) acc)) (fun _ v41 _ => m + 1 - (intOf v41).toNat)
        case atStart => exact ⟨0, 0, [], none, 0, rfl, rfl, Nat.zero_le _, HR, ⟨rfl⟩, H3, ⟨Kd.jE _ _ _ _ _⟩⟩
        case round =>
          obtain ⟨i, last, acc, A9, c9, rfl, rfl, hi, HQ, HL, HS, R9⟩ := hrel
          by_cases ilt : i < m + 1
          · have il := eq_true (show (i : Int) < (m : Int) + 1 by omega)
            have ilb : decide ((i : Int) < (m : Int) + 1) = true := decide_eq_true (by omega)
            have il2 := eq_true ilt
            have im : (i : Int) < 4097 := by omega
            have hq := HQ.out
            rw [show m + 1 - i = (m + 1 - (i + 1)) + 1 by omega, plV] at hq
            have nb : 0 ≤ (qI L (2 * (i : Int)) 2).1 ∧ (qI L (2 * (i : Int)) 2).1 < 256 ^ 2 := NB.out (2 * (i : Int))
            have nb : 0 ≤ (qI L (2 * (i : Int)) 2).1 ∧ (qI L (2 * (i : Int)) 2).1 < 65536 := nb
            have UQ := qa.mk (fun (g' : Nat) (w : World) (hv : Vw w g' L) => U.out g' (2 * (i : Int)) w hv)
            obtain ⟨p, hp⟩ : ∃ p, (qI L (2 * (i : Int)) 2).1 = p := ⟨_, rfl⟩
            have hpl : Zl L 0 i = 2 * p := by unfold Zl; rw [if_neg (by decide), hp]
            rw [hp] at nb UQ
            obtain ⟨q, hq2⟩ : ∃ q, 2 * p = q := ⟨_, rfl⟩
            rw [hq2] at hpl
            rw [hpl] at hq
            have HQ2 := qa.mk hq
            clear hq hp hpl HQ
            have y10r : wr.cell? ⟨g, 10, none⟩ = some (.int .i64 0) := (qb HS.out.bk 10).trans rfl
            go_upto_region 12 with (go_at_call 65; refine (UQ.out g' _ (VR.out _ _ HS.out)).mono ?_; rintro e w6 ⟨rfl, k1⟩; have S6 := qa.mk (HS.out.step k1); have P9 := qa.mk (Kd.qM R9.out k1); have z10 : w6.cell? ⟨g, 10, none⟩ = some (.int .i64 0) := (qb S6.out.bk 10).trans rfl; clear k1)
            have HB9 := qa.mk (S3.out.trans S6.out)
            by_cases c1 : q < last
            · have e := HQ2.out
              rw [if_pos c1] at e
              have E := qa.mk e
              have c1b : decide (last ≤ q) = false := decide_eq_false (by omega)
              have c1c := eq_false (show ¬ last ≤ q by omega)
              clear e c1 HQ2
              go_wp2_with (go_at_call 64; refine (jJ _ _).mono ?_; rintro e w7 ⟨rfl, rfl⟩)
              exact ⟨rfl, OuP.bad HB9.out E.out.symm⟩
            have c1b : decide (last ≤ q) = true := decide_eq_true (by omega)
            have c1c := eq_true (show last ≤ q by omega)
            by_cases c2 : en < q
            · have e := HQ2.out
              rw [if_neg c1, if_pos c2] at e
              have E := qa.mk e
              have c2b : decide (q ≤ en) = false := decide_eq_false (by omega)
              have c2c := eq_false (show ¬ q ≤ en by omega)
              clear e c1 c2 HQ2
              go_wp2_with (go_at_call 64; refine (jJ _ _).mono ?_; rintro e w7 ⟨rfl, rfl⟩)
              exact ⟨rfl, OuP.bad HB9.out E.out.symm⟩
            have c2b : decide (q ≤ en) = true := decide_eq_true (by omega)
            have c2c := eq_true (show q ≤ en by omega)
            have e := HQ2.out
            rw [if_neg c1, if_neg c2] at e
            have E := qa.mk e
            clear e c1 c2 HQ2 HB9
            go_upto_region 14 with (go_at_call 64; refine (Qt _ _).mono ?_; rintro e w7 ⟨rfl, rfl⟩)
            have z9 := qb S6.out.bk 9
            go_wp2_with ((with_reducible refine qG (b := .append) (xs := #[.tmp 76, .tmp 78]) rfl ?_); at_builtin; refine Kd.zM (Kd.int .i64) (w0 := w7) w3.heap.size rfl (.tmp 76) (.tmp 78) 35 3 (.int .i64 0) 8 rfl Try.underlying35 info3 rfl (by decide) (by omega) (.slice A9 acc.length c9) acc q [.int .i64 q] (fun _ => True) (fun _ => False) rfl rfl ?aP (fun _ hk => hk.elim) ?aF ?aO ?aB ?aS ?aL ?_; (case aP => exact rfl); (case aB => exact Below.refl _ _); (case aF => exact (fun _ _ => trivial)); (case aO => exact P9.out); (case aS => exact S6.out.gr.size); (case aL => have := HL.out; omega); intro v9 w9 k1 kb hg hat; have S9 := qa.mk (S6.out.grown hg (fun k hk => Kd.qZ P9.out k hk) GL.out); obtain ⟨Ax, cx, e9⟩ := Kd.qN k1; rw [List.length_append, List.length_singleton] at e9; subst e9; have T9 := qa.mk k1; have q9 := qb S9.out.bk 9; have qf := qd S9.out.bk 9; clear k1 kb hg hat)
            refine ⟨⟨i + 1, q, acc ++ [q], Ax, cx, rfl, by push_cast; rfl, by omega, ⟨E.out⟩, ⟨by rw [List.length_append, HL.out]; rfl⟩, ⟨?_⟩, ⟨?_⟩⟩, ?_⟩
            · rw [List.length_append]
              exact S9.out.set 9 _ rfl
            · rw [List.length_append]
              exact zU T9.out GL.out
            · show (_ : Nat) < _
              simp only [intOf]
              omega
          · have il := eq_false (show ¬ (i : Int) < (m : Int) + 1 by omega)
            have ilb : decide ((i : Int) < (m : Int) + 1) = false := decide_eq_false (by omega)
            have il2 := eq_false ilt
            obtain rfl : i = m + 1 := by omega
            have e := HQ.out
            rw [Nat.sub_self, plV] at e
            have E := qa.mk e
            clear e HQ
            go_wp2
            go_end0
            have z := S3.out.trans HS.out
            exact ⟨z.be, z.gr, Or.inr ⟨acc, A9, c9, E.out.symm, rfl, z, Kd.zI R9.out S3.out.gr.size⟩⟩
  · have PL := qa.mk (HP.out ⟨#[108, 111, 99, 97]⟩ ((2 + 2 * 1) * ((m : Int) + 1)) w _ hs rfl)
    rw [hL] at PL
    rw [show (2 + 2 * 1) * ((m : Int) + 1) = 4 * ((m : Int) + 1) from rfl] at PL
    clear hL hs HP
    cases TL with
    | none =>
      have HR := qa.mk hR
      clear hR okL
      go_enter Try.func47, Try.ntmps47
      go_wp2_with (go_at_call 63; refine PL.out.mono ?_; rintro e w1 ⟨k1, rfl⟩; have S1 := qa.mk (S.out.step k1); clear k1)
      exact ⟨rfl, OuP.bad S1.out HR.out.symm⟩
    | some L =>
      have ok := okL L rfl
      cases TG with
      | none =>
        have HR := qa.mk hR
        clear hR okL
        go_enter Try.func47, Try.ntmps47
        go_wp2_with (first | (go_at_call 63; refine (PG.out w1 _ S1.out rfl).mono ?_; rintro e w2 ⟨k1, rfl⟩; have S2 := qa.mk (S1.out.step k1); clear k1) | (go_at_call 63; refine PL.out.mono ?_; rintro e w1 ⟨k1, g', k2, rfl, k3⟩; have S1 := qa.mk (S.out.step k1); clear k1 k2 k3))
        exact ⟨rfl, OuP.bad S2.out HR.out.symm⟩
      | some G =>
        dsimp only at hR
        have HR := qa.mk hR
        have U := qa.mk (fun (g' : Nat) (p : Int) (w : World) (hv : Vw w g' L) => QJ L g' p w hv ok)
        have U4 := qa.mk (fun (g' : Nat) (p : Int) (w : World) (hv : Vw w g' L) => Qu L g' p w hv ok)
        have NB := qa.mk (fun p => jX L ok p 2 (by decide))
        clear hR okL ok
        go_enter Try.func47, Try.ntmps47
        go_wp2_with (first | (go_at_call 63; refine (PG.out w1 _ S1.out rfl).mono ?_; rintro e w2 ⟨k1, g2, k2, rfl, k3⟩; have S2 := qa.mk (S1.out.step k1); have V2 := qa.mk (V1.out.below k1); have G2 := qa.mk k3; clear k1 k2 k3) | (go_at_call 63; refine PL.out.mono ?_; rintro e w1 ⟨k1, g', k2, rfl, k3⟩; have S1 := qa.mk (S.out.step k1); have V1 := qa.mk k3; clear k1 k2 k3) | (go_at_call 67; refine (ZC G g2 _ G2.out).mono ?_; rintro e w3 ⟨rfl, k1⟩; have S3 := qa.mk (S2.out.step k1); have V3 := qa.mk (V2.out.below k1); have z3 : w3.cell? ⟨g, 3, none⟩ = some (.int .i64 (m : Int)) := (qb S3.out.bk 3).trans rfl; clear k1))
        obtain ⟨en, hen⟩ : ∃ en, (G.length : Int) = en := ⟨_, rfl⟩
        rw [hen] at HR ⊢
        clear hen
        have H3 := qa.mk S3.out.here
        have N3 := qa.mk (JG gF kd u m a d gp A7 A8 none n7 c7 n8 c8 0 0 1 wd)
        have GL := qa.mk (qz S3.out.bk)
        have VR := qa.mk (fun (w2 : World) (cs : Array Value) (h : St w0 w3 w2 g cs) => V3.out.but S3.out.bk N3.out h.gr)
        go_loopw [5, 41] (fun v5 v41 wr => ∃ (i : Nat) (last : Int) (acc : List Int) (A9 : Option Addr) (c9 : Nat), v5 = .int .i64 last ∧ v41 = .int .i64 i ∧ i ≤ m + 1 ∧ qa (plV L 1 en (m + 1 - i) i last acc = R) ∧ qa (acc.length = i) ∧ qa (St w0 w3 wr g (rdr gF kd u m a d gp (.slice A7 n7 c7) (.slice A8 n8 c8) (.slice A9 acc.length c9) 1 wd)) ∧ qa (Kd.R (Kd.int .i64) 3 wr w3.heap.size (fun _ => True) (.slice A9 acc.length c9) acc)) (fun _ v41 _ => m + 1 - (intOf v41).toNat)
        case atStart => exact ⟨0, 0, [], none, 0, rfl, rfl, Nat.zero_le _, HR, ⟨rfl⟩, H3, ⟨Kd.jE _ _ _ _ _⟩⟩
        case round =>
          obtain ⟨i, last, acc, A9, c9, rfl, rfl, hi, HQ, HL, HS, R9⟩ := hrel
          by_cases ilt : i < m + 1
          · have il := eq_true (show (i : Int) < (m : Int) + 1 by omega)
            have ilb : decide ((i : Int) < (m : Int) + 1) = true := decide_eq_true (by omega)
            have il2 := eq_true ilt
            have im : (i : Int) < 4097 := by omega
            have hq := HQ.out
            rw [show m + 1 - i = (m + 1 - (i + 1)) + 1 by omega, plV] at hq
            have nb : 0 ≤ (qI L (2 * (i : Int)) 2).1 ∧ (qI L (2 * (i : Int)) 2).1 < 256 ^ 2 := NB.out (2 * (i : Int))
            have nb : 0 ≤ (qI L (2 * (i : Int)) 2).1 ∧ (qI L (2 * (i : Int)) 2).1 < 65536 := nb
            have UQ := qa.mk (fun (g' : Nat) (w : World) (hv : Vw w g' L) => U.out g' (2 * (i : Int)) w hv)
            obtain ⟨p, hp⟩ : ∃ p, (qI L (2 * (i : Int)) 2).1 = p := ⟨_, rfl⟩
            rw [hp] at nb UQ
            have UF := qa.mk (fun (g' : Nat) (w : World) (hv : Vw w g' L) => U4.out g' (4 * (i : Int)) w hv)
            obtain ⟨q, e4, hq4⟩ : ∃ q e, qI L (4 * (i : Int)) 4 = (q, e) := ⟨_, _, rfl⟩
            have hpl : Zl L 1 i = q := by unfold Zl; rw [if_pos rfl, hq4]
            rw [hq4] at UF
            rw [hpl] at hq
            have HQ2 := qa.mk hq
            clear hq hp hpl HQ hq4
            have y10r : wr.cell? ⟨g, 10, none⟩ = some (.int .i64 1) := (qb HS.out.bk 10).trans rfl
            go_upto_region 12 with (first | (go_at_call 65; refine (UQ.out g' _ (VR.out _ _ HS.out)).mono ?_; rintro e w5 ⟨rfl, k1⟩; have S5 := qa.mk (HS.out.step k1); have P8 := qa.mk (Kd.qM R9.out k1); have z10 : w5.cell? ⟨g, 10, none⟩ = some (.int .i64 1) := (qb S5.out.bk 10).trans rfl; clear k1) | (go_at_call 57; refine (UF.out g' _ (VR.out _ _ S5.out)).mono ?_; rintro e w6 ⟨rfl, k1⟩; have S6 := qa.mk (S5.out.step k1); have P9 := qa.mk (Kd.qM P8.out k1); clear k1))
            have HB9 := qa.mk (S3.out.trans S6.out)
            by_cases c1 : q < last
            · have e := HQ2.out
              rw [if_pos c1] at e
              have E := qa.mk e
              have c1b : decide (last ≤ q) = false := decide_eq_false (by omega)
              have c1c := eq_false (show ¬ last ≤ q by omega)
              clear e c1 HQ2
              go_wp2_with (go_at_call 64; refine (jJ _ _).mono ?_; rintro e w7 ⟨rfl, rfl⟩)
              exact ⟨rfl, OuP.bad HB9.out E.out.symm⟩
            have c1b : decide (last ≤ q) = true := decide_eq_true (by omega)
            have c1c := eq_true (show last ≤ q by omega)
            by_cases c2 : en < q
            · have e := HQ2.out
              rw [if_neg c1, if_pos c2] at e
              have E := qa.mk e
              have c2b : decide (q ≤ en) = false := decide_eq_false (by omega)
              have c2c := eq_false (show ¬ q ≤ en by omega)
              clear e c1 c2 HQ2
              go_wp2_with (go_at_call 64; refine (jJ _ _).mono ?_; rintro e w7 ⟨rfl, rfl⟩)
              exact ⟨rfl, OuP.bad HB9.out E.out.symm⟩
            have c2b : decide (q ≤ en) = true := decide_eq_true (by omega)
            have c2c := eq_true (show q ≤ en by omega)
            have e := HQ2.out
            rw [if_neg c1, if_neg c2] at e
            have E := qa.mk e
            clear e c1 c2 HQ2 HB9
            go_upto_region 14 with (go_at_call 64; refine (Qt _ _).mono ?_; rintro e w7 ⟨rfl, rfl⟩)
            have z9 := qb S6.out.bk 9
            go_wp2_with ((with_reducible refine qG (b := .append) (xs := #[.tmp 76, .tmp 78]) rfl ?_); at_builtin; refine Kd.zM (Kd.int .i64) (w0 := w7) w3.heap.size rfl (.tmp 76) (.tmp 78) 35 3 (.int .i64 0) 8 rfl Try.underlying35 info3 rfl (by decide) (by omega) (.slice A9 acc.length c9) acc q [.int .i64 q] (fun _ => True) (fun _ => False) rfl rfl ?aP (fun _ hk => hk.elim) ?aF ?aO ?aB ?aS ?aL ?_; (case aP => exact rfl); (case aB => exact Below.refl _ _); (case aF => exact (fun _ _ => trivial)); (case aO => exact P9.out); (case aS => exact S6.out.gr.size); (case aL => have := HL.out; omega); intro v9 w9 k1 kb hg hat; have S9 := qa.mk (S6.out.grown hg (fun k hk => Kd.qZ P9.out k hk) GL.out); obtain ⟨Ax, cx, e9⟩ := Kd.qN k1; rw [List.length_append, List.length_singleton] at e9; subst e9; have T9 := qa.mk k1; have q9 := qb S9.out.bk 9; have qf := qd S9.out.bk 9; clear k1 kb hg hat)
            refine ⟨⟨i + 1, q, acc ++ [q], Ax, cx, rfl, by push_cast; rfl, by omega, ⟨E.out⟩, ⟨by rw [List.length_append, HL.out]; rfl⟩, ⟨?_⟩, ⟨?_⟩⟩, ?_⟩
            · rw [List.length_append]
              exact S9.out.set 9 _ rfl
            · rw [List.length_append]
              exact zU T9.out GL.out
            · show (_ : Nat) < _
              simp only [intOf]
              omega
          · have il := eq_false (show ¬ (i : Int) < (m : Int) + 1 by omega)
            have ilb : decide ((i : Int) < (m : Int) + 1) = false := decide_eq_false (by omega)
            have il2 := eq_false ilt
            obtain rfl : i = m + 1 := by omega
            have e := HQ.out
            rw [Nat.sub_self, plV] at e
            have E := qa.mk e
            clear e HQ
            go_wp2
            go_end0
            have z := S3.out.trans HS.out
            exact ⟨z.be, z.gr, Or.inr ⟨acc, A9, c9, E.out.symm, rfl, z, Kd.zI R9.out S3.out.gr.size⟩⟩
end Go.Proofs.Ytonljpciadeafaa.S
set_option linter.unusedVariables false
set_option linter.unusedSimpArgs false
namespace Go.Proofs.Ytonljpciadeafaa.S
open Go Go.RowKit Go.Proofs.YtonljpciadeafaaW.PrintWords Go.Proofs.YtonljpciadeafaaW.PrintLast Go.Proofs.YtonljpciadeafaaW.PrintMore
abbrev zi : Array Value := #[.int .i64 0, .int .i64 0, .int .i64 0, .int .i64 0, .int .i64 0, .int .i64 0, .slice none 0 0, .slice none 0 0, .slice none 0 0]
theorem setRow_same {w : World} {g : Nat} {t : TypeId} {cs : Array Value} {fr : Nat × Nat} (hg : w.heap[g]? = some (.cells cs t fr)) : w.setRow g cs = w := by
  have hlt : g < w.heap.size := (Array.getElem?_eq_some_iff.1 hg).1
  have hv : w.heap[g] = .cells cs t fr := (Array.getElem?_eq_some_iff.1 hg).2
  unfold World.setRow
  cases w with
  | mk heap tape drawn os output =>
    congr 1
    apply Array.ext
    · simp
    · intro k h1 h2
      simp only [Array.getElem_modify]
      split
      · rename_i hk; subst hk; simp at hv; simp [hv]
      · rfl
section
variable {P : Program} {ops : Array Oper} {Q : Exit → Act → World → Prop}
theorem store_row_ {oi : Oper} {a : Act} {w : World} {K : Act → World → Prop} (hw : Region.wanted oi (yielded ops a.tmps) = true) (hN : oi.dst = none) (ty : TypeId) (x y : Operand) (ho : oi.op = .store ty x y)
    (g : Nat) (cells : Array Value) (hx : a.eval x = .pointer (some ⟨g, 0, none⟩)) (hy : a.eval y = .agg cells)
    (t : TypeId) (old : Array Value) (hg : w.heap[g]? = some (.cells old t (0, 0))) (hi : (P.info? ty).map (·.size) = some cells.size)
    (hold : old.size = cells.size) (h1 : cells.all (·.oneCell') = true)
    (h : K a (w.setRow g cells)) : if Region.wanted oi (yielded ops a.tmps) = true then Oper.wp P oi a w K Q else K (a.put none undef) w := by
  rw [if_pos hw]
  refine wp_store_row ty x y ho g cells hx hy t old hg hi hold h1 ?_
  rw [hN]
  exact h
end
theorem assert32 (E : Int) (w : World) : (Instr.typeAssert (.iface 32 (.int .i64 E)) 20 32 false).run Try.prog w = .ok (.int .i64 E) w := by kernel_rfl
set_option maxRecDepth 100000 in
set_option maxHeartbeats 1000000 in
theorem catch_calls (gm ge : Nat) (E : Int) (older : List PanicEntry) (w : World) (hm : w.heap[gm]? = some (.cells zi 37 (0, 0))) (he : w.heap[ge]? = some (.cells #[.int .i64 0] 32 (0, 0))) :
    CallsD Try.prog 42 #[.pointer (some ⟨gm, 0, none⟩), .pointer (some ⟨ge, 0, none⟩)] (.panicking ({ v := .iface 32 (.int .i64 E), recovered := false } :: older)) w fun e u' w' =>
      e = .returned (.tuple #[]) ∧ u' = .panicking ({ v := .iface 32 (.int .i64 E), recovered := true } :: older) ∧ w' = (w.setCell ⟨ge, 0, none⟩ (.int .i64 E)).drew := by
  have HM := qa.mk (qQ hm)
  have e0 := qb (qQ he) 0
  have ef := qd (qQ he) 0
  have hs := setRow_same HM.out
  have ta := assert32 E
  clear hm he
  refine callsD_of_wpS Try.func42 rfl fun c₀ cs hu => ?_
  apply wpS_seq
  apply wpS_region
  simp [wpOpsS, go_sem, recoverD, hu, Try.ntmps42, Exit.thenS]
  apply wpS_seq
  apply wpS_region
  simp [wpOpsS, go_sem, Exit.thenS]
  refine wpS_cond (t := true) (by simp [Act.eval, Array.replicate]) ?_
  simp only [if_true]
  refine wpS_of_wp ?_
  show Code.wp Try.prog _ _ { tmps := #[.pointer (some ⟨gm, 0, none⟩), .pointer (some ⟨ge, 0, none⟩), .iface 32 (.int .i64 E), .iface 32 (.int .i64 E), .iface 32 (.int .i64 E), .bool true, undef, undef, undef], defers := [] } w
  refine jf (n := 5) (S := fun w' => True) (ds := [3, 4]) #[false, false, false, false, false] (by kernel_rfl) rfl rfl trivial (fun hHeld => ?_)
  refine qj (i := 0) (N := some 6) (v := ?_) (a' := ?_) #[true, false, false, false, false] rfl rfl (by kernel_rfl) (fun _ _ _ h => h) (Or.inl ⟨by rfl, ?_⟩) ?_ ?_
  rotate_left
  · intro w'
    go_simp
    with_reducible rfl
  rotate_left
  · simp only [Act.put, List.setIfInBounds_toArray, List.set_cons_zero, List.set_cons_succ, qg, qh]
    rfl
  refine qj (i := 1) (N := some 7) (v := ?_) (a' := ?_) #[true, true, false, false, false] rfl rfl (by kernel_rfl) (fun _ _ _ h => h) (Or.inl ⟨by rfl, ?_⟩) ?_ ?_
  rotate_left
  · intro w'
    go_simp
    with_reducible rfl
  rotate_left
  · simp only [Act.put, List.setIfInBounds_toArray, List.set_cons_zero, List.set_cons_succ, qg, qh]
    rfl
  refine qj (i := 2) (N := some 8) (v := ?_) (a' := ?_) #[true, true, true, false, false] rfl rfl (by kernel_rfl) (fun _ _ _ h => h) (Or.inl ⟨by rfl, ?_⟩) ?_ ?_
  rotate_left
  · intro w'
    go_simp
    with_reducible rfl
  rotate_left
  · simp only [Act.put, List.setIfInBounds_toArray, List.set_cons_zero, List.set_cons_succ, qg, qh]
    rfl
  refine zS (i := 3) (N := none) #[true, true, true, true, false] rfl rfl (by kernel_rfl) (by decide) (fun K hK => ?_)
  refine store_row_ (by rfl) rfl 37 (.tmp 0) (.tmp 6) rfl gm zi rfl rfl 37 zi HM.out (by kernel_rfl) rfl (by simp [Value.oneCell']) ?_
  rw [hs]
  refine hK.out _ _ ?_
  clear hK K
  refine zS (i := 4) (N := none) #[true, true, true, true, true] rfl rfl (by kernel_rfl) (by decide) (fun K hK => ?_)
  refine Zg (w1 := ?_) (by rfl) rfl ?_ ?_
  rotate_left
  · go_simp
    rfl
  refine hK.out _ _ ?_
  clear hK K
  refine jM (by kernel_rfl) ?_
  refine ⟨rfl, _, rfl, _, ?_, rfl, rfl, rfl⟩
  simp [results, Try.results42]
theorem catch_idle (p q : Addr) (w : World) :
    CallsD Try.prog 42 #[.pointer (some p), .pointer (some q)] .returning w fun e u' w' => e = .returned (.tuple #[]) ∧ u' = .returning ∧ w' = w := by
  refine callsD_of_wpS Try.func42 rfl fun c₀ cs hu => ?_
  apply wpS_seq
  apply wpS_region
  simp [wpOpsS, go_sem, recoverD, hu, Try.ntmps42, Exit.thenS]
  apply wpS_seq
  apply wpS_region
  simp [wpOpsS, go_sem, Exit.thenS]
  refine wpS_cond (t := false) (by simp [Act.eval, Array.replicate]) ?_
  simp only [Bool.false_eq_true, if_false]
  refine wpS_of_wp (wp_skip ?_)
  cases c₀
  simp_all [bodyPostS, results, Try.results42]
end Go.Proofs.Ytonljpciadeafaa.S
set_option linter.unusedVariables false
set_option linter.unusedSimpArgs false
namespace Go.Proofs.Ytonljpciadeafaa.S
open Go Go.RowKit Go.Proofs.YtonljpciadeafaaW.PrintWords Go.Proofs.YtonljpciadeafaaW.PrintLast Go.Proofs.YtonljpciadeafaaW.PrintMore
structure Met where
  kd : Int
  u : Int
  n : Int
  a : Int
  d : Int
  gp : Int
  adv : List Int
  bear : List Int
  pl : List Int
def QL : Met := ⟨0, 0, 0, 0, 0, 0, [], [], []⟩
def Qp (bs : List Int) (kd : Int) (rows : List S71) : Int × Met :=
  let H := j3 (zl bs ⟨#[104, 101, 97, 100]⟩ 54 rows)
  if H.1 ≠ 0 then (H.1, QL) else
  let M := jF (zl bs ⟨#[109, 97, 120, 112]⟩ 6 rows)
  if M.1 ≠ 0 then (M.1, QL) else
  let A := jW M.2 (zl bs ⟨#[104, 104, 101, 97]⟩ 36 rows)
  if A.1 ≠ 0 then (A.1, QL) else
  match zl bs ⟨#[104, 109, 116, 120]⟩ (4 * A.2.2.2.2 + 2 * ((M.2.toNat : Int) - A.2.2.2.2)) rows with
  | none => (41, QL)
  | some L =>
    match Zk kd H.2.2 M.2.toNat (zl bs ⟨#[67, 70, 70, 32]⟩ 0 rows) (zl bs ⟨#[108, 111, 99, 97]⟩ ((2 + 2 * H.2.2) * ((M.2.toNat : Int) + 1)) rows) (zl bs ⟨#[103, 108, 121, 102]⟩ 0 rows) with
    | none => (41, QL)
    | some ps => (0, ⟨kd, H.2.1, M.2, A.2.1, A.2.2.1, A.2.2.2.1, jN L A.2.2.2.2 M.2.toNat, jm L A.2.2.2.2 M.2.toNat, ps⟩)
def Zf (R : Int × Met) (w : World) (e : Ending) (w' : World) : Prop := Below w.heap.size w w' ∧
  (R.1 ≠ 0 ∧ e = .returned (.tuple #[.agg zi, .int .i64 R.1]) ∨ R.1 = 0 ∧ ∃ A7 c7 A8 c8 A9 c9,
    e = .returned (.tuple #[.agg #[.int .i64 R.2.kd, .int .i64 R.2.u, .int .i64 R.2.n, .int .i64 R.2.a, .int .i64 R.2.d, .int .i64 R.2.gp, .slice A7 R.2.adv.length c7, .slice A8 R.2.bear.length c8, .slice A9 R.2.pl.length c9], .int .i64 0]) ∧
    Kd.R (Kd.int .i64) 3 w' w.heap.size (fun k => some k ≠ (.slice A8 R.2.bear.length c8 : Value).ownBlock) (.slice A7 R.2.adv.length c7) R.2.adv ∧
    Kd.R (Kd.int .i64) 3 w' w.heap.size (fun k => some k ≠ (.slice A7 R.2.adv.length c7 : Value).ownBlock) (.slice A8 R.2.bear.length c8) R.2.bear ∧
    Kd.R (Kd.int .i64) 3 w' w.heap.size (fun k => some k ≠ (.slice A7 R.2.adv.length c7 : Value).ownBlock ∧ some k ≠ (.slice A8 R.2.bear.length c8 : Value).ownBlock) (.slice A9 R.2.pl.length c9) R.2.pl)
theorem res17 (tmps : Array Value) (gm ge : Nat) (c0 c1 c2 c3 c4 c5 : Int) (A6 A7 A8 : Option Addr) (n6 k6 n7 k7 n8 k8 : Nat) (E : Int) (w : World) (h2 : tmps[2]?.getD undef = .pointer (some ⟨gm, 0, none⟩)) (h3 : tmps[3]?.getD undef = .pointer (some ⟨ge, 0, none⟩))
    (hm : w.heap[gm]? = some (.cells #[.int .i64 c0, .int .i64 c1, .int .i64 c2, .int .i64 c3, .int .i64 c4, .int .i64 c5, .slice A6 n6 k6, .slice A7 n7 k7, .slice A8 n8 k8] 37 (0, 0))) (he : w.heap[ge]? = some (.cells #[.int .i64 E] 32 (0, 0))) :
    (results Try.f17 tmps).run Try.prog w = .ok (.tuple #[.agg #[.int .i64 c0, .int .i64 c1, .int .i64 c2, .int .i64 c3, .int .i64 c4, .int .i64 c5, .slice A6 n6 k6, .slice A7 n7 k7, .slice A8 n8 k8], .int .i64 E]) w := by
  have m0 := qb hm 0
  have m1 := qb hm 1
  have m2 := qb hm 2
  have m3 := qb hm 3
  have m4 := qb hm 4
  have m5 := qb hm 5
  have m6 := qb hm 6
  have m7 := qb hm 7
  have m8 := qb hm 8
  have e0 := qb he 0
  clear hm he
  simp [results, Try.results17, go_sem, h2, h3, m0, m1, m2, m3, m4, m5, m6, m7, m8, e0]
theorem leave_bad (tmps : Array Value) (gm ge : Nat) (E : Int) (R : Int × Met) (w w' : World) (h2 : tmps[2]?.getD undef = .pointer (some ⟨gm, 0, none⟩)) (h3 : tmps[3]?.getD undef = .pointer (some ⟨ge, 0, none⟩))
    (hm : w'.heap[gm]? = some (.cells zi 37 (0, 0))) (he : w'.heap[ge]? = some (.cells #[.int .i64 0] 32 (0, 0))) (hb : Below w.heap.size w w') (hE : E ≠ 0) (hR : R.1 = E) (hge : w.heap.size ≤ ge) :
    Leaves Try.prog Try.f17 tmps (Zf R w) [{ target := .fn (.func 42) #[.pointer (some ⟨gm, 0, none⟩), .pointer (some ⟨ge, 0, none⟩)], args := #[] }] (.panicking [{ v := .iface 32 (.int .i64 E), recovered := false }]) w' := by
  refine leaves_cons (f := 42) (args := #[.pointer (some ⟨gm, 0, none⟩), .pointer (some ⟨ge, 0, none⟩)]) (by simp) (by simp [go_sem]) ?_
  refine (catch_calls gm ge E [] w' hm he).mono ?_
  rintro e u' w'' ⟨rfl, rfl, rfl⟩
  have hne : gm ≠ ge := fun z => by
    rw [z, he] at hm
    injection hm with hm
    injection hm with _ hm
    exact absurd hm (by decide)
  have he2 := qR (cs' := #[.int .i64 E]) he 0 (.int .i64 E) rfl
  have hm2 := blk_far hm (p := ⟨ge, 0, none⟩) hne (.int .i64 E)
  refine ⟨_, res17 tmps gm ge 0 0 0 0 0 0 none none none 0 0 0 0 0 0 E _ h2 h3 (qQ hm2) (qQ he2), zm (qA hb hge), Or.inl ⟨by rw [hR]; exact hE, by rw [hR]⟩⟩
theorem three_new (w : World) (o1 o2 o3 : Obj) : ∃ X gm ge g, X = ((w.alloc o1).alloc o2).alloc o3 ∧ w.heap.size + 1 + 1 = g ∧ w.heap.size + 1 = ge ∧ w.heap.size = gm ∧ X.heap[gm]? = some o1 ∧ X.heap[ge]? = some o2 ∧ X.heap[g]? = some o3 ∧ Below w.heap.size w X := by
  have z1 : (w.alloc o1).heap.size = w.heap.size + 1 := Array.size_push ..
  have z2 : ((w.alloc o1).alloc o2).heap.size = w.heap.size + 1 + 1 := by rw [← z1]; exact Array.size_push ..
  refine ⟨_, _, _, _, rfl, rfl, rfl, rfl, zn (zn (zk _ _) _) _, ?_, ?_, qF (qF (qF (Below.refl _ _) _) _) _⟩
  · rw [← z1]; exact zn (zk _ _) _
  · rw [← z2]; exact zk _ _
theorem ThrP.thrown {E : Int} {cs : Array Value} {g : Nat} {w0 w : World} {e : Ending} {w' : World} (h : ThrP E cs g w0 w e w') (hE : E ≠ 0) : e = thr E ∧ Below w0.heap.size w0 w' ∧ w.grownBy w' (some g) := by
  obtain ⟨h1, h2, ⟨_, h3⟩ | ⟨h3, _⟩⟩ := h
  · exact ⟨h3, h1, h2⟩
  · exact absurd h3 hE
theorem ThrP.done {E : Int} {cs : Array Value} {g : Nat} {w0 w : World} {e : Ending} {w' : World} (h : ThrP E cs g w0 w e w') (hE : E = 0) : e = .returned (.tuple #[]) ∧ St w0 w w' g cs := by
  obtain ⟨h1, h2, ⟨h3, _⟩ | ⟨_, h3, h4⟩⟩ := h
  · exact absurd hE h3
  · exact ⟨h3, h4⟩
theorem jr {w W : World} {g : Nat} (h : Below w.heap.size w W) (hg : w.heap.size ≤ g) (cs : Array Value) : Below w.heap.size w (W.setRow g cs) :=
  ⟨h.os, h.tape, h.output, by rw [size_setRow]; exact h.size, fun k hk => (setRow_other W g k cs (by omega)).trans (h.block k hk)⟩
theorem QU {α : Type} {d : Kd α} {e base g : Nat} {w : World} {ok : Nat → Prop} {v : Value} {xs : List α} {cs : Array Value} (h : d.R e w base ok v xs) (hg : g < base) : d.R e (w.setRow g cs) base ok v xs :=
  Kd.qH (Kd.Jb (Kd.jq h) (fun k hk _ => setRow_other w g k cs (fun z => by have := hk.2.1; omega))) (fun _ hk => hk.1)
theorem jo {α : Type} {d : Kd α} {e base g : Nat} {w w' : World} {ok : Nat → Prop} {v : Value} {xs : List α} (h : d.R e w base ok v xs) (hg : w.grownBy w' (some g)) (hlt : g < base) : d.R e w' base ok v xs :=
  Kd.qH (Kd.jo (Kd.jq h) hg (fun k hk z => by injection z with z; have := hk.2.1; omega)) (fun _ hk => hk.1)
theorem HmP.thrown {gF : Nat} {kd u : Int} {m : Nat} {a d gp f wd : Int} {g : Nat} {w0 w : World} {e : Ending} {w' : World} (h : HmP none gF kd u m a d gp f wd g w0 w e w') : e = thr 41 ∧ Below w0.heap.size w0 w' ∧ w.grownBy w' (some g) := by
  obtain ⟨h1, h2, ⟨_, h3⟩ | ⟨L, h3, _⟩⟩ := h
  · exact ⟨h3, h1, h2⟩
  · cases h3
theorem HmP.done {L : List Int} {gF : Nat} {kd u : Int} {m : Nat} {a d gp f wd : Int} {g : Nat} {w0 w : World} {e : Ending} {w' : World} (h : HmP (some L) gF kd u m a d gp f wd g w0 w e w') : e = .returned (.tuple #[]) ∧ ∃ A7 c7 A8 c8,
    St w0 w w' g (rdr gF kd u m a d gp (.slice A7 m c7) (.slice A8 m c8) zw f wd) ∧ Kd.R (Kd.int .i64) 3 w' w.heap.size (fun k => some k ≠ (.slice A8 m c8 : Value).ownBlock) (.slice A7 m c7) (jN L wd m) ∧ Kd.R (Kd.int .i64) 3 w' w.heap.size (fun k => some k ≠ (.slice A7 m c7 : Value).ownBlock) (.slice A8 m c8) (jm L wd m) := by
  obtain ⟨h1, h2, ⟨h3, _⟩ | ⟨L', h3, h4, h5⟩⟩ := h
  · cases h3
  · injection h3 with h3
    subst h3
    exact ⟨h4, h5⟩
theorem OuP.thrown {gF : Nat} {kd u : Int} {m : Nat} {a d gp f wd : Int} {v7 v8 : Value} {g : Nat} {w0 w : World} {e : Ending} {w' : World} (h : OuP none gF kd u m a d gp f wd v7 v8 g w0 w e w') : e = thr 41 ∧ Below w0.heap.size w0 w' ∧ w.grownBy w' (some g) := by
  obtain ⟨h1, h2, ⟨_, h3⟩ | ⟨L, _, _, h3, _⟩⟩ := h
  · exact ⟨h3, h1, h2⟩
  · cases h3
theorem OuP.done {ps : List Int} {gF : Nat} {kd u : Int} {m : Nat} {a d gp f wd : Int} {v7 v8 : Value} {g : Nat} {w0 w : World} {e : Ending} {w' : World} (h : OuP (some ps) gF kd u m a d gp f wd v7 v8 g w0 w e w') : e = .returned (.tuple #[]) ∧ ∃ A9 c9,
    St w0 w w' g (rdr gF kd u m a d gp v7 v8 (.slice A9 ps.length c9) f wd) ∧ Kd.R (Kd.int .i64) 3 w' w.heap.size (fun _ => True) (.slice A9 ps.length c9) ps := by
  obtain ⟨h1, h2, ⟨h3, _⟩ | ⟨L, A9, c9, h3, h4, h5, h6⟩⟩ := h
  · cases h3
  · injection h3 with h3
    subst h3
    exact ⟨h4, A9, c9, h5, h6⟩
theorem leave_good (tmps : Array Value) (gm ge : Nat) (R : Int × Met) (w w' : World) (A7 A8 A9 : Option Addr) (c7 c8 c9 : Nat) (h2 : tmps[2]?.getD undef = .pointer (some ⟨gm, 0, none⟩)) (h3 : tmps[3]?.getD undef = .pointer (some ⟨ge, 0, none⟩))
    (hm : w'.heap[gm]? = some (.cells #[.int .i64 R.2.kd, .int .i64 R.2.u, .int .i64 R.2.n, .int .i64 R.2.a, .int .i64 R.2.d, .int .i64 R.2.gp, .slice A7 R.2.adv.length c7, .slice A8 R.2.bear.length c8, .slice A9 R.2.pl.length c9] 37 (0, 0))) (he : w'.heap[ge]? = some (.cells #[.int .i64 0] 32 (0, 0))) (hb : Below w.heap.size w w') (hR : R.1 = 0)
    (r7 : Kd.R (Kd.int .i64) 3 w' w.heap.size (fun k => some k ≠ (.slice A8 R.2.bear.length c8 : Value).ownBlock) (.slice A7 R.2.adv.length c7) R.2.adv)
    (r8 : Kd.R (Kd.int .i64) 3 w' w.heap.size (fun k => some k ≠ (.slice A7 R.2.adv.length c7 : Value).ownBlock) (.slice A8 R.2.bear.length c8) R.2.bear)
    (r9 : Kd.R (Kd.int .i64) 3 w' w.heap.size (fun k => some k ≠ (.slice A7 R.2.adv.length c7 : Value).ownBlock ∧ some k ≠ (.slice A8 R.2.bear.length c8 : Value).ownBlock) (.slice A9 R.2.pl.length c9) R.2.pl) :
    Leaves Try.prog Try.f17 tmps (Zf R w) [{ target := .fn (.func 42) #[.pointer (some ⟨gm, 0, none⟩), .pointer (some ⟨ge, 0, none⟩)], args := #[] }] .returning w' := by
  refine leaves_cons (f := 42) (args := #[.pointer (some ⟨gm, 0, none⟩), .pointer (some ⟨ge, 0, none⟩)]) (by simp) (by simp [go_sem]) ?_
  refine (catch_idle ⟨gm, 0, none⟩ ⟨ge, 0, none⟩ w').mono ?_
  rintro e u' w'' ⟨rfl, rfl, rfl⟩
  exact ⟨_, res17 tmps gm ge _ _ _ _ _ _ _ _ _ _ _ _ _ _ _ 0 _ h2 h3 hm he, hb, Or.inr ⟨hR, A7, c7, A8, c8, A9, c9, rfl, r7, r8, r9⟩⟩
theorem hhea_bd {n : Int} {T : Option (List Int)} (h : (jW n T).1 = 0) : 1 ≤ (jW n T).2.2.2.2 ∧ (jW n T).2.2.2.2 ≤ n := by
  unfold jW at h ⊢
  cases T with
  | none => simp at h
  | some L =>
    dsimp only at h ⊢
    split
    · rename_i c; rw [if_pos c] at h; exact absurd h (by decide)
    · rename_i c
      rw [if_neg c] at h
      split
      · rename_i c2; rw [if_pos c2] at h; exact absurd h (by decide)
      · dsimp only; omega
theorem maxp_bd {T : Option (List Int)} (h : (jF T).1 = 0) : 1 ≤ (jF T).2 ∧ (jF T).2 ≤ 4096 := by
  unfold jF at h ⊢
  cases T with
  | none => exact absurd h (by decide)
  | some L =>
    dsimp only at h ⊢
    split
    · rename_i c
      rw [if_pos c] at h
      split
      · rename_i c2; rw [if_pos c2] at h; exact absurd h (by decide)
      · rename_i c2
        rw [if_neg c2] at h
        split
        · rename_i c3; rw [if_pos c3] at h; exact absurd h (by decide)
        · dsimp only; omega
    · rename_i c; rw [if_neg c] at h; exact absurd h (by decide)
theorem head_bd {bs : List Int} (ho : okB bs) {T : Option (List Int)} (hT : ∀ L, T = some L → okB L) (h : (j3 T).1 = 0) : (j3 T).2.2 = 0 ∨ (j3 T).2.2 = 1 := by
  unfold j3 at h ⊢
  cases T with
  | none => exact absurd h (by decide)
  | some L =>
    have hb : 0 ≤ (qI L 50 2).1 ∧ (qI L 50 2).1 < 256 ^ 2 := jX L (hT L rfl) 50 2 (by decide)
    dsimp only at h ⊢
    repeat' split
    all_goals first | (dsimp only; omega) | (dsimp only; exact Or.inl rfl)
set_option maxRecDepth 100000 in
set_option maxHeartbeats 4000000 in
theorem JL (bs : List Int) (ho : okB bs) (gF : Nat) (kd : Int) (rows : List S71) (w : World) (hF : Fn w gF kd rows bs) :
    Calls Try.prog 17 #[.pointer (some ⟨gF, 0, none⟩)] w (Zf (Qp bs kd rows) w) := by
  have HF := qa.mk hF
  have HO := qa.mk ho
  have hmf : ∀ (fn : Go.Fn) (first cap : Array Value) (w : World), (Instr.makeFunc fn first cap).run Try.prog w = .ok (.func fn first cap) w := fun _ _ _ _ => rfl
  have KC := qa.mk (fun (w2 : World) (h : Fn w2 gF kd rows bs) => JM gF kd rows bs w2 h)
  obtain ⟨TH, hTH⟩ : ∃ T, zl bs ⟨#[104, 101, 97, 100]⟩ 54 rows = T := ⟨_, rfl⟩
  obtain ⟨TM, hTM⟩ : ∃ T, zl bs ⟨#[109, 97, 120, 112]⟩ 6 rows = T := ⟨_, rfl⟩
  obtain ⟨TA, hTA⟩ : ∃ T, zl bs ⟨#[104, 104, 101, 97]⟩ 36 rows = T := ⟨_, rfl⟩
  obtain ⟨R, hR⟩ : ∃ R, Qp bs kd rows = R := ⟨_, rfl⟩
  have HTH := qa.mk hTH
  have HTM := qa.mk hTM
  have HTA := qa.mk hTA
  have F01 := qa.mk (fun h => head_bd (T := TH) ho (fun L e => (QE ho (hTH.trans e)).1) h)
  rw [hR]
  unfold Qp at hR
  rw [hTH, hTM, hTA] at hR
  dsimp only at hR
  clear hF ho hTH hTM hTA
  obtain ⟨eH, u, f, hH⟩ : ∃ a b c, j3 TH = (a, b, c) := ⟨_, _, _, rfl⟩
  have HH := qa.mk hH
  rw [hH] at hR F01
  dsimp only at hR F01
  have HR := qa.mk hR
  clear hR hH
  go_enter_defers Try.func17, Try.ntmps17
  go_upto_region 3 with fail
  obtain ⟨X, gm, ge, g, hX, e3, e2, e1, km, ke, kg, bX⟩ := three_new w (Obj.cells zi 37) (Obj.cells #[.int .i64 0] 32) (Obj.cells (rdr gF 0 0 0 0 0 0 zw zw zw 0 0) 88)
  rw [← hX, e3, e2, e1]
  have l1 : w.heap.size ≤ gm := by omega
  have l2 : w.heap.size ≤ ge := by omega
  have l3 : w.heap.size ≤ g := by omega
  have n1 : gm ≠ g := by omega
  have n2 : ge ≠ g := by omega
  have n3 : gm ≠ ge := by omega
  have LS := qa.mk (show gm < X.heap.size ∧ ge < X.heap.size ∧ g < X.heap.size from ⟨qz km, qz ke, qz kg⟩)
  have S0 : qa (St w X X g (rdr gF 0 0 0 0 0 0 zw zw zw 0 0)) := ⟨⟨l3, bX, World.grownBy.refl _ _, kg⟩⟩
  have FX := qa.mk (HF.out.below bX)
  have ZZ := qa.mk (fun (w2 : World) (h : X.grownBy w2 (some g)) => (⟨zg km h (fun z => n1 (by injection z)), zg ke h (fun z => n2 (by injection z))⟩ : w2.heap[gm]? = some (Obj.cells zi 37 (0, 0)) ∧ w2.heap[ge]? = some (Obj.cells #[.int .i64 0] 32 (0, 0))))
  have L2 := qa.mk l2
  have L1 := qa.mk l1
  have N3 := qa.mk n3
  clear hX e3 e2 e1 km ke kg bX l1 l2 l3 n1 n2 n3
  go_upto_region 4 with (go_at_call 26; refine (KC.out X FX.out).mono ?_; rintro e w1 ⟨rfl, k1⟩; have S1 := qa.mk (S0.out.step k1); have z1 := qb S1.out.bk 1; have zf := qd S1.out.bk 1; clear k1)
  obtain ⟨X1, hX1, SX⟩ : ∃ X1, X1 = w1.setCell ⟨g, 1, none⟩ (.int .i64 kd) ∧ qa (St w X X1 g (rdr gF kd 0 0 0 0 0 zw zw zw 0 0)) := ⟨_, rfl, ⟨S1.out.set 1 _ rfl⟩⟩
  rw [← hX1]
  clear hX1 z1 zf S1 S0 KC FX
  have LB := qa.mk (fun (tmps : Array Value) (E : Int) (w' : World) (h2 : tmps[2]?.getD undef = .pointer (some ⟨gm, 0, none⟩)) (h3 : tmps[3]?.getD undef = .pointer (some ⟨ge, 0, none⟩)) (hb : Below w.heap.size w w') (hg : X.grownBy w' (some g)) (hE : E ≠ 0) (hR : R.1 = E) => leave_bad tmps gm ge E R w w' h2 h3 (ZZ.out w' hg).1 (ZZ.out w' hg).2 hb hE hR L2.out)
  have C := qa.mk (head_calls bs HO.out g gF kd rows w X1 HF.out SX.out.here TH HTH.out)
  rw [HH.out] at C
  dsimp only at C
  by_cases c1 : eH = 0
  rotate_left
  · have E := HR.out
    rw [if_pos c1] at E
    have E1 := qa.mk (show R.1 = eH by rw [← E])
    have C2 := qa.mk (C.out.mono (fun _ _ h => h.thrown c1))
    have N := qa.mk c1
    clear C c1 E HR
    go_wp2_with (go_at_call 43; refine C2.out.mono ?_; rintro e w2 ⟨rfl, k1, k2⟩; have B2 := qa.mk k1; have G2 := qa.mk (SX.out.gr.trans k2); clear k1 k2)
    exact LB.out _ eH w2 rfl rfl B2.out G2.out N.out E1.out
  subst c1
  have C2 := qa.mk (C.out.mono (fun _ _ h => h.done rfl))
  have F2 := qa.mk (F01.out rfl)
  clear F01
  have HR1 := HR.out
  rw [if_neg (fun z => z rfl)] at HR1
  obtain ⟨eM, n, hM⟩ : ∃ a b, jF TM = (a, b) := ⟨_, _, rfl⟩
  have HM := qa.mk hM
  have MB := fun h => maxp_bd (T := TM) h
  rw [hM] at HR1 MB
  dsimp only at HR1 MB
  have HR2 := qa.mk HR1
  have MB := qa.mk MB
  clear C HR HR1 hM
  go_upto_region 5 with (go_at_call 43; refine C2.out.mono ?_; rintro e w2 ⟨rfl, k1⟩; have S2 := qa.mk (SX.out.trans k1); clear k1)
  clear C2
  have C := qa.mk (maxp_calls bs HO.out g gF kd u f rows w w2 HF.out S2.out.here TM HTM.out)
  rw [HM.out] at C
  dsimp only at C
  by_cases c1 : eM = 0
  rotate_left
  · have E := HR2.out
    rw [if_pos c1] at E
    have E1 := qa.mk (show R.1 = eM by rw [← E])
    have C2 := qa.mk (C.out.mono (fun _ _ h => h.thrown c1))
    have N := qa.mk c1
    clear C c1 E HR2
    go_wp2_with (go_at_call 44; refine C2.out.mono ?_; rintro e w3 ⟨rfl, k1, k2⟩; have B2 := qa.mk k1; have G2 := qa.mk (S2.out.gr.trans k2); clear k1 k2)
    exact LB.out _ eM w3 rfl rfl B2.out G2.out N.out E1.out
  subst c1
  have C2 := qa.mk (C.out.mono (fun _ _ h => h.done rfl))
  have mb := MB.out rfl
  obtain ⟨m, rfl⟩ : ∃ m : Nat, n = (m : Int) := ⟨n.toNat, by omega⟩
  have HR1 := HR2.out
  rw [if_neg (fun z => z rfl), Int.toNat_natCast] at HR1
  obtain ⟨eA, a, d, gp, wd, hA⟩ : ∃ a b c d e, jW (m : Int) TA = (a, b, c, d, e) := ⟨_, _, _, _, _, rfl⟩
  have HA := qa.mk hA
  have AB := fun h => hhea_bd (n := (m : Int)) (T := TA) h
  rw [hA] at HR1 AB
  dsimp only at HR1 AB
  have HR3 := qa.mk HR1
  have AB := qa.mk AB
  have M4 := qa.mk (show m ≤ 4096 by omega)
  clear C HR2 HR1 hA MB mb
  go_upto_region 6 with (go_at_call 44; refine C2.out.mono ?_; rintro e w3 ⟨rfl, k1⟩; have S3 := qa.mk (S2.out.trans k1); clear k1)
  clear C2 S2
  have C := qa.mk (hhea_calls bs HO.out g gF kd u f (m : Int) rows w w3 HF.out S3.out.here TA HTA.out)
  rw [HA.out] at C
  dsimp only at C
  by_cases c1 : eA = 0
  rotate_left
  · have E := HR3.out
    rw [if_pos c1] at E
    have E1 := qa.mk (show R.1 = eA by rw [← E])
    have C2 := qa.mk (C.out.mono (fun _ _ h => h.thrown c1))
    have N := qa.mk c1
    clear C c1 E HR3
    go_wp2_with (go_at_call 45; refine C2.out.mono ?_; rintro e w4 ⟨rfl, k1, k2⟩; have B2 := qa.mk k1; have G2 := qa.mk (S3.out.gr.trans k2); clear k1 k2)
    exact LB.out _ eA w4 rfl rfl B2.out G2.out N.out E1.out
  subst c1
  have C2 := qa.mk (C.out.mono (fun _ _ h => h.done rfl))
  have ab := AB.out rfl
  have AB2 := qa.mk ab
  have HR1 := HR3.out
  rw [if_neg (fun z => z rfl)] at HR1
  obtain ⟨T, hT⟩ : ∃ T, zl bs ⟨#[104, 109, 116, 120]⟩ (4 * wd + 2 * ((m : Int) - wd)) rows = T := ⟨_, rfl⟩
  have HT := qa.mk hT
  rw [hT] at HR1
  have HR4 := qa.mk HR1
  clear C HR3 HR1 hT AB ab
  go_upto_region 7 with (go_at_call 45; refine C2.out.mono ?_; rintro e w4 ⟨rfl, k1⟩; have S4 := qa.mk (S3.out.trans k1); clear k1)
  clear C2 S3
  have C := qa.mk (hmtx_calls bs HO.out g gF kd u a d gp f wd m rows w w4 HF.out S4.out.here AB2.out.1 AB2.out.2 M4.out T HT.out)
  cases T with
  | none =>
    have E1 := qa.mk (show R.1 = 41 by rw [← HR4.out])
    have C2 := qa.mk (C.out.mono (fun _ _ h => h.thrown))
    clear C HR4
    go_wp2_with (go_at_call 46; refine C2.out.mono ?_; rintro e w5 ⟨rfl, k1, k2⟩; have B2 := qa.mk k1; have G2 := qa.mk (S4.out.gr.trans k2); clear k1 k2)
    exact LB.out _ 41 w5 rfl rfl B2.out G2.out (by decide) E1.out
  | some L =>
  have C2 := qa.mk (C.out.mono (fun _ _ h => h.done))
  have HR1 := HR4.out
  dsimp only at HR1
  obtain ⟨TC, hTC⟩ : ∃ T, zl bs ⟨#[67, 70, 70, 32]⟩ 0 rows = T := ⟨_, rfl⟩
  obtain ⟨TL, hTL⟩ : ∃ T, zl bs ⟨#[108, 111, 99, 97]⟩ ((2 + 2 * f) * ((m : Int) + 1)) rows = T := ⟨_, rfl⟩
  obtain ⟨TG, hTG⟩ : ∃ T, zl bs ⟨#[103, 108, 121, 102]⟩ 0 rows = T := ⟨_, rfl⟩
  have HTC := qa.mk hTC
  have HTL := qa.mk hTL
  have HTG := qa.mk hTG
  rw [hTC, hTL, hTG] at HR1
  obtain ⟨O, hO⟩ : ∃ O, Zk kd f m TC TL TG = O := ⟨_, rfl⟩
  have HOu := qa.mk hO
  rw [hO] at HR1
  have HR5 := qa.mk HR1
  have G4 := qa.mk (qz S4.out.bk)
  clear C HR4 HR1 hTC hTL hTG hO
  go_upto_region 8 with (go_at_call 46; refine C2.out.mono ?_; rintro e w5 ⟨rfl, A7, c7, A8, c8, k1, k2, k3⟩; have S5 := qa.mk (S4.out.trans k1); have R7 := qa.mk k2; have R8 := qa.mk k3; have Z5 := qa.mk k1.gr.size; clear k1 k2 k3)
  clear C2
  have C := qa.mk (qag bs HO.out g gF kd u a d gp f wd A7 A8 m c7 m c8 m rows w w5 HF.out S5.out.here F2.out M4.out TC TL TG HTC.out HTL.out HTG.out)
  rw [HOu.out] at C
  cases O with
  | none =>
    have E1 := qa.mk (show R.1 = 41 by rw [← HR5.out])
    have C2 := qa.mk (C.out.mono (fun _ _ h => h.thrown))
    clear C HR5
    go_wp2_with (go_at_call 47; refine C2.out.mono ?_; rintro e w6 ⟨rfl, k1, k2⟩; have B2 := qa.mk k1; have G2 := qa.mk (S5.out.gr.trans k2); clear k1 k2)
    exact LB.out _ 41 w6 rfl rfl B2.out G2.out (by decide) E1.out
  | some ps =>
  have C2 := qa.mk (C.out.mono (fun _ _ h => h.done))
  have HR1 := HR5.out
  dsimp only at HR1
  have HR6 := qa.mk HR1
  clear C HR5 HR1
  go_upto_region 9 with (go_at_call 47; refine C2.out.mono ?_; rintro e w6 ⟨rfl, A9, c9, k1, k2⟩; have S6 := qa.mk (S5.out.trans k1); have P7 := qa.mk (jo R7.out k1.gr G4.out); have P8 := qa.mk (jo R8.out k1.gr G4.out); have P9 := qa.mk (Kd.zF (Kd.zF k2 (Kd.za R7.out)) (Kd.za R8.out)); have Z6 := qa.mk k1.gr.size; clear k1 k2)
  clear C2
  have zz := ZZ.out w6 S6.out.gr
  have KM := qa.mk zz.1
  have KE := qa.mk zz.2
  clear zz
  have x1 := qb S6.out.bk 1
  have x2 := qb S6.out.bk 2
  have x3 := qb S6.out.bk 3
  have x4 := qb S6.out.bk 4
  have x5 := qb S6.out.bk 5
  have x6 := qb S6.out.bk 6
  have x7 := qb S6.out.bk 7
  have x8 := qb S6.out.bk 8
  have x9 := qb S6.out.bk 9
  go_wp2_with (refine wpList_store_row rfl 37 (.tmp 2) (.tmp 28) rfl gm #[.int .i64 kd, .int .i64 u, .int .i64 (m : Int), .int .i64 a, .int .i64 d, .int .i64 gp, .slice A7 m c7, .slice A8 m c8, .slice A9 ps.length c9] rfl rfl 37 zi KM.out (by kernel_rfl) rfl (by simp [Value.oneCell']) ?_; have K2 := qa.mk (setRow_heap w6 gm zi #[.int .i64 kd, .int .i64 u, .int .i64 (m : Int), .int .i64 a, .int .i64 d, .int .i64 gp, .slice A7 m c7, .slice A8 m c8, .slice A9 ps.length c9] 37 (0, 0) KM.out); have E2 := qa.mk ((setRow_other w6 gm ge #[.int .i64 kd, .int .i64 u, .int .i64 (m : Int), .int .i64 a, .int .i64 d, .int .i64 gp, .slice A7 m c7, .slice A8 m c8, .slice A9 ps.length c9] (fun z => N3.out z.symm)).trans KE.out); have q0 := qb E2.out 0; have qf := qd E2.out 0)
  have e7 := QA L wd m
  have e8 := Qo L wd m
  have hr := HR6.out
  subst hr
  have K3 := blk_far K2.out (p := ⟨ge, 0, none⟩) N3.out (.int .i64 0)
  have E3 := qR (cs' := #[.int .i64 0]) E2.out 0 (.int .i64 0) rfl
  have ls := LS.out
  have s4 := S4.out.gr.size
  have t4 := qi S4.out.be
  have s5 := Z5.out
  have t5 := qi S5.out.be
  have r7 := Kd.zI (zU (j := 0) (x := .int .i64 0) (QU (cs := #[.int .i64 kd, .int .i64 u, .int .i64 (m : Int), .int .i64 a, .int .i64 d, .int .i64 gp, .slice A7 m c7, .slice A8 m c8, .slice A9 ps.length c9]) P7.out (by omega : gm < _)) (by omega : ge < _)) t4
  have r8 := Kd.zI (zU (j := 0) (x := .int .i64 0) (QU (cs := #[.int .i64 kd, .int .i64 u, .int .i64 (m : Int), .int .i64 a, .int .i64 d, .int .i64 gp, .slice A7 m c7, .slice A8 m c8, .slice A9 ps.length c9]) P8.out (by omega : gm < _)) (by omega : ge < _)) t4
  have r9 := Kd.zI (zU (j := 0) (x := .int .i64 0) (QU (cs := #[.int .i64 kd, .int .i64 u, .int .i64 (m : Int), .int .i64 a, .int .i64 d, .int .i64 gp, .slice A7 m c7, .slice A8 m c8, .slice A9 ps.length c9]) P9.out (by omega : gm < _)) (by omega : ge < _)) t5
  refine leave_good _ gm ge _ w _ A7 A8 A9 c7 c8 c9 rfl rfl ?_ E3 (qA (jr S6.out.be L1.out _) L2.out) rfl ?_ ?_ ?_
  · dsimp only
    rw [e7, e8]
    exact K3
  · dsimp only
    rw [e7, e8]
    exact r7
  · dsimp only
    rw [e7, e8]
    exact r8
  · dsimp only
    rw [e7, e8]
    exact Kd.qH r9 (fun _ hk => ⟨hk.1.2, hk.2⟩)
end Go.Proofs.Ytonljpciadeafaa.S
