import Derived.Test.YtonljpciadeafaaSx0
import Derived.Test.YtonljpciadeafaaMuAS
import Derived.Test.YtonljpciadeafaaMuCS
import Derived.Test.YtonljpciadeafaaSxPA
import Derived.Test.YtonljpciadeafaaMtPDS
import Derived.Test.YtonljpciadeafaaSx37
set_option linter.unusedVariables false
set_option linter.unusedSimpArgs false
namespace Go.Proofs.Ytonljpciadeafaa.S
open Go Go.RowKit Go.Proofs.YtonljpciadeafaaW.PrintWords Go.Proofs.YtonljpciadeafaaW.PrintLast Go.Proofs.YtonljpciadeafaaW.PrintMore
theorem rowW_part {tg last : ByteArray} {su pl sz : Int} {C : List Int × Int} (h : (Ql 0 0 0 0 tg last su pl sz C).2 = 0) : C.2 = 0 ∧ (Ql 0 0 0 0 tg last su pl sz C).1 = ⟨tg, pl, sz⟩ := by
  unfold Ql at h ⊢
  have n0 : ¬ ((0 : Int) ≠ 0) := fun h => h rfl
  rw [if_neg n0, if_neg n0, if_neg n0, if_neg n0] at h ⊢
  split at h
  · cases h
  rename_i a1
  rw [if_neg a1]
  split at h
  · cases h
  rename_i a2
  rw [if_neg a2]
  split at h
  · cases h
  rename_i a3
  rw [if_neg a3]
  split at h
  · cases h
  rename_i a4
  rw [if_neg a4]
  refine ⟨Classical.byContradiction a4, ?_⟩
  split at h
  · rename_i a5
    rw [if_pos a5]
  · rename_i a5
    rw [if_neg a5]
    split at h
    · cases h
    · rename_i a6
      rw [if_neg a6]
theorem rowV_ok {bs : List Int} {p : Int} {last : ByteArray} (h : (Qe bs p last).2 = 0) : hasB bs (Qe bs p last).1.f1 (Qe bs p last).1.f2 = true := by
  cases hb : hasB bs p 16 with
  | false =>
    rw [rowV_no16 hb] at h
    cases h
  | true =>
    have e := rowV_16 (last := last) hb
    rw [e] at h ⊢
    obtain ⟨h1, h2⟩ := rowW_part h
    rw [h2]
    exact decide_eq_true h1
theorem rowsV_ok {bs : List Int} {at_ : Int} : ∀ (m i : Nat) (last : ByteArray) (acc : List S71), QP bs acc → (jL bs at_ m i last acc).2 = 0 → QP bs (jL bs at_ m i last acc).1
  | 0, _, _, _, ha, _ => ha
  | m + 1, i, last, acc, ha, h => by
    rw [jL] at h ⊢
    by_cases c : (Qe bs (at_ + 12 + 16 * (i : Int)) last).2 = 0
    · rw [if_pos c] at h ⊢
      refine rowsV_ok m (i + 1) _ _ (fun t ht => ?_) h
      rcases List.mem_append.1 ht with ht | ht
      · exact ha t ht
      · rw [List.mem_singleton.1 ht]
        exact rowV_ok c
    · rw [if_neg c] at h
      exact absurd h c
theorem open_rows {bs : List Int} (h : (je bs 0).2 = 0) : QP bs (je bs 0).1.2 := by
  unfold je at h ⊢
  split at h
  · cases h
  rename_i a1
  rw [if_neg a1]
  split at h
  · rename_i a2
    exact absurd h a2
  rename_i a2
  rw [if_neg a2]
  split at h
  · cases h
  rename_i a3
  rw [if_neg a3]
  split at h
  · cases h
  rename_i a4
  rw [if_neg a4]
  split at h
  · cases h
  rename_i a5
  rw [if_neg a5]
  split at h
  · cases h
  rename_i a6
  rw [if_neg a6]
  split at h
  · cases h
  rename_i a7
  rw [if_neg a7]
  split at h
  · rename_i a8
    exact absurd h a8
  rename_i a8
  rw [if_neg a8]
  exact rowsV_ok _ _ _ _ (fun t ht => by cases ht) (Classical.byContradiction a8)
end Go.Proofs.Ytonljpciadeafaa.S
set_option linter.unusedVariables false
set_option linter.unusedSimpArgs false
namespace Go.Proofs.Ytonljpciadeafaa.S
open Go Go.RowKit Go.Proofs.YtonljpciadeafaaW.PrintWords Go.Proofs.YtonljpciadeafaaW.PrintLast Go.Proofs.YtonljpciadeafaaW.PrintMore
structure Bs (b c : Nat) (w : World) (g8 g10 : Nat) (cs ks : Array Value) (u7 u8 u9 : Value) (l7 l8 l9 : List Int) (W : World) : Prop where
  bl : Below w.heap.size w W
  z : c ≤ W.heap.size
  k8 : W.heap[g8]? = some (Obj.cells cs 37 (0, 0))
  k10 : W.heap[g10]? = some (Obj.cells ks 37 (0, 0))
  s7 : Kd.R (Kd.int .i64) 3 W b (fun k => k < c) u7 l7
  s8 : Kd.R (Kd.int .i64) 3 W b (fun k => k < c) u8 l8
  s9 : Kd.R (Kd.int .i64) 3 W b (fun k => k < c) u9 l9
theorem Zv {b c : Nat} {W W' : World} {row : Option Nat} {u : Value} {l : List Int} (h : Kd.R (Kd.int .i64) 3 W b (fun k => k < c) u l) (hg : W.grownBy W' row) (hr : ∀ k, row = some k → k < b ∨ c ≤ k) : Kd.R (Kd.int .i64) 3 W' b (fun k => k < c) u l :=
  Kd.R_grown2 h rfl hg (fun k hk e => by have h1 := Kd.qZ h k e.symm; have h2 : k < c := h.1 k e.symm; have := hr k hk; omega)
theorem Bs.grown {b c : Nat} {w : World} {g8 g10 : Nat} {cs ks : Array Value} {u7 u8 u9 : Value} {l7 l8 l9 : List Int} {W W' : World} {row : Option Nat} (h : Bs b c w g8 g10 cs ks u7 u8 u9 l7 l8 l9 W) (hg : W.grownBy W' row)
    (hr : ∀ k, row = some k → w.heap.size ≤ k ∧ k ≠ g8 ∧ k ≠ g10 ∧ (k < b ∨ c ≤ k)) : Bs b c w g8 g10 cs ks u7 u8 u9 l7 l8 l9 W' where
  bl := h.bl.grown hg (qi h.bl) (fun k hk => (hr k hk).1)
  z := Nat.le_trans h.z hg.size
  k8 := zg h.k8 hg (fun e => (hr g8 e.symm).2.1 rfl)
  k10 := zg h.k10 hg (fun e => (hr g10 e.symm).2.2.1 rfl)
  s7 := Zv h.s7 hg (fun k hk => (hr k hk).2.2.2)
  s8 := Zv h.s8 hg (fun k hk => (hr k hk).2.2.2)
  s9 := Zv h.s9 hg (fun k hk => (hr k hk).2.2.2)
theorem Bs.set {b c : Nat} {w : World} {g8 g10 : Nat} {cs cs' ks : Array Value} {u7 u8 u9 : Value} {l7 l8 l9 : List Int} {W : World} (h : Bs b c w g8 g10 cs ks u7 u8 u9 l7 l8 l9 W) (j : Nat) (x : Value) (e : cs.setIfInBounds j x = cs') (h1 : w.heap.size ≤ g8) (h2 : g8 < b) (h3 : g8 ≠ g10) : Bs b c w g8 g10 cs' ks u7 u8 u9 l7 l8 l9 (W.setCell ⟨g8, j, none⟩ x) where
  bl := h.bl.grown (jh W g8 j x) (qi h.bl) (fun k hk => by injection hk with hk; omega)
  z := Nat.le_trans h.z (jh W g8 j x).size
  k8 := qR h.k8 j x e
  k10 := zg h.k10 (jh W g8 j x) (fun e => by injection e with e; exact h3 e.symm)
  s7 := Zv h.s7 (jh W g8 j x) (fun k hk => by injection hk with hk; omega)
  s8 := Zv h.s8 (jh W g8 j x) (fun k hk => by injection hk with hk; omega)
  s9 := Zv h.s9 (jh W g8 j x) (fun k hk => by injection hk with hk; omega)
def Rw (a b c : Nat) (W : World) (v : Value) (n : Nat) : Prop := ∃ xs : List Int, xs.length = n ∧ Kd.R (Kd.int .i64) 3 W a (fun k => k < b ∨ c ≤ k) v xs
theorem Rw.own {a b c : Nat} {W : World} {v : Value} {n k : Nat} (h : Rw a b c W v n) (e : v.ownBlock = some k) : a ≤ k ∧ k < W.heap.size ∧ (k < b ∨ c ≤ k) ∧ ∃ cells, W.heap[k]? = some (Obj.cells cells 3 (0, 0)) := by
  obtain ⟨xs, _, h⟩ := h
  obtain ⟨h1, h2, h3, q, hq, cells, h4⟩ := (Kd.jq h).1 k e
  obtain rfl : q = 3 := by rcases List.mem_cons.1 hq with hq | hq; exact hq; exact absurd hq (by show ¬ q ∈ ([] : List Nat); simp)
  exact ⟨h2, h3, h1, cells, h4⟩
theorem Rw.grown {a b c : Nat} {W W' : World} {v : Value} {n : Nat} {row : Option Nat} (h : Rw a b c W v n) (hg : W.grownBy W' row) (hne : ∀ k, row = some k → v.ownBlock ≠ some k) : Rw a b c W' v n := by
  obtain ⟨xs, hx, h⟩ := h
  exact ⟨xs, hx, Kd.R_grown2 h rfl hg (fun k hk e => hne k hk e.symm)⟩
theorem Rw.ne {a b c : Nat} {W : World} {v : Value} {n g : Nat} {cs : Array Value} (h : Rw a b c W v n) (hg : W.heap[g]? = some (Obj.cells cs 37 (0, 0))) : v.ownBlock ≠ some g := by
  intro e
  obtain ⟨_, _, _, cells, h4⟩ := h.own e
  rw [hg] at h4
  injection h4 with h4
  injection h4 with _ h4
  exact absurd h4 (by decide)
theorem Rw.set {a b c : Nat} {W : World} {v : Value} {n g : Nat} {cs : Array Value} (h : Rw a b c W v n) (hg : W.heap[g]? = some (Obj.cells cs 37 (0, 0))) (j : Nat) (x : Value) : Rw a b c (W.setCell ⟨g, j, none⟩ x) v n :=
  h.grown (jh W g j x) (fun k hk => by injection hk with hk; rw [← hk]; exact h.ne hg)
theorem Rw.at {a b c : Nat} {W : World} {A : Option Addr} {n cap : Nat} (h : Rw a b c W (.slice A n cap) n) (i : Int) (h0 : 0 ≤ i) (hi : i < n) : ∃ go, A = some ⟨go, 0, none⟩ ∧ (∃ y, W.cell? ⟨go, i.toNat, none⟩ = some (.int .i64 y)) ∧ W.frozen? ⟨go, i.toNat, none⟩ = false ∧
    ∀ x, Rw a b c (W.setCell ⟨go, i.toNat, none⟩ (.int .i64 x)) (.slice A n cap) n := by
  obtain ⟨xs, hx, h⟩ := h
  obtain ⟨go, co, eo, _⟩ := Kd.R_form h (by omega)
  injection eo with eA en ec
  subst eA ec en
  obtain ⟨c1, c2⟩ := Kd.R_celln 0 h i h0 hi
  refine ⟨go, rfl, ⟨_, c1⟩, c2, fun x => ⟨xs.set i.toNat x, by rw [List.length_set], Kd.R_putn h i x⟩⟩
theorem Bs.below {b c : Nat} {w : World} {g8 g10 : Nat} {cs ks : Array Value} {u7 u8 u9 : Value} {l7 l8 l9 : List Int} {W W' : World} (h : Bs b c w g8 g10 cs ks u7 u8 u9 l7 l8 l9 W) (hb : Below W.heap.size W W') : Bs b c w g8 g10 cs ks u7 u8 u9 l7 l8 l9 W' where
  bl := qc h.bl hb
  z := Nat.le_trans h.z (qi hb)
  k8 := (hb.block _ (qz h.k8)).trans h.k8
  k10 := (hb.block _ (qz h.k10)).trans h.k10
  s7 := Kd.qM h.s7 hb
  s8 := Kd.qM h.s8 hb
  s9 := Kd.qM h.s9 hb
theorem Rw.below {a b c : Nat} {W W' : World} {v : Value} {n : Nat} (h : Rw a b c W v n) (hb : Below W.heap.size W W') : Rw a b c W' v n := by
  obtain ⟨xs, hx, h⟩ := h
  exact ⟨xs, hx, Kd.qM h hb⟩
theorem Bs.row {b c : Nat} {w : World} {g8 g10 : Nat} {cs ks : Array Value} {u7 u8 u9 : Value} {l7 l8 l9 : List Int} {W : World} {v : Value} {n go : Nat} (h : Bs b c w g8 g10 cs ks u7 u8 u9 l7 l8 l9 W) (r : Rw w.heap.size b c W v n) (e : v.ownBlock = some go) (j : Nat) (x : Value) : Bs b c w g8 g10 cs ks u7 u8 u9 l7 l8 l9 (W.setCell ⟨go, j, none⟩ x) :=
  h.grown (jh W go j x) (fun k hk => by
    injection hk with hk
    rw [← hk]
    exact ⟨(r.own e).1, fun q => r.ne h.k8 (q ▸ e), fun q => r.ne h.k10 (q ▸ e), (r.own e).2.2.1⟩)
theorem Rw.row {a b c : Nat} {W : World} {v : Value} {n go : Nat} (h : Rw a b c W v n) (hne : v.ownBlock ≠ some go) (j : Nat) (x : Value) : Rw a b c (W.setCell ⟨go, j, none⟩ x) v n :=
  h.grown (jh W go j x) (fun k hk => by injection hk with hk; rw [← hk]; exact hne)
def Dj (u v : Value) : Prop := ∀ k, u.ownBlock = some k → v.ownBlock ≠ some k
theorem Dj.symm {u v : Value} (h : Dj u v) : Dj v u := fun k e1 e2 => h k e2 e1
theorem app_all {b c : Nat} {w : World} {g8 g10 : Nat} {cs cs' ks : Array Value} {u7 u8 u9 : Value} {l7 l8 l9 : List Int} {W W' : World} {v v1 v2 v' : Value} {n n1 n2 : Nat} {xs : List Int} {p : Int}
    (h1 : w.heap.size ≤ g8) (h2 : g8 < b) (h3 : g8 ≠ g10) (hb : Bs b c w g8 g10 cs ks u7 u8 u9 l7 l8 l9 W) (r : Rw w.heap.size b c W v n) (r1 : Rw w.heap.size b c W v1 n1) (r2 : Rw w.heap.size b c W v2 n2) (d1 : Dj v v1) (d2 : Dj v v2) (hx : xs.length = n)
    (k1 : Kd.R (Kd.int .i64) 3 W' w.heap.size (fun k => k < b ∨ c ≤ k) v' (xs ++ [p])) (hg : W.grownBy W' v.ownBlock) (hat : v'.ownBlock = v.ownBlock ∨ ∃ q, v'.ownBlock = some q ∧ W.heap.size ≤ q) (j : Nat) (e : cs.setIfInBounds j v' = cs') :
    Bs b c w g8 g10 cs' ks u7 u8 u9 l7 l8 l9 (W'.setCell ⟨g8, j, none⟩ v') ∧ Rw w.heap.size b c (W'.setCell ⟨g8, j, none⟩ v') v' (n + 1) ∧ Rw w.heap.size b c (W'.setCell ⟨g8, j, none⟩ v') v1 n1 ∧ Rw w.heap.size b c (W'.setCell ⟨g8, j, none⟩ v') v2 n2 ∧ Dj v' v1 ∧ Dj v' v2 := by
  have q : Bs b c w g8 g10 cs ks u7 u8 u9 l7 l8 l9 W' := hb.grown hg (fun k hk => ⟨(r.own hk).1, fun e => r.ne hb.k8 (e ▸ hk), fun e => r.ne hb.k10 (e ▸ hk), (r.own hk).2.2.1⟩)
  have q0 : Rw w.heap.size b c W' v' (n + 1) := ⟨_, by rw [List.length_append, hx]; rfl, k1⟩
  have q1 : Rw w.heap.size b c W' v1 n1 := r1.grown hg (fun k hk => d1 k hk)
  have q2 : Rw w.heap.size b c W' v2 n2 := r2.grown hg (fun k hk => d2 k hk)
  have dd : ∀ {x : Value} {m : Nat}, Rw w.heap.size b c W x m → Dj v x → Dj v' x := by
    intro x m rx dx k hk
    rcases hat with hat | ⟨z, hz, hl⟩
    · exact dx k (hat ▸ hk)
    · rw [hz] at hk
      injection hk with hk
      intro ex
      have := (rx.own ex).2.1
      omega
  exact ⟨q.set j v' e h1 h2 h3, q0.set q.k8 j v', q1.set q.k8 j v', q2.set q.k8 j v', dd r1 d1, dd r2 d2⟩
theorem plV_len (L : List Int) (f en : Int) : ∀ (k i : Nat) (last : Int) (acc ps : List Int), plV L f en k i last acc = some ps → ps.length = acc.length + k
  | 0, _, _, acc, ps, h => by
    unfold plV at h
    injection h with h
    rw [h, Nat.add_zero]
  | k + 1, i, last, acc, ps, h => by
    unfold plV at h
    split at h
    · cases h
    · split at h
      · cases h
      · have := plV_len L f en k (i + 1) _ _ ps h
        rw [this, List.length_append, List.length_singleton]
        omega
theorem readV_bd {bs : List Int} (ho : okB bs) (kd : Int) (rows : List S71) : (Qp bs kd rows).2.adv.length ≤ 5000 ∧ (Qp bs kd rows).2.bear.length ≤ 5000 ∧ (Qp bs kd rows).2.pl.length ≤ 5000 := by
  obtain ⟨H, hH⟩ : ∃ H, jA (zl bs ⟨#[104, 101, 97, 100]⟩ 54 rows) (zl bs ⟨#[109, 97, 120, 112]⟩ 6 rows) (zl bs ⟨#[104, 104, 101, 97]⟩ 36 rows) = H := ⟨_, rfl⟩
  have hz := fun (h : H.1 = 0) => (by have z := headsV_bd ho (TH := zl bs ⟨#[104, 101, 97, 100]⟩ 54 rows) (TM := zl bs ⟨#[109, 97, 120, 112]⟩ 6 rows) (TA := zl bs ⟨#[104, 104, 101, 97]⟩ 36 rows) (fun L e => (QE ho e).1); rw [hH] at z; exact z h : 1 ≤ H.2.2.1 ∧ H.2.2.1 ≤ 4096 ∧ 1 ≤ H.2.2.2.2.2.2.2 ∧ H.2.2.2.2.2.2.2 ≤ H.2.2.1 ∧ (H.2.2.2.2.2.2.1 = 0 ∨ H.2.2.2.2.2.2.1 = 1))
  rw [Zh bs kd rows H hH]
  have z0 : QL.adv.length ≤ 5000 ∧ QL.bear.length ≤ 5000 ∧ QL.pl.length ≤ 5000 := by decide
  by_cases c : H.1 ≠ 0
  · rw [if_pos c]
    exact z0
  · rw [if_neg c]
    have hb := hz (Decidable.of_not_not c)
    cases zl bs ⟨#[104, 109, 116, 120]⟩ (4 * H.2.2.2.2.2.2.2 + 2 * ((H.2.2.1.toNat : Int) - H.2.2.2.2.2.2.2)) rows with
    | none => exact z0
    | some L =>
      dsimp only
      cases e : Zk kd H.2.2.2.2.2.2.1 H.2.2.1.toNat (zl bs ⟨#[67, 70, 70, 32]⟩ 0 rows) (zl bs ⟨#[108, 111, 99, 97]⟩ ((2 + 2 * H.2.2.2.2.2.2.1) * ((H.2.2.1.toNat : Int) + 1)) rows) (zl bs ⟨#[103, 108, 121, 102]⟩ 0 rows) with
      | none => exact z0
      | some ps =>
        dsimp only
        rw [QA, Qo]
        refine ⟨by omega, by omega, ?_⟩
        unfold Zk at e
        split at e
        · split at e
          · cases e
          · injection e with e
            rw [← e]
            exact Nat.zero_le _
        · split at e
          · cases e
          · split at e
            · cases e
            · have := plV_len _ _ _ _ _ _ _ _ e
              rw [List.length_nil] at this
              omega
end Go.Proofs.Ytonljpciadeafaa.S
set_option linter.unusedVariables false
set_option linter.unusedSimpArgs false
namespace Go.Proofs.Ytonljpciadeafaa.S
open Go Go.RowKit Go.Proofs.YtonljpciadeafaaW.PrintWords Go.Proofs.YtonljpciadeafaaW.PrintLast Go.Proofs.YtonljpciadeafaaW.PrintMore
theorem f_read1 (w : World) (cs : Array Value) : ∃ X g, X = (w.alloc (Obj.cells (zA 0 none 0 0 none 0 0) 28)).setRow w.heap.size cs ∧ w.heap.size = g ∧ X.heap[g]? = some (Obj.cells cs 28) ∧ Below w.heap.size w X :=
  ⟨_, _, rfl, rfl, setRow_heap _ _ _ _ _ _ (zk _ _), jr (qF (Below.refl _ _) _) (Nat.le_refl _) cs⟩
theorem same_gx (l : List Int) (hl : l.length ≤ 9223372036854775807) : Ev (fun k => qC.f k l l) true := by
  have h : ∀ (d i : Nat), l.length - i = d → i ≤ l.length → Ev (fun k => qC.l0 k l l (l.length : Int) (i : Int)) true := by
    intro d
    induction d with
    | zero =>
      intro i hd hi
      obtain rfl : i = l.length := by omega
      refine Ev.step (f := fun _ => some true) (fun k => ?_) (Ev.now true)
      show (if (l.length : Int) < (l.length : Int) then _ else _) = _
      rw [if_neg (by omega)]
    | succ d ih =>
      intro i hd hi
      have wi : wrap64 ((i : Int) + 1) = ((i + 1 : Nat) : Int) := by rw [ja (by omega) (by omega)]; push_cast; rfl
      refine Ev.step (f := fun k => qC.l0 k l l (l.length : Int) ((i + 1 : Nat) : Int)) (fun k => ?_) (ih (i + 1) (by omega) (by omega))
      show (if (i : Int) < (l.length : Int) then _ else _) = _
      rw [if_pos (by omega), if_pos (by omega), if_pos (by omega), if_pos (by omega), if_pos rfl, wi]
  obtain ⟨K, hK⟩ := h l.length 0 (Nat.sub_zero _) (Nat.zero_le _)
  refine ⟨K, fun k hk => ?_⟩
  show (if (l.length : Int) = (l.length : Int) then _ else _) = _
  rw [if_pos rfl]
  exact hK k hk
theorem same_ex (a b c d e f : Int) (l m n : List Int) (h1 : l.length ≤ 9223372036854775807) (h2 : m.length ≤ 9223372036854775807) (h3 : n.length ≤ 9223372036854775807) : Ev (fun k => jd.f k a b c d e f l m n a b c d e f l m n) true := by
  obtain ⟨K1, e1⟩ := same_gx l h1
  obtain ⟨K2, e2⟩ := same_gx m h2
  obtain ⟨K3, e3⟩ := same_gx n h3
  refine ⟨K1 + K2 + K3, fun k hk => ?_⟩
  have e1 := e1 k (by omega)
  have e2 := e2 k (by omega)
  have e3 := e3 k (by omega)
  dsimp only at e1 e2 e3 ⊢
  unfold jd.f
  rw [if_pos rfl, if_pos rfl, if_pos rfl, if_pos rfl, if_pos rfl, if_pos rfl, e1, Option.bind_some, if_pos rfl, e2, Option.bind_some, if_pos rfl, e3, Option.bind_some]
theorem open_short {bs : List Int} (h : (je bs 0).2 = 0) : bs.length ≤ 1048576 := by
  unfold je at h
  split at h
  · cases h
  · omega
theorem readV_met0 {bs : List Int} {kd : Int} {rows : List S71} (h : (Qp bs kd rows).1 ≠ 0) : (Qp bs kd rows).2 = QL := by
  obtain ⟨H, hH⟩ : ∃ H, jA (zl bs ⟨#[104, 101, 97, 100]⟩ 54 rows) (zl bs ⟨#[109, 97, 120, 112]⟩ 6 rows) (zl bs ⟨#[104, 104, 101, 97]⟩ 36 rows) = H := ⟨_, rfl⟩
  have e := Zh bs kd rows H hH
  rw [e] at h ⊢
  by_cases c : H.1 ≠ 0
  · rw [if_pos c]
  · rw [if_neg c] at h ⊢
    cases h1 : zl bs ⟨#[104, 109, 116, 120]⟩ (4 * H.2.2.2.2.2.2.2 + 2 * ((H.2.2.1.toNat : Int) - H.2.2.2.2.2.2.2)) rows with
    | none => rfl
    | some L =>
      rw [h1] at h
      dsimp only at h ⊢
      cases h2 : Zk kd H.2.2.2.2.2.2.1 H.2.2.1.toNat (zl bs ⟨#[67, 70, 70, 32]⟩ 0 rows) (zl bs ⟨#[108, 111, 99, 97]⟩ ((2 + 2 * H.2.2.2.2.2.2.1) * ((H.2.2.1.toNat : Int) + 1)) rows) (zl bs ⟨#[103, 108, 121, 102]⟩ 0 rows) with
      | none => rfl
      | some ps =>
        rw [h2] at h
        exact absurd rfl h
theorem readV_len (bs : List Int) (kd : Int) (rows : List S71) : (Qp bs kd rows).2.bear.length = (Qp bs kd rows).2.adv.length := by
  obtain ⟨H, hH⟩ : ∃ H, jA (zl bs ⟨#[104, 101, 97, 100]⟩ 54 rows) (zl bs ⟨#[109, 97, 120, 112]⟩ 6 rows) (zl bs ⟨#[104, 104, 101, 97]⟩ 36 rows) = H := ⟨_, rfl⟩
  rw [Zh bs kd rows H hH]
  by_cases c : H.1 ≠ 0
  · rw [if_pos c]
    rfl
  · rw [if_neg c]
    cases zl bs ⟨#[104, 109, 116, 120]⟩ (4 * H.2.2.2.2.2.2.2 + 2 * ((H.2.2.1.toNat : Int) - H.2.2.2.2.2.2.2)) rows with
    | none => rfl
    | some L =>
      dsimp only
      cases Zk kd H.2.2.2.2.2.2.1 H.2.2.1.toNat (zl bs ⟨#[67, 70, 70, 32]⟩ 0 rows) (zl bs ⟨#[108, 111, 99, 97]⟩ ((2 + 2 * H.2.2.2.2.2.2.1) * ((H.2.2.1.toNat : Int) + 1)) rows) (zl bs ⟨#[103, 108, 121, 102]⟩ 0 rows) with
      | none => rfl
      | some ps =>
        dsimp only
        rw [QA, Qo]
theorem ZK.one {R : Int × Met} {w w' : World} {e : Ending} (hR : R.1 ≠ 0 → R.2 = QL) (h : ZK R w e w') : ∃ A7 c7 A8 c8 A9 c9, e = .returned (.tuple #[.agg (mR R.2 A7 c7 A8 c8 A9 c9), .int .i64 R.1]) ∧ R.2.adv.length ≤ c7 ∧ R.2.bear.length ≤ c8 ∧ R.2.pl.length ≤ c9 ∧
    Kd.C (Kd.int .i64) w' A7 R.2.adv.length R.2.adv ∧ Kd.C (Kd.int .i64) w' A8 R.2.bear.length R.2.bear ∧ Kd.C (Kd.int .i64) w' A9 R.2.pl.length R.2.pl ∧ Below w.heap.size w w' := by
  obtain ⟨hb, ⟨h1, h2⟩ | ⟨h1, A7, c7, A8, c8, A9, c9, h2, l7, l8, l9, q7, q8, q9⟩⟩ := h
  · have e0 := hR h1
    rw [e0]
    exact ⟨none, 0, none, 0, none, 0, h2, Nat.le_refl _, Nat.le_refl _, Nat.le_refl _, Kd.Za _ _, Kd.Za _ _, Kd.Za _ _, hb⟩
  · exact ⟨A7, c7, A8, c8, A9, c9, by rw [h2, h1], l7, l8, l9, q7, q8, q9, hb⟩
theorem Zf.one {R : Int × Met} {w w' : World} {e : Ending} (hR : R.1 ≠ 0 → R.2 = QL) (h : Zf R w e w') : ∃ A7 c7 A8 c8 A9 c9, e = .returned (.tuple #[.agg (mR R.2 A7 c7 A8 c8 A9 c9), .int .i64 R.1]) ∧
    Kd.R (Kd.int .i64) 3 w' w.heap.size (fun k => some k ≠ (.slice A8 R.2.bear.length c8 : Value).ownBlock) (.slice A7 R.2.adv.length c7) R.2.adv ∧
    Kd.R (Kd.int .i64) 3 w' w.heap.size (fun k => some k ≠ (.slice A7 R.2.adv.length c7 : Value).ownBlock) (.slice A8 R.2.bear.length c8) R.2.bear ∧
    Kd.R (Kd.int .i64) 3 w' w.heap.size (fun k => some k ≠ (.slice A7 R.2.adv.length c7 : Value).ownBlock ∧ some k ≠ (.slice A8 R.2.bear.length c8 : Value).ownBlock) (.slice A9 R.2.pl.length c9) R.2.pl ∧ Below w.heap.size w w' := by
  obtain ⟨hb, ⟨h1, h2⟩ | ⟨h1, A7, c7, A8, c8, A9, c9, h2, q7, q8, q9⟩⟩ := h
  · have e0 := hR h1
    rw [e0]
    exact ⟨none, 0, none, 0, none, 0, h2, Kd.jE _ _ _ _ _, Kd.jE _ _ _ _ _, Kd.jE _ _ _ _ _, hb⟩
  · exact ⟨A7, c7, A8, c8, A9, c9, by rw [h2, h1], q7, q8, q9, hb⟩
set_option maxRecDepth 100000 in
set_option maxHeartbeats 8000000 in
theorem reads_walk (bs : List Int) (ho : okB bs) (A : Option Addr) (c : Nat) (w : World) (hr : Kd.C (Kd.int .u8) w A bs.length bs) (hc : bs.length ≤ c) (hm : bs.length ≤ 140737488351232) :
    Calls Try.prog 6 #[.slice A bs.length c] w fun e w' => e = .returned (.bool true) ∧ Below w.heap.size w w' := by
  have HA := qa.mk hr
  have HC := qa.mk hc
  have HM := qa.mk hm
  have HO := qa.mk ho
  have AL := qa.mk (Jp w)
  obtain ⟨V, hV⟩ : ∃ V, je bs 0 = V := ⟨_, rfl⟩
  have OR := qa.mk (fun (W : World) (h : Below w.heap.size w W) => openr bs ho A c W (Kd.qO hr h) hc)
  have OP := qa.mk (fun (A' : Option Addr) (c' : Nat) (W : World) (h : Kd.C (Kd.int .u8) W A' bs.length bs) (h2 : bs.length ≤ c') => ZY bs A' c' 0 W h h2 ho)
  have RO := qa.mk (fun (h : (je bs 0).2 = 0) => open_rows h)
  rw [hV] at OR OP RO
  have HV := qa.mk hV
  clear hr hc hm ho hV
  go_enter Try.func6, Try.ntmps6
  go_upto_region 3 with (go_at_call 13; refine AL.out.mono ?_; rintro q w1 ⟨rfl, h1⟩; have B1 := qa.mk h1; clear h1)
  clear AL
  by_cases cV : V.2 = 0
  rotate_left
  · have CV := qa.mk cV
    have q1 : (V.2 == 0) = false := beq_eq_false_iff_ne.2 cV
    have q2 : (V.2 != 0) = true := bne_iff_ne.2 cV
    have q3 := eq_false cV
    have q4 : (V.2 != V.2) = false := by simp
    have q5 : (V.2 == V.2) = true := by simp
    clear cV
    go_upto_region 4 with (first | (refine wpList_store_row rfl 28 (.tmp 3) (.tmp 20) rfl w2.heap.size (zA 0 none 0 0 none 0 0) rfl rfl 28 (zA 0 none 0 0 none 0 0) MZ.out (by kernel_rfl) rfl (by simp [Value.oneCell']) ?_) | (go_at_call 14; refine (OR.out w1 B1.out).mono ?_; rintro e w2 ⟨h1, ⟨_, rfl⟩ | ⟨h3, _⟩⟩; rotate_left; exact absurd h3 CV.out; have B2 := qa.mk (qc B1.out h1); have MZ := qa.mk (zk w2 (Obj.cells (zA 0 none 0 0 none 0 0) 28)); clear h1))
    obtain ⟨w3, g3, hX, e3, k3, b3⟩ := f_read1 w2 (zA 0 none 0 0 none 0 0)
    rw [← hX, e3]
    have B3 := qa.mk (qc B2.out b3)
    clear hX e3 k3 b3 MZ B2
    go_upto_region 5 with (first | (go_at_call 15; refine (OP.out A10 c10 w10 (Kd.qJ R10.out).2.2 (Kd.qJ R10.out).2.1).mono ?_; rintro e w11 ⟨h1, ⟨_, rfl⟩ | ⟨h3, _⟩⟩; rotate_left; exact absurd h3 CV.out; have B11 := qa.mk (qc B10.out h1); clear h1) | ((with_reducible refine qX (N := 23) rfl ?_); refine Kd.jQ (Kd.int .u8) _ 5 ?hg (N := 23) ?hd (xs := ([] : List Int)) (inner := []) (ok := fun _ => True) (okp := fun _ => True) ?hr ?hp (fun _ hk => hk) trivial (Below.refl _ _) (Nat.le_refl _) (by simp) ?_; (case hd => rfl); (case hg => rfl); (case hr => first | (go_simp; done) | (go_simp; rfl)); (case hp => exact (qY.none _ _)); intro v8 w8 ho hb hg_ hnew_; clear hg_ hnew_; have R8 := qa.mk (Kd.zI ho (qi B3.out)); have B8 := qa.mk (qc B3.out hb); clear ho hb) | ((with_reducible refine qG (b := .append) (xs := #[.tmp 23, .tmp 24]) rfl ?_); at_builtin; refine Kd.zh (Kd.int .u8) (w0 := w) w.heap.size rfl (.tmp 23) (.tmp 24) 23 5 (.int .u8 0) 1 rfl Try.underlying23 info5 rfl (by decide) (by omega) v8 [] bs _ _ _ (fun _ => True) (fun _ => False) rfl rfl ?aO ?aR (fun _ _ h => h) (fun _ h => h.elim) ?aF ?aB ?aS ?aL ?_; (case aR => exact Kd.qO HA.out B8.out); (case aB => exact B8.out); (case aF => exact (fun _ _ => trivial)); (case aO => exact R8.out); (case aS => exact qi B8.out); (case aL => have := HM.out; simp only [List.length_nil]; omega); intro v10 w10 ho hb hg hat; rw [List.nil_append] at ho; obtain ⟨A10, c10, rfl⟩ := Kd.qN ho; have R10 := qa.mk ho; have B10 := qa.mk hb; clear ho hb hg hat))
    go_wp2
    go_ret
    exact ⟨rfl, B11.out⟩
  obtain ⟨⟨kd, rows⟩, e0⟩ := V
  dsimp only at cV
  subst cV
  have RK := qa.mk (RO.out rfl)
  have HS := qa.mk (show bs.length ≤ 1099511627776 by have := open_short (show (je bs 0).2 = 0 by rw [HV.out]); omega)
  obtain ⟨R, hR⟩ : ∃ R, Qp bs kd rows = R := ⟨_, rfl⟩
  have RM := qa.mk (show R.1 ≠ 0 → R.2 = QL by rw [← hR]; exact readV_met0)
  have RE := qa.mk hR
  clear hR RO
  go_upto_region 4 with (first | (refine wpList_store_row rfl 28 (.tmp 3) (.tmp 20) rfl w2.heap.size (zA kd A1 rows.length c1 A bs.length c) rfl rfl 28 (zA 0 none 0 0 none 0 0) MZ.out (by kernel_rfl) rfl (by simp [Value.oneCell']) ?_) | (go_at_call 14; refine (OR.out w1 B1.out).mono ?_; rintro e w2 ⟨h1, ⟨h3, _⟩ | ⟨_, A1, c1, rfl, l1, hC1⟩⟩; exact absurd rfl h3; have B2 := qa.mk (qc B1.out h1); have L1 := qa.mk l1; have C1 := qa.mk hC1; have MZ := qa.mk (zk w2 (Obj.cells (zA 0 none 0 0 none 0 0) 28)); clear h1 l1 hC1))
  obtain ⟨w3, g3, hX, e3, k3, b3⟩ := f_read1 w2 (zA kd A1 rows.length c1 A bs.length c)
  rw [← hX, e3]
  have B3 := qa.mk (qc B2.out b3)
  have C3 := qa.mk (Kd.qO C1.out b3)
  have K3 := qa.mk k3
  clear hX e3 k3 b3 MZ B2 C1 OR
  go_upto_region 5 with (first | (go_at_call 15; refine (OP.out A10 c10 w10 (Kd.qJ R10.out).2.2 (Kd.qJ R10.out).2.1).mono ?_; rintro e w11 ⟨h1, ⟨h3, _⟩ | ⟨_, gF, rfl, hF⟩⟩; exact absurd rfl h3; have F11 := qa.mk (qc F10.out h1); have FN := qa.mk hF; clear h1 hF) | ((with_reducible refine qX (N := 23) rfl ?_); refine Kd.jQ (Kd.int .u8) _ 5 ?hg (N := 23) ?hd (xs := ([] : List Int)) (inner := []) (ok := fun _ => True) (okp := fun _ => True) ?hr ?hp (fun _ hk => hk) trivial (Below.refl _ _) (Nat.le_refl _) (by simp) ?_; (case hd => rfl); (case hg => rfl); (case hr => first | (go_simp; done) | (go_simp; rfl)); (case hp => exact (qY.none _ _)); intro v8 w8 ho hb hg_ hnew_; clear hg_ hnew_; have R8 := qa.mk ho; have B8 := qa.mk (qc B3.out hb); have F8 := qa.mk hb; clear ho hb) | ((with_reducible refine qG (b := .append) (xs := #[.tmp 23, .tmp 24]) rfl ?_); at_builtin; refine Kd.zh (Kd.int .u8) (w0 := w3) w3.heap.size rfl (.tmp 23) (.tmp 24) 23 5 (.int .u8 0) 1 rfl Try.underlying23 info5 rfl (by decide) (by omega) v8 [] bs _ _ _ (fun _ => True) (fun _ => False) rfl rfl ?aO ?aR (fun _ _ h => h) (fun _ h => h.elim) ?aF ?aB ?aS ?aL ?_; (case aR => exact Kd.qO HA.out B8.out); (case aB => exact F8.out); (case aF => exact (fun _ _ => trivial)); (case aO => exact R8.out); (case aS => exact qi F8.out); (case aL => have := HM.out; simp only [List.length_nil]; omega); intro v10 w10 ho hb hg hat; rw [List.nil_append] at ho; obtain ⟨A10, c10, rfl⟩ := Kd.qN ho; have R10 := qa.mk ho; have F10 := qa.mk hb; clear ho hb hg hat))
  clear R8 B8 F8 R10 F10 OP
  go_upto_region 7 with fail
  have K11 := qa.mk ((F11.out.block _ (qz K3.out)).trans K3.out)
  have f0 := qb K11.out 0
  have f1 := qb K11.out 1
  have f2 := qb K11.out 2
  have RR := qa.mk (readr bs HO.out kd rows A1 c1 A c w11 (Kd.qO C3.out F11.out) L1.out (Kd.qO HA.out (qc B3.out F11.out)) HC.out HS.out RK.out)
  rw [RE.out] at RR
  go_upto_region 8 with (first | (refine wpList_store_row rfl 37 (.tmp 7) (.tmp 50) rfl w12.heap.size (mR R.2 A20 l20 A21 l21 A22 l22) rfl rfl 37 zi MZ.out (by kernel_rfl) rfl (by simp [Value.oneCell']) ?_) | (go_at_call 16; refine RR.out.mono ?_; intro q w12 h; obtain ⟨A20, l20, A21, l21, A22, l22, rfl, h1, h2, h3, h4, h5, h6, h7⟩ := ZK.one RM.out h; have V12 := qa.mk (And.intro h1 (And.intro h2 h3)); have C12 := qa.mk (And.intro h4 (And.intro h5 h6)); have F12 := qa.mk (qc F11.out h7); have E12 := qa.mk h7; have MZ := qa.mk (zk w12 (Obj.cells zi 37)); clear h h1 h2 h3 h4 h5 h6 h7))
  obtain ⟨w13, g7, hX, e7, k7, b7⟩ := Zi w12 (mR R.2 A20 l20 A21 l21 A22 l22)
  rw [← hX, e7]
  have K7 := qa.mk k7
  have E13 := qa.mk (qc E12.out b7)
  have F13 := qa.mk (qc F12.out b7)
  have W7 := qa.mk (Kd.qO C12.out.1 b7)
  have W8 := qa.mk (Kd.qO C12.out.2.1 b7)
  have W9 := qa.mk (Kd.qO C12.out.2.2 b7)
  clear hX e7 k7 b7 MZ E12 F12 C12 f0 f1 f2 K11 RR
  have RD := qa.mk (show ∀ W, Below w11.heap.size w11 W → Calls Try.prog 17 #[.pointer (some ⟨gF, 0, none⟩)] W (Zf R W) from fun W h => by
    have q := JL bs HO.out gF kd rows W (FN.out.below h)
    rw [RE.out] at q
    exact q)
  go_upto_region 9 with (first | (refine wpList_store_row rfl 37 (.tmp 8) (.tmp 55) rfl w14.heap.size (mR R.2 A30 l30 A31 l31 A32 l32) rfl rfl 37 zi MZ.out (by kernel_rfl) rfl (by simp [Value.oneCell']) ?_) | (go_at_call 17; refine (RD.out w13 E13.out).mono ?_; intro q w14 h; obtain ⟨A30, l30, A31, l31, A32, l32, rfl, h1, h2, h3, h7⟩ := Zf.one RM.out h; have P7 := qa.mk h1; have P8 := qa.mk h2; have P9 := qa.mk h3; have E14 := qa.mk h7; have MZ := qa.mk (zk w14 (Obj.cells zi 37)); clear h h1 h2 h3 h7))
  obtain ⟨w15, g8, hX, e8, k8, b8⟩ := Zi w14 (mR R.2 A30 l30 A31 l31 A32 l32)
  rw [← hX, e8]
  have K8 := qa.mk k8
  have X8a := qa.mk (show w13.heap.size ≤ g8 by have := qi E14.out; omega)
  have G15 := qa.mk (qc E14.out b8)
  have Q7 := qa.mk (Kd.qM P7.out b8)
  have Q8 := qa.mk (Kd.qM P8.out b8)
  have Q9 := qa.mk (Kd.qM P9.out b8)
  clear hX e8 k8 b8 MZ E14 P7 P8 P9
  go_upto_region 10 with (first | (refine wpList_store_row rfl 37 (.tmp 10) (.tmp 60) rfl w16.heap.size (mR R.2 A40 l40 A41 l41 A42 l42) rfl rfl 37 zi MZ.out (by kernel_rfl) rfl (by simp [Value.oneCell']) ?_) | (go_at_call 17; refine (RD.out w15 (qc E13.out G15.out)).mono ?_; intro q w16 h; obtain ⟨A40, l40, A41, l41, A42, l42, rfl, h1, h2, h3, h7⟩ := Zf.one RM.out h; have N7 := qa.mk h1; have N8 := qa.mk h2; have N9 := qa.mk h3; have E16 := qa.mk h7; have MZ := qa.mk (zk w16 (Obj.cells zi 37)); clear h h1 h2 h3 h7))
  obtain ⟨w17, g10, hX, e10, k10, b10⟩ := Zi w16 (mR R.2 A40 l40 A41 l41 A42 l42)
  rw [← hX, e10]
  have K10 := qa.mk k10
  have X10a := qa.mk (show w15.heap.size ≤ g10 by have := qi E16.out; omega)
  have G17 := qa.mk (qc E16.out b10)
  have H17 := qa.mk (qc G15.out G17.out)
  have S7 := qa.mk (Kd.qM N7.out b10)
  have S8 := qa.mk (Kd.qM N8.out b10)
  have S9 := qa.mk (Kd.qM N9.out b10)
  have KA := qa.mk ((G17.out.block _ (qz K8.out)).trans K8.out)
  have KB := qa.mk ((H17.out.block _ (qz K7.out)).trans K7.out)
  clear hX e10 k10 b10 MZ E16 N7 N8 N9
  have c0 := qb KA.out 0
  have c1 := qb KA.out 1
  have c2 := qb KA.out 2
  have c3 := qb KA.out 3
  have c4 := qb KA.out 4
  have c5 := qb KA.out 5
  have c6 := qb KA.out 6
  have c7 := qb KA.out 7
  have c8 := qb KA.out 8
  have d0 := qb KB.out 0
  have d1 := qb KB.out 1
  have d2 := qb KB.out 2
  have d3 := qb KB.out 3
  have d4 := qb KB.out 4
  have d5 := qb KB.out 5
  have d6 := qb KB.out 6
  have d7 := qb KB.out 7
  have d8 := qb KB.out 8
  obtain ⟨ks, hks⟩ := (same_ex R.2.kd R.2.u R.2.n R.2.a R.2.d R.2.gp R.2.adv R.2.bear R.2.pl W7.out.2.1 W8.out.2.1 W9.out.2.1).rounds
  have ES := qa.mk hks
  have SE := qa.mk (same_e w17 R.2 A30 A31 A32 A20 A21 A22 l30 l31 l32 l20 l21 l22 R.2.adv R.2.bear R.2.pl R.2.kd R.2.u R.2.n R.2.a R.2.d R.2.gp (Kd.qO (Kd.qJ Q7.out).2.2 G17.out) (Kd.qO (Kd.qJ Q8.out).2.2 G17.out) (Kd.qO (Kd.qJ Q9.out).2.2 G17.out) (Kd.qJ Q7.out).2.1 (Kd.qJ Q8.out).2.1 (Kd.qJ Q9.out).2.1 (Kd.qO W7.out H17.out) (Kd.qO W8.out H17.out) (Kd.qO W9.out H17.out) V12.out.1 V12.out.2.1 V12.out.2.2 ks true ES.out)
  clear hks
  have RB := qa.mk (show R.2.adv.length ≤ 5000 ∧ R.2.bear.length ≤ 5000 ∧ R.2.pl.length ≤ 5000 by rw [← RE.out]; exact readV_bd HO.out kd rows)
  have RL := qa.mk (show R.2.bear.length = R.2.adv.length by rw [← RE.out]; exact readV_len bs kd rows)
  obtain ⟨b, hb⟩ : ∃ b, w15.heap.size = b := ⟨_, rfl⟩
  obtain ⟨c, hc⟩ : ∃ c, w17.heap.size = c := ⟨_, rfl⟩
  have X8 := qa.mk (show w13.heap.size ≤ g8 ∧ g8 < b ∧ g8 ≠ g10 by
    have := X8a.out
    have := qz K8.out
    have := X10a.out
    omega)
  have T7 := qa.mk (show Rw w13.heap.size b c w17 (.slice A30 R.2.adv.length l30) R.2.adv.length from ⟨_, rfl, Kd.qM (Kd.qH (Kd.jq Q7.out) (fun k hk => (Or.inl (by have := hk.2.2.1; omega) : k < b ∨ c ≤ k))) G17.out⟩)
  have T8 := qa.mk (show Rw w13.heap.size b c w17 (.slice A31 R.2.bear.length l31) R.2.bear.length from ⟨_, rfl, Kd.qM (Kd.qH (Kd.jq Q8.out) (fun k hk => (Or.inl (by have := hk.2.2.1; omega) : k < b ∨ c ≤ k))) G17.out⟩)
  have T9 := qa.mk (show Rw w13.heap.size b c w17 (.slice A32 R.2.pl.length l32) R.2.pl.length from ⟨_, rfl, Kd.qM (Kd.qH (Kd.jq Q9.out) (fun k hk => (Or.inl (by have := hk.2.2.1; omega) : k < b ∨ c ≤ k))) G17.out⟩)
  have DJ := qa.mk (show Dj (.slice A30 R.2.adv.length l30) (.slice A31 R.2.bear.length l31) ∧ Dj (.slice A30 R.2.adv.length l30) (.slice A32 R.2.pl.length l32) ∧ Dj (.slice A31 R.2.bear.length l31) (.slice A32 R.2.pl.length l32) from
    ⟨fun k e1 e2 => Q8.out.1 k e2 e1.symm, fun k e1 e2 => (Q9.out.1 k e2).1 e1.symm, fun k e1 e2 => (Q9.out.1 k e2).2 e1.symm⟩)
  have M7 := Kd.qH (Kd.jq S7.out) (fun k hk => (by have := hk.2.2.1; omega : k < c))
  have M8 := Kd.qH (Kd.jq S8.out) (fun k hk => (by have := hk.2.2.1; omega : k < c))
  have M9 := Kd.qH (Kd.jq S9.out) (fun k hk => (by have := hk.2.2.1; omega : k < c))
  rw [hb] at M7 M8 M9
  have T0 := qa.mk (show Bs b c w13 g8 g10 (mR R.2 A30 l30 A31 l31 A32 l32) (mR R.2 A40 l40 A41 l41 A42 l42) (.slice A40 R.2.adv.length l40) (.slice A41 R.2.bear.length l41) (.slice A42 R.2.pl.length l42) R.2.adv R.2.bear R.2.pl w17 from ⟨H17.out, Nat.le_of_eq hc.symm, KA.out, K10.out, M7, M8, M9⟩)
  have BB := qa.mk (qc B3.out F13.out)
  have G7 := qa.mk (qz K7.out)
  clear hb hc M7 M8 M9 X8a X10a Q7 Q8 Q9 S7 S8 S9 RE RM RD
  go_upto_region 12 with (go_at_call 18; refine SE.out.mono ?_; rintro q w18 ⟨rfl, h1⟩; have I18 := qa.mk h1; clear h1)
  have V7 := qa.mk (T7.out.below I18.out)
  have V8 := qa.mk (T8.out.below I18.out)
  have V9 := qa.mk (T9.out.below I18.out)
  have V0 := qa.mk (T0.out.below I18.out)
  clear c0 c1 c2 c3 c4 c5 c6 c7 c8 d0 d1 d2 d3 d4 d5 d6 d7 d8 T7 T8 T9 T0 I18 SE KA KB K8 K10 G15 G17 H17
  have c6 := qb V0.out.k8 6
  go_wp2
  go_loopw [74] (fun v74 wr => ∃ i : Int, v74 = .int .i64 i ∧ 0 ≤ i ∧ i ≤ (R.2.adv.length : Int) ∧ qa (Bs b c w13 g8 g10 (mR R.2 A30 l30 A31 l31 A32 l32) (mR R.2 A40 l40 A41 l41 A42 l42) (.slice A40 R.2.adv.length l40) (.slice A41 R.2.bear.length l41) (.slice A42 R.2.pl.length l42) R.2.adv R.2.bear R.2.pl wr) ∧ qa (Rw w13.heap.size b c wr (.slice A30 R.2.adv.length l30) R.2.adv.length) ∧ qa (Rw w13.heap.size b c wr (.slice A31 R.2.bear.length l31) R.2.bear.length) ∧ qa (Rw w13.heap.size b c wr (.slice A32 R.2.pl.length l32) R.2.pl.length)) (fun v74 _ => R.2.adv.length - (intOf v74).toNat)
  case atStart => exact ⟨0, rfl, by omega, by omega, V0, V7, V8, V9⟩
  case round =>
    obtain ⟨i, rfl, i0, hi, H0, H7, H8, H9⟩ := hrel
    clear c6 V0 V7 V8 V9
    by_cases ilt : i < (R.2.adv.length : Int)
    · have il := eq_true ilt
      have ip := eq_true i0
      have i64 : i + 1 ≤ 9223372036854775807 := by have := RB.out; omega
      have jlt : i < (R.2.bear.length : Int) := by rw [RL.out]; exact ilt
      have jb := eq_true jlt
      have c6 := qb H0.out.k8 6
      obtain ⟨go, e7, ⟨y7, x7⟩, f7, P7⟩ := H7.out.at i i0 ilt
      have PP := qa.mk P7
      have E7 := qa.mk e7
      have I0 := qa.mk (And.intro i0 (And.intro ilt jlt))
      clear P7 i0 ilt jlt
      subst e7
      go_upto_region 16 with ((with_reducible refine ZW (t := 3) (p := 80) rfl ?_); refine ZG (t := 3) (p := 80) (v := ?vo_) (w1 := (wr.setCell ⟨go, i.toNat, none⟩ (.int .i64 (-1)))) ?hg ?ho ?hn ?hr ?_; (case ho => rfl); (case hg => rfl); (case hn => rfl); (case hr => first | (go_simp; done) | (go_simp; rfl)); intro w20 hw)
      have J7 := qa.mk (show Rw w13.heap.size b c w20 _ R.2.adv.length by rw [hw]; exact PP.out _)
      have J0 := qa.mk (show Bs b c w13 g8 g10 _ _ _ _ _ _ _ _ w20 by rw [hw]; exact H0.out.row H7.out rfl _ _)
      have J8 := qa.mk (show Rw w13.heap.size b c w20 _ R.2.bear.length by rw [hw]; exact H8.out.row (DJ.out.1 go rfl) _ _)
      have J9 := qa.mk (show Rw w13.heap.size b c w20 _ R.2.pl.length by rw [hw]; exact H9.out.row (DJ.out.2.1 go rfl) _ _)
      clear hw PP H0 H7 H8 H9 c6 x7 f7
      have c7 := qb J0.out.k8 7
      obtain ⟨gp, e8, ⟨y8, x8⟩, f8, P8⟩ := J8.out.at i I0.out.1 I0.out.2.2
      have PP := qa.mk P8
      clear P8
      subst e8
      go_wp2_with ((with_reducible refine ZW (t := 3) (p := 84) rfl ?_); refine ZG (t := 3) (p := 84) (v := ?vo_) (w1 := (w20.setCell ⟨gp, i.toNat, none⟩ (.int .i64 (-2)))) ?hg ?ho ?hn ?hr ?_; (case ho => rfl); (case hg => rfl); (case hn => rfl); (case hr => first | (go_simp; done) | (go_simp; rfl)); intro w21 hw)
      have HI := I0.out
      have HB := RB.out
      have HW : wrap64 (i + 1) = i + 1 := ja (by omega) (by omega)
      refine ⟨⟨i + 1, by rw [HW], by omega, by omega, ⟨J0.out.row J8.out rfl _ _⟩, ⟨J7.out.row (DJ.out.1.symm gp rfl) _ _⟩, ⟨PP.out _⟩, ⟨J9.out.row (DJ.out.2.2 gp rfl) _ _⟩⟩, ?_⟩
      show R.2.adv.length - (wrap64 (i + 1)).toNat < R.2.adv.length - i.toNat
      rw [HW]
      clear HW
      omega
    · have il := eq_false ilt
      clear ilt
      have c8 := qb H0.out.k8 8
      go_wp2
      go_loopw [89] (fun v89 wq => ∃ i : Int, v89 = .int .i64 i ∧ 0 ≤ i ∧ i ≤ (R.2.pl.length : Int) ∧ qa (Bs b c w13 g8 g10 (mR R.2 A30 l30 A31 l31 A32 l32) (mR R.2 A40 l40 A41 l41 A42 l42) (.slice A40 R.2.adv.length l40) (.slice A41 R.2.bear.length l41) (.slice A42 R.2.pl.length l42) R.2.adv R.2.bear R.2.pl wq) ∧ qa (Rw w13.heap.size b c wq (.slice A30 R.2.adv.length l30) R.2.adv.length) ∧ qa (Rw w13.heap.size b c wq (.slice A31 R.2.bear.length l31) R.2.bear.length) ∧ qa (Rw w13.heap.size b c wq (.slice A32 R.2.pl.length l32) R.2.pl.length)) (fun v89 _ => R.2.pl.length - (intOf v89).toNat)
      case atStart => exact ⟨0, rfl, by omega, by omega, H0, H7, H8, H9⟩
      case round =>
        obtain ⟨j, rfl, j0, hj, Y0, Y7, Y8, Y9⟩ := hrel
        clear c8 H0 H7 H8 H9 il i0 hi
        by_cases jlt : j < (R.2.pl.length : Int)
        · have jl := eq_true jlt
          have jp := eq_true j0
          have j64 : j + 1 ≤ 9223372036854775807 := by have := RB.out; omega
          have c8 := qb Y0.out.k8 8
          obtain ⟨go, e9, ⟨y9, x9⟩, f9, P9⟩ := Y9.out.at j j0 jlt
          have PP := qa.mk P9
          have I0 := qa.mk (And.intro j0 jlt)
          clear P9 j0 jlt
          subst e9
          go_wp2
          have HI := I0.out
          have HB := RB.out
          have HW : wrap64 (j + 1) = j + 1 := ja (by omega) (by omega)
          refine ⟨⟨j + 1, by rw [HW], by omega, by omega, ⟨Y0.out.row Y9.out rfl _ _⟩, ⟨Y7.out.row (DJ.out.2.1.symm go rfl) _ _⟩, ⟨Y8.out.row (DJ.out.2.2.symm go rfl) _ _⟩, ⟨PP.out _⟩⟩, ?_⟩
          show R.2.pl.length - (wrap64 (j + 1)).toNat < R.2.pl.length - j.toNat
          rw [HW]
          clear HW
          omega
        · have jl := eq_false jlt
          clear jlt
          have T8 := qa.mk (show 5000 + 9 ≤ 6000 by omega)
          go_wp2
          go_loopw [14] (fun v14 wq => ∃ (i : Int) (A7 : Option Addr) (n7 c7 : Nat) (A8 : Option Addr) (n8 c8 : Nat) (A9 : Option Addr) (n9 c9 : Nat), v14 = .int .i64 i ∧ 0 ≤ i ∧ i ≤ 9 ∧ qa (Bs b c w13 g8 g10 (mq R.2.kd R.2.u R.2.n R.2.a R.2.d R.2.gp (.slice A7 n7 c7) (.slice A8 n8 c8) (.slice A9 n9 c9)) (mR R.2 A40 l40 A41 l41 A42 l42) (.slice A40 R.2.adv.length l40) (.slice A41 R.2.bear.length l41) (.slice A42 R.2.pl.length l42) R.2.adv R.2.bear R.2.pl wq) ∧ qa (Rw w13.heap.size b c wq (.slice A7 n7 c7) n7) ∧ qa (Rw w13.heap.size b c wq (.slice A8 n8 c8) n8) ∧ qa (Rw w13.heap.size b c wq (.slice A9 n9 c9) n9) ∧ qa (Dj (.slice A7 n7 c7) (.slice A8 n8 c8) ∧ Dj (.slice A7 n7 c7) (.slice A9 n9 c9) ∧ Dj (.slice A8 n8 c8) (.slice A9 n9 c9)) ∧ qa (n7 ≤ 5000 + i.toNat ∧ n8 ≤ 5000 + i.toNat ∧ n9 ≤ 5000 + i.toNat)) (fun v14 _ => 9 - (intOf v14).toNat)
          case atStart => exact ⟨0, A30, R.2.adv.length, l30, A31, R.2.bear.length, l31, A32, R.2.pl.length, l32, rfl, by omega, by omega, Y0, Y7, Y8, Y9, DJ, ⟨RB.out⟩⟩
          case round =>
            obtain ⟨i, A7, n7, c7, A8, n8, c8, A9, n9, c9, rfl, i0, hi, U0, U7, U8, U9, UD, UN⟩ := hrel
            clear Y0 Y7 Y8 Y9 jl j0 hj DJ
            by_cases ilt : i < 9
            · have il := eq_true ilt
              have i64 : i + 1 ≤ 9223372036854775807 := by omega
              have I0 := qa.mk (And.intro i0 ilt)
              have UM := qa.mk (show n7 ≤ 6000 ∧ n8 ≤ 6000 ∧ n9 ≤ 6000 by have := UN.out; omega)
              clear i0 ilt
              obtain ⟨xs7, lx, r⟩ := U7.out
              have lx7 := qa.mk lx
              have r7 := qa.mk r
              clear lx r
              have c6 := qb U0.out.k8 6
              go_upto_region 27 with ((with_reducible refine qG (b := .append) (xs := #[.tmp 102, .tmp 103]) rfl ?_); at_builtin; refine Kd.zM (Kd.int .i64) (w0 := wr) w13.heap.size rfl (.tmp 102) (.tmp 103) 35 3 (.int .i64 0) 8 rfl Try.underlying35 info3 rfl (by decide) (by omega) (.slice A7 n7 c7) xs7 1 [.int .i64 1] (fun k => k < b ∨ c ≤ k) (fun _ => False) rfl (by first | (go_simp; done) | (go_simp; rfl)) ?aP (fun _ hk => hk.elim) ?aF ?aO ?aB ?aS ?aL ?_; (case aP => exact rfl); (case aF => exact fun k hk => Or.inr (Nat.le_trans U0.out.z hk)); (case aO => exact r7.out); (case aB => exact Below.refl _ _); (case aS => exact qi U0.out.bl); (case aL => rw [lx7.out]; have := UM.out; omega); intro v70 w70 k1 k2 k3 k4; have K60 := qa.mk (zg U0.out.k8 k3 (fun e => U7.out.ne U0.out.k8 e.symm)); obtain ⟨A71, c71, e60⟩ := Kd.qN k1; rw [List.length_append, List.length_singleton, lx7.out] at e60; subst e60; have AP := qa.mk (app_all X8.out.1 X8.out.2.1 X8.out.2.2 U0.out U7.out U8.out U9.out UD.out.1 UD.out.2.1 lx7.out k1 k3 k4 6 rfl); have q6 := qb K60.out 6; have qf := qd K60.out 6; clear k1 k2 k3 k4 K60)
              obtain ⟨wS, hS⟩ : ∃ W, W = (w70.setCell ⟨g8, 6, none⟩ (.slice A71 (n7 + 1) c71)) := ⟨_, rfl⟩
              have AQ := AP.out
              rw [← hS] at AQ ⊢
              obtain ⟨a0, a7, a8, a9, d1, d2⟩ := AQ
              have S0 := qa.mk a0
              have S7 := qa.mk a7
              have S8 := qa.mk a8
              have S9 := qa.mk a9
              have SD := qa.mk (And.intro d1 (And.intro d2 UD.out.2.2))
              clear a0 a7 a8 a9 d1 d2 hS AP c6 q6 qf U0 U7 U8 U9 UD lx7 r7
              obtain ⟨xs9, lx, r⟩ := S9.out
              have lx9 := qa.mk lx
              have r9 := qa.mk r
              clear lx r
              have c6 := qb S0.out.k8 8
              go_upto_region 28 with ((with_reducible refine qG (b := .append) (xs := #[.tmp 107, .tmp 108]) rfl ?_); at_builtin; refine Kd.zM (Kd.int .i64) (w0 := wS) w13.heap.size rfl (.tmp 107) (.tmp 108) 35 3 (.int .i64 0) 8 rfl Try.underlying35 info3 rfl (by decide) (by omega) (.slice A9 n9 c9) xs9 1 [.int .i64 1] (fun k => k < b ∨ c ≤ k) (fun _ => False) rfl (by first | (go_simp; done) | (go_simp; rfl)) ?aP (fun _ hk => hk.elim) ?aF ?aO ?aB ?aS ?aL ?_; (case aP => exact rfl); (case aF => exact fun k hk => Or.inr (Nat.le_trans S0.out.z hk)); (case aO => exact r9.out); (case aB => exact Below.refl _ _); (case aS => exact qi S0.out.bl); (case aL => rw [lx9.out]; have := UM.out; omega); intro v90 w90 k1 k2 k3 k4; have K60 := qa.mk (zg S0.out.k8 k3 (fun e => S9.out.ne S0.out.k8 e.symm)); obtain ⟨A91, c91, e60⟩ := Kd.qN k1; rw [List.length_append, List.length_singleton, lx9.out] at e60; subst e60; have AP := qa.mk (app_all X8.out.1 X8.out.2.1 X8.out.2.2 S0.out S9.out S7.out S8.out SD.out.2.1.symm SD.out.2.2.symm lx9.out k1 k3 k4 8 rfl); have q6 := qb K60.out 8; have qf := qd K60.out 8; clear k1 k2 k3 k4 K60)
              obtain ⟨wT, hT⟩ : ∃ W, W = (w90.setCell ⟨g8, 8, none⟩ (.slice A91 (n9 + 1) c91)) := ⟨_, rfl⟩
              have AQ := AP.out
              rw [← hT] at AQ ⊢
              obtain ⟨a0, a9, a7, a8, d1, d2⟩ := AQ
              have T0 := qa.mk a0
              have T9 := qa.mk a9
              have T7 := qa.mk a7
              have T8 := qa.mk a8
              have TD := qa.mk (And.intro SD.out.1 (And.intro d1.symm d2.symm))
              clear a0 a9 a7 a8 d1 d2 hT AP c6 q6 qf S0 S7 S8 S9 SD lx9 r9
              obtain ⟨xs8, lx, r⟩ := T8.out
              have lx8 := qa.mk lx
              have r8 := qa.mk r
              clear lx r
              have c6 := qb T0.out.k8 7
              go_wp2_with ((with_reducible refine qG (b := .append) (xs := #[.tmp 112, .tmp 113]) rfl ?_); at_builtin; refine Kd.zM (Kd.int .i64) (w0 := wT) w13.heap.size rfl (.tmp 112) (.tmp 113) 35 3 (.int .i64 0) 8 rfl Try.underlying35 info3 rfl (by decide) (by omega) (.slice A8 n8 c8) xs8 1 [.int .i64 1] (fun k => k < b ∨ c ≤ k) (fun _ => False) rfl (by first | (go_simp; done) | (go_simp; rfl)) ?aP (fun _ hk => hk.elim) ?aF ?aO ?aB ?aS ?aL ?_; (case aP => exact rfl); (case aF => exact fun k hk => Or.inr (Nat.le_trans T0.out.z hk)); (case aO => exact r8.out); (case aB => exact Below.refl _ _); (case aS => exact qi T0.out.bl); (case aL => rw [lx8.out]; have := UM.out; omega); intro v80 w80 k1 k2 k3 k4; have K60 := qa.mk (zg T0.out.k8 k3 (fun e => T8.out.ne T0.out.k8 e.symm)); obtain ⟨A81, c81, e60⟩ := Kd.qN k1; rw [List.length_append, List.length_singleton, lx8.out] at e60; subst e60; have AP := qa.mk (app_all X8.out.1 X8.out.2.1 X8.out.2.2 T0.out T8.out T7.out T9.out TD.out.1.symm TD.out.2.2 lx8.out k1 k3 k4 7 rfl); have q6 := qb K60.out 7; have qf := qd K60.out 7; clear k1 k2 k3 k4 K60)
              obtain ⟨a0, a8, a7, a9, d1, d2⟩ := AP.out
              have HI := I0.out
              have HN := UN.out
              have HW : wrap64 (i + 1) = i + 1 := ja (by omega) (by omega)
              refine ⟨⟨i + 1, A71, n7 + 1, c71, A81, n8 + 1, c81, A91, n9 + 1, c91, by rw [HW], by omega, by omega, ⟨a0⟩, ⟨a7⟩, ⟨a8⟩, ⟨a9⟩, ⟨⟨d1.symm, TD.out.2.1, d2⟩⟩, ⟨by omega⟩⟩, ?_⟩
              show 9 - (wrap64 (i + 1)).toNat < 9 - i.toNat
              rw [HW]
              clear HW
              omega
            · have il := eq_false ilt
              clear ilt
              have d0 := qb ((U0.out.bl.block _ G7.out).trans K7.out) 0
              have d1 := qb ((U0.out.bl.block _ G7.out).trans K7.out) 1
              have d2 := qb ((U0.out.bl.block _ G7.out).trans K7.out) 2
              have d3 := qb ((U0.out.bl.block _ G7.out).trans K7.out) 3
              have d4 := qb ((U0.out.bl.block _ G7.out).trans K7.out) 4
              have d5 := qb ((U0.out.bl.block _ G7.out).trans K7.out) 5
              have d6 := qb ((U0.out.bl.block _ G7.out).trans K7.out) 6
              have d7 := qb ((U0.out.bl.block _ G7.out).trans K7.out) 7
              have d8 := qb ((U0.out.bl.block _ G7.out).trans K7.out) 8
              have e0 := qb U0.out.k10 0
              have e1 := qb U0.out.k10 1
              have e2 := qb U0.out.k10 2
              have e3 := qb U0.out.k10 3
              have e4 := qb U0.out.k10 4
              have e5 := qb U0.out.k10 5
              have e6 := qb U0.out.k10 6
              have e7 := qb U0.out.k10 7
              have e8 := qb U0.out.k10 8
              obtain ⟨z7, z8, z9⟩ := And.intro (Kd.qJ U0.out.s7) (And.intro (Kd.qJ U0.out.s8) (Kd.qJ U0.out.s9))
              have SE := qa.mk (same_e wr R.2 A40 A41 A42 A20 A21 A22 l40 l41 l42 l20 l21 l22 R.2.adv R.2.bear R.2.pl R.2.kd R.2.u R.2.n R.2.a R.2.d R.2.gp z7.2.2 z8.2.2 z9.2.2 z7.2.1 z8.2.1 z9.2.1 (Kd.qO W7.out U0.out.bl) (Kd.qO W8.out U0.out.bl) (Kd.qO W9.out U0.out.bl) V12.out.1 V12.out.2.1 V12.out.2.2 ks true ES.out)
              have BE := qa.mk (qc BB.out U0.out.bl)
              clear z7 z8 z9
              go_wp2_with (go_at_call 18; refine SE.out.mono ?_; rintro q w99 ⟨rfl, h1⟩; have I99 := qa.mk h1; clear h1)
              go_ret
              exact ⟨rfl, qc BE.out I99.out⟩
end Go.Proofs.Ytonljpciadeafaa.S
