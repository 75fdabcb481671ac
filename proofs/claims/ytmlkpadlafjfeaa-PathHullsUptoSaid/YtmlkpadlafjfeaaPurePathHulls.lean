/- PathHulls answers true for any outline of at most 1048576 contours of at most 1048576 knots each: hulls and bounds are the least boxes, and a flattened outline lies within its hull. -/
import Derived.Test.YtmlkpadlafjfeaaPx0
import Derived.Test.YtmlkpadlafjfeaaPx24
import Derived.Test.YtmlkpadlafjfeaaPx30
import Derived.Test.YtmlkpadlafjfeaaPx44
import Derived.Test.YtmlkpadlafjfeaaPx48
import Derived.Test.YtmlkpadlafjfeaaPx50
import Derived.Test.YtmlkpadlafjfeaaPathHuP
import Derived.Test.YtmlkpadlafjfeaaPx51
set_option linter.unusedVariables false
set_option linter.unusedSimpArgs false
namespace Go.Proofs.Ytmlkpadlafjfeaa.Pure
open Go Go.RowKit Go.Proofs.Ytmlkpadlafjfeaa.P Go.Proofs.YtmlkpadlafjfeaaW.PrintWords Go.Proofs.YtmlkpadlafjfeaaW.PrintLast
theorem fl_rows {o : List (List S40)} : (FL o).1.length ≤ 256 ∧ ∀ c ∈ (FL o).1, c.length ≤ 100000 := by
  unfold FL
  by_cases c : CK o = 0
  · obtain ⟨h1, h2, h3⟩ := CK_ok c
    rw [if_pos c]
    split
    · refine ⟨by simp; omega, fun p hp => ?_⟩
      obtain ⟨x, hx, rfl⟩ := List.mem_map.1 hp
      exact conV_short (h3 x hx).1 (h3 x hx).2
    · simp
  · rw [if_neg c]; simp
theorem fl_in {o : List (List S40)} {L : Bx} (h : ∀ p ∈ o.flatten.map sp, inB L p) : ∀ p ∈ (FL o).1.flatten, inB L p := by
  unfold FL
  split
  · split
    · intro p hp
      obtain ⟨c, hc, hpc⟩ := List.mem_flatten.1 hp
      obtain ⟨x, hx, rfl⟩ := List.mem_map.1 hc
      exact conV_in x (fun y hy => h (sp y) (List.mem_map.2 ⟨y, List.mem_flatten.2 ⟨x, hx, hy⟩, rfl⟩)) p hpc
    · simp
  · simp
theorem hull_f {o : List (List S40)} (hl : o.length ≤ 9000000000000000000) (hr : ∀ r ∈ o, r.length ≤ 9000000000000000000) (k : Nat) : path_Hull.f k o = some (bxT (Bx.none.all (o.flatten.map sp)) (Bx.none.all (o.flatten.map sp)).s) := by
  unfold path_Hull.f; rw [if_pos ⟨hl, hr⟩]; rfl
theorem bounds_f {o : List (List S35)} (hl : o.length ≤ 9000000000000000000) (hr : ∀ r ∈ o, r.length ≤ 9000000000000000000) (k : Nat) : path_Bounds.f k o = some (bxT (Bx.none.all o.flatten) (Bx.none.all o.flatten).s) := by
  unfold path_Bounds.f; rw [if_pos ⟨hl, hr⟩, List.map_id]; rfl
theorem all_step (k : Nat) (p : List (List S35)) (x9 : List S35) (i : Nat) (u0 u1 u2 u3 : Int) (hi : i < p.length) (hp : p.length ≤ 256) (hx : x9.length + p[i].length < 8796093022208) : seriflaw06_PathHulls.l0 (k + 1) p x9 p (p.length : Int) (i : Int) u0 u1 u2 u3 = seriflaw06_PathHulls.l0 k p (x9 ++ p[i]) p (p.length : Int) ((i + 1 : Nat) : Int) u0 u1 u2 u3 := by
  have h1 : (i : Int) < (p.length : Int) := by omega
  have h2 : (0 : Int) ≤ (i : Int) := by omega
  rw [seriflaw06_PathHulls.l0, if_pos h1, if_pos h2, if_pos h1, rdL4 hi, if_pos hx, nx64 (by omega)]
theorem all_l0 (p : List (List S35)) (hp : p.length ≤ 256) (hr : ∀ r ∈ p, r.length ≤ 100000) (h : Bx) (hs : (Bx.none.all p.flatten).s = true → (Bx.none.all p.flatten).sub h) : ∀ (d i : Nat) (x9 : List S35), p.length - i = d → i ≤ p.length → x9 = (p.take i).flatten → x9.length ≤ 100000 * i → Ev (fun k => seriflaw06_PathHulls.l0 k p x9 p (p.length : Int) (i : Int) h.x0 h.y0 h.x1 h.y1) true := by
  intro d
  induction d with
  | zero =>
    intro i x9 e hi hx hl
    rw [List.take_of_length_le (by omega)] at hx
    subst hx
    have hb := rhull_ev p.flatten (by omega)
    have h1 : ¬ (i : Int) < (p.length : Int) := by omega
    have hbo := bounds_f (o := p) (by omega) (fun r hr' => by have := hr r hr'; omega)
    generalize Bx.none.all p.flatten = b at hs hb hbo
    refine Ev.step (f := fun k => (serifref06_Hull.f k p.flatten).bind fun bt522 => (path_Bounds.f k p).bind fun bt527 => (if (bt527.2.2.2.2 != bt522.2.2.2.2) = true then (none) else (if (!(bt527.1 == bt522.1) || (!(bt527.2.1 == bt522.2.1) || (!(bt527.2.2.1 == bt522.2.2.1) || (!(bt527.2.2.2.1 == bt522.2.2.2.1))))) = true then (none) else (if bt527.2.2.2.2 = true then (if bt527.1 ≥ h.x0 then (if bt527.2.1 ≥ h.y0 then (if bt527.2.2.1 ≤ h.x1 then (some (decide (bt527.2.2.2.1 ≤ h.y1))) else (none)) else (none)) else (none)) else (some true))))) (fun k => ?_) ?_
    · rw [seriflaw06_PathHulls.l0, if_neg h1]
    · refine Ev.bind hb ?_
      refine Ev.congr (f := fun k => some true) (fun k => ?_) (Ev.now _)
      rw [hbo k, Option.bind_some]
      unfold bxT
      dsimp only
      cases hbs : b.s with
      | false => simp
      | true =>
        obtain ⟨q1, q2, q3, q4⟩ := hs hbs
        simp [q1, q2, q3, q4]
  | succ d ih =>
    intro i x9 e hi hx hl
    have hlt : i < p.length := by omega
    have hrow := hr _ (List.getElem_mem hlt)
    refine Ev.step (fun k => all_step k p x9 i _ _ _ _ hlt hp (by omega)) (ih (i + 1) _ (by omega) (by omega) ?_ (by rw [List.length_append]; omega))
    rw [hx, List.take_add_one, List.getElem?_eq_getElem hlt, List.flatten_append]; simp
theorem hulls_all (o : List (List S40)) (hm : memO o) (hl : o.length ≤ 1048576) (hr : ∀ r ∈ o, r.length ≤ 1048576) : ∃ k, seriflaw06_PathHulls.f k o = some true := by
  apply Ev.rounds
  have hk : (o.flatten.map sp).length ≤ 9000000000000000000 := by
    rw [List.length_map]
    have : ∀ (q : List (List S40)), (∀ r ∈ q, r.length ≤ 1048576) → q.flatten.length ≤ 1048576 * q.length := by
      intro q hq
      induction q with
      | nil => simp
      | cons a t ih =>
        rw [List.flatten_cons, List.length_append, List.length_cons]
        have h1 := hq a (by simp)
        have h2 := ih (fun r hr => hq r (List.mem_cons_of_mem _ hr))
        omega
    have := this o hr
    omega
  unfold seriflaw06_PathHulls.f
  refine Ev.bind pal_ev ?_
  simp only [if_true]
  refine Ev.bind (spots_ev o hl hr) (Ev.bind (rhull_ev _ hk) (Ev.bind (copy_ev o hm) ?_))
  have hH := hull_f (o := o) (by omega) (fun r hr' => by have := hr r hr'; omega)
  have hin := (all_holds (o.flatten.map sp) Bx.none).2
  generalize Bx.none.all (o.flatten.map sp) = b at hH hin
  refine Ev.congr (f := fun k => seriflaw06_PathHulls.j0 k o false b.x0 b.y0 b.x1 b.y1) (fun k => ?_) ?_
  · rw [hH k, Option.bind_some]
    unfold bxT
    simp
  · refine Ev.step (f := fun k => (serifref06_Copy.f k o).bind fun t508 => ((path_Flat.f k t508).bind fun bt511 => (if bt511.2 = 0 then (seriflaw06_PathHulls.l0 k bt511.1 (([] : List (S35))) bt511.1 (bt511.1.length : Int) 0 b.x0 b.y0 b.x1 b.y1) else (some ((bt511.1.length : Int) == 0))))) (fun k => by rw [seriflaw06_PathHulls.j0, if_neg (by simp)]) ?_
    refine Ev.bind (copy_ev o hm) (Ev.bind (flat_ev o hm) ?_)
    by_cases c : (FL o).2 = 0
    · simp only [if_pos c]
      have hs := fl_rows (o := o)
      have hi := fl_in (o := o) (L := b) hin
      exact all_l0 (FL o).1 hs.1 hs.2 b (fun z => all_least _ Bx.none hi (fun q => (by cases q)) z) (FL o).1.length 0 [] (by omega) (by omega) (by simp) (by simp)
    · simp only [if_neg c]
      have hn : (FL o).1 = [] := by
        unfold FL at c ⊢
        split
        · rename_i h
          rw [if_pos h] at c
          split
          · rename_i h2; rw [if_pos h2] at c; exact absurd rfl c
          · rfl
        · rfl
      rw [hn]
      exact Ev.now _
end Go.Proofs.Ytmlkpadlafjfeaa.Pure
