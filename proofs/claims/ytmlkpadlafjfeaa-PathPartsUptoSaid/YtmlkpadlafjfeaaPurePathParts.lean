/- PathParts answers true for any two outlines of at most 1048576 contours each: the polygons of both together are those of the one and then those of the other. -/
import Derived.Test.YtmlkpadlafjfeaaPx0
import Derived.Test.YtmlkpadlafjfeaaPathAllP
import Derived.Test.YtmlkpadlafjfeaaPx42
set_option linter.unusedVariables false
set_option linter.unusedSimpArgs false
namespace Go.Proofs.Ytmlkpadlafjfeaa.Pure
open Go Go.RowKit Go.Proofs.Ytmlkpadlafjfeaa.P Go.Proofs.YtmlkpadlafjfeaaW.PrintWords Go.Proofs.YtmlkpadlafjfeaaW.PrintLast
theorem pre_len {p : List S35} {r : Option (List S35 × Bool)} {q : List S35 × Bool} (h : pre35 p r = some q) : ∃ r', r = some r' ∧ q.1.length = p.length + r'.1.length := by
  cases r with
  | none => cases h
  | some r' => simp only [pre35, Option.some.injEq] at h; subst h; exact ⟨r', rfl, by simp⟩
theorem ctW_len (s : S35) : ∀ (m : Nat) (l : List S40) (now : S35) (q : List S35 × Bool), ctW s m l now = some q → q.1.length ≤ 16 * m
  | 0, l, now, q, h => by simp only [ctW, Option.some.injEq] at h; subst h; simp
  | m + 1, [], now, q, h => by rw [ctW_nil] at h; simp only [Option.some.injEq] at h; subst h; simp
  | m + 1, k :: r, now, q, h => by
    by_cases k1 : k.f2 = 1
    · rw [ctW_on k1] at h
      obtain ⟨r', h1, h2⟩ := pre_len h
      have := ctW_len s m _ _ _ h1
      simp at h2; omega
    by_cases k2 : k.f2 = 2
    · match r, h with
      | [], h =>
        rw [ctW_q0 k2] at h
        simp only [Option.some.injEq] at h; subst h
        have := quadV_len now (sp k) s; dsimp only; omega
      | x :: r', h =>
        rw [ctW_q1 k2] at h
        by_cases c1 : x.f2 = 2
        · rw [if_pos c1] at h
          obtain ⟨r', h1, h2⟩ := pre_len h
          have := ctW_len s m _ _ _ h1
          have := quadV_len now (sp k) (midV k x); omega
        · rw [if_neg c1] at h
          by_cases c2 : x.f2 = 3
          · rw [if_pos c2] at h; cases h
          · rw [if_neg c2] at h
            obtain ⟨r', h1, h2⟩ := pre_len h
            have := ctW_len s m _ _ _ h1
            have := quadV_len now (sp k) (sp x); omega
    · match r, h with
      | [], h => rw [ctW_c0 k1 k2] at h; cases h
      | [x], h =>
        rw [ctW_c1 k1 k2] at h
        by_cases c1 : x.f2 = 3
        · rw [if_pos c1] at h
          simp only [Option.some.injEq] at h; subst h
          have := cubicV_len now (sp k) (sp x) s; dsimp only; omega
        · rw [if_neg c1] at h; cases h
      | x :: e :: r', h =>
        rw [ctW_c2 k1 k2] at h
        by_cases c1 : x.f2 = 3
        · rw [if_pos c1] at h
          by_cases c2 : e.f2 = 3
          · rw [if_pos c2] at h; cases h
          · rw [if_neg c2] at h
            by_cases c3 : e.f2 = 2
            · rw [if_pos c3] at h; cases h
            · rw [if_neg c3] at h
              obtain ⟨r', h1, h2⟩ := pre_len h
              have := ctW_len s m _ _ _ h1
              have := cubicV_len now (sp k) (sp x) (sp e); omega
        · rw [if_neg c1] at h; cases h
theorem clos_len (o : List S35) (b : Bool) : (clos o b).length ≤ o.length := by
  unfold clos; split
  · rw [List.length_take]; omega
  · omega
theorem conV_len {c : List S40} (hc : c.length ≤ 4096) (hk : ∀ x ∈ c, okK x) : (conV c).1.length ≤ 100000 := by
  unfold conV
  by_cases n0 : c = []
  · rw [if_pos n0]; simp
  rw [if_neg n0]
  obtain ⟨r1, r2, r3⟩ := roundV_in c n0 hk
  split
  · simp
  · cases h : ctW (roundV c).1 ((roundV c).2.1.length + 1) (roundV c).2.1 (roundV c).1 with
    | none => simp [endC]
    | some q =>
      have := ctW_len _ _ _ _ _ h
      have h2 := clos_len ([(roundV c).1] ++ q.1) q.2
      simp only [endC]
      rw [List.length_append, List.length_singleton] at h2
      omega
theorem FL_len {o : List (List S40)} : (FL o).1.length ≤ 256 ∧ ∀ c ∈ (FL o).1, c.length ≤ 100000 := by
  unfold FL
  by_cases c : CK o = 0
  · obtain ⟨h1, h2, h3⟩ := CK_ok c
    rw [if_pos c]
    split
    · refine ⟨by simp; omega, fun p hp => ?_⟩
      obtain ⟨x, hx, rfl⟩ := List.mem_map.1 hp
      exact conV_len (h3 x hx).1 (h3 x hx).2
    · simp
  · rw [if_neg c]; simp
theorem parts_all (a b : List (List S40)) (ha : memO a) (hb : memO b) (la : a.length ≤ 1048576) (lb : b.length ≤ 1048576) : ∃ k, seriflaw06_PathParts.f k a b = some true := by
  apply Ev.rounds
  have hab : memO (a ++ b) := ⟨by rw [List.length_append]; omega, fun c hc => (List.mem_append.1 hc).elim (ha.2 c) (hb.2 c)⟩
  have hl : a.length + b.length < 5864062014805 := by omega
  unfold seriflaw06_PathParts.f
  refine Ev.bind pal_ev ?_
  simp only [if_true]
  refine Ev.bind (copy_ev a ha) (Ev.bind (copy_ev b hb) ?_)
  simp only [if_pos hl, Option.bind_some]
  refine Ev.bind (rcheck_ev (a ++ b) hab) ?_
  by_cases c : CK (a ++ b) = 0
  · obtain ⟨ca, cb⟩ := CK_append c
    simp only [if_pos c]
    refine Ev.bind (copy_ev a ha) (Ev.bind (flat_ev a ha) (Ev.bind (copy_ev b hb) (Ev.bind (flat_ev b hb) (Ev.bind (flat_ev (a ++ b) hab) ?_))))
    have sa := FL_len (o := a)
    have sb := FL_len (o := b)
    have sab := FL_len (o := a ++ b)
    have ea : FL a = if a.all (fun c => (conV c).2) = true then (a.map (fun c => (conV c).1), 0) else ([], 61) := by unfold FL; rw [if_pos ca]
    have eb : FL b = if b.all (fun c => (conV c).2) = true then (b.map (fun c => (conV c).1), 0) else ([], 61) := by unfold FL; rw [if_pos cb]
    have eab : FL (a ++ b) = if (a ++ b).all (fun c => (conV c).2) = true then ((a ++ b).map (fun c => (conV c).1), 0) else ([], 61) := by unfold FL; rw [if_pos c]
    rw [List.all_append] at eab
    have l1 : ([] : List (List S35)).length + (FL a).1.length < 5864062014805 := by
      have : ([] : List (List S35)).length = 0 := rfl
      omega
    have l2 : (FL a).1.length + (FL b).1.length < 5864062014805 := by omega
    have t0 : (61 : Int) ≠ 0 := by omega
    cases h1 : a.all (fun c => (conV c).2) with
    | false =>
      rw [h1, if_neg (by simp)] at ea
      rw [h1, Bool.false_and, if_neg (by simp)] at eab
      rw [ea, eab]
      simp only [if_neg t0, if_true]
      exact Ev.now _
    | true =>
      rw [h1, if_pos rfl] at ea
      cases h2 : b.all (fun c => (conV c).2) with
      | false =>
        rw [h2, if_neg (by simp)] at eb
        rw [h1, h2, Bool.true_and, if_neg (by simp)] at eab
        rw [ea, eb, eab]
        simp only [if_neg t0, if_true]
        exact Ev.now _
      | true =>
        rw [h2, if_pos rfl] at eb
        rw [h1, h2, Bool.true_and, if_pos rfl] at eab
        have e0 : (FL a).2 = 0 := by rw [ea]
        have e1 : (FL b).2 = 0 := by rw [eb]
        have e2 : (FL (a ++ b)).2 = 0 := by rw [eab]
        have e3 : (FL (a ++ b)).1 = (FL a).1 ++ (FL b).1 := by rw [ea, eb, eab, List.map_append]
        simp only [if_pos e0, if_pos e1, if_pos e2, Option.bind_some, List.nil_append, if_pos l1, if_pos l2]
        rw [e3] at sab ⊢
        refine Ev.bind (sameS_ev ((FL a).1 ++ (FL b).1) (by omega) (fun x hx => by have := sab.2 x hx; omega)) (Ev.now _)
  · simp only [if_neg c]
    exact Ev.now _
end Go.Proofs.Ytmlkpadlafjfeaa.Pure
