import Derived.Test.YtfbanppdiglciaaXx0
import Derived.Test.YtfbanppdiglciaaXx23
import Derived.Test.YtfbanppdiglciaaOptG
import Derived.Test.YtfbanppdiglciaaXx24
import Derived.Test.YtfbanppdiglciaaXx25
set_option linter.unusedVariables false
set_option linter.unusedSimpArgs false
namespace Go.Proofs.Ytfbanppdiglciaa.X
open Go Go.RowKit Go.Proofs.YtfbanppdiglciaaW.PrintWords Go.Proofs.YtfbanppdiglciaaW.PrintLast Go.Proofs.YtfbanppdiglciaaW.PrintMore
theorem sooner_l0 (A B : List Int) (hA : (A.length : Int) < 9223372036854775807) : ∀ (d i : Nat), A.length - i = d → i ≤ A.length → i ≤ B.length → Ev (fun k => za.l0 k A B (A.length : Int) (i : Int)) (jO (A.drop i) (B.drop i)) := by
  intro d
  induction d with
  | zero =>
    intro i e hi hb
    refine Ev.intro 1 fun k => ?_
    rw [za.l0, if_neg (by omega), List.drop_of_length_le (by omega)]
    congr 1
    cases e2 : B.drop i with
    | nil =>
      have := congrArg List.length e2
      simp at this
      simp only [jO]; exact decide_eq_false (by omega)
    | cons y s =>
      have := congrArg List.length e2
      simp at this
      simp only [jO]; exact decide_eq_true (by omega)
  | succ d ih =>
    intro i e hi hb
    have hlt : i < A.length := by omega
    rw [List.drop_eq_getElem_cons hlt]
    by_cases c : i < B.length
    · rw [List.drop_eq_getElem_cons c]
      refine Ev.step (f := fun k => if A[i] = B[i] then za.l0 k A B (A.length : Int) ((i + 1 : Nat) : Int) else some (decide (A[i] < B[i]))) (fun k => ?_) ?_
      · rw [za.l0, if_pos (by omega), if_neg (by omega), if_pos (by omega), if_pos (by omega), if_pos (by omega), rdI hlt, rdI c, w64 (n := (i : Int) + 1) (by omega) (by omega), show (i : Int) + 1 = ((i + 1 : Nat) : Int) by omega]
      · simp only [jO]
        by_cases e2 : A[i] = B[i]
        · simp only [if_pos e2]; exact ih (i + 1) (by omega) (by omega) (by omega)
        · simp only [if_neg e2]; exact Ev.now _
    · have eb : B.drop i = [] := List.drop_of_length_le (by omega)
      rw [eb]
      refine Ev.intro 1 fun k => ?_
      rw [za.l0, if_pos (by omega), if_pos (by omega)]; rfl
theorem rsooner (A B : List Int) (hA : (A.length : Int) < 9223372036854775807) : Ev (fun k => za.f k A B) (jO A B) := by
  have := sooner_l0 A B hA A.length 0 (by omega) (by omega) (by omega)
  simpa [za.f] using this
theorem ldem_l1 {l : List S31} {w t : Int} (F : jL l w t) {L : List Int} {a x : Nat} (hx : x ≤ l.length) {i tot : Int} {X : Int × Bool} (hbad : (∃ y, a ≤ y ∧ y < x ∧ fcB l y = true) → X = (0, false))
    (hgood : (∀ y, a ≤ y → y < x → fcB l y = false) → Ev (fun k => qH.l1 k l w t ((a : Int) - 1) tot (x : Int) (x : Int) L (L.length : Int) i) X) :
    ∀ (d z : Nat), x - z = d → a ≤ z → z ≤ x → (∀ y, a ≤ y → y < z → fcB l y = false) → Ev (fun k => qH.l1 k l w t ((a : Int) - 1) tot (x : Int) (z : Int) L (L.length : Int) i) X := by
  have n := F.len
  intro d
  induction d with
  | zero =>
    intro z e ha hz nf
    obtain rfl : z = x := by omega
    exact hgood nf
  | succ d ih =>
    intro z e ha hz nf
    by_cases c : fcB l z = true
    · rw [hbad ⟨z, ha, by omega, c⟩]
      refine Ev.intro 1 fun k => ?_
      rw [qH.l1, if_pos (by omega), rforced (by omega), Option.bind_some, if_pos c]
    · refine Ev.step (fun k => ?_) (ih (z + 1) (by omega) (by omega) (by omega) (fun y hy hy' => by
        by_cases e : y = z
        · subst e; simpa using c
        · exact nf y hy (by omega)))
      rw [qH.l1, if_pos (by omega), rforced (by omega), Option.bind_some, if_neg c, w64 (n := (z : Int) + 1) (by omega) (by omega)]; rfl
def Zo (o : Option Int) (tot : Int) (X : Int × Bool) : Prop := match o with | some c => X = (tot + c, true) | none => X.2 = false
theorem ldem_l0 {l : List S31} {w t : Int} (F : jL l w t) {L : List Int} (hL : (L.length : Int) < 9223372036854775807) : ∀ (d i a : Nat) (tot : Int), L.length - i = d → i ≤ L.length → a ≤ l.length + 1 → -(20000000000 * (a : Int)) ≤ tot → tot ≤ 20000000000 * (a : Int) →
    ∃ X, Ev (fun k => qH.l0 k l w t ((a : Int) - 1) tot L (L.length : Int) (i : Int)) X ∧ Zo (cost l w t (l.length + 1) a (L.drop i)) tot X := by
  have n := F.len
  intro d
  induction d with
  | zero =>
    intro i a tot e hi ha t0 t1
    rw [List.drop_of_length_le (by omega)]
    refine ⟨(tot, (a : Int) - 1 == (l.length : Int)), Ev.intro 1 fun k => ?_, ?_⟩
    · rw [qH.l0, if_neg (by omega)]
    · simp only [cost]
      by_cases c : a = l.length + 1
      · rw [if_pos c]; simp only [Zo]; congr 1
        · omega
        · simp; omega
      · rw [if_neg c]; simp only [Zo]; simp; omega
  | succ d ih =>
    intro i a tot e hi ha t0 t1
    have hlt : i < L.length := by omega
    rw [List.drop_eq_getElem_cons hlt]
    generalize hx : L[i] = x at *
    have bad : ∀ (Y : Bool), Y = true → Ev (fun k => qH.j1 k l w t ((a : Int) - 1) tot x L (L.length : Int) (i : Int) Y) (0, false) := fun Y hY => Ev.intro 1 fun k => by
      rw [qH.j1, if_pos hY]
    by_cases g : 0 ≤ x ∧ (a : Int) ≤ x ∧ x ≤ (l.length : Int) ∧ plE l x.toNat = true
    · obtain ⟨g0, g1, g2, g3⟩ := g
      have ex : x = ((x.toNat : Nat) : Int) := by omega
      generalize x.toNat = y at *
      subst ex
      have skel : ∀ X, (Ev (fun k => qH.l1 k l w t ((a : Int) - 1) tot (y : Int) (a : Int) L (L.length : Int) (i : Int)) X) → Ev (fun k => qH.l0 k l w t ((a : Int) - 1) tot L (L.length : Int) (i : Int)) X := fun X h => by
        refine Ev.step (f := fun k => qH.j1 k l w t ((a : Int) - 1) tot (y : Int) L (L.length : Int) (i : Int) false) (fun k => ?_) (Ev.step (fun k => ?_) h)
        · rw [qH.l0, if_pos (by omega), if_pos (by omega), if_pos (by omega), rdI hlt, hx, if_neg (by omega), if_neg (by omega), rplace (by omega) (by omega), Option.bind_some, g3]; rfl
        · rw [qH.j1, if_neg (by simp), w64 (n := (a : Int) - 1 + 1) (by omega) (by omega), show (a : Int) - 1 + 1 = (a : Int) by omega]
      by_cases nf : ∃ z, a ≤ z ∧ z < y ∧ fcB l z = true
      · refine ⟨(0, false), skel _ (ldem_l1 F (by omega) (fun _ => rfl) (fun h => ?_) _ a rfl (by omega) (by omega) (fun z h h' => by omega)), ?_⟩
        · obtain ⟨z, z1, z2, z3⟩ := nf
          rw [h z z1 z2] at z3; cases z3
        · have : stp l w t a y = none := by
            cases hs : stp l w t a y with
            | none => rfl
            | some d =>
              obtain ⟨z, z1, z2, z3⟩ := nf
              rw [((Qp l _ _).1 (QI hs).1).2.2.2 z z1 z2] at z3; cases z3
          rw [Q7 this]; rfl
      · have nf' : ∀ z, a ≤ z → z < y → fcB l z = false := fun z z1 z2 => by
          cases hs : fcB l z with
          | false => rfl
          | true => exact (nf ⟨z, z1, z2, hs⟩).elim
        have gap : gapB l a y = true := (Qp l _ _).2 ⟨by omega, by omega, g3, nf'⟩
        have hfit := rfit F (a := a) (tt := y) (by omega) (by omega)
        have fin : ∀ X, Ev (fun k => if (jr l a y w).2.2 = true then (if (jr l a y w).1 > t then some (0, false) else (qQ.f k l ((a : Int) - 1) (y : Int) (jr l a y w).2.1).bind fun d => qH.l0 k l w t (y : Int) (wrap64 (tot + d)) L (L.length : Int) (wrap64 ((i : Int) + 1))) else some (0, false)) X →
            Ev (fun k => qH.l0 k l w t ((a : Int) - 1) tot L (L.length : Int) (i : Int)) X := fun X h => by
          refine skel X (ldem_l1 F (by omega) (fun h => ?_) (fun _ => ?_) _ a rfl (by omega) (by omega) (fun z h h' => by omega))
          · obtain ⟨z, z1, z2, z3⟩ := h
            rw [nf' z z1 z2] at z3; cases z3
          · refine Ev.step (fun k => ?_) (Ev.bind (f := fun k bt => if bt.2.2 = true then (if bt.1 > t then some (0, false) else (qQ.f k l ((a : Int) - 1) (y : Int) bt.2.1).bind fun d => qH.l0 k l w t (y : Int) (wrap64 (tot + d)) L (L.length : Int) (wrap64 ((i : Int) + 1))) else some (0, false)) hfit h)
            rw [qH.l1, if_neg (by omega)]
        by_cases c1 : (jr l a y w).2.2 = true
        · by_cases c2 : (jr l a y w).1 > t
          · refine ⟨(0, false), fin _ (by simp only [if_pos c1, if_pos c2]; exact Ev.now _), ?_⟩
            have : stp l w t a y = none := by unfold stp; rw [if_neg (fun z => by have := z.2.2; omega)]
            rw [Q7 this]; rfl
          · have hstp : stp l w t a y = some (QC l a y (jr l a y w).2.1) := by unfold stp; rw [if_pos ⟨gap, c1, by omega⟩]
            have lb := QB F a (tt := y) (by omega)
            have bb : 0 ≤ (jr l a y w).2.1 ∧ (jr l a y w).2.1 ≤ 100000 := Jm lb.1.1 lb.2.1.1 lb.2.2.1 c1
            clear lb
            have db := stp_bd F hstp
            have hdem := rdem F (a := a) (tt := y) (by omega) (by omega) bb.1 bb.2
            obtain ⟨X, h1, h2⟩ := ih (i + 1) (y + 1) (tot + QC l a y (jr l a y w).2.1) (by omega) (by omega) (by omega) (by omega) (by omega)
            rw [show ((y + 1 : Nat) : Int) - 1 = (y : Int) by omega] at h1
            refine ⟨X, fin _ ?_, ?_⟩
            · simp only [if_pos c1, if_neg c2]
              refine Ev.bind hdem ?_
              rw [w64 (n := tot + _) (by omega) (by omega), w64 (n := (i : Int) + 1) (by omega) (by omega)]
              exact h1
            · simp only [cost, Za, hstp, Option.bind_some, show ((y : Int)).toNat = y by omega]
              cases hc : cost l w t (l.length + 1) (y + 1) (L.drop (i + 1)) with
              | none => rw [hc] at h2; exact h2
              | some c =>
                rw [hc] at h2
                simp only [Zo, Option.bind_some] at h2 ⊢
                rw [h2]; congr 1; omega
        · refine ⟨(0, false), fin _ (by simp only [if_neg c1]; exact Ev.now _), ?_⟩
          have : stp l w t a y = none := by unfold stp; rw [if_neg (fun z => c1 z.2.1)]
          rw [Q7 this]; rfl
    · refine ⟨(0, false), ?_, ?_⟩
      · by_cases c1 : x ≤ (a : Int) - 1
        · refine Ev.step (fun k => ?_) (bad true rfl)
          rw [qH.l0, if_pos (by omega), if_pos (by omega), if_pos (by omega), rdI hlt, hx, if_pos c1]
        · by_cases c2 : x > (l.length : Int)
          · refine Ev.step (fun k => ?_) (bad true rfl)
            rw [qH.l0, if_pos (by omega), if_pos (by omega), if_pos (by omega), rdI hlt, hx, if_neg c1, if_pos c2]
          · have c3 : plE l x.toNat = false := by
              cases hp : plE l x.toNat with
              | false => rfl
              | true => exact (g ⟨by omega, by omega, by omega, hp⟩).elim
            refine Ev.step (fun k => ?_) (bad (!(plE l x.toNat)) (by rw [c3]; rfl))
            rw [qH.l0, if_pos (by omega), if_pos (by omega), if_pos (by omega), rdI hlt, hx, if_neg c1, if_neg c2]
            have := rplace (l := l) (i := x.toNat) (by omega) (by omega)
            rw [show ((x.toNat : Nat) : Int) = x by omega] at this
            rw [this, Option.bind_some]
      · have : stZ l w t a x = none := by
          cases hs : stZ l w t a x with
          | none => rfl
          | some d =>
            obtain ⟨h0, h1⟩ := QM hs
            have q := (Qp l _ _).1 (QI h1).1
            exact (g ⟨h0, by omega, by omega, q.2.2.1⟩).elim
        simp only [cost, this, Option.bind_none, Zo]
theorem ldem {l : List S31} {w t : Int} (F : jL l w t) {L : List Int} (hL : (L.length : Int) < 9223372036854775807) : ∃ X, Ev (fun k => qH.f k l L w t) X ∧ Zo (cost l w t (l.length + 1) 0 L) 0 X := by
  have := ldem_l0 F hL L.length 0 0 0 (by omega) (by omega) (by omega) (by omega) (by omega)
  simpa [qH.f] using this
end Go.Proofs.Ytfbanppdiglciaa.X
