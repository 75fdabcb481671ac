/- The reference's Set answers the row that the program's Set does. -/
import Derived.Test.YtfbanppdiglciaaYx0
import Derived.Test.YtfbanppdiglciaaYx12
import Derived.Test.YtfbanppdiglciaaYx20
import Derived.Test.YtfbanppdiglciaaYx24
import Derived.Test.YtfbanppdiglciaaJusLineY
import Derived.Test.YtfbanppdiglciaaJusDownY
import Derived.Test.YtfbanppdiglciaaYx25
set_option linter.unusedVariables false
set_option linter.unusedSimpArgs false
namespace Go.Proofs.Ytfbanppdiglciaa.Y
open Go Go.RowKit Go.Proofs.YtfbanppdiglciaaW.PrintWords Go.Proofs.YtfbanppdiglciaaW.PrintLast Go.Proofs.YtfbanppdiglciaaW.PrintMore

theorem spP_app {d whole : Int} {b : Bool} (E : List Int) : ∀ (J : List S31) (zs : List Int) (dn : Int), J.length = zs.length → spP d whole b J (zs ++ E) dn = spP d whole b J zs dn ++ E
  | [], [], dn, _ => by simp only [spP, List.nil_append]
  | [], z :: zs, dn, h => by simp at h
  | x :: r, [], dn, h => by simp at h
  | x :: r, z :: zs, dn, h => by
    rw [List.cons_append]; simp only [spP]
    split
    · rw [spP_app E r zs _ (by simpa using h)]; rfl
    · rw [spP_app E r zs _ (by simpa using h)]; rfl
/-- The row from the first box on: its own widths, with the glue's shares if it is set. -/
def gR (d whole : Int) (b s : Bool) (J : List S31) (dn : Int) : List Int := if s = true then spP d whole b J (J.map nw) dn else J.map nw
theorem drop_cons {L : List S31} {t i : Nat} (h : i < t) (h2 : t ≤ L.length) : (L.take t).drop i = itm L i :: (L.take t).drop (i + 1) := by
  rw [List.drop_eq_getElem_cons (by simp; omega), List.getElem_take, itm_get (by omega)]
theorem ref_end {L : List S31} {t : Nat} (h2 : t ≤ L.length) (hL : L.length ≤ 4096) {d whole dn gv : Int} {s bg : Bool} {acc : List Int} (ha : acc.length ≤ t) :
    Ev (fun k => serifref20_Set.l0 k L (t : Int) d s whole acc bg dn gv (t : Int)) (acc ++ jE L t, (if d = 0 then true else s), 0) := by
  refine Ev.intro 1 fun k => ?_
  simp only [serifref20_Set.l0]
  rw [if_neg (by omega)]
  unfold jE
  have qa : acc.length < 17592186044416 := by omega
  by_cases c : t < L.length
  · have q1 : (t : Int) < (L.length : Int) := by omega
    have q0 : (0 : Int) ≤ (t : Int) := by omega
    by_cases c3 : (itm L t).f0 = 3
    · simp only [q1, q0, qa, c, c3, itm_rd, if_true, Option.bind_some]; split <;> rfl
    · simp only [q1, q0, qa, c, c3, itm_rd, if_true, if_false, Option.bind_some]; split <;> rfl
  · rw [if_neg (by omega), if_neg c, List.append_nil]; split <;> rfl
/-- Ahead of the first box. -/
theorem ref_pre {L : List S31} {t m : Nat} {d whole : Int} {s : Bool} {r : List Int × Bool × Int} (hm : m ≤ t) (h2 : t ≤ L.length) (hL : L.length ≤ 4096) : ∀ (n i : Nat) (acc : List Int), m - i = n → i ≤ m → acc.length ≤ i →
    (∀ j, i ≤ j → j < m → (itm L j).f0 ≠ 1) →
    Ev (fun k => serifref20_Set.l0 k L (t : Int) d s whole (acc ++ List.replicate n 0) false 0 0 (m : Int)) r →
    Ev (fun k => serifref20_Set.l0 k L (t : Int) d s whole acc false 0 0 (i : Int)) r := by
  intro n
  induction n with
  | zero =>
    intro i acc e hi ha hno h
    have : i = m := by omega
    subst this
    simpa using h
  | succ n ih =>
    intro i acc e hi ha hno h
    have hlt : i < m := by omega
    have IH := ih (i + 1) (acc ++ [0]) (by omega) (by omega) (by simp; omega) (fun j h1 h3 => hno j (by omega) h3) (by rw [List.append_assoc]; exact h)
    have hb : ((itm L i).f0 == 1) = false := by simpa using hno i (by omega) hlt
    obtain ⟨K, hK⟩ := IH
    refine ⟨K + 5, fun k hk => ?_⟩
    obtain ⟨k, rfl⟩ : ∃ q, k = q + 5 := ⟨k - 5, by omega⟩
    simp only [serifref20_Set.l0]
    rw [if_pos (by omega), if_pos (by omega), if_pos (by omega)]
    simp only [itm_rd, hb, Bool.false_eq_true, if_false, serifref20_Set.j4, serifref20_Set.j5, serifref20_Set.j6, serifref20_Set.j7]
    rw [if_pos (by omega), wrap64_in' (n := (i : Int) + 1) (by omega) (by omega)]
    exact hK k (by omega)
theorem nxt {i : Nat} (h : i ≤ 4096) : wrap64 ((i : Int) + 1) = ((i + 1 : Nat) : Int) := by rw [wrap64_in' (by omega) (by omega)]; omega
/-- From the first box on. -/
theorem ref_l0 {L : List S31} {w u : Int} (F : Fine L w u) {t : Nat} (h2 : t ≤ L.length) {d whole : Int} {s b : Bool} (d0 : -1152921504606846976 ≤ d) (d1 : d ≤ 1152921504606846976) (hb : b = decide (d > 0)) (hs : s = true → 0 < whole) (w1 : whole ≤ 1152921504606846976) : ∀ (n i : Nat) (acc : List Int) (bg : Bool) (dn : Int), t - i = n → i ≤ t → acc.length ≤ i →
    (bg = true ∨ i = t ∨ (itm L i).f0 = 1) → 0 ≤ dn → (s = true → dn + gvAll b ((L.take t).drop i) ≤ whole) →
    Ev (fun k => serifref20_Set.l0 k L (t : Int) d s whole acc bg dn (d * dn / whole) (i : Int)) (acc ++ (gR d whole b s ((L.take t).drop i) dn ++ jE L t), (if d = 0 then true else s), 0) := by
  have hL := F.len
  intro n
  induction n with
  | zero =>
    intro i acc bg dn e hi ha _ h0 hw
    have : i = t := by omega
    subst this
    have := ref_end h2 hL (d := d) (whole := whole) (dn := dn) (gv := d * dn / whole) (s := s) (bg := bg) ha
    rw [List.drop_eq_nil_of_le (by simp; omega)]
    have g : gR d whole b s [] dn = [] := by unfold gR; split <;> rfl
    rw [g]; exact this
  | succ n ih =>
    intro i acc bg dn e hi ha hbg h0 hw
    have hlt : i < t := by omega
    have o := fine_ok F (itm L i) (by rw [itm_get (by omega)]; exact List.getElem_mem _)
    unfold itOk at o
    rw [drop_cons hlt h2]
    rw [drop_cons hlt h2] at hw
    -- the way to the cut j6
    have start : ∀ k, serifref20_Set.l0 (k + 3) L (t : Int) d s whole acc bg dn (d * dn / whole) (i : Int) = serifref20_Set.j6 k L (t : Int) d s whole acc true dn (d * dn / whole) (i : Int) (nw (itm L i)) (itm L i).f0 (itm L i).f1 (itm L i).f2 (itm L i).f3 (itm L i).f4 (itm L i).f5 := by
      intro k
      simp only [serifref20_Set.l0]
      rw [if_pos (by omega), if_pos (by omega), if_pos (by omega)]
      simp only [itm_rd]
      have bx : (if bg = true then serifref20_Set.j4 (k + 2) L (t : Int) d s whole acc true dn (d * dn / whole) (i : Int) (itm L i).f0 (itm L i).f1 (itm L i).f2 (itm L i).f3 (itm L i).f4 (itm L i).f5 else serifref20_Set.j4 (k + 2) L (t : Int) d s whole acc ((itm L i).f0 == 1) dn (d * dn / whole) (i : Int) (itm L i).f0 (itm L i).f1 (itm L i).f2 (itm L i).f3 (itm L i).f4 (itm L i).f5) = serifref20_Set.j4 (k + 2) L (t : Int) d s whole acc true dn (d * dn / whole) (i : Int) (itm L i).f0 (itm L i).f1 (itm L i).f2 (itm L i).f3 (itm L i).f4 (itm L i).f5 := by
        rcases hbg with hbg | hbg | hbg
        · rw [if_pos hbg]
        · omega
        · have hb1 : ((itm L i).f0 == 1) = true := by simpa using hbg
          rw [hb1, ite_self]
      rw [bx]
      simp only [serifref20_Set.j4, if_true, serifref20_Set.j5]
      by_cases c3 : (itm L i).f0 = 3
      · have c3b : ((itm L i).f0 != 3) = false := by simpa using c3
        have n3 : nw (itm L i) = 0 := by unfold nw; rw [if_pos c3]
        rw [c3b, n3]; simp only [Bool.false_eq_true, if_false]
      · have c3b : ((itm L i).f0 != 3) = true := by simpa using c3
        have n3 : nw (itm L i) = (itm L i).f1 := by unfold nw; rw [if_neg c3]
        rw [c3b, n3]; simp only [if_true]
    by_cases c : (itm L i).f0 = 2
    · have nwe : nw (itm L i) = (itm L i).f1 := by unfold nw; rw [if_neg (by omega)]
      by_cases cs : s = true
      · have hw' := hw cs
        have wp := hs cs
        have rn := gvAll_nn b ((L.take t).drop (i + 1)) (fun x hx => by have := fine_ok F x (List.mem_of_mem_take (List.mem_of_mem_drop hx)); unfold itOk at this; omega)
        have g0 : 0 ≤ gvs b (itm L i) := by unfold gvs; split <;> omega
        have g1 : gvs b (itm L i) ≤ 2147483647 := by unfold gvs; split <;> omega
        have hw2 : dn + gvs b (itm L i) + gvAll b ((L.take t).drop (i + 1)) ≤ whole := by unfold gvAll at hw'; rw [if_pos c] at hw'; omega
        have dv := down_ev (d := d) (part := dn + gvs b (itm L i)) (whole := whole) (by omega) (by omega) (by omega) (by omega) wp (by omega)
        have b0 := floor_bd d0 d1 h0 (by omega) wp
        have b1 := floor_bd (part := dn + gvs b (itm L i)) d0 d1 (by omega) (by omega) wp
        have IH := ih (i + 1) (acc ++ [(itm L i).f1 + (d * (dn + gvs b (itm L i)) / whole - d * dn / whole)]) true (dn + gvs b (itm L i)) (by omega) (by omega) (by simp; omega) (.inl rfl) (by omega) (fun _ => hw2)
        have out : gR d whole b s (itm L i :: (L.take t).drop (i + 1)) dn = ((itm L i).f1 + (d * (dn + gvs b (itm L i)) / whole - d * dn / whole)) :: gR d whole b s ((L.take t).drop (i + 1)) (dn + gvs b (itm L i)) := by
          unfold gR; rw [if_pos cs, if_pos cs, List.map_cons]
          rw [spP, if_pos c, nwe]
        rw [out, List.cons_append]
        rw [List.append_assoc, List.cons_append, List.nil_append] at IH
        generalize hA : d * (dn + gvs b (itm L i)) / whole = A at *
        generalize hB : d * dn / whole = B at *
        obtain ⟨K, hK⟩ := IH
        obtain ⟨K2, hK2⟩ := dv
        replace hK2 : ∀ k, K2 ≤ k → serifref20_Down.f k d (dn + gvs b (itm L i)) whole = some A := hK2
        refine ⟨K + K2 + 5, fun k hk => ?_⟩
        obtain ⟨k, rfl⟩ : ∃ q, k = q + 2 + 3 := ⟨k - 5, by omega⟩
        refine (start (k + 2)).trans ?_
        simp only [serifref20_Set.j6, if_true, c, serifref20_Set.j7, cs]
        by_cases dp : d > 0
        · have hb2 : b = true := by rw [hb]; exact decide_eq_true dp
          have gg : gvs b (itm L i) = (itm L i).f2 := by unfold gvs; rw [if_pos hb2]
          rw [gg] at hK hK2 g0 g1 hw2
          rw [if_pos dp, wrap64_in' (n := dn + (itm L i).f2) (by omega) (by omega), hK2 k (by omega)]
          simp only [Option.bind_some]
          rw [if_pos (by omega), nxt (i := i) (by omega), nwe, wrap64_in' (n := A - B) (by omega) (by omega), wrap64_in' (n := (itm L i).f1 + (A - B)) (by omega) (by omega)]
          have := hK k (by omega)
          rw [cs] at this
          rw [gg]
          exact this
        · have hb2 : b = false := by rw [hb]; exact decide_eq_false dp
          have gg : gvs b (itm L i) = (itm L i).f3 := by unfold gvs; rw [hb2]; rfl
          rw [gg] at hK hK2 g0 g1 hw2
          rw [if_neg dp, wrap64_in' (n := dn + (itm L i).f3) (by omega) (by omega), hK2 k (by omega)]
          simp only [Option.bind_some]
          rw [if_pos (by omega), nxt (i := i) (by omega), nwe, wrap64_in' (n := A - B) (by omega) (by omega), wrap64_in' (n := (itm L i).f1 + (A - B)) (by omega) (by omega)]
          have := hK k (by omega)
          rw [cs] at this
          rw [gg]
          exact this
      · have cs' : s = false := by simpa using cs
        have IH := ih (i + 1) (acc ++ [nw (itm L i)]) true dn (by omega) (by omega) (by simp; omega) (.inl rfl) h0 (fun z => absurd z cs)
        have out : gR d whole b s (itm L i :: (L.take t).drop (i + 1)) dn = nw (itm L i) :: gR d whole b s ((L.take t).drop (i + 1)) dn := by
          unfold gR; rw [if_neg cs, if_neg cs, List.map_cons]
        rw [out, List.cons_append]
        rw [List.append_assoc, List.cons_append, List.nil_append] at IH
        obtain ⟨K, hK⟩ := IH
        refine ⟨K + 5, fun k hk => ?_⟩
        obtain ⟨k, rfl⟩ : ∃ q, k = q + 2 + 3 := ⟨k - 5, by omega⟩
        refine (start (k + 2)).trans ?_
        subst cs'
        simp only [serifref20_Set.j6, if_true, c, serifref20_Set.j7, Bool.false_eq_true, if_false]
        rw [if_pos (by omega), nxt (i := i) (by omega)]
        exact hK k (by omega)
    · have IH := ih (i + 1) (acc ++ [nw (itm L i)]) true dn (by omega) (by omega) (by simp; omega) (.inl rfl) h0 (fun z => by have := hw z; unfold gvAll at this; rw [if_neg c] at this; omega)
      have out : gR d whole b s (itm L i :: (L.take t).drop (i + 1)) dn = nw (itm L i) :: gR d whole b s ((L.take t).drop (i + 1)) dn := by
        unfold gR
        split
        · rw [List.map_cons, spP, if_neg c]
        · rw [List.map_cons]
      rw [out, List.cons_append]
      rw [List.append_assoc, List.cons_append, List.nil_append] at IH
      obtain ⟨K, hK⟩ := IH
      refine ⟨K + 5, fun k hk => ?_⟩
      obtain ⟨k, rfl⟩ : ∃ q, k = q + 2 + 3 := ⟨k - 5, by omega⟩
      refine (start (k + 2)).trans ?_
      simp only [serifref20_Set.j6, if_true, c, serifref20_Set.j7, Bool.false_eq_true, if_false]
      rw [if_pos (by omega), nxt (i := i) (by omega)]
      exact hK k (by omega)
def sfl (d S H : Int) : Bool := if d > 0 then decide (S > 0) else if d < 0 then decide (-d ≤ H) else false
theorem gR_eq {d S H : Int} (S0 : 0 ≤ S) (J : List S31) (E : List Int) :
    spSP d S H J (J.map nw ++ E) = (gR d (if d < 0 then H else S) (decide (d > 0)) (sfl d S H) J 0 ++ E, if d = 0 then true else sfl d S H) := by
  unfold spSP sfl gR
  by_cases a : d = 0
  · subst a; simp
  rw [if_neg a, if_neg a]
  by_cases n : d < 0
  · rw [if_pos n, if_pos n, if_neg (show ¬ d > 0 by omega), if_pos n, decide_eq_false (show ¬ d > 0 by omega)]
    by_cases z : H = 0 ∨ H < -d
    · rw [if_pos z, decide_eq_false (show ¬ -d ≤ H by omega)]; rfl
    · rw [if_neg z, decide_eq_true (show -d ≤ H by omega), if_pos rfl, spP_app E _ _ _ (by simp)]
  · rw [if_neg n, if_neg n, if_pos (show d > 0 by omega), decide_eq_true (show d > 0 by omega)]
    by_cases z : S = 0
    · rw [if_pos z, decide_eq_false (show ¬ S > 0 by omega)]; rfl
    · rw [if_neg z, decide_eq_true (show S > 0 by omega), if_pos rfl, if_neg n, spP_app E _ _ _ (by simp)]
theorem ref_core {L : List S31} {w u : Int} (F : Fine L w u) {a t : Nat} (h1 : a ≤ t) (h2 : t ≤ L.length) :
    Ev (fun k => serifref20_Set.l0 k L (t : Int) (w - (lineS L a t).1) (sfl (w - (lineS L a t).1) (lineS L a t).2.1 (lineS L a t).2.2) (if w - (lineS L a t).1 < 0 then (lineS L a t).2.2 else (lineS L a t).2.1) [] false 0 0 (a : Int)) (setR L a t w, (setP L a t w).2, 0) := by
  have hL := F.len
  have w0 := F.w0
  have w1 := F.w1
  have ls := line_sums h1 h2
  have lb := lineS_bd F a h2
  have hB := stB_eq h1 h2
  have hb := bN_ge L (a := a) (by omega)
  have eR : (setR L a t w, (setP L a t w).2, (0 : Int)) = (List.replicate (min (bN L a) t - a) 0 ++ (gR (w - (lineS L a t).1) (if w - (lineS L a t).1 < 0 then (lineS L a t).2.2 else (lineS L a t).2.1) (decide (w - (lineS L a t).1 > 0)) (sfl (w - (lineS L a t).1) (lineS L a t).2.1 (lineS L a t).2.2) ((L.take t).drop (min (bN L a) t)) 0 ++ jE L t), (if w - (lineS L a t).1 = 0 then true else sfl (w - (lineS L a t).1) (lineS L a t).2.1 (lineS L a t).2.2), (0 : Int)) := by
    have e := gR_eq (d := w - (lineS L a t).1) (S := (lineS L a t).2.1) (H := (lineS L a t).2.2) lb.2.1.1 (jJ L a t) (jE L t)
    unfold setR setP
    rw [e, jJ_eq h1 h2, show stB (stIn L a t) = min (bN L a) t - a by omega]
  rw [eR]
  refine ref_pre (m := min (bN L a) t) (by omega) h2 hL (min (bN L a) t - a) a [] rfl (by omega) (by simp) (fun j h3 h4 => bN_no L (a := a) (i := j) (by omega) h3 (by omega)) ?_
  rw [jJ_eq h1 h2] at ls
  obtain ⟨_, ls2, ls3⟩ := ls
  obtain ⟨lb1, lb2, lb3⟩ := lb
  rw [ls2] at lb2 ⊢
  rw [ls3] at lb3 ⊢
  generalize (lineS L a t).1 = W at *
  clear eR
  have key := ref_l0 F h2 (d := w - W) (whole := if w - W < 0 then gvAll false ((L.take t).drop (min (bN L a) t)) else gvAll true ((L.take t).drop (min (bN L a) t))) (s := sfl (w - W) (gvAll true ((L.take t).drop (min (bN L a) t))) (gvAll false ((L.take t).drop (min (bN L a) t)))) (b := decide (w - W > 0)) (by omega) (by omega) rfl
    (by unfold sfl; intro hs; split at hs
        · rw [if_neg (by omega)]; simpa using hs
        · split at hs
          · rw [if_pos (by omega)]; have := of_decide_eq_true hs; omega
          · cases hs)
    (by split <;> omega) (t - min (bN L a) t) (min (bN L a) t) ([] ++ List.replicate (min (bN L a) t - a) 0) false 0 rfl (by omega) (by simp)
    (by
      by_cases c : bN L a < t
      · right; right; rw [show min (bN L a) t = bN L a by omega]; exact bN_yes L (by omega)
      · right; left; omega) (by omega)
    (fun hs => by
      unfold sfl at hs
      split at hs
      · rename_i c; rw [if_neg (by omega), decide_eq_true c]; omega
      · rename_i c
        split at hs
        · rename_i c2; rw [if_pos c2, decide_eq_false c]; omega
        · cases hs)
  rw [Int.mul_zero, Int.zero_ediv] at key
  simpa using key
theorem ref_bad (L : List S31) (a1 a2 w : Int) : Ev (fun k => serifref20_Set.j0 k L a1 a2 w true) ([], false, 205) := Ev.intro 1 fun k => by simp only [serifref20_Set.j0, if_true]
theorem ref_good {L : List S31} {w u : Int} (F : Fine L w u) {a t : Nat} (h1 : a ≤ t) (h2 : t ≤ L.length) :
    Ev (fun k => serifref20_Set.j0 k L ((a : Int) - 1) (t : Int) w false) (setR L a t w, (setP L a t w).2, 0) := by
  have hL := F.len
  have w0 := F.w0
  have w1 := F.w1
  have lb := lineS_bd F a h2
  have core := ref_core F h1 h2
  have ln := rline F h1 h2
  generalize lineS L a t = V at *
  obtain ⟨W, S, H⟩ := V
  dsimp only at lb core
  obtain ⟨K, hK⟩ := core
  replace hK : ∀ k, K ≤ k → serifref20_Set.l0 k L (t : Int) (w - W) (sfl (w - W) S H) (if w - W < 0 then H else S) [] false 0 0 (a : Int) = some (setR L a t w, (setP L a t w).2, 0) := hK
  obtain ⟨K2, hK2⟩ := ln
  replace hK2 : ∀ k, K2 ≤ k → serifref19_Line.f k L ((a : Int) - 1) (t : Int) = some (W, S, H) := hK2
  have j1 : ∀ k, serifref20_Set.j1 (k + 2) L ((a : Int) - 1) (t : Int) S H (w - W) (sfl (w - W) S H) = serifref20_Set.l0 k L (t : Int) (w - W) (sfl (w - W) S H) (if w - W < 0 then H else S) [] false 0 0 (a : Int) := by
    intro k
    simp only [serifref20_Set.j1, serifref20_Set.j2]
    rw [wrap64_in' (n := (a : Int) - 1 + 1) (by omega) (by omega), show (a : Int) - 1 + 1 = (a : Int) by omega]
    split <;> rfl
  refine ⟨K + K2 + 3, fun k hk => ?_⟩
  obtain ⟨k, rfl⟩ : ∃ q, k = q + 2 + 1 := ⟨k - 3, by omega⟩
  rw [← hK k (by omega)]
  show serifref20_Set.j0 (k + 2 + 1) L ((a : Int) - 1) (t : Int) w false = _
  rw [← j1]
  simp only [serifref20_Set.j0, Bool.false_eq_true, if_false, hK2 (k + 2) (by omega), Option.bind_some]
  rw [wrap64_in' (n := w - W) (by omega) (by omega)]
  unfold sfl
  by_cases c : w - W > 0
  · rw [if_pos c, if_pos c]
    by_cases c2 : S > 0
    · rw [if_pos c2, decide_eq_true c2]
    · rw [if_neg c2, if_neg (by omega), decide_eq_false c2]
  · rw [if_neg c, if_neg c]
    by_cases c2 : w - W < 0
    · rw [if_pos c2, if_pos c2, wrap64_in' (n := -(w - W)) (by omega) (by omega)]
    · rw [if_neg c2, if_neg c2]
theorem ref_ev (L : List S31) (a1 a2 w : Int) : Ev (fun k => serifref20_Set.f k L a1 a2 w) (setV L a1 a2 w) := by
  unfold serifref20_Set.f
  refine Ev.bind (rcheck L w 0) ?_
  unfold setV
  by_cases c0 : chkL L w 0 = 0
  · by_cases c1 : a1 < -1
    · simp only [c0, c1, ne_eq, not_true_eq_false, false_or, true_or, if_true]; exact ref_bad L a1 a2 w
    by_cases c2 : a2 ≤ a1
    · simp only [c0, c1, c2, ne_eq, not_true_eq_false, if_false, false_or, true_or, if_true]; exact ref_bad L a1 a2 w
    by_cases c3 : (L.length : Int) < a2
    · simp only [c0, c1, c2, c3, ne_eq, not_true_eq_false, if_false, false_or, if_true, decide_eq_true (show a2 > (L.length : Int) from c3)]; exact ref_bad L a1 a2 w
    have F := Fine.of c0
    have hn := F.len
    simp only [c0, c1, c2, c3, ne_eq, not_true_eq_false, if_false, if_true, false_or, decide_eq_false (show ¬ a2 > (L.length : Int) from c3)]
    have g := ref_good F (a := (a1 + 1).toNat) (t := a2.toNat) (by omega) (by omega)
    rwa [show (((a1 + 1).toNat : Nat) : Int) - 1 = a1 by omega, show ((a2.toNat : Nat) : Int) = a2 by omega] at g
  · simp only [c0, ne_eq, not_false_eq_true, true_or, if_true, if_false]; exact ref_bad L a1 a2 w
end Go.Proofs.Ytfbanppdiglciaa.Y
