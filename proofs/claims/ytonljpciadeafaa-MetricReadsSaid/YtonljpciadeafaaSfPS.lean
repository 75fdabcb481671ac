import Derived.Test.YtonljpciadeafaaSx0
import Derived.Test.YtonljpciadeafaaLongS
import Derived.Test.YtonljpciadeafaaSxPA
set_option linter.unusedVariables false
set_option linter.unusedSimpArgs false
namespace Go.Proofs.Ytonljpciadeafaa.S
open Go Go.RowKit Go.Proofs.YtonljpciadeafaaW.PrintWords Go.Proofs.YtonljpciadeafaaW.PrintLast Go.Proofs.YtonljpciadeafaaW.PrintMore
theorem C_none {α : Type} {d : Kd α} {w : World} {bs : List α} (h : Kd.C d w none bs.length bs) : bs = [] := by
  rcases Nat.eq_zero_or_pos bs.length with z | z
  · exact List.eq_nil_of_length_eq_zero z
  · obtain ⟨ad, e, _⟩ := h.2.2 z; cases e
theorem Za {α : Type} (d : Kd α) (w : World) (A : Option Addr) : Kd.C d w A 0 [] := ⟨rfl, by decide, fun h => absurd h (by decide)⟩
set_option maxRecDepth 100000 in
set_option maxHeartbeats 1000000 in
theorem JC (bs : List Int) (A : Option Addr) (c : Nat) (w : World) (hr : Kd.C (Kd.int .u8) w A bs.length bs) (hc : bs.length ≤ c) (hm : bs.length ≤ 140737488355328) :
    Calls Try.prog 55 #[.slice A bs.length c] w fun e w' => ∃ v, e = .returned v ∧ Kd.R (Kd.int .u8) 5 w' w.heap.size (fun _ => True) v bs ∧ Below w.heap.size w w' := by
  have HR := qa.mk hr
  have HC := qa.mk hc
  have HM := qa.mk hm
  have HB := qa.mk (Below.refl w.heap.size w)
  clear hr hc hm
  cases A with
  | none =>
    have E := qa.mk (C_none HR.out)
    have hq := Lib.run_eql_slice_nil (P := Try.prog) w 23 5 none bs.length c 0 0 Try.underlying23
    go_enter Try.func55, Try.ntmps55
    go_wp2
    go_ret
    exact ⟨_, rfl, by rw [E.out]; exact Kd.jE _ _ _ _ _, HB.out⟩
  | some ad =>
    have hq := Lib.run_eql_slice_nil (P := Try.prog) w 23 5 (some ad) bs.length c 0 0 Try.underlying23
    go_enter Try.func55, Try.ntmps55
    go_wp2_with (first | ((with_reducible refine qX (N := 5) rfl ?_); refine Kd.jQ (Kd.int .u8) _ 5 ?hg (N := 5) ?hd (xs := ([] : List Int)) (inner := []) (ok := fun _ => True) (okp := fun _ => True) ?hr ?hp (fun _ hk => hk) trivial (Below.refl _ _) (Nat.le_refl _) (by simp) ?_; (case hd => rfl); (case hg => rfl); (case hr => first | (go_simp; done) | (go_simp; rfl)); (case hp => exact (qY.none _ _)); intro v5 w5 ho5 hb5 hg_ hnew_; clear hg_ hnew_; have R5 := qa.mk ho5; have B5 := qa.mk hb5; have C5 := qa.mk (Kd.qO HR.out hb5); clear ho5 hb5) | ((with_reducible refine qG (b := .append) (xs := #[.tmp 5, .tmp 6]) rfl ?_); at_builtin; refine Kd.zh (Kd.int .u8) (w0 := w) w.heap.size rfl (.tmp 5) (.tmp 6) 23 5 (.int .u8 0) 1 rfl Try.underlying23 info5 rfl (by decide) (by omega) v5 [] bs _ _ _ (fun _ => True) (fun _ => False) rfl rfl ?aO ?aR (fun _ _ h => h) (fun _ h => h.elim) ?aF ?aB ?aS ?aL ?_; (case aR => exact C5.out); (case aB => exact B5.out); (case aF => exact (fun _ _ => trivial)); (case aO => exact R5.out); (case aS => exact qi B5.out); (case aL => have := HM.out; simp only [List.length_nil]; omega); intro v7 w7 ho hb hg hat; have R7 := qa.mk ho; have B7 := qa.mk hb; clear ho hb hg hat))
    go_ret
    exact ⟨_, rfl, R7.out, B7.out⟩
def okB (bs : List Int) : Prop := ∀ x ∈ bs, 0 ≤ x ∧ x < 256
def Vw (w : World) (g : Nat) (bs : List Int) : Prop := ∃ A c, w.heap[g]? = some (.cells #[.slice A bs.length c] 98 (0, 0)) ∧ bs.length ≤ c ∧ Kd.C (Kd.int .u8) w A bs.length bs
theorem Vw.below {w w' : World} {g : Nat} {bs : List Int} (h : Vw w g bs) (hb : Below w.heap.size w w') : Vw w' g bs := by
  obtain ⟨A, c, h1, h2, h3⟩ := h
  exact ⟨A, c, (hb.block _ (qz h1)).trans h1, h2, Kd.qO h3 hb⟩
def ze (bs : List Int) (p n : Int) : List Int × Int :=
  if p < 0 ∨ n < 0 ∨ n > bs.length ∨ p > bs.length - n then ([], 21) else ((bs.take (p + n).toNat).drop p.toNat, 0)
def QT (bs : List Int) (p n : Int) (w : World) (e : Ending) (w' : World) : Prop := ∃ A c, e = .returned (.tuple #[.slice A (ze bs p n).1.length c, .int .i64 (ze bs p n).2]) ∧ (ze bs p n).1.length ≤ c ∧ Kd.C (Kd.int .u8) w' A (ze bs p n).1.length (ze bs p n).1 ∧ Below w.heap.size w w'
theorem QT.bad {bs : List Int} {p n : Int} {w w' : World} (e : ze bs p n = ([], 21)) (h : Below w.heap.size w w') : QT bs p n w (.returned (.tuple #[.slice none 0 0, .int .i64 21])) w' := by
  unfold QT
  rw [e]
  exact ⟨none, 0, rfl, Nat.le_refl _, Za _ _ _, h⟩
set_option maxRecDepth 100000 in
set_option maxHeartbeats 1000000 in
theorem ZQ (bs : List Int) (g : Nat) (p n : Int) (w : World) (hv : Vw w g bs) :
    Calls Try.prog 58 #[.pointer (some ⟨g, 0, none⟩), .int .i64 p, .int .i64 n] w (QT bs p n w) := by
  obtain ⟨A, c, hb, hc, hr⟩ := hv
  have HR := qa.mk hr
  have HC := qa.mk hc
  have HB := qa.mk (Below.refl w.heap.size w)
  have hl := hr.2.1
  have c0 : w.cell? ⟨g, 0, none⟩ = some (.slice A bs.length c) := (qb hb 0).trans rfl
  clear hr hc hb
  by_cases h1 : p < 0
  · have b1 : decide (p < 0) = true := decide_eq_true h1
    have e : ze bs p n = ([], 21) := by unfold ze; rw [if_pos (Or.inl h1)]
    have E := qa.mk e
    clear e
    go_enter Try.func58, Try.ntmps58
    go_wp2
    go_ret2
    exact QT.bad E.out HB.out
  have b1 : decide (p < 0) = false := decide_eq_false h1
  by_cases h2 : n < 0
  · have b2 : decide (n < 0) = true := decide_eq_true h2
    have e : ze bs p n = ([], 21) := by unfold ze; rw [if_pos (Or.inr (Or.inl h2))]
    have E := qa.mk e
    clear e
    go_enter Try.func58, Try.ntmps58
    go_wp2
    go_ret2
    exact QT.bad E.out HB.out
  have b2 : decide (n < 0) = false := decide_eq_false h2
  by_cases h3 : (bs.length : Int) < n
  · have b3 : decide ((bs.length : Int) < n) = true := decide_eq_true h3
    have e : ze bs p n = ([], 21) := by unfold ze; rw [if_pos (Or.inr (Or.inr (Or.inl h3)))]
    have E := qa.mk e
    clear e
    go_enter Try.func58, Try.ntmps58
    go_wp2
    go_ret2
    exact QT.bad E.out HB.out
  have b3 : decide ((bs.length : Int) < n) = false := decide_eq_false h3
  by_cases h4 : (bs.length : Int) - n < p
  · have b4 : decide ((bs.length : Int) - n < p) = true := decide_eq_true h4
    have e : ze bs p n = ([], 21) := by unfold ze; rw [if_pos (Or.inr (Or.inr (Or.inr h4)))]
    have E := qa.mk e
    clear e
    go_enter Try.func58, Try.ntmps58
    go_wp2
    go_ret2
    exact QT.bad E.out HB.out
  have b4 : decide ((bs.length : Int) - n < p) = false := decide_eq_false h4
  have e : ze bs p n = ((bs.take (p + n).toNat).drop p.toNat, 0) := by unfold ze; rw [if_neg (by omega)]
  have E := qa.mk e
  clear e
  obtain ⟨i8, hi8, _, hsz8, _⟩ := info_parts info5
  obtain ⟨A8, hcut, hA8, hC8⟩ := Q5 (P := Try.prog) (Value.int .u8) 0 23 5 .i64 .i64 Try.underlying23 hi8 hsz8 A c bs p (p + n) (by omega) (by omega) (by omega) HC.out
  have R8 := qa.mk (Kd.Qn (h1 := fun _ => rfl) (hA8 _ (Kd.Qy HR.out)))
  have C8 := qa.mk hC8
  clear hA8 hC8 hi8 hsz8
  go_enter Try.func58, Try.ntmps58
  go_wp2
  go_ret2
  unfold QT
  rw [E.out]
  exact ⟨A8, _, by simp [List.length_drop, List.length_take], C8.out, R8.out, HB.out⟩
def Qc (l : List Int) : Int := l.foldl (fun x c => x * 256 + c) 0
theorem numB_snoc (l : List Int) (c : Int) : Qc (l ++ [c]) = Qc l * 256 + c := by simp [Qc, List.foldl_append]
theorem JK : ∀ (l : List Int) (x : Int), okB l → 0 ≤ x → 0 ≤ l.foldl (fun x c => x * 256 + c) x ∧ l.foldl (fun x c => x * 256 + c) x < (x + 1) * 256 ^ l.length
  | [], x, _, hx => by simp; omega
  | c :: l, x, h, hx => by
    have hc := h c (by simp)
    have i := JK l (x * 256 + c) (fun y hy => h y (by simp [hy])) (by omega)
    refine ⟨i.1, Int.lt_of_lt_of_le i.2 ?_⟩
    rw [List.length_cons, Int.pow_succ, Int.mul_comm (256 ^ l.length) 256, ← Int.mul_assoc]
    exact Int.mul_le_mul_of_nonneg_right (by omega) (Int.le_of_lt (Int.pow_pos (by decide)))
theorem numB_bd (l : List Int) (h : okB l) : 0 ≤ Qc l ∧ Qc l < 256 ^ l.length := by
  have := JK l 0 h (by omega)
  rw [Int.zero_add, Int.one_mul] at this
  exact this
theorem numB_lt {l : List Int} (h : okB l) {j : Nat} (hj : j < l.length) (h4 : l.length ≤ 4) : Qc (l.take j) < 16777216 := by
  have := (numB_bd (l.take j) (fun x hx => h x (List.mem_of_mem_take hx))).2
  have hl : (l.take j).length ≤ 3 := by rw [List.length_take]; omega
  generalize (l.take j).length = m at this hl
  match m, hl with
  | 0, _ => simp at this; omega
  | 1, _ => simp at this; omega
  | 2, _ => simp at this; omega
  | 3, _ => simp at this; omega
theorem or_step {x c : Int} (h0 : 0 ≤ x) (h1 : x < 16777216) (c0 : 0 ≤ c) (c1 : c < 256) : Go.bits .or .i64 (x * 256) c = x * 256 + c :=
  bits_join .i64 40 (by decide) (fun n a b => by rw [IntKind.wrap_i64]; simp at b; omega) 8 (x * 256) c (by omega) (by simp) (by simp; omega) c0 (by simp; omega) (by simp; omega)
end Go.Proofs.Ytonljpciadeafaa.S
set_option linter.unusedVariables false
set_option linter.unusedSimpArgs false
namespace Go.Proofs.Ytonljpciadeafaa.S
open Go Go.RowKit Go.Proofs.YtonljpciadeafaaW.PrintWords Go.Proofs.YtonljpciadeafaaW.PrintLast Go.Proofs.YtonljpciadeafaaW.PrintMore
theorem ZO {bs : List Int} (h : okB bs) (p n : Int) : okB (ze bs p n).1 := by
  unfold ze
  split
  · exact fun x hx => by cases hx
  · exact fun x hx => h x (List.mem_of_mem_take (List.mem_of_mem_drop hx))
theorem ZA (bs : List Int) (p n : Int) : (ze bs p n).1.length ≤ n.toNat ∧ (ze bs p n).1.length ≤ bs.length := by
  unfold ze
  split
  · exact ⟨Nat.zero_le _, Nat.zero_le _⟩
  · rename_i h
    dsimp only
    rw [List.length_drop, List.length_take]
    omega
def qI (bs : List Int) (p n : Int) : Int × Int := (Qc (ze bs p n).1, (ze bs p n).2)
set_option maxRecDepth 100000 in
set_option maxHeartbeats 1000000 in
theorem Ja (bs : List Int) (g : Nat) (p n : Int) (w : World) (hv : Vw w g bs) (ho : okB bs) (hn : n ≤ 4) :
    Calls Try.prog 59 #[.pointer (some ⟨g, 0, none⟩), .int .i64 p, .int .i64 n] w fun e w' => e = .returned (.tuple #[.int .i64 (qI bs p n).1, .int .i64 (qI bs p n).2]) ∧ Below w.heap.size w w' := by
  have HV := qa.mk hv
  have HO := qa.mk (ZO ho p n)
  have HL := qa.mk (ZA bs p n)
  unfold qI
  have hp := ZQ bs g p n w hv
  unfold QT at hp
  obtain ⟨L, e, hL⟩ : ∃ L e, ze bs p n = (L, e) := ⟨_, _, rfl⟩
  rw [hL] at hp HO HL ⊢
  dsimp only at hp HO HL ⊢
  have HP := qa.mk hp
  have l4 : L.length ≤ 4 := by have := HL.out.1; omega
  clear hv ho hp hL hn HL
  go_enter Try.func59, Try.ntmps59
  go_wp2_with (go_at_call 58; refine HP.out.mono ?_; rintro q w1 ⟨A, c, rfl, h1, h2, h3⟩; have C1 := qa.mk h1; have R1 := qa.mk h2; have B1 := qa.mk h3; clear h1 h2 h3)
  go_loopw [10, 22] (fun v10 v22 wr => ∃ (j : Nat), v10 = .int .i64 (Qc (L.take j)) ∧ v22 = .int .i64 j ∧ j ≤ L.length ∧ qa (Below w.heap.size w wr) ∧ qa (Kd.C (Kd.int .u8) wr A L.length L)) (fun _ v22 _ => L.length - (intOf v22).toNat)
  case atStart => exact ⟨0, by simp [Qc], rfl, Nat.zero_le _, B1, R1⟩
  case round =>
    obtain ⟨j, rfl, rfl, hj, HB, HR⟩ := hrel
    by_cases jlt : j < L.length
    · have jl := eq_true (show (j : Int) < (L.length : Int) by omega)
      have jl2 := eq_true jlt
      have jp := eq_true (show (0 : Int) ≤ (j : Int) by omega)
      obtain ⟨ad, rfl, x0⟩ := Kd.Qa HR.out (j : Int) (by omega) (by omega)
      rw [Int.toNat_natCast] at x0
      have er : rd L (j : Int) = L[j] := by unfold rd; rw [Int.toNat_natCast, List.getD_eq_getElem?_getD, List.getElem?_eq_getElem jlt]; rfl
      rw [er] at x0
      have hc := HO.out _ (List.getElem_mem jlt)
      have h0 := (numB_bd (L.take j) (fun x hx => HO.out x (List.mem_of_mem_take hx))).1
      have h1 := numB_lt HO.out jlt l4
      have ht : L.take (j + 1) = L.take j ++ [L[j]] := by rw [List.take_add_one, List.getElem?_eq_getElem jlt]; rfl
      have hs := or_step h0 h1 hc.1 hc.2
      have hz : Qc (L.take (j + 1)) = Qc (L.take j) * 256 + L[j] := by rw [ht, numB_snoc]
      have HZ := qa.mk hz
      generalize L[j] = c' at *
      generalize Qc (L.take j) = x at *
      clear er ht hz
      go_wp2
      refine ⟨⟨j + 1, ?_, by push_cast; rfl, by omega, HB, HR⟩, ?_⟩
      · rw [HZ.out]
      · show (_ : Nat) < _
        simp only [intOf]; omega
    · have jl := eq_false (show ¬ (j : Int) < (L.length : Int) by omega)
      have jl2 := eq_false jlt
      obtain rfl : j = L.length := by omega
      rw [List.take_length]
      go_wp2
      go_ret2
      exact ⟨rfl, HB.out⟩
section
variable (bs : List Int) (g : Nat) (p : Int) (w : World) (hv : Vw w g bs) (ho : okB bs)
include hv ho
set_option maxRecDepth 100000 in
theorem Qu : Calls Try.prog 57 #[.pointer (some ⟨g, 0, none⟩), .int .i64 p] w fun e w' => e = .returned (.tuple #[.int .i64 (qI bs p 4).1, .int .i64 (qI bs p 4).2]) ∧ Below w.heap.size w w' := by
  have HP := qa.mk (Ja bs g p 4 w hv ho (by decide))
  clear hv ho
  generalize qI bs p 4 = r at *
  go_enter Try.func57, Try.ntmps57
  go_wp2_with (go_at_call 59; refine HP.out.mono ?_; rintro q w1 ⟨rfl, h1⟩; have B1 := qa.mk h1; clear h1)
  go_ret2
  exact ⟨rfl, B1.out⟩
set_option maxRecDepth 100000 in
theorem Ji : Calls Try.prog 37 #[.pointer (some ⟨g, 0, none⟩), .int .i64 p] w fun e w' => e = .returned (.tuple #[.int .i64 (qI bs p 2).1, .int .i64 (qI bs p 2).2]) ∧ Below w.heap.size w w' := by
  have HP := qa.mk (Ja bs g p 2 w hv ho (by decide))
  clear hv ho
  generalize qI bs p 2 = r at *
  go_enter Try.func37, Try.ntmps37
  go_wp2_with (go_at_call 59; refine HP.out.mono ?_; rintro q w1 ⟨rfl, h1⟩; have B1 := qa.mk h1; clear h1)
  go_ret2
  exact ⟨rfl, B1.out⟩
end
theorem jX (bs : List Int) (h : okB bs) (p : Int) (n : Nat) (hn : n ≤ 4) : 0 ≤ (qI bs p n).1 ∧ (qI bs p n).1 < 256 ^ n := by
  have h1 := numB_bd (ze bs p n).1 (ZO h p n)
  have h2 := (ZA bs p n).1
  refine ⟨h1.1, Int.lt_of_lt_of_le h1.2 ?_⟩
  have h : (256 : Nat) ^ (ze bs p n).1.length ≤ 256 ^ n := Nat.pow_le_pow_right (by decide) (by omega)
  have h' : ((256 ^ (ze bs p n).1.length : Nat) : Int) ≤ ((256 ^ n : Nat) : Int) := Int.ofNat_le.2 h
  rwa [Int.natCast_pow, Int.natCast_pow] at h'
def jK (n : Int) : Int := if n ≥ 32768 then n - 65536 else n
set_option maxRecDepth 100000 in
theorem i16_calls (bs : List Int) (g : Nat) (p : Int) (w : World) (hv : Vw w g bs) (ho : okB bs) : Calls Try.prog 72 #[.pointer (some ⟨g, 0, none⟩), .int .i64 p] w fun e w' => e = .returned (.tuple #[.int .i64 (jK (qI bs p 2).1), .int .i64 (qI bs p 2).2]) ∧ Below w.heap.size w w' := by
  have HP := qa.mk (Ji bs g p w hv ho)
  have hb := jX bs ho p 2 (by decide)
  have hw : IntKind.i16.wrap (qI bs p 2).1 = jK (qI bs p 2).1 := by
    simp [IntKind.wrap, IntKind.bits, IntKind.signed, jK] at hb ⊢
    split <;> omega
  have hw2 : wrap64 (jK (qI bs p 2).1) = jK (qI bs p 2).1 := by
    simp [jK] at hb ⊢
    unfold wrap64
    split <;> omega
  clear hv ho hb
  generalize qI bs p 2 = r at *
  have HW2 := qa.mk hw2
  clear hw2
  have HW := qa.mk hw
  clear hw
  go_enter Try.func72, Try.ntmps72
  go_wp2_with (go_at_call 37; refine HP.out.mono ?_; rintro q w1 ⟨rfl, h1⟩; have B1 := qa.mk h1; clear h1)
  go_ret2
  exact ⟨by simp [HW.out, HW2.out], B1.out⟩
set_option maxRecDepth 100000 in
theorem Jo (bs : List Int) (g : Nat) (p : Int) (w : World) (hv : Vw w g bs) : Calls Try.prog 36 #[.pointer (some ⟨g, 0, none⟩), .int .i64 p] w fun e w' => e = .returned (.tuple #[.string (strOfNums (ze bs p 4).1), .int .i64 (ze bs p 4).2]) ∧ Below w.heap.size w w' := by
  have hp := ZQ bs g p 4 w hv
  unfold QT at hp
  obtain ⟨L, e, hL⟩ : ∃ L e, ze bs p 4 = (L, e) := ⟨_, _, rfl⟩
  rw [hL] at hp ⊢
  have HP := qa.mk hp
  clear hp hL hv
  go_enter Try.func36, Try.ntmps36
  go_wp2_with (go_at_call 58; refine HP.out.mono ?_; rintro q w1 ⟨A, c, rfl, h1, h2, h3⟩; have C1 := qa.mk h1; have R1 := qa.mk h2; have B1 := qa.mk h3; clear h1 h2 h3; have hcv := Kd.C_string (P := Try.prog) (A := A) (c := c) Try.underlying23 Try.underlying5 Try.underlying9 R1.out)
  go_ret2
  exact ⟨rfl, B1.out⟩
theorem Jj (bs : List Int) (p n : Int) : ze bs p n = ([], 21) ∨ (ze bs p n).2 = 0 := by
  unfold ze
  split
  · exact Or.inl rfl
  · exact Or.inr rfl
def CutP (bs : List Int) (p n : Int) (w : World) (e : Ending) (w' : World) : Prop := Below w.heap.size w w' ∧
  ((ze bs p n).2 = 0 ∧ (∃ g', w.heap.size ≤ g' ∧ e = .returned (.tuple #[.pointer (some ⟨g', 0, none⟩), .int .i64 0]) ∧ Vw w' g' (ze bs p n).1) ∨ ze bs p n = ([], 21) ∧ e = .returned (.tuple #[.pointer none, .int .i64 21]))
set_option maxRecDepth 100000 in
set_option maxHeartbeats 1000000 in
theorem cut_calls (bs : List Int) (g : Nat) (p n : Int) (w : World) (hv : Vw w g bs) : Calls Try.prog 60 #[.pointer (some ⟨g, 0, none⟩), .int .i64 p, .int .i64 n] w (CutP bs p n w) := by
  have hp := ZQ bs g p n w hv
  unfold QT at hp
  rcases Jj bs p n with h | h
  · have E := qa.mk h
    rw [h] at hp
    have HP := qa.mk hp
    clear hp h hv
    go_enter Try.func60, Try.ntmps60
    go_wp2_with (go_at_call 58; refine HP.out.mono ?_; rintro q w1 ⟨A, c, rfl, h1, h2, h3⟩; have B1 := qa.mk h3; clear h1 h2 h3)
    go_ret2
    exact ⟨B1.out, Or.inr ⟨E.out, rfl⟩⟩
  · have E := qa.mk h
    rw [h] at hp
    have HP := qa.mk hp
    clear hp h hv
    generalize hL : (ze bs p n).1 = L at *
    have EL := qa.mk hL
    clear hL
    go_enter Try.func60, Try.ntmps60
    go_wp2_with (go_at_call 58; refine HP.out.mono ?_; rintro q w1 ⟨A, c, rfl, h1, h2, h3⟩; have C1 := qa.mk h1; have R1 := qa.mk h2; have B1 := qa.mk h3; clear h1 h2 h3)
    go_ret2
    exact ⟨qF B1.out _, Or.inl ⟨E.out, _, qi B1.out, rfl, by rw [EL.out]; exact ⟨_, _, zk _ _, C1.out, Kd.zD R1.out _⟩⟩⟩
theorem cut_good (bs : List Int) (g : Nat) (p n : Int) (w : World) (hv : Vw w g bs) (h : (ze bs p n).2 = 0) : Calls Try.prog 60 #[.pointer (some ⟨g, 0, none⟩), .int .i64 p, .int .i64 n] w fun e w' => ∃ g', w.heap.size ≤ g' ∧ e = .returned (.tuple #[.pointer (some ⟨g', 0, none⟩), .int .i64 0]) ∧ Vw w' g' (ze bs p n).1 ∧ Below w.heap.size w w' := by
  refine (cut_calls bs g p n w hv).mono ?_
  rintro e w' ⟨hb, ⟨_, g', h1, h2, h3⟩ | ⟨h1, _⟩⟩
  · exact ⟨g', h1, h2, h3, hb⟩
  · rw [h1] at h; exact absurd h (by decide)
theorem cut_bad (bs : List Int) (g : Nat) (p n : Int) (w : World) (hv : Vw w g bs) (h : (ze bs p n).2 ≠ 0) : Calls Try.prog 60 #[.pointer (some ⟨g, 0, none⟩), .int .i64 p, .int .i64 n] w fun e w' => e = .returned (.tuple #[.pointer none, .int .i64 21]) ∧ Below w.heap.size w w' := by
  refine (cut_calls bs g p n w hv).mono ?_
  rintro e w' ⟨hb, ⟨h1, _⟩ | ⟨_, h1⟩⟩
  · exact absurd h1 h
  · exact ⟨h1, hb⟩
set_option maxRecDepth 100000 in
set_option maxHeartbeats 1000000 in
theorem new_calls (bs : List Int) (A : Option Addr) (c : Nat) (w : World) (hr : Kd.C (Kd.int .u8) w A bs.length bs) (hc : bs.length ≤ c) (hm : bs.length ≤ 140737488355328) :
    Calls Try.prog 34 #[.slice A bs.length c] w fun e w' => ∃ g', w.heap.size ≤ g' ∧ e = .returned (.pointer (some ⟨g', 0, none⟩)) ∧ Vw w' g' bs ∧ Below w.heap.size w w' := by
  have HP := qa.mk (JC bs A c w hr hc hm)
  clear hr hc hm
  go_enter Try.func34, Try.ntmps34
  go_wp2_with (go_at_call 55; refine HP.out.mono ?_; rintro q w1 ⟨v, rfl, h2, h3⟩; obtain ⟨A1, c1, rfl⟩ := Kd.qN h2; have R1 := qa.mk (Kd.qJ h2); have B1 := qa.mk h3; clear h2 h3)
  go_ret
  exact ⟨_, qi B1.out, rfl, ⟨_, _, zk _ _, R1.out.2.1, Kd.zD R1.out.2.2 _⟩, qF B1.out _⟩
set_option maxRecDepth 100000 in
set_option maxHeartbeats 1000000 in
theorem bytes_calls (bs : List Int) (g : Nat) (w : World) (hv : Vw w g bs) (hm : bs.length ≤ 140737488355328) :
    Calls Try.prog 61 #[.pointer (some ⟨g, 0, none⟩)] w fun e w' => ∃ v, e = .returned v ∧ Kd.R (Kd.int .u8) 5 w' w.heap.size (fun _ => True) v bs ∧ Below w.heap.size w w' := by
  obtain ⟨A, c, hb, hc, hr⟩ := hv
  have c0 : w.cell? ⟨g, 0, none⟩ = some (.slice A bs.length c) := (qb hb 0).trans rfl
  have HP := qa.mk (JC bs A c w hr hc hm)
  clear hr hc hm hb
  go_enter Try.func61, Try.ntmps61
  go_wp2_with (go_at_call 55; refine HP.out.mono ?_; rintro q w1 ⟨v, rfl, h2, h3⟩; have R1 := qa.mk h2; have B1 := qa.mk h3; clear h2 h3)
  go_ret
  exact ⟨_, rfl, R1.out, B1.out⟩
set_option maxRecDepth 100000 in
theorem ZC (bs : List Int) (g : Nat) (w : World) (hv : Vw w g bs) : Calls Try.prog 67 #[.pointer (some ⟨g, 0, none⟩)] w fun e w' => e = .returned (.int .i64 (bs.length : Int)) ∧ Below w.heap.size w w' := by
  obtain ⟨A, c, hb, hc, hr⟩ := hv
  have c0 : w.cell? ⟨g, 0, none⟩ = some (.slice A bs.length c) := (qb hb 0).trans rfl
  have HB := qa.mk (Below.refl w.heap.size w)
  clear hr hc hb
  go_enter Try.func67, Try.ntmps67
  go_wp2
  go_ret
  exact ⟨rfl, HB.out⟩
end Go.Proofs.Ytonljpciadeafaa.S
set_option linter.unusedVariables false
set_option linter.unusedSimpArgs false
namespace Go.Proofs.Ytonljpciadeafaa.S
open Go Go.RowKit Go.Proofs.YtonljpciadeafaaW.PrintWords Go.Proofs.YtonljpciadeafaaW.PrintLast Go.Proofs.YtonljpciadeafaaW.PrintMore
theorem JH (bs : List Int) (p n : Int) : qI bs p n = (0, 21) ∨ (qI bs p n).2 = 0 := by
  unfold qI
  rcases Jj bs p n with h | h
  · rw [h]; exact Or.inl rfl
  · exact Or.inr h
def zC (bs : List Int) (face : Int) : Int × Int :=
  if (ze bs 0 4).2 ≠ 0 then (0, 31)
  else if ((strOfNums (ze bs 0 4).1).toList == [116, 116, 99, 102]) = false then (if face ≠ 0 then (0, 35) else (0, 0))
  else if (qI bs 4 4).2 ≠ 0 then (0, 31)
  else if (qI bs 4 4).1 ≠ 65536 ∧ (qI bs 4 4).1 ≠ 131072 then (0, 32)
  else if (qI bs 8 4).2 ≠ 0 ∨ (qI bs 8 4).1 = 0 then (0, 31)
  else if (qI bs 8 4).1 > 64 then (0, 33)
  else if face < 0 ∨ face ≥ (qI bs 8 4).1 then (0, 35)
  else ((qI bs (12 + 4 * face) 4).1, if (qI bs (12 + 4 * face) 4).2 = 0 then 0 else 31)
set_option maxRecDepth 100000 in
set_option maxHeartbeats 2000000 in
theorem begin_calls (bs : List Int) (g : Nat) (face : Int) (w : World) (hv : Vw w g bs) (ho : okB bs) :
    Calls Try.prog 35 #[.pointer (some ⟨g, 0, none⟩), .int .i64 face] w fun e w' => e = .returned (.tuple #[.int .i64 (zC bs face).1, .int .i64 (zC bs face).2]) ∧ Below w.heap.size w w' := by
  have HT := qa.mk (Jo bs g 0 w hv)
  have HU := qa.mk (fun p w' (hb : Below w.heap.size w w') => Qu bs g p w' (hv.below hb) ho)
  have n8 : 0 ≤ (qI bs 8 4).1 ∧ (qI bs 8 4).1 < 256 ^ 4 := jX bs ho 8 4 (by decide)
  clear hv ho
  obtain ⟨R, hR⟩ : ∃ R, R = zC bs face := ⟨_, rfl⟩
  rw [← hR]
  have HR := qa.mk hR
  clear hR
  unfold zC at HR
  rcases Jj bs 0 4 with h | h
  · rw [h] at HT HR
    rw [if_pos (by decide)] at HR
    clear h n8
    go_enter Try.func35, Try.ntmps35
    go_wp2_with (first | (go_at_call 36; refine HT.out.mono ?_; rintro q w1 ⟨rfl, h1⟩; have B1 := qa.mk h1; clear h1) | (go_at_call 56; refine (Qf.calls 21 31 _ rfl).mono ?_; rintro q w2 ⟨rfl, h2⟩; have B2 := qa.mk (qc B1.out h2.below); clear h2))
    go_ret2
    exact ⟨by rw [HR.out]; rfl, B2.out⟩
  rw [h] at HT
  rw [if_neg (by rw [h]; decide)] at HR
  generalize (strOfNums (ze bs 0 4).1) = tg at *
  clear h
  cases c1 : (tg.toList == [116, 116, 99, 102]) with
  | false =>
    rw [c1, if_pos rfl] at HR
    clear n8
    by_cases c2 : face ≠ 0
    · rw [if_pos c2] at HR
      have c2b : (face != 0) = true := bne_iff_ne.mpr c2
      clear c2
      go_enter Try.func35, Try.ntmps35
      go_wp2_with (first | (go_at_call 36; refine HT.out.mono ?_; rintro q w1 ⟨rfl, h1⟩; have B1 := qa.mk h1; clear h1) | (go_at_call 56; refine (Qf.calls 0 0 _ rfl).mono ?_; rintro q w2 ⟨rfl, h2⟩; have B2 := qa.mk (qc B1.out h2.below); clear h2))
      go_ret2
      exact ⟨by rw [HR.out]; rfl, B2.out⟩
    · rw [if_neg c2] at HR
      obtain rfl : face = 0 := by omega
      clear c2
      go_enter Try.func35, Try.ntmps35
      go_wp2_with (first | (go_at_call 36; refine HT.out.mono ?_; rintro q w1 ⟨rfl, h1⟩; have B1 := qa.mk h1; clear h1) | (go_at_call 56; refine (Qf.calls 0 0 _ rfl).mono ?_; rintro q w2 ⟨rfl, h2⟩; have B2 := qa.mk (qc B1.out h2.below); clear h2))
      go_ret2
      exact ⟨by rw [HR.out]; rfl, B2.out⟩
  | true =>
    rw [c1, if_neg (by decide)] at HR
    go_enter Try.func35, Try.ntmps35
    go_upto_region 8 with (first | (go_at_call 36; refine HT.out.mono ?_; rintro q w1 ⟨rfl, h1⟩; have B1 := qa.mk h1; clear h1) | (go_at_call 56; refine (Qf.calls 0 0 _ rfl).mono ?_; rintro q w2 ⟨rfl, h2⟩; have B2 := qa.mk (qc B1.out h2.below); clear h2))
    go_upto_region 9 with (go_at_call 57; refine (HU.out 4 w2 B2.out).mono ?_; rintro q w3 ⟨rfl, h2⟩; have B3 := qa.mk (qc B2.out h2); clear h2)
    obtain ⟨v4, x4, h4⟩ : ∃ a b, qI bs 4 4 = (a, b) := ⟨_, _, rfl⟩
    have t4 := JH bs 4 4
    rw [h4] at t4 HR ⊢
    dsimp only at t4 HR ⊢
    clear h4
    rcases t4 with t4 | t4
    · injection t4 with e1 e2
      subst e1; subst e2
      rw [if_pos (by decide)] at HR
      go_wp2
      go_ret2
      exact ⟨by rw [HR.out]; rfl, B3.out⟩
    subst t4
    rw [if_neg (by decide)] at HR
    by_cases c3 : v4 ≠ 65536 ∧ v4 ≠ 131072
    · rw [if_pos c3] at HR
      have c3a : (v4 != 65536) = true := bne_iff_ne.mpr c3.1
      have c3b : (v4 != 131072) = true := bne_iff_ne.mpr c3.2
      clear c3
      go_wp2
      go_ret2
      exact ⟨by rw [HR.out]; rfl, B3.out⟩
    rw [if_neg c3] at HR
    have c3 : v4 = 65536 ∨ v4 = 131072 := by omega
    rcases c3 with rfl | rfl
    all_goals
      go_upto_region 13 with fail
      have H8 := qa.mk (HU.out 8)
      obtain ⟨n, x8, h8⟩ : ∃ a b, qI bs 8 4 = (a, b) := ⟨_, _, rfl⟩
      have t8 := JH bs 8 4
      rw [h8] at t8 n8 HR H8
      dsimp only at t8 n8 HR H8
      clear h8
      rcases t8 with t8 | t8
      · injection t8 with e1 e2
        subst e1; subst e2
        rw [if_pos (by decide)] at HR
        clear n8
        go_wp2_with (go_at_call 57; refine (H8.out w3 B3.out).mono ?_; rintro q w4 ⟨rfl, h2⟩; have B4 := qa.mk (qc B3.out h2); clear h2)
        go_ret2
        exact ⟨by rw [HR.out]; rfl, B4.out⟩
      subst t8
      by_cases c4 : n = 0
      · subst c4
        rw [if_pos (by decide)] at HR
        clear n8
        go_wp2_with (go_at_call 57; refine (H8.out w3 B3.out).mono ?_; rintro q w4 ⟨rfl, h2⟩; have B4 := qa.mk (qc B3.out h2); clear h2)
        go_ret2
        exact ⟨by rw [HR.out]; rfl, B4.out⟩
      rw [if_neg (by intro z; rcases z with z | z; exact z rfl; exact c4 z)] at HR
      have c4b : (n == 0) = false := beq_eq_false_iff_ne.mpr c4
      by_cases c5 : 64 < n
      · rw [if_pos c5] at HR
        have c5b : decide (64 < n) = true := decide_eq_true c5
        clear c5 c4 n8
        go_wp2_with (go_at_call 57; refine (H8.out w3 B3.out).mono ?_; rintro q w4 ⟨rfl, h2⟩; have B4 := qa.mk (qc B3.out h2); clear h2)
        go_ret2
        exact ⟨by rw [HR.out]; rfl, B4.out⟩
      rw [if_neg c5] at HR
      have c5b : decide (64 < n) = false := decide_eq_false c5
      by_cases c6 : face < 0
      · rw [if_pos (Or.inl c6)] at HR
        have c6b : decide (face < 0) = true := decide_eq_true c6
        clear c6 c5 c4 n8
        go_wp2_with (go_at_call 57; refine (H8.out w3 B3.out).mono ?_; rintro q w4 ⟨rfl, h2⟩; have B4 := qa.mk (qc B3.out h2); clear h2)
        go_ret2
        exact ⟨by rw [HR.out]; rfl, B4.out⟩
      have c6b : decide (face < 0) = false := decide_eq_false c6
      by_cases c7 : n ≤ face
      · rw [if_pos (Or.inr c7)] at HR
        have c7b : decide (n ≤ face) = true := decide_eq_true c7
        clear c7 c6 c5 c4 n8
        go_wp2_with (go_at_call 57; refine (H8.out w3 B3.out).mono ?_; rintro q w4 ⟨rfl, h2⟩; have B4 := qa.mk (qc B3.out h2); clear h2)
        go_ret2
        exact ⟨by rw [HR.out]; rfl, B4.out⟩
      rw [if_neg (by omega)] at HR
      have c7b : decide (n ≤ face) = false := decide_eq_false c7
      go_upto_region 20 with (go_at_call 57; refine (H8.out w3 B3.out).mono ?_; rintro q w4 ⟨rfl, h2⟩; have B4 := qa.mk (qc B3.out h2); clear h2)
      go_upto_region 21 with (go_at_call 57; refine (HU.out (12 + 4 * face) w4 B4.out).mono ?_; rintro q w5 ⟨rfl, h2⟩; have B5 := qa.mk (qc B4.out h2); clear h2)
      obtain ⟨v, x, hx⟩ : ∃ a b, qI bs (12 + 4 * face) 4 = (a, b) := ⟨_, _, rfl⟩
      have tx := JH bs (12 + 4 * face) 4
      rw [hx] at tx HR ⊢
      dsimp only at tx HR ⊢
      clear hx c7 c6 c5 c4 n8
      rcases tx with tx | tx
      · injection tx with e1 e2
        subst e1; subst e2
        go_wp2_with (go_at_call 56; refine (Qf.calls 21 31 _ rfl).mono ?_; rintro q w6 ⟨rfl, h2⟩; have B6 := qa.mk (qc B5.out h2.below); clear h2)
        go_ret2
        exact ⟨by rw [HR.out]; rfl, B6.out⟩
      · subst tx
        go_wp2_with (go_at_call 56; refine (Qf.calls 0 0 _ rfl).mono ?_; rintro q w6 ⟨rfl, h2⟩; have B6 := qa.mk (qc B5.out h2.below); clear h2)
        go_ret2
        exact ⟨by rw [HR.out]; rfl, B6.out⟩
end Go.Proofs.Ytonljpciadeafaa.S
set_option linter.unusedVariables false
set_option linter.unusedSimpArgs false
namespace Go.Proofs.Ytonljpciadeafaa.S
open Go Go.RowKit Go.Proofs.YtonljpciadeafaaW.PrintWords Go.Proofs.YtonljpciadeafaaW.PrintLast Go.Proofs.YtonljpciadeafaaW.PrintMore
theorem Qj {n : Int} (h0 : -9223372036854775808 ≤ n) (h1 : n ≤ 9223372036854775807) : wrap64 n = n := by unfold wrap64; omega
theorem rdB {l : List Int} {i : Nat} (h : i < l.length) : rd l (i : Int) = l[i] := by unfold rd; rw [Int.toNat_natCast, List.getD_eq_getElem?_getD, List.getElem?_eq_getElem h]; rfl
def wg (i : Nat) : Int := if i % 4 = 0 then 16777216 else if i % 4 = 1 then 65536 else if i % 4 = 2 then 256 else 1
def j6 : Int → Nat → List Int → Int
  | s, _, [] => s
  | s, i, c :: l => j6 ((s + c * wg i) % 4294967296) (i + 1) l
def QM (l : List Int) : Int := j6 0 0 l
theorem shl_wg {c : Int} (h0 : 0 ≤ c) (h1 : c < 256) (i : Nat) (hi : (i : Int) ≤ 9223372036854775807) : 0 ≤ wrap64 (24 - wrap64 (8 * Int.tmod (i : Int) 4)) ∧ shl .u32 (c % 4294967296) (wrap64 (24 - wrap64 (8 * Int.tmod (i : Int) 4))) = c * wg i := by
  have hm : Int.tmod (i : Int) 4 = ((i % 4 : Nat) : Int) := by rw [Int.tmod_eq_emod_of_nonneg (by omega)]; omega
  have hc : c % 4294967296 = c := by omega
  rw [hm, hc]
  have h4 : i % 4 < 4 := Nat.mod_lt _ (by decide)
  unfold wg
  generalize i % 4 = m at h4
  have e : wrap64 (24 - wrap64 (8 * (m : Int))) = 24 - 8 * (m : Int) := by unfold wrap64; omega
  rw [e]
  have key : ∀ (n : Nat) (p : Int), (2 : Int) ^ min ((n : Int)).toNat IntKind.u32.bits = p → 0 ≤ p → p ≤ 16777216 → shl .u32 c (n : Int) = c * p := by
    intro n p hp p0 p1
    unfold shl
    rw [hp, IntKind.wrap_u32]
    have : c * p ≤ 255 * 16777216 := Int.le_trans (Int.mul_le_mul_of_nonneg_right (by omega) p0) (Int.mul_le_mul_of_nonneg_left p1 (by decide))
    have : 0 ≤ c * p := Int.mul_nonneg h0 p0
    omega
  match m, h4 with
  | 0, _ => exact ⟨by decide, key 24 16777216 (by decide) (by decide) (by decide)⟩
  | 1, _ => exact ⟨by decide, key 16 65536 (by decide) (by decide) (by decide)⟩
  | 2, _ => exact ⟨by decide, key 8 256 (by decide) (by decide) (by decide)⟩
  | 3, _ => exact ⟨by decide, key 0 1 (by decide) (by decide) (by decide)⟩
theorem sum_l0 (l : List Int) (ho : okB l) (hl : l.length ≤ 4611686018427387904) : ∀ (d i : Nat) (s : Int), l.length - i = d → i ≤ l.length → 0 ≤ s → s < 4294967296 →
    Ev (fun k => zB.l0 k s l (l.length : Int) (i : Int)) (j6 s i (l.drop i)) := by
  intro d
  induction d with
  | zero =>
    intro i s e hi s0 s1
    rw [List.drop_of_length_le (by omega)]
    refine Ev.step (f := fun _ => some s) (fun k => ?_) (Ev.now _)
    rw [zB.l0, if_neg (by omega), Qj (by omega) (by omega)]
  | succ d ih =>
    intro i s e hi s0 s1
    have hlt : i < l.length := by omega
    have h1 : (i : Int) < (l.length : Int) := by omega
    have h2 : (0 : Int) ≤ (i : Int) := by omega
    have hc := ho _ (List.getElem_mem hlt)
    obtain ⟨w1, w2⟩ := shl_wg hc.1 hc.2 i (by omega)
    rw [List.drop_eq_getElem_cons hlt]
    refine Ev.step (fun k => ?_) (ih (i + 1) ((s + l[i] * wg i) % 4294967296) (by omega) (by omega) (by omega) (by omega))
    rw [zB.l0, if_pos h1, if_pos h2, if_pos h1, if_pos w1, rdB hlt, w2, Qj (n := (i : Int) + 1) (by omega) (by omega)]
    rfl
theorem sum_ev (l : List Int) (ho : okB l) (hl : l.length ≤ 4611686018427387904) : Ev (fun k => zB.f k l) (QM l) := by
  have := sum_l0 l ho hl l.length 0 0 (by omega) (by omega) (by omega) (by omega)
  rwa [List.drop_zero] at this
def x4 (r : List Int) : Int := ((r.getD 0 0 * 256 + r.getD 1 0) * 256 + r.getD 2 0) * 256 + r.getD 3 0
theorem wgs (i : Nat) (hi : i % 4 = 0) : wg i = 16777216 ∧ wg (i + 1) = 65536 ∧ wg (i + 2) = 256 ∧ wg (i + 3) = 1 := by
  refine ⟨by unfold wg; rw [if_pos hi], ?_, ?_, ?_⟩
  · unfold wg; rw [if_neg (by omega), if_pos (by omega)]
  · unfold wg; rw [if_neg (by omega), if_neg (by omega), if_pos (by omega)]
  · unfold wg; rw [if_neg (by omega), if_neg (by omega), if_neg (by omega)]
theorem sumA_four (s : Int) (i : Nat) (hi : i % 4 = 0) (r : List Int) (hs0 : 0 ≤ s) (hs : s < 4294967296) : j6 s i r = j6 ((s + x4 r) % 4294967296) (i + 4) (r.drop 4) := by
  obtain ⟨w0, w1, w2, w3⟩ := wgs i hi
  match r with
  | [] => simp only [j6, x4, List.drop_nil, List.getD_nil]; omega
  | [a] => simp only [j6, x4, List.drop_succ_cons, List.drop_nil, List.drop_zero, List.getD_cons_zero, List.getD_cons_succ, List.getD_nil, w0]; omega
  | [a, b] => simp only [j6, x4, List.drop_succ_cons, List.drop_nil, List.drop_zero, List.getD_cons_zero, List.getD_cons_succ, List.getD_nil, w0, w1]; omega
  | [a, b, c] => simp only [j6, x4, List.drop_succ_cons, List.drop_nil, List.drop_zero, List.getD_cons_zero, List.getD_cons_succ, List.getD_nil, w0, w1, w2]; omega
  | a :: b :: c :: d :: t =>
    simp only [j6, x4, List.drop_succ_cons, List.drop_nil, List.drop_zero, List.getD_cons_zero, List.getD_cons_succ, List.getD_nil, w0, w1, w2, w3]
    congr 1
    omega
theorem atB {l : List Int} (ho : okB l) (n : Nat) : 0 ≤ l.getD n 0 ∧ l.getD n 0 < 256 := by
  rw [List.getD_eq_getElem?_getD]
  by_cases h : n < l.length
  · rw [List.getElem?_eq_getElem h]; exact ho _ (List.getElem_mem h)
  · rw [List.getElem?_eq_none (by omega)]; simp
theorem rs_l1 (l : List Int) (ho : okB l) (hl : l.length ≤ 4611686018427387904) (k i j : Nat) (s x : Int) (hi : i ≤ l.length) (hj : j < 4) (x0 : 0 ≤ x) (x1 : x ≤ 16777216) :
    qB.l1 (k + 1) l s (i : Int) x (j : Int) = qB.l1 k l s (i : Int) (x * 256 + l.getD (i + j) 0) ((j + 1 : Nat) : Int) := by
  have a := atB ho (i + j)
  have e1 : wrap64 ((i : Int) + (j : Int)) = ((i + j : Nat) : Int) := by rw [Qj (by omega) (by omega)]; omega
  have e2 : wrap64 ((j : Int) + 1) = ((j + 1 : Nat) : Int) := by rw [Qj (by omega) (by omega)]; omega
  have e3 : wrap64 (x * 256) = x * 256 := Qj (by omega) (by omega)
  rw [qB.l1, if_pos (by omega), e1, e2, e3]
  by_cases h : i + j < l.length
  · have hg : l.getD (i + j) 0 = l[i + j] := by rw [List.getD_eq_getElem?_getD, List.getElem?_eq_getElem h]; rfl
    rw [hg] at a ⊢
    rw [if_pos (by omega), if_pos (by omega), rdB h, Qj (n := l[i + j]) (by omega) (by omega), Qj (n := x * 256 + l[i + j]) (by omega) (by omega)]
  · rw [if_neg (by omega)]
    have hg : l.getD (i + j) 0 = 0 := by rw [List.getD_eq_getElem?_getD, List.getElem?_eq_none (by omega)]; rfl
    rw [hg, Int.add_zero]
theorem rs_st {l : List Int} (ho : okB l) (hl : l.length ≤ 4611686018427387904) {i j : Nat} {s x r : Int} (hi : i ≤ l.length) (hj : j < 4) (x0 : 0 ≤ x) (x1 : x ≤ 16777216) (h : Ev (fun k => qB.l1 k l s (i : Int) (x * 256 + l.getD (i + j) 0) ((j + 1 : Nat) : Int)) r) : Ev (fun k => qB.l1 k l s (i : Int) x (j : Int)) r :=
  Ev.step (fun k => rs_l1 l ho hl k i j s x hi hj x0 x1) h
theorem rs_l0 (l : List Int) (ho : okB l) (hl : l.length ≤ 4611686018427387904) : ∀ (d i : Nat) (s : Int), l.length - i ≤ d → i % 4 = 0 → i ≤ l.length + 3 → 0 ≤ s → s < 4294967296 →
    Ev (fun k => qB.l0 k l s (i : Int)) (j6 s i (l.drop i)) := by
  intro d
  induction d with
  | zero =>
    intro i s e h4 hi s0 s1
    rw [List.drop_of_length_le (by omega)]
    refine Ev.step (f := fun _ => some s) (fun k => ?_) (Ev.now _)
    rw [qB.l0, if_neg (by omega)]
  | succ d ih =>
    intro i s e h4 hi s0 s1
    by_cases hlt : i < l.length
    · have a0 := atB ho (i + 0); have a1 := atB ho (i + 1); have a2 := atB ho (i + 2); have a3 := atB ho (i + 3)
      have hx : x4 (l.drop i) = ((l.getD (i + 0) 0 * 256 + l.getD (i + 1) 0) * 256 + l.getD (i + 2) 0) * 256 + l.getD (i + 3) 0 := by
        unfold x4
        simp only [List.getD_eq_getElem?_getD, List.getElem?_drop]
      have g := ih (i + 4) ((s + x4 (l.drop i)) % 4294967296) (by omega) (by omega) (by omega) (by omega) (by omega)
      rw [sumA_four s i h4 _ s0 s1, List.drop_drop]
      generalize hX : x4 (l.drop i) = X at *
      have e0 : (0 * 256 + l.getD (i + 0) 0) * 256 = l.getD (i + 0) 0 * 256 := by omega
      have e5 : (((0 * 256 + l.getD (i + 0) 0) * 256 + l.getD (i + 1) 0) * 256 + l.getD (i + 2) 0) * 256 + l.getD (i + 3) 0 = X := by rw [e0, hx]
      have g4 : Ev (fun k => qB.l1 k l s (i : Int) ((((0 * 256 + l.getD (i + 0) 0) * 256 + l.getD (i + 1) 0) * 256 + l.getD (i + 2) 0) * 256 + l.getD (i + 3) 0) ((4 : Nat) : Int)) (j6 ((s + X) % 4294967296) (i + 4) (l.drop (i + 4))) := by
        refine Ev.step (fun k => ?_) g
        rw [qB.l1, if_neg (by decide), e5, Qj (n := s + X) (by omega) (by omega), Qj (n := (i : Int) + 4) (by omega) (by omega), Int.tmod_eq_emod_of_nonneg (by omega)]
        rfl
      have g3 := rs_st (j := 3) (x := ((0 * 256 + l.getD (i + 0) 0) * 256 + l.getD (i + 1) 0) * 256 + l.getD (i + 2) 0) ho hl (by omega) (by decide) (by omega) (by omega) g4
      have g2 := rs_st (j := 2) (x := (0 * 256 + l.getD (i + 0) 0) * 256 + l.getD (i + 1) 0) ho hl (by omega) (by decide) (by omega) (by omega) g3
      have g1 := rs_st (j := 1) (x := 0 * 256 + l.getD (i + 0) 0) ho hl (by omega) (by decide) (by omega) (by omega) g2
      have g0 := rs_st (j := 0) (x := 0) ho hl (by omega) (by decide) (by omega) (by omega) g1
      refine Ev.step (fun k => ?_) g0
      rw [qB.l0, if_pos (by omega)]
      rfl
    · rw [List.drop_of_length_le (by omega)]
      refine Ev.step (f := fun _ => some s) (fun k => ?_) (Ev.now _)
      rw [qB.l0, if_neg (by omega)]
theorem rsum_ev (l : List Int) (ho : okB l) (hl : l.length ≤ 4611686018427387904) : Ev (fun k => qB.f k l) (QM l) := by
  have := rs_l0 l ho hl l.length 0 0 (by omega) (by omega) (by omega) (by omega) (by omega)
  rwa [List.drop_zero] at this
theorem sumA_bd : ∀ (l : List Int) (s : Int) (i : Nat), 0 ≤ s → s < 4294967296 → 0 ≤ j6 s i l ∧ j6 s i l < 4294967296
  | [], s, i, h0, h1 => ⟨h0, h1⟩
  | c :: l, s, i, h0, h1 => sumA_bd l _ _ (by omega) (by omega)
theorem Ju (l : List Int) : 0 ≤ QM l ∧ QM l < 4294967296 := sumA_bd l 0 0 (by decide) (by decide)
theorem sumA_add : ∀ (l : List Int) (s t : Int) (i j : Nat), i % 4 = j % 4 → 0 ≤ s → s < 4294967296 → 0 ≤ t → t < 4294967296 → j6 ((s + t) % 4294967296) i l = (s + j6 t j l) % 4294967296
  | [], s, t, i, j, _, h0, h1, _, _ => by simp only [j6]
  | c :: l, s, t, i, j, hij, h0, h1, t0, t1 => by
    have hw : wg i = wg j := by unfold wg; rw [hij]
    have := sumA_add l s ((t + c * wg j) % 4294967296) (i + 1) (j + 1) (by omega) h0 h1 (by omega) (by omega)
    simp only [j6]
    rw [← this, hw]
    congr 1
    omega
theorem JA : ∀ (a b : List Int) (s : Int) (i : Nat), j6 s i (a ++ b) = j6 (j6 s i a) (i + a.length) b
  | [], b, s, i => by simp [j6]
  | c :: a, b, s, i => by
    simp only [List.cons_append, j6, List.length_cons]
    rw [JA a b, show i + 1 + a.length = i + (a.length + 1) by omega]
theorem sumB_append (a b : List Int) (h : a.length % 4 = 0) : QM (a ++ b) = (QM a + QM b) % 4294967296 := by
  unfold QM
  have := sumA_add b (j6 0 0 a) 0 (0 + a.length) 0 (by omega) (Ju a).1 (Ju a).2 (by decide) (by decide)
  rw [Int.add_zero, Int.emod_eq_of_lt (show 0 ≤ j6 0 0 a from (Ju a).1) (show j6 0 0 a < 4294967296 from (Ju a).2)] at this
  rw [JA, this]
end Go.Proofs.Ytonljpciadeafaa.S
set_option linter.unusedVariables false
set_option linter.unusedSimpArgs false
namespace Go.Proofs.Ytonljpciadeafaa.S
open Go Go.RowKit Go.Proofs.YtonljpciadeafaaW.PrintWords Go.Proofs.YtonljpciadeafaaW.PrintLast Go.Proofs.YtonljpciadeafaaW.PrintMore
def Ql (e1 e2 e3 e4 : Int) (tg last : ByteArray) (su pl sz : Int) (C : List Int × Int) : S71 × Int :=
  if e1 ≠ 0 then (z71, 31) else if e2 ≠ 0 then (z71, 31) else if e3 ≠ 0 then (z71, 31) else if e4 ≠ 0 then (z71, 31)
  else if Op.bytesLess tg.toList last.toList = true then (z71, 31) else if (tg.toList == last.toList) = true then (z71, 31) else if Int.tmod pl 4 ≠ 0 then (z71, 31)
  else if C.2 ≠ 0 then (z71, 31)
  else if (tg.toList == [104, 101, 97, 100]) = true then (⟨tg, pl, sz⟩, 0) else if QM C.1 ≠ su then (z71, 31) else (⟨tg, pl, sz⟩, 0)
def Qe (bs : List Int) (p : Int) (last : ByteArray) : S71 × Int :=
  Ql (ze bs p 4).2 (qI bs (p + 4) 4).2 (qI bs (p + 8) 4).2 (qI bs (p + 12) 4).2 (strOfNums (ze bs p 4).1) last (qI bs (p + 4) 4).1 (qI bs (p + 8) 4).1 (qI bs (p + 12) 4).1 (ze bs (qI bs (p + 8) 4).1 (qI bs (p + 12) 4).1)
set_option maxRecDepth 100000 in
set_option maxHeartbeats 4000000 in
theorem row_calls (bs : List Int) (g : Nat) (p : Int) (last : ByteArray) (w : World) (hv : Vw w g bs) (ho : okB bs) (hl : bs.length ≤ 140737488355328) (h0 : 0 ≤ p) (h1 : p ≤ 1099511627776) :
    Calls Try.prog 38 #[.pointer (some ⟨g, 0, none⟩), .int .i64 p, .string last] w fun e w' => e = .returned (.tuple #[.agg #[.string (Qe bs p last).1.f0, .int .i64 (Qe bs p last).1.f1, .int .i64 (Qe bs p last).1.f2], .int .i64 (Qe bs p last).2]) ∧ Below w.heap.size w w' := by
  have HT := qa.mk (fun w' (hb : Below w.heap.size w w') => Jo bs g p w' (hv.below hb))
  have HS := qa.mk (fun w' (hb : Below w.heap.size w w') => Qu bs g (p + 4) w' (hv.below hb) ho)
  have HP := qa.mk (fun w' (hb : Below w.heap.size w w') => Qu bs g (p + 8) w' (hv.below hb) ho)
  have HZ := qa.mk (fun w' (hb : Below w.heap.size w w') => Qu bs g (p + 12) w' (hv.below hb) ho)
  have HC := qa.mk (fun p n w' (hb : Below w.heap.size w w') (h : (ze bs p n).2 = 0) => cut_good bs g p n w' (hv.below hb) h)
  have HD := qa.mk (fun p n w' (hb : Below w.heap.size w w') (h : (ze bs p n).2 ≠ 0) => cut_bad bs g p n w' (hv.below hb) h)
  have HO := qa.mk (fun p n => ZO ho p n)
  have HN := qa.mk (fun p n => Nat.le_trans (ZA bs p n).2 hl)
  obtain ⟨R, hR⟩ : ∃ R, R = Qe bs p last := ⟨_, rfl⟩
  rw [← hR]
  have HR := qa.mk hR
  clear hR hv ho hl
  unfold Qe at HR
  generalize (ze bs p 4).2 = e1 at *
  generalize strOfNums (ze bs p 4).1 = tg at *
  obtain ⟨su, e2, h2⟩ : ∃ a b, qI bs (p + 4) 4 = (a, b) := ⟨_, _, rfl⟩
  obtain ⟨pl, e3, h3⟩ : ∃ a b, qI bs (p + 8) 4 = (a, b) := ⟨_, _, rfl⟩
  obtain ⟨sz, e4, h4⟩ : ∃ a b, qI bs (p + 12) 4 = (a, b) := ⟨_, _, rfl⟩
  rw [h2] at HS HR
  rw [h3] at HP HR
  rw [h4] at HZ HR
  dsimp only at HS HP HZ HR
  clear h2 h3 h4
  unfold Ql at HR
  go_enter Try.func38, Try.ntmps38
  go_upto_region 1 with fail
  obtain ⟨W, r, hW, er, bW, lW⟩ : ∃ W r, W = w.alloc (Obj.cells #[.string ⟨#[]⟩, .int .i64 0, .int .i64 0] 71) ∧ w.heap.size = r ∧ W.heap[r]? = some (Obj.cells #[.string ⟨#[]⟩, .int .i64 0, .int .i64 0] 71 (0, 0)) ∧ Below w.heap.size w W :=
    ⟨_, _, rfl, rfl, zk _ _, qF (Below.refl _ _) _⟩
  rw [← hW, er]
  have GE : w.heap.size ≤ r := by omega
  have LW := qa.mk lW
  have BW := qa.mk bW
  clear hW lW bW er
  go_upto_region 2 with (go_at_call 36; refine (HT.out W LW.out).mono ?_; rintro q w1 ⟨rfl, h1⟩; have K1 := qa.mk ((h1.block _ (qz BW.out)).trans BW.out); have B1 := qa.mk (qc LW.out h1); clear h1)
  go_upto_region 3 with (go_at_call 57; refine (HS.out w1 B1.out).mono ?_; rintro q w2 ⟨rfl, h1⟩; have K2 := qa.mk ((h1.block _ (qz K1.out)).trans K1.out); have B2 := qa.mk (qc B1.out h1); clear h1)
  go_upto_region 4 with (go_at_call 57; refine (HP.out w2 B2.out).mono ?_; rintro q w3 ⟨rfl, h1⟩; have K3 := qa.mk ((h1.block _ (qz K2.out)).trans K2.out); have B3 := qa.mk (qc B2.out h1); clear h1)
  go_upto_region 5 with (go_at_call 57; refine (HZ.out w3 B3.out).mono ?_; rintro q w4 ⟨rfl, h1⟩; have K4 := qa.mk ((h1.block _ (qz K3.out)).trans K3.out); have B4 := qa.mk (qc B3.out h1); clear h1)
  clear LW BW K1 B1 K2 B2 K3 B3 HT HS HP HZ h0 h1
  by_cases c1 : e1 ≠ 0
  · rw [if_pos c1] at HR
    have cb : (e1 != 0) = true := bne_iff_ne.mpr c1
    clear c1
    have y0 : w4.cell? ⟨r, 0, none⟩ = some (.string ⟨#[]⟩) := (qb K4.out 0).trans rfl
    have y1 : w4.cell? ⟨r, 1, none⟩ = some (.int .i64 0) := (qb K4.out 1).trans rfl
    have y2 : w4.cell? ⟨r, 2, none⟩ = some (.int .i64 0) := (qb K4.out 2).trans rfl
    have f0 : w4.frozen? ⟨r, 0, none⟩ = false := qd K4.out 0
    have f1 : w4.frozen? ⟨r, 1, none⟩ = false := qd K4.out 1
    have f2 : w4.frozen? ⟨r, 2, none⟩ = false := qd K4.out 2
    go_wp2
    refine bodyPost_ret (jU rfl _ _ r 71 #[.string ⟨#[]⟩, .int .i64 0, .int .i64 0] (0, 0) _ rfl (by refine qR (cs := #[.string ⟨#[]⟩, .int .i64 0, .int .i64 0]) ?_ 2 _ rfl; refine qR (cs := #[.string ⟨#[]⟩, .int .i64 0, .int .i64 0]) ?_ 1 _ rfl; refine qR (cs := #[.string ⟨#[]⟩, .int .i64 0, .int .i64 0]) ?_ 0 _ rfl; exact K4.out) Try.underlying71 rfl (by kernel_rfl)) rfl ?_
    exact ⟨by rw [HR.out]; rfl, qA (qA (qA B4.out GE) GE) GE⟩
  rw [if_neg c1] at HR
  obtain rfl : e1 = 0 := Decidable.byContradiction c1
  clear c1
  by_cases c2 : e2 ≠ 0
  · rw [if_pos c2] at HR
    have cb : (e2 != 0) = true := bne_iff_ne.mpr c2
    clear c2
    have y0 : w4.cell? ⟨r, 0, none⟩ = some (.string ⟨#[]⟩) := (qb K4.out 0).trans rfl
    have y1 : w4.cell? ⟨r, 1, none⟩ = some (.int .i64 0) := (qb K4.out 1).trans rfl
    have y2 : w4.cell? ⟨r, 2, none⟩ = some (.int .i64 0) := (qb K4.out 2).trans rfl
    have f0 : w4.frozen? ⟨r, 0, none⟩ = false := qd K4.out 0
    have f1 : w4.frozen? ⟨r, 1, none⟩ = false := qd K4.out 1
    have f2 : w4.frozen? ⟨r, 2, none⟩ = false := qd K4.out 2
    go_wp2
    refine bodyPost_ret (jU rfl _ _ r 71 #[.string ⟨#[]⟩, .int .i64 0, .int .i64 0] (0, 0) _ rfl (by refine qR (cs := #[.string ⟨#[]⟩, .int .i64 0, .int .i64 0]) ?_ 2 _ rfl; refine qR (cs := #[.string ⟨#[]⟩, .int .i64 0, .int .i64 0]) ?_ 1 _ rfl; refine qR (cs := #[.string ⟨#[]⟩, .int .i64 0, .int .i64 0]) ?_ 0 _ rfl; exact K4.out) Try.underlying71 rfl (by kernel_rfl)) rfl ?_
    exact ⟨by rw [HR.out]; rfl, qA (qA (qA B4.out GE) GE) GE⟩
  rw [if_neg c2] at HR
  obtain rfl : e2 = 0 := Decidable.byContradiction c2
  clear c2
  by_cases c3 : e3 ≠ 0
  · rw [if_pos c3] at HR
    have cb : (e3 != 0) = true := bne_iff_ne.mpr c3
    clear c3
    have y0 : w4.cell? ⟨r, 0, none⟩ = some (.string ⟨#[]⟩) := (qb K4.out 0).trans rfl
    have y1 : w4.cell? ⟨r, 1, none⟩ = some (.int .i64 0) := (qb K4.out 1).trans rfl
    have y2 : w4.cell? ⟨r, 2, none⟩ = some (.int .i64 0) := (qb K4.out 2).trans rfl
    have f0 : w4.frozen? ⟨r, 0, none⟩ = false := qd K4.out 0
    have f1 : w4.frozen? ⟨r, 1, none⟩ = false := qd K4.out 1
    have f2 : w4.frozen? ⟨r, 2, none⟩ = false := qd K4.out 2
    go_wp2
    refine bodyPost_ret (jU rfl _ _ r 71 #[.string ⟨#[]⟩, .int .i64 0, .int .i64 0] (0, 0) _ rfl (by refine qR (cs := #[.string ⟨#[]⟩, .int .i64 0, .int .i64 0]) ?_ 2 _ rfl; refine qR (cs := #[.string ⟨#[]⟩, .int .i64 0, .int .i64 0]) ?_ 1 _ rfl; refine qR (cs := #[.string ⟨#[]⟩, .int .i64 0, .int .i64 0]) ?_ 0 _ rfl; exact K4.out) Try.underlying71 rfl (by kernel_rfl)) rfl ?_
    exact ⟨by rw [HR.out]; rfl, qA (qA (qA B4.out GE) GE) GE⟩
  rw [if_neg c3] at HR
  obtain rfl : e3 = 0 := Decidable.byContradiction c3
  clear c3
  by_cases c4 : e4 ≠ 0
  · rw [if_pos c4] at HR
    have cb : (e4 != 0) = true := bne_iff_ne.mpr c4
    clear c4
    have y0 : w4.cell? ⟨r, 0, none⟩ = some (.string ⟨#[]⟩) := (qb K4.out 0).trans rfl
    have y1 : w4.cell? ⟨r, 1, none⟩ = some (.int .i64 0) := (qb K4.out 1).trans rfl
    have y2 : w4.cell? ⟨r, 2, none⟩ = some (.int .i64 0) := (qb K4.out 2).trans rfl
    have f0 : w4.frozen? ⟨r, 0, none⟩ = false := qd K4.out 0
    have f1 : w4.frozen? ⟨r, 1, none⟩ = false := qd K4.out 1
    have f2 : w4.frozen? ⟨r, 2, none⟩ = false := qd K4.out 2
    go_wp2
    refine bodyPost_ret (jU rfl _ _ r 71 #[.string ⟨#[]⟩, .int .i64 0, .int .i64 0] (0, 0) _ rfl (by refine qR (cs := #[.string ⟨#[]⟩, .int .i64 0, .int .i64 0]) ?_ 2 _ rfl; refine qR (cs := #[.string ⟨#[]⟩, .int .i64 0, .int .i64 0]) ?_ 1 _ rfl; refine qR (cs := #[.string ⟨#[]⟩, .int .i64 0, .int .i64 0]) ?_ 0 _ rfl; exact K4.out) Try.underlying71 rfl (by kernel_rfl)) rfl ?_
    exact ⟨by rw [HR.out]; rfl, qA (qA (qA B4.out GE) GE) GE⟩
  rw [if_neg c4] at HR
  obtain rfl : e4 = 0 := Decidable.byContradiction c4
  clear c4
  by_cases c5 : Op.bytesLess tg.toList last.toList = true
  · rw [if_pos c5] at HR
    have y0 : w4.cell? ⟨r, 0, none⟩ = some (.string ⟨#[]⟩) := (qb K4.out 0).trans rfl
    have y1 : w4.cell? ⟨r, 1, none⟩ = some (.int .i64 0) := (qb K4.out 1).trans rfl
    have y2 : w4.cell? ⟨r, 2, none⟩ = some (.int .i64 0) := (qb K4.out 2).trans rfl
    have f0 : w4.frozen? ⟨r, 0, none⟩ = false := qd K4.out 0
    have f1 : w4.frozen? ⟨r, 1, none⟩ = false := qd K4.out 1
    have f2 : w4.frozen? ⟨r, 2, none⟩ = false := qd K4.out 2
    go_wp2
    refine bodyPost_ret (jU rfl _ _ r 71 #[.string ⟨#[]⟩, .int .i64 0, .int .i64 0] (0, 0) _ rfl (by refine qR (cs := #[.string ⟨#[]⟩, .int .i64 0, .int .i64 0]) ?_ 2 _ rfl; refine qR (cs := #[.string ⟨#[]⟩, .int .i64 0, .int .i64 0]) ?_ 1 _ rfl; refine qR (cs := #[.string ⟨#[]⟩, .int .i64 0, .int .i64 0]) ?_ 0 _ rfl; exact K4.out) Try.underlying71 rfl (by kernel_rfl)) rfl ?_
    exact ⟨by rw [HR.out]; rfl, qA (qA (qA B4.out GE) GE) GE⟩
  rw [if_neg c5] at HR
  have c5b : Op.bytesLess tg.toList last.toList = false := Bool.eq_false_iff.mpr c5
  clear c5
  by_cases c6 : tg.toList = last.toList
  · rw [if_pos (beq_iff_eq.mpr c6)] at HR
    have HR6 := HR
    clear HR
    have HR := HR6
    clear HR6
    have c6b : (tg.toList == last.toList) = true := beq_iff_eq.mpr c6
    have y0 : w4.cell? ⟨r, 0, none⟩ = some (.string ⟨#[]⟩) := (qb K4.out 0).trans rfl
    have y1 : w4.cell? ⟨r, 1, none⟩ = some (.int .i64 0) := (qb K4.out 1).trans rfl
    have y2 : w4.cell? ⟨r, 2, none⟩ = some (.int .i64 0) := (qb K4.out 2).trans rfl
    have f0 : w4.frozen? ⟨r, 0, none⟩ = false := qd K4.out 0
    have f1 : w4.frozen? ⟨r, 1, none⟩ = false := qd K4.out 1
    have f2 : w4.frozen? ⟨r, 2, none⟩ = false := qd K4.out 2
    go_wp2
    refine bodyPost_ret (jU rfl _ _ r 71 #[.string ⟨#[]⟩, .int .i64 0, .int .i64 0] (0, 0) _ rfl (by refine qR (cs := #[.string ⟨#[]⟩, .int .i64 0, .int .i64 0]) ?_ 2 _ rfl; refine qR (cs := #[.string ⟨#[]⟩, .int .i64 0, .int .i64 0]) ?_ 1 _ rfl; refine qR (cs := #[.string ⟨#[]⟩, .int .i64 0, .int .i64 0]) ?_ 0 _ rfl; exact K4.out) Try.underlying71 rfl (by kernel_rfl)) rfl ?_
    exact ⟨by rw [HR.out]; rfl, qA (qA (qA B4.out GE) GE) GE⟩
  have c6b : (tg.toList == last.toList) = false := beq_eq_false_iff_ne.mpr c6
  rw [c6b, if_neg (by decide)] at HR
  by_cases c7 : Int.tmod pl 4 ≠ 0
  · rw [if_pos c7] at HR
    have c7b : (Int.tmod pl 4 != 0) = true := bne_iff_ne.mpr c7
    clear c7
    have y0 : w4.cell? ⟨r, 0, none⟩ = some (.string ⟨#[]⟩) := (qb K4.out 0).trans rfl
    have y1 : w4.cell? ⟨r, 1, none⟩ = some (.int .i64 0) := (qb K4.out 1).trans rfl
    have y2 : w4.cell? ⟨r, 2, none⟩ = some (.int .i64 0) := (qb K4.out 2).trans rfl
    have f0 : w4.frozen? ⟨r, 0, none⟩ = false := qd K4.out 0
    have f1 : w4.frozen? ⟨r, 1, none⟩ = false := qd K4.out 1
    have f2 : w4.frozen? ⟨r, 2, none⟩ = false := qd K4.out 2
    go_wp2
    refine bodyPost_ret (jU rfl _ _ r 71 #[.string ⟨#[]⟩, .int .i64 0, .int .i64 0] (0, 0) _ rfl (by refine qR (cs := #[.string ⟨#[]⟩, .int .i64 0, .int .i64 0]) ?_ 2 _ rfl; refine qR (cs := #[.string ⟨#[]⟩, .int .i64 0, .int .i64 0]) ?_ 1 _ rfl; refine qR (cs := #[.string ⟨#[]⟩, .int .i64 0, .int .i64 0]) ?_ 0 _ rfl; exact K4.out) Try.underlying71 rfl (by kernel_rfl)) rfl ?_
    exact ⟨by rw [HR.out]; rfl, qA (qA (qA B4.out GE) GE) GE⟩
  rw [if_neg c7] at HR
  have c7b : (Int.tmod pl 4 != 0) = false := by simpa using c7
  clear c7
  go_upto_region 7 with fail
  clear c5b c6b c6 c7b
  have HX := qa.mk (HC.out pl sz w4 B4.out)
  have HY := qa.mk (HD.out pl sz w4 B4.out)
  have LX := qa.mk (HN.out pl sz)
  have OX := qa.mk (HO.out pl sz)
  clear HC HD HN HO
  obtain ⟨L, eL, hL⟩ : ∃ a b, ze bs pl sz = (a, b) := ⟨_, _, rfl⟩
  rw [hL] at HX HY HR LX OX
  dsimp only at HX HY HR LX OX
  clear hL
  by_cases c8 : eL ≠ 0
  · rw [if_pos c8] at HR
    have D := qa.mk c8
    clear c8
    go_wp2_with (go_at_call 60; refine (HY.out D.out).mono ?_; rintro q w5 ⟨rfl, h1⟩; have K5 := qa.mk ((h1.block _ (qz K4.out)).trans K4.out); have B5 := qa.mk (qc B4.out h1); have y0 : w5.cell? ⟨r, 0, none⟩ = some (.string ⟨#[]⟩) := (qb K5.out 0).trans rfl; have y1 : w5.cell? ⟨r, 1, none⟩ = some (.int .i64 0) := (qb K5.out 1).trans rfl; have y2 : w5.cell? ⟨r, 2, none⟩ = some (.int .i64 0) := (qb K5.out 2).trans rfl; have f0 : w5.frozen? ⟨r, 0, none⟩ = false := qd K5.out 0; have f1 : w5.frozen? ⟨r, 1, none⟩ = false := qd K5.out 1; have f2 : w5.frozen? ⟨r, 2, none⟩ = false := qd K5.out 2; clear h1)
    refine bodyPost_ret (jU rfl _ _ r 71 #[.string ⟨#[]⟩, .int .i64 0, .int .i64 0] (0, 0) _ rfl (by refine qR (cs := #[.string ⟨#[]⟩, .int .i64 0, .int .i64 0]) ?_ 2 _ rfl; refine qR (cs := #[.string ⟨#[]⟩, .int .i64 0, .int .i64 0]) ?_ 1 _ rfl; refine qR (cs := #[.string ⟨#[]⟩, .int .i64 0, .int .i64 0]) ?_ 0 _ rfl; exact K5.out) Try.underlying71 rfl (by kernel_rfl)) rfl ?_
    exact ⟨by rw [HR.out]; rfl, qA (qA (qA B5.out GE) GE) GE⟩
  rw [if_neg c8] at HR
  obtain rfl : eL = 0 := Decidable.byContradiction c8
  clear c8
  go_upto_region 8 with (go_at_call 60; refine (HX.out rfl).mono ?_; rintro q w5 ⟨g5, _, rfl, v5, h1⟩; have V5 := qa.mk v5; have K5 := qa.mk ((h1.block _ (qz K4.out)).trans K4.out); have B5 := qa.mk (qc B4.out h1); clear h1 v5)
  cases c9 : (tg.toList == [104, 101, 97, 100]) with
  | true =>
    rw [c9, if_pos rfl] at HR
    have y0 : w5.cell? ⟨r, 0, none⟩ = some (.string ⟨#[]⟩) := (qb K5.out 0).trans rfl
    have y1 : w5.cell? ⟨r, 1, none⟩ = some (.int .i64 0) := (qb K5.out 1).trans rfl
    have y2 : w5.cell? ⟨r, 2, none⟩ = some (.int .i64 0) := (qb K5.out 2).trans rfl
    have f0 : w5.frozen? ⟨r, 0, none⟩ = false := qd K5.out 0
    have f1 : w5.frozen? ⟨r, 1, none⟩ = false := qd K5.out 1
    have f2 : w5.frozen? ⟨r, 2, none⟩ = false := qd K5.out 2
    go_wp2
    refine bodyPost_ret (jU rfl _ _ r 71 #[.string tg, .int .i64 pl, .int .i64 sz] (0, 0) _ rfl (by refine qR (cs := #[.string tg, .int .i64 pl, .int .i64 0]) ?_ 2 _ rfl; refine qR (cs := #[.string tg, .int .i64 0, .int .i64 0]) ?_ 1 _ rfl; refine qR (cs := #[.string ⟨#[]⟩, .int .i64 0, .int .i64 0]) ?_ 0 _ rfl; exact K5.out) Try.underlying71 rfl (by kernel_rfl)) rfl ?_
    exact ⟨by rw [HR.out]; rfl, qA (qA (qA B5.out GE) GE) GE⟩
  | false =>
    rw [c9, if_neg (by decide)] at HR
    obtain ⟨ks, hs⟩ := (sum_ev L OX.out (by have := LX.out; omega)).rounds
    have SX := qa.mk hs
    have EX := qa.mk (fun w' (hb : Below w5.heap.size w5 w') => bytes_calls L g5 w' (V5.out.below hb) LX.out)
    clear hs
    generalize QM L = sb at *
    by_cases c10 : sb ≠ su
    · rw [if_pos c10] at HR
      have c10b : (sb != su) = true := bne_iff_ne.mpr c10
      clear c10
      go_wp2_with (first | (go_at_call 61; refine (EX.out w5 (Below.refl _ _)).mono ?_; rintro q w6 ⟨v, rfl, h2, h3⟩; obtain ⟨A6, c6, rfl⟩ := Kd.qN h2; have R6 := qa.mk (Kd.qJ h2); have K6 := qa.mk ((h3.block _ (qz K5.out)).trans K5.out); have B6 := qa.mk (qc B5.out h3); clear h2 h3) | (go_at_call 11; refine (zB.calls ks A6 c6 L sb w6 R6.out.2.2 R6.out.2.1 SX.out).mono ?_; rintro q w7 ⟨rfl, hd⟩; have K7 := qa.mk ((hd.below.block _ (qz K6.out)).trans K6.out); have B7 := qa.mk (qc B6.out hd.below); have y0 : w7.cell? ⟨r, 0, none⟩ = some (.string ⟨#[]⟩) := (qb K7.out 0).trans rfl; have y1 : w7.cell? ⟨r, 1, none⟩ = some (.int .i64 0) := (qb K7.out 1).trans rfl; have y2 : w7.cell? ⟨r, 2, none⟩ = some (.int .i64 0) := (qb K7.out 2).trans rfl; have f0 : w7.frozen? ⟨r, 0, none⟩ = false := qd K7.out 0; have f1 : w7.frozen? ⟨r, 1, none⟩ = false := qd K7.out 1; have f2 : w7.frozen? ⟨r, 2, none⟩ = false := qd K7.out 2; clear hd))
      refine bodyPost_ret (jU rfl _ _ r 71 #[.string ⟨#[]⟩, .int .i64 0, .int .i64 0] (0, 0) _ rfl (by refine qR (cs := #[.string ⟨#[]⟩, .int .i64 0, .int .i64 0]) ?_ 2 _ rfl; refine qR (cs := #[.string ⟨#[]⟩, .int .i64 0, .int .i64 0]) ?_ 1 _ rfl; refine qR (cs := #[.string ⟨#[]⟩, .int .i64 0, .int .i64 0]) ?_ 0 _ rfl; exact K7.out) Try.underlying71 rfl (by kernel_rfl)) rfl ?_
      exact ⟨by rw [HR.out]; rfl, qA (qA (qA B7.out GE) GE) GE⟩
    · rw [if_neg c10] at HR
      obtain rfl : sb = su := Decidable.byContradiction c10
      have c10b : (sb != sb) = false := by simp
      clear c10
      go_wp2_with (first | (go_at_call 61; refine (EX.out w5 (Below.refl _ _)).mono ?_; rintro q w6 ⟨v, rfl, h2, h3⟩; obtain ⟨A6, c6, rfl⟩ := Kd.qN h2; have R6 := qa.mk (Kd.qJ h2); have K6 := qa.mk ((h3.block _ (qz K5.out)).trans K5.out); have B6 := qa.mk (qc B5.out h3); clear h2 h3) | (go_at_call 11; refine (zB.calls ks A6 c6 L sb w6 R6.out.2.2 R6.out.2.1 SX.out).mono ?_; rintro q w7 ⟨rfl, hd⟩; have K7 := qa.mk ((hd.below.block _ (qz K6.out)).trans K6.out); have B7 := qa.mk (qc B6.out hd.below); have y0 : w7.cell? ⟨r, 0, none⟩ = some (.string ⟨#[]⟩) := (qb K7.out 0).trans rfl; have y1 : w7.cell? ⟨r, 1, none⟩ = some (.int .i64 0) := (qb K7.out 1).trans rfl; have y2 : w7.cell? ⟨r, 2, none⟩ = some (.int .i64 0) := (qb K7.out 2).trans rfl; have f0 : w7.frozen? ⟨r, 0, none⟩ = false := qd K7.out 0; have f1 : w7.frozen? ⟨r, 1, none⟩ = false := qd K7.out 1; have f2 : w7.frozen? ⟨r, 2, none⟩ = false := qd K7.out 2; clear hd))
      refine bodyPost_ret (jU rfl _ _ r 71 #[.string tg, .int .i64 pl, .int .i64 sz] (0, 0) _ rfl (by refine qR (cs := #[.string tg, .int .i64 pl, .int .i64 0]) ?_ 2 _ rfl; refine qR (cs := #[.string tg, .int .i64 0, .int .i64 0]) ?_ 1 _ rfl; refine qR (cs := #[.string ⟨#[]⟩, .int .i64 0, .int .i64 0]) ?_ 0 _ rfl; exact K7.out) Try.underlying71 rfl (by kernel_rfl)) rfl ?_
      exact ⟨by rw [HR.out]; rfl, qA (qA (qA B7.out GE) GE) GE⟩
end Go.Proofs.Ytonljpciadeafaa.S
