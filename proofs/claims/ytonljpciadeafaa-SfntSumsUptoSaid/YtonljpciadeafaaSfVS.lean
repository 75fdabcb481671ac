/- Views of bytes: what peek's functions answer. -/
import Derived.Test.YtonljpciadeafaaSx0
import Derived.Test.YtonljpciadeafaaLongS
import Derived.Test.YtonljpciadeafaaSx1
set_option linter.unusedVariables false
set_option linter.unusedSimpArgs false
namespace Go.Proofs.Ytonljpciadeafaa.S
open Go Go.RowKit Go.Proofs.YtonljpciadeafaaW.PrintWords Go.Proofs.YtonljpciadeafaaW.PrintLast Go.Proofs.YtonljpciadeafaaW.PrintMore

theorem C_none {α : Type} {d : Kd α} {w : World} {bs : List α} (h : Kd.C d w none bs.length bs) : bs = [] := by
  rcases Nat.eq_zero_or_pos bs.length with z | z
  · exact List.eq_nil_of_length_eq_zero z
  · obtain ⟨ad, e, _⟩ := h.2.2 z; cases e
theorem C_nil {α : Type} (d : Kd α) (w : World) (A : Option Addr) : Kd.C d w A 0 [] := ⟨rfl, by decide, fun h => absurd h (by decide)⟩
set_option maxRecDepth 100000 in
set_option maxHeartbeats 1000000 in
/-- slices.Clone of bytes. -/
theorem clone_calls (bs : List Int) (A : Option Addr) (c : Nat) (w : World) (hr : Kd.C (Kd.int .u8) w A bs.length bs) (hc : bs.length ≤ c) (hm : bs.length ≤ 140737488355328) :
    Calls Try.prog 55 #[.slice A bs.length c] w fun e w' => ∃ v, e = .returned v ∧ Kd.R (Kd.int .u8) 5 w' w.heap.size (fun _ => True) v bs ∧ Below w.heap.size w w' := by
  have HR := Aside0.mk hr
  have HC := Aside0.mk hc
  have HM := Aside0.mk hm
  have HB := Aside0.mk (Below.refl w.heap.size w)
  clear hr hc hm
  cases A with
  | none =>
    have E := Aside0.mk (C_none HR.out)
    have hq := Lib.run_eql_slice_nil (P := Try.prog) w 23 5 none bs.length c 0 0 Try.underlying23
    go_enter Try.func55, Try.ntmps55
    go_wp2
    go_ret
    exact ⟨_, rfl, by rw [E.out]; exact Kd.R_nil _ _ _ _ _, HB.out⟩
  | some ad =>
    have hq := Lib.run_eql_slice_nil (P := Try.prog) w 23 5 (some ad) bs.length c 0 0 Try.underlying23
    go_enter Try.func55, Try.ntmps55
    go_wp2_with (first | ((with_reducible refine gate_dst (N := 5) rfl ?_); refine Kd.R_lit (Kd.int .u8) _ 5 ?hg (N := 5) ?hd (xs := ([] : List Int)) (inner := []) (ok := fun _ => True) (okp := fun _ => True) ?hr ?hp (fun _ hk => hk) trivial (Below.refl _ _) (Nat.le_refl _) (by simp) ?_; (case hd => rfl); (case hg => rfl); (case hr => first | (go_simp; done) | (go_simp; rfl)); (case hp => exact (Reps.none _ _)); intro v5 w5 ho5 hb5 hg_ hnew_; clear hg_ hnew_; have R5 := Aside0.mk ho5; have B5 := Aside0.mk hb5; have C5 := Aside0.mk (Kd.C_below HR.out hb5); clear ho5 hb5) | ((with_reducible refine gate_builtin (b := .append) (xs := #[.tmp 5, .tmp 6]) rfl ?_); at_builtin; refine Kd.R_append_rows (Kd.int .u8) (w0 := w) w.heap.size rfl (.tmp 5) (.tmp 6) 23 5 (.int .u8 0) 1 rfl Try.underlying23 info5 rfl (by decide) (by omega) v5 [] bs _ _ _ (fun _ => True) (fun _ => False) rfl rfl ?aO ?aR (fun _ _ h => h) (fun _ h => h.elim) ?aF ?aB ?aS ?aL ?_; (case aR => exact C5.out); (case aB => exact B5.out); (case aF => exact (fun _ _ => trivial)); (case aO => exact R5.out); (case aS => exact below_size B5.out); (case aL => have := HM.out; simp only [List.length_nil]; omega); intro v7 w7 ho hb hg hat; have R7 := Aside0.mk ho; have B7 := Aside0.mk hb; clear ho hb hg hat))
    go_ret
    exact ⟨_, rfl, R7.out, B7.out⟩
/-- A byte is one. -/
def okB (bs : List Int) : Prop := ∀ x ∈ bs, 0 ≤ x ∧ x < 256
/-- g points to a view that reads as bs. -/
def Vw (w : World) (g : Nat) (bs : List Int) : Prop := ∃ A c, w.heap[g]? = some (.cells #[.slice A bs.length c] 98 (0, 0)) ∧ bs.length ≤ c ∧ Kd.C (Kd.int .u8) w A bs.length bs
theorem Vw.below {w w' : World} {g : Nat} {bs : List Int} (h : Vw w g bs) (hb : Below w.heap.size w w') : Vw w' g bs := by
  obtain ⟨A, c, h1, h2, h3⟩ := h
  exact ⟨A, c, (hb.block _ (blk_lt h1)).trans h1, h2, Kd.C_below h3 hb⟩
/-- n bytes from a place on, and the error. -/
def partV (bs : List Int) (p n : Int) : List Int × Int :=
  if p < 0 ∨ n < 0 ∨ n > bs.length ∨ p > bs.length - n then ([], 21) else ((bs.take (p + n).toNat).drop p.toNat, 0)
def PartP (bs : List Int) (p n : Int) (w : World) (e : Ending) (w' : World) : Prop := ∃ A c, e = .returned (.tuple #[.slice A (partV bs p n).1.length c, .int .i64 (partV bs p n).2]) ∧ (partV bs p n).1.length ≤ c ∧ Kd.C (Kd.int .u8) w' A (partV bs p n).1.length (partV bs p n).1 ∧ Below w.heap.size w w'
theorem PartP.bad {bs : List Int} {p n : Int} {w w' : World} (e : partV bs p n = ([], 21)) (h : Below w.heap.size w w') : PartP bs p n w (.returned (.tuple #[.slice none 0 0, .int .i64 21])) w' := by
  unfold PartP
  rw [e]
  exact ⟨none, 0, rfl, Nat.le_refl _, C_nil _ _ _, h⟩
set_option maxRecDepth 100000 in
set_option maxHeartbeats 1000000 in
theorem part_calls (bs : List Int) (g : Nat) (p n : Int) (w : World) (hv : Vw w g bs) :
    Calls Try.prog 58 #[.pointer (some ⟨g, 0, none⟩), .int .i64 p, .int .i64 n] w (PartP bs p n w) := by
  obtain ⟨A, c, hb, hc, hr⟩ := hv
  have HR := Aside0.mk hr
  have HC := Aside0.mk hc
  have HB := Aside0.mk (Below.refl w.heap.size w)
  have hl := hr.2.1
  have c0 : w.cell? ⟨g, 0, none⟩ = some (.slice A bs.length c) := (blk_cell hb 0).trans rfl
  clear hr hc hb
  by_cases h1 : p < 0
  · have b1 : decide (p < 0) = true := decide_eq_true h1
    have e : partV bs p n = ([], 21) := by unfold partV; rw [if_pos (Or.inl h1)]
    have E := Aside0.mk e
    clear e
    go_enter Try.func58, Try.ntmps58
    go_wp2
    go_ret2
    exact PartP.bad E.out HB.out
  have b1 : decide (p < 0) = false := decide_eq_false h1
  by_cases h2 : n < 0
  · have b2 : decide (n < 0) = true := decide_eq_true h2
    have e : partV bs p n = ([], 21) := by unfold partV; rw [if_pos (Or.inr (Or.inl h2))]
    have E := Aside0.mk e
    clear e
    go_enter Try.func58, Try.ntmps58
    go_wp2
    go_ret2
    exact PartP.bad E.out HB.out
  have b2 : decide (n < 0) = false := decide_eq_false h2
  by_cases h3 : (bs.length : Int) < n
  · have b3 : decide ((bs.length : Int) < n) = true := decide_eq_true h3
    have e : partV bs p n = ([], 21) := by unfold partV; rw [if_pos (Or.inr (Or.inr (Or.inl h3)))]
    have E := Aside0.mk e
    clear e
    go_enter Try.func58, Try.ntmps58
    go_wp2
    go_ret2
    exact PartP.bad E.out HB.out
  have b3 : decide ((bs.length : Int) < n) = false := decide_eq_false h3
  by_cases h4 : (bs.length : Int) - n < p
  · have b4 : decide ((bs.length : Int) - n < p) = true := decide_eq_true h4
    have e : partV bs p n = ([], 21) := by unfold partV; rw [if_pos (Or.inr (Or.inr (Or.inr h4)))]
    have E := Aside0.mk e
    clear e
    go_enter Try.func58, Try.ntmps58
    go_wp2
    go_ret2
    exact PartP.bad E.out HB.out
  have b4 : decide ((bs.length : Int) - n < p) = false := decide_eq_false h4
  have e : partV bs p n = ((bs.take (p + n).toNat).drop p.toNat, 0) := by unfold partV; rw [if_neg (by omega)]
  have E := Aside0.mk e
  clear e
  obtain ⟨i8, hi8, _, hsz8, _⟩ := info_parts info5
  obtain ⟨A8, hcut, hA8, hC8⟩ := print_mid_of (P := Try.prog) (Value.int .u8) 0 23 5 .i64 .i64 Try.underlying23 hi8 hsz8 A c bs p (p + n) (by omega) (by omega) (by omega) HC.out
  have R8 := Aside0.mk (Kd.C_of_reads (h1 := fun _ => rfl) (hA8 _ (Kd.reads_of_C HR.out)))
  have C8 := Aside0.mk hC8
  clear hA8 hC8 hi8 hsz8
  go_enter Try.func58, Try.ntmps58
  go_wp2
  go_ret2
  unfold PartP
  rw [E.out]
  exact ⟨A8, _, by simp [List.length_drop, List.length_take], C8.out, R8.out, HB.out⟩
/-- The number that bytes write. -/
def numB (l : List Int) : Int := l.foldl (fun x c => x * 256 + c) 0
theorem numB_snoc (l : List Int) (c : Int) : numB (l ++ [c]) = numB l * 256 + c := by simp [numB, List.foldl_append]
theorem numB_acc : ∀ (l : List Int) (x : Int), okB l → 0 ≤ x → 0 ≤ l.foldl (fun x c => x * 256 + c) x ∧ l.foldl (fun x c => x * 256 + c) x < (x + 1) * 256 ^ l.length
  | [], x, _, hx => by simp; omega
  | c :: l, x, h, hx => by
    have hc := h c (by simp)
    have i := numB_acc l (x * 256 + c) (fun y hy => h y (by simp [hy])) (by omega)
    refine ⟨i.1, Int.lt_of_lt_of_le i.2 ?_⟩
    rw [List.length_cons, Int.pow_succ, Int.mul_comm (256 ^ l.length) 256, ← Int.mul_assoc]
    exact Int.mul_le_mul_of_nonneg_right (by omega) (Int.le_of_lt (Int.pow_pos (by decide)))
theorem numB_bd (l : List Int) (h : okB l) : 0 ≤ numB l ∧ numB l < 256 ^ l.length := by
  have := numB_acc l 0 h (by omega)
  rw [Int.zero_add, Int.one_mul] at this
  exact this
theorem numB_lt {l : List Int} (h : okB l) {j : Nat} (hj : j < l.length) (h4 : l.length ≤ 4) : numB (l.take j) < 16777216 := by
  have := (numB_bd (l.take j) (fun x hx => h x (List.mem_of_mem_take hx))).2
  have hl : (l.take j).length ≤ 3 := by rw [List.length_take]; omega
  generalize (l.take j).length = m at this hl
  match m, hl with
  | 0, _ => simp at this; omega
  | 1, _ => simp at this; omega
  | 2, _ => simp at this; omega
  | 3, _ => simp at this; omega
theorem or_step {x c : Int} (h0 : 0 ≤ x) (h1 : x < 16777216) (c0 : 0 ≤ c) (c1 : c < 256) : Go.bits .or .i64 (x * 256) c = x * 256 + c :=
  bits_join .i64 40 (by decide) (fun n a b => by rw [IntKind.wrap_i64]; simp at b; omega) 8 (x * 256) c (by omega) (by simp) (by simp; omega) c0 (by simp; omega) (by simp; omega)
end Go.Proofs.Ytonljpciadeafaa.S
