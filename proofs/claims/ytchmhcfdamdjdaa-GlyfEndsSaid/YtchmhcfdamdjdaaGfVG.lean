/- Views of bytes: what peek's functions answer (written by rk/togv.py). -/
import Derived.Test.YtchmhcfdamdjdaaLongG
import Derived.Test.YtchmhcfdamdjdaaGx0
set_option linter.unusedVariables false
set_option linter.unusedSimpArgs false
namespace Go.Proofs.Ytchmhcfdamdjdaa.G
open Go Go.RowKit Go.Proofs.YtchmhcfdamdjdaaW.PrintWords Go.Proofs.YtchmhcfdamdjdaaW.PrintLast Go.Proofs.YtchmhcfdamdjdaaW.PrintMore

theorem C_none {α : Type} {d : Kd α} {w : World} {bs : List α} (h : Kd.C d w none bs.length bs) : bs = [] := by
  rcases Nat.eq_zero_or_pos bs.length with z | z
  · exact List.eq_nil_of_length_eq_zero z
  · obtain ⟨ad, e, _⟩ := h.2.2 z; cases e
theorem C_nil {α : Type} (d : Kd α) (w : World) (A : Option Addr) : Kd.C d w A 0 [] := ⟨rfl, by decide, fun h => absurd h (by decide)⟩
set_option maxRecDepth 100000 in
set_option maxHeartbeats 1000000 in
/-- slices.Clone of bytes. -/
theorem clone_calls (bs : List Int) (A : Option Addr) (c : Nat) (w : World) (hr : Kd.C (Kd.int .u8) w A bs.length bs) (hc : bs.length ≤ c) (hm : bs.length ≤ 140737488355328) :
    Calls Try.prog 32 #[.slice A bs.length c] w fun e w' => ∃ v, e = .returned v ∧ Kd.R (Kd.int .u8) 5 w' w.heap.size (fun _ => True) v bs ∧ Below w.heap.size w w' := by
  have HR := Aside0.mk hr
  have HC := Aside0.mk hc
  have HM := Aside0.mk hm
  have HB := Aside0.mk (Below.refl w.heap.size w)
  clear hr hc hm
  cases A with
  | none =>
    have E := Aside0.mk (C_none HR.out)
    have hq := Lib.run_eql_slice_nil (P := Try.prog) w 23 5 none bs.length c 0 0 Try.underlying23
    go_enter Try.func32, Try.ntmps32
    go_wp2
    go_ret
    exact ⟨_, rfl, by rw [E.out]; exact Kd.R_nil _ _ _ _ _, HB.out⟩
  | some ad =>
    have hq := Lib.run_eql_slice_nil (P := Try.prog) w 23 5 (some ad) bs.length c 0 0 Try.underlying23
    go_enter Try.func32, Try.ntmps32
    go_wp2_with (first | ((with_reducible refine gate_dst (N := 5) rfl ?_); refine Kd.R_lit (Kd.int .u8) _ 5 ?hg (N := 5) ?hd (xs := ([] : List Int)) (inner := []) (ok := fun _ => True) (okp := fun _ => True) ?hr ?hp (fun _ hk => hk) trivial (Below.refl _ _) (Nat.le_refl _) (by simp) ?_; (case hd => rfl); (case hg => rfl); (case hr => first | (go_simp; done) | (go_simp; rfl)); (case hp => exact (Reps.none _ _)); intro v5 w5 ho5 hb5 hg_ hnew_; clear hg_ hnew_; have R5 := Aside0.mk ho5; have B5 := Aside0.mk hb5; have C5 := Aside0.mk (Kd.C_below HR.out hb5); clear ho5 hb5) | ((with_reducible refine gate_builtin (b := .append) (xs := #[.tmp 5, .tmp 6]) rfl ?_); at_builtin; refine Kd.R_append_rows (Kd.int .u8) (w0 := w) w.heap.size rfl (.tmp 5) (.tmp 6) 23 5 (.int .u8 0) 1 rfl Try.underlying23 info5 rfl (by decide) (by omega) v5 [] bs _ _ _ (fun _ => True) (fun _ => False) rfl rfl ?aO ?aR (fun _ _ h => h) (fun _ h => h.elim) ?aF ?aB ?aS ?aL ?_; (case aR => exact C5.out); (case aB => exact B5.out); (case aF => exact (fun _ _ => trivial)); (case aO => exact R5.out); (case aS => exact below_size B5.out); (case aL => have := HM.out; simp only [List.length_nil]; omega); intro v7 w7 ho hb hg hat; have R7 := Aside0.mk ho; have B7 := Aside0.mk hb; clear ho hb hg hat))
    go_ret
    exact ⟨_, rfl, R7.out, B7.out⟩
/-- A byte is one. -/
def okB (bs : List Int) : Prop := ∀ x ∈ bs, 0 ≤ x ∧ x < 256
/-- g points to a view that reads as bs. -/
def Vw (w : World) (g : Nat) (bs : List Int) : Prop := ∃ A c, w.heap[g]? = some (.cells #[.slice A bs.length c] 71 (0, 0)) ∧ bs.length ≤ c ∧ Kd.C (Kd.int .u8) w A bs.length bs
theorem Vw.below {w w' : World} {g : Nat} {bs : List Int} (h : Vw w g bs) (hb : Below w.heap.size w w') : Vw w' g bs := by
  obtain ⟨A, c, h1, h2, h3⟩ := h
  exact ⟨A, c, (hb.block _ (blk_lt h1)).trans h1, h2, Kd.C_below h3 hb⟩
/-- n bytes from a place on, and the error. -/
def partV (bs : List Int) (p n : Int) : List Int × Int :=
  if p < 0 ∨ n < 0 ∨ n > bs.length ∨ p > bs.length - n then ([], 21) else ((bs.take (p + n).toNat).drop p.toNat, 0)
def PartP (bs : List Int) (p n : Int) (w : World) (e : Ending) (w' : World) : Prop := ∃ A c, e = .returned (.tuple #[.slice A (partV bs p n).1.length c, .int .i64 (partV bs p n).2]) ∧ (partV bs p n).1.length ≤ c ∧ Kd.C (Kd.int .u8) w' A (partV bs p n).1.length (partV bs p n).1 ∧ Below w.heap.size w w'
theorem PartP.bad {bs : List Int} {p n : Int} {w w' : World} (e : partV bs p n = ([], 21)) (h : Below w.heap.size w w') : PartP bs p n w (.returned (.tuple #[.slice none 0 0, .int .i64 21])) w' := by
  unfold PartP
  rw [e]
  exact ⟨none, 0, rfl, Nat.le_refl _, C_nil _ _ _, h⟩
set_option maxRecDepth 100000 in
set_option maxHeartbeats 1000000 in
theorem part_calls (bs : List Int) (g : Nat) (p n : Int) (w : World) (hv : Vw w g bs) :
    Calls Try.prog 55 #[.pointer (some ⟨g, 0, none⟩), .int .i64 p, .int .i64 n] w (PartP bs p n w) := by
  obtain ⟨A, c, hb, hc, hr⟩ := hv
  have HR := Aside0.mk hr
  have HC := Aside0.mk hc
  have HB := Aside0.mk (Below.refl w.heap.size w)
  have hl := hr.2.1
  have c0 : w.cell? ⟨g, 0, none⟩ = some (.slice A bs.length c) := (blk_cell hb 0).trans rfl
  clear hr hc hb
  by_cases h1 : p < 0
  · have b1 : decide (p < 0) = true := decide_eq_true h1
    have e : partV bs p n = ([], 21) := by unfold partV; rw [if_pos (Or.inl h1)]
    have E := Aside0.mk e
    clear e
    go_enter Try.func55, Try.ntmps55
    go_wp2
    go_ret2
    exact PartP.bad E.out HB.out
  have b1 : decide (p < 0) = false := decide_eq_false h1
  by_cases h2 : n < 0
  · have b2 : decide (n < 0) = true := decide_eq_true h2
    have e : partV bs p n = ([], 21) := by unfold partV; rw [if_pos (Or.inr (Or.inl h2))]
    have E := Aside0.mk e
    clear e
    go_enter Try.func55, Try.ntmps55
    go_wp2
    go_ret2
    exact PartP.bad E.out HB.out
  have b2 : decide (n < 0) = false := decide_eq_false h2
  by_cases h3 : (bs.length : Int) < n
  · have b3 : decide ((bs.length : Int) < n) = true := decide_eq_true h3
    have e : partV bs p n = ([], 21) := by unfold partV; rw [if_pos (Or.inr (Or.inr (Or.inl h3)))]
    have E := Aside0.mk e
    clear e
    go_enter Try.func55, Try.ntmps55
    go_wp2
    go_ret2
    exact PartP.bad E.out HB.out
  have b3 : decide ((bs.length : Int) < n) = false := decide_eq_false h3
  by_cases h4 : (bs.length : Int) - n < p
  · have b4 : decide ((bs.length : Int) - n < p) = true := decide_eq_true h4
    have e : partV bs p n = ([], 21) := by unfold partV; rw [if_pos (Or.inr (Or.inr (Or.inr h4)))]
    have E := Aside0.mk e
    clear e
    go_enter Try.func55, Try.ntmps55
    go_wp2
    go_ret2
    exact PartP.bad E.out HB.out
  have b4 : decide ((bs.length : Int) - n < p) = false := decide_eq_false h4
  have e : partV bs p n = ((bs.take (p + n).toNat).drop p.toNat, 0) := by unfold partV; rw [if_neg (by omega)]
  have E := Aside0.mk e
  clear e
  obtain ⟨i8, hi8, _, hsz8, _⟩ := info_parts info5
  obtain ⟨A8, hcut, hA8, hC8⟩ := print_mid_of (P := Try.prog) (Value.int .u8) 0 23 5 .i64 .i64 Try.underlying23 hi8 hsz8 A c bs p (p + n) (by omega) (by omega) (by omega) HC.out
  have R8 := Aside0.mk (Kd.C_of_reads (h1 := fun _ => rfl) (hA8 _ (Kd.reads_of_C HR.out)))
  have C8 := Aside0.mk hC8
  clear hA8 hC8 hi8 hsz8
  go_enter Try.func55, Try.ntmps55
  go_wp2
  go_ret2
  unfold PartP
  rw [E.out]
  exact ⟨A8, _, by simp [List.length_drop, List.length_take], C8.out, R8.out, HB.out⟩
/-- The number that bytes write. -/
def numB (l : List Int) : Int := l.foldl (fun x c => x * 256 + c) 0
theorem numB_snoc (l : List Int) (c : Int) : numB (l ++ [c]) = numB l * 256 + c := by simp [numB, List.foldl_append]
theorem numB_acc : ∀ (l : List Int) (x : Int), okB l → 0 ≤ x → 0 ≤ l.foldl (fun x c => x * 256 + c) x ∧ l.foldl (fun x c => x * 256 + c) x < (x + 1) * 256 ^ l.length
  | [], x, _, hx => by simp; omega
  | c :: l, x, h, hx => by
    have hc := h c (by simp)
    have i := numB_acc l (x * 256 + c) (fun y hy => h y (by simp [hy])) (by omega)
    refine ⟨i.1, Int.lt_of_lt_of_le i.2 ?_⟩
    rw [List.length_cons, Int.pow_succ, Int.mul_comm (256 ^ l.length) 256, ← Int.mul_assoc]
    exact Int.mul_le_mul_of_nonneg_right (by omega) (Int.le_of_lt (Int.pow_pos (by decide)))
theorem numB_bd (l : List Int) (h : okB l) : 0 ≤ numB l ∧ numB l < 256 ^ l.length := by
  have := numB_acc l 0 h (by omega)
  rw [Int.zero_add, Int.one_mul] at this
  exact this
theorem numB_lt {l : List Int} (h : okB l) {j : Nat} (hj : j < l.length) (h4 : l.length ≤ 4) : numB (l.take j) < 16777216 := by
  have := (numB_bd (l.take j) (fun x hx => h x (List.mem_of_mem_take hx))).2
  have hl : (l.take j).length ≤ 3 := by rw [List.length_take]; omega
  generalize (l.take j).length = m at this hl
  match m, hl with
  | 0, _ => simp at this; omega
  | 1, _ => simp at this; omega
  | 2, _ => simp at this; omega
  | 3, _ => simp at this; omega
theorem or_step {x c : Int} (h0 : 0 ≤ x) (h1 : x < 16777216) (c0 : 0 ≤ c) (c1 : c < 256) : Go.bits .or .i64 (x * 256) c = x * 256 + c :=
  bits_join .i64 40 (by decide) (fun n a b => by rw [IntKind.wrap_i64]; simp at b; omega) 8 (x * 256) c (by omega) (by simp) (by simp; omega) c0 (by simp; omega) (by simp; omega)
theorem partV_ok {bs : List Int} (h : okB bs) (p n : Int) : okB (partV bs p n).1 := by
  unfold partV
  split
  · exact fun x hx => by cases hx
  · exact fun x hx => h x (List.mem_of_mem_take (List.mem_of_mem_drop hx))
theorem partV_len (bs : List Int) (p n : Int) : (partV bs p n).1.length ≤ n.toNat ∧ (partV bs p n).1.length ≤ bs.length := by
  unfold partV
  split
  · exact ⟨Nat.zero_le _, Nat.zero_le _⟩
  · rename_i h
    dsimp only
    rw [List.length_drop, List.length_take]
    omega
/-- The number of n bytes, and the error. -/
def numV (bs : List Int) (p n : Int) : Int × Int := (numB (partV bs p n).1, (partV bs p n).2)
set_option maxRecDepth 100000 in
set_option maxHeartbeats 1000000 in
theorem number_calls (bs : List Int) (g : Nat) (p n : Int) (w : World) (hv : Vw w g bs) (ho : okB bs) (hn : n ≤ 4) :
    Calls Try.prog 94 #[.pointer (some ⟨g, 0, none⟩), .int .i64 p, .int .i64 n] w fun e w' => e = .returned (.tuple #[.int .i64 (numV bs p n).1, .int .i64 (numV bs p n).2]) ∧ Below w.heap.size w w' := by
  have HV := Aside0.mk hv
  have HO := Aside0.mk (partV_ok ho p n)
  have HL := Aside0.mk (partV_len bs p n)
  unfold numV
  have hp := part_calls bs g p n w hv
  unfold PartP at hp
  obtain ⟨L, e, hL⟩ : ∃ L e, partV bs p n = (L, e) := ⟨_, _, rfl⟩
  rw [hL] at hp HO HL ⊢
  dsimp only at hp HO HL ⊢
  have HP := Aside0.mk hp
  have l4 : L.length ≤ 4 := by have := HL.out.1; omega
  clear hv ho hp hL hn HL
  go_enter Try.func94, Try.ntmps94
  go_wp2_with (go_at_call 55; refine HP.out.mono ?_; rintro q w1 ⟨A, c, rfl, h1, h2, h3⟩; have C1 := Aside0.mk h1; have R1 := Aside0.mk h2; have B1 := Aside0.mk h3; clear h1 h2 h3)
  go_loopw [10, 22] (fun v10 v22 wr => ∃ (j : Nat), v10 = .int .i64 (numB (L.take j)) ∧ v22 = .int .i64 j ∧ j ≤ L.length ∧ Aside0 (Below w.heap.size w wr) ∧ Aside0 (Kd.C (Kd.int .u8) wr A L.length L)) (fun _ v22 _ => L.length - (intOf v22).toNat)
  case atStart => exact ⟨0, by simp [numB], rfl, Nat.zero_le _, B1, R1⟩
  case round =>
    obtain ⟨j, rfl, rfl, hj, HB, HR⟩ := hrel
    by_cases jlt : j < L.length
    · have jl := eq_true (show (j : Int) < (L.length : Int) by omega)
      have jl2 := eq_true jlt
      have jp := eq_true (show (0 : Int) ≤ (j : Int) by omega)
      obtain ⟨ad, rfl, x0⟩ := Kd.at_int HR.out (j : Int) (by omega) (by omega)
      rw [Int.toNat_natCast] at x0
      have er : rd L (j : Int) = L[j] := by unfold rd; rw [Int.toNat_natCast, List.getD_eq_getElem?_getD, List.getElem?_eq_getElem jlt]; rfl
      rw [er] at x0
      have hc := HO.out _ (List.getElem_mem jlt)
      have h0 := (numB_bd (L.take j) (fun x hx => HO.out x (List.mem_of_mem_take hx))).1
      have h1 := numB_lt HO.out jlt l4
      have ht : L.take (j + 1) = L.take j ++ [L[j]] := by rw [List.take_add_one, List.getElem?_eq_getElem jlt]; rfl
      have hs := or_step h0 h1 hc.1 hc.2
      have hz : numB (L.take (j + 1)) = numB (L.take j) * 256 + L[j] := by rw [ht, numB_snoc]
      have HZ := Aside0.mk hz
      generalize L[j] = c' at *
      generalize numB (L.take j) = x at *
      clear er ht hz
      go_wp2
      refine ⟨⟨j + 1, ?_, by push_cast; rfl, by omega, HB, HR⟩, ?_⟩
      · rw [HZ.out]
      · show (_ : Nat) < _
        simp only [intOf]; omega
    · have jl := eq_false (show ¬ (j : Int) < (L.length : Int) by omega)
      have jl2 := eq_false jlt
      obtain rfl : j = L.length := by omega
      rw [List.take_length]
      go_wp2
      go_ret2
      exact ⟨rfl, HB.out⟩
theorem numV_bd (bs : List Int) (h : okB bs) (p : Int) (n : Nat) (hn : n ≤ 4) : 0 ≤ (numV bs p n).1 ∧ (numV bs p n).1 < 256 ^ n := by
  have h1 := numB_bd (partV bs p n).1 (partV_ok h p n)
  have h2 := (partV_len bs p n).1
  refine ⟨h1.1, Int.lt_of_lt_of_le h1.2 ?_⟩
  have h : (256 : Nat) ^ (partV bs p n).1.length ≤ 256 ^ n := Nat.pow_le_pow_right (by decide) (by omega)
  have h' : ((256 ^ (partV bs p n).1.length : Nat) : Int) ≤ ((256 ^ n : Nat) : Int) := Int.ofNat_le.2 h
  rwa [Int.natCast_pow, Int.natCast_pow] at h'
/-- A number of two bytes with its sign. -/
def sgn16 (n : Int) : Int := if n ≥ 32768 then n - 65536 else n
theorem partV_two (bs : List Int) (p n : Int) : partV bs p n = ([], 21) ∨ (partV bs p n).2 = 0 := by
  unfold partV
  split
  · exact Or.inl rfl
  · exact Or.inr rfl
def CutP (bs : List Int) (p n : Int) (w : World) (e : Ending) (w' : World) : Prop := Below w.heap.size w w' ∧
  ((partV bs p n).2 = 0 ∧ (∃ g', w.heap.size ≤ g' ∧ e = .returned (.tuple #[.pointer (some ⟨g', 0, none⟩), .int .i64 0]) ∧ Vw w' g' (partV bs p n).1) ∨ partV bs p n = ([], 21) ∧ e = .returned (.tuple #[.pointer none, .int .i64 21]))
set_option maxRecDepth 100000 in
set_option maxHeartbeats 1000000 in
theorem cut_calls (bs : List Int) (g : Nat) (p n : Int) (w : World) (hv : Vw w g bs) : Calls Try.prog 39 #[.pointer (some ⟨g, 0, none⟩), .int .i64 p, .int .i64 n] w (CutP bs p n w) := by
  have hp := part_calls bs g p n w hv
  unfold PartP at hp
  rcases partV_two bs p n with h | h
  · have E := Aside0.mk h
    rw [h] at hp
    have HP := Aside0.mk hp
    clear hp h hv
    go_enter Try.func39, Try.ntmps39
    go_wp2_with (go_at_call 55; refine HP.out.mono ?_; rintro q w1 ⟨A, c, rfl, h1, h2, h3⟩; have B1 := Aside0.mk h3; clear h1 h2 h3)
    go_ret2
    exact ⟨B1.out, Or.inr ⟨E.out, rfl⟩⟩
  · have E := Aside0.mk h
    rw [h] at hp
    have HP := Aside0.mk hp
    clear hp h hv
    generalize hL : (partV bs p n).1 = L at *
    have EL := Aside0.mk hL
    clear hL
    go_enter Try.func39, Try.ntmps39
    go_wp2_with (go_at_call 55; refine HP.out.mono ?_; rintro q w1 ⟨A, c, rfl, h1, h2, h3⟩; have C1 := Aside0.mk h1; have R1 := Aside0.mk h2; have B1 := Aside0.mk h3; clear h1 h2 h3)
    go_ret2
    exact ⟨below_alloc B1.out _, Or.inl ⟨E.out, _, below_size B1.out, rfl, by rw [EL.out]; exact ⟨_, _, blk_new _ _, C1.out, Kd.C_alloc R1.out _⟩⟩⟩
theorem cut_good (bs : List Int) (g : Nat) (p n : Int) (w : World) (hv : Vw w g bs) (h : (partV bs p n).2 = 0) : Calls Try.prog 39 #[.pointer (some ⟨g, 0, none⟩), .int .i64 p, .int .i64 n] w fun e w' => ∃ g', w.heap.size ≤ g' ∧ e = .returned (.tuple #[.pointer (some ⟨g', 0, none⟩), .int .i64 0]) ∧ Vw w' g' (partV bs p n).1 ∧ Below w.heap.size w w' := by
  refine (cut_calls bs g p n w hv).mono ?_
  rintro e w' ⟨hb, ⟨_, g', h1, h2, h3⟩ | ⟨h1, _⟩⟩
  · exact ⟨g', h1, h2, h3, hb⟩
  · rw [h1] at h; exact absurd h (by decide)
theorem cut_bad (bs : List Int) (g : Nat) (p n : Int) (w : World) (hv : Vw w g bs) (h : (partV bs p n).2 ≠ 0) : Calls Try.prog 39 #[.pointer (some ⟨g, 0, none⟩), .int .i64 p, .int .i64 n] w fun e w' => e = .returned (.tuple #[.pointer none, .int .i64 21]) ∧ Below w.heap.size w w' := by
  refine (cut_calls bs g p n w hv).mono ?_
  rintro e w' ⟨hb, ⟨h1, _⟩ | ⟨_, h1⟩⟩
  · exact absurd h1 h
  · exact ⟨h1, hb⟩
set_option maxRecDepth 100000 in
set_option maxHeartbeats 1000000 in
theorem new_calls (bs : List Int) (A : Option Addr) (c : Nat) (w : World) (hr : Kd.C (Kd.int .u8) w A bs.length bs) (hc : bs.length ≤ c) (hm : bs.length ≤ 140737488355328) :
    Calls Try.prog 24 #[.slice A bs.length c] w fun e w' => ∃ g', w.heap.size ≤ g' ∧ e = .returned (.pointer (some ⟨g', 0, none⟩)) ∧ Vw w' g' bs ∧ Below w.heap.size w w' := by
  have HP := Aside0.mk (clone_calls bs A c w hr hc hm)
  clear hr hc hm
  go_enter Try.func24, Try.ntmps24
  go_wp2_with (go_at_call 32; refine HP.out.mono ?_; rintro q w1 ⟨v, rfl, h2, h3⟩; obtain ⟨A1, c1, rfl⟩ := Kd.R_slice h2; have R1 := Aside0.mk (Kd.R_reads' h2); have B1 := Aside0.mk h3; clear h2 h3)
  go_ret
  exact ⟨_, below_size B1.out, rfl, ⟨_, _, blk_new _ _, R1.out.2.1, Kd.C_alloc R1.out.2.2 _⟩, below_alloc B1.out _⟩
set_option maxRecDepth 100000 in
set_option maxHeartbeats 1000000 in
theorem bytes_calls (bs : List Int) (g : Nat) (w : World) (hv : Vw w g bs) (hm : bs.length ≤ 140737488355328) :
    Calls Try.prog 57 #[.pointer (some ⟨g, 0, none⟩)] w fun e w' => ∃ v, e = .returned v ∧ Kd.R (Kd.int .u8) 5 w' w.heap.size (fun _ => True) v bs ∧ Below w.heap.size w w' := by
  obtain ⟨A, c, hb, hc, hr⟩ := hv
  have c0 : w.cell? ⟨g, 0, none⟩ = some (.slice A bs.length c) := (blk_cell hb 0).trans rfl
  have HP := Aside0.mk (clone_calls bs A c w hr hc hm)
  clear hr hc hm hb
  go_enter Try.func57, Try.ntmps57
  go_wp2_with (go_at_call 32; refine HP.out.mono ?_; rintro q w1 ⟨v, rfl, h2, h3⟩; have R1 := Aside0.mk h2; have B1 := Aside0.mk h3; clear h2 h3)
  go_ret
  exact ⟨_, rfl, R1.out, B1.out⟩
set_option maxRecDepth 100000 in
theorem len_calls (bs : List Int) (g : Nat) (w : World) (hv : Vw w g bs) : Calls Try.prog 40 #[.pointer (some ⟨g, 0, none⟩)] w fun e w' => e = .returned (.int .i64 (bs.length : Int)) ∧ Below w.heap.size w w' := by
  obtain ⟨A, c, hb, hc, hr⟩ := hv
  have c0 : w.cell? ⟨g, 0, none⟩ = some (.slice A bs.length c) := (blk_cell hb 0).trans rfl
  have HB := Aside0.mk (Below.refl w.heap.size w)
  clear hr hc hb
  go_enter Try.func40, Try.ntmps40
  go_wp2
  go_ret
  exact ⟨rfl, HB.out⟩
set_option maxRecDepth 100000 in
theorem u8_calls (bs : List Int) (g : Nat) (p : Int) (w : World) (hv : Vw w g bs) (ho : okB bs) : Calls Try.prog 69 #[.pointer (some ⟨g, 0, none⟩), .int .i64 p] w fun e w' => e = .returned (.tuple #[.int .i64 (numV bs p 1).1, .int .i64 (numV bs p 1).2]) ∧ Below w.heap.size w w' := by
  have HP := Aside0.mk (number_calls bs g p 1 w hv ho (by decide))
  clear hv ho
  generalize numV bs p 1 = r at *
  go_enter Try.func69, Try.ntmps69
  go_wp2_with (go_at_call 94; refine HP.out.mono ?_; rintro q w1 ⟨rfl, h1⟩; have B1 := Aside0.mk h1; clear h1)
  go_ret2
  exact ⟨rfl, B1.out⟩
end Go.Proofs.Ytchmhcfdamdjdaa.G
