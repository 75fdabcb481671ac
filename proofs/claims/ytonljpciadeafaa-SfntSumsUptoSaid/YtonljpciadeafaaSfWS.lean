/- Views of bytes: numbers, tags, cuts. -/
import Derived.Test.YtonljpciadeafaaSfVS
set_option linter.unusedVariables false
set_option linter.unusedSimpArgs false
namespace Go.Proofs.Ytonljpciadeafaa.S
open Go Go.RowKit Go.Proofs.YtonljpciadeafaaW.PrintWords Go.Proofs.YtonljpciadeafaaW.PrintLast Go.Proofs.YtonljpciadeafaaW.PrintMore

theorem partV_ok {bs : List Int} (h : okB bs) (p n : Int) : okB (partV bs p n).1 := by
  unfold partV
  split
  · exact fun x hx => by cases hx
  · exact fun x hx => h x (List.mem_of_mem_take (List.mem_of_mem_drop hx))
theorem partV_len (bs : List Int) (p n : Int) : (partV bs p n).1.length ≤ n.toNat ∧ (partV bs p n).1.length ≤ bs.length := by
  unfold partV
  split
  · exact ⟨Nat.zero_le _, Nat.zero_le _⟩
  · rename_i h
    dsimp only
    rw [List.length_drop, List.length_take]
    omega
/-- The number of n bytes, and the error. -/
def numV (bs : List Int) (p n : Int) : Int × Int := (numB (partV bs p n).1, (partV bs p n).2)
set_option maxRecDepth 100000 in
set_option maxHeartbeats 1000000 in
theorem number_calls (bs : List Int) (g : Nat) (p n : Int) (w : World) (hv : Vw w g bs) (ho : okB bs) (hn : n ≤ 4) :
    Calls Try.prog 59 #[.pointer (some ⟨g, 0, none⟩), .int .i64 p, .int .i64 n] w fun e w' => e = .returned (.tuple #[.int .i64 (numV bs p n).1, .int .i64 (numV bs p n).2]) ∧ Below w.heap.size w w' := by
  have HV := Aside0.mk hv
  have HO := Aside0.mk (partV_ok ho p n)
  have HL := Aside0.mk (partV_len bs p n)
  unfold numV
  have hp := part_calls bs g p n w hv
  unfold PartP at hp
  obtain ⟨L, e, hL⟩ : ∃ L e, partV bs p n = (L, e) := ⟨_, _, rfl⟩
  rw [hL] at hp HO HL ⊢
  dsimp only at hp HO HL ⊢
  have HP := Aside0.mk hp
  have l4 : L.length ≤ 4 := by have := HL.out.1; omega
  clear hv ho hp hL hn HL
  go_enter Try.func59, Try.ntmps59
  go_wp2_with (go_at_call 58; refine HP.out.mono ?_; rintro q w1 ⟨A, c, rfl, h1, h2, h3⟩; have C1 := Aside0.mk h1; have R1 := Aside0.mk h2; have B1 := Aside0.mk h3; clear h1 h2 h3)
  go_loopw [10, 22] (fun v10 v22 wr => ∃ (j : Nat), v10 = .int .i64 (numB (L.take j)) ∧ v22 = .int .i64 j ∧ j ≤ L.length ∧ Aside0 (Below w.heap.size w wr) ∧ Aside0 (Kd.C (Kd.int .u8) wr A L.length L)) (fun _ v22 _ => L.length - (intOf v22).toNat)
  case atStart => exact ⟨0, by simp [numB], rfl, Nat.zero_le _, B1, R1⟩
  case round =>
    obtain ⟨j, rfl, rfl, hj, HB, HR⟩ := hrel
    by_cases jlt : j < L.length
    · have jl := eq_true (show (j : Int) < (L.length : Int) by omega)
      have jl2 := eq_true jlt
      have jp := eq_true (show (0 : Int) ≤ (j : Int) by omega)
      obtain ⟨ad, rfl, x0⟩ := Kd.at_int HR.out (j : Int) (by omega) (by omega)
      rw [Int.toNat_natCast] at x0
      have er : rd L (j : Int) = L[j] := by unfold rd; rw [Int.toNat_natCast, List.getD_eq_getElem?_getD, List.getElem?_eq_getElem jlt]; rfl
      rw [er] at x0
      have hc := HO.out _ (List.getElem_mem jlt)
      have h0 := (numB_bd (L.take j) (fun x hx => HO.out x (List.mem_of_mem_take hx))).1
      have h1 := numB_lt HO.out jlt l4
      have ht : L.take (j + 1) = L.take j ++ [L[j]] := by rw [List.take_add_one, List.getElem?_eq_getElem jlt]; rfl
      have hs := or_step h0 h1 hc.1 hc.2
      have hz : numB (L.take (j + 1)) = numB (L.take j) * 256 + L[j] := by rw [ht, numB_snoc]
      have HZ := Aside0.mk hz
      generalize L[j] = c' at *
      generalize numB (L.take j) = x at *
      clear er ht hz
      go_wp2
      refine ⟨⟨j + 1, ?_, by push_cast; rfl, by omega, HB, HR⟩, ?_⟩
      · rw [HZ.out]
      · show (_ : Nat) < _
        simp only [intOf]; omega
    · have jl := eq_false (show ¬ (j : Int) < (L.length : Int) by omega)
      have jl2 := eq_false jlt
      obtain rfl : j = L.length := by omega
      rw [List.take_length]
      go_wp2
      go_ret2
      exact ⟨rfl, HB.out⟩
section
variable (bs : List Int) (g : Nat) (p : Int) (w : World) (hv : Vw w g bs) (ho : okB bs)
include hv ho
set_option maxRecDepth 100000 in
theorem u32_calls : Calls Try.prog 57 #[.pointer (some ⟨g, 0, none⟩), .int .i64 p] w fun e w' => e = .returned (.tuple #[.int .i64 (numV bs p 4).1, .int .i64 (numV bs p 4).2]) ∧ Below w.heap.size w w' := by
  have HP := Aside0.mk (number_calls bs g p 4 w hv ho (by decide))
  clear hv ho
  generalize numV bs p 4 = r at *
  go_enter Try.func57, Try.ntmps57
  go_wp2_with (go_at_call 59; refine HP.out.mono ?_; rintro q w1 ⟨rfl, h1⟩; have B1 := Aside0.mk h1; clear h1)
  go_ret2
  exact ⟨rfl, B1.out⟩
set_option maxRecDepth 100000 in
theorem u16_calls : Calls Try.prog 37 #[.pointer (some ⟨g, 0, none⟩), .int .i64 p] w fun e w' => e = .returned (.tuple #[.int .i64 (numV bs p 2).1, .int .i64 (numV bs p 2).2]) ∧ Below w.heap.size w w' := by
  have HP := Aside0.mk (number_calls bs g p 2 w hv ho (by decide))
  clear hv ho
  generalize numV bs p 2 = r at *
  go_enter Try.func37, Try.ntmps37
  go_wp2_with (go_at_call 59; refine HP.out.mono ?_; rintro q w1 ⟨rfl, h1⟩; have B1 := Aside0.mk h1; clear h1)
  go_ret2
  exact ⟨rfl, B1.out⟩
end
theorem numV_bd (bs : List Int) (h : okB bs) (p : Int) (n : Nat) (hn : n ≤ 4) : 0 ≤ (numV bs p n).1 ∧ (numV bs p n).1 < 256 ^ n := by
  have h1 := numB_bd (partV bs p n).1 (partV_ok h p n)
  have h2 := (partV_len bs p n).1
  refine ⟨h1.1, Int.lt_of_lt_of_le h1.2 ?_⟩
  have h : (256 : Nat) ^ (partV bs p n).1.length ≤ 256 ^ n := Nat.pow_le_pow_right (by decide) (by omega)
  have h' : ((256 ^ (partV bs p n).1.length : Nat) : Int) ≤ ((256 ^ n : Nat) : Int) := Int.ofNat_le.2 h
  rwa [Int.natCast_pow, Int.natCast_pow] at h'
/-- A number of two bytes with its sign. -/
def sgn16 (n : Int) : Int := if n ≥ 32768 then n - 65536 else n
set_option maxRecDepth 100000 in
theorem i16_calls (bs : List Int) (g : Nat) (p : Int) (w : World) (hv : Vw w g bs) (ho : okB bs) : Calls Try.prog 72 #[.pointer (some ⟨g, 0, none⟩), .int .i64 p] w fun e w' => e = .returned (.tuple #[.int .i64 (sgn16 (numV bs p 2).1), .int .i64 (numV bs p 2).2]) ∧ Below w.heap.size w w' := by
  have HP := Aside0.mk (u16_calls bs g p w hv ho)
  have hb := numV_bd bs ho p 2 (by decide)
  have hw : IntKind.i16.wrap (numV bs p 2).1 = sgn16 (numV bs p 2).1 := by
    simp [IntKind.wrap, IntKind.bits, IntKind.signed, sgn16] at hb ⊢
    split <;> omega
  have hw2 : wrap64 (sgn16 (numV bs p 2).1) = sgn16 (numV bs p 2).1 := by
    simp [sgn16] at hb ⊢
    unfold wrap64
    split <;> omega
  clear hv ho hb
  generalize numV bs p 2 = r at *
  have HW2 := Aside0.mk hw2
  clear hw2
  have HW := Aside0.mk hw
  clear hw
  go_enter Try.func72, Try.ntmps72
  go_wp2_with (go_at_call 37; refine HP.out.mono ?_; rintro q w1 ⟨rfl, h1⟩; have B1 := Aside0.mk h1; clear h1)
  go_ret2
  exact ⟨by simp [HW.out, HW2.out], B1.out⟩
set_option maxRecDepth 100000 in
theorem tag_calls (bs : List Int) (g : Nat) (p : Int) (w : World) (hv : Vw w g bs) : Calls Try.prog 36 #[.pointer (some ⟨g, 0, none⟩), .int .i64 p] w fun e w' => e = .returned (.tuple #[.string (strOfNums (partV bs p 4).1), .int .i64 (partV bs p 4).2]) ∧ Below w.heap.size w w' := by
  have hp := part_calls bs g p 4 w hv
  unfold PartP at hp
  obtain ⟨L, e, hL⟩ : ∃ L e, partV bs p 4 = (L, e) := ⟨_, _, rfl⟩
  rw [hL] at hp ⊢
  have HP := Aside0.mk hp
  clear hp hL hv
  go_enter Try.func36, Try.ntmps36
  go_wp2_with (go_at_call 58; refine HP.out.mono ?_; rintro q w1 ⟨A, c, rfl, h1, h2, h3⟩; have C1 := Aside0.mk h1; have R1 := Aside0.mk h2; have B1 := Aside0.mk h3; clear h1 h2 h3; have hcv := Kd.C_string (P := Try.prog) (A := A) (c := c) Try.underlying23 Try.underlying5 Try.underlying9 R1.out)
  go_ret2
  exact ⟨rfl, B1.out⟩
theorem partV_two (bs : List Int) (p n : Int) : partV bs p n = ([], 21) ∨ (partV bs p n).2 = 0 := by
  unfold partV
  split
  · exact Or.inl rfl
  · exact Or.inr rfl
def CutP (bs : List Int) (p n : Int) (w : World) (e : Ending) (w' : World) : Prop := Below w.heap.size w w' ∧
  ((partV bs p n).2 = 0 ∧ (∃ g', w.heap.size ≤ g' ∧ e = .returned (.tuple #[.pointer (some ⟨g', 0, none⟩), .int .i64 0]) ∧ Vw w' g' (partV bs p n).1) ∨ partV bs p n = ([], 21) ∧ e = .returned (.tuple #[.pointer none, .int .i64 21]))
set_option maxRecDepth 100000 in
set_option maxHeartbeats 1000000 in
theorem cut_calls (bs : List Int) (g : Nat) (p n : Int) (w : World) (hv : Vw w g bs) : Calls Try.prog 60 #[.pointer (some ⟨g, 0, none⟩), .int .i64 p, .int .i64 n] w (CutP bs p n w) := by
  have hp := part_calls bs g p n w hv
  unfold PartP at hp
  rcases partV_two bs p n with h | h
  · have E := Aside0.mk h
    rw [h] at hp
    have HP := Aside0.mk hp
    clear hp h hv
    go_enter Try.func60, Try.ntmps60
    go_wp2_with (go_at_call 58; refine HP.out.mono ?_; rintro q w1 ⟨A, c, rfl, h1, h2, h3⟩; have B1 := Aside0.mk h3; clear h1 h2 h3)
    go_ret2
    exact ⟨B1.out, Or.inr ⟨E.out, rfl⟩⟩
  · have E := Aside0.mk h
    rw [h] at hp
    have HP := Aside0.mk hp
    clear hp h hv
    generalize hL : (partV bs p n).1 = L at *
    have EL := Aside0.mk hL
    clear hL
    go_enter Try.func60, Try.ntmps60
    go_wp2_with (go_at_call 58; refine HP.out.mono ?_; rintro q w1 ⟨A, c, rfl, h1, h2, h3⟩; have C1 := Aside0.mk h1; have R1 := Aside0.mk h2; have B1 := Aside0.mk h3; clear h1 h2 h3)
    go_ret2
    exact ⟨below_alloc B1.out _, Or.inl ⟨E.out, _, below_size B1.out, rfl, by rw [EL.out]; exact ⟨_, _, blk_new _ _, C1.out, Kd.C_alloc R1.out _⟩⟩⟩
theorem cut_good (bs : List Int) (g : Nat) (p n : Int) (w : World) (hv : Vw w g bs) (h : (partV bs p n).2 = 0) : Calls Try.prog 60 #[.pointer (some ⟨g, 0, none⟩), .int .i64 p, .int .i64 n] w fun e w' => ∃ g', w.heap.size ≤ g' ∧ e = .returned (.tuple #[.pointer (some ⟨g', 0, none⟩), .int .i64 0]) ∧ Vw w' g' (partV bs p n).1 ∧ Below w.heap.size w w' := by
  refine (cut_calls bs g p n w hv).mono ?_
  rintro e w' ⟨hb, ⟨_, g', h1, h2, h3⟩ | ⟨h1, _⟩⟩
  · exact ⟨g', h1, h2, h3, hb⟩
  · rw [h1] at h; exact absurd h (by decide)
theorem cut_bad (bs : List Int) (g : Nat) (p n : Int) (w : World) (hv : Vw w g bs) (h : (partV bs p n).2 ≠ 0) : Calls Try.prog 60 #[.pointer (some ⟨g, 0, none⟩), .int .i64 p, .int .i64 n] w fun e w' => e = .returned (.tuple #[.pointer none, .int .i64 21]) ∧ Below w.heap.size w w' := by
  refine (cut_calls bs g p n w hv).mono ?_
  rintro e w' ⟨hb, ⟨h1, _⟩ | ⟨_, h1⟩⟩
  · exact absurd h1 h
  · exact ⟨h1, hb⟩
set_option maxRecDepth 100000 in
set_option maxHeartbeats 1000000 in
theorem new_calls (bs : List Int) (A : Option Addr) (c : Nat) (w : World) (hr : Kd.C (Kd.int .u8) w A bs.length bs) (hc : bs.length ≤ c) (hm : bs.length ≤ 140737488355328) :
    Calls Try.prog 34 #[.slice A bs.length c] w fun e w' => ∃ g', w.heap.size ≤ g' ∧ e = .returned (.pointer (some ⟨g', 0, none⟩)) ∧ Vw w' g' bs ∧ Below w.heap.size w w' := by
  have HP := Aside0.mk (clone_calls bs A c w hr hc hm)
  clear hr hc hm
  go_enter Try.func34, Try.ntmps34
  go_wp2_with (go_at_call 55; refine HP.out.mono ?_; rintro q w1 ⟨v, rfl, h2, h3⟩; obtain ⟨A1, c1, rfl⟩ := Kd.R_slice h2; have R1 := Aside0.mk (Kd.R_reads' h2); have B1 := Aside0.mk h3; clear h2 h3)
  go_ret
  exact ⟨_, below_size B1.out, rfl, ⟨_, _, blk_new _ _, R1.out.2.1, Kd.C_alloc R1.out.2.2 _⟩, below_alloc B1.out _⟩
set_option maxRecDepth 100000 in
set_option maxHeartbeats 1000000 in
theorem bytes_calls (bs : List Int) (g : Nat) (w : World) (hv : Vw w g bs) (hm : bs.length ≤ 140737488355328) :
    Calls Try.prog 61 #[.pointer (some ⟨g, 0, none⟩)] w fun e w' => ∃ v, e = .returned v ∧ Kd.R (Kd.int .u8) 5 w' w.heap.size (fun _ => True) v bs ∧ Below w.heap.size w w' := by
  obtain ⟨A, c, hb, hc, hr⟩ := hv
  have c0 : w.cell? ⟨g, 0, none⟩ = some (.slice A bs.length c) := (blk_cell hb 0).trans rfl
  have HP := Aside0.mk (clone_calls bs A c w hr hc hm)
  clear hr hc hm hb
  go_enter Try.func61, Try.ntmps61
  go_wp2_with (go_at_call 55; refine HP.out.mono ?_; rintro q w1 ⟨v, rfl, h2, h3⟩; have R1 := Aside0.mk h2; have B1 := Aside0.mk h3; clear h2 h3)
  go_ret
  exact ⟨_, rfl, R1.out, B1.out⟩
set_option maxRecDepth 100000 in
theorem len_calls (bs : List Int) (g : Nat) (w : World) (hv : Vw w g bs) : Calls Try.prog 67 #[.pointer (some ⟨g, 0, none⟩)] w fun e w' => e = .returned (.int .i64 (bs.length : Int)) ∧ Below w.heap.size w w' := by
  obtain ⟨A, c, hb, hc, hr⟩ := hv
  have c0 : w.cell? ⟨g, 0, none⟩ = some (.slice A bs.length c) := (blk_cell hb 0).trans rfl
  have HB := Aside0.mk (Below.refl w.heap.size w)
  clear hr hc hb
  go_enter Try.func67, Try.ntmps67
  go_wp2
  go_ret
  exact ⟨rfl, HB.out⟩
end Go.Proofs.Ytonljpciadeafaa.S
