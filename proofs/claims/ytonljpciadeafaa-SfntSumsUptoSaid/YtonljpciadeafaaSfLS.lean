/- SfntNames, SfntSums: the walks. (Written by wip/rk/gensums.py.) -/
import Derived.Test.YtonljpciadeafaaSx0
import Derived.Test.YtonljpciadeafaaSx1
import Derived.Test.YtonljpciadeafaaSx22
import Derived.Test.YtonljpciadeafaaSfAS
set_option linter.unusedVariables false
set_option linter.unusedSimpArgs false
namespace Go.Proofs.Ytonljpciadeafaa.S
open Go Go.RowKit Go.Proofs.YtonljpciadeafaaW.PrintWords Go.Proofs.YtonljpciadeafaaW.PrintLast Go.Proofs.YtonljpciadeafaaW.PrintMore

set_option maxRecDepth 100000 in
theorem names_walk (w : World) : Calls Try.prog 3 #[] w fun e w' => e = .returned (.bool true) ∧ Below w.heap.size w w' := by
  have HA := Aside0.mk (alive_calls w)
  go_enter Try.func3, Try.ntmps3
  go_wp2_with (go_at_call 10; refine HA.out.mono ?_; rintro q w1 ⟨rfl, h1⟩; have B1 := Aside0.mk h1; clear h1)
  go_ret
  exact ⟨rfl, B1.out⟩
theorem okB_take {l : List Int} (h : okB l) (n : Nat) : okB (l.take n) := fun x hx => h x (List.mem_of_mem_take hx)
def lenS : Value → Nat
  | .slice _ n _ => n
  | _ => 0
/-- The sums of fresh copies: any slice that reads as l. -/
theorem sumP (l : List Int) (ol : okB l) (ll : l.length ≤ 4611686018427387904) (n : Nat) (hn : l.length = n) (A : Option Addr) (c : Nat) (w : World) (h1 : Kd.C (Kd.int .u8) w A l.length l) (h2 : l.length ≤ c) : Calls Try.prog 11 #[.slice A n c] w fun e w' => e = .returned (.int .i64 (sumB l)) ∧ Drawn0 w w' := by
  obtain ⟨k, h⟩ := (sum_ev l ol ll).rounds
  subst hn
  exact sfnt_Sum.calls k A c l (sumB l) w h1 h2 h
set_option maxRecDepth 100000 in
set_option maxHeartbeats 4000000 in
theorem sums_walk (a b : List Int) (A B : Option Addr) (c d : Nat) (w : World) (hA : Kd.C (Kd.int .u8) w A a.length a) (hc : a.length ≤ c) (hB : Kd.C (Kd.int .u8) w B b.length b) (hd : b.length ≤ d) (oa : okB a) (ob : okB b) (lab : a.length + b.length ≤ 140737488355328) :
    Calls Try.prog 4 #[.slice A a.length c, .slice B b.length d] w fun e w' => e = .returned (.bool true) ∧ Below w.heap.size w w' := by
  have la : a.length ≤ 140737488355328 := by omega
  have HA := Aside0.mk hA
  have HB := Aside0.mk hB
  have HC := Aside0.mk hc
  have HD := Aside0.mk hd
  have OA := Aside0.mk oa
  have OB := Aside0.mk ob
  have LA := Aside0.mk la
  have LAB := Aside0.mk lab
  have AL := Aside0.mk (alive_calls w)
  obtain ⟨ka, ha⟩ := (sum_ev a oa (by omega)).rounds
  obtain ⟨kr, hr⟩ := (rsum_ev a oa (by omega)).rounds
  obtain ⟨i5, hi5, _⟩ := info_parts info5
  have SA := Aside0.mk ha
  have SR := Aside0.mk hr
  have be : (sumB a != sumB a) = false := by simp
  have HI := Aside0.mk hi5
  clear hA hB oa ob ha hr hi5 hd
  go_enter Try.func4, Try.ntmps4
  go_upto_region 3 with (go_at_call 10; refine AL.out.mono ?_; rintro q w1 ⟨rfl, h1⟩; have B1 := Aside0.mk h1; clear h1)
  go_upto_region 5 with (first | ((with_reducible refine gate_dst (N := 8) rfl ?_); refine Kd.R_lit (Kd.int .u8) _ 5 ?hg (N := 8) ?hd (xs := ([] : List Int)) (inner := []) (ok := fun _ => True) (okp := fun _ => True) ?hr ?hp (fun _ hk => hk) trivial (Below.refl _ _) (Nat.le_refl _) (by simp) ?_; (case hd => rfl); (case hg => rfl); (case hr => first | (go_simp; done) | (go_simp; rfl)); (case hp => exact (Reps.none _ _)); intro v8 w8 ho hb hg_ hnew_; clear hg_ hnew_; have R8 := Aside0.mk (Kd.R_lower ho (below_size B1.out)); have B8 := Aside0.mk (below_step B1.out hb); clear ho hb) | ((with_reducible refine gate_builtin (b := .append) (xs := #[.tmp 8, .tmp 9]) rfl ?_); at_builtin; refine Kd.R_append_rows (Kd.int .u8) (w0 := w) w.heap.size rfl (.tmp 8) (.tmp 9) 23 5 (.int .u8 0) 1 rfl Try.underlying23 info5 rfl (by decide) (by omega) v8 [] a _ _ _ (fun _ => True) (fun _ => False) rfl rfl ?aO ?aR (fun _ _ h => h) (fun _ h => h.elim) ?aF ?aB ?aS ?aL ?_; (case aR => exact Kd.C_below HA.out B8.out); (case aB => exact B8.out); (case aF => exact (fun _ _ => trivial)); (case aO => exact R8.out); (case aS => exact below_size B8.out); (case aL => have := LA.out; simp only [List.length_nil]; omega); intro v10 w10 ho hb hg hat; rw [List.nil_append] at ho; obtain ⟨A10, c10, rfl⟩ := Kd.R_slice ho; have R10 := Aside0.mk ho; have B10 := Aside0.mk hb; clear ho hb hg hat) | (go_at_call 11; refine (sfnt_Sum.calls ka A10 c10 a (sumB a) w10 (Kd.R_reads' R10.out).2.2 (Kd.R_reads' R10.out).2.1 SA.out).mono ?_; rintro q w11 ⟨rfl, h1⟩; have B11 := Aside0.mk (below_step B10.out h1.below); clear h1) | (go_at_call 12; refine (serifref03_Sum.calls kr A c a (sumB a) w11 (Kd.C_below HA.out B11.out) HC.out SR.out).mono ?_; rintro q w13 ⟨rfl, h1⟩; have B13 := Aside0.mk (below_step B11.out h1.below); clear h1))
  clear be
  go_loopw [0] (fun v0 wr => ∃ (n : Nat), v0 = .slice A n c ∧ n ≤ a.length ∧ Aside0 (Below w.heap.size w wr)) (fun v0 _ => lenS v0)
  case atStart => exact ⟨a.length, rfl, Nat.le_refl _, B13⟩
  case round =>
    obtain ⟨n, rfl, hn, HBr⟩ := hrel
    by_cases h4 : n % 4 = 0
    · have t4 : ((n : Int) % 4 != 0) = false := bne_eq_false_iff_eq.mpr (by omega)
      obtain ⟨a', hta⟩ : ∃ a', a' = a.take n := ⟨_, rfl⟩
      have hl : a'.length = n := by rw [hta, List.length_take]; omega
      have HA' : Aside0 (Kd.C (Kd.int .u8) w A a'.length a') := ⟨by rw [hta]; exact Kd.C_take HA.out (by omega)⟩
      have OA' : Aside0 (okB a') := ⟨by rw [hta]; exact okB_take OA.out n⟩
      have LA' := Aside0.mk (show a'.length ≤ a.length by omega)
      have HC' := Aside0.mk (show a'.length ≤ c by omega)
      have H4 := Aside0.mk (show a'.length % 4 = 0 by omega)
      subst hl
      clear h4 hta hn
      go_upto_region 8 with (first | ((with_reducible refine gate_dst (N := 24) rfl ?_); refine Kd.R_lit (Kd.int .u8) _ 5 ?hg (N := 24) ?hd (xs := ([] : List Int)) (inner := []) (ok := fun _ => True) (okp := fun _ => True) ?hr ?hp (fun _ hk => hk) trivial (Below.refl _ _) (Nat.le_refl _) (by simp) ?_; (case hd => rfl); (case hg => rfl); (case hr => first | (go_simp; done) | (go_simp; rfl)); (case hp => exact (Reps.none _ _)); intro v24 w24 ho hb hg_ hnew_; clear hg_ hnew_; have R24 := Aside0.mk (Kd.R_lower ho (below_size HBr.out)); have B24 := Aside0.mk (below_step HBr.out hb); clear ho hb) | ((with_reducible refine gate_builtin (b := .append) (xs := #[.tmp 24, .tmp 25]) rfl ?_); at_builtin; refine Kd.R_append_rows (Kd.int .u8) (w0 := w) w.heap.size rfl (.tmp 24) (.tmp 25) 23 5 (.int .u8 0) 1 rfl Try.underlying23 info5 rfl (by decide) (by omega) v24 [] a' _ _ _ (fun _ => True) (fun _ => False) rfl rfl ?aO ?aR (fun _ _ h => h) (fun _ h => h.elim) ?aF ?aB ?aS ?aL ?_; (case aR => exact Kd.C_below HA'.out B24.out); (case aB => exact B24.out); (case aF => exact (fun _ _ => trivial)); (case aO => exact R24.out); (case aS => exact below_size B24.out); (case aL => have := LA'.out; have := LA.out; simp only [List.length_nil]; omega); intro v26 w26 ho hb hg hat; rw [List.nil_append] at ho; obtain ⟨A26, c26, rfl⟩ := Kd.R_slice ho; have R26 := Aside0.mk ho; have B26 := Aside0.mk hb; clear ho hb hg hat) | ((with_reducible refine gate_builtin (b := .append) (xs := #[.tmp 26, .tmp 27]) rfl ?_); at_builtin; refine Kd.R_append_rows (Kd.int .u8) (w0 := w) w.heap.size rfl (.tmp 26) (.tmp 27) 23 5 (.int .u8 0) 1 rfl Try.underlying23 info5 rfl (by decide) (by omega) (.slice A26 a'.length c26) a' b _ _ _ (fun _ => True) (fun _ => False) rfl rfl ?aO ?aR (fun _ _ h => h) (fun _ h => h.elim) ?aF ?aB ?aS ?aL ?_; (case aR => exact Kd.C_below HB.out B26.out); (case aB => exact B26.out); (case aF => exact (fun _ _ => trivial)); (case aO => exact R26.out); (case aS => exact below_size B26.out); (case aL => have := LA'.out; have := LAB.out; omega); intro v28 w28 ho hb hg hat; obtain ⟨A28, c28, rfl⟩ := Kd.R_slice ho; have R28 := Aside0.mk ho; have B28 := Aside0.mk hb; clear ho hb hg hat))
      have hb := sumP (a' ++ b) (fun x hx => by rcases List.mem_append.1 hx with h | h; exact OA'.out x h; exact OB.out x h) (by have := LA'.out; have := LAB.out; rw [List.length_append]; omega) (a'.length + b.length) List.length_append
      have h1 := sumP a' OA'.out (by have := LA'.out; have := LA.out; omega) a'.length rfl
      have h2 := sumP b OB.out (by have := LAB.out; omega) b.length rfl
      have SB := Aside0.mk hb
      have S1 := Aside0.mk h1
      have S2 := Aside0.mk h2
      have hs : sumB (a' ++ b) = (sumB a' + sumB b) % 4294967296 := sumB_append a' b H4.out
      have s1 := sumB_bd a'
      have s2 := sumB_bd b
      have HS := Aside0.mk hs
      clear hb h1 h2 hs
      generalize sumB (a' ++ b) = sb at *
      generalize sumB a' = sa' at *
      generalize sumB b = sb' at *
      have he : (sb == (sa' + sb') % 4294967296) = true := beq_iff_eq.mpr HS.out
      clear HS
      go_wp2_with (first | (go_at_call 11; first | (refine (S2.out A37 c37 w37 (Kd.R_reads' R37.out).2.2 (Kd.R_reads' R37.out).2.1).mono ?_; rintro q w38 ⟨rfl, h1⟩; have B38 := Aside0.mk (below_step B37.out h1.below); clear h1) | (refine (S1.out A33 c33 w33 (Kd.R_reads' R33.out).2.2 (Kd.R_reads' R33.out).2.1).mono ?_; rintro q w34 ⟨rfl, h1⟩; have B34 := Aside0.mk (below_step B33.out h1.below); clear h1) | (refine (SB.out A28 c28 w28 (Kd.R_reads' R28.out).2.2 (Kd.R_reads' R28.out).2.1).mono ?_; rintro q w30 ⟨rfl, h1⟩; have B30 := Aside0.mk (below_step B28.out h1.below); clear h1)) | ((with_reducible refine gate_dst (N := 31) rfl ?_); refine Kd.R_lit (Kd.int .u8) _ 5 ?hg (N := 31) ?hd (xs := ([] : List Int)) (inner := []) (ok := fun _ => True) (okp := fun _ => True) ?hr ?hp (fun _ hk => hk) trivial (Below.refl _ _) (Nat.le_refl _) (by simp) ?_; (case hd => rfl); (case hg => rfl); (case hr => first | (go_simp; done) | (go_simp; rfl)); (case hp => exact (Reps.none _ _)); intro v31 w31 ho hb hg_ hnew_; clear hg_ hnew_; have R31 := Aside0.mk (Kd.R_lower ho (below_size B30.out)); have B31 := Aside0.mk (below_step B30.out hb); clear ho hb) | ((with_reducible refine gate_builtin (b := .append) (xs := #[.tmp 31, .tmp 32]) rfl ?_); at_builtin; refine Kd.R_append_rows (Kd.int .u8) (w0 := w) w.heap.size rfl (.tmp 31) (.tmp 32) 23 5 (.int .u8 0) 1 rfl Try.underlying23 info5 rfl (by decide) (by omega) v31 [] a' _ _ _ (fun _ => True) (fun _ => False) rfl rfl ?aO ?aR (fun _ _ h => h) (fun _ h => h.elim) ?aF ?aB ?aS ?aL ?_; (case aR => exact Kd.C_below HA'.out B31.out); (case aB => exact B31.out); (case aF => exact (fun _ _ => trivial)); (case aO => exact R31.out); (case aS => exact below_size B31.out); (case aL => have := LA'.out; have := LA.out; simp only [List.length_nil]; omega); intro v33 w33 ho hb hg hat; rw [List.nil_append] at ho; obtain ⟨A33, c33, rfl⟩ := Kd.R_slice ho; have R33 := Aside0.mk ho; have B33 := Aside0.mk hb; clear ho hb hg hat) | ((with_reducible refine gate_dst (N := 35) rfl ?_); refine Kd.R_lit (Kd.int .u8) _ 5 ?hg (N := 35) ?hd (xs := ([] : List Int)) (inner := []) (ok := fun _ => True) (okp := fun _ => True) ?hr ?hp (fun _ hk => hk) trivial (Below.refl _ _) (Nat.le_refl _) (by simp) ?_; (case hd => rfl); (case hg => rfl); (case hr => first | (go_simp; done) | (go_simp; rfl)); (case hp => exact (Reps.none _ _)); intro v35 w35 ho hb hg_ hnew_; clear hg_ hnew_; have R35 := Aside0.mk (Kd.R_lower ho (below_size B34.out)); have B35 := Aside0.mk (below_step B34.out hb); clear ho hb) | ((with_reducible refine gate_builtin (b := .append) (xs := #[.tmp 35, .tmp 36]) rfl ?_); at_builtin; refine Kd.R_append_rows (Kd.int .u8) (w0 := w) w.heap.size rfl (.tmp 35) (.tmp 36) 23 5 (.int .u8 0) 1 rfl Try.underlying23 info5 rfl (by decide) (by omega) v35 [] b _ _ _ (fun _ => True) (fun _ => False) rfl rfl ?aO ?aR (fun _ _ h => h) (fun _ h => h.elim) ?aF ?aB ?aS ?aL ?_; (case aR => exact Kd.C_below HB.out B35.out); (case aB => exact B35.out); (case aF => exact (fun _ _ => trivial)); (case aO => exact R35.out); (case aS => exact below_size B35.out); (case aL => have := LAB.out; simp only [List.length_nil]; omega); intro v37 w37 ho hb hg hat; rw [List.nil_append] at ho; obtain ⟨A37, c37, rfl⟩ := Kd.R_slice ho; have R37 := Aside0.mk ho; have B37 := Aside0.mk hb; clear ho hb hg hat))
      go_ret
      exact ⟨rfl, B38.out⟩
    · have t4 : ((n : Int) % 4 != 0) = true := bne_iff_ne.mpr (by omega)
      have hcut := cut_to (P := Try.prog) 23 5 .i64 Try.underlying23 HI.out A n c ((n : Int) - 1) (by omega) (by omega) (by omega)
      have hz : ((n : Int) - 1).toNat = n - 1 := by omega
      rw [hz] at hcut
      have hb : (n : Int) ≤ 9223372036854775807 := by omega
      clear hz
      go_wp2
      refine ⟨⟨n - 1, rfl, by omega, HBr⟩, ?_⟩
      show lenS _ < lenS _
      simp only [lenS]
      omega
end Go.Proofs.Ytonljpciadeafaa.S
