/- glyf: the law's decode. Written by rk/gengf.py. -/
import Derived.Test.YtchmhcfdamdjdaaGx0
import Derived.Test.YtchmhcfdamdjdaaGfWG
set_option linter.unusedVariables false
set_option linter.unusedSimpArgs false
namespace Go.Proofs.Ytchmhcfdamdjdaa.G
open Go Go.RowKit Go.Proofs.YtchmhcfdamdjdaaW.PrintWords Go.Proofs.YtchmhcfdamdjdaaW.PrintLast Go.Proofs.YtchmhcfdamdjdaaW.PrintMore

theorem res12 (tmps : Array Value) (gm : Nat) (v0 v1 : Value) (E : Int) (w : World) (h2 : tmps[6]?.getD undef = .pointer (some ⟨gm, 0, none⟩)) (h3 : tmps[7]?.getD undef = .int .i64 E)
    (hm : w.heap[gm]? = some (.cells #[v0, v1] 29 (0, 0))) :
    (results Try.f12 tmps).run Try.prog w = .ok (.tuple #[.agg #[v0, v1], .int .i64 E]) w := by
  have m0 := blk_cell hm 0
  have m1 := blk_cell hm 1
  clear hm
  simp [results, Try.results12, go_sem, h2, h3, m0, m1]
set_option maxRecDepth 100000 in
set_option maxHeartbeats 4000000 in
theorem dec_calls (bs ps : List Int) (i : Int) (R : Option (List (List S46) × List Int)) (E : Int) (A : Option Addr) (c : Nat) (AP : Option Addr) (cP : Nat) (w : World) (hb : Kd.C (Kd.int .u8) w A bs.length bs) (hc : bs.length ≤ c) (hp : Kd.C (Kd.int .i64) w AP ps.length ps) (hcp : ps.length ≤ cP) (hlb : bs.length ≤ 1048576) (hlp : ps.length ≤ 1048576)
    (hd : ∀ (W : World) (gv : Nat) (AP : Option Addr) (cP : Nat), Vw W gv bs → Kd.C (Kd.int .i64) W AP ps.length ps → Calls Try.prog 25 #[.pointer (some ⟨gv, 0, none⟩), .slice AP ps.length cP, .int .i64 i] W (DecP R E W)) :
    Calls Try.prog 12 #[.slice A bs.length c, .slice AP ps.length cP, .int .i64 i] w (DecP R E w) := by
  have HB := Aside0.mk hb
  have HP := Aside0.mk hp
  have HD := Aside0.mk hd
  have HL := Aside0.mk (And.intro hlb hlp)
  clear hb hp hd hc hcp hlb hlp
  go_enter Try.func12, Try.ntmps12
  go_upto_region 1 with fail
  obtain ⟨w1, r, hX, er, kr, b1⟩ : ∃ X r, X = w.alloc (Obj.cells zeroG 29) ∧ w.heap.size = r ∧ X.heap[r]? = some (Obj.cells zeroG 29 (0, 0)) ∧ Below w.heap.size w X := ⟨_, _, rfl, rfl, blk_new _ _, below_alloc (Below.refl _ _) _⟩
  rw [← hX, er]
  have KR := Aside0.mk kr
  have B1 := Aside0.mk b1
  have RR := Aside0.mk (show w.heap.size ≤ r ∧ r < w1.heap.size from ⟨by omega, blk_lt kr⟩)
  clear hX er kr b1
  go_upto_region 2 with (first | (go_at_call 24; refine (new_calls bs A10 c10 w10 (Kd.R_reads' R10.out).2.2 (Kd.R_reads' R10.out).2.1 (by have := HL.out; omega)).mono ?_; rintro q w11 ⟨gv, k1, rfl, k2, k3⟩; have V11 := Aside0.mk k2; have F11 := Aside0.mk (below_step F10.out k3); clear k1 k2 k3) | ((with_reducible refine gate_dst (N := 9) rfl ?_); refine Kd.R_lit (Kd.int .u8) _ 5 ?hg (N := 9) ?hd (xs := ([] : List Int)) (inner := []) (ok := fun _ => True) (okp := fun _ => True) ?hr ?hp (fun _ hk => hk) trivial (Below.refl _ _) (Nat.le_refl _) (by simp) ?_; (case hd => rfl); (case hg => rfl); (case hr => first | (go_simp; done) | (go_simp; rfl)); (case hp => exact (Reps.none _ _)); intro v8 w8 ho hb hg_ hnew_; clear hg_ hnew_; have R8 := Aside0.mk ho; have F8 := Aside0.mk hb; clear ho hb) | ((with_reducible refine gate_builtin (b := .append) (xs := #[.tmp 9, .tmp 10]) rfl ?_); at_builtin; refine Kd.R_append_rows (Kd.int .u8) (w0 := w1) w1.heap.size rfl (.tmp 9) (.tmp 10) 23 5 (.int .u8 0) 1 rfl Try.underlying23 info5 rfl (by decide) (by omega) v8 [] bs _ _ _ (fun _ => True) (fun _ => False) rfl rfl ?aO ?aR (fun _ _ h => h) (fun _ h => h.elim) ?aF ?aB ?aS ?aL ?_; (case aR => exact Kd.C_below HB.out (below_step B1.out F8.out)); (case aB => exact F8.out); (case aF => exact (fun _ _ => trivial)); (case aO => exact R8.out); (case aS => exact below_size F8.out); (case aL => have := HL.out; simp only [List.length_nil]; omega); intro v10 w10 ho hb hg hat; rw [List.nil_append] at ho; obtain ⟨A10, c10, rfl⟩ := Kd.R_slice ho; have R10 := Aside0.mk ho; have F10 := Aside0.mk hb; clear ho hb hg hat))
  clear R8 F8 R10 F10
  cases R with
  | none =>
    go_wp2_with (first | ((with_reducible refine gate_dst (N := 17) rfl ?_); refine Kd.R_lit (Kd.int .i64) _ 3 ?hg (N := 17) ?hd (xs := ([] : List Int)) (inner := []) (ok := fun _ => True) (okp := fun _ => True) ?hr ?hp (fun _ hk => hk) trivial (Below.refl _ _) (Nat.le_refl _) (by simp) ?_; (case hd => rfl); (case hg => rfl); (case hr => first | (go_simp; done) | (go_simp; rfl)); (case hp => exact (Reps.none _ _)); intro v17 w17 ho hb hg_ hnew_; clear hg_ hnew_; have R17 := Aside0.mk ho; have F17 := Aside0.mk hb; clear ho hb) | ((with_reducible refine gate_builtin (b := .append) (xs := #[.tmp 17, .tmp 18]) rfl ?_); at_builtin; refine Kd.R_append_rows (Kd.int .i64) (w0 := w11) w11.heap.size rfl (.tmp 17) (.tmp 18) 24 3 (.int .i64 0) 8 rfl Try.underlying24 info3 rfl (by decide) (by omega) v17 [] ps _ _ _ (fun _ => True) (fun _ => False) rfl rfl ?aO ?aR (fun _ _ h => h) (fun _ h => h.elim) ?aF ?aB ?aS ?aL ?_; (case aR => exact Kd.C_below HP.out (below_step (below_step B1.out F11.out) F17.out)); (case aB => exact F17.out); (case aF => exact (fun _ _ => trivial)); (case aO => exact R17.out); (case aS => exact below_size F17.out); (case aL => have := HL.out; simp only [List.length_nil]; omega); intro v19 w19 ho hb hg hat; rw [List.nil_append] at ho; obtain ⟨A19, c19, rfl⟩ := Kd.R_slice ho; have R19 := Aside0.mk ho; have F19 := Aside0.mk hb; clear ho hb hg hat) | (go_at_call 25; refine (HD.out w19 gv A19 c19 (V11.out.below F19.out) (Kd.R_reads' R19.out).2.2).mono ?_; rintro q w20 h20; obtain ⟨k1, rfl⟩ := h20; have B20 := Aside0.mk (below_step (below_step (below_step B1.out F11.out) F19.out) k1); have K20 := Aside0.mk (((below_step (below_step F11.out F19.out) k1).block _ (blk_lt KR.out)).trans KR.out); have S20 := Aside0.mk (Nat.le_trans (below_size F11.out) (below_size F19.out)); clear k1) | (refine wpList_store_row rfl 29 (.tmp 6) (.tmp 22) rfl r #[.slice none 0 0, .slice none 0 0] rfl rfl 29 zeroG K20.out (by kernel_rfl) rfl (by simp [Value.oneCell']) ?_))
    refine bodyPost_ret (res12 _ r (.slice none 0 0) (.slice none 0 0) E _ rfl rfl (setRow_heap _ _ _ _ _ _ K20.out)) rfl ?_
    exact ⟨below_setRow1 B20.out RR.out.1 _, rfl⟩
  | some oc =>
    obtain ⟨o, code⟩ := oc
    go_wp2_with (first | ((with_reducible refine gate_dst (N := 17) rfl ?_); refine Kd.R_lit (Kd.int .i64) _ 3 ?hg (N := 17) ?hd (xs := ([] : List Int)) (inner := []) (ok := fun _ => True) (okp := fun _ => True) ?hr ?hp (fun _ hk => hk) trivial (Below.refl _ _) (Nat.le_refl _) (by simp) ?_; (case hd => rfl); (case hg => rfl); (case hr => first | (go_simp; done) | (go_simp; rfl)); (case hp => exact (Reps.none _ _)); intro v17 w17 ho hb hg_ hnew_; clear hg_ hnew_; have R17 := Aside0.mk ho; have F17 := Aside0.mk hb; clear ho hb) | ((with_reducible refine gate_builtin (b := .append) (xs := #[.tmp 17, .tmp 18]) rfl ?_); at_builtin; refine Kd.R_append_rows (Kd.int .i64) (w0 := w11) w11.heap.size rfl (.tmp 17) (.tmp 18) 24 3 (.int .i64 0) 8 rfl Try.underlying24 info3 rfl (by decide) (by omega) v17 [] ps _ _ _ (fun _ => True) (fun _ => False) rfl rfl ?aO ?aR (fun _ _ h => h) (fun _ h => h.elim) ?aF ?aB ?aS ?aL ?_; (case aR => exact Kd.C_below HP.out (below_step (below_step B1.out F11.out) F17.out)); (case aB => exact F17.out); (case aF => exact (fun _ _ => trivial)); (case aO => exact R17.out); (case aS => exact below_size F17.out); (case aL => have := HL.out; simp only [List.length_nil]; omega); intro v19 w19 ho hb hg hat; rw [List.nil_append] at ho; obtain ⟨A19, c19, rfl⟩ := Kd.R_slice ho; have R19 := Aside0.mk ho; have F19 := Aside0.mk hb; clear ho hb hg hat) | (go_at_call 25; refine (HD.out w19 gv A19 c19 (V11.out.below F19.out) (Kd.R_reads' R19.out).2.2).mono ?_; rintro q w20 h20; obtain ⟨k1, AO, cO, AC, cC, rfl, k2⟩ := h20; have P20 := Aside0.mk k2; clear k2; have B20 := Aside0.mk (below_step (below_step (below_step B1.out F11.out) F19.out) k1); have K20 := Aside0.mk (((below_step (below_step F11.out F19.out) k1).block _ (blk_lt KR.out)).trans KR.out); have S20 := Aside0.mk (Nat.le_trans (below_size F11.out) (below_size F19.out)); clear k1) | (refine wpList_store_row rfl 29 (.tmp 6) (.tmp 22) rfl r #[.slice AO o.length cO, .slice AC code.length cC] rfl rfl 29 zeroG K20.out (by kernel_rfl) rfl (by simp [Value.oneCell']) ?_))
    refine bodyPost_ret (res12 _ r (.slice AO o.length cO) (.slice AC code.length cC) 0 _ rfl rfl (setRow_heap _ _ _ _ _ _ K20.out)) rfl ?_
    exact ⟨below_setRow1 B20.out RR.out.1 _, AO, cO, AC, cC, rfl, (P20.out.setrow (by have := RR.out.2; have := S20.out; omega)).lower (by have := below_size B1.out; have := S20.out; omega)⟩
end Go.Proofs.Ytchmhcfdamdjdaa.G
