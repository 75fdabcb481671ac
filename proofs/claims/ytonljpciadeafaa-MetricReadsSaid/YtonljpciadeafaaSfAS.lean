import Derived.Test.YtonljpciadeafaaSx0
import Derived.Test.YtonljpciadeafaaSxPA
import Derived.Test.YtonljpciadeafaaSfOS
import Derived.Test.YtonljpciadeafaaSfBS
set_option linter.unusedVariables false
set_option linter.unusedSimpArgs false
namespace Go.Proofs.Ytonljpciadeafaa.S
open Go Go.RowKit Go.Proofs.YtonljpciadeafaaW.PrintWords Go.Proofs.YtonljpciadeafaaW.PrintLast Go.Proofs.YtonljpciadeafaaW.PrintMore
theorem QI (w : World) (o : Obj) : (w.alloc o).heap.size = w.heap.size + 1 := by simp
set_option maxRecDepth 100000 in
theorem JM (g : Nat) (kd : Int) (rows : List S71) (bs : List Int) (w : World) (h : Fn w g kd rows bs) :
    Calls Try.prog 26 #[.pointer (some ⟨g, 0, none⟩)] w fun e w' => e = .returned (.int .i64 kd) ∧ Below w.heap.size w w' := by
  obtain ⟨gv, A, c, hb, _⟩ := h
  have c1 : w.cell? ⟨g, 1, none⟩ = some (.int .i64 kd) := (qb hb 1).trans rfl
  have HB := qa.mk (Below.refl w.heap.size w)
  clear hb
  go_enter Try.func26, Try.ntmps26
  go_wp2
  go_ret
  exact ⟨rfl, HB.out⟩
set_option maxRecDepth 100000 in
set_option maxHeartbeats 1000000 in
theorem clone2_calls (bs : List S71) (A : Option Addr) (c : Nat) (w : World) (hr : Kd.C k71 w A bs.length bs) (hc : bs.length ≤ c) (hm : bs.length ≤ 4398046511104) :
    Calls Try.prog 52 #[.slice A bs.length c] w fun e w' => ∃ v, e = .returned v ∧ Kd.R k71 71 w' w.heap.size (fun _ => True) v bs ∧ Below w.heap.size w w' := by
  have HR := qa.mk hr
  have HC := qa.mk hc
  have HM := qa.mk hm
  have HB := qa.mk (Below.refl w.heap.size w)
  clear hr hc hm
  cases A with
  | none =>
    have E := qa.mk (C_none HR.out)
    have hq := Lib.run_eql_slice_nil (P := Try.prog) w 26 71 none bs.length c 0 0 Try.underlying26
    go_enter Try.func52, Try.ntmps52
    go_wp2
    go_ret
    exact ⟨_, rfl, by rw [E.out]; exact Kd.jE _ _ _ _ _, HB.out⟩
  | some ad =>
    have hq := Lib.run_eql_slice_nil (P := Try.prog) w 26 71 (some ad) bs.length c 0 0 Try.underlying26
    go_enter Try.func52, Try.ntmps52
    go_wp2_with (first | ((with_reducible refine qX (N := 5) rfl ?_); refine Kd.jQ k71 _ 71 ?hg (N := 5) ?hd (xs := ([] : List S71)) (inner := []) (ok := fun _ => True) (okp := fun _ => True) ?hr ?hp (fun _ hk => hk) trivial (Below.refl _ _) (Nat.le_refl _) (by simp) ?_; (case hd => rfl); (case hg => rfl); (case hr => first | (go_simp; done) | (go_simp; rfl)); (case hp => exact (qY.none _ _)); intro v5 w5 ho5 hb5 hg_ hnew_; clear hg_ hnew_; have R5 := qa.mk ho5; have B5 := qa.mk hb5; have C5 := qa.mk (Kd.qO HR.out hb5); clear ho5 hb5) | ((with_reducible refine qG (b := .append) (xs := #[.tmp 5, .tmp 6]) rfl ?_); at_builtin; refine Kd.zh k71 (Rr := k71.K w5) (w0 := w) w.heap.size rfl (.tmp 5) (.tmp 6) 26 71 (.agg #[(.string ⟨#[]⟩), (.int .i64 0), (.int .i64 0)]) 32 rfl Try.underlying26 Jl rfl (by decide) (by omega) v5 [] bs _ _ _ (fun _ => True) (fun _ => False) rfl rfl ?aO ?aR ?aK (fun _ h => h.elim) ?aF ?aB ?aS ?aL ?_; (case aR => exact C5.out); (case aK => intro x cs hx; obtain rfl := k71_open hx; exact ZI _ _ _ x); (case aB => exact B5.out); (case aF => exact (fun _ _ => trivial)); (case aO => exact R5.out); (case aS => exact qi B5.out); (case aL => have := HM.out; simp only [List.length_nil]; omega); intro v7 w7 ho hb hg hat; have R7 := qa.mk ho; have B7 := qa.mk hb; clear ho hb hg hat))
    go_ret
    exact ⟨_, rfl, R7.out, B7.out⟩
set_option maxRecDepth 100000 in
theorem tables_calls (g : Nat) (kd : Int) (rows : List S71) (bs : List Int) (w : World) (h : Fn w g kd rows bs) (hm : rows.length ≤ 4398046511104) :
    Calls Try.prog 27 #[.pointer (some ⟨g, 0, none⟩)] w fun e w' => ∃ v, e = .returned v ∧ Kd.R k71 71 w' w.heap.size (fun _ => True) v rows ∧ Below w.heap.size w w' := by
  obtain ⟨gv, A, c, hb, _, hc, hr⟩ := h
  have c2 : w.cell? ⟨g, 2, none⟩ = some (.slice A rows.length c) := (qb hb 2).trans rfl
  have HP := qa.mk (clone2_calls rows A c w hr hc hm)
  clear hb hr hc
  go_enter Try.func27, Try.ntmps27
  go_wp2_with (go_at_call 52; refine HP.out.mono ?_; rintro q w1 ⟨v, rfl, h2, h3⟩; have R1 := qa.mk h2; have B1 := qa.mk h3; clear h2 h3)
  go_ret
  exact ⟨_, rfl, R1.out, B1.out⟩
def L32 : List Int := [0, 1, 0, 0, 0, 1, 0, 0, 0, 0, 0, 0, 97, 98, 99, 100, 9, 0, 0, 0, 0, 0, 0, 28, 0, 0, 0, 1, 9, 0, 0, 0]
theorem open32 : (je L32 0).2 = 0 ∧ (je L32 0).1.1 = 1 ∧ (je L32 0).1.2.length = 1 := by decide +kernel
theorem okL32 : okB L32 := by unfold okB L32; decide
theorem C_five {k : IntKind} {w : World} {p T : Nat} {a b c d e : Int} (h : w.heap[p]? = some (.cells #[.int k a, .int k b, .int k c, .int k d, .int k e] T (0, 0))) : Kd.C (Kd.int k) w (some ⟨p, 0, none⟩) 5 [a, b, c, d, e] := by
  refine Kd.Qn (d := 0) (h1 := fun _ => rfl) ⟨rfl, by decide, fun _ => ⟨_, rfl, fun j hj => ?_⟩⟩
  match j, hj with
  | 0, _ => exact (qb h 0).trans rfl
  | 1, _ => exact (qb h 1).trans rfl
  | 2, _ => exact (qb h 2).trans rfl
  | 3, _ => exact (qb h 3).trans rfl
  | 4, _ => exact (qb h 4).trans rfl
theorem sum_five (ks p : Nat) (w : World) (h : Kd.C (Kd.int .u8) w (some ⟨p, 0, none⟩) 5 [1, 2, 3, 4, 5]) (hs : zB.f ks [1, 2, 3, 4, 5] = some 100795140) : Calls Try.prog 11 #[.slice (some ⟨p, 0, none⟩) 5 5] w fun e w' => e = .returned (.int .i64 100795140) ∧ qD w w' :=
  zB.calls ks (some ⟨p, 0, none⟩) 5 [1, 2, 3, 4, 5] 100795140 w h (by decide) hs
set_option maxRecDepth 100000 in
set_option maxHeartbeats 4000000 in
theorem alive_calls (w : World) : Calls Try.prog 10 #[] w fun e w' => e = .returned (.bool true) ∧ Below w.heap.size w w' := by
  have HP := qa.mk (show ((w.alloc (Obj.cells #[.int .u8 9] 5)).alloc (Obj.cells #[.string ⟨#[97, 98, 99, 100]⟩, .slice (some ⟨w.heap.size, 0, none⟩) 1 1] 50)).heap[w.heap.size]? = some (.cells #[.int .u8 9] 5 (0, 0)) from zn (zk _ _) _)
  have HQ := qa.mk (show ((w.alloc (Obj.cells #[.int .u8 9] 5)).alloc (Obj.cells #[.string ⟨#[97, 98, 99, 100]⟩, .slice (some ⟨w.heap.size, 0, none⟩) 1 1] 50)).heap[w.heap.size + 1]? = some (.cells #[.string ⟨#[97, 98, 99, 100]⟩, .slice (some ⟨w.heap.size, 0, none⟩) 1 1] 50 (0, 0)) from by rw [← QI w (Obj.cells #[.int .u8 9] 5)]; exact zk _ _)
  have LW := qa.mk (qF (qF (Below.refl w.heap.size w) (Obj.cells #[.int .u8 9] 5)) (Obj.cells #[.string ⟨#[97, 98, 99, 100]⟩, .slice (some ⟨w.heap.size, 0, none⟩) 1 1] 50))
  obtain ⟨ks, hs⟩ := (sum_ev [1, 2, 3, 4, 5] (fun x hx => by simp at hx; omega) (by decide)).rounds
  have hs : zB.f ks [1, 2, 3, 4, 5] = some 100795140 := hs
  have SX := qa.mk hs
  clear hs
  go_enter Try.func10, Try.ntmps10
  go_upto_region 2 with (go_at_call 25; refine (build_one w.heap.size (w.heap.size + 1) _ HQ.out HP.out).mono ?_; rintro q w1 ⟨v, rfl, h1, h2⟩; obtain ⟨A, c, rfl⟩ : ∃ A c, v = .slice A 32 c := Kd.qN h1; have R1 := qa.mk (Kd.qJ h1); have B1 := qa.mk (qc LW.out h2); clear h1 h2)
  have SP := qa.mk (fun (p : Nat) (w' : World) (h : w'.heap[p]? = some (.cells #[.int .u8 1, .int .u8 2, .int .u8 3, .int .u8 4, .int .u8 5] 5 (0, 0))) => sum_five ks p w' (C_five h) SX.out)
  have HO := qa.mk (ZY L32 A c 0)
  have O32 := qa.mk open32
  have n5 := qa.mk (zk w1 (Obj.cells #[.int .u8 1, .int .u8 2, .int .u8 3, .int .u8 4, .int .u8 5] 5))
  go_upto_region 4 with (go_at_call 11; refine (SP.out w1.heap.size _ n5.out).mono ?_; rintro q w2 ⟨rfl, h1⟩; have W2 := qa.mk (qc (qF (Below.refl w1.heap.size w1) _) h1.below); clear h1)
  have C2 := qa.mk (Kd.qO R1.out.2.2 W2.out)
  go_upto_region 5 with (go_at_call 15; refine (HO.out w2 C2.out R1.out.2.1 okL32).mono ?_; rintro q w3 ⟨h1, h2⟩; obtain ⟨g, rfl, h3⟩ : ∃ g, q = .returned (.tuple #[.pointer (some ⟨g, 0, none⟩), .int .i64 0]) ∧ Fn w3 g (je L32 0).1.1 (je L32 0).1.2 L32 := (by rcases h2 with ⟨h2, _⟩ | ⟨_, h2⟩; exact absurd O32.out.1 h2; exact h2); have F3 := qa.mk h3; have B3 := qa.mk (qc B1.out (qc W2.out h1)); clear h1 h2 h3)
  obtain ⟨rows, hrw⟩ : ∃ r, r = (je L32 0).1.2 := ⟨_, rfl⟩
  have hl : rows.length = 1 := by rw [hrw]; exact O32.out.2.2
  rw [O32.out.2.1, ← hrw] at F3
  clear hrw
  go_wp2_with (first | (go_at_call 26; refine (JM g 1 rows L32 w3 F3.out).mono ?_; rintro q w4 ⟨rfl, h1⟩; have F4 := qa.mk (F3.out.below h1); have B4 := qa.mk (qc B3.out h1); clear h1) | (go_at_call 27; refine (tables_calls g 1 rows L32 w4 F4.out (by omega)).mono ?_; rintro q w5 ⟨v, rfl, h1, h2⟩; obtain ⟨A5, c5, rfl⟩ := Kd.qN h1; have B5 := qa.mk (qc B4.out h2); clear h1 h2))
  go_ret
  exact ⟨by simp [hl], B5.out⟩
end Go.Proofs.Ytonljpciadeafaa.S
