import Derived.Test.YtonljpciadeafaaLongS
import Derived.Test.YtonljpciadeafaaSx0
import Derived.Test.YtonljpciadeafaaMtPBS
import Derived.Test.YtonljpciadeafaaSfFS
import Derived.Laws.CopyOwn
import Derived.Test.YtonljpciadeafaaSxPA
import Derived.Test.YtonljpciadeafaaSx40
set_option linter.unusedVariables false
set_option linter.unusedSimpArgs false
namespace Go.Proofs.Ytonljpciadeafaa.S
open Go Go.RowKit Go.Proofs.YtonljpciadeafaaW.PrintWords Go.Proofs.YtonljpciadeafaaW.PrintLast Go.Proofs.YtonljpciadeafaaW.PrintMore
theorem Zp : (Try.prog.info? 50).map (fun i => (i.zero, i.size, i.bytes)) = some (some (.agg #[(.string ⟨#[]⟩), (.slice none 0 0)]), 2, 40) := by kernel_rfl
def lessP (p q : S50) : Bool := Op.bytesLess p.f0.toList q.f0.toList
def jR (p : S50) (r : List S50 × Bool) (q : S50) : List S50 × Bool := if r.2 = false ∧ lessP p q = true then (r.1 ++ [p] ++ [q], true) else (r.1 ++ [q], r.2)
def insP (p : S50) (out : List S50) : List S50 := if (out.foldl (jR p) ([], false)).2 = true then (out.foldl (jR p) ([], false)).1 else (out.foldl (jR p) ([], false)).1 ++ [p]
def Qm (l : List S50) : List S50 := l.foldl (fun out p => insP p out) []
theorem ZM (p : S50) : ∀ (l : List S50) (r : List S50 × Bool), (l.foldl (jR p) r).1.length ≤ r.1.length + l.length + (if r.2 = true then 0 else 1)  ∧ (r.2 = false → (l.foldl (jR p) r).2 = false → (l.foldl (jR p) r).1.length ≤ r.1.length + l.length)
  | [], r => ⟨by simp, fun _ _ => by simp⟩
  | q :: l, r => by
    have ih := ZM p l (jR p r q)
    simp only [List.foldl_cons, List.length_cons]
    by_cases h : r.2 = false ∧ lessP p q = true
    · have e : jR p r q = (r.1 ++ [p] ++ [q], true) := by unfold jR; rw [if_pos h]
      rw [e] at ih ⊢
      simp only [List.length_append, List.length_singleton, if_true, h.1, Bool.false_eq_true, if_false] at ih ⊢
      exact ⟨by omega, fun _ hf => by
        have : ∀ (l : List S50) (r : List S50 × Bool), r.2 = true → (l.foldl (jR p) r).2 = true := by
          intro l
          induction l with
          | nil => intro r h; exact h
          | cons a l ih => intro r h; exact ih _ (by unfold jR; split; exact rfl; exact h)
        rw [this l (r.1 ++ [p] ++ [q], true) rfl] at hf; cases hf⟩
    · have e : jR p r q = (r.1 ++ [q], r.2) := by unfold jR; rw [if_neg h]
      rw [e] at ih ⊢
      simp only [List.length_append, List.length_singleton] at ih ⊢
      refine ⟨by omega, fun h1 h2 => by have := ih.2 h1 h2; omega⟩
theorem ins_len (p : S50) (out : List S50) : (insP p out).length ≤ out.length + 1 := by
  unfold insP
  have h := ZM p out ([], false)
  simp only [List.length_nil, Bool.false_eq_true, if_false] at h
  split
  · omega
  · rename_i q
    have := h.2 trivial (by simpa using q)
    rw [List.length_append, List.length_singleton]; omega
theorem sort_len (l : List S50) : (Qm l).length ≤ l.length := by
  unfold Qm
  have : ∀ (l : List S50) (o : List S50), (l.foldl (fun out p => insP p out) o).length ≤ o.length + l.length := by
    intro l
    induction l with
    | nil => intro o; simp
    | cons p l ih => intro o; have := ih (insP p o); have := ins_len p o; simp only [List.foldl_cons, List.length_cons]; omega
  have := this l []
  simpa using this
theorem Zw {α β : Type} (f : β → α → β) (b : β) (l : List α) {i : Nat} (h : i < l.length) : (l.take (i + 1)).foldl f b = f ((l.take i).foldl f b) l[i] := by
  rw [List.take_add_one, List.getElem?_eq_getElem h, List.foldl_append]; rfl
set_option maxRecDepth 100000 in
set_option maxHeartbeats 8000000 in
theorem sorted_calls (l : List S50) (A : Option Addr) (c : Nat) (w : World) (hr : Kd.C k50 w A l.length l) (hc : l.length ≤ c) (hm : l.length ≤ 1000000) :
    Calls Try.prog 20 #[.slice A l.length c] w fun e w' => ∃ v, e = .returned v ∧ Kd.R (Kd.fixed k50 w) 50 w' w.heap.size (fun _ => True) v (Qm l) ∧ Below w.heap.size w w' := by
  have HR := qa.mk hr
  have HC := qa.mk hc
  have HB0 := qa.mk (Below.refl w.heap.size w)
  clear hr hc
  go_enter Try.func20, Try.ntmps20
  go_upto_region 2 with ((with_reducible refine qX (N := 10) rfl ?_); refine Kd.jQ (Kd.fixed k50 w) _ 50 ?hg (N := 10) ?hd (xs := ([] : List S50)) (inner := []) (ok := fun _ => True) (okp := fun _ => True) ?hr ?hp (fun _ hk => hk) trivial (Below.refl _ _) (Nat.le_refl _) (by simp) ?_; (case hd => rfl); (case hg => rfl); (case hr => first | (go_simp; done) | (go_simp; rfl)); (case hp => exact (qY.none _ _)); intro v5 w5 ho hb hg_ hnew_; clear hg_ hnew_; obtain ⟨A5, c5, rfl⟩ : ∃ A c, v5 = .slice A 0 c := Kd.qN ho; have R5 := qa.mk ho; have B5 := qa.mk hb; clear ho hb)
  go_wp2
  go_loopw [3, 13] (fun v3 v13 wr => ∃ (i : Nat) (A3 : Option Addr) (c3 : Nat), v3 = .slice A3 (Qm (l.take i)).length c3 ∧ v13 = .int .i64 i ∧ i ≤ l.length ∧ qa (Kd.R (Kd.fixed k50 w) 50 wr w.heap.size (fun _ => True) (.slice A3 (Qm (l.take i)).length c3) (Qm (l.take i))) ∧ qa (Below w.heap.size w wr)) (fun _ v13 _ => l.length - (intOf v13).toNat)
  case atStart => exact ⟨0, A5, c5, rfl, rfl, Nat.zero_le _, R5, B5⟩
  case round =>
    obtain ⟨i, A3, c3, rfl, rfl, hi, HO, HB⟩ := hrel
    by_cases hlt : i < l.length
    · have ilt := eq_true (show (i : Int) < (l.length : Int) by omega)
      have ilt2 := eq_true hlt
      have ip := eq_true (show (0 : Int) ≤ (i : Int) by omega)
      obtain ⟨ad, Ap, cp, ea, x0, x1, lp, gp⟩ := QB HR.out (i : Int) (by omega) (by omega)
      subst ea
      rw [Int.toNat_natCast] at x0 x1
      replace x0 := zJ HB.out x0
      replace x1 := zJ HB.out x1
      have er : ql l (i : Int) = l[i] := by unfold ql; rw [Int.toNat_natCast, List.getD_eq_getElem?_getD, List.getElem?_eq_getElem hlt]; rfl
      rw [er] at x0 x1 lp gp
      have HS := qa.mk (show Qm (l.take (i + 1)) = insP l[i] (Qm (l.take i)) from Zw _ _ l hlt)
      have ho1 := sort_len (l.take i)
      rw [List.length_take] at ho1
      generalize l[i] = P at *
      obtain ⟨O, hO⟩ : ∃ O, O = Qm (l.take i) := ⟨_, rfl⟩
      rw [← hO] at HO HS ho1 ⊢
      have GP := qa.mk (Jd w P lp gp)
      have HSl := sort_len (l.take (i + 1))
      clear hO er lp gp
      go_upto_region 5 with fail
      obtain ⟨w6, t, hW, et, bT, lT⟩ : ∃ W r, W = wr.alloc (Obj.cells #[.string P.f0, .slice Ap P.f1.length cp] 50) ∧ wr.heap.size = r ∧ W.heap[r]? = some (Obj.cells #[.string P.f0, .slice Ap P.f1.length cp] 50 (0, 0)) ∧ Below wr.heap.size wr W :=
        ⟨_, _, rfl, rfl, zk _ _, qF (Below.refl _ _) _⟩
      rw [← hW, et]
      have B6 := qa.mk (qc HB.out lT)
      have T6 := qa.mk bT
      have O6 := qa.mk (Kd.qM HO.out lT)
      clear hW et bT lT x0 x1
      obtain ⟨N, hN⟩ : ∃ N, N = w6.heap.size := ⟨_, rfl⟩
      have tN : t < N := by rw [hN]; exact qz T6.out
      have HNw := qa.mk (show w.heap.size ≤ N by rw [hN]; exact qi B6.out)
      have O7 := qa.mk (Kd.qH (ok' := fun k => k < N) (Kd.jq O6.out) (fun k hk => by rw [hN]; exact hk.2.2.1))
      go_upto_region 6 with ((with_reducible refine qX (N := 17) rfl ?_); refine Kd.jQ (Kd.fixed k50 w) _ 50 ?hg (N := 17) ?hd (xs := ([] : List S50)) (inner := []) (ok := fun k => N ≤ k) (okp := fun _ => False) ?hr ?hp (fun _ hk => hk.elim) (by rw [hN]; exact Nat.le_refl _) (Below.refl _ _) (Nat.le_refl _) (by simp) ?_; (case hd => rfl); (case hg => rfl); (case hr => first | (go_simp; done) | (go_simp; rfl)); (case hp => exact (qY.none _ _)); intro v7 w7 ho hb hg_ hnew_; clear hg_ hnew_; obtain ⟨A7, c7, rfl⟩ : ∃ A c, v7 = .slice A 0 c := Kd.qN ho; have R7 := qa.mk (Kd.zI ho (qi B6.out)); have B7 := qa.mk (qc B6.out hb); have T7 := qa.mk ((hb.block _ (qz T6.out)).trans T6.out); have O8 := qa.mk (Kd.qM O7.out hb); have N7 := qa.mk (show N ≤ w7.heap.size from by rw [hN]; exact qi hb); clear ho hb)
      clear hN
      go_wp2
      go_loopw [6, 7, 20] (fun v6 v7 v20 wq => ∃ (j : Nat) (A6 : Option Addr) (c6 : Nat), v6 = .slice A6 ((O.take j).foldl (jR P) ([], false)).1.length c6 ∧ v7 = .bool ((O.take j).foldl (jR P) ([], false)).2 ∧ v20 = .int .i64 j ∧ j ≤ O.length ∧ qa (Kd.R (Kd.fixed k50 w) 50 wq w.heap.size (fun k => N ≤ k) (.slice A6 ((O.take j).foldl (jR P) ([], false)).1.length c6) ((O.take j).foldl (jR P) ([], false)).1) ∧ qa (Kd.R (Kd.fixed k50 w) 50 wq w.heap.size (fun k => k < N) (.slice A3 O.length c3) O) ∧ qa (wq.heap[t]? = some (Obj.cells #[.string P.f0, .slice Ap P.f1.length cp] 50 (0, 0))) ∧ qa (N ≤ wq.heap.size) ∧ qa (Below w.heap.size w wq)) (fun _ _ v20 _ => O.length - (intOf v20).toNat)
      case atStart => exact ⟨0, A7, c7, rfl, rfl, rfl, Nat.zero_le _, R7, O8, T7, N7, B7⟩
      case round =>
        obtain ⟨j, A6, c6, rfl, rfl, rfl, hj, RQ, OQ, TP, HN, BQ⟩ := hrel
        by_cases jlt : j < O.length
        · have jl := eq_true (show (j : Int) < (O.length : Int) by omega)
          have jl2 := eq_true jlt
          have jp := eq_true (show (0 : Int) ≤ (j : Int) by omega)
          obtain ⟨ad2, cs2, ea2, _, hK2, hc2⟩ := Kd.C_get (Kd.qJ OQ.out).2.2 z50 (j : Int) (by omega) (by omega)
          subst ea2
          have erq : O.getD (j : Int).toNat z50 = O[j] := by rw [Int.toNat_natCast, List.getD_eq_getElem?_getD, List.getElem?_eq_getElem jlt]; rfl
          rw [erq] at hK2
          obtain ⟨Aq, cq, rfl, lq, gq⟩ := ZV hK2
          rw [Int.toNat_natCast] at hc2
          have hc3 : ∀ (m : Nat) (u : Value), ([.string O[j].f0, .slice Aq O[j].f1.length cq] : List Value)[m]? = some u → wr.cell? (ad2.add (j * 2 + m)) = some u := hc2
          have y0 : wr.cell? (ad2.add (j * 2)) = some (.string O[j].f0) := hc3 0 _ rfl
          have y1 : wr.cell? ⟨(ad2.add (j * 2)).block, (ad2.add (j * 2)).off + 1, none⟩ = some (.slice Aq O[j].f1.length cq) := by rw [← ZB _ _ 1 (by omega)]; exact hc3 1 _ rfl
          have hF := Zw (jR P) ([], false) O jlt
          have hlen := (ZM P (O.take j) ([], false)).1
          rw [List.length_take] at hlen
          have GQ := qa.mk (Jd w O[j] lq gq)
          have HF := qa.mk hF
          generalize O[j] = q at *
          have p0 : wr.cell? ⟨t, 0, none⟩ = some (.string P.f0) := (qb TP.out 0).trans rfl
          have p1 : wr.cell? ⟨t, 1, none⟩ = some (.slice Ap P.f1.length cp) := (qb TP.out 1).trans rfl
          obtain ⟨X, pl, hX⟩ : ∃ X pl, (O.take j).foldl (jR P) ([], false) = (X, pl) := ⟨_, _, rfl⟩
          rw [hX] at RQ HF hlen ⊢
          dsimp only at RQ HF hlen ⊢
          have xl : X.length ≤ 1000001 := by simp at hlen; omega
          clear erq hK2 lq gq hF hlen hc2 hc3 hX
          go_upto_region 10 with fail
          obtain ⟨w8, tq, hW, et, bQ, lQ⟩ : ∃ W r, W = wr.alloc (Obj.cells #[.string q.f0, .slice Aq q.f1.length cq] 50) ∧ wr.heap.size = r ∧ W.heap[r]? = some (Obj.cells #[.string q.f0, .slice Aq q.f1.length cq] 50 (0, 0)) ∧ Below wr.heap.size wr W :=
            ⟨_, _, rfl, rfl, zk _ _, qF (Below.refl _ _) _⟩
          rw [← hW, et]
          have B8 := qa.mk (qc BQ.out lQ)
          have R8 := qa.mk (Kd.qM RQ.out lQ)
          have O8 := qa.mk (Kd.qM OQ.out lQ)
          have T8 := qa.mk ((lQ.block _ (qz TP.out)).trans TP.out)
          have Q8 := qa.mk bQ
          have N8 := qa.mk (Nat.le_trans HN.out (qi lQ))
          have TQ := qa.mk (fun k (hk : (Value.slice A6 X.length c6).ownBlock = some k) => (show k ≠ tq from fun e => by have := Kd.za RQ.out k hk; omega))
          have p0 : w8.cell? ⟨t, 0, none⟩ = some (.string P.f0) := (qb T8.out 0).trans rfl
          have p1 : w8.cell? ⟨t, 1, none⟩ = some (.slice Ap P.f1.length cp) := (qb T8.out 1).trans rfl
          have q0 : w8.cell? ⟨tq, 0, none⟩ = some (.string q.f0) := (qb bQ 0).trans rfl
          have q1 : w8.cell? ⟨tq, 1, none⟩ = some (.slice Aq q.f1.length cq) := (qb bQ 1).trans rfl
          clear hW et bQ lQ y0 y1
          by_cases hb : pl = false ∧ lessP P q = true
          · obtain ⟨rfl, hless⟩ := hb
            have HF2 := qa.mk (show (O.take (j + 1)).foldl (jR P) ([], false) = (X ++ [P] ++ [q], true) by rw [HF.out]; unfold jR; rw [if_pos ⟨rfl, hless⟩])
            have hbl : Op.bytesLess P.f0.toList q.f0.toList = true := hless
            clear hless HF
            go_upto_region 13 with ((with_reducible refine qG (b := .append) (xs := #[.tmp 33, .tmp 35]) rfl ?_); at_builtin; refine Kd.zM (Kd.fixed k50 w) (w0 := w) w.heap.size rfl (.tmp 33) (.tmp 35) 46 50 (.agg #[(.string ⟨#[]⟩), (.slice none 0 0)]) 40 rfl Try.underlying46 Zp rfl (show 0 < 2 by decide) (by omega) (.slice A6 X.length c6) X P [.string P.f0, .slice Ap P.f1.length cp] (fun k => N ≤ k) (fun _ => False) rfl (by first | (go_simp; done) | (go_simp; rfl)) ?aP (fun _ hk => hk.elim) ?aF ?aO ?aB ?aS ?aL ?_; (case aP => exact GP.out); (case aF => exact fun _ h => Nat.le_trans N8.out h); (case aO => exact R8.out); (case aB => exact B8.out); (case aS => exact qi B8.out); (case aL => (try simp only [List.length_append, List.length_singleton]); omega); intro v9 w9 ho hb hg hat; obtain ⟨A9, c9, rfl⟩ := Kd.qN ho; have R9 := qa.mk ho; have B9 := qa.mk hb; have O9 := qa.mk (Kd.jo O8.out hg (fun k hk e => by have := R8.out.1 k e.symm; omega)); have T9 := qa.mk (zg T8.out hg (fun e => by have := R8.out.1 t e.symm; omega)); have N9 := qa.mk (Nat.le_trans N8.out hg.size); have Q9 := qa.mk (zg Q8.out hg (fun e => by exact TQ.out tq e.symm rfl)); clear ho hb hg hat)
            have q0 : w9.cell? ⟨tq, 0, none⟩ = some (.string q.f0) := (qb Q9.out 0).trans rfl
            have q1 : w9.cell? ⟨tq, 1, none⟩ = some (.slice Aq q.f1.length cq) := (qb Q9.out 1).trans rfl
            have R9b : qa (Kd.R (Kd.fixed k50 w) 50 w9 w.heap.size (fun k => N ≤ k) (.slice A9 (X.length + 1) c9) (X ++ [P])) := ⟨by have h := R9.out; rwa [show (X ++ [P]).length = X.length + 1 from by simp] at h⟩
            go_wp2_with ((with_reducible refine qG (b := .append) (xs := #[.tmp 37, .tmp 39]) rfl ?_); at_builtin; refine Kd.zM (Kd.fixed k50 w) (w0 := w) w.heap.size rfl (.tmp 37) (.tmp 39) 46 50 (.agg #[(.string ⟨#[]⟩), (.slice none 0 0)]) 40 rfl Try.underlying46 Zp rfl (show 0 < 2 by decide) (by omega) (.slice A9 (X.length + 1) c9) (X ++ [P]) q [.string q.f0, .slice Aq q.f1.length cq] (fun k => N ≤ k) (fun _ => False) rfl (by first | (go_simp; done) | (go_simp; rfl)) ?aP (fun _ hk => hk.elim) ?aF ?aO ?aB ?aS ?aL ?_; (case aP => exact GQ.out); (case aF => exact fun _ h => Nat.le_trans N9.out h); (case aO => exact R9b.out); (case aB => exact B9.out); (case aS => exact qi B9.out); (case aL => (try simp only [List.length_append, List.length_singleton]); omega); intro v10 w10 ho hb hg hat; obtain ⟨A10, c10, rfl⟩ := Kd.qN ho; have R10 := qa.mk ho; have B10 := qa.mk hb; have O10 := qa.mk (Kd.jo O9.out hg (fun k hk e => by have := R9b.out.1 k e.symm; omega)); have T10 := qa.mk (zg T9.out hg (fun e => by have := R9b.out.1 t e.symm; omega)); have N10 := qa.mk (Nat.le_trans N9.out hg.size); clear ho hb hg hat)
            have eL : X.length + 1 + 1 = (X ++ [P] ++ [q]).length := by simp
            refine ⟨⟨j + 1, A10, c10, by rw [HF2.out]; first | rfl | (rw [← eL]), by rw [HF2.out], by push_cast; rfl, by omega, ⟨by rw [HF2.out]; exact R10.out⟩, O10, T10, N10, B10⟩, ?_⟩
            show (_ : Nat) < _
            simp only [intOf]; omega
          · have HF2 := qa.mk (show (O.take (j + 1)).foldl (jR P) ([], false) = (X ++ [q], pl) by rw [HF.out]; unfold jR; rw [if_neg hb])
            have hbl : (!pl && Op.bytesLess P.f0.toList q.f0.toList) = false := by
              cases pl with
              | true => rfl
              | false =>
                cases h : Op.bytesLess P.f0.toList q.f0.toList with
                | true => exact absurd ⟨rfl, h⟩ hb
                | false => rfl
            clear hb HF
            cases pl with
            | true =>
              clear hbl
              go_wp2_with ((with_reducible refine qG (b := .append) (xs := #[.tmp 37, .tmp 39]) rfl ?_); at_builtin; refine Kd.zM (Kd.fixed k50 w) (w0 := w) w.heap.size rfl (.tmp 37) (.tmp 39) 46 50 (.agg #[(.string ⟨#[]⟩), (.slice none 0 0)]) 40 rfl Try.underlying46 Zp rfl (show 0 < 2 by decide) (by omega) (.slice A6 X.length c6) X q [.string q.f0, .slice Aq q.f1.length cq] (fun k => N ≤ k) (fun _ => False) rfl (by first | (go_simp; done) | (go_simp; rfl)) ?aP (fun _ hk => hk.elim) ?aF ?aO ?aB ?aS ?aL ?_; (case aP => exact GQ.out); (case aF => exact fun _ h => Nat.le_trans N8.out h); (case aO => exact R8.out); (case aB => exact B8.out); (case aS => exact qi B8.out); (case aL => (try simp only [List.length_append, List.length_singleton]); omega); intro v10 w10 ho hb hg hat; obtain ⟨A10, c10, rfl⟩ := Kd.qN ho; have R10 := qa.mk ho; have B10 := qa.mk hb; have O10 := qa.mk (Kd.jo O8.out hg (fun k hk e => by have := R8.out.1 k e.symm; omega)); have T10 := qa.mk (zg T8.out hg (fun e => by have := R8.out.1 t e.symm; omega)); have N10 := qa.mk (Nat.le_trans N8.out hg.size); clear ho hb hg hat)
              have eL : X.length + 1 = (X ++ [q]).length := by simp
              refine ⟨⟨j + 1, A10, c10, by rw [HF2.out]; first | rfl | (rw [← eL]), by rw [HF2.out], by push_cast; rfl, by omega, ⟨by rw [HF2.out]; exact R10.out⟩, O10, T10, N10, B10⟩, ?_⟩
              show (_ : Nat) < _
              simp only [intOf]; omega
            | false =>
              have hbl : Op.bytesLess P.f0.toList q.f0.toList = false := by simpa using hbl
              go_wp2_with ((with_reducible refine qG (b := .append) (xs := #[.tmp 37, .tmp 39]) rfl ?_); at_builtin; refine Kd.zM (Kd.fixed k50 w) (w0 := w) w.heap.size rfl (.tmp 37) (.tmp 39) 46 50 (.agg #[(.string ⟨#[]⟩), (.slice none 0 0)]) 40 rfl Try.underlying46 Zp rfl (show 0 < 2 by decide) (by omega) (.slice A6 X.length c6) X q [.string q.f0, .slice Aq q.f1.length cq] (fun k => N ≤ k) (fun _ => False) rfl (by first | (go_simp; done) | (go_simp; rfl)) ?aP (fun _ hk => hk.elim) ?aF ?aO ?aB ?aS ?aL ?_; (case aP => exact GQ.out); (case aF => exact fun _ h => Nat.le_trans N8.out h); (case aO => exact R8.out); (case aB => exact B8.out); (case aS => exact qi B8.out); (case aL => (try simp only [List.length_append, List.length_singleton]); omega); intro v10 w10 ho hb hg hat; obtain ⟨A10, c10, rfl⟩ := Kd.qN ho; have R10 := qa.mk ho; have B10 := qa.mk hb; have O10 := qa.mk (Kd.jo O8.out hg (fun k hk e => by have := R8.out.1 k e.symm; omega)); have T10 := qa.mk (zg T8.out hg (fun e => by have := R8.out.1 t e.symm; omega)); have N10 := qa.mk (Nat.le_trans N8.out hg.size); clear ho hb hg hat)
              have eL : X.length + 1 = (X ++ [q]).length := by simp
              refine ⟨⟨j + 1, A10, c10, by rw [HF2.out]; first | rfl | (rw [← eL]), by rw [HF2.out], by push_cast; rfl, by omega, ⟨by rw [HF2.out]; exact R10.out⟩, O10, T10, N10, B10⟩, ?_⟩
              show (_ : Nat) < _
              simp only [intOf]; omega
        · have jl := eq_false (show ¬ (j : Int) < (O.length : Int) by omega)
          have jl2 := eq_false jlt
          obtain rfl : j = O.length := by omega
          rw [List.take_length] at RQ ⊢
          obtain ⟨X, pl, hX⟩ : ∃ X pl, O.foldl (jR P) ([], false) = (X, pl) := ⟨_, _, rfl⟩
          have hlen := (ZM P O ([], false)).1
          have hI : insP P O = if pl = true then X else X ++ [P] := by unfold insP; rw [hX]
          rw [hX] at RQ hlen ⊢
          rw [hI] at HS
          dsimp only at RQ hlen ⊢
          have xl : X.length ≤ 1000001 := by simp at hlen; omega
          clear hlen hX hI
          have p0 : wr.cell? ⟨t, 0, none⟩ = some (.string P.f0) := (qb TP.out 0).trans rfl
          have p1 : wr.cell? ⟨t, 1, none⟩ = some (.slice Ap P.f1.length cp) := (qb TP.out 1).trans rfl
          cases pl with
          | true =>
            rw [if_pos rfl] at HS
            go_wp2
            refine ⟨⟨i + 1, A6, c6, by rw [HS.out], by push_cast; rfl, by omega, ⟨by rw [HS.out]; exact Kd.qH RQ.out (fun _ _ => trivial)⟩, BQ⟩, ?_⟩
            show (_ : Nat) < _
            simp only [intOf]; omega
          | false =>
            rw [if_neg (by decide)] at HS
            go_wp2_with ((with_reducible refine qG (b := .append) (xs := #[.tmp 44, .tmp 46]) rfl ?_); at_builtin; refine Kd.zM (Kd.fixed k50 w) (w0 := w) w.heap.size rfl (.tmp 44) (.tmp 46) 46 50 (.agg #[(.string ⟨#[]⟩), (.slice none 0 0)]) 40 rfl Try.underlying46 Zp rfl (show 0 < 2 by decide) (by omega) (.slice A6 X.length c6) X P [.string P.f0, .slice Ap P.f1.length cp] (fun k => N ≤ k) (fun _ => False) rfl (by first | (go_simp; done) | (go_simp; rfl)) ?aP (fun _ hk => hk.elim) ?aF ?aO ?aB ?aS ?aL ?_; (case aP => exact GP.out); (case aF => exact fun _ h => Nat.le_trans HN.out h); (case aO => exact RQ.out); (case aB => exact BQ.out); (case aS => exact qi BQ.out); (case aL => (try simp only [List.length_append, List.length_singleton]); omega); intro v10 w10 ho hb hg hat; obtain ⟨A10, c10, rfl⟩ := Kd.qN ho; have R10 := qa.mk ho; have B10 := qa.mk hb; have O10 := qa.mk (Kd.jo OQ.out hg (fun k hk e => by have := RQ.out.1 k e.symm; omega)); have T10 := qa.mk (zg TP.out hg (fun e => by have := RQ.out.1 t e.symm; omega)); have N10 := qa.mk (Nat.le_trans HN.out hg.size); clear ho hb hg hat)
            have eL : X.length + 1 = (X ++ [P]).length := by simp
            refine ⟨⟨i + 1, A10, c10, by rw [HS.out]; first | rfl | (rw [← eL]), by push_cast; rfl, by omega, ⟨by rw [HS.out]; exact Kd.qH R10.out (fun _ _ => trivial)⟩, B10⟩, ?_⟩
            show (_ : Nat) < _
            simp only [intOf]; omega
    · have iln := eq_false (show ¬ (i : Int) < (l.length : Int) by omega)
      have iln2 := eq_false hlt
      obtain rfl : i = l.length := by omega
      rw [List.take_length] at HO ⊢
      go_wp2
      go_ret
      exact ⟨_, rfl, HO.out, HB.out⟩
end Go.Proofs.Ytonljpciadeafaa.S
set_option linter.unusedVariables false
set_option linter.unusedSimpArgs false
namespace Go.Proofs.Ytonljpciadeafaa.S
open Go Go.RowKit Go.Proofs.YtonljpciadeafaaW.PrintWords Go.Proofs.YtonljpciadeafaaW.PrintLast Go.Proofs.YtonljpciadeafaaW.PrintMore
theorem take_splice {α : Type} (L Y : List α) (n off : Nat) (h : off + Y.length ≤ n) (hn : n ≤ L.length) : (L.take off ++ Y ++ L.drop (off + Y.length)).take n = splice (L.take n) off Y := by
  have h1 : (L.take off ++ Y).length = off + Y.length := by rw [List.length_append, List.length_take]; omega
  unfold splice
  rw [List.take_append, List.take_of_length_le (by omega : (L.take off ++ Y).length ≤ n), h1, List.take_take, Nat.min_eq_left (by omega : off ≤ n), List.append_assoc, List.drop_take]
section
variable {P : Program}
theorem copy_run {W : World} (dT ty elem : TypeId) (hu : P.underlying dT = some (.slice elem)) (hsz : (P.info? elem).map (·.size) = some 1) (g off cap base : Nat) (ok : Nat → Prop) (xs ys : List Int) (A : Option Addr) (c : Nat)
    (HO : Kd.R (Kd.int .u8) elem W base ok (.slice (some ⟨g, 0, none⟩) xs.length cap) xs) (HY : Kd.C (Kd.int .u8) W A ys.length ys) (hne : ys ≠ []) (hfit : off + ys.length ≤ xs.length) :
    ∃ w1, (Builtin.copy_ #[dT, dT] ty #[.slice (some ⟨g, off, none⟩) (xs.length - off) (cap - off), .slice A ys.length c]).run P W = .ok (goInt ys.length) w1 ∧ Kd.R (Kd.int .u8) elem w1 base ok (.slice (some ⟨g, 0, none⟩) xs.length cap) (splice xs off ys) ∧ W.grownBy w1 (some g) := by
  have hown : W.ownsRow base elem 1 (.slice (some ⟨g, 0, none⟩) xs.length cap) xs.length (encs (Value.int .u8) xs) := Kd.QH HO
  obtain ⟨hl, ⟨hv, _⟩ | ⟨g', cap', cur, hv, hbg, hg, hnc, hcm, hcs, htake⟩⟩ := hown
  · cases hv
  injection hv with hv _ hc2
  injection hv with hv
  injection hv with hv
  subst hv hc2
  rw [Nat.mul_one] at hcs htake
  obtain ⟨ad, rfl, hcy⟩ := ZF HY hne
  have hrun := run_copy_row (P := P) W dT dT ty elem g off (xs.length - off) (cap - off) ad ys.length c cur elem (ys.map (Value.int .u8)) hu hsz hg (by rw [List.length_map]; exact (Nat.min_eq_left (by omega)).symm) hcy (by rw [List.length_map]; omega) (fun v hv => by obtain ⟨q, _, rfl⟩ := List.mem_map.1 hv; rfl)
  rw [List.length_map] at hrun
  refine ⟨_, hrun, ?_, ⟨rfl, rfl, rfl, by simp, fun k _ hk => setRow_other _ _ _ _ (fun z => hk (by rw [z]))⟩⟩
  have hlen : (splice xs off ys).length = xs.length := length_splice xs off ys hfit
  have htk := take_splice cur.toList (ys.map (Value.int .u8)) xs.length off (by rw [List.length_map]; omega) (by have z : cur.toList.length = cur.size := Array.length_toList ..; omega)
  rw [List.length_map] at htk
  have he : splice (cur.toList.take xs.length) off (ys.map (Value.int .u8)) = encs (Value.int .u8) (splice xs off ys) := by
    rw [htake]
    simp [splice, encs]
  have hown2 : (W.setRow g (cur.toList.take off ++ ys.map (Value.int .u8) ++ cur.toList.drop (off + ys.length)).toArray).ownsRow base elem 1 (.slice (some ⟨g, 0, none⟩) xs.length cap) (splice xs off ys).length (encs (Value.int .u8) (splice xs off ys)) := by
    refine ⟨by simp [encs], Or.inr ⟨g, cap, _, by rw [hlen], hbg, setRow_heap _ _ _ _ _ _ hg, by rw [hlen]; exact hnc, hcm, ?_, ?_⟩⟩
    · simp
      omega
    · rw [Nat.mul_one, hlen, ← he, ← htk]
  exact Kd.QV (h1 := fun _ => rfl) (enc := Value.int .u8) hown2 HO.1
variable {ops : Array Oper} {rest : List Oper} {o : Oper} {a : Act} {Q : Exit → Act → World → Prop}
theorem R_copy {W : World} (hgd : o.guard = none) (d s : Operand) (dT elem : TypeId) (ho : o.op = .call { callee := .builtin .copy, args := #[d, s], argTypes := #[dT, dT] }) (hu : P.underlying dT = some (.slice elem)) (hsz : (P.info? elem).map (·.size) = some 1)
    (g off cap base n m L : Nat) (ok : Nat → Prop) (xs ys : List Int) (A : Option Addr) (c : Nat) (hd : a.eval d = .slice (some ⟨g, off, none⟩) n m) (hs : a.eval s = .slice A ys.length c) (hL : xs.length = L) (hn : n = L - off) (hm : m = cap - off)
    (HO : Kd.R (Kd.int .u8) elem W base ok (.slice (some ⟨g, 0, none⟩) L cap) xs) (HY : Kd.C (Kd.int .u8) W A ys.length ys) (hne : ys ≠ []) (hfit : off + ys.length ≤ L)
    (h : ∀ w1, Kd.R (Kd.int .u8) elem w1 base ok (.slice (some ⟨g, 0, none⟩) L cap) (splice xs off ys) → W.grownBy w1 (some g) → wpList P ops Q rest (a.put o.dst (goInt ys.length)) w1) : wpList P ops Q (o :: rest) a W := by
  subst hL hn hm
  obtain ⟨w1, hr, h1, h2⟩ := copy_run (P := P) dT o.type elem hu hsz g off cap base ok xs ys A c HO HY hne hfit
  refine wpList_plain hgd fun K hK => ?_
  unfold Oper.wp
  simp [execOp, ho, resolve, invoke, builtin, hd, hs, hr, Result.andThen]
  exact hK _ _ (h w1 h1 h2)
theorem ZE {W : World} {K : Act → World → Prop} (hw : Region.wanted o (yielded ops a.tmps) = true) (d s : Operand) (dT elem : TypeId) (ho : o.op = .call { callee := .builtin .copy, args := #[d, s], argTypes := #[dT, dT] }) (hu : P.underlying dT = some (.slice elem)) (hsz : (P.info? elem).map (·.size) = some 1)
    (g off cap base n m L : Nat) (ok : Nat → Prop) (xs ys : List Int) (A : Option Addr) (c : Nat) (hd : a.eval d = .slice (some ⟨g, off, none⟩) n m) (hs : a.eval s = .slice A ys.length c) (hL : xs.length = L) (hn : n = L - off) (hm : m = cap - off)
    (HO : Kd.R (Kd.int .u8) elem W base ok (.slice (some ⟨g, 0, none⟩) L cap) xs) (HY : Kd.C (Kd.int .u8) W A ys.length ys) (hne : ys ≠ []) (hfit : off + ys.length ≤ L)
    (h : ∀ w1, Kd.R (Kd.int .u8) elem w1 base ok (.slice (some ⟨g, 0, none⟩) L cap) (splice xs off ys) → W.grownBy w1 (some g) → K (a.put o.dst (goInt ys.length)) w1) : if Region.wanted o (yielded ops a.tmps) = true then Oper.wp P o a W K Q else K (a.put o.dst undef) W := by
  subst hL hn hm
  obtain ⟨w1, hr, h1, h2⟩ := copy_run (P := P) dT o.type elem hu hsz g off cap base ok xs ys A c HO HY hne hfit
  rw [if_pos hw]
  unfold Oper.wp
  simp [execOp, ho, resolve, invoke, builtin, hd, hs, hr, Result.andThen]
  exact h w1 h1 h2
end
end Go.Proofs.Ytonljpciadeafaa.S
set_option linter.unusedVariables false
set_option linter.unusedSimpArgs false
namespace Go.Proofs.Ytonljpciadeafaa.S
open Go Go.RowKit Go.Proofs.YtonljpciadeafaaW.PrintWords Go.Proofs.YtonljpciadeafaaW.PrintLast Go.Proofs.YtonljpciadeafaaW.PrintMore
def Zo (u2 : List Int) : List Int := (splice (splice (List.replicate 54 (0 : Int)) 12 [95, 15, 60, 245]) 18 u2).set 51 1
def Zy (t6 g2 : List Int) : List Int := splice (splice (List.replicate 36 (0 : Int)) 4 t6) 34 g2
abbrev met9 (kd u n a d gp : Int) (A7 A8 A9 : Option Addr) (n7 c7 n8 c8 n9 c9 : Nat) : Array Value := #[.int .i64 kd, .int .i64 u, .int .i64 n, .int .i64 a, .int .i64 d, .int .i64 gp, .slice A7 n7 c7, .slice A8 n8 c8, .slice A9 n9 c9]
theorem R_at {e base : Nat} {w : World} {ok : Nat → Prop} {v : Value} {xs : List Int} (h : Kd.R (Kd.int .u8) e w base ok v xs) (hne : xs ≠ []) : ∃ g c, v = .slice (some ⟨g, 0, none⟩) xs.length c ∧ base ≤ g ∧ xs.length ≤ c := by
  have hown : w.ownsRow base e 1 v xs.length (encs (Value.int .u8) xs) := Kd.QH h
  obtain ⟨hl, ⟨_, hn⟩ | ⟨g, cap, cur, hv, hbg, hg, hnc, _⟩⟩ := hown
  · exact absurd (List.eq_nil_of_length_eq_zero hn) hne
  · exact ⟨g, cap, hv, hbg, hnc⟩
theorem R_cell {e base g n c : Nat} {w : World} {ok : Nat → Prop} {xs : List Int} (h : Kd.R (Kd.int .u8) e w base ok (.slice (some ⟨g, 0, none⟩) n c) xs) (j : Nat) (hj : j < n) : (∃ x, w.cell? ⟨g, j, none⟩ = some x) ∧ w.frozen? ⟨g, j, none⟩ = false := by
  have hown : w.ownsRow base e 1 (.slice (some ⟨g, 0, none⟩) n c) xs.length (encs (Value.int .u8) xs) := Kd.QH h
  obtain ⟨hl, ⟨hv, hn⟩ | ⟨g', cap, cur, hv, hbg, hg, hnc, _, hs, _⟩⟩ := hown
  · cases hv
  · injection hv with hv h2 h3
    injection hv with hv
    injection hv with hv
    subst hv h2
    exact ⟨⟨_, (qb hg j).trans (Array.getElem?_eq_getElem (by omega))⟩, qd hg j⟩
theorem C_two {k : IntKind} {w : World} {p T : Nat} {x y : Int} (h : w.heap[p]? = some (.cells #[.int k x, .int k y] T (0, 0))) : Kd.C (Kd.int k) w (some ⟨p, 0, none⟩) 2 [x, y] := by
  refine Kd.Qn (d := 0) (h1 := fun _ => rfl) ⟨rfl, by decide, fun _ => ⟨_, rfl, fun j hj => ?_⟩⟩
  match j, hj with
  | 0, _ => exact (qb h 0).trans rfl
  | 1, _ => exact (qb h 1).trans rfl
theorem two_two (k p : Nat) (x y : Int) (r : List Int) (w : World) (hC : Kd.C (Kd.int .i64) w (some ⟨p, 0, none⟩) 2 [x, y]) (h : qy.f k [x, y] = some r) : Calls Try.prog 49 #[.slice (some ⟨p, 0, none⟩) 2 2] w fun e w' => ∃ v0_ : Value, e = .returned (v0_) ∧ Kd.R (Kd.int .u8) 5 w' w.heap.size (fun _ => True) v0_ r ∧ Below w.heap.size w w' :=
  qy.calls k (some ⟨p, 0, none⟩) 2 [x, y] r w hC (Nat.le_refl 2) h
def jS (f : Nat → List Int) (i : Nat) : List Int := (List.range i).flatMap f
theorem catL_succ (f : Nat → List Int) (i : Nat) : jS f (i + 1) = jS f i ++ f i := by simp [jS, List.range_succ]
def Zc (u2 t6 g2 hm lo : List Int) : List S50 := ([⟨⟨#[104, 101, 97, 100]⟩, Zo u2⟩, ⟨⟨#[104, 104, 101, 97]⟩, Zy t6 g2⟩, ⟨⟨#[104, 109, 116, 120]⟩, hm⟩] : List S50) ++ (if lo = [] then [] else [⟨⟨#[108, 111, 99, 97]⟩, lo⟩]) ++ [⟨⟨#[109, 97, 120, 112]⟩, [0, 1, 0, 0] ++ g2⟩]
theorem Jm (w : World) (t : ByteArray) (xs : List Int) (n : Nat) (A : Option Addr) (c : Nat) (hl : xs.length = n) (hc : n ≤ c) (hC : Kd.C (Kd.int .u8) w A n xs) : k50.K w ⟨t, xs⟩ [.string t, .slice A n c] := by
  subst hl
  exact Jd w ⟨t, xs⟩ hc hC
theorem two_three (k p : Nat) (x y z : Int) (r : List Int) (w : World) (hC : Kd.C (Kd.int .i64) w (some ⟨p, 0, none⟩) 3 [x, y, z]) (h : qy.f k [x, y, z] = some r) : Calls Try.prog 49 #[.slice (some ⟨p, 0, none⟩) 3 3] w fun e w' => ∃ v0_ : Value, e = .returned (v0_) ∧ Kd.R (Kd.int .u8) 5 w' w.heap.size (fun _ => True) v0_ r ∧ Below w.heap.size w w' :=
  qy.calls k (some ⟨p, 0, none⟩) 3 [x, y, z] r w hC (Nat.le_refl 3) h
set_option maxRecDepth 100000 in
set_option maxHeartbeats 2000000 in
theorem pieces_calls (k : Nat) (kd u n a d gp : Int) (A7 A8 A9 : Option Addr) (c7 c8 c9 : Nat) (adv bear pl u2 t6 g2 : List Int) (w : World) (h7 : Kd.C (Kd.int .i64) w A7 adv.length adv) (h8 : Kd.C (Kd.int .i64) w A8 bear.length bear) (h9 : Kd.C (Kd.int .i64) w A9 pl.length pl)
    (hu : qm.f k u 2 = some u2) (ht : qy.f k [a, d, gp] = some t6) (hg : qm.f k n 2 = some g2) (l6 : t6.length = 6) (tw bg : Nat → List Int) (lb : bear.length = adv.length) (la : adv.length ≤ 1000000) (lp : pl.length ≤ 1000000)
    (htw : ∀ i, i < adv.length → qy.f k [rd adv (i : Int), rd bear (i : Int)] = some (tw i) ∧ (tw i).length = 4) (hbg : ∀ i, i < pl.length → qm.f k (rd pl (i : Int)) 4 = some (bg i)) :
    Calls Try.prog 21 #[.agg (met9 kd u n a d gp A7 A8 A9 adv.length c7 bear.length c8 pl.length c9)] w fun e w' => ∃ v W, e = .returned v ∧ Kd.R (Kd.fixed k50 W) 50 w' W.heap.size (fun _ => True) v (Zc u2 t6 g2 (jS tw adv.length) (jS bg pl.length)) ∧ Below W.heap.size W w' ∧ Below w.heap.size w W := by
  have lu := ZJ hu
  have lg := ZJ hg
  have LU : qa (u2.length = 2) := ⟨lu⟩
  have LG : qa (g2.length = 2) := ⟨lg⟩
  have L6 := qa.mk l6
  have HU := qa.mk hu
  have HT := qa.mk ht
  have HG := qa.mk hg
  have H7 := qa.mk h7
  have H8 := qa.mk h8
  have H9 := qa.mk h9
  have TW := qa.mk htw
  have BG := qa.mk hbg
  have LBB := qa.mk lb
  clear lu lg l6 hu ht hg h7 h8 h9 htw hbg lb
  go_enter Try.func21, Try.ntmps21
  go_upto_region 1 with fail
  obtain ⟨wA, g1, hX, e1, k1, b1⟩ : ∃ X g1, X = w.alloc (Obj.cells (met9 kd u n a d gp A7 A8 A9 adv.length c7 bear.length c8 pl.length c9) 37) ∧ w.heap.size = g1 ∧ X.heap[g1]? = some (Obj.cells (met9 kd u n a d gp A7 A8 A9 adv.length c7 bear.length c8 pl.length c9) 37 (0, 0)) ∧ Below w.heap.size w X := ⟨_, _, rfl, rfl, zk _ _, qF (Below.refl _ _) _⟩
  rw [← hX, e1]
  have KA := qa.mk k1
  have BA := qa.mk b1
  clear hX e1 k1 b1
  go_upto_region 2 with (refine Kd.R_make (Kd.int .u8) _ 5 rfl (N := 12) rfl 23 _ _ rfl 54 rfl rfl Try.underlying23 (.int .u8 0) 1 info5 rfl (by decide) (by omega) 0 (ok := fun _ => True) (okp := fun _ => True) rfl (fun _ hk => hk) trivial (by decide) (by decide) (Below.refl _ _) (Nat.le_refl _) ?_; intro v12 w2 k1 k2 k3 k4; clear k3 k4; obtain ⟨g3, c3, e3, k5, k6⟩ := R_at k1 (by decide); rw [List.length_replicate] at e3 k6; subst e3; have R3 : qa (Kd.R (Kd.int .u8) 5 w2 wA.heap.size (fun _ => True) (.slice (some ⟨g3, 0, none⟩) 54 c3) (List.replicate 54 (0 : Int))) := ⟨k1⟩; have B2 := qa.mk k2; have G3 := qa.mk k5; have k6 : 54 ≤ c3 := k6; clear k1 k2 k5)
  go_upto_region 3 with (first | ((with_reducible refine qX (N := 15) rfl ?_); refine Kd.jQ (Kd.int .u8) _ 5 ?hg (N := 15) ?hd (xs := ([95, 15, 60, 245] : List Int)) (inner := [.int .u8 95, .int .u8 15, .int .u8 60, .int .u8 245]) (ok := fun _ => True) (okp := fun _ => True) ?hr ?hp (fun _ hk => hk) trivial (Below.refl _ _) (Nat.le_refl _) (by simp) ?_; (case hd => rfl); (case hg => rfl); (case hr => first | (go_simp; done) | (go_simp; rfl)); (case hp => exact lit_reps _ _ _ _ _); intro v15 w15 k1 k2 k3 k4; clear k3 k4; obtain ⟨A15, c15, rfl⟩ := Kd.qN k1; have Q15 := qa.mk (Kd.qJ k1).2.2; have Q3 := qa.mk (Kd.qM R3.out k2); have B15 := qa.mk (qc B2.out k2); clear k1 k2) | ((with_reducible refine qX (N := 16) rfl ?_); refine R_copy rfl (.tmp 14) (.tmp 15) 23 5 rfl Try.underlying23 (by kernel_rfl) g3 12 c3 wA.heap.size 42 (c3 - 12) 54 (fun _ => True) (List.replicate 54 (0 : Int)) [95, 15, 60, 245] A15 c15 rfl rfl (by simp) rfl rfl Q3.out Q15.out (by simp) (by decide) ?_; intro w16 k1 k2; have B16 := qa.mk (B15.out.grown k2 B15.out.size (fun k hk => by injection hk with hk; rw [← hk]; exact G3.out)); have T3 := qa.mk k1; clear k1 k2))
  clear R3 Q3 Q15 B2 B15
  obtain ⟨hb1, hhb⟩ : ∃ x, splice (List.replicate 54 (0 : Int)) 12 [95, 15, 60, 245] = x := ⟨_, rfl⟩
  have L1 : qa (hb1.length = 54) := ⟨by rw [← hhb]; decide⟩
  have HB1 := qa.mk hhb
  rw [hhb] at T3
  clear hhb
  have KW := qa.mk (fun (w2 : World) (h : Below wA.heap.size wA w2) => (h.block _ (qz KA.out)).trans KA.out)
  have y1 : w16.cell? ⟨g1, 1, none⟩ = some (.int .i64 u) := (qb (KW.out _ B16.out) 1).trans rfl
  have d18 := eq_false (show ¬ c3 = 18 by omega)
  refine jf (n := 6) (S := fun w' => w'.cell? ⟨g1, 1, none⟩ = some (.int .i64 u)) (ds := [4, 5]) #[false, false, false, false, false, false] (by kernel_rfl) rfl rfl (y1) (fun hHeld => ?_)
  obtain ⟨w6, hW6, T6, B6⟩ : ∃ w6, w6 = w16.drew ∧ qa (Kd.R (Kd.int .u8) 5 w6 wA.heap.size (fun _ => True) (.slice (some ⟨g3, 0, none⟩) 54 c3) hb1) ∧ qa (Below wA.heap.size wA w6) := ⟨_, rfl, ⟨Kd.qw T3.out⟩, ⟨zm B16.out⟩⟩
  rw [← hW6] at hHeld ⊢
  clear hW6 T3 B16
  refine qj (i := 0) (N := some 17) (v := ?_) (a' := ?_) #[true, false, false, false, false, false] rfl rfl (by kernel_rfl) (fun _ _ _ h => h) (Or.inl ⟨by rfl, ?_⟩) ?_ ?_
  rotate_left
  · intro w'
    go_simp
    with_reducible rfl
  rotate_left
  · simp only [Act.put, List.setIfInBounds_toArray, List.set_cons_zero, List.set_cons_succ, qg, qh]
    rfl
  refine qj (i := 1) (N := some 18) (v := ?_) (a' := ?_) #[true, true, false, false, false, false] rfl rfl (by kernel_rfl) (fun _ _ _ h => h) (Or.inl ⟨by rfl, ?_⟩) ?_ ?_
  rotate_left
  · intro w'
    go_simp
    with_reducible rfl
  rotate_left
  · simp only [Act.put, List.setIfInBounds_toArray, List.set_cons_zero, List.set_cons_succ, qg, qh]
    rfl
  refine qj (i := 2) (N := some 19) (v := ?_) (a' := ?_) #[true, true, true, false, false, false] rfl rfl (by kernel_rfl) (fun _ _ _ h => h) (Or.inl ⟨by rfl, ?_⟩) ?_ ?_
  rotate_left
  · intro w'
    go_simp
    with_reducible rfl
  rotate_left
  · simp only [Act.put, List.setIfInBounds_toArray, List.set_cons_zero, List.set_cons_succ, qg, qh]
    rfl
  refine zq (i := 3) (N := some 20) (v := ?_) (a' := ?_) #[true, true, true, true, false, false] rfl rfl (by kernel_rfl) (fun _ _ _ h => h) (Or.inl ⟨by rfl, ?_⟩) hHeld ?_ ?_
  rotate_left
  · intro w' s0
    go_simp
    with_reducible rfl
  rotate_left
  · simp only [Act.put, List.setIfInBounds_toArray, List.set_cons_zero, List.set_cons_succ, qg, qh]
    rfl
  refine zS (i := 4) (N := some 21) #[true, true, true, true, true, false] rfl rfl (by kernel_rfl) (by decide) (fun K hK => ?_)
  refine Qk Try.func48 (by kernel_rfl) rfl #[.int .i64 u, .int .i64 2] (by rfl) rfl rfl (by simp only [List.map_toArray, List.map_cons, List.map_nil]; rfl) ?_
  with_reducible refine ((qm.calls k u 2 u2 w6 HU.out)).mono ?_
  rintro e w7 ⟨v7, rfl, k1, k2⟩
  refine ⟨_, rfl, ?_⟩
  obtain ⟨A21, c21, e21⟩ := Kd.qN k1
  subst e21
  have Q21 := qa.mk (Kd.qJ k1).2.2
  have Q3 := qa.mk (Kd.qM T6.out k2)
  have B7 := qa.mk (qc B6.out k2)
  clear k1 k2
  refine hK.out _ _ ?_
  clear hK K
  refine zO (a' := ?_) ?_ ?_
  rotate_left
  · show Act.put _ (some 21) _ = _
    simp only [Act.put, List.setIfInBounds_toArray, List.set_cons_zero, List.set_cons_succ, qg, qh]
    rfl
  refine zS (i := 5) (N := some 22) #[true, true, true, true, true, true] rfl rfl (by kernel_rfl) (by decide) (fun K hK => ?_)
  refine ZE (by rfl) (.tmp 18) (.tmp 21) 23 5 rfl Try.underlying23 (by kernel_rfl) g3 18 c3 wA.heap.size 36 (c3 - 18) 54 (fun _ => True) hb1 u2 A21 c21 rfl rfl L1.out rfl rfl Q3.out Q21.out (fun z => by have := LU.out; rw [z] at this; cases this) (by have := LU.out; omega) ?_
  intro w22 k1 k2
  have B22 := qa.mk (B7.out.grown k2 B7.out.size (fun k hk => by injection hk with hk; rw [← hk]; exact G3.out))
  have T22 := qa.mk k1
  clear k1 k2
  refine hK.out _ _ ?_
  clear hK K
  refine zO (a' := ?_) ?_ ?_
  rotate_left
  · show Act.put _ (some 22) _ = _
    simp only [Act.put, List.setIfInBounds_toArray, List.set_cons_zero, List.set_cons_succ, qg, qh]
    rfl
  refine jM (by kernel_rfl) ?_
  clear Q3 Q21 B7 d18
  obtain ⟨hb2, hhb⟩ : ∃ x, splice hb1 18 u2 = x := ⟨_, rfl⟩
  have LB2 : qa (hb2.length = 54) := ⟨by rw [← hhb]; rw [length_splice _ _ _ (by have := L1.out; have := LU.out; omega)]; exact L1.out⟩
  have HB2 := qa.mk hhb
  rw [hhb] at T22
  clear hhb
  obtain ⟨⟨x51, hx51⟩, hf51⟩ := R_cell T22.out 51 (by omega)
  have c51 : 51 < c3 := by omega
  go_upto_region 5 with fail
  obtain ⟨wB, hW, C3, BB, LZ⟩ : ∃ wB, wB = w22.setCell ⟨g3, 51, none⟩ (.int .u8 1) ∧ qa (Kd.C (Kd.int .u8) wB (some ⟨g3, 0, none⟩) 54 (Zo u2)) ∧ qa (Below w.heap.size w wB) ∧ qa (Below wA.heap.size wA wB) := by
    have z := (Kd.R_put (W := w22) (by rw [LB2.out]; exact T22.out : Kd.R (Kd.int .u8) 5 w22 wA.heap.size (fun _ => True) (.slice (some ⟨g3, 0, none⟩) hb2.length c3) hb2) 51 1)
    have z2 : Below wA.heap.size wA (w22.setCell ⟨g3, 51, none⟩ (.int .u8 1)) := qA B22.out G3.out
    have z3 := (Kd.qJ z.1).2.2
    refine ⟨_, rfl, ⟨?_⟩, ⟨qc BA.out z2⟩, ⟨z2⟩⟩
    have e : Zo u2 = hb2.set 51 1 := by rw [← HB2.out, ← HB1.out]; rfl
    rw [e]
    have l : (hb2.set 51 1).length = 54 := by rw [List.length_set]; exact LB2.out
    rw [← l]
    exact z3
  rw [← hW]
  clear hW hx51 hf51 c51 T22 B22 G3 L1 HB1 LB2 HB2
  have KB := qa.mk ((LZ.out.block _ (qz KA.out)).trans KA.out)
  clear LZ KW y1 KA BA
  go_upto_region 6 with (refine Kd.R_make (Kd.int .u8) _ 5 rfl (N := 25) rfl 23 _ _ rfl 36 rfl rfl Try.underlying23 (.int .u8 0) 1 info5 rfl (by decide) (by omega) 0 (ok := fun _ => True) (okp := fun _ => True) rfl (fun _ hk => hk) trivial (by decide) (by decide) (Below.refl _ _) (Nat.le_refl _) ?_; intro v25 w2 k1 k2 k3 k4; clear k3 k4; obtain ⟨g4, c4, e4, k5, k7⟩ := R_at k1 (by decide); rw [List.length_replicate] at e4 k7; subst e4; have R4 : qa (Kd.R (Kd.int .u8) 5 w2 wB.heap.size (fun _ => True) (.slice (some ⟨g4, 0, none⟩) 36 c4) (List.replicate 36 (0 : Int))) := ⟨k1⟩; have B2 := qa.mk k2; have G4 := qa.mk k5; have k7 : 36 ≤ c4 := k7; clear k1 k2 k5)
  have KW := qa.mk (fun (w2 : World) (h : Below wB.heap.size wB w2) => (h.block _ (qz KB.out)).trans KB.out)
  have y3 : w2.cell? ⟨g1, 3, none⟩ = some (.int .i64 a) := (qb (KW.out _ B2.out) 3).trans rfl
  have y4 : w2.cell? ⟨g1, 4, none⟩ = some (.int .i64 d) := (qb (KW.out _ B2.out) 4).trans rfl
  have y5 : w2.cell? ⟨g1, 5, none⟩ = some (.int .i64 gp) := (qb (KW.out _ B2.out) 5).trans rfl
  have d4 := eq_false (show ¬ c4 = 4 by omega)
  refine jf (n := 11) (S := fun w' => w'.cell? ⟨g1, 3, none⟩ = some (.int .i64 a) ∧ w'.cell? ⟨g1, 4, none⟩ = some (.int .i64 d) ∧ w'.cell? ⟨g1, 5, none⟩ = some (.int .i64 gp)) (ds := [8, 9, 10]) #[false, false, false, false, false, false, false, false, false, false, false] (by kernel_rfl) rfl rfl ⟨y3, y4, y5⟩ (fun hHeld => ?_)
  obtain ⟨w6, hW6, T6, B6⟩ : ∃ w6, w6 = w2.drew ∧ qa (Kd.R (Kd.int .u8) 5 w6 wB.heap.size (fun _ => True) (.slice (some ⟨g4, 0, none⟩) 36 c4) (List.replicate 36 (0 : Int))) ∧ qa (Below wB.heap.size wB w6) := ⟨_, rfl, ⟨Kd.qw R4.out⟩, ⟨zm B2.out⟩⟩
  rw [← hW6] at hHeld ⊢
  clear hW6 R4 B2
  refine qj (i := 0) (N := some 26) (v := ?_) (a' := ?_) #[true, false, false, false, false, false, false, false, false, false, false] rfl rfl (by kernel_rfl) (fun _ _ _ h => h) (Or.inl ⟨by rfl, ?_⟩) ?_ ?_
  rotate_left
  · intro w'
    go_simp
    with_reducible rfl
  rotate_left
  · simp only [Act.put, List.setIfInBounds_toArray, List.set_cons_zero, List.set_cons_succ, qg, qh]
    rfl
  refine qj (i := 1) (N := some 27) (v := ?_) (a' := ?_) #[true, true, false, false, false, false, false, false, false, false, false] rfl rfl (by kernel_rfl) (fun _ _ _ h => h) (Or.inl ⟨by rfl, ?_⟩) ?_ ?_
  rotate_left
  · intro w'
    go_simp
    with_reducible rfl
  rotate_left
  · simp only [Act.put, List.setIfInBounds_toArray, List.set_cons_zero, List.set_cons_succ, qg, qh]
    rfl
  refine qj (i := 2) (N := some 28) (v := ?_) (a' := ?_) #[true, true, true, false, false, false, false, false, false, false, false] rfl rfl (by kernel_rfl) (fun _ _ _ h => h) (Or.inl ⟨by rfl, ?_⟩) ?_ ?_
  rotate_left
  · intro w'
    go_simp
    with_reducible rfl
  rotate_left
  · simp only [Act.put, List.setIfInBounds_toArray, List.set_cons_zero, List.set_cons_succ, qg, qh]
    rfl
  refine qj (i := 4) (N := some 30) (v := ?_) (a' := ?_) #[true, true, true, false, true, false, false, false, false, false, false] rfl rfl (by kernel_rfl) (fun _ _ _ h => h) (Or.inl ⟨by rfl, ?_⟩) ?_ ?_
  rotate_left
  · intro w'
    go_simp
    with_reducible rfl
  rotate_left
  · simp only [Act.put, List.setIfInBounds_toArray, List.set_cons_zero, List.set_cons_succ, qg, qh]
    rfl
  refine qj (i := 6) (N := some 32) (v := ?_) (a' := ?_) #[true, true, true, false, true, false, true, false, false, false, false] rfl rfl (by kernel_rfl) (fun _ _ _ h => h) (Or.inl ⟨by rfl, ?_⟩) ?_ ?_
  rotate_left
  · intro w'
    go_simp
    with_reducible rfl
  rotate_left
  · simp only [Act.put, List.setIfInBounds_toArray, List.set_cons_zero, List.set_cons_succ, qg, qh]
    rfl
  refine zq (i := 3) (N := some 29) (v := ?_) (a' := ?_) #[true, true, true, true, true, false, true, false, false, false, false] rfl rfl (by kernel_rfl) (fun _ _ _ h => h) (Or.inl ⟨by rfl, ?_⟩) hHeld ?_ ?_
  rotate_left
  · rintro w' ⟨s0, s1, s2⟩
    go_simp
    with_reducible rfl
  rotate_left
  · simp only [Act.put, List.setIfInBounds_toArray, List.set_cons_zero, List.set_cons_succ, qg, qh]
    rfl
  refine zq (i := 5) (N := some 31) (v := ?_) (a' := ?_) #[true, true, true, true, true, true, true, false, false, false, false] rfl rfl (by kernel_rfl) (fun _ _ _ h => h) (Or.inl ⟨by rfl, ?_⟩) hHeld ?_ ?_
  rotate_left
  · rintro w' ⟨s0, s1, s2⟩
    go_simp
    with_reducible rfl
  rotate_left
  · simp only [Act.put, List.setIfInBounds_toArray, List.set_cons_zero, List.set_cons_succ, qg, qh]
    rfl
  refine zq (i := 7) (N := some 33) (v := ?_) (a' := ?_) #[true, true, true, true, true, true, true, true, false, false, false] rfl rfl (by kernel_rfl) (fun _ _ _ h => h) (Or.inl ⟨by rfl, ?_⟩) hHeld ?_ ?_
  rotate_left
  · rintro w' ⟨s0, s1, s2⟩
    go_simp
    with_reducible rfl
  rotate_left
  · simp only [Act.put, List.setIfInBounds_toArray, List.set_cons_zero, List.set_cons_succ, qg, qh]
    rfl
  refine zS (i := 8) (N := some 34) #[true, true, true, true, true, true, true, true, true, false, false] rfl rfl (by kernel_rfl) (by decide) (fun K hK => ?_)
  refine QD (w1 := ?_) (v := ?_) (by rfl) rfl ?_ ?_
  rotate_left 2
  · go_simp
    constructor
    · rfl
    · rfl
  have C34 := qa.mk (C_three (k := .i64) (zk w6 (Obj.cells #[.int .i64 a, .int .i64 d, .int .i64 gp] 3)))
  have B7 := qa.mk (qF B6.out (Obj.cells #[.int .i64 a, .int .i64 d, .int .i64 gp] 3))
  have T7 := qa.mk (Kd.qp T6.out (Obj.cells #[.int .i64 a, .int .i64 d, .int .i64 gp] 3))
  refine hK.out _ _ ?_
  clear hK K
  refine zO (a' := ?_) ?_ ?_
  rotate_left
  · show Act.put _ (some 34) _ = _
    simp only [Act.put, List.setIfInBounds_toArray, List.set_cons_zero, List.set_cons_succ, qg, qh]
    rfl
  refine zS (i := 9) (N := some 35) #[true, true, true, true, true, true, true, true, true, true, false] rfl rfl (by kernel_rfl) (by decide) (fun K hK => ?_)
  refine Qk Try.func49 (by kernel_rfl) rfl #[.slice (some ⟨w6.heap.size, 0, none⟩) 3 3] (by rfl) rfl rfl (by simp only [List.map_toArray, List.map_cons, List.map_nil]; rfl) ?_
  with_reducible refine ((two_three k w6.heap.size a d gp t6 (w6.alloc (Obj.cells #[.int .i64 a, .int .i64 d, .int .i64 gp] 3)) C34.out HT.out)).mono ?_
  rintro e w8 ⟨v8, rfl, k1, k2⟩
  refine ⟨_, rfl, ?_⟩
  obtain ⟨A35, c35, e35⟩ := Kd.qN k1
  subst e35
  have Q35 := qa.mk (Kd.qJ k1).2.2
  have Q4 := qa.mk (Kd.qM T7.out k2)
  have B8 := qa.mk (qc B7.out k2)
  clear k1 k2
  refine hK.out _ _ ?_
  clear hK K
  refine zO (a' := ?_) ?_ ?_
  rotate_left
  · show Act.put _ (some 35) _ = _
    simp only [Act.put, List.setIfInBounds_toArray, List.set_cons_zero, List.set_cons_succ, qg, qh]
    rfl
  refine zS (i := 10) (N := some 36) #[true, true, true, true, true, true, true, true, true, true, true] rfl rfl (by kernel_rfl) (by decide) (fun K hK => ?_)
  refine ZE (by rfl) (.tmp 27) (.tmp 35) 23 5 rfl Try.underlying23 (by kernel_rfl) g4 4 c4 wB.heap.size 32 (c4 - 4) 36 (fun _ => True) (List.replicate 36 (0 : Int)) t6 A35 c35 rfl rfl (by simp) rfl rfl Q4.out Q35.out (fun z => by have := L6.out; rw [z] at this; cases this) (by have := L6.out; omega) ?_
  intro w36 k1 k2
  have B36 := qa.mk (B8.out.grown k2 B8.out.size (fun k hk => by injection hk with hk; rw [← hk]; exact G4.out))
  have T36 := qa.mk k1
  clear k1 k2
  refine hK.out _ _ ?_
  clear hK K
  refine zO (a' := ?_) ?_ ?_
  rotate_left
  · show Act.put _ (some 36) _ = _
    simp only [Act.put, List.setIfInBounds_toArray, List.set_cons_zero, List.set_cons_succ, qg, qh]
    rfl
  refine jM (by kernel_rfl) ?_
  clear Q4 Q35 C34 B7 T7 B8 d4 y3 y4 y5
  obtain ⟨hh1, hhb⟩ : ∃ x, splice (List.replicate 36 (0 : Int)) 4 t6 = x := ⟨_, rfl⟩
  have L1 : qa (hh1.length = 36) := ⟨by rw [← hhb]; rw [length_splice _ _ _ (by have := L6.out; rw [List.length_replicate]; omega)]; rfl⟩
  have HB1 := qa.mk hhb
  rw [hhb] at T36
  clear hhb
  have y2 : w36.cell? ⟨g1, 2, none⟩ = some (.int .i64 n) := (qb (KW.out _ B36.out) 2).trans rfl
  have d34 := eq_false (show ¬ c4 = 34 by omega)
  go_upto_region 7 with fail
  refine jf (n := 6) (S := fun w' => w'.cell? ⟨g1, 2, none⟩ = some (.int .i64 n)) (ds := [4, 5]) #[false, false, false, false, false, false] (by kernel_rfl) rfl rfl (y2) (fun hHeld => ?_)
  obtain ⟨w6b, hW6, T6b, B6b⟩ : ∃ w6b, w6b = w36.drew ∧ qa (Kd.R (Kd.int .u8) 5 w6b wB.heap.size (fun _ => True) (.slice (some ⟨g4, 0, none⟩) 36 c4) hh1) ∧ qa (Below wB.heap.size wB w6b) := ⟨_, rfl, ⟨Kd.qw T36.out⟩, ⟨zm B36.out⟩⟩
  rw [← hW6] at hHeld ⊢
  clear hW6 T36 B36
  refine qj (i := 0) (N := some 37) (v := ?_) (a' := ?_) #[true, false, false, false, false, false] rfl rfl (by kernel_rfl) (fun _ _ _ h => h) (Or.inl ⟨by rfl, ?_⟩) ?_ ?_
  rotate_left
  · intro w'
    go_simp
    with_reducible rfl
  rotate_left
  · simp only [Act.put, List.setIfInBounds_toArray, List.set_cons_zero, List.set_cons_succ, qg, qh]
    rfl
  refine qj (i := 1) (N := some 38) (v := ?_) (a' := ?_) #[true, true, false, false, false, false] rfl rfl (by kernel_rfl) (fun _ _ _ h => h) (Or.inl ⟨by rfl, ?_⟩) ?_ ?_
  rotate_left
  · intro w'
    go_simp
    with_reducible rfl
  rotate_left
  · simp only [Act.put, List.setIfInBounds_toArray, List.set_cons_zero, List.set_cons_succ, qg, qh]
    rfl
  refine qj (i := 2) (N := some 39) (v := ?_) (a' := ?_) #[true, true, true, false, false, false] rfl rfl (by kernel_rfl) (fun _ _ _ h => h) (Or.inl ⟨by rfl, ?_⟩) ?_ ?_
  rotate_left
  · intro w'
    go_simp
    with_reducible rfl
  rotate_left
  · simp only [Act.put, List.setIfInBounds_toArray, List.set_cons_zero, List.set_cons_succ, qg, qh]
    rfl
  refine zq (i := 3) (N := some 40) (v := ?_) (a' := ?_) #[true, true, true, true, false, false] rfl rfl (by kernel_rfl) (fun _ _ _ h => h) (Or.inl ⟨by rfl, ?_⟩) hHeld ?_ ?_
  rotate_left
  · intro w' s0
    go_simp
    with_reducible rfl
  rotate_left
  · simp only [Act.put, List.setIfInBounds_toArray, List.set_cons_zero, List.set_cons_succ, qg, qh]
    rfl
  refine zS (i := 4) (N := some 41) #[true, true, true, true, true, false] rfl rfl (by kernel_rfl) (by decide) (fun K hK => ?_)
  refine Qk Try.func48 (by kernel_rfl) rfl #[.int .i64 n, .int .i64 2] (by rfl) rfl rfl (by simp only [List.map_toArray, List.map_cons, List.map_nil]; rfl) ?_
  with_reducible refine ((qm.calls k n 2 g2 w6b HG.out)).mono ?_
  rintro e w8b ⟨v8b, rfl, k1, k2⟩
  refine ⟨_, rfl, ?_⟩
  obtain ⟨A41, c41, e41⟩ := Kd.qN k1
  subst e41
  have Q35 := qa.mk (Kd.qJ k1).2.2
  have Q4 := qa.mk (Kd.qM T6b.out k2)
  have B7 := qa.mk (qc B6b.out k2)
  clear k1 k2
  refine hK.out _ _ ?_
  clear hK K
  refine zO (a' := ?_) ?_ ?_
  rotate_left
  · show Act.put _ (some 41) _ = _
    simp only [Act.put, List.setIfInBounds_toArray, List.set_cons_zero, List.set_cons_succ, qg, qh]
    rfl
  refine zS (i := 5) (N := some 42) #[true, true, true, true, true, true] rfl rfl (by kernel_rfl) (by decide) (fun K hK => ?_)
  refine ZE (by rfl) (.tmp 38) (.tmp 41) 23 5 rfl Try.underlying23 (by kernel_rfl) g4 34 c4 wB.heap.size 2 (c4 - 34) 36 (fun _ => True) hh1 g2 A41 c41 rfl rfl L1.out rfl rfl Q4.out Q35.out (fun z => by have := LG.out; rw [z] at this; cases this) (by have := LG.out; omega) ?_
  intro w42 k1 k2
  have B42 := qa.mk (B7.out.grown k2 B7.out.size (fun k hk => by injection hk with hk; rw [← hk]; exact G4.out))
  have T42 := qa.mk k1
  clear k1 k2
  refine hK.out _ _ ?_
  clear hK K
  refine zO (a' := ?_) ?_ ?_
  rotate_left
  · show Act.put _ (some 42) _ = _
    simp only [Act.put, List.setIfInBounds_toArray, List.set_cons_zero, List.set_cons_succ, qg, qh]
    rfl
  refine jM (by kernel_rfl) ?_
  clear Q4 Q35 B7 d34 y2
  obtain ⟨wC, hW, D4, D3, BC, KC⟩ : ∃ wC, wC = w42 ∧ qa (Kd.C (Kd.int .u8) wC (some ⟨g4, 0, none⟩) 36 (Zy t6 g2)) ∧ qa (Kd.C (Kd.int .u8) wC (some ⟨g3, 0, none⟩) 54 (Zo u2)) ∧ qa (Below w.heap.size w wC) ∧ qa (wC.heap[g1]? = some (Obj.cells (met9 kd u n a d gp A7 A8 A9 adv.length c7 bear.length c8 pl.length c9) 37 (0, 0))) := by
    refine ⟨_, rfl, ⟨?_⟩, ⟨Kd.qO C3.out B42.out⟩, ⟨qc BB.out B42.out⟩, ⟨KW.out _ B42.out⟩⟩
    have e : Zy t6 g2 = splice hh1 34 g2 := by rw [← HB1.out]; rfl
    rw [e]
    have l : (splice hh1 34 g2).length = 36 := by rw [length_splice _ _ _ (by have := L1.out; have := LG.out; omega)]; exact L1.out
    have z := (Kd.qJ T42.out).2.2
    rw [l] at z
    exact z
  rw [← hW]
  clear hW T42 B42 HB1 L1 KW C3 BB KB G4
  have y2 : wC.cell? ⟨g1, 2, none⟩ = some (.int .i64 n) := (qb KC.out 2).trans rfl
  go_upto_region 9 with (first | ((with_reducible refine qX (N := 43) rfl ?_); refine Kd.jQ (Kd.int .u8) _ 5 ?hg (N := 43) ?hd (xs := ([0, 1, 0, 0] : List Int)) (inner := [.int .u8 0, .int .u8 1, .int .u8 0, .int .u8 0]) (ok := fun _ => True) (okp := fun _ => True) ?hr ?hp (fun _ hk => hk) trivial (Below.refl _ _) (Nat.le_refl _) (by simp) ?_; (case hd => rfl); (case hg => rfl); (case hr => first | (go_simp; done) | (go_simp; rfl)); (case hp => exact lit_reps _ _ _ _ _); intro v43 w43 k1 k2 k3 k4; clear k3 k4; obtain ⟨A43, c43, e43⟩ := Kd.qN k1; subst e43; have R43 := qa.mk k1; have B43 := qa.mk k2; have y2b : w43.cell? ⟨g1, 2, none⟩ = some (.int .i64 n) := zJ k2 y2; clear k1 k2) | (go_at_call 48; refine (qm.calls k n 2 g2 w43 HG.out).mono ?_; rintro e w46 ⟨v46, rfl, k1, k2⟩; obtain ⟨A46, c46, e46⟩ := Kd.qN k1; subst e46; have Q46 := qa.mk (Kd.qJ k1).2.2; have R46 := qa.mk (Kd.qM R43.out k2); have B46 := qa.mk (qc B43.out k2); clear k1 k2) | ((with_reducible refine qG (b := .append) (xs := #[.tmp 43, .tmp 46]) rfl ?_); at_builtin; refine Kd.zh (Kd.int .u8) (w0 := wC) wC.heap.size rfl (.tmp 43) (.tmp 46) 23 5 (.int .u8 0) 1 rfl Try.underlying23 info5 rfl (by decide) (by omega) (.slice A43 4 c43) [0, 1, 0, 0] g2 _ _ _ (fun _ => True) (fun _ => False) rfl rfl ?aO ?aR (fun _ _ h => h) (fun _ h => h.elim) ?aF ?aB ?aS ?aL ?_; (case aR => exact Q46.out); (case aB => exact B46.out); (case aF => exact (fun _ _ => trivial)); (case aO => exact R46.out); (case aS => exact B46.out.size); (case aL => have := LG.out; simp; omega); intro v47 w47 k1 k2 k3 k4; have B47 := qa.mk k2; obtain ⟨A47, c47, e47⟩ := Kd.qN k1; subst e47; have C47 := qa.mk (Kd.qJ k1); clear k1 k2 k3 k4))
  clear y2 R43 Q46 R46 B43 B46
  have E4 := qa.mk (Kd.qO D4.out B47.out)
  have E3 := qa.mk (Kd.qO D3.out B47.out)
  have E5 : qa (6 ≤ c47 ∧ Kd.C (Kd.int .u8) w47 A47 6 ([0, 1, 0, 0] ++ g2)) := ⟨by
    have z := C47.out
    have l : ([0, 1, 0, 0] ++ g2).length = 6 := by rw [List.length_append, LG.out]; rfl
    rw [l] at z
    exact z.2⟩
  have KD := qa.mk ((B47.out.block _ (qz KC.out)).trans KC.out)
  have BD := qa.mk (qc BC.out B47.out)
  clear D4 D3 C47 KC BC B47
  rw [show g2.length + 1 + 1 + 1 + 1 = 6 by rw [LG.out]]
  go_upto_region 10 with (first | ((with_reducible refine qX (N := 48) rfl ?_); refine Kd.jQ (Kd.int .u8) _ 5 ?hg (N := 48) ?hd (xs := ([] : List Int)) (inner := []) (ok := fun _ => True) (okp := fun _ => True) ?hr ?hp (fun _ hk => hk) trivial (Below.refl _ _) (Nat.le_refl _) (by simp) ?_; (case hd => rfl); (case hg => rfl); (case hr => first | (go_simp; done) | (go_simp; rfl)); (case hp => exact (qY.none _ _)); intro v48 w48 k1 k2 k3 k4; clear k3 k4; obtain ⟨A48, c48, e48⟩ := Kd.qN k1; subst e48; have R48 := qa.mk k1; have B48 := qa.mk k2; clear k1 k2) | ((with_reducible refine qX (N := 49) rfl ?_); refine Kd.jQ (Kd.int .u8) _ 5 ?hg (N := 49) ?hd (xs := ([] : List Int)) (inner := []) (ok := fun _ => True) (okp := fun _ => True) ?hr ?hp (fun _ hk => hk) trivial (Below.refl _ _) (Nat.le_refl _) (by simp) ?_; (case hd => rfl); (case hg => rfl); (case hr => first | (go_simp; done) | (go_simp; rfl)); (case hp => exact (qY.none _ _)); intro v49 w49 k1 k2 k3 k4; clear k3 k4; obtain ⟨A49, c49, e49⟩ := Kd.qN k1; subst e49; have R49 := qa.mk (Kd.zI (Kd.zF k1 (Kd.za R48.out)) B48.out.size); have P48 := qa.mk (Kd.zo R48.out (Kd.qZ k1) k2); have B49 := qa.mk (qc B48.out k2); clear k1 k2))
  clear R48 B48
  have z6 : w49.cell? ⟨g1, 6, none⟩ = some (.slice A7 adv.length c7) := (qb ((B49.out.block _ (qz KD.out)).trans KD.out) 6).trans rfl
  go_wp2
  go_loopw [6, 53] (fun v6 v53 wr => ∃ (i : Nat) (A6 : Option Addr) (c6 : Nat), v6 = .slice A6 (jS tw i).length c6 ∧ v53 = .int .i64 i ∧ i ≤ adv.length ∧ qa ((jS tw i).length = 4 * i) ∧ qa (Below w47.heap.size w47 wr) ∧ qa (Kd.R (Kd.int .u8) 5 wr w47.heap.size (fun k => some k ≠ (.slice A49 0 c49 : Value).ownBlock) (.slice A6 (jS tw i).length c6) (jS tw i)) ∧ qa (Kd.R (Kd.int .u8) 5 wr w47.heap.size (fun k => some k ≠ (.slice A6 (jS tw i).length c6 : Value).ownBlock) (.slice A49 0 c49) [])) (fun _ v53 _ => adv.length - (intOf v53).toNat)
  case atStart => exact ⟨0, A48, c48, rfl, rfl, Nat.zero_le _, ⟨rfl⟩, B49, ⟨Kd.qH P48.out (fun _ hk => hk.2)⟩, ⟨Kd.qH R49.out (fun _ hk => hk.2)⟩⟩
  case round =>
    obtain ⟨i, A6, c6, rfl, rfl, hi, HL, HB, R6, R7⟩ := hrel
    by_cases ilt : i < adv.length
    · have il := eq_true (show (i : Int) < (adv.length : Int) by omega)
      have il2 := eq_true ilt
      have jl := eq_true (show (i : Int) < (bear.length : Int) by have := LBB.out; omega)
      have jl2 := eq_true (show i < bear.length by have := LBB.out; omega)
      have ip := eq_true (show (0 : Int) ≤ (i : Int) by omega)
      have i64 : (i : Int) + 1 ≤ 9223372036854775807 := by omega
      obtain ⟨ad7, e7, x7⟩ := Kd.Qa H7.out (i : Int) (by omega) (by omega)
      obtain ⟨ad8, e8, x8⟩ := Kd.Qa H8.out (i : Int) (by omega) (by have := LBB.out; omega)
      rw [Int.toNat_natCast] at x7 x8
      have BW := qc BD.out HB.out
      replace x7 := zJ BW x7
      replace x8 := zJ BW x8
      have kr := (HB.out.block _ (qz KD.out)).trans KD.out
      have z6r : wr.cell? ⟨g1, 6, none⟩ = some (.slice A7 adv.length c7) := (qb kr 6).trans rfl
      have z7r : wr.cell? ⟨g1, 7, none⟩ = some (.slice A8 bear.length c8) := (qb kr 7).trans rfl
      obtain ⟨tq, tl⟩ := TW.out i ilt
      obtain ⟨p, hp⟩ : ∃ p, rd adv (i : Int) = p := ⟨_, rfl⟩
      obtain ⟨q, hq⟩ : ∃ q, rd bear (i : Int) = q := ⟨_, rfl⟩
      obtain ⟨t4, ht4⟩ : ∃ q, tw i = q := ⟨_, rfl⟩
      obtain ⟨xs, hxs⟩ : ∃ q, jS tw i = q := ⟨_, rfl⟩
      have n6 := catL_succ tw i
      rw [hp] at x7 tq
      rw [hq] at x8 tq
      rw [ht4, hxs] at n6
      rw [ht4] at tq tl
      rw [hxs] at HL R6 R7 ⊢
      have N6 := qa.mk n6
      have TQ := qa.mk tq
      have TL := qa.mk tl
      clear n6 tq tl hp hq ht4 hxs BW kr
      subst e7 e8
      go_upto_region 13 with fail
      refine jf (n := 15) (S := fun w' => w'.cell? ⟨g1, 6, none⟩ = some (.slice (some ad7) adv.length c7) ∧ w'.cell? ⟨g1, 7, none⟩ = some (.slice (some ad8) bear.length c8) ∧ w'.cell? (ad7.add i) = some (.int .i64 p) ∧ w'.cell? (ad8.add i) = some (.int .i64 q)) (ds := [11, 12, 13]) #[false, false, false, false, false, false, false, false, false, false, false, false, false, false, false] (by kernel_rfl) rfl rfl ⟨z6r, z7r, x7, x8⟩ (fun hHeld => ?_)
      obtain ⟨w6c, hW6, T6c, T7c, B6c⟩ : ∃ w6c, w6c = wr.drew ∧ qa (Kd.R (Kd.int .u8) 5 w6c w47.heap.size (fun k => some k ≠ (.slice A49 0 c49 : Value).ownBlock) (.slice A6 xs.length c6) xs) ∧ qa (Kd.R (Kd.int .u8) 5 w6c w47.heap.size (fun k => some k ≠ (.slice A6 xs.length c6 : Value).ownBlock) (.slice A49 0 c49) []) ∧ qa (Below w47.heap.size w47 w6c) := ⟨_, rfl, ⟨Kd.qw R6.out⟩, ⟨Kd.qw R7.out⟩, ⟨zm HB.out⟩⟩
      rw [← hW6] at hHeld ⊢
      clear hW6 R6 R7 HB
      refine qj (i := 0) (N := some 56) (v := ?_) (a' := ?_) #[true, false, false, false, false, false, false, false, false, false, false, false, false, false, false] rfl rfl (by kernel_rfl) (fun _ _ _ h => h) (Or.inl ⟨by rfl, ?_⟩) ?_ ?_
      rotate_left
      · intro w'
        go_simp
        with_reducible rfl
      rotate_left
      · simp only [Act.put, List.setIfInBounds_toArray, List.set_cons_zero, List.set_cons_succ, qg, qh]
        rfl
      refine qj (i := 1) (N := some 57) (v := ?_) (a' := ?_) #[true, true, false, false, false, false, false, false, false, false, false, false, false, false, false] rfl rfl (by kernel_rfl) (fun _ _ _ h => h) (Or.inl ⟨by rfl, ?_⟩) ?_ ?_
      rotate_left
      · intro w'
        go_simp
        with_reducible rfl
      rotate_left
      · simp only [Act.put, List.setIfInBounds_toArray, List.set_cons_zero, List.set_cons_succ, qg, qh]
        rfl
      refine qj (i := 3) (N := some 59) (v := ?_) (a' := ?_) #[true, true, false, true, false, false, false, false, false, false, false, false, false, false, false] rfl rfl (by kernel_rfl) (fun _ _ _ h => h) (Or.inl ⟨by rfl, ?_⟩) ?_ ?_
      rotate_left
      · intro w'
        go_simp
        with_reducible rfl
      rotate_left
      · simp only [Act.put, List.setIfInBounds_toArray, List.set_cons_zero, List.set_cons_succ, qg, qh]
        rfl
      refine qj (i := 6) (N := some 62) (v := ?_) (a' := ?_) #[true, true, false, true, false, false, true, false, false, false, false, false, false, false, false] rfl rfl (by kernel_rfl) (fun _ _ _ h => h) (Or.inl ⟨by rfl, ?_⟩) ?_ ?_
      rotate_left
      · intro w'
        go_simp
        with_reducible rfl
      rotate_left
      · simp only [Act.put, List.setIfInBounds_toArray, List.set_cons_zero, List.set_cons_succ, qg, qh]
        rfl
      refine qj (i := 8) (N := some 64) (v := ?_) (a' := ?_) #[true, true, false, true, false, false, true, false, true, false, false, false, false, false, false] rfl rfl (by kernel_rfl) (fun _ _ _ h => h) (Or.inl ⟨by rfl, ?_⟩) ?_ ?_
      rotate_left
      · intro w'
        go_simp
        with_reducible rfl
      rotate_left
      · simp only [Act.put, List.setIfInBounds_toArray, List.set_cons_zero, List.set_cons_succ, qg, qh]
        rfl
      refine zq (i := 2) (N := some 58) (v := ?_) (a' := ?_) #[true, true, true, true, false, false, true, false, true, false, false, false, false, false, false] rfl rfl (by kernel_rfl) (fun _ _ _ h => h) (Or.inl ⟨by rfl, ?_⟩) hHeld ?_ ?_
      rotate_left
      · rintro w' ⟨s0, s1, s2, s3⟩
        go_simp
        with_reducible rfl
      rotate_left
      · simp only [Act.put, List.setIfInBounds_toArray, List.set_cons_zero, List.set_cons_succ, qg, qh]
        rfl
      refine qj (i := 4) (N := some 60) (v := ?_) (a' := ?_) #[true, true, true, true, true, false, true, false, true, false, false, false, false, false, false] rfl rfl (by kernel_rfl) (fun _ _ _ h => h) (Or.inl ⟨by rfl, ?_⟩) ?_ ?_
      rotate_left
      · intro w'
        go_simp
        with_reducible rfl
      rotate_left
      · simp only [Act.put, List.setIfInBounds_toArray, List.set_cons_zero, List.set_cons_succ, qg, qh]
        rfl
      refine zq (i := 5) (N := some 61) (v := ?_) (a' := ?_) #[true, true, true, true, true, true, true, false, true, false, false, false, false, false, false] rfl rfl (by kernel_rfl) (fun _ _ _ h => h) (Or.inl ⟨by rfl, ?_⟩) hHeld ?_ ?_
      rotate_left
      · rintro w' ⟨s0, s1, s2, s3⟩
        go_simp
        with_reducible rfl
      rotate_left
      · simp only [Act.put, List.setIfInBounds_toArray, List.set_cons_zero, List.set_cons_succ, qg, qh]
        rfl
      refine zq (i := 7) (N := some 63) (v := ?_) (a' := ?_) #[true, true, true, true, true, true, true, true, true, false, false, false, false, false, false] rfl rfl (by kernel_rfl) (fun _ _ _ h => h) (Or.inl ⟨by rfl, ?_⟩) hHeld ?_ ?_
      rotate_left
      · rintro w' ⟨s0, s1, s2, s3⟩
        go_simp
        with_reducible rfl
      rotate_left
      · simp only [Act.put, List.setIfInBounds_toArray, List.set_cons_zero, List.set_cons_succ, qg, qh]
        rfl
      refine qj (i := 9) (N := some 65) (v := ?_) (a' := ?_) #[true, true, true, true, true, true, true, true, true, true, false, false, false, false, false] rfl rfl (by kernel_rfl) (fun _ _ _ h => h) (Or.inl ⟨by rfl, ?_⟩) ?_ ?_
      rotate_left
      · intro w'
        go_simp
        with_reducible rfl
      rotate_left
      · simp only [Act.put, List.setIfInBounds_toArray, List.set_cons_zero, List.set_cons_succ, qg, qh]
        rfl
      refine zq (i := 10) (N := some 66) (v := ?_) (a' := ?_) #[true, true, true, true, true, true, true, true, true, true, true, false, false, false, false] rfl rfl (by kernel_rfl) (fun _ _ _ h => h) (Or.inl ⟨by rfl, ?_⟩) hHeld ?_ ?_
      rotate_left
      · rintro w' ⟨s0, s1, s2, s3⟩
        go_simp
        with_reducible rfl
      rotate_left
      · simp only [Act.put, List.setIfInBounds_toArray, List.set_cons_zero, List.set_cons_succ, qg, qh]
        rfl
      refine zS (i := 11) (N := some 67) #[true, true, true, true, true, true, true, true, true, true, true, true, false, false, false] rfl rfl (by kernel_rfl) (by decide) (fun K hK => ?_)
      refine QD (w1 := ?_) (v := ?_) (by rfl) rfl ?_ ?_
      rotate_left 2
      · go_simp
        constructor
        · rfl
        · rfl
      have C22 := qa.mk (C_two (k := .i64) (zk w6c (Obj.cells #[.int .i64 p, .int .i64 q] 3)))
      have B7 := qa.mk (qF B6c.out (Obj.cells #[.int .i64 p, .int .i64 q] 3))
      have U6 := qa.mk (Kd.qp T6c.out (Obj.cells #[.int .i64 p, .int .i64 q] 3))
      have U7 := qa.mk (Kd.qp T7c.out (Obj.cells #[.int .i64 p, .int .i64 q] 3))
      refine hK.out _ _ ?_
      clear hK K
      refine zO (a' := ?_) ?_ ?_
      rotate_left
      · show Act.put _ (some 67) _ = _
        simp only [Act.put, List.setIfInBounds_toArray, List.set_cons_zero, List.set_cons_succ, qg, qh]
        rfl
      refine zS (i := 12) (N := some 68) #[true, true, true, true, true, true, true, true, true, true, true, true, true, false, false] rfl rfl (by kernel_rfl) (by decide) (fun K hK => ?_)
      refine Qk Try.func49 (by kernel_rfl) rfl #[.slice (some ⟨w6c.heap.size, 0, none⟩) 2 2] (by rfl) rfl rfl (by simp only [List.map_toArray, List.map_cons, List.map_nil]; rfl) ?_
      with_reducible refine ((two_two k w6c.heap.size p q t4 (w6c.alloc (Obj.cells #[.int .i64 p, .int .i64 q] 3)) C22.out TQ.out)).mono ?_
      rintro e w8 ⟨v8, rfl, k1, k2⟩
      refine ⟨_, rfl, ?_⟩
      have F8 := qa.mk (Kd.zo U6.out (Kd.qZ k1) k2)
      obtain ⟨A68, c68, e68⟩ := Kd.qN k1
      subst e68
      have Q68 := qa.mk (Kd.qJ k1).2.2
      have W6 := qa.mk (Kd.qM U6.out k2)
      have W7 := qa.mk (Kd.qM U7.out k2)
      have B8 := qa.mk (qc B7.out k2)
      clear k1 k2
      refine hK.out _ _ ?_
      clear hK K
      refine zO (a' := ?_) ?_ ?_
      rotate_left
      · show Act.put _ (some 68) _ = _
        simp only [Act.put, List.setIfInBounds_toArray, List.set_cons_zero, List.set_cons_succ, qg, qh]
        rfl
      refine zS (i := 13) (N := some 69) #[true, true, true, true, true, true, true, true, true, true, true, true, true, true, false] rfl rfl (by kernel_rfl) (by decide) (fun K hK => ?_)
      refine Kd.Jn (Kd.int .u8) (w0 := w47) w47.heap.size (by rfl) (.tmp 56) (.tmp 68) 23 5 (.int .u8 0) 1 rfl Try.underlying23 info5 rfl (by decide) (by omega) (.slice A6 xs.length c6) xs t4 A68 t4.length c68 (fun k => some k ≠ (.slice A49 0 c49 : Value).ownBlock) (fun _ => False) rfl rfl W6.out Q68.out (fun _ _ h => h) (fun _ h => h.elim) (fun k_ hk => Kd.fresh' (Kd.za W7.out) k_ hk) B8.out B8.out.size (by have := HL.out; have := TL.out; omega) ?_
      intro v69 w69 k1 k2 k3 k4
      have B69 := qa.mk k2
      have M7 := qa.mk (Kd.zb (ok := fun _ => True) (Kd.qH W7.out (fun _ hk => ⟨trivial, hk⟩)) k3 k4)
      obtain ⟨A69, c69, e69⟩ := Kd.qN k1
      subst e69
      have M6 := qa.mk k1
      clear k1 k2 k3 k4
      refine hK.out _ _ ?_
      clear hK K
      refine zO (a' := ?_) ?_ ?_
      rotate_left
      · show Act.put _ (some 69) _ = _
        simp only [Act.put, List.setIfInBounds_toArray, List.set_cons_zero, List.set_cons_succ, qg, qh]
        rfl
      refine qj (i := 14) (N := some 6) (v := ?_) (a' := ?_) #[true, true, true, true, true, true, true, true, true, true, true, true, true, true, true] rfl rfl (by kernel_rfl) (fun _ _ _ h => h) (Or.inl ⟨by rfl, ?_⟩) ?_ ?_
      rotate_left
      · intro w'
        go_simp
        with_reducible rfl
      rotate_left
      · simp only [Act.put, List.setIfInBounds_toArray, List.set_cons_zero, List.set_cons_succ, qg, qh]
        rfl
      refine jM (by kernel_rfl) ?_
      go_wp2
      refine ⟨⟨i + 1, A69, c69, ?_, by push_cast; rfl, by omega, ⟨?_⟩, B69, ⟨?_⟩, ⟨?_⟩⟩, ?_⟩
      · rw [N6.out]
        first | rfl | (rw [List.length_append]; done) | (rw [List.length_append]; rfl)
      · rw [N6.out, List.length_append, HL.out, TL.out]
        omega
      · rw [N6.out]
        exact M6.out
      · rw [N6.out]
        exact Kd.qH M7.out (fun _ hk => hk.2)
      · show (_ : Nat) < _
        simp only [intOf]
        omega
    · have il := eq_false (show ¬ (i : Int) < (adv.length : Int) by omega)
      have il2 := eq_false ilt
      obtain rfl : i = adv.length := by omega
      obtain ⟨hm, hhm⟩ : ∃ q, jS tw adv.length = q := ⟨_, rfl⟩
      rw [hhm] at HL R6 R7 ⊢
      have HM := qa.mk hhm
      have R6 := qa.mk R6.out
      clear hhm R49 P48 B49 z6
      have kr := qa.mk ((HB.out.block _ (qz KD.out)).trans KD.out)
      have z8 : wr.cell? ⟨g1, 8, none⟩ = some (.slice A9 pl.length c9) := (qb kr.out 8).trans rfl
      have J7 : qa (Kd.R (Kd.int .u8) 5 wr w47.heap.size (fun k => some k ≠ (.slice A6 hm.length c6 : Value).ownBlock) (.slice A49 (jS bg 0).length c49) (jS bg 0)) := ⟨R7.out⟩
      clear R7 il il2
      go_wp2
      go_loopw [7, 74] (fun v7 v74 wq => ∃ (j : Nat) (A7' : Option Addr) (c7' : Nat), v7 = .slice A7' (jS bg j).length c7' ∧ v74 = .int .i64 j ∧ j ≤ pl.length ∧ qa ((jS bg j).length = 4 * j) ∧ qa (Below w47.heap.size w47 wq) ∧ qa (Kd.R (Kd.int .u8) 5 wq w47.heap.size (fun k => some k ≠ (.slice A6 hm.length c6 : Value).ownBlock) (.slice A7' (jS bg j).length c7') (jS bg j)) ∧ qa (Kd.R (Kd.int .u8) 5 wq w47.heap.size (fun k => some k ≠ (.slice A7' (jS bg j).length c7' : Value).ownBlock) (.slice A6 hm.length c6) hm)) (fun _ v74 _ => pl.length - (intOf v74).toNat)
      case atStart => exact ⟨0, A49, c49, rfl, rfl, Nat.zero_le _, ⟨rfl⟩, HB, J7, R6⟩
      case round =>
        clear R6 J7 HB kr z8
        obtain ⟨j, Aq, cq, rfl, rfl, hj, HLq, HB, R7, R6⟩ := hrel
        by_cases jlt : j < pl.length
        · have il := eq_true (show (j : Int) < (pl.length : Int) by omega)
          have il2 := eq_true jlt
          have ip := eq_true (show (0 : Int) ≤ (j : Int) by omega)
          have i64 : (j : Int) + 1 ≤ 9223372036854775807 := by omega
          obtain ⟨ad9, e9, x9⟩ := Kd.Qa H9.out (j : Int) (by omega) (by omega)
          rw [Int.toNat_natCast] at x9
          replace x9 := zJ (qc BD.out HB.out) x9
          have bq := BG.out j jlt
          have bl := ZJ bq
          obtain ⟨p, hp⟩ : ∃ p, rd pl (j : Int) = p := ⟨_, rfl⟩
          obtain ⟨b4, hb4⟩ : ∃ q, bg j = q := ⟨_, rfl⟩
          obtain ⟨xs, hxs⟩ : ∃ q, jS bg j = q := ⟨_, rfl⟩
          have n6 := catL_succ bg j
          rw [hp] at x9 bq
          rw [hb4, hxs] at n6
          rw [hb4] at bq bl
          rw [hxs] at HLq R6 R7 ⊢
          have N6 := qa.mk n6
          have BQ := qa.mk bq
          have TL : qa (b4.length = 4) := ⟨bl⟩
          clear n6 bq bl hp hb4 hxs
          subst e9
          go_wp2_with (first | (go_at_call 48; refine (qm.calls k p 4 b4 wr BQ.out).mono ?_; rintro e w80 ⟨v80, rfl, k1, k2⟩; obtain ⟨A80, c80, e80⟩ := Kd.qN k1; subst e80; have Q80 := qa.mk (Kd.qJ k1).2.2; have W7 := qa.mk (Kd.qM R7.out k2); have W6 := qa.mk (Kd.qM R6.out k2); have B8 := qa.mk (qc HB.out k2); clear k1 k2) | ((with_reducible refine qG (b := .append) (xs := #[.tmp 78, .tmp 80]) rfl ?_); at_builtin; refine Kd.zh (Kd.int .u8) (w0 := w47) w47.heap.size rfl (.tmp 78) (.tmp 80) 23 5 (.int .u8 0) 1 rfl Try.underlying23 info5 rfl (by decide) (by omega) (.slice Aq xs.length cq) xs b4 _ _ _ (fun k => some k ≠ (.slice A6 hm.length c6 : Value).ownBlock) (fun _ => False) rfl rfl ?aO ?aR (fun _ _ h => h) (fun _ h => h.elim) ?aF ?aB ?aS ?aL ?_; (case aR => exact Q80.out); (case aB => exact B8.out); (case aF => exact (fun k_ hk => Kd.fresh' (Kd.za W6.out) k_ hk)); (case aO => exact W7.out); (case aS => exact B8.out.size); (case aL => have := HLq.out; have := TL.out; omega); intro v69 w69 k1 k2 k3 k4; have B69 := qa.mk k2; have M6 := qa.mk (Kd.zb (ok := fun _ => True) (Kd.qH W6.out (fun _ hk => ⟨trivial, hk⟩)) k3 k4); obtain ⟨A69, c69, e69⟩ := Kd.qN k1; subst e69; have M7 := qa.mk k1; clear k1 k2 k3 k4))
          refine ⟨⟨j + 1, A69, c69, ?_, by push_cast; rfl, by omega, ⟨?_⟩, B69, ⟨?_⟩, ⟨?_⟩⟩, ?_⟩
          · rw [N6.out]
            first | rfl | (rw [List.length_append]; done) | (rw [List.length_append]; rfl)
          · rw [N6.out, List.length_append, HLq.out, TL.out]
            omega
          · rw [N6.out]
            exact M7.out
          · rw [N6.out]
            exact Kd.qH M6.out (fun _ hk => hk.2)
          · show (_ : Nat) < _
            simp only [intOf]
            omega
        · have il := eq_false (show ¬ (j : Int) < (pl.length : Int) by omega)
          have il2 := eq_false jlt
          obtain rfl : j = pl.length := by omega
          obtain ⟨lo, hlo⟩ : ∃ q, jS bg pl.length = q := ⟨_, rfl⟩
          rw [hlo] at HLq R6 R7 ⊢
          have LO := qa.mk hlo
          clear hlo
          have PH := qa.mk (Jm wr ⟨#[104, 101, 97, 100]⟩ (Zo u2) 54 (some ⟨g3, 0, none⟩) c3 (E3.out.1) k6 (Kd.qO E3.out HB.out))
          have PA := qa.mk (Jm wr ⟨#[104, 104, 101, 97]⟩ (Zy t6 g2) 36 (some ⟨g4, 0, none⟩) c4 (E4.out.1) k7 (Kd.qO E4.out HB.out))
          have PM := qa.mk (Jm wr ⟨#[104, 109, 116, 120]⟩ hm hm.length A6 c6 rfl (Kd.qJ R6.out).2.1 (Kd.qJ R6.out).2.2)
          have PL := qa.mk (Jm wr ⟨#[108, 111, 99, 97]⟩ lo lo.length Aq cq rfl (Kd.qJ R7.out).2.1 (Kd.qJ R7.out).2.2)
          have PX := qa.mk (Jm wr ⟨#[109, 97, 120, 112]⟩ ([0, 1, 0, 0] ++ g2) 6 A47 c47 (E5.out.2.1) E5.out.1 (Kd.qO E5.out.2 HB.out))
          go_upto_region 21 with ((with_reducible refine qX (N := 89) rfl ?_); refine Kd.jQ (Kd.fixed k50 wr) _ 50 ?hg (N := 89) ?hd (xs := ([⟨⟨#[104, 101, 97, 100]⟩, Zo u2⟩, ⟨⟨#[104, 104, 101, 97]⟩, Zy t6 g2⟩, ⟨⟨#[104, 109, 116, 120]⟩, hm⟩] : List S50)) (inner := [.string ⟨#[104, 101, 97, 100]⟩, .slice (some ⟨g3, 0, none⟩) 54 c3, .string ⟨#[104, 104, 101, 97]⟩, .slice (some ⟨g4, 0, none⟩) 36 c4, .string ⟨#[104, 109, 116, 120]⟩, .slice A6 hm.length c6]) (ok := fun _ => True) (okp := fun _ => True) ?hr ?hp (fun _ hk => hk) trivial (Below.refl _ _) (Nat.le_refl _) (by simp) ?_; (case hd => rfl); (case hg => rfl); (case hr => first | (go_simp; done) | (go_simp; rfl)); (case hp => exact qY.front PH.out rfl (qY.front PA.out rfl (qY.front PM.out rfl (qY.none _ _) rfl) rfl) rfl); intro v89 w89 k1 k2 k3 k4; clear k3 k4; obtain ⟨A89, c89, e89⟩ : ∃ A c, v89 = .slice A 3 c := Kd.qN k1; subst e89; have R89 := qa.mk k1; have B89 := qa.mk k2; clear k1 k2)
          have BE := qa.mk (qc BD.out HB.out)
          by_cases cl : lo = []
          · have l0 := eq_false (show ¬ 0 < lo.length by rw [cl]; decide)
            have l0b : decide (0 < lo.length) = false := decide_eq_false (by rw [cl]; decide)
            have CL := qa.mk cl
            clear cl
            go_wp2_with ((with_reducible refine qG (b := .append) (xs := #[.tmp 98, .tmp 101]) rfl ?_); at_builtin; refine Kd.zM (Kd.fixed k50 wr) (w0 := wr) wr.heap.size rfl (.tmp 98) (.tmp 101) 46 50 (.agg #[(.string ⟨#[]⟩), (.slice none 0 0)]) 40 rfl Try.underlying46 Zp rfl (show 0 < 2 by decide) (by omega) (.slice A89 3 c89) ([⟨⟨#[104, 101, 97, 100]⟩, Zo u2⟩, ⟨⟨#[104, 104, 101, 97]⟩, Zy t6 g2⟩, ⟨⟨#[104, 109, 116, 120]⟩, hm⟩] : List S50) ⟨⟨#[109, 97, 120, 112]⟩, [0, 1, 0, 0] ++ g2⟩ [.string ⟨#[109, 97, 120, 112]⟩, .slice A47 6 c47] (fun _ => True) (fun _ => False) rfl (by first | (go_simp; done) | (go_simp; rfl)) ?aP (fun _ hk => hk.elim) ?aF ?aO ?aB ?aS ?aL ?_; (case aP => exact PX.out); (case aF => exact fun _ _ => trivial); (case aO => exact R89.out); (case aB => exact B89.out); (case aS => exact qi B89.out); (case aL => exact Nat.le_of_ble_eq_true rfl); intro v102 w102 k1 k2 k3 k4; obtain ⟨A102, c102, e102⟩ := Kd.qN k1; subst e102; have R102 := qa.mk k1; have B102 := qa.mk k2; clear k1 k2 k3 k4)
            go_ret
            refine ⟨_, wr, rfl, ?_, B102.out, BE.out⟩
            rw [HM.out, LO.out]
            unfold Zc
            rw [if_pos CL.out]
            exact R102.out
          · have lp := List.length_pos_iff.2 cl
            have l0 := eq_true (show 0 < lo.length from lp)
            have l0b : decide (0 < lo.length) = true := decide_eq_true lp
            have CL := qa.mk cl
            clear cl lp
            go_wp2_with (first | ((with_reducible refine qG (b := .append) (xs := #[.tmp 93, .tmp 96]) rfl ?_); at_builtin; refine Kd.zM (Kd.fixed k50 wr) (w0 := wr) wr.heap.size rfl (.tmp 93) (.tmp 96) 46 50 (.agg #[(.string ⟨#[]⟩), (.slice none 0 0)]) 40 rfl Try.underlying46 Zp rfl (show 0 < 2 by decide) (by omega) (.slice A89 3 c89) ([⟨⟨#[104, 101, 97, 100]⟩, Zo u2⟩, ⟨⟨#[104, 104, 101, 97]⟩, Zy t6 g2⟩, ⟨⟨#[104, 109, 116, 120]⟩, hm⟩] : List S50) ⟨⟨#[108, 111, 99, 97]⟩, lo⟩ [.string ⟨#[108, 111, 99, 97]⟩, .slice Aq lo.length cq] (fun _ => True) (fun _ => False) rfl (by first | (go_simp; done) | (go_simp; rfl)) ?aP (fun _ hk => hk.elim) ?aF ?aO ?aB ?aS ?aL ?_; (case aP => exact PL.out); (case aF => exact fun _ _ => trivial); (case aO => exact R89.out); (case aB => exact B89.out); (case aS => exact qi B89.out); (case aL => exact Nat.le_of_ble_eq_true rfl); intro v97 w97 k1 k2 k3 k4; obtain ⟨A97, c97, e97⟩ := Kd.qN k1; subst e97; have R97 := qa.mk k1; have B97 := qa.mk k2; clear k1 k2 k3 k4) | ((with_reducible refine qG (b := .append) (xs := #[.tmp 98, .tmp 101]) rfl ?_); at_builtin; refine Kd.zM (Kd.fixed k50 wr) (w0 := wr) wr.heap.size rfl (.tmp 98) (.tmp 101) 46 50 (.agg #[(.string ⟨#[]⟩), (.slice none 0 0)]) 40 rfl Try.underlying46 Zp rfl (show 0 < 2 by decide) (by omega) (.slice A97 4 c97) (([⟨⟨#[104, 101, 97, 100]⟩, Zo u2⟩, ⟨⟨#[104, 104, 101, 97]⟩, Zy t6 g2⟩, ⟨⟨#[104, 109, 116, 120]⟩, hm⟩] : List S50) ++ [⟨⟨#[108, 111, 99, 97]⟩, lo⟩]) ⟨⟨#[109, 97, 120, 112]⟩, [0, 1, 0, 0] ++ g2⟩ [.string ⟨#[109, 97, 120, 112]⟩, .slice A47 6 c47] (fun _ => True) (fun _ => False) rfl (by first | (go_simp; done) | (go_simp; rfl)) ?aP (fun _ hk => hk.elim) ?aF ?aO ?aB ?aS ?aL ?_; (case aP => exact PX.out); (case aF => exact fun _ _ => trivial); (case aO => exact R97.out); (case aB => exact B97.out); (case aS => exact qi B97.out); (case aL => exact Nat.le_of_ble_eq_true rfl); intro v102 w102 k1 k2 k3 k4; obtain ⟨A102, c102, e102⟩ := Kd.qN k1; subst e102; have R102 := qa.mk k1; have B102 := qa.mk k2; clear k1 k2 k3 k4))
            go_ret
            refine ⟨_, wr, rfl, ?_, B102.out, BE.out⟩
            rw [HM.out, LO.out]
            unfold Zc
            rw [if_neg CL.out]
            exact R102.out
end Go.Proofs.Ytonljpciadeafaa.S
