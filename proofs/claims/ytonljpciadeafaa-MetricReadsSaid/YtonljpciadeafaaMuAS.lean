import Derived.Test.YtonljpciadeafaaSx0
import Derived.Test.YtonljpciadeafaaSxPA
import Derived.Test.YtonljpciadeafaaMtPES
import Derived.Lib.Bytes
import Derived.Deep.QuietTactic
import Derived.BigQuiet
set_option linter.unusedVariables false
set_option linter.unusedSimpArgs false
namespace Go.Proofs.Ytonljpciadeafaa.S
open Go Go.RowKit Go.Proofs.YtonljpciadeafaaW.PrintWords Go.Proofs.YtonljpciadeafaaW.PrintLast Go.Proofs.YtonljpciadeafaaW.PrintMore
theorem less_tri : ∀ (a b : List UInt8), Op.bytesLess b a = (!Op.bytesLess a b && !(a == b))
  | [], [] => rfl
  | [], _ :: _ => rfl
  | _ :: _, [] => rfl
  | a :: x, b :: y => by
    have ih := less_tri x y
    simp only [Op.bytesLess, ih]
    rcases Nat.lt_trichotomy a.toNat b.toNat with h | h | h
    · have h1 : a < b := h
      have h2 : ¬ b < a := fun q => by have : b.toNat < a.toNat := q; omega
      have h3 : ¬ b = a := fun q => by subst q; omega
      simp [h1, h2, h3]
    · have h1 : a = b := UInt8.toNat_inj.1 h
      subst h1
      have h2 : ¬ a < a := fun q => by have : a.toNat < a.toNat := q; omega
      simp [h2]
    · have h1 : b < a := h
      have h2 : ¬ a < b := fun q => by have : a.toNat < b.toNat := q; omega
      have h3 : ¬ a = b := fun q => by subst q; omega
      simp [h1, h2, h3]
def lastT (acc : List S71) : ByteArray := if acc.length = 0 then ⟨#[]⟩ else (QR acc ((acc.length - 1 : Nat) : Int)).f0
theorem lastT_snoc (acc : List S71) (x : S71) : lastT (acc ++ [x]) = x.f0 := by
  unfold lastT QR
  rw [if_neg (by simp), List.length_append, List.length_singleton, Nat.add_sub_cancel, Int.toNat_natCast, List.getD_eq_getElem?_getD, List.getElem?_append_right (Nat.le_refl _), Nat.sub_self]
  rfl
theorem rowV_no16 {bs : List Int} {p : Int} {last : ByteArray} (h : hasB bs p 16 = false) : (Qe bs p last).2 = 31 := by
  have f : ¬ (hasB bs p 4 = true ∧ hasB bs (p + 12) 4 = true) := fun ⟨h1, h2⟩ => by
    have a1 := (jV bs p 4).1 h1
    have a2 := (jV bs (p + 12) 4).1 h2
    have := (jV bs p 16).2 ⟨a1.1, by decide, by omega⟩
    rw [this] at h
    cases h
  unfold Qe Ql
  cases h1 : hasB bs p 4 with
  | false => rw [QX h1, if_pos (by decide)]
  | true =>
    cases h2 : hasB bs (p + 12) 4 with
    | true => exact absurd ⟨h1, h2⟩ f
    | false =>
      rw [Zr h2, if_neg (by rw [Qg h1]; exact fun h => h rfl)]
      split
      · rfl
      · split
        · rfl
        · rw [if_pos (by decide)]
theorem rowV_16 {bs : List Int} {p : Int} {last : ByteArray} (h : hasB bs p 16 = true) : Qe bs p last = Ql 0 0 0 0 (strOfNums (ze bs p 4).1) last (qI bs (p + 4) 4).1 (qI bs (p + 8) 4).1 (qI bs (p + 12) 4).1 (ze bs (qI bs (p + 8) 4).1 (qI bs (p + 12) 4).1) := by
  have a := (jV bs p 16).1 h
  have g : ∀ q : Int, p ≤ q → q ≤ p + 12 → hasB bs q 4 = true := fun q q1 q2 => (jV bs q 4).2 ⟨by omega, by decide, by omega⟩
  have e1 : (ze bs p 4).2 = 0 := by rw [Qg (g p (by omega) (by omega))]
  unfold Qe
  rw [e1, QW (g (p + 4) (by omega) (by omega)), QW (g (p + 8) (by omega) (by omega)), QW (g (p + 12) (by omega) (by omega))]
theorem Zq {tg last : ByteArray} {su pl sz : Int} {C : List Int × Int} (h : Op.bytesLess tg.toList last.toList = true ∨ (tg.toList == last.toList) = true ∨ Int.tmod pl 4 ≠ 0 ∨ C.2 ≠ 0) : (Ql 0 0 0 0 tg last su pl sz C).2 = 31 := by
  unfold Ql
  have n0 : ¬ ((0 : Int) ≠ 0) := fun h => h rfl
  rw [if_neg n0, if_neg n0, if_neg n0, if_neg n0]
  by_cases h1 : Op.bytesLess tg.toList last.toList = true
  · rw [if_pos h1]
  · rw [if_neg h1]
    by_cases h2 : (tg.toList == last.toList) = true
    · rw [if_pos h2]
    · rw [if_neg h2]
      by_cases h3 : Int.tmod pl 4 ≠ 0
      · rw [if_pos h3]
      · rw [if_neg h3]
        rw [if_pos (by rcases h with h | h | h | h; exact absurd h h1; exact absurd h h2; exact absurd h h3; exact h)]
theorem rowW_sum {tg last : ByteArray} {su pl sz : Int} {L : List Int} (h1 : Op.bytesLess tg.toList last.toList = false) (h2 : (tg.toList == last.toList) = false) (h3 : Int.tmod pl 4 = 0) (h4 : (tg.toList == [104, 101, 97, 100]) = false) (h5 : QM L ≠ su) : Ql 0 0 0 0 tg last su pl sz (L, 0) = (z71, 31) := by
  unfold Ql
  have n0 : ¬ ((0 : Int) ≠ 0) := fun h => h rfl
  rw [if_neg n0, if_neg n0, if_neg n0, if_neg n0, if_neg (by rw [h1]; decide), if_neg (by rw [h2]; decide), if_neg (by rw [h3]; exact n0), if_neg n0, if_neg (by rw [h4]; decide), if_pos h5]
theorem rowW_yes {tg last : ByteArray} {su pl sz : Int} {L : List Int} (h1 : Op.bytesLess tg.toList last.toList = false) (h2 : (tg.toList == last.toList) = false) (h3 : Int.tmod pl 4 = 0) (h4 : QM L = su) : Ql 0 0 0 0 tg last su pl sz (L, 0) = (⟨tg, pl, sz⟩, 0) := by
  unfold Ql
  have n0 : ¬ ((0 : Int) ≠ 0) := fun h => h rfl
  rw [if_neg n0, if_neg n0, if_neg n0, if_neg n0, if_neg (by rw [h1]; decide), if_neg (by rw [h2]; decide), if_neg (by rw [h3]; exact n0), if_neg n0]
  by_cases c : (tg.toList == [104, 101, 97, 100]) = true
  · rw [if_pos c]
  · rw [if_neg c, if_neg (fun h => h h4)]
theorem rowW_head {tg last : ByteArray} {su pl sz : Int} {L : List Int} (h1 : Op.bytesLess tg.toList last.toList = false) (h2 : (tg.toList == last.toList) = false) (h3 : Int.tmod pl 4 = 0) (h4 : (tg.toList == [104, 101, 97, 100]) = true) : Ql 0 0 0 0 tg last su pl sz (L, 0) = (⟨tg, pl, sz⟩, 0) := by
  unfold Ql
  have n0 : ¬ ((0 : Int) ≠ 0) := fun h => h rfl
  rw [if_neg n0, if_neg n0, if_neg n0, if_neg n0, if_neg (by rw [h1]; decide), if_neg (by rw [h2]; decide), if_neg (by rw [h3]; exact n0), if_neg n0, if_pos h4]
theorem tag_len {bs : List Int} {p : Int} (h : hasB bs p 16 = true) : (strOfNums (ze bs p 4).1).toList.length = 4 := by
  have a := (jV bs p 16).1 h
  rw [Lib.strOfNums_toList, Lib.bytesOf_length, Qg ((jV bs p 4).2 ⟨a.1, by decide, by omega⟩)]
  dsimp only
  rw [List.length_drop, List.length_take]
  omega
theorem hasq (bs : List Int) (A : Option Addr) (c : Nat) (p n : Int) (w w2 : World) (hb : Below w.heap.size w w2) (hr : Kd.C (Kd.int .u8) w A bs.length bs) (hc : bs.length ≤ c) (hl : bs.length ≤ 1099511627776) (k : Nat) : Calls Try.prog 30 #[.slice A bs.length c, .int .i64 p, .int .i64 n] (w2.drewN k) fun e w' => e = .returned (.bool (hasB bs p n)) ∧ ∃ m, w' = w2.drewN m :=
  Calls.quiet_of ((jw.calls A c bs p n (hasB bs p n) (w2.drewN k) (Kd.zG (Kd.qO hr hb) k) hc (has_eq bs p n hl)).mono fun e w' h => ⟨h.1, by obtain ⟨m, e⟩ := h.2; exact ⟨m, e⟩⟩)
def OpenRP (R : (Int × List S71) × Int) (bs : List Int) (A : Option Addr) (c : Nat) (w : World) (e : Ending) (w' : World) : Prop := Below w.heap.size w w' ∧
  (R.2 ≠ 0 ∧ e = .returned (.tuple #[.agg (zA 0 none 0 0 none 0 0), .int .i64 R.2]) ∨ R.2 = 0 ∧ ∃ A1 c1, e = .returned (.tuple #[.agg (zA R.1.1 A1 R.1.2.length c1 A bs.length c), .int .i64 0]) ∧ R.1.2.length ≤ c1 ∧ Kd.C k71 w' A1 R.1.2.length R.1.2)
theorem res14 (tmps : Array Value) (g : Nat) (kd : Int) (A1 : Option Addr) (n1 c1 : Nat) (A2 : Option Addr) (n2 c2 : Nat) (E : Int) (w : World) (h4 : tmps[4]?.getD undef = .pointer (some ⟨g, 0, none⟩)) (h5 : tmps[5]?.getD undef = .int .i64 E)
    (hm : w.heap[g]? = some (.cells (zA kd A1 n1 c1 A2 n2 c2) 28 (0, 0))) :
    (results Try.f14 tmps).run Try.prog w = .ok (.tuple #[.agg (zA kd A1 n1 c1 A2 n2 c2), .int .i64 E]) w := by
  have m0 := qb hm 0
  have m1 := qb hm 1
  have m2 := qb hm 2
  clear hm
  simp [results, Try.results14, go_sem, h4, h5, m0, m1, m2]
theorem Qv (bs : List Int) (A : Option Addr) (c : Nat) (w : World) (tmps : Array Value) (g : Nat) (W : World) (x : Int × List S71) {E : Int} (hm : W.heap[g]? = some (.cells (zA 0 none 0 0 none 0 0) 28 (0, 0))) (h4 : tmps[4]?.getD undef = .pointer (some ⟨g, 0, none⟩)) (h5 : tmps[5]?.getD undef = .int .i64 E)
    (hb : Below w.heap.size w W) (hg : w.heap.size ≤ g) (e : je bs 0 = (x, E)) (hE : E ≠ 0) : bodyPost Try.prog Try.f14 (OpenRP (je bs 0) bs A c w) Exit.ret { tmps := tmps, defers := [] } (W.setRow g (zA 0 none 0 0 none 0 0)) := by
  refine bodyPost_ret (res14 tmps g 0 none 0 0 none 0 0 E _ h4 h5 (setRow_heap _ _ _ _ _ _ hm)) rfl ?_
  rw [e]
  exact ⟨jr hb hg _, Or.inl ⟨hE, rfl⟩⟩
set_option maxRecDepth 100000 in
set_option maxHeartbeats 8000000 in
theorem openr (bs : List Int) (ho : okB bs) (A : Option Addr) (c : Nat) (w : World) (hr : Kd.C (Kd.int .u8) w A bs.length bs) (hc : bs.length ≤ c) :
    Calls Try.prog 14 #[.slice A bs.length c, .int .i64 0] w (OpenRP (je bs 0) bs A c w) := by
  have hL := hr.2.1
  have HR := qa.mk hr
  have HC := qa.mk hc
  have HO := qa.mk ho
  clear hr hc ho
  by_cases hl : 1048576 < bs.length
  · have e1 := eq_true (show (1048576 : Int) < (bs.length : Int) by omega)
    have e2 := eq_true hl
    have E := qa.mk (show je bs 0 = ((0, []), 33) by unfold je; rw [if_pos hl])
    clear hl
    go_enter Try.func14, Try.ntmps14
    go_upto_region 1 with fail
    obtain ⟨wA, g4, hX, e4, k4, b4⟩ : ∃ X g, X = w.alloc (Obj.cells (zA 0 none 0 0 none 0 0) 28) ∧ w.heap.size = g ∧ X.heap[g]? = some (Obj.cells (zA 0 none 0 0 none 0 0) 28 (0, 0)) ∧ Below w.heap.size w X := ⟨_, _, rfl, rfl, zk _ _, qF (Below.refl _ _) _⟩
    have G4 := qa.mk (show w.heap.size ≤ g4 by omega)
    rw [← hX, e4]
    have K4 := qa.mk k4
    have B4 := qa.mk b4
    clear hX e4 k4 b4
    go_wp2_with (refine wpList_store_row rfl 28 (.tmp 4) (.tmp 16) rfl g4 (zA 0 none 0 0 none 0 0) rfl rfl 28 (zA 0 none 0 0 none 0 0) K4.out (by kernel_rfl) rfl (by simp [Value.oneCell']) ?_)
    exact Qv bs A c w _ g4 _ _ K4.out rfl rfl B4.out G4.out E.out (by decide)
  have e1 := eq_false (show ¬ (1048576 : Int) < (bs.length : Int) by omega)
  have e2 := eq_false hl
  have hl2 : bs.length ≤ 1099511627776 := by omega
  have BG := qa.mk (fun (w2 : World) (h : Below w.heap.size w w2) => beginr bs HO.out A c w2 (Kd.qO HR.out h) HC.out hl2)
  have HQu := qa.mk (fun (p n : Int) (w2 : World) (h : Below w.heap.size w w2) (k : Nat) => hasq bs A c p n w w2 h HR.out HC.out hl2 k)
  have HH := qa.mk (fun (p n : Int) (w2 : World) (h : Below w.heap.size w w2) => hasr bs A c p n w2 (Kd.qO HR.out h) HC.out hl2)
  have HU := qa.mk (fun (p : Int) (w2 : World) (h : Below w.heap.size w w2) => u32r bs HO.out A c p w2 (Kd.qO HR.out h) HC.out hl2)
  have HV := qa.mk (fun (p : Int) (w2 : World) (h : Below w.heap.size w w2) => u16r bs HO.out A c p w2 (Kd.qO HR.out h) HC.out hl2)
  have HT := qa.mk (fun (p : Int) (w2 : World) (h : Below w.heap.size w w2) => tagr bs A c p w2 (Kd.qO HR.out h) HC.out hl2)
  have HLB := qa.mk (show bs.length ≤ 1048576 by omega)
  have Eo : je bs 0 = (if (zC bs 0).2 ≠ 0 then ((0, []), (zC bs 0).2)
      else if (ze bs (zC bs 0).1 4).2 ≠ 0 then ((0, []), 31)
      else if kindOf (strOfNums (ze bs (zC bs 0).1 4).1) = 0 then ((0, []), 32)
      else if (qI bs ((zC bs 0).1 + 4) 2).2 ≠ 0 then ((0, []), 31)
      else if (qI bs ((zC bs 0).1 + 4) 2).1 = 0 then ((0, []), 31)
      else if (qI bs ((zC bs 0).1 + 4) 2).1 > 64 then ((0, []), 33)
      else if (jL bs (zC bs 0).1 (qI bs ((zC bs 0).1 + 4) 2).1.toNat 0 ⟨#[]⟩ []).2 ≠ 0 then ((0, []), (jL bs (zC bs 0).1 (qI bs ((zC bs 0).1 + 4) 2).1.toNat 0 ⟨#[]⟩ []).2)
      else ((kindOf (strOfNums (ze bs (zC bs 0).1 4).1), (jL bs (zC bs 0).1 (qI bs ((zC bs 0).1 + 4) 2).1.toNat 0 ⟨#[]⟩ []).1), 0)) := by
    unfold je
    rw [if_neg hl]
  have bd := beginV_bd HO.out 0
  obtain ⟨at_, eb, hab⟩ : ∃ a b, zC bs 0 = (a, b) := ⟨_, _, rfl⟩
  have BB := qa.mk hab
  rw [hab] at Eo bd
  dsimp only at Eo bd
  clear hl hl2 hab
  go_enter Try.func14, Try.ntmps14
  go_upto_region 1 with fail
  obtain ⟨wA, g4, hX, e4, k4, b4⟩ : ∃ X g, X = w.alloc (Obj.cells (zA 0 none 0 0 none 0 0) 28) ∧ w.heap.size = g ∧ X.heap[g]? = some (Obj.cells (zA 0 none 0 0 none 0 0) 28 (0, 0)) ∧ Below w.heap.size w X := ⟨_, _, rfl, rfl, zk _ _, qF (Below.refl _ _) _⟩
  have G4 := qa.mk (show w.heap.size ≤ g4 by omega)
  rw [← hX, e4]
  have K4 := qa.mk k4
  have B4 := qa.mk b4
  have BD := qa.mk bd
  clear hX e4 k4 b4 bd
  have Eo1 := qa.mk Eo
  clear Eo
  go_upto_region 4 with (go_at_call 29; refine (BG.out wA B4.out).mono ?_; rintro e w1 ⟨rfl, h1⟩; rw [BB.out]; have B1 := qa.mk (qc B4.out h1); have K1 := qa.mk ((h1.block _ (qz K4.out)).trans K4.out); clear h1)
  clear BG BB K4 B4 e1 e2
  by_cases ce : eb = 0
  rotate_left
  · have E0 := Eo1.out
    rw [if_pos ce] at E0
    have E := qa.mk E0
    have q0 := eq_false ce
    have CE := qa.mk ce
    have q1 : (eb == 0) = false := beq_eq_false_iff_ne.2 ce
    have q2 : (eb != 0) = true := bne_iff_ne.2 ce
    clear E0 Eo1 ce
    go_wp2_with (refine wpList_store_row rfl 28 (.tmp 4) (.tmp 25) rfl g4 (zA 0 none 0 0 none 0 0) rfl rfl 28 (zA 0 none 0 0 none 0 0) K1.out (by kernel_rfl) rfl (by simp [Value.oneCell']) ?_)
    exact Qv bs A c w _ g4 _ _ K1.out rfl rfl B1.out G4.out E.out CE.out
  subst ce
  have E0 := Eo1.out
  rw [if_neg (fun h => h rfl)] at E0
  have Eo2 := qa.mk E0
  clear E0 Eo1
  obtain ⟨b0, hb0⟩ : ∃ b, hasB bs at_ 4 = b := ⟨_, rfl⟩
  have HB0 := qa.mk hb0
  cases b0 with
  | false =>
    have E0 := Eo2.out
    rw [QX hb0, if_pos (by decide)] at E0
    have E := qa.mk E0
    clear E0 Eo2 hb0
    go_wp2_with (first | (go_at_call 30; refine (HH.out at_ 4 w1 B1.out).mono ?_; rintro e w2 ⟨rfl, h1⟩; rw [HB0.out]; have B2 := qa.mk (qc B1.out h1); have K2 := qa.mk ((h1.block _ (qz K1.out)).trans K1.out); clear h1) | (refine wpList_store_row rfl 28 (.tmp 4) (.tmp 31) rfl g4 (zA 0 none 0 0 none 0 0) rfl rfl 28 (zA 0 none 0 0 none 0 0) K2.out (by kernel_rfl) rfl (by simp [Value.oneCell']) ?_))
    exact Qv bs A c w _ g4 _ _ K2.out rfl rfl B2.out G4.out E.out (by decide)
  | true =>
  have E0 := Eo2.out
  have P0 : (ze bs at_ 4).2 = 0 := by rw [Qg hb0]
  rw [P0, if_neg (fun h => h rfl)] at E0
  obtain ⟨t, ht⟩ : ∃ t, strOfNums (ze bs at_ 4).1 = t := ⟨_, rfl⟩
  rw [ht] at E0
  have TT := qa.mk ht
  have Eo3 := qa.mk E0
  clear hb0 E0 P0 ht Eo2
  go_upto_region 8 with (go_at_call 30; refine (HH.out at_ 4 w1 B1.out).mono ?_; rintro e w2 ⟨rfl, h1⟩; rw [HB0.out]; have B2 := qa.mk (qc B1.out h1); have K2 := qa.mk ((h1.block _ (qz K1.out)).trans K1.out); have MZ := qa.mk (zk w2 (Obj.cells (zA 0 none 0 0 none 0 0) 28)); clear h1)
  clear HB0 K1 B1
  go_upto_region 9 with (refine wpList_store_row rfl 28 (.tmp 8) (.tmp 33) rfl w2.heap.size (zA 0 none 0 0 A bs.length c) rfl rfl 28 (zA 0 none 0 0 none 0 0) MZ.out (by kernel_rfl) rfl (by simp [Value.oneCell']) ?_)
  obtain ⟨w3, g8, hX, e8, k8, k4, b8, n48⟩ : ∃ X g, X = (w2.alloc (Obj.cells (zA 0 none 0 0 none 0 0) 28)).setRow w2.heap.size (zA 0 none 0 0 A bs.length c) ∧ w2.heap.size = g ∧ X.heap[g]? = some (Obj.cells (zA 0 none 0 0 A bs.length c) 28 (0, 0)) ∧ X.heap[g4]? = some (Obj.cells (zA 0 none 0 0 none 0 0) 28 (0, 0)) ∧ Below w2.heap.size w2 X ∧ g4 ≠ g := by
    have b := jr (qF (Below.refl w2.heap.size w2) (Obj.cells (zA 0 none 0 0 none 0 0) 28)) (Nat.le_refl w2.heap.size) (zA 0 none 0 0 A bs.length c)
    exact ⟨_, _, rfl, rfl, setRow_heap _ _ _ _ _ _ (zk _ _), (b.block _ (qz K2.out)).trans K2.out, b, fun h => Nat.lt_irrefl _ (h ▸ qz K2.out)⟩
  have G8 := qa.mk (show w.heap.size ≤ g8 by have := qi B2.out; omega)
  rw [← hX, e8]
  have K8 := qa.mk k8
  have K3 := qa.mk k4
  have B3 := qa.mk (qc B2.out b8)
  have N48 := qa.mk n48
  have D3 := qa.mk b8
  have G8b := qa.mk (show w2.heap.size ≤ g8 by omega)
  clear hX e8 k8 k4 b8 n48 MZ K3 B3
  go_upto_block 0 with (go_at_call 31; refine (HT.out at_ w3 (qc B2.out D3.out)).mono ?_; rintro e w4 ⟨rfl, h1⟩; rw [TT.out]; have D4 := qa.mk (qc D3.out h1); have K9 := qa.mk ((h1.block _ (qz K8.out)).trans K8.out); clear h1)
  clear K8 D3 TT
  by_cases ck : kindOf t = 0
  · have E0 := Eo3.out
    rw [if_pos ck] at E0
    have E := qa.mk E0
    have k1 : (t.toList == [0, 1, 0, 0]) = false := by
      unfold kindOf at ck; by_cases q : (t.toList == [0, 1, 0, 0]) = true
      · rw [if_pos q] at ck; cases ck
      · simpa using q
    have k2 : (t.toList == [116, 114, 117, 101]) = false := by
      unfold kindOf at ck; rw [k1, if_neg (by decide)] at ck; by_cases q : (t.toList == [116, 114, 117, 101]) = true
      · rw [if_pos q] at ck; cases ck
      · simpa using q
    have k3 : (t.toList == [79, 84, 84, 79]) = false := by
      unfold kindOf at ck; rw [k1, k2, if_neg (by decide), if_neg (by decide)] at ck; by_cases q : (t.toList == [79, 84, 84, 79]) = true
      · rw [if_pos q] at ck; cases ck
      · simpa using q
    have KZ := qa.mk ((D4.out.block _ (qz K2.out)).trans K2.out)
    clear E0 Eo3 ck
    go_wp2_with (refine wpList_store_row rfl 28 (.tmp 4) (.tmp 37) rfl g4 (zA 0 none 0 0 none 0 0) rfl rfl 28 (zA 0 none 0 0 none 0 0) KZ.out (by kernel_rfl) rfl (by simp [Value.oneCell']) ?_)
    exact Qv bs A c w _ g4 _ _ KZ.out rfl rfl (qc B2.out D4.out) G4.out E.out (by decide)
  obtain ⟨kd, hkd⟩ : ∃ kd, kindOf t = kd := ⟨_, rfl⟩
  have E0 := Eo3.out
  rw [if_neg ck, hkd] at E0
  have Eo4 := qa.mk E0
  rw [hkd] at ck
  clear E0 Eo3
  (try simp only [Act.put, List.setIfInBounds_toArray, List.set_cons_zero, List.set_cons_succ])
  go_cut [] (fun wc => qa (wc.heap[g8]? = some (Obj.cells (zA kd none 0 0 A bs.length c) 28 (0, 0))) ∧ qa (Below w2.heap.size w2 wc))
  case first =>
    have x0 := qb K9.out 0
    have xf := qd K9.out 0
    have hz : ∀ kd' : Int, kindOf t = kd' → kd' = kd := fun k h => h.symm.trans hkd
    unfold kindOf at hz
    cases q1 : (t.toList == [0, 1, 0, 0]) with
    | true =>
      have hk := hz 1 (by rw [q1, if_pos rfl])
      subst hk
      clear hz hkd
      go_wp2
      go_meet
      case rel => exact ⟨⟨qR K9.out 0 _ rfl⟩, ⟨qA D4.out G8b.out⟩⟩
    | false =>
      cases q2 : (t.toList == [116, 114, 117, 101]) with
      | true =>
        have hk := hz 1 (by rw [q1, q2, if_neg (by decide), if_pos rfl])
        subst hk
        clear hz hkd
        go_wp2
        go_meet
        case rel => exact ⟨⟨qR K9.out 0 _ rfl⟩, ⟨qA D4.out G8b.out⟩⟩
      | false =>
        cases q3 : (t.toList == [79, 84, 84, 79]) with
        | true =>
          have hk := hz 2 (by rw [q1, q2, q3, if_neg (by decide), if_neg (by decide), if_pos rfl])
          subst hk
          clear hz hkd
          go_wp2
          go_meet
          case rel => exact ⟨⟨qR K9.out 0 _ rfl⟩, ⟨qA D4.out G8b.out⟩⟩
        | false =>
          have hk := hz 0 (by rw [q1, q2, q3, if_neg (by decide), if_neg (by decide), if_neg (by decide)])
          exact absurd hk.symm ck
  case rest =>
  obtain ⟨K5, D5⟩ := hcut
  clear K9 D4 hkd ck
  obtain ⟨n, hn⟩ : ∃ n, (qI bs (at_ + 4) 2).1 = n := ⟨_, rfl⟩
  have nb : 0 ≤ n ∧ n < 65536 := by
    have z : 0 ≤ (qI bs (at_ + 4) 2).1 ∧ (qI bs (at_ + 4) 2).1 < 256 ^ 2 := jX bs HO.out (at_ + 4) 2 (by decide)
    rw [hn] at z
    exact z
  have n2 : (qI bs (at_ + 4) 2).2 ≠ 0 → n = 0 := by
    intro h
    cases hb : hasB bs (at_ + 4) 2 with
    | true => exact absurd (QW hb) h
    | false => rw [← hn, Zr hb]
  have HN := qa.mk hn
  have N2 := qa.mk n2
  have NB := qa.mk nb
  have b4 : at_ + 4 ≤ 9223372036854775807 := by have := BD.out.2; omega
  have b4' : -9223372036854775808 ≤ at_ + 4 := by have := BD.out.1; omega
  have E0 := Eo4.out
  rw [hn] at E0
  have Eo5 := qa.mk E0
  clear E0 Eo4 hn nb n2
  go_upto_region 17 with (go_at_call 32; refine (HV.out (at_ + 4) wc (qc B2.out D5.out)).mono ?_; rintro e w6 ⟨rfl, h1⟩; rw [HN.out]; have D6 := qa.mk (qc D5.out h1); have K6 := qa.mk ((h1.block _ (qz K5.out)).trans K5.out); clear h1)
  clear D5 K5 HN b4 b4'
  have KZ := qa.mk (fun (W : World) (h : Below w2.heap.size w2 W) => (h.block _ (qz K2.out)).trans K2.out)
  by_cases c0 : n = 0
  · have E0 := Eo5.out
    have E := qa.mk (show je bs 0 = ((0, []), 31) by
      rw [E0]
      split
      · rfl
      · first | rfl | (rw [if_pos c0]))
    have KY := qa.mk (KZ.out _ D6.out)
    have q0 : (n == 0) = true := beq_iff_eq.2 c0
    clear E0 Eo5 c0
    go_wp2_with (refine wpList_store_row rfl 28 (.tmp 4) (.tmp 51) rfl g4 (zA 0 none 0 0 none 0 0) rfl rfl 28 (zA 0 none 0 0 none 0 0) KY.out (by kernel_rfl) rfl (by simp [Value.oneCell']) ?_)
    exact Qv bs A c w _ g4 _ _ KY.out rfl rfl (qc B2.out D6.out) G4.out E.out (by decide)
  have q0 : (n == 0) = false := beq_eq_false_iff_ne.2 c0
  have qn := eq_false c0
  have E0 := Eo5.out
  rw [if_neg (fun h => c0 (N2.out h)), if_neg c0] at E0
  have Eo6 := qa.mk E0
  clear E0 Eo5
  by_cases c1 : 64 < n
  · have E0 := Eo6.out
    rw [if_pos c1] at E0
    have E := qa.mk E0
    have KY := qa.mk (KZ.out _ D6.out)
    have q1 := eq_true c1
    clear E0 Eo6 c0 c1
    go_wp2_with (refine wpList_store_row rfl 28 (.tmp 4) (.tmp 54) rfl g4 (zA 0 none 0 0 none 0 0) rfl rfl 28 (zA 0 none 0 0 none 0 0) KY.out (by kernel_rfl) rfl (by simp [Value.oneCell']) ?_)
    exact Qv bs A c w _ g4 _ _ KY.out rfl rfl (qc B2.out D6.out) G4.out E.out (by decide)
  have q1 := eq_false c1
  have E0 := Eo6.out
  rw [if_neg c1] at E0
  obtain ⟨m, rfl⟩ : ∃ m : Nat, n = (m : Int) := ⟨n.toNat, by have := NB.out; omega⟩
  rw [Int.toNat_natCast] at E0
  obtain ⟨Q, hQ⟩ : ∃ Q, jL bs at_ m 0 ⟨#[]⟩ [] = Q := ⟨_, rfl⟩
  rw [hQ] at E0
  have EQ := qa.mk E0
  have m64 : m ≤ 64 := by omega
  have HQ0 : qa (jL bs at_ (m - 0) 0 (lastT []) [] = Q) := ⟨hQ⟩
  have M64 := qa.mk m64
  clear E0 Eo6 hQ N2 NB c0 c1
  go_upto_region 22 with fail
  clear q0 qn q1
  have RN : qa (Kd.R k71 71 w6 w2.heap.size (fun _ => True) (.slice none ([] : List S71).length 0) []) := ⟨Kd.jE _ _ _ _ _⟩
  have L0 : qa (([] : List S71).length = 0) := ⟨rfl⟩
  go_wp2
  go_loopw [10] (fun v10 wr => ∃ (i : Nat) (acc : List S71) (A2 : Option Addr) (c2 : Nat), v10 = .int .i64 i ∧ i ≤ m ∧ qa (jL bs at_ (m - i) i (lastT acc) acc = Q) ∧ qa (acc.length = i) ∧ qa (wr.heap[g8]? = some (Obj.cells (zA kd A2 acc.length c2 A bs.length c) 28 (0, 0))) ∧ qa (Kd.R k71 71 wr w2.heap.size (fun _ => True) (.slice A2 acc.length c2) acc) ∧ qa (Below w2.heap.size w2 wr)) (fun v10 _ => m - (intOf v10).toNat)
  case atStart => exact ⟨0, [], none, 0, rfl, Nat.zero_le _, HQ0, L0, K6, RN, D6⟩
  case round =>
    obtain ⟨i, acc, A2, c2, rfl, hi, HQ, HL, HK, HA, HD⟩ := hrel
    clear K6 RN L0 D6 HQ0
    by_cases ilt : i < m
    · have il := eq_true (show (i : Int) < (m : Int) by omega)
      have il2 := eq_true ilt
      have hrq := HQ.out
      rw [show m - i = (m - (i + 1)) + 1 by omega, jL] at hrq
      have i64 : (i : Int) + 1 ≤ 9223372036854775807 := by omega
      obtain ⟨p, hp⟩ : ∃ p, at_ + 12 + 16 * (i : Int) = p := ⟨_, rfl⟩
      rw [hp] at hrq
      have PB := qa.mk (show 0 ≤ p ∧ p ≤ 1099511627776 by have := BD.out; omega)
      have b1 : at_ + 12 ≤ 9223372036854775807 := by have := BD.out; omega
      have b1' : -9223372036854775808 ≤ at_ + 12 := by have := BD.out; omega
      have b2 : 16 * (i : Int) ≤ 9223372036854775807 := by omega
      have b2' : -9223372036854775808 ≤ 16 * (i : Int) := by omega
      have b3 : at_ + 12 + 16 * (i : Int) ≤ 9223372036854775807 := by have := BD.out; omega
      have b3' : -9223372036854775808 ≤ at_ + 12 + 16 * (i : Int) := by have := BD.out; omega
      have HRQ := qa.mk hrq
      clear hrq HQ
      go_upto_region 25 with fail
      (try rw [hp])
      clear hp b1 b1' b2 b2' b3 b3'
      obtain ⟨b16, hb⟩ : ∃ b, hasB bs p 16 = b := ⟨_, rfl⟩
      have HB16 := qa.mk hb
      cases b16 with
      | false =>
        have n1 := rowV_no16 (last := lastT acc) hb
        have hq := HRQ.out
        rw [n1, if_neg (by decide)] at hq
        have E0 := EQ.out
        rw [← hq, if_pos (by decide)] at E0
        have E := qa.mk E0
        clear hb n1 hq E0 HRQ
        go_wp2_with (first | (go_at_call 30; refine (HH.out p 16 wr (qc B2.out HD.out)).mono ?_; rintro e w7 ⟨rfl, h1⟩; rw [HB16.out]; have D7 := qa.mk (qc HD.out h1); have K7 := qa.mk (KZ.out _ D7.out); clear h1) | (refine wpList_store_row rfl 28 (.tmp 4) (.tmp 69) rfl g4 (zA 0 none 0 0 none 0 0) rfl rfl 28 (zA 0 none 0 0 none 0 0) K7.out (by kernel_rfl) rfl (by simp [Value.oneCell']) ?_))
        exact Qv bs A c w _ g4 _ _ K7.out rfl rfl (qc B2.out D7.out) G4.out E.out (by decide)
      | true =>
      have rv := rowV_16 (last := lastT acc) hb
      obtain ⟨tg, htg⟩ : ∃ x, strOfNums (ze bs p 4).1 = x := ⟨_, rfl⟩
      obtain ⟨su, hsu⟩ : ∃ x, (qI bs (p + 4) 4).1 = x := ⟨_, rfl⟩
      obtain ⟨pl, hpl⟩ : ∃ x, (qI bs (p + 8) 4).1 = x := ⟨_, rfl⟩
      obtain ⟨sz, hsz⟩ : ∃ x, (qI bs (p + 12) 4).1 = x := ⟨_, rfl⟩
      have bpl : 0 ≤ pl ∧ pl < 4294967296 := by
        have z : 0 ≤ (qI bs (p + 8) 4).1 ∧ (qI bs (p + 8) 4).1 < 256 ^ 4 := jX bs HO.out (p + 8) 4 (by decide)
        rw [hpl] at z
        exact z
      have bsz : 0 ≤ sz ∧ sz < 4294967296 := by
        have z : 0 ≤ (qI bs (p + 12) 4).1 ∧ (qI bs (p + 12) 4).1 < 256 ^ 4 := jX bs HO.out (p + 12) 4 (by decide)
        rw [hsz] at z
        exact z
      rw [htg, hsu, hpl, hsz] at rv
      have hrq := HRQ.out
      rw [rv] at hrq
      have HRV := qa.mk hrq
      have TL := qa.mk (tag_len hb)
      rw [htg] at TL
      have TG := qa.mk htg
      have SU := qa.mk hsu
      have PL := qa.mk hpl
      have SZ := qa.mk hsz
      have BPL := qa.mk bpl
      have BSZ := qa.mk bsz
      have b8 : p + 8 ≤ 9223372036854775807 := by have := PB.out; omega
      have b8' : -9223372036854775808 ≤ p + 8 := by have := PB.out; omega
      have b12 : p + 12 ≤ 9223372036854775807 := by have := PB.out; omega
      have b12' : -9223372036854775808 ≤ p + 12 := by have := PB.out; omega
      clear hrq rv htg hsu hpl hsz hb HRQ bpl bsz
      go_upto_region 28 with (first | (go_at_call 33; refine (HU.out (p + 12) w9 (qc B2.out D9.out)).mono ?_; rintro e w10 ⟨rfl, h1⟩; rw [SZ.out]; have D10 := qa.mk (qc D9.out h1); have F10 := qa.mk (qc F9.out h1); clear h1) | (go_at_call 33; refine (HU.out (p + 8) w8 (qc B2.out D8.out)).mono ?_; rintro e w9 ⟨rfl, h1⟩; rw [PL.out]; have D9 := qa.mk (qc D8.out h1); have F9 := qa.mk (qc F8.out h1); clear h1) | (go_at_call 31; refine (HT.out p w7 (qc B2.out D7.out)).mono ?_; rintro e w8 ⟨rfl, h1⟩; rw [TG.out]; have D8 := qa.mk (qc D7.out h1); have F8 := qa.mk (qc F7.out h1); clear h1) | (go_at_call 30; refine (HH.out p 16 wr (qc B2.out HD.out)).mono ?_; rintro e w7 ⟨rfl, h1⟩; rw [HB16.out]; have D7 := qa.mk (qc HD.out h1); have F7 := qa.mk h1; clear h1))
      obtain ⟨w11, gT, hW, eT, kT, lT⟩ : ∃ W r, W = w10.alloc (Obj.cells #[.string tg, .int .i64 pl, .int .i64 sz] 71) ∧ w10.heap.size = r ∧ W.heap[r]? = some (Obj.cells #[.string tg, .int .i64 pl, .int .i64 sz] 71 (0, 0)) ∧ Below w10.heap.size w10 W :=
        ⟨_, _, rfl, rfl, zk _ _, qF (Below.refl _ _) _⟩
      rw [← hW, eT]
      have DD := qa.mk (qc D10.out lT)
      have KT := qa.mk kT
      have F11 := qa.mk (qc F10.out lT)
      have K11 := qa.mk ((F11.out.block _ (qz HK.out)).trans HK.out)
      have R11 := qa.mk (Kd.qM HA.out F11.out)
      have tr : Int.tmod pl 4 = pl % 4 := Int.tmod_eq_emod_of_nonneg BPL.out.1
      obtain ⟨r, hr⟩ : ∃ r, pl % 4 = r := ⟨_, rfl⟩
      rw [hr] at tr
      have TR := qa.mk tr
      clear lT F7 F8 F9 F10 F11 HK HA HD
      go_cut [111] (fun v111 wc => ∃ b : Bool, v111 = .bool b ∧ qa (b = true → (Ql 0 0 0 0 tg (lastT acc) su pl sz (ze bs pl sz)).2 = 31) ∧ qa (b = false → Op.bytesLess tg.toList (lastT acc).toList = false ∧ (tg.toList == (lastT acc).toList) = false ∧ Int.tmod pl 4 = 0 ∧ hasB bs pl sz = true) ∧
        qa (wc.heap[gT]? = some (Obj.cells #[.string tg, .int .i64 pl, .int .i64 sz] 71 (0, 0))) ∧ qa (wc.heap[g8]? = some (Obj.cells (zA kd A2 acc.length c2 A bs.length c) 28 (0, 0))) ∧ qa (Kd.R k71 71 wc w2.heap.size (fun _ => True) (.slice A2 acc.length c2) acc) ∧ qa (Below w2.heap.size w2 wc))
      case first =>
        have t0 := qb KT.out 0
        have t1 := qb KT.out 1
        have t2 := qb KT.out 2
        have y1 := qb K11.out 1
        have ST := fun (nq : Nat) => (⟨⟨zx KT.out nq⟩, ⟨zx K11.out nq⟩, ⟨Kd.qx R11.out nq⟩, ⟨qc DD.out (zy (Below.refl _ _) nq)⟩⟩ : qa ((w11.drewN nq).heap[gT]? = some (Obj.cells #[.string tg, .int .i64 pl, .int .i64 sz] 71 (0, 0))) ∧ qa ((w11.drewN nq).heap[g8]? = some (Obj.cells (zA kd A2 acc.length c2 A bs.length c) 28 (0, 0))) ∧ qa (Kd.R k71 71 (w11.drewN nq) w2.heap.size (fun _ => True) (.slice A2 acc.length c2) acc) ∧ qa (Below w2.heap.size w2 (w11.drewN nq)))
        have ST := qa.mk ST
        by_cases iz : i = 0
        · subst iz
          have la : lastT acc = ⟨#[]⟩ := by unfold lastT; rw [if_pos HL.out]
          have ol : Op.bytesLess tg.toList (lastT acc).toList = false := by
            rw [la, show (⟨#[]⟩ : ByteArray).toList = [] by decide +kernel]
            cases hh : tg.toList <;> rfl
          have oe : (tg.toList == (lastT acc).toList) = false := by
            rw [la, show (⟨#[]⟩ : ByteArray).toList = [] by decide +kernel]
            cases hh : tg.toList with
            | nil => have := TL.out; rw [hh] at this; cases this
            | cons x y => rfl
          have OL := qa.mk ol
          have OE := qa.mk oe
          clear ol oe la il il2 ilt hi
          by_cases rz : r = 0
          · subst rz
            obtain ⟨hb, hhb⟩ : ∃ b, hasB bs pl sz = b := ⟨_, rfl⟩
            have HBB := qa.mk hhb
            clear hhb
            refine jf (n := 30) (S := fun w' => w'.cell? ⟨gT, 0, none⟩ = some (.string tg) ∧ w'.cell? ⟨gT, 1, none⟩ = some (.int .i64 pl) ∧ w'.cell? ⟨gT, 2, none⟩ = some (.int .i64 sz)) (ds := [27]) #[false, false, false, false, false, false, false, false, false, false, false, false, false, false, false, false, false, false, false, false, false, false, false, false, false, false, false, false, false, false] (by kernel_rfl) rfl rfl ⟨t0, t1, t2⟩ (fun hHeld => ?_)
            obtain ⟨w12, hW, T12, K12, R12, D12⟩ : ∃ W, W = w11.drew ∧ qa (W.heap[gT]? = some (Obj.cells #[.string tg, .int .i64 pl, .int .i64 sz] 71 (0, 0))) ∧ qa (W.heap[g8]? = some (Obj.cells (zA kd A2 acc.length c2 A bs.length c) 28 (0, 0))) ∧ qa (Kd.R k71 71 W w2.heap.size (fun _ => True) (.slice A2 acc.length c2) acc) ∧ qa (Below w2.heap.size w2 W) := ⟨_, rfl, ⟨qQ KT.out⟩, ⟨qQ K11.out⟩, ⟨Kd.qw R11.out⟩, ⟨zm DD.out⟩⟩
            rw [← hW] at hHeld ⊢
            clear hW KT K11 R11 DD
            refine qj (i := 0) (N := some 82) (v := ?_) (a' := ?_) #[true, false, false, false, false, false, false, false, false, false, false, false, false, false, false, false, false, false, false, false, false, false, false, false, false, false, false, false, false, false] rfl rfl (by kernel_rfl) (fun _ _ _ h => h) (Or.inl ⟨by rfl, ?_⟩) ?_ ?_
            rotate_left
            · intro w'
              go_simp
              with_reducible rfl
            rotate_left
            · simp only [Act.put, List.setIfInBounds_toArray, List.set_cons_zero, List.set_cons_succ, qg, qh]
              rfl
            refine qj (i := 1) (N := some 83) (v := ?_) (a' := ?_) #[true, true, false, false, false, false, false, false, false, false, false, false, false, false, false, false, false, false, false, false, false, false, false, false, false, false, false, false, false, false] rfl rfl (by kernel_rfl) (fun _ _ _ h => h) (Or.inl ⟨by rfl, ?_⟩) ?_ ?_
            rotate_left
            · intro w'
              go_simp
              with_reducible rfl
            rotate_left
            · simp only [Act.put, List.setIfInBounds_toArray, List.set_cons_zero, List.set_cons_succ, qg, qh]
              rfl
            refine qj (i := 2) (N := some 84) (v := ?_) (a' := ?_) #[true, true, true, false, false, false, false, false, false, false, false, false, false, false, false, false, false, false, false, false, false, false, false, false, false, false, false, false, false, false] rfl rfl (by kernel_rfl) (fun _ _ _ h => h) (Or.inl ⟨by rfl, ?_⟩) ?_ ?_
            rotate_left
            · intro w'
              go_simp
              with_reducible rfl
            rotate_left
            · simp only [Act.put, List.setIfInBounds_toArray, List.set_cons_zero, List.set_cons_succ, qg, qh]
              rfl
            refine qj (i := 3) (N := some 85) (v := undef) (a' := ?_) #[true, true, true, true, false, false, false, false, false, false, false, false, false, false, false, false, false, false, false, false, false, false, false, false, false, false, false, false, false, false] rfl rfl (by kernel_rfl) (fun _ _ _ h => h) (Or.inr ⟨by rfl, rfl⟩) ?_ ?_
            rotate_left
            · simp only [Act.put, List.setIfInBounds_toArray, List.set_cons_zero, List.set_cons_succ, qg, qh]
              rfl
            refine qj (i := 4) (N := some 86) (v := undef) (a' := ?_) #[true, true, true, true, true, false, false, false, false, false, false, false, false, false, false, false, false, false, false, false, false, false, false, false, false, false, false, false, false, false] rfl rfl (by kernel_rfl) (fun _ _ _ h => h) (Or.inr ⟨by rfl, rfl⟩) ?_ ?_
            rotate_left
            · simp only [Act.put, List.setIfInBounds_toArray, List.set_cons_zero, List.set_cons_succ, qg, qh]
              rfl
            refine qj (i := 5) (N := some 87) (v := undef) (a' := ?_) #[true, true, true, true, true, true, false, false, false, false, false, false, false, false, false, false, false, false, false, false, false, false, false, false, false, false, false, false, false, false] rfl rfl (by kernel_rfl) (fun _ _ _ h => h) (Or.inr ⟨by rfl, rfl⟩) ?_ ?_
            rotate_left
            · simp only [Act.put, List.setIfInBounds_toArray, List.set_cons_zero, List.set_cons_succ, qg, qh]
              rfl
            refine qj (i := 6) (N := some 88) (v := undef) (a' := ?_) #[true, true, true, true, true, true, true, false, false, false, false, false, false, false, false, false, false, false, false, false, false, false, false, false, false, false, false, false, false, false] rfl rfl (by kernel_rfl) (fun _ _ _ h => h) (Or.inr ⟨by rfl, rfl⟩) ?_ ?_
            rotate_left
            · simp only [Act.put, List.setIfInBounds_toArray, List.set_cons_zero, List.set_cons_succ, qg, qh]
              rfl
            refine qj (i := 7) (N := some 89) (v := undef) (a' := ?_) #[true, true, true, true, true, true, true, true, false, false, false, false, false, false, false, false, false, false, false, false, false, false, false, false, false, false, false, false, false, false] rfl rfl (by kernel_rfl) (fun _ _ _ h => h) (Or.inr ⟨by rfl, rfl⟩) ?_ ?_
            rotate_left
            · simp only [Act.put, List.setIfInBounds_toArray, List.set_cons_zero, List.set_cons_succ, qg, qh]
              rfl
            refine qj (i := 8) (N := some 90) (v := undef) (a' := ?_) #[true, true, true, true, true, true, true, true, true, false, false, false, false, false, false, false, false, false, false, false, false, false, false, false, false, false, false, false, false, false] rfl rfl (by kernel_rfl) (fun _ _ _ h => h) (Or.inr ⟨by rfl, rfl⟩) ?_ ?_
            rotate_left
            · simp only [Act.put, List.setIfInBounds_toArray, List.set_cons_zero, List.set_cons_succ, qg, qh]
              rfl
            refine qj (i := 9) (N := some 91) (v := undef) (a' := ?_) #[true, true, true, true, true, true, true, true, true, true, false, false, false, false, false, false, false, false, false, false, false, false, false, false, false, false, false, false, false, false] rfl rfl (by kernel_rfl) (fun _ _ _ h => h) (Or.inr ⟨by rfl, rfl⟩) ?_ ?_
            rotate_left
            · simp only [Act.put, List.setIfInBounds_toArray, List.set_cons_zero, List.set_cons_succ, qg, qh]
              rfl
            refine qj (i := 10) (N := some 92) (v := undef) (a' := ?_) #[true, true, true, true, true, true, true, true, true, true, true, false, false, false, false, false, false, false, false, false, false, false, false, false, false, false, false, false, false, false] rfl rfl (by kernel_rfl) (fun _ _ _ h => h) (Or.inr ⟨by rfl, rfl⟩) ?_ ?_
            rotate_left
            · simp only [Act.put, List.setIfInBounds_toArray, List.set_cons_zero, List.set_cons_succ, qg, qh]
              rfl
            refine qj (i := 11) (N := some 93) (v := undef) (a' := ?_) #[true, true, true, true, true, true, true, true, true, true, true, true, false, false, false, false, false, false, false, false, false, false, false, false, false, false, false, false, false, false] rfl rfl (by kernel_rfl) (fun _ _ _ h => h) (Or.inr ⟨by rfl, rfl⟩) ?_ ?_
            rotate_left
            · simp only [Act.put, List.setIfInBounds_toArray, List.set_cons_zero, List.set_cons_succ, qg, qh]
              rfl
            refine qj (i := 12) (N := some 94) (v := undef) (a' := ?_) #[true, true, true, true, true, true, true, true, true, true, true, true, true, false, false, false, false, false, false, false, false, false, false, false, false, false, false, false, false, false] rfl rfl (by kernel_rfl) (fun _ _ _ h => h) (Or.inr ⟨by rfl, rfl⟩) ?_ ?_
            rotate_left
            · simp only [Act.put, List.setIfInBounds_toArray, List.set_cons_zero, List.set_cons_succ, qg, qh]
              rfl
            refine qj (i := 13) (N := some 95) (v := undef) (a' := ?_) #[true, true, true, true, true, true, true, true, true, true, true, true, true, true, false, false, false, false, false, false, false, false, false, false, false, false, false, false, false, false] rfl rfl (by kernel_rfl) (fun _ _ _ h => h) (Or.inr ⟨by rfl, rfl⟩) ?_ ?_
            rotate_left
            · simp only [Act.put, List.setIfInBounds_toArray, List.set_cons_zero, List.set_cons_succ, qg, qh]
              rfl
            refine qj (i := 14) (N := some 96) (v := ?_) (a' := ?_) #[true, true, true, true, true, true, true, true, true, true, true, true, true, true, true, false, false, false, false, false, false, false, false, false, false, false, false, false, false, false] rfl rfl (by kernel_rfl) (fun _ _ _ h => h) (Or.inl ⟨by rfl, ?_⟩) ?_ ?_
            rotate_left
            · intro w'
              go_simp
              with_reducible rfl
            rotate_left
            · simp only [Act.put, List.setIfInBounds_toArray, List.set_cons_zero, List.set_cons_succ, qg, qh]
              rfl
            refine qj (i := 15) (N := some 97) (v := ?_) (a' := ?_) #[true, true, true, true, true, true, true, true, true, true, true, true, true, true, true, true, false, false, false, false, false, false, false, false, false, false, false, false, false, false] rfl rfl (by kernel_rfl) (fun _ _ _ h => h) (Or.inl ⟨by rfl, ?_⟩) ?_ ?_
            rotate_left
            · intro w'
              go_simp
              with_reducible rfl
            rotate_left
            · simp only [Act.put, List.setIfInBounds_toArray, List.set_cons_zero, List.set_cons_succ, qg, qh]
              rfl
            refine qj (i := 16) (N := some 98) (v := ?_) (a' := ?_) #[true, true, true, true, true, true, true, true, true, true, true, true, true, true, true, true, true, false, false, false, false, false, false, false, false, false, false, false, false, false] rfl rfl (by kernel_rfl) (fun _ _ _ h => h) (Or.inl ⟨by rfl, ?_⟩) ?_ ?_
            rotate_left
            · intro w'
              go_simp
              with_reducible rfl
            rotate_left
            · simp only [Act.put, List.setIfInBounds_toArray, List.set_cons_zero, List.set_cons_succ, qg, qh]
              rfl
            refine zq (i := 17) (N := some 99) (v := ?_) (a' := ?_) #[true, true, true, true, true, true, true, true, true, true, true, true, true, true, true, true, true, true, false, false, false, false, false, false, false, false, false, false, false, false] rfl rfl (by kernel_rfl) (fun _ _ _ h => h) (Or.inl ⟨by rfl, ?_⟩) hHeld ?_ ?_
            rotate_left
            · rintro w' ⟨s0, s1, s2⟩
              go_simp
              with_reducible rfl
            rotate_left
            · simp only [Act.put, List.setIfInBounds_toArray, List.set_cons_zero, List.set_cons_succ, qg, qh]
              rfl
            refine qj (i := 18) (N := some 100) (v := ?_) (a' := ?_) #[true, true, true, true, true, true, true, true, true, true, true, true, true, true, true, true, true, true, true, false, false, false, false, false, false, false, false, false, false, false] rfl rfl (by kernel_rfl) (fun _ _ _ h => h) (Or.inl ⟨by rfl, ?_⟩) ?_ ?_
            rotate_left
            · intro w'
              go_simp
              with_reducible rfl
            rotate_left
            · simp only [Act.put, List.setIfInBounds_toArray, List.set_cons_zero, List.set_cons_succ, qg, qh]
              rfl
            refine qj (i := 19) (N := some 101) (v := ?_) (a' := ?_) #[true, true, true, true, true, true, true, true, true, true, true, true, true, true, true, true, true, true, true, true, false, false, false, false, false, false, false, false, false, false] rfl rfl (by kernel_rfl) (fun _ _ _ h => h) (Or.inl ⟨by rfl, ?_⟩) ?_ ?_
            rotate_left
            · intro w'
              go_simp
              with_reducible rfl
            rotate_left
            · simp only [Act.put, List.setIfInBounds_toArray, List.set_cons_zero, List.set_cons_succ, qg, qh]
              rfl
            refine qj (i := 20) (N := some 102) (v := ?_) (a' := ?_) #[true, true, true, true, true, true, true, true, true, true, true, true, true, true, true, true, true, true, true, true, true, false, false, false, false, false, false, false, false, false] rfl rfl (by kernel_rfl) (fun _ _ _ h => h) (Or.inl ⟨by rfl, ?_⟩) ?_ ?_
            rotate_left
            · intro w'
              go_simp
              with_reducible rfl
            rotate_left
            · simp only [Act.put, List.setIfInBounds_toArray, List.set_cons_zero, List.set_cons_succ, qg, qh]
              rfl
            refine qj (i := 21) (N := some 103) (v := ?_) (a' := ?_) #[true, true, true, true, true, true, true, true, true, true, true, true, true, true, true, true, true, true, true, true, true, true, false, false, false, false, false, false, false, false] rfl rfl (by kernel_rfl) (fun _ _ _ h => h) (Or.inl ⟨by rfl, ?_⟩) ?_ ?_
            rotate_left
            · intro w'
              go_simp
              with_reducible rfl
            rotate_left
            · simp only [Act.put, List.setIfInBounds_toArray, List.set_cons_zero, List.set_cons_succ, qg, qh]
              rfl
            refine qj (i := 22) (N := some 104) (v := ?_) (a' := ?_) #[true, true, true, true, true, true, true, true, true, true, true, true, true, true, true, true, true, true, true, true, true, true, true, false, false, false, false, false, false, false] rfl rfl (by kernel_rfl) (fun _ _ _ h => h) (Or.inl ⟨by rfl, ?_⟩) ?_ ?_
            rotate_left
            · intro w'
              go_simp
              with_reducible rfl
            rotate_left
            · simp only [Act.put, List.setIfInBounds_toArray, List.set_cons_zero, List.set_cons_succ, qg, qh]
              rfl
            refine qj (i := 23) (N := some 105) (v := ?_) (a' := ?_) #[true, true, true, true, true, true, true, true, true, true, true, true, true, true, true, true, true, true, true, true, true, true, true, true, false, false, false, false, false, false] rfl rfl (by kernel_rfl) (fun _ _ _ h => h) (Or.inl ⟨by rfl, ?_⟩) ?_ ?_
            rotate_left
            · intro w'
              go_simp
              with_reducible rfl
            rotate_left
            · simp only [Act.put, List.setIfInBounds_toArray, List.set_cons_zero, List.set_cons_succ, qg, qh]
              rfl
            refine qj (i := 25) (N := some 107) (v := ?_) (a' := ?_) #[true, true, true, true, true, true, true, true, true, true, true, true, true, true, true, true, true, true, true, true, true, true, true, true, false, true, false, false, false, false] rfl rfl (by kernel_rfl) (fun _ _ _ h => h) (Or.inl ⟨by rfl, ?_⟩) ?_ ?_
            rotate_left
            · intro w'
              go_simp
              with_reducible rfl
            rotate_left
            · simp only [Act.put, List.setIfInBounds_toArray, List.set_cons_zero, List.set_cons_succ, qg, qh]
              rfl
            refine zq (i := 24) (N := some 106) (v := ?_) (a' := ?_) #[true, true, true, true, true, true, true, true, true, true, true, true, true, true, true, true, true, true, true, true, true, true, true, true, true, true, false, false, false, false] rfl rfl (by kernel_rfl) (fun _ _ _ h => h) (Or.inl ⟨by rfl, ?_⟩) hHeld ?_ ?_
            rotate_left
            · rintro w' ⟨s0, s1, s2⟩
              go_simp
              with_reducible rfl
            rotate_left
            · simp only [Act.put, List.setIfInBounds_toArray, List.set_cons_zero, List.set_cons_succ, qg, qh]
              rfl
            refine zq (i := 26) (N := some 108) (v := ?_) (a' := ?_) #[true, true, true, true, true, true, true, true, true, true, true, true, true, true, true, true, true, true, true, true, true, true, true, true, true, true, true, false, false, false] rfl rfl (by kernel_rfl) (fun _ _ _ h => h) (Or.inl ⟨by rfl, ?_⟩) hHeld ?_ ?_
            rotate_left
            · rintro w' ⟨s0, s1, s2⟩
              go_simp
              with_reducible rfl
            rotate_left
            · simp only [Act.put, List.setIfInBounds_toArray, List.set_cons_zero, List.set_cons_succ, qg, qh]
              rfl
            refine zS (i := 27) (N := some 109) #[true, true, true, true, true, true, true, true, true, true, true, true, true, true, true, true, true, true, true, true, true, true, true, true, true, true, true, true, false, false] rfl rfl (by kernel_rfl) (by decide) (fun K hK => ?_)
            refine Qk Try.func30 (by kernel_rfl) rfl #[.slice A bs.length c, .int .i64 pl, .int .i64 sz] (by rfl) rfl rfl (by simp only [List.map_toArray, List.map_cons, List.map_nil]; rfl) ?_
            with_reducible refine ((HH.out pl sz w12 (qc B2.out D12.out))).mono ?_
            rintro e w13 ⟨rfl, h1⟩
            refine ⟨_, rfl, ?_⟩
            rw [HBB.out]
            have T13 := qa.mk ((h1.block _ (qz T12.out)).trans T12.out)
            have K13 := qa.mk ((h1.block _ (qz K12.out)).trans K12.out)
            have R13 := qa.mk (Kd.qM R12.out h1)
            have D13 := qa.mk (qc D12.out h1)
            clear h1
            refine hK.out _ _ ?_
            clear hK K
            refine zO (a' := ?_) ?_ ?_
            rotate_left
            · show Act.put _ (some 109) _ = _
              simp only [Act.put, List.setIfInBounds_toArray, List.set_cons_zero, List.set_cons_succ, qg, qh]
              rfl
            refine qj (i := 28) (N := some 110) (v := ?_) (a' := ?_) #[true, true, true, true, true, true, true, true, true, true, true, true, true, true, true, true, true, true, true, true, true, true, true, true, true, true, true, true, true, false] rfl rfl (by kernel_rfl) (fun _ _ _ h => h) (Or.inl ⟨by rfl, ?_⟩) ?_ ?_
            rotate_left
            · intro w'
              go_simp
              with_reducible rfl
            rotate_left
            · simp only [Act.put, List.setIfInBounds_toArray, List.set_cons_zero, List.set_cons_succ, qg, qh]
              rfl
            refine qj (i := 29) (N := some 111) (v := ?_) (a' := ?_) #[true, true, true, true, true, true, true, true, true, true, true, true, true, true, true, true, true, true, true, true, true, true, true, true, true, true, true, true, true, true] rfl rfl (by kernel_rfl) (fun _ _ _ h => h) (Or.inl ⟨by rfl, ?_⟩) ?_ ?_
            rotate_left
            · intro w'
              go_simp
              with_reducible rfl
            rotate_left
            · simp only [Act.put, List.setIfInBounds_toArray, List.set_cons_zero, List.set_cons_succ, qg, qh]
              rfl
            refine jM (by kernel_rfl) ?_
            go_wp2
            go_meet
            case rel => exact ⟨_, rfl, ⟨fun h => Zq (Or.inr (Or.inr (Or.inr (fun q => by have z := HBB.out; unfold hasB at z; rw [decide_eq_true q] at z; subst z; simp at h))))⟩, ⟨fun h => ⟨OL.out, OE.out, TR.out, by have z := HBB.out; cases hb; (simp at h); exact z⟩⟩, T13, K13, R13, D13⟩
          · have r1 := eq_false rz
            have r2 : (r == 0) = false := beq_eq_false_iff_ne.2 rz
            have r3 : (r != 0) = true := bne_iff_ne.2 rz
            have RZ := qa.mk rz
            clear rz
            refine jf (n := 30) (S := fun w' => w'.cell? ⟨gT, 0, none⟩ = some (.string tg) ∧ w'.cell? ⟨gT, 1, none⟩ = some (.int .i64 pl) ∧ w'.cell? ⟨gT, 2, none⟩ = some (.int .i64 sz)) (ds := []) #[false, false, false, false, false, false, false, false, false, false, false, false, false, false, false, false, false, false, false, false, false, false, false, false, false, false, false, false, false, false] (by kernel_rfl) rfl rfl ⟨t0, t1, t2⟩ (fun hHeld => ?_)
            obtain ⟨w12, hW, T12, K12, R12, D12⟩ : ∃ W, W = w11.drew ∧ qa (W.heap[gT]? = some (Obj.cells #[.string tg, .int .i64 pl, .int .i64 sz] 71 (0, 0))) ∧ qa (W.heap[g8]? = some (Obj.cells (zA kd A2 acc.length c2 A bs.length c) 28 (0, 0))) ∧ qa (Kd.R k71 71 W w2.heap.size (fun _ => True) (.slice A2 acc.length c2) acc) ∧ qa (Below w2.heap.size w2 W) := ⟨_, rfl, ⟨qQ KT.out⟩, ⟨qQ K11.out⟩, ⟨Kd.qw R11.out⟩, ⟨zm DD.out⟩⟩
            rw [← hW] at hHeld ⊢
            clear hW KT K11 R11 DD
            refine qj (i := 0) (N := some 82) (v := ?_) (a' := ?_) #[true, false, false, false, false, false, false, false, false, false, false, false, false, false, false, false, false, false, false, false, false, false, false, false, false, false, false, false, false, false] rfl rfl (by kernel_rfl) (fun _ _ _ h => h) (Or.inl ⟨by rfl, ?_⟩) ?_ ?_
            rotate_left
            · intro w'
              go_simp
              with_reducible rfl
            rotate_left
            · simp only [Act.put, List.setIfInBounds_toArray, List.set_cons_zero, List.set_cons_succ, qg, qh]
              rfl
            refine qj (i := 1) (N := some 83) (v := ?_) (a' := ?_) #[true, true, false, false, false, false, false, false, false, false, false, false, false, false, false, false, false, false, false, false, false, false, false, false, false, false, false, false, false, false] rfl rfl (by kernel_rfl) (fun _ _ _ h => h) (Or.inl ⟨by rfl, ?_⟩) ?_ ?_
            rotate_left
            · intro w'
              go_simp
              with_reducible rfl
            rotate_left
            · simp only [Act.put, List.setIfInBounds_toArray, List.set_cons_zero, List.set_cons_succ, qg, qh]
              rfl
            refine qj (i := 2) (N := some 84) (v := ?_) (a' := ?_) #[true, true, true, false, false, false, false, false, false, false, false, false, false, false, false, false, false, false, false, false, false, false, false, false, false, false, false, false, false, false] rfl rfl (by kernel_rfl) (fun _ _ _ h => h) (Or.inl ⟨by rfl, ?_⟩) ?_ ?_
            rotate_left
            · intro w'
              go_simp
              with_reducible rfl
            rotate_left
            · simp only [Act.put, List.setIfInBounds_toArray, List.set_cons_zero, List.set_cons_succ, qg, qh]
              rfl
            refine qj (i := 3) (N := some 85) (v := undef) (a' := ?_) #[true, true, true, true, false, false, false, false, false, false, false, false, false, false, false, false, false, false, false, false, false, false, false, false, false, false, false, false, false, false] rfl rfl (by kernel_rfl) (fun _ _ _ h => h) (Or.inr ⟨by rfl, rfl⟩) ?_ ?_
            rotate_left
            · simp only [Act.put, List.setIfInBounds_toArray, List.set_cons_zero, List.set_cons_succ, qg, qh]
              rfl
            refine qj (i := 4) (N := some 86) (v := undef) (a' := ?_) #[true, true, true, true, true, false, false, false, false, false, false, false, false, false, false, false, false, false, false, false, false, false, false, false, false, false, false, false, false, false] rfl rfl (by kernel_rfl) (fun _ _ _ h => h) (Or.inr ⟨by rfl, rfl⟩) ?_ ?_
            rotate_left
            · simp only [Act.put, List.setIfInBounds_toArray, List.set_cons_zero, List.set_cons_succ, qg, qh]
              rfl
            refine qj (i := 5) (N := some 87) (v := undef) (a' := ?_) #[true, true, true, true, true, true, false, false, false, false, false, false, false, false, false, false, false, false, false, false, false, false, false, false, false, false, false, false, false, false] rfl rfl (by kernel_rfl) (fun _ _ _ h => h) (Or.inr ⟨by rfl, rfl⟩) ?_ ?_
            rotate_left
            · simp only [Act.put, List.setIfInBounds_toArray, List.set_cons_zero, List.set_cons_succ, qg, qh]
              rfl
            refine qj (i := 6) (N := some 88) (v := undef) (a' := ?_) #[true, true, true, true, true, true, true, false, false, false, false, false, false, false, false, false, false, false, false, false, false, false, false, false, false, false, false, false, false, false] rfl rfl (by kernel_rfl) (fun _ _ _ h => h) (Or.inr ⟨by rfl, rfl⟩) ?_ ?_
            rotate_left
            · simp only [Act.put, List.setIfInBounds_toArray, List.set_cons_zero, List.set_cons_succ, qg, qh]
              rfl
            refine qj (i := 7) (N := some 89) (v := undef) (a' := ?_) #[true, true, true, true, true, true, true, true, false, false, false, false, false, false, false, false, false, false, false, false, false, false, false, false, false, false, false, false, false, false] rfl rfl (by kernel_rfl) (fun _ _ _ h => h) (Or.inr ⟨by rfl, rfl⟩) ?_ ?_
            rotate_left
            · simp only [Act.put, List.setIfInBounds_toArray, List.set_cons_zero, List.set_cons_succ, qg, qh]
              rfl
            refine qj (i := 8) (N := some 90) (v := undef) (a' := ?_) #[true, true, true, true, true, true, true, true, true, false, false, false, false, false, false, false, false, false, false, false, false, false, false, false, false, false, false, false, false, false] rfl rfl (by kernel_rfl) (fun _ _ _ h => h) (Or.inr ⟨by rfl, rfl⟩) ?_ ?_
            rotate_left
            · simp only [Act.put, List.setIfInBounds_toArray, List.set_cons_zero, List.set_cons_succ, qg, qh]
              rfl
            refine qj (i := 9) (N := some 91) (v := undef) (a' := ?_) #[true, true, true, true, true, true, true, true, true, true, false, false, false, false, false, false, false, false, false, false, false, false, false, false, false, false, false, false, false, false] rfl rfl (by kernel_rfl) (fun _ _ _ h => h) (Or.inr ⟨by rfl, rfl⟩) ?_ ?_
            rotate_left
            · simp only [Act.put, List.setIfInBounds_toArray, List.set_cons_zero, List.set_cons_succ, qg, qh]
              rfl
            refine qj (i := 10) (N := some 92) (v := undef) (a' := ?_) #[true, true, true, true, true, true, true, true, true, true, true, false, false, false, false, false, false, false, false, false, false, false, false, false, false, false, false, false, false, false] rfl rfl (by kernel_rfl) (fun _ _ _ h => h) (Or.inr ⟨by rfl, rfl⟩) ?_ ?_
            rotate_left
            · simp only [Act.put, List.setIfInBounds_toArray, List.set_cons_zero, List.set_cons_succ, qg, qh]
              rfl
            refine qj (i := 11) (N := some 93) (v := undef) (a' := ?_) #[true, true, true, true, true, true, true, true, true, true, true, true, false, false, false, false, false, false, false, false, false, false, false, false, false, false, false, false, false, false] rfl rfl (by kernel_rfl) (fun _ _ _ h => h) (Or.inr ⟨by rfl, rfl⟩) ?_ ?_
            rotate_left
            · simp only [Act.put, List.setIfInBounds_toArray, List.set_cons_zero, List.set_cons_succ, qg, qh]
              rfl
            refine qj (i := 12) (N := some 94) (v := undef) (a' := ?_) #[true, true, true, true, true, true, true, true, true, true, true, true, true, false, false, false, false, false, false, false, false, false, false, false, false, false, false, false, false, false] rfl rfl (by kernel_rfl) (fun _ _ _ h => h) (Or.inr ⟨by rfl, rfl⟩) ?_ ?_
            rotate_left
            · simp only [Act.put, List.setIfInBounds_toArray, List.set_cons_zero, List.set_cons_succ, qg, qh]
              rfl
            refine qj (i := 13) (N := some 95) (v := undef) (a' := ?_) #[true, true, true, true, true, true, true, true, true, true, true, true, true, true, false, false, false, false, false, false, false, false, false, false, false, false, false, false, false, false] rfl rfl (by kernel_rfl) (fun _ _ _ h => h) (Or.inr ⟨by rfl, rfl⟩) ?_ ?_
            rotate_left
            · simp only [Act.put, List.setIfInBounds_toArray, List.set_cons_zero, List.set_cons_succ, qg, qh]
              rfl
            refine qj (i := 14) (N := some 96) (v := ?_) (a' := ?_) #[true, true, true, true, true, true, true, true, true, true, true, true, true, true, true, false, false, false, false, false, false, false, false, false, false, false, false, false, false, false] rfl rfl (by kernel_rfl) (fun _ _ _ h => h) (Or.inl ⟨by rfl, ?_⟩) ?_ ?_
            rotate_left
            · intro w'
              go_simp
              with_reducible rfl
            rotate_left
            · simp only [Act.put, List.setIfInBounds_toArray, List.set_cons_zero, List.set_cons_succ, qg, qh]
              rfl
            refine qj (i := 15) (N := some 97) (v := ?_) (a' := ?_) #[true, true, true, true, true, true, true, true, true, true, true, true, true, true, true, true, false, false, false, false, false, false, false, false, false, false, false, false, false, false] rfl rfl (by kernel_rfl) (fun _ _ _ h => h) (Or.inl ⟨by rfl, ?_⟩) ?_ ?_
            rotate_left
            · intro w'
              go_simp
              with_reducible rfl
            rotate_left
            · simp only [Act.put, List.setIfInBounds_toArray, List.set_cons_zero, List.set_cons_succ, qg, qh]
              rfl
            refine qj (i := 16) (N := some 98) (v := ?_) (a' := ?_) #[true, true, true, true, true, true, true, true, true, true, true, true, true, true, true, true, true, false, false, false, false, false, false, false, false, false, false, false, false, false] rfl rfl (by kernel_rfl) (fun _ _ _ h => h) (Or.inl ⟨by rfl, ?_⟩) ?_ ?_
            rotate_left
            · intro w'
              go_simp
              with_reducible rfl
            rotate_left
            · simp only [Act.put, List.setIfInBounds_toArray, List.set_cons_zero, List.set_cons_succ, qg, qh]
              rfl
            refine zq (i := 17) (N := some 99) (v := ?_) (a' := ?_) #[true, true, true, true, true, true, true, true, true, true, true, true, true, true, true, true, true, true, false, false, false, false, false, false, false, false, false, false, false, false] rfl rfl (by kernel_rfl) (fun _ _ _ h => h) (Or.inl ⟨by rfl, ?_⟩) hHeld ?_ ?_
            rotate_left
            · rintro w' ⟨s0, s1, s2⟩
              go_simp
              with_reducible rfl
            rotate_left
            · simp only [Act.put, List.setIfInBounds_toArray, List.set_cons_zero, List.set_cons_succ, qg, qh]
              rfl
            refine qj (i := 18) (N := some 100) (v := ?_) (a' := ?_) #[true, true, true, true, true, true, true, true, true, true, true, true, true, true, true, true, true, true, true, false, false, false, false, false, false, false, false, false, false, false] rfl rfl (by kernel_rfl) (fun _ _ _ h => h) (Or.inl ⟨by rfl, ?_⟩) ?_ ?_
            rotate_left
            · intro w'
              go_simp
              with_reducible rfl
            rotate_left
            · simp only [Act.put, List.setIfInBounds_toArray, List.set_cons_zero, List.set_cons_succ, qg, qh]
              rfl
            refine qj (i := 19) (N := some 101) (v := ?_) (a' := ?_) #[true, true, true, true, true, true, true, true, true, true, true, true, true, true, true, true, true, true, true, true, false, false, false, false, false, false, false, false, false, false] rfl rfl (by kernel_rfl) (fun _ _ _ h => h) (Or.inl ⟨by rfl, ?_⟩) ?_ ?_
            rotate_left
            · intro w'
              go_simp
              with_reducible rfl
            rotate_left
            · simp only [Act.put, List.setIfInBounds_toArray, List.set_cons_zero, List.set_cons_succ, qg, qh]
              rfl
            refine qj (i := 20) (N := some 102) (v := ?_) (a' := ?_) #[true, true, true, true, true, true, true, true, true, true, true, true, true, true, true, true, true, true, true, true, true, false, false, false, false, false, false, false, false, false] rfl rfl (by kernel_rfl) (fun _ _ _ h => h) (Or.inl ⟨by rfl, ?_⟩) ?_ ?_
            rotate_left
            · intro w'
              go_simp
              with_reducible rfl
            rotate_left
            · simp only [Act.put, List.setIfInBounds_toArray, List.set_cons_zero, List.set_cons_succ, qg, qh]
              rfl
            refine qj (i := 21) (N := some 103) (v := ?_) (a' := ?_) #[true, true, true, true, true, true, true, true, true, true, true, true, true, true, true, true, true, true, true, true, true, true, false, false, false, false, false, false, false, false] rfl rfl (by kernel_rfl) (fun _ _ _ h => h) (Or.inl ⟨by rfl, ?_⟩) ?_ ?_
            rotate_left
            · intro w'
              go_simp
              with_reducible rfl
            rotate_left
            · simp only [Act.put, List.setIfInBounds_toArray, List.set_cons_zero, List.set_cons_succ, qg, qh]
              rfl
            refine qj (i := 22) (N := some 104) (v := undef) (a' := ?_) #[true, true, true, true, true, true, true, true, true, true, true, true, true, true, true, true, true, true, true, true, true, true, true, false, false, false, false, false, false, false] rfl rfl (by kernel_rfl) (fun _ _ _ h => h) (Or.inr ⟨by rfl, rfl⟩) ?_ ?_
            rotate_left
            · simp only [Act.put, List.setIfInBounds_toArray, List.set_cons_zero, List.set_cons_succ, qg, qh]
              rfl
            refine qj (i := 23) (N := some 105) (v := undef) (a' := ?_) #[true, true, true, true, true, true, true, true, true, true, true, true, true, true, true, true, true, true, true, true, true, true, true, true, false, false, false, false, false, false] rfl rfl (by kernel_rfl) (fun _ _ _ h => h) (Or.inr ⟨by rfl, rfl⟩) ?_ ?_
            rotate_left
            · simp only [Act.put, List.setIfInBounds_toArray, List.set_cons_zero, List.set_cons_succ, qg, qh]
              rfl
            refine qj (i := 24) (N := some 106) (v := undef) (a' := ?_) #[true, true, true, true, true, true, true, true, true, true, true, true, true, true, true, true, true, true, true, true, true, true, true, true, true, false, false, false, false, false] rfl rfl (by kernel_rfl) (fun _ _ _ h => h) (Or.inr ⟨by rfl, rfl⟩) ?_ ?_
            rotate_left
            · simp only [Act.put, List.setIfInBounds_toArray, List.set_cons_zero, List.set_cons_succ, qg, qh]
              rfl
            refine qj (i := 25) (N := some 107) (v := undef) (a' := ?_) #[true, true, true, true, true, true, true, true, true, true, true, true, true, true, true, true, true, true, true, true, true, true, true, true, true, true, false, false, false, false] rfl rfl (by kernel_rfl) (fun _ _ _ h => h) (Or.inr ⟨by rfl, rfl⟩) ?_ ?_
            rotate_left
            · simp only [Act.put, List.setIfInBounds_toArray, List.set_cons_zero, List.set_cons_succ, qg, qh]
              rfl
            refine qj (i := 26) (N := some 108) (v := undef) (a' := ?_) #[true, true, true, true, true, true, true, true, true, true, true, true, true, true, true, true, true, true, true, true, true, true, true, true, true, true, true, false, false, false] rfl rfl (by kernel_rfl) (fun _ _ _ h => h) (Or.inr ⟨by rfl, rfl⟩) ?_ ?_
            rotate_left
            · simp only [Act.put, List.setIfInBounds_toArray, List.set_cons_zero, List.set_cons_succ, qg, qh]
              rfl
            refine qj (i := 27) (N := some 109) (v := undef) (a' := ?_) #[true, true, true, true, true, true, true, true, true, true, true, true, true, true, true, true, true, true, true, true, true, true, true, true, true, true, true, true, false, false] rfl rfl (by kernel_rfl) (fun _ _ _ h => h) (Or.inr ⟨by rfl, rfl⟩) ?_ ?_
            rotate_left
            · simp only [Act.put, List.setIfInBounds_toArray, List.set_cons_zero, List.set_cons_succ, qg, qh]
              rfl
            refine qj (i := 28) (N := some 110) (v := undef) (a' := ?_) #[true, true, true, true, true, true, true, true, true, true, true, true, true, true, true, true, true, true, true, true, true, true, true, true, true, true, true, true, true, false] rfl rfl (by kernel_rfl) (fun _ _ _ h => h) (Or.inr ⟨by rfl, rfl⟩) ?_ ?_
            rotate_left
            · simp only [Act.put, List.setIfInBounds_toArray, List.set_cons_zero, List.set_cons_succ, qg, qh]
              rfl
            refine qj (i := 29) (N := some 111) (v := ?_) (a' := ?_) #[true, true, true, true, true, true, true, true, true, true, true, true, true, true, true, true, true, true, true, true, true, true, true, true, true, true, true, true, true, true] rfl rfl (by kernel_rfl) (fun _ _ _ h => h) (Or.inl ⟨by rfl, ?_⟩) ?_ ?_
            rotate_left
            · intro w'
              go_simp
              with_reducible rfl
            rotate_left
            · simp only [Act.put, List.setIfInBounds_toArray, List.set_cons_zero, List.set_cons_succ, qg, qh]
              rfl
            refine jM (by kernel_rfl) ?_
            go_wp2
            go_meet
            case rel => exact ⟨_, rfl, ⟨fun _ => Zq (Or.inr (Or.inr (Or.inl (by rw [TR.out]; exact RZ.out))))⟩, ⟨fun h => by simp at h⟩, T12, K12, R12, D12⟩
        · have i0 : 0 < i := by omega
          have i1 := eq_true i0
          have i2 := eq_true (show (0 : Int) < (i : Int) by omega)
          obtain ⟨j, hj⟩ : ∃ j : Int, (i : Int) - 1 = j := ⟨_, rfl⟩
          have wj : wrap64 ((i : Int) - 1) = j := by rw [ja (by omega) (by omega)]; exact hj
          have ea : acc.length = i := HL.out
          obtain ⟨ad, e2, x0, _, _⟩ := at_T71 (Kd.qJ R11.out).2.2 j (by omega) (by omega)
          have la : lastT acc = (QR acc j).f0 := by
            unfold lastT
            rw [if_neg (by omega), show ((acc.length - 1 : Nat) : Int) = j by omega]
          obtain ⟨lt, hlt⟩ : ∃ x, lastT acc = x := ⟨_, rfl⟩
          rw [← la, hlt] at x0
          have j0 := eq_true (show 0 ≤ j by omega)
          have j1 := eq_true (show j < (acc.length : Int) by omega)
          have tri := less_tri tg.toList lt.toList
          have TRI := qa.mk tri
          subst e2
          have HLT := qa.mk hlt
          clear hj la hlt il il2 ilt hi tri ea i0 iz
          cases o : Op.bytesLess lt.toList tg.toList with
          | false =>
            have O := qa.mk o
            refine jf (n := 30) (S := fun w' => w'.cell? ⟨g8, 1, none⟩ = some (.slice (some ad) acc.length c2) ∧ w'.cell? (ad.add (j.toNat * 3)) = some (.string lt) ∧ w'.cell? ⟨gT, 0, none⟩ = some (.string tg) ∧ w'.cell? ⟨gT, 1, none⟩ = some (.int .i64 pl) ∧ w'.cell? ⟨gT, 2, none⟩ = some (.int .i64 sz)) (ds := []) #[false, false, false, false, false, false, false, false, false, false, false, false, false, false, false, false, false, false, false, false, false, false, false, false, false, false, false, false, false, false] (by kernel_rfl) rfl rfl ⟨y1, x0, t0, t1, t2⟩ (fun hHeld => ?_)
            obtain ⟨w12, hW, T12, K12, R12, D12⟩ : ∃ W, W = w11.drew ∧ qa (W.heap[gT]? = some (Obj.cells #[.string tg, .int .i64 pl, .int .i64 sz] 71 (0, 0))) ∧ qa (W.heap[g8]? = some (Obj.cells (zA kd (some ad) acc.length c2 A bs.length c) 28 (0, 0))) ∧ qa (Kd.R k71 71 W w2.heap.size (fun _ => True) (.slice (some ad) acc.length c2) acc) ∧ qa (Below w2.heap.size w2 W) := ⟨_, rfl, ⟨qQ KT.out⟩, ⟨qQ K11.out⟩, ⟨Kd.qw R11.out⟩, ⟨zm DD.out⟩⟩
            rw [← hW] at hHeld ⊢
            clear hW KT K11 R11 DD
            refine qj (i := 0) (N := some 82) (v := ?_) (a' := ?_) #[true, false, false, false, false, false, false, false, false, false, false, false, false, false, false, false, false, false, false, false, false, false, false, false, false, false, false, false, false, false] rfl rfl (by kernel_rfl) (fun _ _ _ h => h) (Or.inl ⟨by rfl, ?_⟩) ?_ ?_
            rotate_left
            · intro w'
              go_simp
              with_reducible rfl
            rotate_left
            · simp only [Act.put, List.setIfInBounds_toArray, List.set_cons_zero, List.set_cons_succ, qg, qh]
              rfl
            refine qj (i := 1) (N := some 83) (v := ?_) (a' := ?_) #[true, true, false, false, false, false, false, false, false, false, false, false, false, false, false, false, false, false, false, false, false, false, false, false, false, false, false, false, false, false] rfl rfl (by kernel_rfl) (fun _ _ _ h => h) (Or.inl ⟨by rfl, ?_⟩) ?_ ?_
            rotate_left
            · intro w'
              go_simp
              with_reducible rfl
            rotate_left
            · simp only [Act.put, List.setIfInBounds_toArray, List.set_cons_zero, List.set_cons_succ, qg, qh]
              rfl
            refine qj (i := 2) (N := some 84) (v := ?_) (a' := ?_) #[true, true, true, false, false, false, false, false, false, false, false, false, false, false, false, false, false, false, false, false, false, false, false, false, false, false, false, false, false, false] rfl rfl (by kernel_rfl) (fun _ _ _ h => h) (Or.inl ⟨by rfl, ?_⟩) ?_ ?_
            rotate_left
            · intro w'
              go_simp
              with_reducible rfl
            rotate_left
            · simp only [Act.put, List.setIfInBounds_toArray, List.set_cons_zero, List.set_cons_succ, qg, qh]
              rfl
            refine qj (i := 3) (N := some 85) (v := ?_) (a' := ?_) #[true, true, true, true, false, false, false, false, false, false, false, false, false, false, false, false, false, false, false, false, false, false, false, false, false, false, false, false, false, false] rfl rfl (by kernel_rfl) (fun _ _ _ h => h) (Or.inl ⟨by rfl, ?_⟩) ?_ ?_
            rotate_left
            · intro w'
              go_simp
              with_reducible rfl
            rotate_left
            · simp only [Act.put, List.setIfInBounds_toArray, List.set_cons_zero, List.set_cons_succ, qg, qh]
              rfl
            refine qj (i := 5) (N := some 87) (v := ?_) (a' := ?_) #[true, true, true, true, false, true, false, false, false, false, false, false, false, false, false, false, false, false, false, false, false, false, false, false, false, false, false, false, false, false] rfl rfl (by kernel_rfl) (fun _ _ _ h => h) (Or.inl ⟨by rfl, ?_⟩) ?_ ?_
            rotate_left
            · intro w'
              go_simp
              with_reducible rfl
            rotate_left
            · simp only [Act.put, List.setIfInBounds_toArray, List.set_cons_zero, List.set_cons_succ, qg, qh]
              rfl
            refine qj (i := 6) (N := some 88) (v := ?_) (a' := ?_) #[true, true, true, true, false, true, true, false, false, false, false, false, false, false, false, false, false, false, false, false, false, false, false, false, false, false, false, false, false, false] rfl rfl (by kernel_rfl) (fun _ _ _ h => h) (Or.inl ⟨by rfl, ?_⟩) ?_ ?_
            rotate_left
            · intro w'
              go_simp
              with_reducible rfl
            rotate_left
            · simp only [Act.put, List.setIfInBounds_toArray, List.set_cons_zero, List.set_cons_succ, qg, qh]
              rfl
            refine qj (i := 10) (N := some 92) (v := ?_) (a' := ?_) #[true, true, true, true, false, true, true, false, false, false, true, false, false, false, false, false, false, false, false, false, false, false, false, false, false, false, false, false, false, false] rfl rfl (by kernel_rfl) (fun _ _ _ h => h) (Or.inl ⟨by rfl, ?_⟩) ?_ ?_
            rotate_left
            · intro w'
              go_simp
              with_reducible rfl
            rotate_left
            · simp only [Act.put, List.setIfInBounds_toArray, List.set_cons_zero, List.set_cons_succ, qg, qh]
              rfl
            refine zq (i := 4) (N := some 86) (v := ?_) (a' := ?_) #[true, true, true, true, true, true, true, false, false, false, true, false, false, false, false, false, false, false, false, false, false, false, false, false, false, false, false, false, false, false] rfl rfl (by kernel_rfl) (fun _ _ _ h => h) (Or.inl ⟨by rfl, ?_⟩) hHeld ?_ ?_
            rotate_left
            · rintro w' ⟨s0, s1, s2, s3, s4⟩
              go_simp
              with_reducible rfl
            rotate_left
            · simp only [Act.put, List.setIfInBounds_toArray, List.set_cons_zero, List.set_cons_succ, qg, qh]
              rfl
            refine qj (i := 7) (N := some 89) (v := ?_) (a' := ?_) #[true, true, true, true, true, true, true, true, false, false, true, false, false, false, false, false, false, false, false, false, false, false, false, false, false, false, false, false, false, false] rfl rfl (by kernel_rfl) (fun _ _ _ h => h) (Or.inl ⟨by rfl, ?_⟩) ?_ ?_
            rotate_left
            · intro w'
              go_simp
              with_reducible rfl
            rotate_left
            · simp only [Act.put, List.setIfInBounds_toArray, List.set_cons_zero, List.set_cons_succ, qg, qh]
              rfl
            refine qj (i := 8) (N := some 90) (v := ?_) (a' := ?_) #[true, true, true, true, true, true, true, true, true, false, true, false, false, false, false, false, false, false, false, false, false, false, false, false, false, false, false, false, false, false] rfl rfl (by kernel_rfl) (fun _ _ _ h => h) (Or.inl ⟨by rfl, ?_⟩) ?_ ?_
            rotate_left
            · intro w'
              go_simp
              with_reducible rfl
            rotate_left
            · simp only [Act.put, List.setIfInBounds_toArray, List.set_cons_zero, List.set_cons_succ, qg, qh]
              rfl
            refine zq (i := 9) (N := some 91) (v := ?_) (a' := ?_) #[true, true, true, true, true, true, true, true, true, true, true, false, false, false, false, false, false, false, false, false, false, false, false, false, false, false, false, false, false, false] rfl rfl (by kernel_rfl) (fun _ _ _ h => h) (Or.inl ⟨by rfl, ?_⟩) hHeld ?_ ?_
            rotate_left
            · rintro w' ⟨s0, s1, s2, s3, s4⟩
              go_simp
              with_reducible rfl
            rotate_left
            · simp only [Act.put, List.setIfInBounds_toArray, List.set_cons_zero, List.set_cons_succ, qg, qh]
              rfl
            refine zq (i := 11) (N := some 93) (v := ?_) (a' := ?_) #[true, true, true, true, true, true, true, true, true, true, true, true, false, false, false, false, false, false, false, false, false, false, false, false, false, false, false, false, false, false] rfl rfl (by kernel_rfl) (fun _ _ _ h => h) (Or.inl ⟨by rfl, ?_⟩) hHeld ?_ ?_
            rotate_left
            · rintro w' ⟨s0, s1, s2, s3, s4⟩
              go_simp
              with_reducible rfl
            rotate_left
            · simp only [Act.put, List.setIfInBounds_toArray, List.set_cons_zero, List.set_cons_succ, qg, qh]
              rfl
            refine qj (i := 12) (N := some 94) (v := ?_) (a' := ?_) #[true, true, true, true, true, true, true, true, true, true, true, true, true, false, false, false, false, false, false, false, false, false, false, false, false, false, false, false, false, false] rfl rfl (by kernel_rfl) (fun _ _ _ h => h) (Or.inl ⟨by rfl, ?_⟩) ?_ ?_
            rotate_left
            · intro w'
              go_simp
              with_reducible rfl
            rotate_left
            · simp only [Act.put, List.setIfInBounds_toArray, List.set_cons_zero, List.set_cons_succ, qg, qh]
              rfl
            refine qj (i := 13) (N := some 95) (v := ?_) (a' := ?_) #[true, true, true, true, true, true, true, true, true, true, true, true, true, true, false, false, false, false, false, false, false, false, false, false, false, false, false, false, false, false] rfl rfl (by kernel_rfl) (fun _ _ _ h => h) (Or.inl ⟨by rfl, ?_⟩) ?_ ?_
            rotate_left
            · intro w'
              go_simp
              with_reducible rfl
            rotate_left
            · simp only [Act.put, List.setIfInBounds_toArray, List.set_cons_zero, List.set_cons_succ, qg, qh]
              rfl
            refine qj (i := 14) (N := some 96) (v := ?_) (a' := ?_) #[true, true, true, true, true, true, true, true, true, true, true, true, true, true, true, false, false, false, false, false, false, false, false, false, false, false, false, false, false, false] rfl rfl (by kernel_rfl) (fun _ _ _ h => h) (Or.inl ⟨by rfl, ?_⟩) ?_ ?_
            rotate_left
            · intro w'
              go_simp
              with_reducible rfl
            rotate_left
            · simp only [Act.put, List.setIfInBounds_toArray, List.set_cons_zero, List.set_cons_succ, qg, qh]
              rfl
            refine qj (i := 15) (N := some 97) (v := ?_) (a' := ?_) #[true, true, true, true, true, true, true, true, true, true, true, true, true, true, true, true, false, false, false, false, false, false, false, false, false, false, false, false, false, false] rfl rfl (by kernel_rfl) (fun _ _ _ h => h) (Or.inl ⟨by rfl, ?_⟩) ?_ ?_
            rotate_left
            · intro w'
              go_simp
              with_reducible rfl
            rotate_left
            · simp only [Act.put, List.setIfInBounds_toArray, List.set_cons_zero, List.set_cons_succ, qg, qh]
              rfl
            refine qj (i := 16) (N := some 98) (v := undef) (a' := ?_) #[true, true, true, true, true, true, true, true, true, true, true, true, true, true, true, true, true, false, false, false, false, false, false, false, false, false, false, false, false, false] rfl rfl (by kernel_rfl) (fun _ _ _ h => h) (Or.inr ⟨by rfl, rfl⟩) ?_ ?_
            rotate_left
            · simp only [Act.put, List.setIfInBounds_toArray, List.set_cons_zero, List.set_cons_succ, qg, qh]
              rfl
            refine qj (i := 17) (N := some 99) (v := undef) (a' := ?_) #[true, true, true, true, true, true, true, true, true, true, true, true, true, true, true, true, true, true, false, false, false, false, false, false, false, false, false, false, false, false] rfl rfl (by kernel_rfl) (fun _ _ _ h => h) (Or.inr ⟨by rfl, rfl⟩) ?_ ?_
            rotate_left
            · simp only [Act.put, List.setIfInBounds_toArray, List.set_cons_zero, List.set_cons_succ, qg, qh]
              rfl
            refine qj (i := 18) (N := some 100) (v := undef) (a' := ?_) #[true, true, true, true, true, true, true, true, true, true, true, true, true, true, true, true, true, true, true, false, false, false, false, false, false, false, false, false, false, false] rfl rfl (by kernel_rfl) (fun _ _ _ h => h) (Or.inr ⟨by rfl, rfl⟩) ?_ ?_
            rotate_left
            · simp only [Act.put, List.setIfInBounds_toArray, List.set_cons_zero, List.set_cons_succ, qg, qh]
              rfl
            refine qj (i := 19) (N := some 101) (v := undef) (a' := ?_) #[true, true, true, true, true, true, true, true, true, true, true, true, true, true, true, true, true, true, true, true, false, false, false, false, false, false, false, false, false, false] rfl rfl (by kernel_rfl) (fun _ _ _ h => h) (Or.inr ⟨by rfl, rfl⟩) ?_ ?_
            rotate_left
            · simp only [Act.put, List.setIfInBounds_toArray, List.set_cons_zero, List.set_cons_succ, qg, qh]
              rfl
            refine qj (i := 20) (N := some 102) (v := ?_) (a' := ?_) #[true, true, true, true, true, true, true, true, true, true, true, true, true, true, true, true, true, true, true, true, true, false, false, false, false, false, false, false, false, false] rfl rfl (by kernel_rfl) (fun _ _ _ h => h) (Or.inl ⟨by rfl, ?_⟩) ?_ ?_
            rotate_left
            · intro w'
              go_simp
              with_reducible rfl
            rotate_left
            · simp only [Act.put, List.setIfInBounds_toArray, List.set_cons_zero, List.set_cons_succ, qg, qh]
              rfl
            refine qj (i := 21) (N := some 103) (v := ?_) (a' := ?_) #[true, true, true, true, true, true, true, true, true, true, true, true, true, true, true, true, true, true, true, true, true, true, false, false, false, false, false, false, false, false] rfl rfl (by kernel_rfl) (fun _ _ _ h => h) (Or.inl ⟨by rfl, ?_⟩) ?_ ?_
            rotate_left
            · intro w'
              go_simp
              with_reducible rfl
            rotate_left
            · simp only [Act.put, List.setIfInBounds_toArray, List.set_cons_zero, List.set_cons_succ, qg, qh]
              rfl
            refine qj (i := 22) (N := some 104) (v := undef) (a' := ?_) #[true, true, true, true, true, true, true, true, true, true, true, true, true, true, true, true, true, true, true, true, true, true, true, false, false, false, false, false, false, false] rfl rfl (by kernel_rfl) (fun _ _ _ h => h) (Or.inr ⟨by rfl, rfl⟩) ?_ ?_
            rotate_left
            · simp only [Act.put, List.setIfInBounds_toArray, List.set_cons_zero, List.set_cons_succ, qg, qh]
              rfl
            refine qj (i := 23) (N := some 105) (v := undef) (a' := ?_) #[true, true, true, true, true, true, true, true, true, true, true, true, true, true, true, true, true, true, true, true, true, true, true, true, false, false, false, false, false, false] rfl rfl (by kernel_rfl) (fun _ _ _ h => h) (Or.inr ⟨by rfl, rfl⟩) ?_ ?_
            rotate_left
            · simp only [Act.put, List.setIfInBounds_toArray, List.set_cons_zero, List.set_cons_succ, qg, qh]
              rfl
            refine qj (i := 24) (N := some 106) (v := undef) (a' := ?_) #[true, true, true, true, true, true, true, true, true, true, true, true, true, true, true, true, true, true, true, true, true, true, true, true, true, false, false, false, false, false] rfl rfl (by kernel_rfl) (fun _ _ _ h => h) (Or.inr ⟨by rfl, rfl⟩) ?_ ?_
            rotate_left
            · simp only [Act.put, List.setIfInBounds_toArray, List.set_cons_zero, List.set_cons_succ, qg, qh]
              rfl
            refine qj (i := 25) (N := some 107) (v := undef) (a' := ?_) #[true, true, true, true, true, true, true, true, true, true, true, true, true, true, true, true, true, true, true, true, true, true, true, true, true, true, false, false, false, false] rfl rfl (by kernel_rfl) (fun _ _ _ h => h) (Or.inr ⟨by rfl, rfl⟩) ?_ ?_
            rotate_left
            · simp only [Act.put, List.setIfInBounds_toArray, List.set_cons_zero, List.set_cons_succ, qg, qh]
              rfl
            refine qj (i := 26) (N := some 108) (v := undef) (a' := ?_) #[true, true, true, true, true, true, true, true, true, true, true, true, true, true, true, true, true, true, true, true, true, true, true, true, true, true, true, false, false, false] rfl rfl (by kernel_rfl) (fun _ _ _ h => h) (Or.inr ⟨by rfl, rfl⟩) ?_ ?_
            rotate_left
            · simp only [Act.put, List.setIfInBounds_toArray, List.set_cons_zero, List.set_cons_succ, qg, qh]
              rfl
            refine qj (i := 27) (N := some 109) (v := undef) (a' := ?_) #[true, true, true, true, true, true, true, true, true, true, true, true, true, true, true, true, true, true, true, true, true, true, true, true, true, true, true, true, false, false] rfl rfl (by kernel_rfl) (fun _ _ _ h => h) (Or.inr ⟨by rfl, rfl⟩) ?_ ?_
            rotate_left
            · simp only [Act.put, List.setIfInBounds_toArray, List.set_cons_zero, List.set_cons_succ, qg, qh]
              rfl
            refine qj (i := 28) (N := some 110) (v := undef) (a' := ?_) #[true, true, true, true, true, true, true, true, true, true, true, true, true, true, true, true, true, true, true, true, true, true, true, true, true, true, true, true, true, false] rfl rfl (by kernel_rfl) (fun _ _ _ h => h) (Or.inr ⟨by rfl, rfl⟩) ?_ ?_
            rotate_left
            · simp only [Act.put, List.setIfInBounds_toArray, List.set_cons_zero, List.set_cons_succ, qg, qh]
              rfl
            refine qj (i := 29) (N := some 111) (v := ?_) (a' := ?_) #[true, true, true, true, true, true, true, true, true, true, true, true, true, true, true, true, true, true, true, true, true, true, true, true, true, true, true, true, true, true] rfl rfl (by kernel_rfl) (fun _ _ _ h => h) (Or.inl ⟨by rfl, ?_⟩) ?_ ?_
            rotate_left
            · intro w'
              go_simp
              with_reducible rfl
            rotate_left
            · simp only [Act.put, List.setIfInBounds_toArray, List.set_cons_zero, List.set_cons_succ, qg, qh]
              rfl
            refine jM (by kernel_rfl) ?_
            go_wp2
            go_meet
            case rel => exact ⟨_, rfl, ⟨fun _ => by rw [HLT.out]; exact Zq (by have z := TRI.out; rw [O.out] at z; cases h1 : Op.bytesLess tg.toList lt.toList with | true => exact Or.inl rfl | false => exact Or.inr (Or.inl (by rw [h1] at z; cases h2 : (tg.toList == lt.toList) with | true => rfl | false => rw [h2] at z; cases z)))⟩, ⟨fun h => by simp at h⟩, T12, K12, R12, D12⟩
          | true =>
            have tri := TRI.out
            rw [o] at tri
            have OO := qa.mk (show Op.bytesLess tg.toList lt.toList = false ∧ (tg.toList == lt.toList) = false by
              cases h1 : Op.bytesLess tg.toList lt.toList <;> cases h2 : (tg.toList == lt.toList) <;> rw [h1, h2] at tri <;> first | exact ⟨rfl, rfl⟩ | cases tri)
            clear tri
            by_cases rz : r = 0
            · subst rz
              obtain ⟨hb, hhb⟩ : ∃ b, hasB bs pl sz = b := ⟨_, rfl⟩
              have HBB := qa.mk hhb
              clear hhb
              refine jf (n := 30) (S := fun w' => w'.cell? ⟨g8, 1, none⟩ = some (.slice (some ad) acc.length c2) ∧ w'.cell? (ad.add (j.toNat * 3)) = some (.string lt) ∧ w'.cell? ⟨gT, 0, none⟩ = some (.string tg) ∧ w'.cell? ⟨gT, 1, none⟩ = some (.int .i64 pl) ∧ w'.cell? ⟨gT, 2, none⟩ = some (.int .i64 sz)) (ds := [27]) #[false, false, false, false, false, false, false, false, false, false, false, false, false, false, false, false, false, false, false, false, false, false, false, false, false, false, false, false, false, false] (by kernel_rfl) rfl rfl ⟨y1, x0, t0, t1, t2⟩ (fun hHeld => ?_)
              obtain ⟨w12, hW, T12, K12, R12, D12⟩ : ∃ W, W = w11.drew ∧ qa (W.heap[gT]? = some (Obj.cells #[.string tg, .int .i64 pl, .int .i64 sz] 71 (0, 0))) ∧ qa (W.heap[g8]? = some (Obj.cells (zA kd (some ad) acc.length c2 A bs.length c) 28 (0, 0))) ∧ qa (Kd.R k71 71 W w2.heap.size (fun _ => True) (.slice (some ad) acc.length c2) acc) ∧ qa (Below w2.heap.size w2 W) := ⟨_, rfl, ⟨qQ KT.out⟩, ⟨qQ K11.out⟩, ⟨Kd.qw R11.out⟩, ⟨zm DD.out⟩⟩
              rw [← hW] at hHeld ⊢
              clear hW KT K11 R11 DD
              refine qj (i := 0) (N := some 82) (v := ?_) (a' := ?_) #[true, false, false, false, false, false, false, false, false, false, false, false, false, false, false, false, false, false, false, false, false, false, false, false, false, false, false, false, false, false] rfl rfl (by kernel_rfl) (fun _ _ _ h => h) (Or.inl ⟨by rfl, ?_⟩) ?_ ?_
              rotate_left
              · intro w'
                go_simp
                with_reducible rfl
              rotate_left
              · simp only [Act.put, List.setIfInBounds_toArray, List.set_cons_zero, List.set_cons_succ, qg, qh]
                rfl
              refine qj (i := 1) (N := some 83) (v := ?_) (a' := ?_) #[true, true, false, false, false, false, false, false, false, false, false, false, false, false, false, false, false, false, false, false, false, false, false, false, false, false, false, false, false, false] rfl rfl (by kernel_rfl) (fun _ _ _ h => h) (Or.inl ⟨by rfl, ?_⟩) ?_ ?_
              rotate_left
              · intro w'
                go_simp
                with_reducible rfl
              rotate_left
              · simp only [Act.put, List.setIfInBounds_toArray, List.set_cons_zero, List.set_cons_succ, qg, qh]
                rfl
              refine qj (i := 2) (N := some 84) (v := ?_) (a' := ?_) #[true, true, true, false, false, false, false, false, false, false, false, false, false, false, false, false, false, false, false, false, false, false, false, false, false, false, false, false, false, false] rfl rfl (by kernel_rfl) (fun _ _ _ h => h) (Or.inl ⟨by rfl, ?_⟩) ?_ ?_
              rotate_left
              · intro w'
                go_simp
                with_reducible rfl
              rotate_left
              · simp only [Act.put, List.setIfInBounds_toArray, List.set_cons_zero, List.set_cons_succ, qg, qh]
                rfl
              refine qj (i := 3) (N := some 85) (v := ?_) (a' := ?_) #[true, true, true, true, false, false, false, false, false, false, false, false, false, false, false, false, false, false, false, false, false, false, false, false, false, false, false, false, false, false] rfl rfl (by kernel_rfl) (fun _ _ _ h => h) (Or.inl ⟨by rfl, ?_⟩) ?_ ?_
              rotate_left
              · intro w'
                go_simp
                with_reducible rfl
              rotate_left
              · simp only [Act.put, List.setIfInBounds_toArray, List.set_cons_zero, List.set_cons_succ, qg, qh]
                rfl
              refine qj (i := 5) (N := some 87) (v := ?_) (a' := ?_) #[true, true, true, true, false, true, false, false, false, false, false, false, false, false, false, false, false, false, false, false, false, false, false, false, false, false, false, false, false, false] rfl rfl (by kernel_rfl) (fun _ _ _ h => h) (Or.inl ⟨by rfl, ?_⟩) ?_ ?_
              rotate_left
              · intro w'
                go_simp
                with_reducible rfl
              rotate_left
              · simp only [Act.put, List.setIfInBounds_toArray, List.set_cons_zero, List.set_cons_succ, qg, qh]
                rfl
              refine qj (i := 6) (N := some 88) (v := ?_) (a' := ?_) #[true, true, true, true, false, true, true, false, false, false, false, false, false, false, false, false, false, false, false, false, false, false, false, false, false, false, false, false, false, false] rfl rfl (by kernel_rfl) (fun _ _ _ h => h) (Or.inl ⟨by rfl, ?_⟩) ?_ ?_
              rotate_left
              · intro w'
                go_simp
                with_reducible rfl
              rotate_left
              · simp only [Act.put, List.setIfInBounds_toArray, List.set_cons_zero, List.set_cons_succ, qg, qh]
                rfl
              refine qj (i := 10) (N := some 92) (v := ?_) (a' := ?_) #[true, true, true, true, false, true, true, false, false, false, true, false, false, false, false, false, false, false, false, false, false, false, false, false, false, false, false, false, false, false] rfl rfl (by kernel_rfl) (fun _ _ _ h => h) (Or.inl ⟨by rfl, ?_⟩) ?_ ?_
              rotate_left
              · intro w'
                go_simp
                with_reducible rfl
              rotate_left
              · simp only [Act.put, List.setIfInBounds_toArray, List.set_cons_zero, List.set_cons_succ, qg, qh]
                rfl
              refine zq (i := 4) (N := some 86) (v := ?_) (a' := ?_) #[true, true, true, true, true, true, true, false, false, false, true, false, false, false, false, false, false, false, false, false, false, false, false, false, false, false, false, false, false, false] rfl rfl (by kernel_rfl) (fun _ _ _ h => h) (Or.inl ⟨by rfl, ?_⟩) hHeld ?_ ?_
              rotate_left
              · rintro w' ⟨s0, s1, s2, s3, s4⟩
                go_simp
                with_reducible rfl
              rotate_left
              · simp only [Act.put, List.setIfInBounds_toArray, List.set_cons_zero, List.set_cons_succ, qg, qh]
                rfl
              refine qj (i := 7) (N := some 89) (v := ?_) (a' := ?_) #[true, true, true, true, true, true, true, true, false, false, true, false, false, false, false, false, false, false, false, false, false, false, false, false, false, false, false, false, false, false] rfl rfl (by kernel_rfl) (fun _ _ _ h => h) (Or.inl ⟨by rfl, ?_⟩) ?_ ?_
              rotate_left
              · intro w'
                go_simp
                with_reducible rfl
              rotate_left
              · simp only [Act.put, List.setIfInBounds_toArray, List.set_cons_zero, List.set_cons_succ, qg, qh]
                rfl
              refine qj (i := 8) (N := some 90) (v := ?_) (a' := ?_) #[true, true, true, true, true, true, true, true, true, false, true, false, false, false, false, false, false, false, false, false, false, false, false, false, false, false, false, false, false, false] rfl rfl (by kernel_rfl) (fun _ _ _ h => h) (Or.inl ⟨by rfl, ?_⟩) ?_ ?_
              rotate_left
              · intro w'
                go_simp
                with_reducible rfl
              rotate_left
              · simp only [Act.put, List.setIfInBounds_toArray, List.set_cons_zero, List.set_cons_succ, qg, qh]
                rfl
              refine zq (i := 9) (N := some 91) (v := ?_) (a' := ?_) #[true, true, true, true, true, true, true, true, true, true, true, false, false, false, false, false, false, false, false, false, false, false, false, false, false, false, false, false, false, false] rfl rfl (by kernel_rfl) (fun _ _ _ h => h) (Or.inl ⟨by rfl, ?_⟩) hHeld ?_ ?_
              rotate_left
              · rintro w' ⟨s0, s1, s2, s3, s4⟩
                go_simp
                with_reducible rfl
              rotate_left
              · simp only [Act.put, List.setIfInBounds_toArray, List.set_cons_zero, List.set_cons_succ, qg, qh]
                rfl
              refine zq (i := 11) (N := some 93) (v := ?_) (a' := ?_) #[true, true, true, true, true, true, true, true, true, true, true, true, false, false, false, false, false, false, false, false, false, false, false, false, false, false, false, false, false, false] rfl rfl (by kernel_rfl) (fun _ _ _ h => h) (Or.inl ⟨by rfl, ?_⟩) hHeld ?_ ?_
              rotate_left
              · rintro w' ⟨s0, s1, s2, s3, s4⟩
                go_simp
                with_reducible rfl
              rotate_left
              · simp only [Act.put, List.setIfInBounds_toArray, List.set_cons_zero, List.set_cons_succ, qg, qh]
                rfl
              refine qj (i := 12) (N := some 94) (v := ?_) (a' := ?_) #[true, true, true, true, true, true, true, true, true, true, true, true, true, false, false, false, false, false, false, false, false, false, false, false, false, false, false, false, false, false] rfl rfl (by kernel_rfl) (fun _ _ _ h => h) (Or.inl ⟨by rfl, ?_⟩) ?_ ?_
              rotate_left
              · intro w'
                go_simp
                with_reducible rfl
              rotate_left
              · simp only [Act.put, List.setIfInBounds_toArray, List.set_cons_zero, List.set_cons_succ, qg, qh]
                rfl
              refine qj (i := 13) (N := some 95) (v := ?_) (a' := ?_) #[true, true, true, true, true, true, true, true, true, true, true, true, true, true, false, false, false, false, false, false, false, false, false, false, false, false, false, false, false, false] rfl rfl (by kernel_rfl) (fun _ _ _ h => h) (Or.inl ⟨by rfl, ?_⟩) ?_ ?_
              rotate_left
              · intro w'
                go_simp
                with_reducible rfl
              rotate_left
              · simp only [Act.put, List.setIfInBounds_toArray, List.set_cons_zero, List.set_cons_succ, qg, qh]
                rfl
              refine qj (i := 14) (N := some 96) (v := ?_) (a' := ?_) #[true, true, true, true, true, true, true, true, true, true, true, true, true, true, true, false, false, false, false, false, false, false, false, false, false, false, false, false, false, false] rfl rfl (by kernel_rfl) (fun _ _ _ h => h) (Or.inl ⟨by rfl, ?_⟩) ?_ ?_
              rotate_left
              · intro w'
                go_simp
                with_reducible rfl
              rotate_left
              · simp only [Act.put, List.setIfInBounds_toArray, List.set_cons_zero, List.set_cons_succ, qg, qh]
                rfl
              refine qj (i := 15) (N := some 97) (v := ?_) (a' := ?_) #[true, true, true, true, true, true, true, true, true, true, true, true, true, true, true, true, false, false, false, false, false, false, false, false, false, false, false, false, false, false] rfl rfl (by kernel_rfl) (fun _ _ _ h => h) (Or.inl ⟨by rfl, ?_⟩) ?_ ?_
              rotate_left
              · intro w'
                go_simp
                with_reducible rfl
              rotate_left
              · simp only [Act.put, List.setIfInBounds_toArray, List.set_cons_zero, List.set_cons_succ, qg, qh]
                rfl
              refine qj (i := 16) (N := some 98) (v := ?_) (a' := ?_) #[true, true, true, true, true, true, true, true, true, true, true, true, true, true, true, true, true, false, false, false, false, false, false, false, false, false, false, false, false, false] rfl rfl (by kernel_rfl) (fun _ _ _ h => h) (Or.inl ⟨by rfl, ?_⟩) ?_ ?_
              rotate_left
              · intro w'
                go_simp
                with_reducible rfl
              rotate_left
              · simp only [Act.put, List.setIfInBounds_toArray, List.set_cons_zero, List.set_cons_succ, qg, qh]
                rfl
              refine zq (i := 17) (N := some 99) (v := ?_) (a' := ?_) #[true, true, true, true, true, true, true, true, true, true, true, true, true, true, true, true, true, true, false, false, false, false, false, false, false, false, false, false, false, false] rfl rfl (by kernel_rfl) (fun _ _ _ h => h) (Or.inl ⟨by rfl, ?_⟩) hHeld ?_ ?_
              rotate_left
              · rintro w' ⟨s0, s1, s2, s3, s4⟩
                go_simp
                with_reducible rfl
              rotate_left
              · simp only [Act.put, List.setIfInBounds_toArray, List.set_cons_zero, List.set_cons_succ, qg, qh]
                rfl
              refine qj (i := 18) (N := some 100) (v := ?_) (a' := ?_) #[true, true, true, true, true, true, true, true, true, true, true, true, true, true, true, true, true, true, true, false, false, false, false, false, false, false, false, false, false, false] rfl rfl (by kernel_rfl) (fun _ _ _ h => h) (Or.inl ⟨by rfl, ?_⟩) ?_ ?_
              rotate_left
              · intro w'
                go_simp
                with_reducible rfl
              rotate_left
              · simp only [Act.put, List.setIfInBounds_toArray, List.set_cons_zero, List.set_cons_succ, qg, qh]
                rfl
              refine qj (i := 19) (N := some 101) (v := ?_) (a' := ?_) #[true, true, true, true, true, true, true, true, true, true, true, true, true, true, true, true, true, true, true, true, false, false, false, false, false, false, false, false, false, false] rfl rfl (by kernel_rfl) (fun _ _ _ h => h) (Or.inl ⟨by rfl, ?_⟩) ?_ ?_
              rotate_left
              · intro w'
                go_simp
                with_reducible rfl
              rotate_left
              · simp only [Act.put, List.setIfInBounds_toArray, List.set_cons_zero, List.set_cons_succ, qg, qh]
                rfl
              refine qj (i := 20) (N := some 102) (v := ?_) (a' := ?_) #[true, true, true, true, true, true, true, true, true, true, true, true, true, true, true, true, true, true, true, true, true, false, false, false, false, false, false, false, false, false] rfl rfl (by kernel_rfl) (fun _ _ _ h => h) (Or.inl ⟨by rfl, ?_⟩) ?_ ?_
              rotate_left
              · intro w'
                go_simp
                with_reducible rfl
              rotate_left
              · simp only [Act.put, List.setIfInBounds_toArray, List.set_cons_zero, List.set_cons_succ, qg, qh]
                rfl
              refine qj (i := 21) (N := some 103) (v := ?_) (a' := ?_) #[true, true, true, true, true, true, true, true, true, true, true, true, true, true, true, true, true, true, true, true, true, true, false, false, false, false, false, false, false, false] rfl rfl (by kernel_rfl) (fun _ _ _ h => h) (Or.inl ⟨by rfl, ?_⟩) ?_ ?_
              rotate_left
              · intro w'
                go_simp
                with_reducible rfl
              rotate_left
              · simp only [Act.put, List.setIfInBounds_toArray, List.set_cons_zero, List.set_cons_succ, qg, qh]
                rfl
              refine qj (i := 22) (N := some 104) (v := ?_) (a' := ?_) #[true, true, true, true, true, true, true, true, true, true, true, true, true, true, true, true, true, true, true, true, true, true, true, false, false, false, false, false, false, false] rfl rfl (by kernel_rfl) (fun _ _ _ h => h) (Or.inl ⟨by rfl, ?_⟩) ?_ ?_
              rotate_left
              · intro w'
                go_simp
                with_reducible rfl
              rotate_left
              · simp only [Act.put, List.setIfInBounds_toArray, List.set_cons_zero, List.set_cons_succ, qg, qh]
                rfl
              refine qj (i := 23) (N := some 105) (v := ?_) (a' := ?_) #[true, true, true, true, true, true, true, true, true, true, true, true, true, true, true, true, true, true, true, true, true, true, true, true, false, false, false, false, false, false] rfl rfl (by kernel_rfl) (fun _ _ _ h => h) (Or.inl ⟨by rfl, ?_⟩) ?_ ?_
              rotate_left
              · intro w'
                go_simp
                with_reducible rfl
              rotate_left
              · simp only [Act.put, List.setIfInBounds_toArray, List.set_cons_zero, List.set_cons_succ, qg, qh]
                rfl
              refine qj (i := 25) (N := some 107) (v := ?_) (a' := ?_) #[true, true, true, true, true, true, true, true, true, true, true, true, true, true, true, true, true, true, true, true, true, true, true, true, false, true, false, false, false, false] rfl rfl (by kernel_rfl) (fun _ _ _ h => h) (Or.inl ⟨by rfl, ?_⟩) ?_ ?_
              rotate_left
              · intro w'
                go_simp
                with_reducible rfl
              rotate_left
              · simp only [Act.put, List.setIfInBounds_toArray, List.set_cons_zero, List.set_cons_succ, qg, qh]
                rfl
              refine zq (i := 24) (N := some 106) (v := ?_) (a' := ?_) #[true, true, true, true, true, true, true, true, true, true, true, true, true, true, true, true, true, true, true, true, true, true, true, true, true, true, false, false, false, false] rfl rfl (by kernel_rfl) (fun _ _ _ h => h) (Or.inl ⟨by rfl, ?_⟩) hHeld ?_ ?_
              rotate_left
              · rintro w' ⟨s0, s1, s2, s3, s4⟩
                go_simp
                with_reducible rfl
              rotate_left
              · simp only [Act.put, List.setIfInBounds_toArray, List.set_cons_zero, List.set_cons_succ, qg, qh]
                rfl
              refine zq (i := 26) (N := some 108) (v := ?_) (a' := ?_) #[true, true, true, true, true, true, true, true, true, true, true, true, true, true, true, true, true, true, true, true, true, true, true, true, true, true, true, false, false, false] rfl rfl (by kernel_rfl) (fun _ _ _ h => h) (Or.inl ⟨by rfl, ?_⟩) hHeld ?_ ?_
              rotate_left
              · rintro w' ⟨s0, s1, s2, s3, s4⟩
                go_simp
                with_reducible rfl
              rotate_left
              · simp only [Act.put, List.setIfInBounds_toArray, List.set_cons_zero, List.set_cons_succ, qg, qh]
                rfl
              refine zS (i := 27) (N := some 109) #[true, true, true, true, true, true, true, true, true, true, true, true, true, true, true, true, true, true, true, true, true, true, true, true, true, true, true, true, false, false] rfl rfl (by kernel_rfl) (by decide) (fun K hK => ?_)
              refine Qk Try.func30 (by kernel_rfl) rfl #[.slice A bs.length c, .int .i64 pl, .int .i64 sz] (by rfl) rfl rfl (by simp only [List.map_toArray, List.map_cons, List.map_nil]; rfl) ?_
              with_reducible refine ((HH.out pl sz w12 (qc B2.out D12.out))).mono ?_
              rintro e w13 ⟨rfl, h1⟩
              refine ⟨_, rfl, ?_⟩
              rw [HBB.out]
              have T13 := qa.mk ((h1.block _ (qz T12.out)).trans T12.out)
              have K13 := qa.mk ((h1.block _ (qz K12.out)).trans K12.out)
              have R13 := qa.mk (Kd.qM R12.out h1)
              have D13 := qa.mk (qc D12.out h1)
              clear h1
              refine hK.out _ _ ?_
              clear hK K
              refine zO (a' := ?_) ?_ ?_
              rotate_left
              · show Act.put _ (some 109) _ = _
                simp only [Act.put, List.setIfInBounds_toArray, List.set_cons_zero, List.set_cons_succ, qg, qh]
                rfl
              refine qj (i := 28) (N := some 110) (v := ?_) (a' := ?_) #[true, true, true, true, true, true, true, true, true, true, true, true, true, true, true, true, true, true, true, true, true, true, true, true, true, true, true, true, true, false] rfl rfl (by kernel_rfl) (fun _ _ _ h => h) (Or.inl ⟨by rfl, ?_⟩) ?_ ?_
              rotate_left
              · intro w'
                go_simp
                with_reducible rfl
              rotate_left
              · simp only [Act.put, List.setIfInBounds_toArray, List.set_cons_zero, List.set_cons_succ, qg, qh]
                rfl
              refine qj (i := 29) (N := some 111) (v := ?_) (a' := ?_) #[true, true, true, true, true, true, true, true, true, true, true, true, true, true, true, true, true, true, true, true, true, true, true, true, true, true, true, true, true, true] rfl rfl (by kernel_rfl) (fun _ _ _ h => h) (Or.inl ⟨by rfl, ?_⟩) ?_ ?_
              rotate_left
              · intro w'
                go_simp
                with_reducible rfl
              rotate_left
              · simp only [Act.put, List.setIfInBounds_toArray, List.set_cons_zero, List.set_cons_succ, qg, qh]
                rfl
              refine jM (by kernel_rfl) ?_
              go_wp2
              go_meet
              case rel => exact ⟨_, rfl, ⟨fun h => by rw [HLT.out]; exact Zq (Or.inr (Or.inr (Or.inr (fun q => by have z := HBB.out; unfold hasB at z; rw [decide_eq_true q] at z; subst z; simp at h))))⟩, ⟨fun h => by rw [HLT.out]; exact ⟨OO.out.1, OO.out.2, TR.out, by have z := HBB.out; cases hb; (simp at h); exact z⟩⟩, T13, K13, R13, D13⟩
            · have r1 := eq_false rz
              have r2 : (r == 0) = false := beq_eq_false_iff_ne.2 rz
              have r3 : (r != 0) = true := bne_iff_ne.2 rz
              have RZ := qa.mk rz
              clear rz
              refine jf (n := 30) (S := fun w' => w'.cell? ⟨g8, 1, none⟩ = some (.slice (some ad) acc.length c2) ∧ w'.cell? (ad.add (j.toNat * 3)) = some (.string lt) ∧ w'.cell? ⟨gT, 0, none⟩ = some (.string tg) ∧ w'.cell? ⟨gT, 1, none⟩ = some (.int .i64 pl) ∧ w'.cell? ⟨gT, 2, none⟩ = some (.int .i64 sz)) (ds := []) #[false, false, false, false, false, false, false, false, false, false, false, false, false, false, false, false, false, false, false, false, false, false, false, false, false, false, false, false, false, false] (by kernel_rfl) rfl rfl ⟨y1, x0, t0, t1, t2⟩ (fun hHeld => ?_)
              obtain ⟨w12, hW, T12, K12, R12, D12⟩ : ∃ W, W = w11.drew ∧ qa (W.heap[gT]? = some (Obj.cells #[.string tg, .int .i64 pl, .int .i64 sz] 71 (0, 0))) ∧ qa (W.heap[g8]? = some (Obj.cells (zA kd (some ad) acc.length c2 A bs.length c) 28 (0, 0))) ∧ qa (Kd.R k71 71 W w2.heap.size (fun _ => True) (.slice (some ad) acc.length c2) acc) ∧ qa (Below w2.heap.size w2 W) := ⟨_, rfl, ⟨qQ KT.out⟩, ⟨qQ K11.out⟩, ⟨Kd.qw R11.out⟩, ⟨zm DD.out⟩⟩
              rw [← hW] at hHeld ⊢
              clear hW KT K11 R11 DD
              refine qj (i := 0) (N := some 82) (v := ?_) (a' := ?_) #[true, false, false, false, false, false, false, false, false, false, false, false, false, false, false, false, false, false, false, false, false, false, false, false, false, false, false, false, false, false] rfl rfl (by kernel_rfl) (fun _ _ _ h => h) (Or.inl ⟨by rfl, ?_⟩) ?_ ?_
              rotate_left
              · intro w'
                go_simp
                with_reducible rfl
              rotate_left
              · simp only [Act.put, List.setIfInBounds_toArray, List.set_cons_zero, List.set_cons_succ, qg, qh]
                rfl
              refine qj (i := 1) (N := some 83) (v := ?_) (a' := ?_) #[true, true, false, false, false, false, false, false, false, false, false, false, false, false, false, false, false, false, false, false, false, false, false, false, false, false, false, false, false, false] rfl rfl (by kernel_rfl) (fun _ _ _ h => h) (Or.inl ⟨by rfl, ?_⟩) ?_ ?_
              rotate_left
              · intro w'
                go_simp
                with_reducible rfl
              rotate_left
              · simp only [Act.put, List.setIfInBounds_toArray, List.set_cons_zero, List.set_cons_succ, qg, qh]
                rfl
              refine qj (i := 2) (N := some 84) (v := ?_) (a' := ?_) #[true, true, true, false, false, false, false, false, false, false, false, false, false, false, false, false, false, false, false, false, false, false, false, false, false, false, false, false, false, false] rfl rfl (by kernel_rfl) (fun _ _ _ h => h) (Or.inl ⟨by rfl, ?_⟩) ?_ ?_
              rotate_left
              · intro w'
                go_simp
                with_reducible rfl
              rotate_left
              · simp only [Act.put, List.setIfInBounds_toArray, List.set_cons_zero, List.set_cons_succ, qg, qh]
                rfl
              refine qj (i := 3) (N := some 85) (v := ?_) (a' := ?_) #[true, true, true, true, false, false, false, false, false, false, false, false, false, false, false, false, false, false, false, false, false, false, false, false, false, false, false, false, false, false] rfl rfl (by kernel_rfl) (fun _ _ _ h => h) (Or.inl ⟨by rfl, ?_⟩) ?_ ?_
              rotate_left
              · intro w'
                go_simp
                with_reducible rfl
              rotate_left
              · simp only [Act.put, List.setIfInBounds_toArray, List.set_cons_zero, List.set_cons_succ, qg, qh]
                rfl
              refine qj (i := 5) (N := some 87) (v := ?_) (a' := ?_) #[true, true, true, true, false, true, false, false, false, false, false, false, false, false, false, false, false, false, false, false, false, false, false, false, false, false, false, false, false, false] rfl rfl (by kernel_rfl) (fun _ _ _ h => h) (Or.inl ⟨by rfl, ?_⟩) ?_ ?_
              rotate_left
              · intro w'
                go_simp
                with_reducible rfl
              rotate_left
              · simp only [Act.put, List.setIfInBounds_toArray, List.set_cons_zero, List.set_cons_succ, qg, qh]
                rfl
              refine qj (i := 6) (N := some 88) (v := ?_) (a' := ?_) #[true, true, true, true, false, true, true, false, false, false, false, false, false, false, false, false, false, false, false, false, false, false, false, false, false, false, false, false, false, false] rfl rfl (by kernel_rfl) (fun _ _ _ h => h) (Or.inl ⟨by rfl, ?_⟩) ?_ ?_
              rotate_left
              · intro w'
                go_simp
                with_reducible rfl
              rotate_left
              · simp only [Act.put, List.setIfInBounds_toArray, List.set_cons_zero, List.set_cons_succ, qg, qh]
                rfl
              refine qj (i := 10) (N := some 92) (v := ?_) (a' := ?_) #[true, true, true, true, false, true, true, false, false, false, true, false, false, false, false, false, false, false, false, false, false, false, false, false, false, false, false, false, false, false] rfl rfl (by kernel_rfl) (fun _ _ _ h => h) (Or.inl ⟨by rfl, ?_⟩) ?_ ?_
              rotate_left
              · intro w'
                go_simp
                with_reducible rfl
              rotate_left
              · simp only [Act.put, List.setIfInBounds_toArray, List.set_cons_zero, List.set_cons_succ, qg, qh]
                rfl
              refine zq (i := 4) (N := some 86) (v := ?_) (a' := ?_) #[true, true, true, true, true, true, true, false, false, false, true, false, false, false, false, false, false, false, false, false, false, false, false, false, false, false, false, false, false, false] rfl rfl (by kernel_rfl) (fun _ _ _ h => h) (Or.inl ⟨by rfl, ?_⟩) hHeld ?_ ?_
              rotate_left
              · rintro w' ⟨s0, s1, s2, s3, s4⟩
                go_simp
                with_reducible rfl
              rotate_left
              · simp only [Act.put, List.setIfInBounds_toArray, List.set_cons_zero, List.set_cons_succ, qg, qh]
                rfl
              refine qj (i := 7) (N := some 89) (v := ?_) (a' := ?_) #[true, true, true, true, true, true, true, true, false, false, true, false, false, false, false, false, false, false, false, false, false, false, false, false, false, false, false, false, false, false] rfl rfl (by kernel_rfl) (fun _ _ _ h => h) (Or.inl ⟨by rfl, ?_⟩) ?_ ?_
              rotate_left
              · intro w'
                go_simp
                with_reducible rfl
              rotate_left
              · simp only [Act.put, List.setIfInBounds_toArray, List.set_cons_zero, List.set_cons_succ, qg, qh]
                rfl
              refine qj (i := 8) (N := some 90) (v := ?_) (a' := ?_) #[true, true, true, true, true, true, true, true, true, false, true, false, false, false, false, false, false, false, false, false, false, false, false, false, false, false, false, false, false, false] rfl rfl (by kernel_rfl) (fun _ _ _ h => h) (Or.inl ⟨by rfl, ?_⟩) ?_ ?_
              rotate_left
              · intro w'
                go_simp
                with_reducible rfl
              rotate_left
              · simp only [Act.put, List.setIfInBounds_toArray, List.set_cons_zero, List.set_cons_succ, qg, qh]
                rfl
              refine zq (i := 9) (N := some 91) (v := ?_) (a' := ?_) #[true, true, true, true, true, true, true, true, true, true, true, false, false, false, false, false, false, false, false, false, false, false, false, false, false, false, false, false, false, false] rfl rfl (by kernel_rfl) (fun _ _ _ h => h) (Or.inl ⟨by rfl, ?_⟩) hHeld ?_ ?_
              rotate_left
              · rintro w' ⟨s0, s1, s2, s3, s4⟩
                go_simp
                with_reducible rfl
              rotate_left
              · simp only [Act.put, List.setIfInBounds_toArray, List.set_cons_zero, List.set_cons_succ, qg, qh]
                rfl
              refine zq (i := 11) (N := some 93) (v := ?_) (a' := ?_) #[true, true, true, true, true, true, true, true, true, true, true, true, false, false, false, false, false, false, false, false, false, false, false, false, false, false, false, false, false, false] rfl rfl (by kernel_rfl) (fun _ _ _ h => h) (Or.inl ⟨by rfl, ?_⟩) hHeld ?_ ?_
              rotate_left
              · rintro w' ⟨s0, s1, s2, s3, s4⟩
                go_simp
                with_reducible rfl
              rotate_left
              · simp only [Act.put, List.setIfInBounds_toArray, List.set_cons_zero, List.set_cons_succ, qg, qh]
                rfl
              refine qj (i := 12) (N := some 94) (v := ?_) (a' := ?_) #[true, true, true, true, true, true, true, true, true, true, true, true, true, false, false, false, false, false, false, false, false, false, false, false, false, false, false, false, false, false] rfl rfl (by kernel_rfl) (fun _ _ _ h => h) (Or.inl ⟨by rfl, ?_⟩) ?_ ?_
              rotate_left
              · intro w'
                go_simp
                with_reducible rfl
              rotate_left
              · simp only [Act.put, List.setIfInBounds_toArray, List.set_cons_zero, List.set_cons_succ, qg, qh]
                rfl
              refine qj (i := 13) (N := some 95) (v := ?_) (a' := ?_) #[true, true, true, true, true, true, true, true, true, true, true, true, true, true, false, false, false, false, false, false, false, false, false, false, false, false, false, false, false, false] rfl rfl (by kernel_rfl) (fun _ _ _ h => h) (Or.inl ⟨by rfl, ?_⟩) ?_ ?_
              rotate_left
              · intro w'
                go_simp
                with_reducible rfl
              rotate_left
              · simp only [Act.put, List.setIfInBounds_toArray, List.set_cons_zero, List.set_cons_succ, qg, qh]
                rfl
              refine qj (i := 14) (N := some 96) (v := ?_) (a' := ?_) #[true, true, true, true, true, true, true, true, true, true, true, true, true, true, true, false, false, false, false, false, false, false, false, false, false, false, false, false, false, false] rfl rfl (by kernel_rfl) (fun _ _ _ h => h) (Or.inl ⟨by rfl, ?_⟩) ?_ ?_
              rotate_left
              · intro w'
                go_simp
                with_reducible rfl
              rotate_left
              · simp only [Act.put, List.setIfInBounds_toArray, List.set_cons_zero, List.set_cons_succ, qg, qh]
                rfl
              refine qj (i := 15) (N := some 97) (v := ?_) (a' := ?_) #[true, true, true, true, true, true, true, true, true, true, true, true, true, true, true, true, false, false, false, false, false, false, false, false, false, false, false, false, false, false] rfl rfl (by kernel_rfl) (fun _ _ _ h => h) (Or.inl ⟨by rfl, ?_⟩) ?_ ?_
              rotate_left
              · intro w'
                go_simp
                with_reducible rfl
              rotate_left
              · simp only [Act.put, List.setIfInBounds_toArray, List.set_cons_zero, List.set_cons_succ, qg, qh]
                rfl
              refine qj (i := 16) (N := some 98) (v := ?_) (a' := ?_) #[true, true, true, true, true, true, true, true, true, true, true, true, true, true, true, true, true, false, false, false, false, false, false, false, false, false, false, false, false, false] rfl rfl (by kernel_rfl) (fun _ _ _ h => h) (Or.inl ⟨by rfl, ?_⟩) ?_ ?_
              rotate_left
              · intro w'
                go_simp
                with_reducible rfl
              rotate_left
              · simp only [Act.put, List.setIfInBounds_toArray, List.set_cons_zero, List.set_cons_succ, qg, qh]
                rfl
              refine zq (i := 17) (N := some 99) (v := ?_) (a' := ?_) #[true, true, true, true, true, true, true, true, true, true, true, true, true, true, true, true, true, true, false, false, false, false, false, false, false, false, false, false, false, false] rfl rfl (by kernel_rfl) (fun _ _ _ h => h) (Or.inl ⟨by rfl, ?_⟩) hHeld ?_ ?_
              rotate_left
              · rintro w' ⟨s0, s1, s2, s3, s4⟩
                go_simp
                with_reducible rfl
              rotate_left
              · simp only [Act.put, List.setIfInBounds_toArray, List.set_cons_zero, List.set_cons_succ, qg, qh]
                rfl
              refine qj (i := 18) (N := some 100) (v := ?_) (a' := ?_) #[true, true, true, true, true, true, true, true, true, true, true, true, true, true, true, true, true, true, true, false, false, false, false, false, false, false, false, false, false, false] rfl rfl (by kernel_rfl) (fun _ _ _ h => h) (Or.inl ⟨by rfl, ?_⟩) ?_ ?_
              rotate_left
              · intro w'
                go_simp
                with_reducible rfl
              rotate_left
              · simp only [Act.put, List.setIfInBounds_toArray, List.set_cons_zero, List.set_cons_succ, qg, qh]
                rfl
              refine qj (i := 19) (N := some 101) (v := ?_) (a' := ?_) #[true, true, true, true, true, true, true, true, true, true, true, true, true, true, true, true, true, true, true, true, false, false, false, false, false, false, false, false, false, false] rfl rfl (by kernel_rfl) (fun _ _ _ h => h) (Or.inl ⟨by rfl, ?_⟩) ?_ ?_
              rotate_left
              · intro w'
                go_simp
                with_reducible rfl
              rotate_left
              · simp only [Act.put, List.setIfInBounds_toArray, List.set_cons_zero, List.set_cons_succ, qg, qh]
                rfl
              refine qj (i := 20) (N := some 102) (v := ?_) (a' := ?_) #[true, true, true, true, true, true, true, true, true, true, true, true, true, true, true, true, true, true, true, true, true, false, false, false, false, false, false, false, false, false] rfl rfl (by kernel_rfl) (fun _ _ _ h => h) (Or.inl ⟨by rfl, ?_⟩) ?_ ?_
              rotate_left
              · intro w'
                go_simp
                with_reducible rfl
              rotate_left
              · simp only [Act.put, List.setIfInBounds_toArray, List.set_cons_zero, List.set_cons_succ, qg, qh]
                rfl
              refine qj (i := 21) (N := some 103) (v := ?_) (a' := ?_) #[true, true, true, true, true, true, true, true, true, true, true, true, true, true, true, true, true, true, true, true, true, true, false, false, false, false, false, false, false, false] rfl rfl (by kernel_rfl) (fun _ _ _ h => h) (Or.inl ⟨by rfl, ?_⟩) ?_ ?_
              rotate_left
              · intro w'
                go_simp
                with_reducible rfl
              rotate_left
              · simp only [Act.put, List.setIfInBounds_toArray, List.set_cons_zero, List.set_cons_succ, qg, qh]
                rfl
              refine qj (i := 22) (N := some 104) (v := undef) (a' := ?_) #[true, true, true, true, true, true, true, true, true, true, true, true, true, true, true, true, true, true, true, true, true, true, true, false, false, false, false, false, false, false] rfl rfl (by kernel_rfl) (fun _ _ _ h => h) (Or.inr ⟨by rfl, rfl⟩) ?_ ?_
              rotate_left
              · simp only [Act.put, List.setIfInBounds_toArray, List.set_cons_zero, List.set_cons_succ, qg, qh]
                rfl
              refine qj (i := 23) (N := some 105) (v := undef) (a' := ?_) #[true, true, true, true, true, true, true, true, true, true, true, true, true, true, true, true, true, true, true, true, true, true, true, true, false, false, false, false, false, false] rfl rfl (by kernel_rfl) (fun _ _ _ h => h) (Or.inr ⟨by rfl, rfl⟩) ?_ ?_
              rotate_left
              · simp only [Act.put, List.setIfInBounds_toArray, List.set_cons_zero, List.set_cons_succ, qg, qh]
                rfl
              refine qj (i := 24) (N := some 106) (v := undef) (a' := ?_) #[true, true, true, true, true, true, true, true, true, true, true, true, true, true, true, true, true, true, true, true, true, true, true, true, true, false, false, false, false, false] rfl rfl (by kernel_rfl) (fun _ _ _ h => h) (Or.inr ⟨by rfl, rfl⟩) ?_ ?_
              rotate_left
              · simp only [Act.put, List.setIfInBounds_toArray, List.set_cons_zero, List.set_cons_succ, qg, qh]
                rfl
              refine qj (i := 25) (N := some 107) (v := undef) (a' := ?_) #[true, true, true, true, true, true, true, true, true, true, true, true, true, true, true, true, true, true, true, true, true, true, true, true, true, true, false, false, false, false] rfl rfl (by kernel_rfl) (fun _ _ _ h => h) (Or.inr ⟨by rfl, rfl⟩) ?_ ?_
              rotate_left
              · simp only [Act.put, List.setIfInBounds_toArray, List.set_cons_zero, List.set_cons_succ, qg, qh]
                rfl
              refine qj (i := 26) (N := some 108) (v := undef) (a' := ?_) #[true, true, true, true, true, true, true, true, true, true, true, true, true, true, true, true, true, true, true, true, true, true, true, true, true, true, true, false, false, false] rfl rfl (by kernel_rfl) (fun _ _ _ h => h) (Or.inr ⟨by rfl, rfl⟩) ?_ ?_
              rotate_left
              · simp only [Act.put, List.setIfInBounds_toArray, List.set_cons_zero, List.set_cons_succ, qg, qh]
                rfl
              refine qj (i := 27) (N := some 109) (v := undef) (a' := ?_) #[true, true, true, true, true, true, true, true, true, true, true, true, true, true, true, true, true, true, true, true, true, true, true, true, true, true, true, true, false, false] rfl rfl (by kernel_rfl) (fun _ _ _ h => h) (Or.inr ⟨by rfl, rfl⟩) ?_ ?_
              rotate_left
              · simp only [Act.put, List.setIfInBounds_toArray, List.set_cons_zero, List.set_cons_succ, qg, qh]
                rfl
              refine qj (i := 28) (N := some 110) (v := undef) (a' := ?_) #[true, true, true, true, true, true, true, true, true, true, true, true, true, true, true, true, true, true, true, true, true, true, true, true, true, true, true, true, true, false] rfl rfl (by kernel_rfl) (fun _ _ _ h => h) (Or.inr ⟨by rfl, rfl⟩) ?_ ?_
              rotate_left
              · simp only [Act.put, List.setIfInBounds_toArray, List.set_cons_zero, List.set_cons_succ, qg, qh]
                rfl
              refine qj (i := 29) (N := some 111) (v := ?_) (a' := ?_) #[true, true, true, true, true, true, true, true, true, true, true, true, true, true, true, true, true, true, true, true, true, true, true, true, true, true, true, true, true, true] rfl rfl (by kernel_rfl) (fun _ _ _ h => h) (Or.inl ⟨by rfl, ?_⟩) ?_ ?_
              rotate_left
              · intro w'
                go_simp
                with_reducible rfl
              rotate_left
              · simp only [Act.put, List.setIfInBounds_toArray, List.set_cons_zero, List.set_cons_succ, qg, qh]
                rfl
              refine jM (by kernel_rfl) ?_
              go_wp2
              go_meet
              case rel => exact ⟨_, rfl, ⟨fun _ => by rw [HLT.out]; exact Zq (Or.inr (Or.inr (Or.inl (by rw [TR.out]; exact RZ.out))))⟩, ⟨fun h => by simp at h⟩, T12, K12, R12, D12⟩
      case rest =>
      clear KT K11 R11 DD tr hr D10 D9
      obtain ⟨b, rfl, HB1, HB2, KT, K8, RA, DC⟩ := hcut
      cases b with
      | true =>
        have hq := HRV.out
        rw [HB1.out rfl, if_neg (by decide)] at hq
        have E0 := EQ.out
        rw [← hq, if_pos (by decide)] at E0
        have E := qa.mk E0
        have KY := qa.mk (KZ.out _ DC.out)
        clear hq E0
        go_wp2_with (refine wpList_store_row rfl 28 (.tmp 4) (.tmp 112) rfl g4 (zA 0 none 0 0 none 0 0) rfl rfl 28 (zA 0 none 0 0 none 0 0) KY.out (by kernel_rfl) rfl (by simp [Value.oneCell']) ?_)
        exact Qv bs A c w _ g4 _ _ KY.out rfl rfl (qc B2.out DC.out) G4.out E.out (by decide)
      | false =>
      have GD := qa.mk (HB2.out rfl)
      have hh := (jV bs pl sz).1 GD.out.2.2.2
      have s1 : pl + sz ≤ (bs.length : Int) := hh.2.2
      have s0 := BPL.out.1
      have s2' := BSZ.out.1
      have s3 : pl + sz ≤ 9223372036854775807 := by have := HLB.out; omega
      have s4 : -9223372036854775808 ≤ pl + sz := by omega
      have s5 : p + 4 ≤ 9223372036854775807 := by have := PB.out; omega
      have s6 : -9223372036854775808 ≤ p + 4 := by have := PB.out; omega
      obtain ⟨P, hP⟩ : ∃ P, (bs.take (pl + sz).toNat).drop pl.toNat = P := ⟨_, rfl⟩
      have PP := qa.mk (show ze bs pl sz = (P, 0) by rw [Qg GD.out.2.2.2, hP])
      have LN := qa.mk (show P.length = (pl + sz).toNat - pl.toNat by rw [← hP, List.length_drop, List.length_take]; omega)
      have OP := qa.mk (show okB P by rw [← hP]; exact fun x hx => HO.out x (List.mem_of_mem_take (List.mem_of_mem_drop hx)))
      obtain ⟨i8, hi8, _, hsz8, _⟩ := info_parts info5
      obtain ⟨A8, hcut8, hA8, hC8⟩ := Q5 (P := Try.prog) (Value.int .u8) 0 23 5 .i64 .i64 Try.underlying23 hi8 hsz8 A c bs pl (pl + sz) (by omega) (by omega) (by omega) HC.out
      rw [hP] at hA8 hC8
      have SMW := qa.mk (show ∀ W, Below w.heap.size w W → Calls Try.prog 12 #[.slice A8 ((pl + sz).toNat - pl.toNat) (c - pl.toNat)] W fun e w' => e = .returned (.int .i64 (QM P)) ∧ Below W.heap.size W w' from fun W hW => by
        obtain ⟨ks, hs⟩ := (rsum_ev P OP.out (by rw [LN.out]; have := HLB.out; omega)).rounds
        have z := qB.calls ks A8 (c - pl.toNat) P (QM P) W (Kd.Qn (h1 := fun _ => rfl) (hA8 _ (Kd.Qy (Kd.qO HR.out hW))) : Kd.C (Kd.int .u8) W A8 P.length P) (by first | exact hC8 | (rw [LN.out] at *; exact hC8) | omega) hs
        rw [LN.out] at z
        exact z.mono fun e w' h => ⟨h.1, h.2.below⟩)
      clear hA8 hC8 hi8 hsz8 hh hP
      have t0 := qb KT.out 0
      have t1 := qb KT.out 1
      have t2 := qb KT.out 2
      go_upto_region 30 with fail
      go_cut [132] (fun v132 wc' => ∃ b : Bool, v132 = .bool b ∧ qa (b = true → Ql 0 0 0 0 tg (lastT acc) su pl sz (ze bs pl sz) = (z71, 31)) ∧ qa (b = false → Ql 0 0 0 0 tg (lastT acc) su pl sz (ze bs pl sz) = (⟨tg, pl, sz⟩, 0)) ∧ qa (Below wc.heap.size wc wc'))
      case first =>
        cases q : (tg.toList == [104, 101, 97, 100]) with
        | true =>
          have HDW := qa.mk (show Ql 0 0 0 0 tg (lastT acc) su pl sz (ze bs pl sz) = (⟨tg, pl, sz⟩, 0) by rw [PP.out]; exact rowW_head GD.out.1 GD.out.2.1 GD.out.2.2.1 q)
          have qn : (tg.toList != [104, 101, 97, 100]) = false := by rw [bne, q]; rfl
          go_wp2
          go_meet
          case rel => exact ⟨_, rfl, ⟨fun h => by simp at h⟩, ⟨fun _ => HDW.out⟩, ⟨Below.refl _ _⟩⟩
        | false =>
          have QF := qa.mk q
          have qn : (tg.toList != [104, 101, 97, 100]) = true := by rw [bne, q]; rfl
          by_cases cs : QM P = su
          · have HDW := qa.mk (show Ql 0 0 0 0 tg (lastT acc) su pl sz (ze bs pl sz) = (⟨tg, pl, sz⟩, 0) by rw [PP.out]; exact rowW_yes GD.out.1 GD.out.2.1 GD.out.2.2.1 cs)
            have CS := qa.mk cs
            clear cs
            go_wp2_with (first | (go_at_call 33; refine (HU.out (p + 4) w20 (qc B2.out (qc DC.out B20.out))).mono ?_; rintro e w21 ⟨rfl, h1⟩; rw [SU.out]; have B21 := qa.mk (qc B20.out h1); clear h1) | (go_at_call 12; refine (SMW.out wc (qc B2.out DC.out)).mono ?_; rintro e w20 ⟨rfl, h1⟩; rw [CS.out]; have B20 := qa.mk h1; clear h1))
            go_meet
            case rel => exact ⟨_, rfl, ⟨fun h => by simp at h⟩, ⟨fun _ => HDW.out⟩, B21⟩
          · have HDW := qa.mk (show Ql 0 0 0 0 tg (lastT acc) su pl sz (ze bs pl sz) = (z71, 31) by rw [PP.out]; exact rowW_sum GD.out.1 GD.out.2.1 GD.out.2.2.1 q cs)
            obtain ⟨S, hS⟩ : ∃ S, QM P = S := ⟨_, rfl⟩
            rw [hS] at cs SMW
            have r1 := eq_false cs
            have r2 : (S == su) = false := beq_eq_false_iff_ne.2 cs
            have r3 : (S != su) = true := bne_iff_ne.2 cs
            clear cs hS
            go_wp2_with (first | (go_at_call 33; refine (HU.out (p + 4) w20 (qc B2.out (qc DC.out B20.out))).mono ?_; rintro e w21 ⟨rfl, h1⟩; rw [SU.out]; have B21 := qa.mk (qc B20.out h1); clear h1) | (go_at_call 12; refine (SMW.out wc (qc B2.out DC.out)).mono ?_; rintro e w20 ⟨rfl, h1⟩; have B20 := qa.mk h1; clear h1))
            go_meet
            case rel => exact ⟨_, rfl, ⟨fun _ => HDW.out⟩, ⟨fun h => by simp at h⟩, B21⟩
      case rest =>
      clear s1 s0 s2' s3 s4 s5 s6 t0 t1 t2
      obtain ⟨b, rfl, HB3, HB4, BC⟩ := hcut
      have DE := qa.mk (qc DC.out BC.out)
      cases b with
      | true =>
        have hq := HRV.out
        rw [HB3.out rfl, if_neg (by decide)] at hq
        have E0 := EQ.out
        rw [← hq, if_pos (by decide)] at E0
        have E := qa.mk E0
        have KY := qa.mk (KZ.out _ DE.out)
        clear hq E0
        go_wp2_with (refine wpList_store_row rfl 28 (.tmp 4) (.tmp 133) rfl g4 (zA 0 none 0 0 none 0 0) rfl rfl 28 (zA 0 none 0 0 none 0 0) KY.out (by kernel_rfl) rfl (by simp [Value.oneCell']) ?_)
        exact Qv bs A c w _ g4 _ _ KY.out rfl rfl (qc B2.out DE.out) G4.out E.out (by decide)
      | false =>
      have hq := HRV.out
      rw [HB4.out rfl, if_pos rfl] at hq
      have HQ2 := qa.mk hq
      have kF := (BC.out.block _ (qz K8.out)).trans K8.out
      have kT := (BC.out.block _ (qz KT.out)).trans KT.out
      have KF := qa.mk kF
      have R20 := qa.mk (Kd.qM RA.out BC.out)
      have y1 := qb kF 1
      have t0 := qb kT 0
      have t1 := qb kT 1
      have t2 := qb kT 2
      have l64 : acc.length ≤ 64 := by have := HL.out; have := M64.out; omega
      clear hq kF kT BC RA KT K8 DC
      go_wp2_with ((with_reducible refine qG (b := .append) (xs := #[.tmp 135, .tmp 137]) rfl ?_); at_builtin; refine Kd.zM k71 (w0 := w2) w2.heap.size rfl (.tmp 135) (.tmp 137) 26 71 (.agg #[(.string ⟨#[]⟩), (.int .i64 0), (.int .i64 0)]) 32 rfl Try.underlying26 Jl rfl (by decide) (by omega) (.slice A2 acc.length c2) acc ⟨tg, pl, sz⟩ [.string tg, .int .i64 pl, .int .i64 sz] (fun _ => True) (fun _ => False) rfl (by first | (go_simp; done) | (go_simp; rfl)) ?aP (fun _ hk => hk.elim) ?aF ?aO ?aB ?aS ?aL ?_; (case aP => exact ZI _ _ _ ⟨tg, pl, sz⟩); (case aF => exact fun _ _ => trivial); (case aO => exact R20.out); (case aB => exact DE.out); (case aS => exact qi DE.out); (case aL => omega); intro v30 w30 k1 k2 k3 k4; have D30 := qa.mk k2; have K30 := qa.mk (zg KF.out k3 (Kd.Qi R20.out KF.out (by decide))); have R30 := qa.mk k1; obtain ⟨A30, c30, e30⟩ := Kd.qN k1; subst e30; have q1 := qb K30.out 1; have qf := qd K30.out 1; clear k1 k2 k3 k4)
      refine ⟨⟨i + 1, acc ++ [⟨tg, pl, sz⟩], A30, c30, by push_cast; rfl, by omega, ⟨?_⟩, ⟨?_⟩, ⟨?_⟩, ⟨?_⟩, ⟨?_⟩⟩, ?_⟩
      · rw [lastT_snoc]
        exact HQ2.out
      · rw [List.length_append, HL.out]
        rfl
      · exact qR K30.out 1 _ (by rw [List.length_append]; rfl)
      · exact Kd.qH (Kd.jZ (Kd.Qr R30.out K30.out (by decide)) (p := ⟨g8, 1, none⟩) (fun k hk => hk.2) _) (fun _ hk => hk.1)
      · exact qA D30.out G8b.out
      · show (_ : Nat) < _
        simp only [intOf]
        omega
    · have il := eq_false (show ¬ (i : Int) < (m : Int) by omega)
      have il2 := eq_false ilt
      obtain rfl : i = m := by omega
      have hq := HQ.out
      rw [Nat.sub_self] at hq
      have E0 := EQ.out
      rw [← hq] at E0
      have E := qa.mk (show je bs 0 = ((kd, acc), 0) from E0.trans (if_neg (fun h => h rfl)))
      have KY := qa.mk (KZ.out _ HD.out)
      have y0 := qb HK.out 0
      have y1 := qb HK.out 1
      have y2 := qb HK.out 2
      have RR := qa.mk (Kd.qJ HA.out)
      have DX := qa.mk (qc B2.out HD.out)
      have L2 := qa.mk (qz KY.out)
      clear hq E0 HQ il il2
      go_wp2_with (refine wpList_store_row rfl 28 (.tmp 4) (.tmp 140) rfl g4 (zA kd A2 acc.length c2 A bs.length c) rfl rfl 28 (zA 0 none 0 0 none 0 0) KY.out (by kernel_rfl) rfl (by simp [Value.oneCell']) ?_)
      refine bodyPost_ret (res14 _ g4 kd A2 acc.length c2 A bs.length c 0 _ rfl rfl (setRow_heap _ _ _ _ _ _ KY.out)) rfl ?_
      rw [E.out]
      exact ⟨jr DX.out G4.out _, Or.inr ⟨rfl, A2, c2, rfl, RR.out.2.1, (Kd.qJ (QU HA.out (qz K2.out))).2.2⟩⟩
end Go.Proofs.Ytonljpciadeafaa.S
