/- sfnt.row. (Written by wip/rk/genrow.py.) -/
import Derived.Test.YtonljpciadeafaaSx0
import Derived.Test.YtonljpciadeafaaSx1
import Derived.Test.YtonljpciadeafaaSfXS
import Derived.Test.YtonljpciadeafaaSfSS
set_option linter.unusedVariables false
set_option linter.unusedSimpArgs false
namespace Go.Proofs.Ytonljpciadeafaa.S
open Go Go.RowKit Go.Proofs.YtonljpciadeafaaW.PrintWords Go.Proofs.YtonljpciadeafaaW.PrintLast Go.Proofs.YtonljpciadeafaaW.PrintMore

/-- The row at a place, whose tag must be greater than last. -/
def rowW (e1 e2 e3 e4 : Int) (tg last : ByteArray) (su pl sz : Int) (C : List Int × Int) : S71 × Int :=
  if e1 ≠ 0 then (z71, 31) else if e2 ≠ 0 then (z71, 31) else if e3 ≠ 0 then (z71, 31) else if e4 ≠ 0 then (z71, 31)
  else if Op.bytesLess tg.toList last.toList = true then (z71, 31) else if (tg.toList == last.toList) = true then (z71, 31) else if Int.tmod pl 4 ≠ 0 then (z71, 31)
  else if C.2 ≠ 0 then (z71, 31)
  else if (tg.toList == [104, 101, 97, 100]) = true then (⟨tg, pl, sz⟩, 0) else if sumB C.1 ≠ su then (z71, 31) else (⟨tg, pl, sz⟩, 0)
def rowV (bs : List Int) (p : Int) (last : ByteArray) : S71 × Int :=
  rowW (partV bs p 4).2 (numV bs (p + 4) 4).2 (numV bs (p + 8) 4).2 (numV bs (p + 12) 4).2 (strOfNums (partV bs p 4).1) last (numV bs (p + 4) 4).1 (numV bs (p + 8) 4).1 (numV bs (p + 12) 4).1 (partV bs (numV bs (p + 8) 4).1 (numV bs (p + 12) 4).1)
set_option maxRecDepth 100000 in
set_option maxHeartbeats 4000000 in
theorem row_calls (bs : List Int) (g : Nat) (p : Int) (last : ByteArray) (w : World) (hv : Vw w g bs) (ho : okB bs) (hl : bs.length ≤ 140737488355328) (h0 : 0 ≤ p) (h1 : p ≤ 1099511627776) :
    Calls Try.prog 38 #[.pointer (some ⟨g, 0, none⟩), .int .i64 p, .string last] w fun e w' => e = .returned (.tuple #[.agg #[.string (rowV bs p last).1.f0, .int .i64 (rowV bs p last).1.f1, .int .i64 (rowV bs p last).1.f2], .int .i64 (rowV bs p last).2]) ∧ Below w.heap.size w w' := by
  have HT := Aside0.mk (fun w' (hb : Below w.heap.size w w') => tag_calls bs g p w' (hv.below hb))
  have HS := Aside0.mk (fun w' (hb : Below w.heap.size w w') => u32_calls bs g (p + 4) w' (hv.below hb) ho)
  have HP := Aside0.mk (fun w' (hb : Below w.heap.size w w') => u32_calls bs g (p + 8) w' (hv.below hb) ho)
  have HZ := Aside0.mk (fun w' (hb : Below w.heap.size w w') => u32_calls bs g (p + 12) w' (hv.below hb) ho)
  have HC := Aside0.mk (fun p n w' (hb : Below w.heap.size w w') (h : (partV bs p n).2 = 0) => cut_good bs g p n w' (hv.below hb) h)
  have HD := Aside0.mk (fun p n w' (hb : Below w.heap.size w w') (h : (partV bs p n).2 ≠ 0) => cut_bad bs g p n w' (hv.below hb) h)
  have HO := Aside0.mk (fun p n => partV_ok ho p n)
  have HN := Aside0.mk (fun p n => Nat.le_trans (partV_len bs p n).2 hl)
  obtain ⟨R, hR⟩ : ∃ R, R = rowV bs p last := ⟨_, rfl⟩
  rw [← hR]
  have HR := Aside0.mk hR
  clear hR hv ho hl
  unfold rowV at HR
  generalize (partV bs p 4).2 = e1 at *
  generalize strOfNums (partV bs p 4).1 = tg at *
  obtain ⟨su, e2, h2⟩ : ∃ a b, numV bs (p + 4) 4 = (a, b) := ⟨_, _, rfl⟩
  obtain ⟨pl, e3, h3⟩ : ∃ a b, numV bs (p + 8) 4 = (a, b) := ⟨_, _, rfl⟩
  obtain ⟨sz, e4, h4⟩ : ∃ a b, numV bs (p + 12) 4 = (a, b) := ⟨_, _, rfl⟩
  rw [h2] at HS HR
  rw [h3] at HP HR
  rw [h4] at HZ HR
  dsimp only at HS HP HZ HR
  clear h2 h3 h4
  unfold rowW at HR
  go_enter Try.func38, Try.ntmps38
  go_upto_region 1 with fail
  obtain ⟨W, r, hW, er, bW, lW⟩ : ∃ W r, W = w.alloc (Obj.cells #[.string ⟨#[]⟩, .int .i64 0, .int .i64 0] 71) ∧ w.heap.size = r ∧ W.heap[r]? = some (Obj.cells #[.string ⟨#[]⟩, .int .i64 0, .int .i64 0] 71 (0, 0)) ∧ Below w.heap.size w W :=
    ⟨_, _, rfl, rfl, blk_new _ _, below_alloc (Below.refl _ _) _⟩
  rw [← hW, er]
  have GE : w.heap.size ≤ r := by omega
  have LW := Aside0.mk lW
  have BW := Aside0.mk bW
  clear hW lW bW er
  go_upto_region 2 with (go_at_call 36; refine (HT.out W LW.out).mono ?_; rintro q w1 ⟨rfl, h1⟩; have K1 := Aside0.mk ((h1.block _ (blk_lt BW.out)).trans BW.out); have B1 := Aside0.mk (below_step LW.out h1); clear h1)
  go_upto_region 3 with (go_at_call 57; refine (HS.out w1 B1.out).mono ?_; rintro q w2 ⟨rfl, h1⟩; have K2 := Aside0.mk ((h1.block _ (blk_lt K1.out)).trans K1.out); have B2 := Aside0.mk (below_step B1.out h1); clear h1)
  go_upto_region 4 with (go_at_call 57; refine (HP.out w2 B2.out).mono ?_; rintro q w3 ⟨rfl, h1⟩; have K3 := Aside0.mk ((h1.block _ (blk_lt K2.out)).trans K2.out); have B3 := Aside0.mk (below_step B2.out h1); clear h1)
  go_upto_region 5 with (go_at_call 57; refine (HZ.out w3 B3.out).mono ?_; rintro q w4 ⟨rfl, h1⟩; have K4 := Aside0.mk ((h1.block _ (blk_lt K3.out)).trans K3.out); have B4 := Aside0.mk (below_step B3.out h1); clear h1)
  clear LW BW K1 B1 K2 B2 K3 B3 HT HS HP HZ h0 h1
  by_cases c1 : e1 ≠ 0
  · rw [if_pos c1] at HR
    have cb : (e1 != 0) = true := bne_iff_ne.mpr c1
    clear c1
    have y0 : w4.cell? ⟨r, 0, none⟩ = some (.string ⟨#[]⟩) := (blk_cell K4.out 0).trans rfl
    have y1 : w4.cell? ⟨r, 1, none⟩ = some (.int .i64 0) := (blk_cell K4.out 1).trans rfl
    have y2 : w4.cell? ⟨r, 2, none⟩ = some (.int .i64 0) := (blk_cell K4.out 2).trans rfl
    have f0 : w4.frozen? ⟨r, 0, none⟩ = false := blk_frozen K4.out 0
    have f1 : w4.frozen? ⟨r, 1, none⟩ = false := blk_frozen K4.out 1
    have f2 : w4.frozen? ⟨r, 2, none⟩ = false := blk_frozen K4.out 2
    go_wp2
    refine bodyPost_ret (results_ct rfl _ _ r 71 #[.string ⟨#[]⟩, .int .i64 0, .int .i64 0] (0, 0) _ rfl (by refine blk_put (cs := #[.string ⟨#[]⟩, .int .i64 0, .int .i64 0]) ?_ 2 _ rfl; refine blk_put (cs := #[.string ⟨#[]⟩, .int .i64 0, .int .i64 0]) ?_ 1 _ rfl; refine blk_put (cs := #[.string ⟨#[]⟩, .int .i64 0, .int .i64 0]) ?_ 0 _ rfl; exact K4.out) Try.underlying71 rfl (by kernel_rfl)) rfl ?_
    exact ⟨by rw [HR.out]; rfl, below_set (below_set (below_set B4.out GE) GE) GE⟩
  rw [if_neg c1] at HR
  obtain rfl : e1 = 0 := Decidable.byContradiction c1
  clear c1
  by_cases c2 : e2 ≠ 0
  · rw [if_pos c2] at HR
    have cb : (e2 != 0) = true := bne_iff_ne.mpr c2
    clear c2
    have y0 : w4.cell? ⟨r, 0, none⟩ = some (.string ⟨#[]⟩) := (blk_cell K4.out 0).trans rfl
    have y1 : w4.cell? ⟨r, 1, none⟩ = some (.int .i64 0) := (blk_cell K4.out 1).trans rfl
    have y2 : w4.cell? ⟨r, 2, none⟩ = some (.int .i64 0) := (blk_cell K4.out 2).trans rfl
    have f0 : w4.frozen? ⟨r, 0, none⟩ = false := blk_frozen K4.out 0
    have f1 : w4.frozen? ⟨r, 1, none⟩ = false := blk_frozen K4.out 1
    have f2 : w4.frozen? ⟨r, 2, none⟩ = false := blk_frozen K4.out 2
    go_wp2
    refine bodyPost_ret (results_ct rfl _ _ r 71 #[.string ⟨#[]⟩, .int .i64 0, .int .i64 0] (0, 0) _ rfl (by refine blk_put (cs := #[.string ⟨#[]⟩, .int .i64 0, .int .i64 0]) ?_ 2 _ rfl; refine blk_put (cs := #[.string ⟨#[]⟩, .int .i64 0, .int .i64 0]) ?_ 1 _ rfl; refine blk_put (cs := #[.string ⟨#[]⟩, .int .i64 0, .int .i64 0]) ?_ 0 _ rfl; exact K4.out) Try.underlying71 rfl (by kernel_rfl)) rfl ?_
    exact ⟨by rw [HR.out]; rfl, below_set (below_set (below_set B4.out GE) GE) GE⟩
  rw [if_neg c2] at HR
  obtain rfl : e2 = 0 := Decidable.byContradiction c2
  clear c2
  by_cases c3 : e3 ≠ 0
  · rw [if_pos c3] at HR
    have cb : (e3 != 0) = true := bne_iff_ne.mpr c3
    clear c3
    have y0 : w4.cell? ⟨r, 0, none⟩ = some (.string ⟨#[]⟩) := (blk_cell K4.out 0).trans rfl
    have y1 : w4.cell? ⟨r, 1, none⟩ = some (.int .i64 0) := (blk_cell K4.out 1).trans rfl
    have y2 : w4.cell? ⟨r, 2, none⟩ = some (.int .i64 0) := (blk_cell K4.out 2).trans rfl
    have f0 : w4.frozen? ⟨r, 0, none⟩ = false := blk_frozen K4.out 0
    have f1 : w4.frozen? ⟨r, 1, none⟩ = false := blk_frozen K4.out 1
    have f2 : w4.frozen? ⟨r, 2, none⟩ = false := blk_frozen K4.out 2
    go_wp2
    refine bodyPost_ret (results_ct rfl _ _ r 71 #[.string ⟨#[]⟩, .int .i64 0, .int .i64 0] (0, 0) _ rfl (by refine blk_put (cs := #[.string ⟨#[]⟩, .int .i64 0, .int .i64 0]) ?_ 2 _ rfl; refine blk_put (cs := #[.string ⟨#[]⟩, .int .i64 0, .int .i64 0]) ?_ 1 _ rfl; refine blk_put (cs := #[.string ⟨#[]⟩, .int .i64 0, .int .i64 0]) ?_ 0 _ rfl; exact K4.out) Try.underlying71 rfl (by kernel_rfl)) rfl ?_
    exact ⟨by rw [HR.out]; rfl, below_set (below_set (below_set B4.out GE) GE) GE⟩
  rw [if_neg c3] at HR
  obtain rfl : e3 = 0 := Decidable.byContradiction c3
  clear c3
  by_cases c4 : e4 ≠ 0
  · rw [if_pos c4] at HR
    have cb : (e4 != 0) = true := bne_iff_ne.mpr c4
    clear c4
    have y0 : w4.cell? ⟨r, 0, none⟩ = some (.string ⟨#[]⟩) := (blk_cell K4.out 0).trans rfl
    have y1 : w4.cell? ⟨r, 1, none⟩ = some (.int .i64 0) := (blk_cell K4.out 1).trans rfl
    have y2 : w4.cell? ⟨r, 2, none⟩ = some (.int .i64 0) := (blk_cell K4.out 2).trans rfl
    have f0 : w4.frozen? ⟨r, 0, none⟩ = false := blk_frozen K4.out 0
    have f1 : w4.frozen? ⟨r, 1, none⟩ = false := blk_frozen K4.out 1
    have f2 : w4.frozen? ⟨r, 2, none⟩ = false := blk_frozen K4.out 2
    go_wp2
    refine bodyPost_ret (results_ct rfl _ _ r 71 #[.string ⟨#[]⟩, .int .i64 0, .int .i64 0] (0, 0) _ rfl (by refine blk_put (cs := #[.string ⟨#[]⟩, .int .i64 0, .int .i64 0]) ?_ 2 _ rfl; refine blk_put (cs := #[.string ⟨#[]⟩, .int .i64 0, .int .i64 0]) ?_ 1 _ rfl; refine blk_put (cs := #[.string ⟨#[]⟩, .int .i64 0, .int .i64 0]) ?_ 0 _ rfl; exact K4.out) Try.underlying71 rfl (by kernel_rfl)) rfl ?_
    exact ⟨by rw [HR.out]; rfl, below_set (below_set (below_set B4.out GE) GE) GE⟩
  rw [if_neg c4] at HR
  obtain rfl : e4 = 0 := Decidable.byContradiction c4
  clear c4
  by_cases c5 : Op.bytesLess tg.toList last.toList = true
  · rw [if_pos c5] at HR
    have y0 : w4.cell? ⟨r, 0, none⟩ = some (.string ⟨#[]⟩) := (blk_cell K4.out 0).trans rfl
    have y1 : w4.cell? ⟨r, 1, none⟩ = some (.int .i64 0) := (blk_cell K4.out 1).trans rfl
    have y2 : w4.cell? ⟨r, 2, none⟩ = some (.int .i64 0) := (blk_cell K4.out 2).trans rfl
    have f0 : w4.frozen? ⟨r, 0, none⟩ = false := blk_frozen K4.out 0
    have f1 : w4.frozen? ⟨r, 1, none⟩ = false := blk_frozen K4.out 1
    have f2 : w4.frozen? ⟨r, 2, none⟩ = false := blk_frozen K4.out 2
    go_wp2
    refine bodyPost_ret (results_ct rfl _ _ r 71 #[.string ⟨#[]⟩, .int .i64 0, .int .i64 0] (0, 0) _ rfl (by refine blk_put (cs := #[.string ⟨#[]⟩, .int .i64 0, .int .i64 0]) ?_ 2 _ rfl; refine blk_put (cs := #[.string ⟨#[]⟩, .int .i64 0, .int .i64 0]) ?_ 1 _ rfl; refine blk_put (cs := #[.string ⟨#[]⟩, .int .i64 0, .int .i64 0]) ?_ 0 _ rfl; exact K4.out) Try.underlying71 rfl (by kernel_rfl)) rfl ?_
    exact ⟨by rw [HR.out]; rfl, below_set (below_set (below_set B4.out GE) GE) GE⟩
  rw [if_neg c5] at HR
  have c5b : Op.bytesLess tg.toList last.toList = false := Bool.eq_false_iff.mpr c5
  clear c5
  by_cases c6 : tg.toList = last.toList
  · rw [if_pos (beq_iff_eq.mpr c6)] at HR
    have HR6 := HR
    clear HR
    have HR := HR6
    clear HR6
    have c6b : (tg.toList == last.toList) = true := beq_iff_eq.mpr c6
    have y0 : w4.cell? ⟨r, 0, none⟩ = some (.string ⟨#[]⟩) := (blk_cell K4.out 0).trans rfl
    have y1 : w4.cell? ⟨r, 1, none⟩ = some (.int .i64 0) := (blk_cell K4.out 1).trans rfl
    have y2 : w4.cell? ⟨r, 2, none⟩ = some (.int .i64 0) := (blk_cell K4.out 2).trans rfl
    have f0 : w4.frozen? ⟨r, 0, none⟩ = false := blk_frozen K4.out 0
    have f1 : w4.frozen? ⟨r, 1, none⟩ = false := blk_frozen K4.out 1
    have f2 : w4.frozen? ⟨r, 2, none⟩ = false := blk_frozen K4.out 2
    go_wp2
    refine bodyPost_ret (results_ct rfl _ _ r 71 #[.string ⟨#[]⟩, .int .i64 0, .int .i64 0] (0, 0) _ rfl (by refine blk_put (cs := #[.string ⟨#[]⟩, .int .i64 0, .int .i64 0]) ?_ 2 _ rfl; refine blk_put (cs := #[.string ⟨#[]⟩, .int .i64 0, .int .i64 0]) ?_ 1 _ rfl; refine blk_put (cs := #[.string ⟨#[]⟩, .int .i64 0, .int .i64 0]) ?_ 0 _ rfl; exact K4.out) Try.underlying71 rfl (by kernel_rfl)) rfl ?_
    exact ⟨by rw [HR.out]; rfl, below_set (below_set (below_set B4.out GE) GE) GE⟩
  have c6b : (tg.toList == last.toList) = false := beq_eq_false_iff_ne.mpr c6
  rw [c6b, if_neg (by decide)] at HR
  by_cases c7 : Int.tmod pl 4 ≠ 0
  · rw [if_pos c7] at HR
    have c7b : (Int.tmod pl 4 != 0) = true := bne_iff_ne.mpr c7
    clear c7
    have y0 : w4.cell? ⟨r, 0, none⟩ = some (.string ⟨#[]⟩) := (blk_cell K4.out 0).trans rfl
    have y1 : w4.cell? ⟨r, 1, none⟩ = some (.int .i64 0) := (blk_cell K4.out 1).trans rfl
    have y2 : w4.cell? ⟨r, 2, none⟩ = some (.int .i64 0) := (blk_cell K4.out 2).trans rfl
    have f0 : w4.frozen? ⟨r, 0, none⟩ = false := blk_frozen K4.out 0
    have f1 : w4.frozen? ⟨r, 1, none⟩ = false := blk_frozen K4.out 1
    have f2 : w4.frozen? ⟨r, 2, none⟩ = false := blk_frozen K4.out 2
    go_wp2
    refine bodyPost_ret (results_ct rfl _ _ r 71 #[.string ⟨#[]⟩, .int .i64 0, .int .i64 0] (0, 0) _ rfl (by refine blk_put (cs := #[.string ⟨#[]⟩, .int .i64 0, .int .i64 0]) ?_ 2 _ rfl; refine blk_put (cs := #[.string ⟨#[]⟩, .int .i64 0, .int .i64 0]) ?_ 1 _ rfl; refine blk_put (cs := #[.string ⟨#[]⟩, .int .i64 0, .int .i64 0]) ?_ 0 _ rfl; exact K4.out) Try.underlying71 rfl (by kernel_rfl)) rfl ?_
    exact ⟨by rw [HR.out]; rfl, below_set (below_set (below_set B4.out GE) GE) GE⟩
  rw [if_neg c7] at HR
  have c7b : (Int.tmod pl 4 != 0) = false := by simpa using c7
  clear c7
  go_upto_region 7 with fail
  clear c5b c6b c6 c7b
  have HX := Aside0.mk (HC.out pl sz w4 B4.out)
  have HY := Aside0.mk (HD.out pl sz w4 B4.out)
  have LX := Aside0.mk (HN.out pl sz)
  have OX := Aside0.mk (HO.out pl sz)
  clear HC HD HN HO
  obtain ⟨L, eL, hL⟩ : ∃ a b, partV bs pl sz = (a, b) := ⟨_, _, rfl⟩
  rw [hL] at HX HY HR LX OX
  dsimp only at HX HY HR LX OX
  clear hL
  by_cases c8 : eL ≠ 0
  · rw [if_pos c8] at HR
    have D := Aside0.mk c8
    clear c8
    go_wp2_with (go_at_call 60; refine (HY.out D.out).mono ?_; rintro q w5 ⟨rfl, h1⟩; have K5 := Aside0.mk ((h1.block _ (blk_lt K4.out)).trans K4.out); have B5 := Aside0.mk (below_step B4.out h1); have y0 : w5.cell? ⟨r, 0, none⟩ = some (.string ⟨#[]⟩) := (blk_cell K5.out 0).trans rfl; have y1 : w5.cell? ⟨r, 1, none⟩ = some (.int .i64 0) := (blk_cell K5.out 1).trans rfl; have y2 : w5.cell? ⟨r, 2, none⟩ = some (.int .i64 0) := (blk_cell K5.out 2).trans rfl; have f0 : w5.frozen? ⟨r, 0, none⟩ = false := blk_frozen K5.out 0; have f1 : w5.frozen? ⟨r, 1, none⟩ = false := blk_frozen K5.out 1; have f2 : w5.frozen? ⟨r, 2, none⟩ = false := blk_frozen K5.out 2; clear h1)
    refine bodyPost_ret (results_ct rfl _ _ r 71 #[.string ⟨#[]⟩, .int .i64 0, .int .i64 0] (0, 0) _ rfl (by refine blk_put (cs := #[.string ⟨#[]⟩, .int .i64 0, .int .i64 0]) ?_ 2 _ rfl; refine blk_put (cs := #[.string ⟨#[]⟩, .int .i64 0, .int .i64 0]) ?_ 1 _ rfl; refine blk_put (cs := #[.string ⟨#[]⟩, .int .i64 0, .int .i64 0]) ?_ 0 _ rfl; exact K5.out) Try.underlying71 rfl (by kernel_rfl)) rfl ?_
    exact ⟨by rw [HR.out]; rfl, below_set (below_set (below_set B5.out GE) GE) GE⟩
  rw [if_neg c8] at HR
  obtain rfl : eL = 0 := Decidable.byContradiction c8
  clear c8
  go_upto_region 8 with (go_at_call 60; refine (HX.out rfl).mono ?_; rintro q w5 ⟨g5, _, rfl, v5, h1⟩; have V5 := Aside0.mk v5; have K5 := Aside0.mk ((h1.block _ (blk_lt K4.out)).trans K4.out); have B5 := Aside0.mk (below_step B4.out h1); clear h1 v5)
  cases c9 : (tg.toList == [104, 101, 97, 100]) with
  | true =>
    rw [c9, if_pos rfl] at HR
    have y0 : w5.cell? ⟨r, 0, none⟩ = some (.string ⟨#[]⟩) := (blk_cell K5.out 0).trans rfl
    have y1 : w5.cell? ⟨r, 1, none⟩ = some (.int .i64 0) := (blk_cell K5.out 1).trans rfl
    have y2 : w5.cell? ⟨r, 2, none⟩ = some (.int .i64 0) := (blk_cell K5.out 2).trans rfl
    have f0 : w5.frozen? ⟨r, 0, none⟩ = false := blk_frozen K5.out 0
    have f1 : w5.frozen? ⟨r, 1, none⟩ = false := blk_frozen K5.out 1
    have f2 : w5.frozen? ⟨r, 2, none⟩ = false := blk_frozen K5.out 2
    go_wp2
    refine bodyPost_ret (results_ct rfl _ _ r 71 #[.string tg, .int .i64 pl, .int .i64 sz] (0, 0) _ rfl (by refine blk_put (cs := #[.string tg, .int .i64 pl, .int .i64 0]) ?_ 2 _ rfl; refine blk_put (cs := #[.string tg, .int .i64 0, .int .i64 0]) ?_ 1 _ rfl; refine blk_put (cs := #[.string ⟨#[]⟩, .int .i64 0, .int .i64 0]) ?_ 0 _ rfl; exact K5.out) Try.underlying71 rfl (by kernel_rfl)) rfl ?_
    exact ⟨by rw [HR.out]; rfl, below_set (below_set (below_set B5.out GE) GE) GE⟩
  | false =>
    rw [c9, if_neg (by decide)] at HR
    obtain ⟨ks, hs⟩ := (sum_ev L OX.out (by have := LX.out; omega)).rounds
    have SX := Aside0.mk hs
    have EX := Aside0.mk (fun w' (hb : Below w5.heap.size w5 w') => bytes_calls L g5 w' (V5.out.below hb) LX.out)
    clear hs
    generalize sumB L = sb at *
    by_cases c10 : sb ≠ su
    · rw [if_pos c10] at HR
      have c10b : (sb != su) = true := bne_iff_ne.mpr c10
      clear c10
      go_wp2_with (first | (go_at_call 61; refine (EX.out w5 (Below.refl _ _)).mono ?_; rintro q w6 ⟨v, rfl, h2, h3⟩; obtain ⟨A6, c6, rfl⟩ := Kd.R_slice h2; have R6 := Aside0.mk (Kd.R_reads' h2); have K6 := Aside0.mk ((h3.block _ (blk_lt K5.out)).trans K5.out); have B6 := Aside0.mk (below_step B5.out h3); clear h2 h3) | (go_at_call 11; refine (sfnt_Sum.calls ks A6 c6 L sb w6 R6.out.2.2 R6.out.2.1 SX.out).mono ?_; rintro q w7 ⟨rfl, hd⟩; have K7 := Aside0.mk ((hd.below.block _ (blk_lt K6.out)).trans K6.out); have B7 := Aside0.mk (below_step B6.out hd.below); have y0 : w7.cell? ⟨r, 0, none⟩ = some (.string ⟨#[]⟩) := (blk_cell K7.out 0).trans rfl; have y1 : w7.cell? ⟨r, 1, none⟩ = some (.int .i64 0) := (blk_cell K7.out 1).trans rfl; have y2 : w7.cell? ⟨r, 2, none⟩ = some (.int .i64 0) := (blk_cell K7.out 2).trans rfl; have f0 : w7.frozen? ⟨r, 0, none⟩ = false := blk_frozen K7.out 0; have f1 : w7.frozen? ⟨r, 1, none⟩ = false := blk_frozen K7.out 1; have f2 : w7.frozen? ⟨r, 2, none⟩ = false := blk_frozen K7.out 2; clear hd))
      refine bodyPost_ret (results_ct rfl _ _ r 71 #[.string ⟨#[]⟩, .int .i64 0, .int .i64 0] (0, 0) _ rfl (by refine blk_put (cs := #[.string ⟨#[]⟩, .int .i64 0, .int .i64 0]) ?_ 2 _ rfl; refine blk_put (cs := #[.string ⟨#[]⟩, .int .i64 0, .int .i64 0]) ?_ 1 _ rfl; refine blk_put (cs := #[.string ⟨#[]⟩, .int .i64 0, .int .i64 0]) ?_ 0 _ rfl; exact K7.out) Try.underlying71 rfl (by kernel_rfl)) rfl ?_
      exact ⟨by rw [HR.out]; rfl, below_set (below_set (below_set B7.out GE) GE) GE⟩
    · rw [if_neg c10] at HR
      obtain rfl : sb = su := Decidable.byContradiction c10
      have c10b : (sb != sb) = false := by simp
      clear c10
      go_wp2_with (first | (go_at_call 61; refine (EX.out w5 (Below.refl _ _)).mono ?_; rintro q w6 ⟨v, rfl, h2, h3⟩; obtain ⟨A6, c6, rfl⟩ := Kd.R_slice h2; have R6 := Aside0.mk (Kd.R_reads' h2); have K6 := Aside0.mk ((h3.block _ (blk_lt K5.out)).trans K5.out); have B6 := Aside0.mk (below_step B5.out h3); clear h2 h3) | (go_at_call 11; refine (sfnt_Sum.calls ks A6 c6 L sb w6 R6.out.2.2 R6.out.2.1 SX.out).mono ?_; rintro q w7 ⟨rfl, hd⟩; have K7 := Aside0.mk ((hd.below.block _ (blk_lt K6.out)).trans K6.out); have B7 := Aside0.mk (below_step B6.out hd.below); have y0 : w7.cell? ⟨r, 0, none⟩ = some (.string ⟨#[]⟩) := (blk_cell K7.out 0).trans rfl; have y1 : w7.cell? ⟨r, 1, none⟩ = some (.int .i64 0) := (blk_cell K7.out 1).trans rfl; have y2 : w7.cell? ⟨r, 2, none⟩ = some (.int .i64 0) := (blk_cell K7.out 2).trans rfl; have f0 : w7.frozen? ⟨r, 0, none⟩ = false := blk_frozen K7.out 0; have f1 : w7.frozen? ⟨r, 1, none⟩ = false := blk_frozen K7.out 1; have f2 : w7.frozen? ⟨r, 2, none⟩ = false := blk_frozen K7.out 2; clear hd))
      refine bodyPost_ret (results_ct rfl _ _ r 71 #[.string tg, .int .i64 pl, .int .i64 sz] (0, 0) _ rfl (by refine blk_put (cs := #[.string tg, .int .i64 pl, .int .i64 0]) ?_ 2 _ rfl; refine blk_put (cs := #[.string tg, .int .i64 0, .int .i64 0]) ?_ 1 _ rfl; refine blk_put (cs := #[.string ⟨#[]⟩, .int .i64 0, .int .i64 0]) ?_ 0 _ rfl; exact K7.out) Try.underlying71 rfl (by kernel_rfl)) rfl ?_
      exact ⟨by rw [HR.out]; rfl, below_set (below_set (below_set B7.out GE) GE) GE⟩
end Go.Proofs.Ytonljpciadeafaa.S
