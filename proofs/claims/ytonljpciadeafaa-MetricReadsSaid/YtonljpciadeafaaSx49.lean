import Derived.Test.YtonljpciadeafaaSx0
import Derived.Test.YtonljpciadeafaaSxPB
import Derived.Test.YtonljpciadeafaaSx48
namespace Go.Proofs.Ytonljpciadeafaa.S
open Go.RowKit Go.Proofs.YtonljpciadeafaaW.PrintWords Go.Proofs.YtonljpciadeafaaW.PrintLast Go.Proofs.YtonljpciadeafaaW.PrintMore
attribute [local go_sem] zX zZ ji jk zR zQ zW zY
set_option linter.unusedVariables false
set_option linter.unusedSimpArgs false
mutual
def qK.j0 : Nat → Int → Int → Bool → Int → Int → Bool → Option (Int × Int)
 | 0, _, _, _, _, _, _ => none
 | k + 1, x2, x9, x24, x298000, x298001, x298002 => if x24 = true then (some (0, 14)) else ((qE.f k x298000 x298001 x9).bind fun bt298 => (if bt298.2 ≥ (IntKind.u64.wrap (x9 - bt298.2)) then (qK.j1 k x2 bt298.1 (decide (bt298.1 ≤ 2147483647)) x298000 x298001 x298002) else (qK.j1 k x2 bt298.1 false x298000 x298001 x298002)))
def qK.j1 : Nat → Int → Int → Bool → Int → Int → Bool → Option (Int × Int)
 | 0, _, _, _, _, _, _ => none
 | k + 1, x2, x10, x42, x298000, x298001, x298002 => if x42 = true then (qK.j2 k x2 (IntKind.u64.wrap (x10 + 1)) x298000 x298001 x298002) else (qK.j2 k x2 x10 x298000 x298001 x298002)
def qK.j2 : Nat → Int → Int → Int → Int → Bool → Option (Int × Int)
 | 0, _, _, _, _, _ => none
 | k + 1, x2, x10, x298000, x298001, x298002 => if x10 > 2147483647 then (some (0, 14)) else (if (x298002 != (decide (x2 < 0))) = true then (some (wrap64 (-(wrap64 (x10))), 0)) else (some (wrap64 (x10), 0)))
end
def qK.f (k : Nat) (a0 : Int) (a1 : Int) (a2 : Int) : Option (Int × Int) := (QN.f a0 a1).bind fun bt293 => ((jI.f a2).bind fun t296 => (if a2 = 0 then (qK.j0 k a2 t296 true bt293.1 bt293.2.1 bt293.2.2) else (qK.j0 k a2 t296 (decide (bt293.1 ≥ t296)) bt293.1 bt293.2.1 bt293.2.2)))
theorem qK.zP : ∀ k, (∀ y0 y1 y2 y3 y4 y5, LeO (qK.j0 k y0 y1 y2 y3 y4 y5) (qK.j0 (k + 1) y0 y1 y2 y3 y4 y5)) ∧ (∀ y0 y1 y2 y3 y4 y5, LeO (qK.j1 k y0 y1 y2 y3 y4 y5) (qK.j1 (k + 1) y0 y1 y2 y3 y4 y5)) ∧ (∀ y0 y1 y2 y3 y4, LeO (qK.j2 k y0 y1 y2 y3 y4) (qK.j2 (k + 1) y0 y1 y2 y3 y4))
 | 0 => ⟨fun _ _ _ _ _ _ r h => by simp [qK.j0] at h, fun _ _ _ _ _ _ r h => by simp [qK.j1] at h, fun _ _ _ _ _ r h => by simp [qK.j2] at h⟩
 | k + 1 => by
  obtain ⟨ih0, ih1, ih2⟩ := qK.zP k
  refine ⟨?_, ?_, ?_⟩
  ·intro y0 y1 y2 y3 y4 y5
   unfold qK.j0
   repeat' first
   | (with_reducible exact ih0 _ _ _ _ _ _)
   | (with_reducible exact ih1 _ _ _ _ _ _)
   | (with_reducible exact ih2 _ _ _ _ _)
   | (with_reducible exact qE.mono _ _ _ _)
   | (with_reducible exact LeO.refl _)
   | (with_reducible exact LeO.none _)
   | (with_reducible refine LeO.ite ?_ ?_)
   | (with_reducible refine LeO.bind ?_ (fun _ => ?_))
   | exact ih0 _ _ _ _ _ _
   | exact ih1 _ _ _ _ _ _
   | exact ih2 _ _ _ _ _
   | exact qE.mono _ _ _ _
   | exact LeO.none _
   | refine LeO.ite ?_ ?_
   | refine LeO.bind ?_ (fun _ => ?_)
  ·intro y0 y1 y2 y3 y4 y5
   unfold qK.j1
   repeat' first
   | (with_reducible exact ih0 _ _ _ _ _ _)
   | (with_reducible exact ih1 _ _ _ _ _ _)
   | (with_reducible exact ih2 _ _ _ _ _)
   | (with_reducible exact qE.mono _ _ _ _)
   | (with_reducible exact LeO.refl _)
   | (with_reducible exact LeO.none _)
   | (with_reducible refine LeO.ite ?_ ?_)
   | (with_reducible refine LeO.bind ?_ (fun _ => ?_))
   | exact ih0 _ _ _ _ _ _
   | exact ih1 _ _ _ _ _ _
   | exact ih2 _ _ _ _ _
   | exact qE.mono _ _ _ _
   | exact LeO.none _
   | refine LeO.ite ?_ ?_
   | refine LeO.bind ?_ (fun _ => ?_)
  ·intro y0 y1 y2 y3 y4
   unfold qK.j2
   repeat' first
   | (with_reducible exact ih0 _ _ _ _ _ _)
   | (with_reducible exact ih1 _ _ _ _ _ _)
   | (with_reducible exact ih2 _ _ _ _ _)
   | (with_reducible exact qE.mono _ _ _ _)
   | (with_reducible exact LeO.refl _)
   | (with_reducible exact LeO.none _)
   | (with_reducible refine LeO.ite ?_ ?_)
   | (with_reducible refine LeO.bind ?_ (fun _ => ?_))
   | exact ih0 _ _ _ _ _ _
   | exact ih1 _ _ _ _ _ _
   | exact ih2 _ _ _ _ _
   | exact qE.mono _ _ _ _
   | exact LeO.none _
   | refine LeO.ite ?_ ?_
   | refine LeO.bind ?_ (fun _ => ?_)
theorem qK.mono : ∀ a0 a1 a2 k, LeO (qK.f k a0 a1 a2) (qK.f (k + 1) a0 a1 a2) := by
 intro a0 a1 a2 k
 obtain ⟨ih0, ih1, ih2⟩ := qK.zP k
 unfold qK.f
 repeat' first
   | (with_reducible exact ih0 _ _ _ _ _ _)
   | (with_reducible exact ih1 _ _ _ _ _ _)
   | (with_reducible exact ih2 _ _ _ _ _)
   | (with_reducible exact qE.mono _ _ _ _)
   | (with_reducible exact LeO.refl _)
   | (with_reducible exact LeO.none _)
   | (with_reducible refine LeO.ite ?_ ?_)
   | (with_reducible refine LeO.bind ?_ (fun _ => ?_))
   | exact ih0 _ _ _ _ _ _
   | exact ih1 _ _ _ _ _ _
   | exact ih2 _ _ _ _ _
   | exact qE.mono _ _ _ _
   | exact LeO.none _
   | refine LeO.ite ?_ ?_
   | refine LeO.bind ?_ (fun _ => ?_)
set_option maxHeartbeats 8000000 in
set_option maxRecDepth 100000 in
theorem qK.calls (k : Nat) (a0 : Int) (a1 : Int) (a2 : Int) (r1 : Int) (r2 : Int) (w : World) (h : qK.f k a0 a1 a2 = some (r1, r2)) :
  Calls Try.prog 53 #[.int .i64 a0, .int .i64 a1, .int .i64 a2] w fun e w' => e = .returned (.tuple #[.int .i64 r1, .int .i64 r2]) ∧ Below w.heap.size w w' := by
 have hu111 := Try.underlying111
 have HB := qa.mk (Below.refl w.heap.size w)
 have H : ((QN.f a0 a1).bind fun bt293 => ((jI.f a2).bind fun t296 => (if a2 = 0 then (qK.j0 k a2 t296 true bt293.1 bt293.2.1 bt293.2.2) else (qK.j0 k a2 t296 (decide (bt293.1 ≥ t296)) bt293.1 bt293.2.1 bt293.2.2)))) = some (r1, r2) := h
 clear h
 replace H := Option.bind_eq_some_iff.mp H
 obtain ⟨⟨t293, t294, t295⟩, A40, H⟩ := H
 replace H : ((jI.f a2).bind fun t296 => (if a2 = 0 then (qK.j0 k a2 t296 true t293 t294 t295) else (qK.j0 k a2 t296 (decide (t293 ≥ t296)) t293 t294 t295))) = some (r1, r2) := H
 have A4 := qa.mk A40
 clear A40
 replace H := Option.bind_eq_some_iff.mp H
 obtain ⟨t296, A50, H⟩ := H
 replace H : (if a2 = 0 then (qK.j0 k a2 t296 true t293 t294 t295) else (qK.j0 k a2 t296 (decide (t293 ≥ t296)) t293 t294 t295)) = some (r1, r2) := H
 have A5 := qa.mk A50
 clear A50
 have HC6 := qa.mk H
 clear H
 go_enter Try.func53, Try.ntmps53
 go_upto_region 2 with (first | ((with_reducible refine zV (f := 68) rfl ?_); refine j5 (some 14) rfl rfl Try.func68 (by kernel_rfl) rfl #[.int .i64 a0, .int .i64 a1] rfl (by (try simp only [List.map_toArray, List.map_cons, List.map_nil]); first | done | rfl | (simp only [List.length_drop, List.length_take]; rfl)) ?_; (with_reducible refine (QN.calls a0 a1 t293 t294 t295 _ A4.out).mono ?_); rintro e w7 ⟨rfl, hb⟩; refine ⟨_, rfl, ?_⟩; have n0_ := qa.mk (qc (bq HB) hb); clear HB; have HB := n0_; clear n0_; (try clear hb); (try clear hb2); (try clear hk); (try clear hi)) | ((with_reducible refine zV (f := 69) rfl ?_); refine j5 (some 16) rfl rfl Try.func69 (by kernel_rfl) rfl #[.int .i64 a2] rfl (by (try simp only [List.map_toArray, List.map_cons, List.map_nil]); first | done | rfl | (simp only [List.length_drop, List.length_take]; rfl)) ?_; (with_reducible refine (jI.calls a2 t296 _ A5.out).mono ?_); rintro e w' ⟨rfl, ⟨nd, rfl⟩⟩; refine ⟨_, rfl, ?_⟩; (try (rw [Zn w7]; generalize hq_ : World.drewN w7 _ = w7; have n0_ : qa (Below w.heap.size w w7) := ⟨by rw [← hq_]; exact (bq HB)⟩; clear HB hq_; have HB := n0_; clear n0_))) | ((with_reducible refine qX (N := 8) rfl ?_); refine zt ?hg (N := 8) ?hd (cs := #[.int .u64 0, .int .u64 0, .bool false]) (t := 111) ?hr ?_; (case hd => rfl); (case hg => rfl); (case hr => first | (go_simp; done) | (go_simp; rfl)); intro gb297 hg w8 hbox hb; have n0_ := qa.mk (qc (bq HB) hb); have n1_ := qa.mk (hbox); have n2_ := qa.mk ((by rw [hg]; exact (qi (bq HB)) : w.heap.size ≤ gb297)); have n3_ := qa.mk ((by rw [hg]; exact (qi (bq HB)) : w.heap.size ≤ gb297)); clear HB; have HB := n0_; have BK297 := n1_; have GW297 := n2_; have GE297 := n3_; clear n0_ n1_ n2_ n3_; clear hb hbox hg; have hcz9_0 : w8.cell? ⟨gb297, 0, none⟩ = some (.int .u64 0) := (qb BK297.out 0).trans rfl; have hcz9_1 : w8.cell? ⟨gb297, 1, none⟩ = some (.int .u64 0) := (qb BK297.out 1).trans rfl; have hcz9_2 : w8.cell? ⟨gb297, 2, none⟩ = some (.bool false) := (qb BK297.out 2).trans rfl; have hfz9_0 := qd BK297.out 0; have hfz9_1 := qd BK297.out 1; have hfz9_2 := qd BK297.out 2))
 (try simp only [Act.put, List.setIfInBounds_toArray, List.set_cons_zero, List.set_cons_succ])
 go_cut [24] (fun v24 wc => ∃ (kq : Nat) (x24_5 : Bool), v24 = .bool x24_5 ∧ qa (qK.j0 kq a2 t296 x24_5 t293 t294 t295 = some (r1, r2)) ∧ qa (kq ≤ k) ∧ qa (wc.heap[gb297]? = some (.cells #[.int .u64 t293, .int .u64 t294, .bool t295] 111 (0, 0))) ∧ qa (Below w.heap.size w wc))
 case first =>
  have H := HC6.out
  clear HC6
  by_cases c10 : a2 = 0
  ·rw [if_pos c10] at H
   have c10b0 : (a2 == 0) = true := beq_iff_eq.mpr c10
   have c10b1 : (a2 != 0) = false := bne_eq_false_iff_eq.mpr c10
   clear c10
   (first | rw [c10b0] | (simp only [qg, qh]; rw [c10b0]) | skip)
   have H' := qa.mk H
   clear H
   go_wp2
   go_meet
   case rel => exact ⟨_, (true), (by first | rfl | (simp; done) | (simp [*]; done)), H', ⟨by first | omega | exact Nat.le_refl _⟩, ⟨by (with_reducible repeat (first | refine zx ?_ _ | refine qQ ?_ | refine zn ?_ _)); refine qR (cs := #[.int .u64 t293, .int .u64 t294, .bool false]) ?_ 2 _ rfl; refine qR (cs := #[.int .u64 t293, .int .u64 0, .bool false]) ?_ 1 _ rfl; refine qR (cs := #[.int .u64 0, .int .u64 0, .bool false]) ?_ 0 _ rfl; exact kq BK297⟩, ⟨bs HB GE297⟩⟩
  rw [if_neg c10] at H
  have c10b0 : (a2 == 0) = false := beq_eq_false_iff_ne.mpr c10
  have c10b1 : (a2 != 0) = true := bne_iff_ne.mpr c10
  (first | rw [c10b0] | (simp only [qg, qh]; rw [c10b0]) | skip)
  have H' := qa.mk H
  clear H
  have hcz11_0 : w8.cell? ⟨gb297, 0, none⟩ = some (.int .u64 0) := (qb BK297.out 0).trans rfl
  have hcz11_1 : w8.cell? ⟨gb297, 1, none⟩ = some (.int .u64 0) := (qb BK297.out 1).trans rfl
  have hcz11_2 : w8.cell? ⟨gb297, 2, none⟩ = some (.bool false) := (qb BK297.out 2).trans rfl
  have hfz11_0 := qd BK297.out 0
  have hfz11_1 := qd BK297.out 1
  have hfz11_2 := qd BK297.out 2
  go_wp2
  go_meet
  case rel => exact ⟨_, (decide (t293 ≥ t296)), (by first | rfl | (simp; done) | (simp [*]; done)), H', ⟨by first | omega | exact Nat.le_refl _⟩, ⟨by (with_reducible repeat (first | refine zx ?_ _ | refine qQ ?_ | refine zn ?_ _)); refine qR (cs := #[.int .u64 t293, .int .u64 t294, .bool false]) ?_ 2 _ rfl; refine qR (cs := #[.int .u64 t293, .int .u64 0, .bool false]) ?_ 1 _ rfl; refine qR (cs := #[.int .u64 0, .int .u64 0, .bool false]) ?_ 0 _ rfl; exact kq BK297⟩, ⟨bs HB GE297⟩⟩
 case rest =>
  clear HC6
  try clear c1
  try clear p2
  try clear c5
  try clear c6
  try clear c10
  try clear c10b0
  try clear c10b1
  try clear hcz11_0
  try clear hcz11_1
  try clear hcz11_2
  try clear hcz9_0
  try clear hcz9_1
  try clear hcz9_2
  try clear hfz11_0
  try clear hfz11_1
  try clear hfz11_2
  try clear hfz9_0
  try clear hfz9_1
  try clear hfz9_2
  obtain ⟨kq, x24_5, rfl, HA, HJ5, BK297, HB⟩ := hcut
  cases kq with
  | zero => exact absurd HA.out (by simp [qK.j0])
  | succ kj5 =>
   have H := HA.out
   clear HA
   simp only [qK.j0] at H
   by_cases c12 : x24_5 = true
   ·subst c12
    have H1 : (some (0, 14)) = some (r1, r2) := by rw [if_pos rfl] at H; exact H
    clear H
    have H := H1
    clear H1
    simp only [Option.some.injEq, Prod.mk.injEq] at H
    obtain ⟨rfl, rfl⟩ := H
    go_wp2
    go_ret2
    exact ⟨by first | rfl | (simp [qW, qV] <;> rfl) | (simp [*, qW, qV] <;> rfl), bs HB GE297⟩
   replace c12 := Bool.eq_false_iff.mpr c12
   subst c12
   have H1 : ((qE.f kj5 t293 t294 t296).bind fun bt298 => (if bt298.2 ≥ (IntKind.u64.wrap (t296 - bt298.2)) then (qK.j1 kj5 a2 bt298.1 (decide (bt298.1 ≤ 2147483647)) t293 t294 t295) else (qK.j1 kj5 a2 bt298.1 false t293 t294 t295))) = some (r1, r2) := by rw [if_neg (show ¬ (false = true) by decide)] at H; exact H
   clear H
   have H := H1
   clear H1
   replace H := Option.bind_eq_some_iff.mp H
   obtain ⟨⟨t298, t299⟩, A130, H⟩ := H
   replace H : (if t299 ≥ (IntKind.u64.wrap (t296 - t299)) then (qK.j1 kj5 a2 t298 (decide (t298 ≤ 2147483647)) t293 t294 t295) else (qK.j1 kj5 a2 t298 false t293 t294 t295)) = some (r1, r2) := H
   have A13 := qa.mk A130
   clear A130
   have HC14 := qa.mk H
   clear H
   have hcz15_0 : wc.cell? ⟨gb297, 0, none⟩ = some (.int .u64 t293) := (qb BK297.out 0).trans rfl
   have hcz15_1 : wc.cell? ⟨gb297, 1, none⟩ = some (.int .u64 t294) := (qb BK297.out 1).trans rfl
   have hcz15_2 : wc.cell? ⟨gb297, 2, none⟩ = some (.bool t295) := (qb BK297.out 2).trans rfl
   have hfz15_0 := qd BK297.out 0
   have hfz15_1 := qd BK297.out 1
   have hfz15_2 := qd BK297.out 2
   go_upto_region 5 with (first | ((with_reducible refine zV (f := 70) rfl ?_); refine j5 (some 31) rfl rfl Try.func70 (by kernel_rfl) rfl #[.int .u64 t293, .int .u64 t294, .int .u64 t296] rfl (by (try simp only [List.map_toArray, List.map_cons, List.map_nil]); first | done | rfl | (simp only [List.length_drop, List.length_take]; rfl)) ?_; (with_reducible refine (qE.calls kj5 t293 t294 t296 t298 t299 _ A13.out).mono ?_); rintro e w' ⟨rfl, ⟨nd, rfl⟩⟩; refine ⟨_, rfl, ?_⟩))
   (try simp only [Act.put, List.setIfInBounds_toArray, List.set_cons_zero, List.set_cons_succ])
   go_cut [42] (fun v42 wc => ∃ (kq : Nat) (x42_13 : Bool), v42 = .bool x42_13 ∧ qa (qK.j1 kq a2 t298 x42_13 t293 t294 t295 = some (r1, r2)) ∧ qa (kq ≤ kj5) ∧ qa (wc.heap[gb297]? = some (.cells #[.int .u64 t293, .int .u64 t294, .bool t295] 111 (0, 0))) ∧ qa (Below w.heap.size w wc))
   case first =>
    have H := HC14.out
    clear HC14
    by_cases c16 : t299 ≥ (IntKind.u64.wrap (t296 - t299))
    case neg =>
     rw [if_neg c16] at H
     have c16b0 : decide ((IntKind.u64.wrap (t296 - t299)) ≤ t299) = false := decide_eq_false c16
     clear c16
     (first | rw [c16b0] | (simp only [qg, qh]; rw [c16b0]) | skip)
     have H' := qa.mk H
     clear H
     go_wp2
     go_meet
     case rel => exact ⟨_, (false), (by first | rfl | (simp; done) | (simp [*]; done)), H', ⟨by have := HJ5.out; first | omega | exact Nat.le_refl _⟩, ⟨kq BK297⟩, ⟨bs HB GE297⟩⟩
    rw [if_pos c16] at H
    have c16b0 : decide ((IntKind.u64.wrap (t296 - t299)) ≤ t299) = true := decide_eq_true c16
    clear c16
    (first | rw [c16b0] | (simp only [qg, qh]; rw [c16b0]) | skip)
    have H' := qa.mk H
    clear H
    go_wp2
    go_meet
    case rel => exact ⟨_, (decide (t298 ≤ 2147483647)), (by first | rfl | (simp; done) | (simp [*]; done)), H', ⟨by have := HJ5.out; first | omega | exact Nat.le_refl _⟩, ⟨kq BK297⟩, ⟨bs HB GE297⟩⟩
   case rest =>
    clear HC14
    try clear c1
    try clear p2
    try clear c5
    try clear c6
    try clear c7
    try clear c10
    try clear c10b0
    try clear c10b1
    try clear c12
    try clear c16
    try clear c16b0
    try clear hcz11_0
    try clear hcz11_1
    try clear hcz11_2
    try clear hcz15_0
    try clear hcz15_1
    try clear hcz15_2
    try clear hcz9_0
    try clear hcz9_1
    try clear hcz9_2
    try clear hfz11_0
    try clear hfz11_1
    try clear hfz11_2
    try clear hfz15_0
    try clear hfz15_1
    try clear hfz15_2
    try clear hfz9_0
    try clear hfz9_1
    try clear hfz9_2
    try clear p2
    obtain ⟨kq, x42_13, rfl, HA, HJ13, BK297, HB⟩ := hcut
    cases kq with
    | zero => exact absurd HA.out (by simp [qK.j1])
    | succ kj13 =>
     have H := HA.out
     clear HA
     simp only [qK.j1] at H
     have HC17 := qa.mk H
     clear H
     go_upto_if 42 with (fail)
     go_cut [10] (fun v10 wc => ∃ (kq : Nat) (x10_16 : Int), v10 = .int .u64 x10_16 ∧ qa (qK.j2 kq a2 x10_16 t293 t294 t295 = some (r1, r2)) ∧ qa (kq ≤ kj13) ∧ qa (wc.heap[gb297]? = some (.cells #[.int .u64 t293, .int .u64 t294, .bool t295] 111 (0, 0))) ∧ qa (Below w.heap.size w wc))
     case first =>
      have H := HC17.out
      clear HC17
      by_cases c18 : x42_13 = true
      ·subst c18
       have H1 : (qK.j2 kj13 a2 (IntKind.u64.wrap (t298 + 1)) t293 t294 t295) = some (r1, r2) := by rw [if_pos rfl] at H; exact H
       clear H
       have H := H1
       clear H1
       have H' := qa.mk H
       clear H
       go_wp2
       go_meet
       case rel => exact ⟨_, (IntKind.u64.wrap (t298 + 1)), (by first | rfl | (simp; done) | (simp [*]; done)), H', ⟨by have := HJ5.out; have := HJ13.out; first | omega | exact Nat.le_refl _⟩, ⟨kq BK297⟩, ⟨bs HB GE297⟩⟩
      replace c18 := Bool.eq_false_iff.mpr c18
      subst c18
      have H1 : (qK.j2 kj13 a2 t298 t293 t294 t295) = some (r1, r2) := by rw [if_neg (show ¬ (false = true) by decide)] at H; exact H
      clear H
      have H := H1
      clear H1
      have H' := qa.mk H
      clear H
      go_wp2
      go_meet
      case rel => exact ⟨_, (t298), (by first | rfl | (simp; done) | (simp [*]; done)), H', ⟨by have := HJ5.out; have := HJ13.out; first | omega | exact Nat.le_refl _⟩, ⟨kq BK297⟩, ⟨bs HB GE297⟩⟩
     case rest =>
      clear HC17
      try clear c1
      try clear p2
      try clear c5
      try clear c6
      try clear c7
      try clear c10
      try clear c10b0
      try clear c10b1
      try clear c12
      try clear c16
      try clear c16b0
      try clear c18
      try clear hcz11_0
      try clear hcz11_1
      try clear hcz11_2
      try clear hcz15_0
      try clear hcz15_1
      try clear hcz15_2
      try clear hcz9_0
      try clear hcz9_1
      try clear hcz9_2
      try clear hfz11_0
      try clear hfz11_1
      try clear hfz11_2
      try clear hfz15_0
      try clear hfz15_1
      try clear hfz15_2
      try clear hfz9_0
      try clear hfz9_1
      try clear hfz9_2
      try clear p2
      obtain ⟨kq, x10_16, rfl, HA, HJ16, BK297, HB⟩ := hcut
      cases kq with
      | zero => exact absurd HA.out (by simp [qK.j2])
      | succ kj16 =>
       have H := HA.out
       clear HA
       simp only [qK.j2] at H
       by_cases c19 : x10_16 > 2147483647
       ·rw [if_pos c19] at H
        have c19b0 : decide (2147483647 < x10_16) = true := decide_eq_true c19
        clear c19
        simp only [Option.some.injEq, Prod.mk.injEq] at H
        obtain ⟨rfl, rfl⟩ := H
        go_wp2
        go_ret2
        exact ⟨by first | rfl | (simp [qW, qV] <;> rfl) | (simp [*, qW, qV] <;> rfl), bs HB GE297⟩
       rw [if_neg c19] at H
       have c19b0 : decide (2147483647 < x10_16) = false := decide_eq_false c19
       clear c19
       by_cases c20 : (t295 != (decide (a2 < 0))) = true
       case neg =>
        rw [if_neg c20] at H
        have c20b0 : (t295 != (decide (a2 < 0))) = false := by simpa using c20
        (try (have c20b1 : decide (t295 = (decide (a2 < 0))) = true := by simpa using c20))
        (try (have c20b2 : (t295 == (decide (a2 < 0))) = true := by simpa using c20))
        clear c20
        simp only [Option.some.injEq, Prod.mk.injEq] at H
        obtain ⟨rfl, rfl⟩ := H
        have hcz22_0 : wc.cell? ⟨gb297, 0, none⟩ = some (.int .u64 t293) := (qb BK297.out 0).trans rfl
        have hcz22_1 : wc.cell? ⟨gb297, 1, none⟩ = some (.int .u64 t294) := (qb BK297.out 1).trans rfl
        have hcz22_2 : wc.cell? ⟨gb297, 2, none⟩ = some (.bool t295) := (qb BK297.out 2).trans rfl
        have hfz22_0 := qd BK297.out 0
        have hfz22_1 := qd BK297.out 1
        have hfz22_2 := qd BK297.out 2
        go_wp2
        go_ret2
        exact ⟨by first | rfl | (simp [qW, qV] <;> rfl) | (simp [*, qW, qV] <;> rfl), bs HB GE297⟩
       rw [if_pos c20] at H
       have c20b0 : (t295 != (decide (a2 < 0))) = true := c20
       (try (have c20b1 : decide (t295 = (decide (a2 < 0))) = false := by simpa using c20))
       (try (have c20b2 : (t295 == (decide (a2 < 0))) = false := by simpa using c20))
       (try (have c20b3 : ¬ (t295 = (decide (a2 < 0))) := by simpa using c20))
       clear c20
       simp only [Option.some.injEq, Prod.mk.injEq] at H
       obtain ⟨rfl, rfl⟩ := H
       have hcz21_0 : wc.cell? ⟨gb297, 0, none⟩ = some (.int .u64 t293) := (qb BK297.out 0).trans rfl
       have hcz21_1 : wc.cell? ⟨gb297, 1, none⟩ = some (.int .u64 t294) := (qb BK297.out 1).trans rfl
       have hcz21_2 : wc.cell? ⟨gb297, 2, none⟩ = some (.bool t295) := (qb BK297.out 2).trans rfl
       have hfz21_0 := qd BK297.out 0
       have hfz21_1 := qd BK297.out 1
       have hfz21_2 := qd BK297.out 2
       go_wp2
       go_ret2
       exact ⟨by first | rfl | (simp [qW, qV] <;> rfl) | (simp [*, qW, qV] <;> rfl), bs HB GE297⟩
end Go.Proofs.Ytonljpciadeafaa.S
