import Derived.Test.YtmlkpadlafjfeaaPx90
import Derived.Test.YtmlkpadlafjfeaaPx14
import Derived.Test.YtmlkpadlafjfeaaPx20
import Derived.Test.YtmlkpadlafjfeaaPathPenP
import Derived.Outline
import Derived.Deep.RegionWith
import Derived.WalkLawsBesides
import Derived.WalkSpells
import Derived.Deep.QuietTactic
import Derived.BigQuiet
import Derived.Deep.RegionLaw
set_option linter.unusedVariables false
set_option linter.unusedSimpArgs false
namespace Go.Proofs.Ytmlkpadlafjfeaa.P
open Go Go.RowKit Go.Proofs.YtmlkpadlafjfeaaW.PrintWords Go.Proofs.YtmlkpadlafjfeaaW.PrintLast Go.Proofs.YtmlkpadlafjfeaaW.PrintMore
def cXj (a c d b i j : Int) : Int := wrap64 (wrap64 (wrap64 (wrap64 (wrap64 (wrap64 (a * j) * j) * j) + wrap64 (wrap64 (wrap64 (wrap64 (3 * c) * i) * j) * j)) + wrap64 (wrap64 (wrap64 (wrap64 (3 * d) * i) * i) * j)) + wrap64 (wrap64 (wrap64 (b * i) * i) * i))
theorem cubic_at (k : Nat) (w : World) (a c d b j i n r : Int) (bj bi bn : Nat) (hj : w.heap[bj]? = some (.cells #[.int .i64 j] 3 (0, 0))) (hi : w.heap[bi]? = some (.cells #[.int .i64 i] 3 (0, 0))) (hn : w.heap[bn]? = some (.cells #[.int .i64 n] 3 (0, 0)))
    (h : qa (zZ.f k (cXj a c d b i j) (wrap64 (wrap64 (n * n) * n)) = some r)) :
    Calls Try.prog 68 #[.int .i64 a, .int .i64 c, .int .i64 d, .int .i64 b, .pointer (some ⟨bj, 0, none⟩), .pointer (some ⟨bi, 0, none⟩), .pointer (some ⟨bn, 0, none⟩)] w fun e w' => e = .returned (.int .i64 r) ∧ Below w.heap.size w w' := by
  unfold cXj at h
  have cj : w.cell? ⟨bj, 0, none⟩ = some (.int .i64 j) := (qb hj 0).trans rfl
  have ci : w.cell? ⟨bi, 0, none⟩ = some (.int .i64 i) := (qb hi 0).trans rfl
  have cn : w.cell? ⟨bn, 0, none⟩ = some (.int .i64 n) := (qb hn 0).trans rfl
  go_enter Try.func68, Try.ntmps68
  go_wp2_with (go_at_call 67; refine (zZ.calls k _ _ r _ h.out).mono ?_; rintro e w2 ⟨rfl, hd2⟩; have HD := qa.mk hd2; clear hd2)
  go_ret
  exact ⟨rfl, HD.out⟩
theorem pen_four {w0 w : World} {P : List Nat} {g : Nat} {out : List S35} {x y : Int} (h : zP w0 w P g out x y) (o1 o2 o3 o4 : Obj) :
    ∃ W tc td tt ta, W = (((w.alloc o1).alloc o2).alloc o3).alloc o4 ∧ w.heap.size = tc ∧ w.heap.size + 1 = td ∧ w.heap.size + 1 + 1 = tt ∧ w.heap.size + 1 + 1 + 1 = ta ∧ zP w0 W (ta :: tt :: td :: tc :: P) g out x y ∧ W.heap[tc]? = some o1 ∧ W.heap[td]? = some o2 ∧ W.heap[tt]? = some o3 ∧ W.heap[ta]? = some o4 ∧ Below w.heap.size w W ∧ tc ≠ g ∧ td ≠ g ∧ tt ≠ g ∧ ta ≠ g := by
  have e1 : (w.alloc o1).heap.size = w.heap.size + 1 := QM _ _
  have e2 : ((w.alloc o1).alloc o2).heap.size = w.heap.size + 1 + 1 := by rw [QM, e1]
  have e3 : (((w.alloc o1).alloc o2).alloc o3).heap.size = w.heap.size + 1 + 1 + 1 := by rw [QM, e2]
  have i4 := (((h.guard o1).guard o2).guard o3).guard o4
  rw [e1, e2, e3] at i4
  have gl := h.lt
  refine ⟨_, _, _, _, _, rfl, rfl, rfl, rfl, rfl, i4, qg (qg (qg (zu w o1) o2) o3) o4, qg (qg (by rw [← e1]; exact zu (w.alloc o1) o2) o3) o4, qg (by rw [← e2]; exact zu ((w.alloc o1).alloc o2) o3) o4, by rw [← e3]; exact zu _ o4, qw (qw (qw (qw (Below.refl _ _) o1) o2) o3) o4, by omega, by omega, by omega, by omega⟩
def cL (k : Nat) (a0 a1 c0 c1 d0 d1 b0 b1 n : Int) : Nat → Int → Option (List S35)
  | 0, _ => some []
  | m + 1, i => (zZ.f k (cXj a0 c0 d0 b0 i (n - i)) (wrap64 (wrap64 (n * n) * n))).bind fun r => (zZ.f k (cXj a1 c1 d1 b1 i (n - i)) (wrap64 (wrap64 (n * n) * n))).bind fun s => (cL k a0 a1 c0 c1 d0 d1 b0 b1 n m (i + 1)).bind fun q => some (⟨r, s⟩ :: q)
def Zf (k : Nat) (a0 a1 c0 c1 d0 d1 b0 b1 : Int) : Option (List S35) :=
  (jo.f a0 a1 c0 c1 d0 d1).bind fun u => (jo.f c0 c1 d0 d1 b0 b1).bind fun v => (zt.f k (wrap64 (u + v))).bind fun n => if 0 ≤ n ∧ n ≤ 100 then cL k a0 a1 c0 c1 d0 d1 b0 b1 n n.toNat 1 else none
def CubF (w0 W : World) (P : List Nat) (g : Nat) (out : List S35) (x y : Int) (tn : Nat) (w' : World) : Prop :=
  qa (zP w0 w' (tn :: P) g out x y ∧ w'.heap[tn]? = some (.cells #[.int .i64 0] 3 (0, 0)) ∧ Below W.heap.size W w' ∧ tn ≠ g ∧ W.heap.size ≤ tn)
theorem cubF_mk {w0 W : World} {P : List Nat} {g : Nat} {out : List S35} {x y : Int} {tn : Nat} {w' : World} (h1 : zP w0 w' (tn :: P) g out x y) (h2 : w'.heap[tn]? = some (.cells #[.int .i64 0] 3 (0, 0))) (h3 : Below W.heap.size W w') (h4 : W.heap.size ≤ tn) : CubF w0 W P g out x y tn w' := by
  refine ⟨h1, h2, h3, fun e => ?_, h4⟩
  obtain ⟨v, p1, _⟩ := h1
  rw [e, p1] at h2
  injection h2 with h2
  injection h2 with _ h2
  cases h2
set_option maxRecDepth 100000 in
set_option maxHeartbeats 8000000 in
theorem pen_cubic (k : Nat) (w0 w : World) (P : List Nat) (g : Nat) (out pts : List S35) (x y c0 c1 d0 d1 b0 b1 : Int) (hl : out.length ≤ 900000) (HI : qa (zP w0 w P g out x y)) (H : qa (Zf k x y c0 c1 d0 d1 b0 b1 = some pts)) :
    Calls Try.prog 52 #[.pointer (some ⟨g, 0, none⟩), .agg #[.int .i64 c0, .int .i64 c1], .agg #[.int .i64 d0, .int .i64 d1], .agg #[.int .i64 b0, .int .i64 b1]] w fun e w' => e = .returned (.tuple #[]) ∧ zP w0 w' P g (out ++ pts) (Qi x y pts).f0 (Qi x y pts).f1 ∧ Kp P g w w' := by
  have h := H.out
  unfold Zf at h
  obtain ⟨u, h1, h⟩ := Option.bind_eq_some_iff.mp h
  obtain ⟨v', h2, h⟩ := Option.bind_eq_some_iff.mp h
  obtain ⟨n, h3, h⟩ := Option.bind_eq_some_iff.mp h
  have n0 : 0 ≤ n ∧ n ≤ 100 := Classical.byContradiction fun z => by rw [if_neg z] at h; cases h
  rw [if_pos n0] at h
  have Hu := qa.mk h1
  have Hv := qa.mk h2
  have Hn := qa.mk h3
  have Hq := qa.mk h
  clear h h1 h2 h3 H
  obtain ⟨v, p1, _⟩ := HI.out
  have gl := qy p1
  have x0 : w.cell? ⟨g, 1, none⟩ = some (.int .i64 x) := (qb p1 1).trans rfl
  have x1 : w.cell? ⟨g, 2, none⟩ = some (.int .i64 y) := (qb p1 2).trans rfl
  have gl1 : g < w.heap.size + 1 := by omega
  have gl2 : g < w.heap.size + 1 + 1 := by omega
  have gl3 : g < w.heap.size + 1 + 1 + 1 := by omega
  clear p1
  go_enter Try.func52, Try.ntmps52
  go_upto_region 2 with fail
  obtain ⟨W, tc, td, tt, ta, eW, ec, ed, et, ea, I1, bc, bd, bt, ba, bl, nc, nd, nt, na⟩ := pen_four HI.out (Obj.cells #[.int .i64 c0, .int .i64 c1] 35) (Obj.cells #[.int .i64 d0, .int .i64 d1] 35) (Obj.cells #[.int .i64 b0, .int .i64 b1] 35) (Obj.cells #[.int .i64 x, .int .i64 y] 35)
  rw [← eW, ea, et, ed, ec]
  have I1' := qa.mk I1
  have BC := qa.mk bc
  have BD := qa.mk bd
  have BT := qa.mk bt
  have BA := qa.mk ba
  have BL := qa.mk bl
  have cc0 : W.drew.cell? ⟨tc, 0, none⟩ = some (.int .i64 c0) := (qb (qd bc) 0).trans rfl
  have cc1 : W.drew.cell? ⟨tc, 1, none⟩ = some (.int .i64 c1) := (qb (qd bc) 1).trans rfl
  have cd0 : W.drew.cell? ⟨td, 0, none⟩ = some (.int .i64 d0) := (qb (qd bd) 0).trans rfl
  have cd1 : W.drew.cell? ⟨td, 1, none⟩ = some (.int .i64 d1) := (qb (qd bd) 1).trans rfl
  have ct0 : W.drew.cell? ⟨tt, 0, none⟩ = some (.int .i64 b0) := (qb (qd bt) 0).trans rfl
  have ct1 : W.drew.cell? ⟨tt, 1, none⟩ = some (.int .i64 b1) := (qb (qd bt) 1).trans rfl
  have ca0 : W.drew.cell? ⟨ta, 0, none⟩ = some (.int .i64 x) := (qb (qd ba) 0).trans rfl
  have ca1 : W.drew.cell? ⟨ta, 1, none⟩ = some (.int .i64 y) := (qb (qd ba) 1).trans rfl
  clear eW ec ed et ea I1 bc bd bt ba bl x0 x1 gl gl1 gl2 gl3
  obtain ⟨P4, eP⟩ : ∃ P4, P4 = ta :: tt :: td :: tc :: P := ⟨_, rfl⟩
  have I1d : zP w0 W.drew P4 g out x y := by rw [eP]; exact I1'.out.drew
  refine jS (n := 12) (S := fun w' => w'.cell? ⟨ta, 0, none⟩ = some (.int .i64 x) ∧ w'.cell? ⟨ta, 1, none⟩ = some (.int .i64 y) ∧ w'.cell? ⟨tc, 0, none⟩ = some (.int .i64 c0) ∧ w'.cell? ⟨tc, 1, none⟩ = some (.int .i64 c1) ∧ w'.cell? ⟨td, 0, none⟩ = some (.int .i64 d0) ∧ w'.cell? ⟨td, 1, none⟩ = some (.int .i64 d1) ∧ w'.cell? ⟨tt, 0, none⟩ = some (.int .i64 b0) ∧ w'.cell? ⟨tt, 1, none⟩ = some (.int .i64 b1)) (ds := [11]) #[false, false, false, false, false, false, false, false, false, false, false, false] (by kernel_rfl) rfl rfl ⟨ca0, ca1, cc0, cc1, cd0, cd1, ct0, ct1⟩ (fun hHeld => ?_)
  refine zD (i := 0) (N := some 17) (v := ?_) (a' := ?_) #[true, false, false, false, false, false, false, false, false, false, false, false] rfl rfl (by kernel_rfl) (fun _ _ _ h => h) (Or.inl ⟨by rfl, ?_⟩) hHeld ?_ ?_
  rotate_left
  · rintro w' ⟨s0, s1, s2, s3, s4, s5, s6, s7⟩
    go_simp
    with_reducible rfl
  rotate_left
  · simp only [Act.put, List.setIfInBounds_toArray, List.set_cons_zero, List.set_cons_succ, qz, qA]
    rfl
  refine zD (i := 1) (N := some 18) (v := ?_) (a' := ?_) #[true, true, false, false, false, false, false, false, false, false, false, false] rfl rfl (by kernel_rfl) (fun _ _ _ h => h) (Or.inl ⟨by rfl, ?_⟩) hHeld ?_ ?_
  rotate_left
  · rintro w' ⟨s0, s1, s2, s3, s4, s5, s6, s7⟩
    go_simp
    with_reducible rfl
  rotate_left
  · simp only [Act.put, List.setIfInBounds_toArray, List.set_cons_zero, List.set_cons_succ, qz, qA]
    rfl
  refine zD (i := 2) (N := some 19) (v := ?_) (a' := ?_) #[true, true, true, false, false, false, false, false, false, false, false, false] rfl rfl (by kernel_rfl) (fun _ _ _ h => h) (Or.inl ⟨by rfl, ?_⟩) hHeld ?_ ?_
  rotate_left
  · rintro w' ⟨s0, s1, s2, s3, s4, s5, s6, s7⟩
    go_simp
    with_reducible rfl
  rotate_left
  · simp only [Act.put, List.setIfInBounds_toArray, List.set_cons_zero, List.set_cons_succ, qz, qA]
    rfl
  refine zD (i := 4) (N := some 21) (v := ?_) (a' := ?_) #[true, true, true, false, true, false, false, false, false, false, false, false] rfl rfl (by kernel_rfl) (fun _ _ _ h => h) (Or.inl ⟨by rfl, ?_⟩) hHeld ?_ ?_
  rotate_left
  · rintro w' ⟨s0, s1, s2, s3, s4, s5, s6, s7⟩
    go_simp
    with_reducible rfl
  rotate_left
  · simp only [Act.put, List.setIfInBounds_toArray, List.set_cons_zero, List.set_cons_succ, qz, qA]
    rfl
  refine zD (i := 5) (N := some 22) (v := ?_) (a' := ?_) #[true, true, true, false, true, true, false, false, false, false, false, false] rfl rfl (by kernel_rfl) (fun _ _ _ h => h) (Or.inl ⟨by rfl, ?_⟩) hHeld ?_ ?_
  rotate_left
  · rintro w' ⟨s0, s1, s2, s3, s4, s5, s6, s7⟩
    go_simp
    with_reducible rfl
  rotate_left
  · simp only [Act.put, List.setIfInBounds_toArray, List.set_cons_zero, List.set_cons_succ, qz, qA]
    rfl
  refine zD (i := 6) (N := some 23) (v := ?_) (a' := ?_) #[true, true, true, false, true, true, true, false, false, false, false, false] rfl rfl (by kernel_rfl) (fun _ _ _ h => h) (Or.inl ⟨by rfl, ?_⟩) hHeld ?_ ?_
  rotate_left
  · rintro w' ⟨s0, s1, s2, s3, s4, s5, s6, s7⟩
    go_simp
    with_reducible rfl
  rotate_left
  · simp only [Act.put, List.setIfInBounds_toArray, List.set_cons_zero, List.set_cons_succ, qz, qA]
    rfl
  refine join_ (σ := Nat) 1 #[true, true, true, true, true, true, true, true, true, true, true, false] (fun s => [(20, .int .i64 u), (24, .int .i64 v'), (25, .int .i64 (wrap64 (u + v'))), (26, .int .i64 n), (9, .pointer (some ⟨s, 0, none⟩))]) (fun s w' => CubF w0 W.drew P4 g out x y s w') ?_ ?_
  rotate_left
  · intro hCont
    refine two_ (i := 3) (j := 10) (Ni := some 20) (Nj := some 9) #[true, true, true, true, true, true, true, false, false, false, false, false] #[true, true, true, false, true, true, true, false, false, false, true, false] rfl rfl rfl rfl (by kernel_rfl) (by decide) (by decide) (fun K hK => ?_) (fun K hK => ?_)
    · skip
      refine zS Try.func65 (by kernel_rfl) rfl #[.agg #[.int .i64 x, .int .i64 y], .agg #[.int .i64 c0, .int .i64 c1], .agg #[.int .i64 d0, .int .i64 d1]] (by rfl) rfl rfl (by simp only [List.map_toArray, List.map_cons, List.map_nil]; rfl) ?_
      refine (jo.calls x y c0 c1 d0 d1 u _ Hu.out).mono ?_
      rintro e w2 ⟨rfl, hw2⟩
      refine ⟨_, rfl, ?_⟩
      refine hK.out _ _ ⟨qc hw2 (hHeld.1), qc hw2 (hHeld.2.1), qc hw2 (hHeld.2.2.1), qc hw2 (hHeld.2.2.2.1), qc hw2 (hHeld.2.2.2.2.1), qc hw2 (hHeld.2.2.2.2.2.1), qc hw2 (hHeld.2.2.2.2.2.2.1), qc hw2 (hHeld.2.2.2.2.2.2.2)⟩ (fun hHeld => ?_)
      clear hK K
      refine zo (a' := ?_) ?_ ?_
      rotate_left
      · show Act.put _ (some 20) _ = _
        simp only [Act.put, List.setIfInBounds_toArray, List.set_cons_zero, List.set_cons_succ, qz, qA]
        rfl
      refine two_ (i := 7) (j := 10) (Ni := some 24) (Nj := some 9) #[true, true, true, true, true, true, true, true, false, false, false, false] #[true, true, true, true, true, true, true, false, false, false, true, false] rfl rfl rfl rfl (by kernel_rfl) (by decide) (by decide) (fun K hK => ?_) (fun K hK => ?_)
      · skip
        refine zS Try.func65 (by kernel_rfl) rfl #[.agg #[.int .i64 c0, .int .i64 c1], .agg #[.int .i64 d0, .int .i64 d1], .agg #[.int .i64 b0, .int .i64 b1]] (by rfl) rfl rfl (by simp only [List.map_toArray, List.map_cons, List.map_nil]; rfl) ?_
        refine (jo.calls c0 c1 d0 d1 b0 b1 v' _ Hv.out).mono ?_
        rintro e w3 ⟨rfl, hw3⟩
        refine ⟨_, rfl, ?_⟩
        refine hK.out _ _ ⟨qc hw3 (hHeld.1), qc hw3 (hHeld.2.1), qc hw3 (hHeld.2.2.1), qc hw3 (hHeld.2.2.2.1), qc hw3 (hHeld.2.2.2.2.1), qc hw3 (hHeld.2.2.2.2.2.1), qc hw3 (hHeld.2.2.2.2.2.2.1), qc hw3 (hHeld.2.2.2.2.2.2.2)⟩ (fun hHeld => ?_)
        clear hK K
        refine zo (a' := ?_) ?_ ?_
        rotate_left
        · show Act.put _ (some 24) _ = _
          simp only [Act.put, List.setIfInBounds_toArray, List.set_cons_zero, List.set_cons_succ, qz, qA]
          rfl
        refine za (i := 8) (N := some 25) (v := ?_) (a' := ?_) #[true, true, true, true, true, true, true, true, true, false, false, false] rfl rfl (by kernel_rfl) (fun _ _ _ h => h) (Or.inl ⟨by rfl, ?_⟩) ?_ ?_
        rotate_left
        · intro w'
          go_simp
          with_reducible rfl
        rotate_left
        · simp only [Act.put, List.setIfInBounds_toArray, List.set_cons_zero, List.set_cons_succ, qz, qA]
          rfl
        refine two_ (i := 9) (j := 10) (Ni := some 26) (Nj := some 9) #[true, true, true, true, true, true, true, true, true, true, false, false] #[true, true, true, true, true, true, true, true, true, false, true, false] rfl rfl rfl rfl (by kernel_rfl) (by decide) (by decide) (fun K hK => ?_) (fun K hK => ?_)
        · skip
          refine zS Try.func64 (by kernel_rfl) rfl #[.int .i64 (wrap64 (u + v'))] (by rfl) rfl rfl (by simp only [List.map_toArray, List.map_cons, List.map_nil]; rfl) ?_
          refine (zt.calls k _ n _ Hn.out).mono ?_
          rintro e w4 ⟨rfl, hw4⟩
          replace hw4 := Zq hw4
          refine ⟨_, rfl, ?_⟩
          refine hK.out _ _ ⟨qc hw4 (hHeld.1), qc hw4 (hHeld.2.1), qc hw4 (hHeld.2.2.1), qc hw4 (hHeld.2.2.2.1), qc hw4 (hHeld.2.2.2.2.1), qc hw4 (hHeld.2.2.2.2.2.1), qc hw4 (hHeld.2.2.2.2.2.2.1), qc hw4 (hHeld.2.2.2.2.2.2.2)⟩ (fun hHeld => ?_)
          clear hK K
          refine zo (a' := ?_) ?_ ?_
          rotate_left
          · show Act.put _ (some 26) _ = _
            simp only [Act.put, List.setIfInBounds_toArray, List.set_cons_zero, List.set_cons_succ, qz, qA]
            rfl
          refine jd (i := 10) (N := some 9) #[true, true, true, true, true, true, true, true, true, true, true, false] rfl rfl (by kernel_rfl) (by decide) (fun K hK => ?_)
          refine Z5 (w1 := ?_) (v := ?_) (by rfl) rfl ?_ ?_
          rotate_left 2
          · go_simp
            constructor
            · rfl
            · rfl
          refine hK.out _ _ ⟨(World.cell?_alloc_lt _ _ _ (World.block_lt_of_cell? _ _ (hHeld.1))).trans (hHeld.1), (World.cell?_alloc_lt _ _ _ (World.block_lt_of_cell? _ _ (hHeld.2.1))).trans (hHeld.2.1), (World.cell?_alloc_lt _ _ _ (World.block_lt_of_cell? _ _ (hHeld.2.2.1))).trans (hHeld.2.2.1), (World.cell?_alloc_lt _ _ _ (World.block_lt_of_cell? _ _ (hHeld.2.2.2.1))).trans (hHeld.2.2.2.1), (World.cell?_alloc_lt _ _ _ (World.block_lt_of_cell? _ _ (hHeld.2.2.2.2.1))).trans (hHeld.2.2.2.2.1), (World.cell?_alloc_lt _ _ _ (World.block_lt_of_cell? _ _ (hHeld.2.2.2.2.2.1))).trans (hHeld.2.2.2.2.2.1), (World.cell?_alloc_lt _ _ _ (World.block_lt_of_cell? _ _ (hHeld.2.2.2.2.2.2.1))).trans (hHeld.2.2.2.2.2.2.1), (World.cell?_alloc_lt _ _ _ (World.block_lt_of_cell? _ _ (hHeld.2.2.2.2.2.2.2))).trans (hHeld.2.2.2.2.2.2.2)⟩ (fun hHeld => ?_)
          clear hK K
          refine zo (a' := ?_) ?_ ?_
          rotate_left
          · show Act.put _ (some 9) _ = _
            simp only [Act.put, List.setIfInBounds_toArray, List.set_cons_zero, List.set_cons_succ, qz, qA]
            rfl
          exact zo (by simp only [QS, Act.put, List.setIfInBounds_toArray, List.set_cons_zero, List.set_cons_succ]) (hCont (w4.heap.size) _ (cubF_mk (((((I1d).below hw2).below hw3).below hw4).guard (Obj.cells #[.int .i64 0] 3)) (zu _ _) (qw (qh (qh (qh ((Below.refl _ _)) hw2) hw3) hw4) _) (qx (qh (qh (qh ((Below.refl _ _)) hw2) hw3) hw4))))
        · skip
          refine Z5 (w1 := ?_) (v := ?_) (by rfl) rfl ?_ ?_
          rotate_left 2
          · go_simp
            constructor
            · rfl
            · rfl
          refine hK.out _ _ ⟨(World.cell?_alloc_lt _ _ _ (World.block_lt_of_cell? _ _ (hHeld.1))).trans (hHeld.1), (World.cell?_alloc_lt _ _ _ (World.block_lt_of_cell? _ _ (hHeld.2.1))).trans (hHeld.2.1), (World.cell?_alloc_lt _ _ _ (World.block_lt_of_cell? _ _ (hHeld.2.2.1))).trans (hHeld.2.2.1), (World.cell?_alloc_lt _ _ _ (World.block_lt_of_cell? _ _ (hHeld.2.2.2.1))).trans (hHeld.2.2.2.1), (World.cell?_alloc_lt _ _ _ (World.block_lt_of_cell? _ _ (hHeld.2.2.2.2.1))).trans (hHeld.2.2.2.2.1), (World.cell?_alloc_lt _ _ _ (World.block_lt_of_cell? _ _ (hHeld.2.2.2.2.2.1))).trans (hHeld.2.2.2.2.2.1), (World.cell?_alloc_lt _ _ _ (World.block_lt_of_cell? _ _ (hHeld.2.2.2.2.2.2.1))).trans (hHeld.2.2.2.2.2.2.1), (World.cell?_alloc_lt _ _ _ (World.block_lt_of_cell? _ _ (hHeld.2.2.2.2.2.2.2))).trans (hHeld.2.2.2.2.2.2.2)⟩ (fun hHeld => ?_)
          clear hK K
          refine zo (a' := ?_) ?_ ?_
          rotate_left
          · show Act.put _ (some 9) _ = _
            simp only [Act.put, List.setIfInBounds_toArray, List.set_cons_zero, List.set_cons_succ, qz, qA]
            rfl
          refine jd (i := 9) (N := some 26) #[true, true, true, true, true, true, true, true, true, true, true, false] rfl rfl (by kernel_rfl) (by decide) (fun K hK => ?_)
          refine zS Try.func64 (by kernel_rfl) rfl #[.int .i64 (wrap64 (u + v'))] (by rfl) rfl rfl (by simp only [List.map_toArray, List.map_cons, List.map_nil]; rfl) ?_
          refine (zt.calls k _ n _ Hn.out).mono ?_
          rintro e w4 ⟨rfl, hw4⟩
          replace hw4 := Zq hw4
          refine ⟨_, rfl, ?_⟩
          refine hK.out _ _ ⟨qc hw4 (hHeld.1), qc hw4 (hHeld.2.1), qc hw4 (hHeld.2.2.1), qc hw4 (hHeld.2.2.2.1), qc hw4 (hHeld.2.2.2.2.1), qc hw4 (hHeld.2.2.2.2.2.1), qc hw4 (hHeld.2.2.2.2.2.2.1), qc hw4 (hHeld.2.2.2.2.2.2.2)⟩ (fun hHeld => ?_)
          clear hK K
          refine zo (a' := ?_) ?_ ?_
          rotate_left
          · show Act.put _ (some 26) _ = _
            simp only [Act.put, List.setIfInBounds_toArray, List.set_cons_zero, List.set_cons_succ, qz, qA]
            rfl
          exact zo (by simp only [QS, Act.put, List.setIfInBounds_toArray, List.set_cons_zero, List.set_cons_succ]) (hCont (w3.heap.size) _ (cubF_mk (((((I1d).below hw2).below hw3).guard (Obj.cells #[.int .i64 0] 3)).below hw4) ((hw4.block _ (qy (zu _ _))).trans (zu _ _)) (qh (qw (qh (qh ((Below.refl _ _)) hw2) hw3) _) hw4) (qx (qh (qh ((Below.refl _ _)) hw2) hw3))))
      · skip
        refine Z5 (w1 := ?_) (v := ?_) (by rfl) rfl ?_ ?_
        rotate_left 2
        · go_simp
          constructor
          · rfl
          · rfl
        refine hK.out _ _ ⟨(World.cell?_alloc_lt _ _ _ (World.block_lt_of_cell? _ _ (hHeld.1))).trans (hHeld.1), (World.cell?_alloc_lt _ _ _ (World.block_lt_of_cell? _ _ (hHeld.2.1))).trans (hHeld.2.1), (World.cell?_alloc_lt _ _ _ (World.block_lt_of_cell? _ _ (hHeld.2.2.1))).trans (hHeld.2.2.1), (World.cell?_alloc_lt _ _ _ (World.block_lt_of_cell? _ _ (hHeld.2.2.2.1))).trans (hHeld.2.2.2.1), (World.cell?_alloc_lt _ _ _ (World.block_lt_of_cell? _ _ (hHeld.2.2.2.2.1))).trans (hHeld.2.2.2.2.1), (World.cell?_alloc_lt _ _ _ (World.block_lt_of_cell? _ _ (hHeld.2.2.2.2.2.1))).trans (hHeld.2.2.2.2.2.1), (World.cell?_alloc_lt _ _ _ (World.block_lt_of_cell? _ _ (hHeld.2.2.2.2.2.2.1))).trans (hHeld.2.2.2.2.2.2.1), (World.cell?_alloc_lt _ _ _ (World.block_lt_of_cell? _ _ (hHeld.2.2.2.2.2.2.2))).trans (hHeld.2.2.2.2.2.2.2)⟩ (fun hHeld => ?_)
        clear hK K
        refine zo (a' := ?_) ?_ ?_
        rotate_left
        · show Act.put _ (some 9) _ = _
          simp only [Act.put, List.setIfInBounds_toArray, List.set_cons_zero, List.set_cons_succ, qz, qA]
          rfl
        refine jd (i := 7) (N := some 24) #[true, true, true, true, true, true, true, true, false, false, true, false] rfl rfl (by kernel_rfl) (by decide) (fun K hK => ?_)
        refine zS Try.func65 (by kernel_rfl) rfl #[.agg #[.int .i64 c0, .int .i64 c1], .agg #[.int .i64 d0, .int .i64 d1], .agg #[.int .i64 b0, .int .i64 b1]] (by rfl) rfl rfl (by simp only [List.map_toArray, List.map_cons, List.map_nil]; rfl) ?_
        refine (jo.calls c0 c1 d0 d1 b0 b1 v' _ Hv.out).mono ?_
        rintro e w3 ⟨rfl, hw3⟩
        refine ⟨_, rfl, ?_⟩
        refine hK.out _ _ ⟨qc hw3 (hHeld.1), qc hw3 (hHeld.2.1), qc hw3 (hHeld.2.2.1), qc hw3 (hHeld.2.2.2.1), qc hw3 (hHeld.2.2.2.2.1), qc hw3 (hHeld.2.2.2.2.2.1), qc hw3 (hHeld.2.2.2.2.2.2.1), qc hw3 (hHeld.2.2.2.2.2.2.2)⟩ (fun hHeld => ?_)
        clear hK K
        refine zo (a' := ?_) ?_ ?_
        rotate_left
        · show Act.put _ (some 24) _ = _
          simp only [Act.put, List.setIfInBounds_toArray, List.set_cons_zero, List.set_cons_succ, qz, qA]
          rfl
        refine za (i := 8) (N := some 25) (v := ?_) (a' := ?_) #[true, true, true, true, true, true, true, true, true, false, true, false] rfl rfl (by kernel_rfl) (fun _ _ _ h => h) (Or.inl ⟨by rfl, ?_⟩) ?_ ?_
        rotate_left
        · intro w'
          go_simp
          with_reducible rfl
        rotate_left
        · simp only [Act.put, List.setIfInBounds_toArray, List.set_cons_zero, List.set_cons_succ, qz, qA]
          rfl
        refine jd (i := 9) (N := some 26) #[true, true, true, true, true, true, true, true, true, true, true, false] rfl rfl (by kernel_rfl) (by decide) (fun K hK => ?_)
        refine zS Try.func64 (by kernel_rfl) rfl #[.int .i64 (wrap64 (u + v'))] (by rfl) rfl rfl (by simp only [List.map_toArray, List.map_cons, List.map_nil]; rfl) ?_
        refine (zt.calls k _ n _ Hn.out).mono ?_
        rintro e w4 ⟨rfl, hw4⟩
        replace hw4 := Zq hw4
        refine ⟨_, rfl, ?_⟩
        refine hK.out _ _ ⟨qc hw4 (hHeld.1), qc hw4 (hHeld.2.1), qc hw4 (hHeld.2.2.1), qc hw4 (hHeld.2.2.2.1), qc hw4 (hHeld.2.2.2.2.1), qc hw4 (hHeld.2.2.2.2.2.1), qc hw4 (hHeld.2.2.2.2.2.2.1), qc hw4 (hHeld.2.2.2.2.2.2.2)⟩ (fun hHeld => ?_)
        clear hK K
        refine zo (a' := ?_) ?_ ?_
        rotate_left
        · show Act.put _ (some 26) _ = _
          simp only [Act.put, List.setIfInBounds_toArray, List.set_cons_zero, List.set_cons_succ, qz, qA]
          rfl
        exact zo (by simp only [QS, Act.put, List.setIfInBounds_toArray, List.set_cons_zero, List.set_cons_succ]) (hCont (w2.heap.size) _ (cubF_mk (((((I1d).below hw2).guard (Obj.cells #[.int .i64 0] 3)).below hw3).below hw4) ((hw4.block _ (qy ((hw3.block _ (qy (zu _ _))).trans (zu _ _)))).trans ((hw3.block _ (qy (zu _ _))).trans (zu _ _))) (qh (qh (qw (qh ((Below.refl _ _)) hw2) _) hw3) hw4) (qx (qh ((Below.refl _ _)) hw2))))
    · skip
      refine Z5 (w1 := ?_) (v := ?_) (by rfl) rfl ?_ ?_
      rotate_left 2
      · go_simp
        constructor
        · rfl
        · rfl
      refine hK.out _ _ ⟨(World.cell?_alloc_lt _ _ _ (World.block_lt_of_cell? _ _ (hHeld.1))).trans (hHeld.1), (World.cell?_alloc_lt _ _ _ (World.block_lt_of_cell? _ _ (hHeld.2.1))).trans (hHeld.2.1), (World.cell?_alloc_lt _ _ _ (World.block_lt_of_cell? _ _ (hHeld.2.2.1))).trans (hHeld.2.2.1), (World.cell?_alloc_lt _ _ _ (World.block_lt_of_cell? _ _ (hHeld.2.2.2.1))).trans (hHeld.2.2.2.1), (World.cell?_alloc_lt _ _ _ (World.block_lt_of_cell? _ _ (hHeld.2.2.2.2.1))).trans (hHeld.2.2.2.2.1), (World.cell?_alloc_lt _ _ _ (World.block_lt_of_cell? _ _ (hHeld.2.2.2.2.2.1))).trans (hHeld.2.2.2.2.2.1), (World.cell?_alloc_lt _ _ _ (World.block_lt_of_cell? _ _ (hHeld.2.2.2.2.2.2.1))).trans (hHeld.2.2.2.2.2.2.1), (World.cell?_alloc_lt _ _ _ (World.block_lt_of_cell? _ _ (hHeld.2.2.2.2.2.2.2))).trans (hHeld.2.2.2.2.2.2.2)⟩ (fun hHeld => ?_)
      clear hK K
      refine zo (a' := ?_) ?_ ?_
      rotate_left
      · show Act.put _ (some 9) _ = _
        simp only [Act.put, List.setIfInBounds_toArray, List.set_cons_zero, List.set_cons_succ, qz, qA]
        rfl
      refine jd (i := 3) (N := some 20) #[true, true, true, true, true, true, true, false, false, false, true, false] rfl rfl (by kernel_rfl) (by decide) (fun K hK => ?_)
      refine zS Try.func65 (by kernel_rfl) rfl #[.agg #[.int .i64 x, .int .i64 y], .agg #[.int .i64 c0, .int .i64 c1], .agg #[.int .i64 d0, .int .i64 d1]] (by rfl) rfl rfl (by simp only [List.map_toArray, List.map_cons, List.map_nil]; rfl) ?_
      refine (jo.calls x y c0 c1 d0 d1 u _ Hu.out).mono ?_
      rintro e w2 ⟨rfl, hw2⟩
      refine ⟨_, rfl, ?_⟩
      refine hK.out _ _ ⟨qc hw2 (hHeld.1), qc hw2 (hHeld.2.1), qc hw2 (hHeld.2.2.1), qc hw2 (hHeld.2.2.2.1), qc hw2 (hHeld.2.2.2.2.1), qc hw2 (hHeld.2.2.2.2.2.1), qc hw2 (hHeld.2.2.2.2.2.2.1), qc hw2 (hHeld.2.2.2.2.2.2.2)⟩ (fun hHeld => ?_)
      clear hK K
      refine zo (a' := ?_) ?_ ?_
      rotate_left
      · show Act.put _ (some 20) _ = _
        simp only [Act.put, List.setIfInBounds_toArray, List.set_cons_zero, List.set_cons_succ, qz, qA]
        rfl
      refine jd (i := 7) (N := some 24) #[true, true, true, true, true, true, true, true, false, false, true, false] rfl rfl (by kernel_rfl) (by decide) (fun K hK => ?_)
      refine zS Try.func65 (by kernel_rfl) rfl #[.agg #[.int .i64 c0, .int .i64 c1], .agg #[.int .i64 d0, .int .i64 d1], .agg #[.int .i64 b0, .int .i64 b1]] (by rfl) rfl rfl (by simp only [List.map_toArray, List.map_cons, List.map_nil]; rfl) ?_
      refine (jo.calls c0 c1 d0 d1 b0 b1 v' _ Hv.out).mono ?_
      rintro e w3 ⟨rfl, hw3⟩
      refine ⟨_, rfl, ?_⟩
      refine hK.out _ _ ⟨qc hw3 (hHeld.1), qc hw3 (hHeld.2.1), qc hw3 (hHeld.2.2.1), qc hw3 (hHeld.2.2.2.1), qc hw3 (hHeld.2.2.2.2.1), qc hw3 (hHeld.2.2.2.2.2.1), qc hw3 (hHeld.2.2.2.2.2.2.1), qc hw3 (hHeld.2.2.2.2.2.2.2)⟩ (fun hHeld => ?_)
      clear hK K
      refine zo (a' := ?_) ?_ ?_
      rotate_left
      · show Act.put _ (some 24) _ = _
        simp only [Act.put, List.setIfInBounds_toArray, List.set_cons_zero, List.set_cons_succ, qz, qA]
        rfl
      refine za (i := 8) (N := some 25) (v := ?_) (a' := ?_) #[true, true, true, true, true, true, true, true, true, false, true, false] rfl rfl (by kernel_rfl) (fun _ _ _ h => h) (Or.inl ⟨by rfl, ?_⟩) ?_ ?_
      rotate_left
      · intro w'
        go_simp
        with_reducible rfl
      rotate_left
      · simp only [Act.put, List.setIfInBounds_toArray, List.set_cons_zero, List.set_cons_succ, qz, qA]
        rfl
      refine jd (i := 9) (N := some 26) #[true, true, true, true, true, true, true, true, true, true, true, false] rfl rfl (by kernel_rfl) (by decide) (fun K hK => ?_)
      refine zS Try.func64 (by kernel_rfl) rfl #[.int .i64 (wrap64 (u + v'))] (by rfl) rfl rfl (by simp only [List.map_toArray, List.map_cons, List.map_nil]; rfl) ?_
      refine (zt.calls k _ n _ Hn.out).mono ?_
      rintro e w4 ⟨rfl, hw4⟩
      replace hw4 := Zq hw4
      refine ⟨_, rfl, ?_⟩
      refine hK.out _ _ ⟨qc hw4 (hHeld.1), qc hw4 (hHeld.2.1), qc hw4 (hHeld.2.2.1), qc hw4 (hHeld.2.2.2.1), qc hw4 (hHeld.2.2.2.2.1), qc hw4 (hHeld.2.2.2.2.2.1), qc hw4 (hHeld.2.2.2.2.2.2.1), qc hw4 (hHeld.2.2.2.2.2.2.2)⟩ (fun hHeld => ?_)
      clear hK K
      refine zo (a' := ?_) ?_ ?_
      rotate_left
      · show Act.put _ (some 26) _ = _
        simp only [Act.put, List.setIfInBounds_toArray, List.set_cons_zero, List.set_cons_succ, qz, qA]
        rfl
      exact zo (by simp only [QS, Act.put, List.setIfInBounds_toArray, List.set_cons_zero, List.set_cons_succ]) (hCont (W.heap.size) _ (cubF_mk (((((I1d).guard (Obj.cells #[.int .i64 0] 3)).below hw2).below hw3).below hw4) ((hw4.block _ (qy ((hw3.block _ (qy ((hw2.block _ (qy (zu _ _))).trans (zu _ _)))).trans ((hw2.block _ (qy (zu _ _))).trans (zu _ _))))).trans ((hw3.block _ (qy ((hw2.block _ (qy (zu _ _))).trans (zu _ _)))).trans ((hw2.block _ (qy (zu _ _))).trans (zu _ _)))) (qh (qh (qh (qw ((Below.refl _ _)) _) hw2) hw3) hw4) (Nat.le_refl _)))
  rintro tn w5 hF5
  obtain ⟨I5, T5, B5, N5, G5⟩ := hF5.out
  have hHeld : w5.cell? ⟨ta, 0, none⟩ = some (.int .i64 x) ∧ w5.cell? ⟨ta, 1, none⟩ = some (.int .i64 y) ∧ w5.cell? ⟨tc, 0, none⟩ = some (.int .i64 c0) ∧ w5.cell? ⟨tc, 1, none⟩ = some (.int .i64 c1) ∧ w5.cell? ⟨td, 0, none⟩ = some (.int .i64 d0) ∧ w5.cell? ⟨td, 1, none⟩ = some (.int .i64 d1) ∧ w5.cell? ⟨tt, 0, none⟩ = some (.int .i64 b0) ∧ w5.cell? ⟨tt, 1, none⟩ = some (.int .i64 b1) := ⟨qc B5 ca0, qc B5 ca1, qc B5 cc0, qc B5 cc1, qc B5 cd0, qc B5 cd1, qc B5 ct0, qc B5 ct1⟩
  have tf5 := qo T5 0
  have tz5 : w5.cell? ⟨tn, 0, none⟩ = some (.int .i64 0) := (qb T5 0).trans rfl
  refine zo (a' := ?_) ?_ ?_
  rotate_left
  · simp only [QS, Act.put, List.setIfInBounds_toArray, List.set_cons_zero, List.set_cons_succ]
    rfl
  refine QP (i := 11) (N := none) #[true, true, true, true, true, true, true, true, true, true, true, true] rfl rfl (by kernel_rfl) (by decide) (fun K hK => ?_)
  refine ZT (w1 := ?_) (by rfl) rfl ?_ ?_
  rotate_left
  · go_simp
    rfl
  refine hK.out _ _ ?_
  clear hK K
  refine Qa (by kernel_rfl) ?_
  have gtn : w0.heap.size ≤ tn := Nat.le_trans I1d.base G5
  have i6 := I5.set (j := 0) (u := .int .i64 n) (List.mem_cons_self) N5 gtn
  have t6 : (w5.setCell ⟨tn, 0, none⟩ (.int .i64 n)).heap[tn]? = some (.cells #[.int .i64 n] 3 (0, 0)) := (Jq (v := .int .i64 0) (u := .int .i64 n) (i := 0) T5).trans rfl
  have sz6 : (w5.setCell ⟨tn, 0, none⟩ (.int .i64 n)).heap.size = w5.heap.size := by simp [World.setCell]
  have hP4 : ∀ q, q ∈ P4 → (w5.setCell ⟨tn, 0, none⟩ (.int .i64 n)).heap[q]? = W.heap[q]? := fun q hq => by
    have h1 : q < W.drew.heap.size := I1d.lts q hq
    have h2 : q ≠ tn := by have := G5; omega
    rw [Below.heap_setCell _ _ _ q (fun e => h2 e)]; exact B5.block q h1
  have BW6 : Below w.heap.size w (w5.setCell ⟨tn, 0, none⟩ (.int .i64 n)) := qf (qh (jf BL.out) B5) (Nat.le_trans (qx BL.out) G5)
  clear hHeld tf5 tz5 cc0 cc1 cd0 cd1 ct0 ct1 ca0 ca1
  go_upto_block 0 with fail
  obtain ⟨W4, ti, eW4, ei, I4, N4, K4, bW, en1⟩ : ∃ W4 ti, W4 = (w5.setCell ⟨tn, 0, none⟩ (.int .i64 n)).alloc (Obj.cells #[.int .i64 1] 3) ∧ w5.heap.size = ti ∧ zP w0 W4 (ti :: tn :: P4) g out x y ∧ W4.heap[tn]? = some (.cells #[.int .i64 n] 3 (0, 0)) ∧ W4.heap[ti]? = some (.cells #[.int .i64 1] 3 (0, 0)) ∧ Below w.heap.size w W4 ∧ (tn ≠ g ∧ ti ≠ g ∧ w0.heap.size ≤ ti ∧ ti ∉ tn :: P4) := by
    have a := i6.guard (Obj.cells #[.int .i64 1] 3)
    rw [sz6] at a
    have gl := I5.lt
    have hl5 := I5.lts
    refine ⟨_, _, rfl, rfl, a, qg t6 _, by rw [← sz6]; exact zu _ _, qw BW6 _, N5, by omega, I5.base, fun hm => ?_⟩
    have := hl5 _ hm; omega
  rw [← eW4, ei]
  have C4 := qa.mk (show W4.heap[tc]? = some (Obj.cells #[.int .i64 c0, .int .i64 c1] 35 (0, 0)) by rw [eW4]; exact qg ((hP4 tc (by rw [eP]; simp)).trans BC.out) _)
  have D4 := qa.mk (show W4.heap[td]? = some (Obj.cells #[.int .i64 d0, .int .i64 d1] 35 (0, 0)) by rw [eW4]; exact qg ((hP4 td (by rw [eP]; simp)).trans BD.out) _)
  have T4 := qa.mk (show W4.heap[tt]? = some (Obj.cells #[.int .i64 b0, .int .i64 b1] 35 (0, 0)) by rw [eW4]; exact qg ((hP4 tt (by rw [eP]; simp)).trans BT.out) _)
  have A4 := qa.mk (show W4.heap[ta]? = some (Obj.cells #[.int .i64 x, .int .i64 y] 35 (0, 0)) by rw [eW4]; exact qg ((hP4 ta (by rw [eP]; simp)).trans BA.out) _)
  have BW4 := qa.mk bW
  clear I1d I5 T5 B5 N5 G5 i6 t6 sz6 hP4 BW6 gtn bW hF5
  subst eP
  have Q4 := qa.mk (Kp.refl (tn :: ta :: tt :: td :: tc :: P) g W4)
  have I4' := qa.mk I4
  have N4' := qa.mk N4
  have K4' := qa.mk K4
  have NN := qa.mk en1.1
  have E4 := qa.mk en1
  clear eW4 ei I4 N4 K4 en1
  go_wp2
  go_loopw [10] (fun v10 wr => ∃ (bi : Nat) (i : Int) (out1 done rest : List S35) (x1 y1 : Int) (m : Nat), v10 = .pointer (some ⟨bi, 0, none⟩) ∧ 1 ≤ i ∧ (m : Int) = n + 1 - i ∧ qa (wr.heap[bi]? = some (.cells #[.int .i64 i] 3 (0, 0))) ∧ qa (bi ≠ g ∧ bi ∉ tn :: ta :: tt :: td :: tc :: P) ∧ qa (zP w0 wr (bi :: tn :: ta :: tt :: td :: tc :: P) g out1 x1 y1) ∧ qa (cL k x y c0 c1 d0 d1 b0 b1 n m i = some rest) ∧ qa (out1 = out ++ done ∧ pts = done ++ rest ∧ (⟨x1, y1⟩ : S35) = Qi x y done) ∧ done.length ≤ (i - 1).toNat ∧
      qa (wr.heap[tn]? = some (.cells #[.int .i64 n] 3 (0, 0))) ∧ qa (wr.heap[tc]? = some (.cells #[.int .i64 c0, .int .i64 c1] 35 (0, 0))) ∧ qa (wr.heap[td]? = some (.cells #[.int .i64 d0, .int .i64 d1] 35 (0, 0))) ∧ qa (wr.heap[tt]? = some (.cells #[.int .i64 b0, .int .i64 b1] 35 (0, 0))) ∧ qa (wr.heap[ta]? = some (.cells #[.int .i64 x, .int .i64 y] 35 (0, 0))) ∧ qa (Kp (tn :: ta :: tt :: td :: tc :: P) g W4 wr) ∧ qa (m = m)) (fun v10 wr => match v10 with | .pointer (some a) => (match wr.cell? a with | some (.int _ i) => (n + 1 - i).toNat | _ => 0) | _ => 0)
  case atStart => exact ⟨ti, 1, out, [], pts, x, y, n.toNat, rfl, by omega, by omega, K4', ⟨⟨E4.out.2.1, E4.out.2.2.2⟩⟩, I4', Hq, ⟨⟨by simp, rfl, rfl⟩⟩, by simp, N4', C4, D4, T4, A4, Q4, ⟨rfl⟩⟩
  case round =>
    obtain ⟨bi, i, out1, done, rest, x1, y1, m, rfl, i1, im, KB, NG, IR, QR, OR, dl, NR, CR, DR, TR, AR, KR, _⟩ := hrel
    have cb : wr.cell? ⟨bi, 0, none⟩ = some (.int .i64 i) := (qb KB.out 0).trans rfl
    have cn : wr.cell? ⟨tn, 0, none⟩ = some (.int .i64 n) := (qb NR.out 0).trans rfl
    by_cases hlt : i ≤ n
    · obtain ⟨m, rfl⟩ : ∃ q, m = q + 1 := ⟨m - 1, by omega⟩
      have qr := QR.out
      simp only [cL] at qr
      obtain ⟨r, hr, qr⟩ := Option.bind_eq_some_iff.mp qr
      obtain ⟨s, hs, qr⟩ := Option.bind_eq_some_iff.mp qr
      obtain ⟨rest, hq, qr⟩ := Option.bind_eq_some_iff.mp qr
      injection qr with qr
      subst qr
      have HR := qa.mk hr
      have HS := qa.mk hs
      have HQ := qa.mk hq
      have ol : out1.length ≤ 1000000 := by rw [OR.out.1, List.length_append]; omega
      clear hr hs hq QR
      go_upto_region 8 with fail
      obtain ⟨W5, bj, e5, ej, i5, j5, b5⟩ : ∃ W5 bj, W5 = wr.alloc (Obj.cells #[.int .i64 (n - i)] 3) ∧ wr.heap.size = bj ∧ zP w0 W5 (bj :: bi :: tn :: ta :: tt :: td :: tc :: P) g out1 x1 y1 ∧ W5.heap[bj]? = some (.cells #[.int .i64 (n - i)] 3 (0, 0)) ∧ Below wr.heap.size wr W5 := ⟨_, _, rfl, rfl, IR.out.guard _, zu _ _, qw (Below.refl _ _) _⟩
      rw [← e5, ej]
      have I5 := qa.mk i5
      have J5 : qa (W5.drew.heap[bj]? = some (.cells #[.int .i64 (n - i)] 3 (0, 0))) := ⟨qd j5⟩
      have K5 : qa (W5.drew.heap[bi]? = some (.cells #[.int .i64 i] 3 (0, 0))) := ⟨qd ((b5.block _ (qy KB.out)).trans KB.out)⟩
      have N5 : qa (W5.drew.heap[tn]? = some (.cells #[.int .i64 n] 3 (0, 0))) := ⟨qd ((b5.block _ (qy NR.out)).trans NR.out)⟩
      have C5 : qa (W5.drew.heap[tc]? = some (.cells #[.int .i64 c0, .int .i64 c1] 35 (0, 0))) := ⟨qd ((b5.block _ (qy CR.out)).trans CR.out)⟩
      have D5 : qa (W5.drew.heap[td]? = some (.cells #[.int .i64 d0, .int .i64 d1] 35 (0, 0))) := ⟨qd ((b5.block _ (qy DR.out)).trans DR.out)⟩
      have T5 : qa (W5.drew.heap[tt]? = some (.cells #[.int .i64 b0, .int .i64 b1] 35 (0, 0))) := ⟨qd ((b5.block _ (qy TR.out)).trans TR.out)⟩
      have A5 : qa (W5.drew.heap[ta]? = some (.cells #[.int .i64 x, .int .i64 y] 35 (0, 0))) := ⟨qd ((b5.block _ (qy AR.out)).trans AR.out)⟩
      have Q5 : qa (Kp (tn :: ta :: tt :: td :: tc :: P) g W4 W5.drew) := ⟨(KR.out.below (fun k hk => IR.out.lts k (by simp [hk])) b5).below (fun k hk => i5.lts k (by simp [hk])) (jf (Below.refl _ _))⟩
      have I5d : qa (zP w0 W5.drew (bj :: bi :: tn :: ta :: tt :: td :: tc :: P) g out1 x1 y1) := ⟨i5.drew⟩
      have pa0 : W5.drew.cell? ⟨ta, 0, none⟩ = some (.int .i64 x) := (qb A5.out 0).trans rfl
      have pa1 : W5.drew.cell? ⟨ta, 1, none⟩ = some (.int .i64 y) := (qb A5.out 1).trans rfl
      have pc0 : W5.drew.cell? ⟨tc, 0, none⟩ = some (.int .i64 c0) := (qb C5.out 0).trans rfl
      have pc1 : W5.drew.cell? ⟨tc, 1, none⟩ = some (.int .i64 c1) := (qb C5.out 1).trans rfl
      have pd0 : W5.drew.cell? ⟨td, 0, none⟩ = some (.int .i64 d0) := (qb D5.out 0).trans rfl
      have pd1 : W5.drew.cell? ⟨td, 1, none⟩ = some (.int .i64 d1) := (qb D5.out 1).trans rfl
      have pt0 : W5.drew.cell? ⟨tt, 0, none⟩ = some (.int .i64 b0) := (qb T5.out 0).trans rfl
      have pt1 : W5.drew.cell? ⟨tt, 1, none⟩ = some (.int .i64 b1) := (qb T5.out 1).trans rfl
      have I5 := I5d
      have NB := qa.mk NG.out.1
      clear e5 ej i5 j5 b5 cb cn I5d
      refine jS (n := 23) (S := fun w' => w'.cell? ⟨ta, 0, none⟩ = some (.int .i64 x) ∧ w'.cell? ⟨tc, 0, none⟩ = some (.int .i64 c0) ∧ w'.cell? ⟨td, 0, none⟩ = some (.int .i64 d0) ∧ w'.cell? ⟨tt, 0, none⟩ = some (.int .i64 b0) ∧ w'.cell? ⟨ta, 1, none⟩ = some (.int .i64 y) ∧ w'.cell? ⟨tc, 1, none⟩ = some (.int .i64 c1) ∧ w'.cell? ⟨td, 1, none⟩ = some (.int .i64 d1) ∧ w'.cell? ⟨tt, 1, none⟩ = some (.int .i64 b1)) (ds := [22]) #[false, false, false, false, false, false, false, false, false, false, false, false, false, false, false, false, false, false, false, false, false, false, false] (by kernel_rfl) rfl rfl ⟨pa0, pc0, pd0, pt0, pa1, pc1, pd1, pt1⟩ (fun hHeld => ?_)
      refine za (i := 0) (N := some 36) (v := ?_) (a' := ?_) #[true, false, false, false, false, false, false, false, false, false, false, false, false, false, false, false, false, false, false, false, false, false, false] rfl rfl (by kernel_rfl) (fun _ _ _ h => h) (Or.inl ⟨by rfl, ?_⟩) ?_ ?_
      rotate_left
      · intro w'
        go_simp
        with_reducible rfl
      rotate_left
      · simp only [Act.put, List.setIfInBounds_toArray, List.set_cons_zero, List.set_cons_succ, qz, qA]
        rfl
      refine za (i := 1) (N := some 37) (v := ?_) (a' := ?_) #[true, true, false, false, false, false, false, false, false, false, false, false, false, false, false, false, false, false, false, false, false, false, false] rfl rfl (by kernel_rfl) (fun _ _ _ h => h) (Or.inl ⟨by rfl, ?_⟩) ?_ ?_
      rotate_left
      · intro w'
        go_simp
        with_reducible rfl
      rotate_left
      · simp only [Act.put, List.setIfInBounds_toArray, List.set_cons_zero, List.set_cons_succ, qz, qA]
        rfl
      refine za (i := 2) (N := some 38) (v := ?_) (a' := ?_) #[true, true, true, false, false, false, false, false, false, false, false, false, false, false, false, false, false, false, false, false, false, false, false] rfl rfl (by kernel_rfl) (fun _ _ _ h => h) (Or.inl ⟨by rfl, ?_⟩) ?_ ?_
      rotate_left
      · intro w'
        go_simp
        with_reducible rfl
      rotate_left
      · simp only [Act.put, List.setIfInBounds_toArray, List.set_cons_zero, List.set_cons_succ, qz, qA]
        rfl
      refine za (i := 4) (N := some 40) (v := ?_) (a' := ?_) #[true, true, true, false, true, false, false, false, false, false, false, false, false, false, false, false, false, false, false, false, false, false, false] rfl rfl (by kernel_rfl) (fun _ _ _ h => h) (Or.inl ⟨by rfl, ?_⟩) ?_ ?_
      rotate_left
      · intro w'
        go_simp
        with_reducible rfl
      rotate_left
      · simp only [Act.put, List.setIfInBounds_toArray, List.set_cons_zero, List.set_cons_succ, qz, qA]
        rfl
      refine za (i := 6) (N := some 42) (v := ?_) (a' := ?_) #[true, true, true, false, true, false, true, false, false, false, false, false, false, false, false, false, false, false, false, false, false, false, false] rfl rfl (by kernel_rfl) (fun _ _ _ h => h) (Or.inl ⟨by rfl, ?_⟩) ?_ ?_
      rotate_left
      · intro w'
        go_simp
        with_reducible rfl
      rotate_left
      · simp only [Act.put, List.setIfInBounds_toArray, List.set_cons_zero, List.set_cons_succ, qz, qA]
        rfl
      refine za (i := 8) (N := some 44) (v := ?_) (a' := ?_) #[true, true, true, false, true, false, true, false, true, false, false, false, false, false, false, false, false, false, false, false, false, false, false] rfl rfl (by kernel_rfl) (fun _ _ _ h => h) (Or.inl ⟨by rfl, ?_⟩) ?_ ?_
      rotate_left
      · intro w'
        go_simp
        with_reducible rfl
      rotate_left
      · simp only [Act.put, List.setIfInBounds_toArray, List.set_cons_zero, List.set_cons_succ, qz, qA]
        rfl
      refine za (i := 11) (N := some 47) (v := ?_) (a' := ?_) #[true, true, true, false, true, false, true, false, true, false, false, true, false, false, false, false, false, false, false, false, false, false, false] rfl rfl (by kernel_rfl) (fun _ _ _ h => h) (Or.inl ⟨by rfl, ?_⟩) ?_ ?_
      rotate_left
      · intro w'
        go_simp
        with_reducible rfl
      rotate_left
      · simp only [Act.put, List.setIfInBounds_toArray, List.set_cons_zero, List.set_cons_succ, qz, qA]
        rfl
      refine za (i := 12) (N := some 48) (v := ?_) (a' := ?_) #[true, true, true, false, true, false, true, false, true, false, false, true, true, false, false, false, false, false, false, false, false, false, false] rfl rfl (by kernel_rfl) (fun _ _ _ h => h) (Or.inl ⟨by rfl, ?_⟩) ?_ ?_
      rotate_left
      · intro w'
        go_simp
        with_reducible rfl
      rotate_left
      · simp only [Act.put, List.setIfInBounds_toArray, List.set_cons_zero, List.set_cons_succ, qz, qA]
        rfl
      refine za (i := 14) (N := some 50) (v := ?_) (a' := ?_) #[true, true, true, false, true, false, true, false, true, false, false, true, true, false, true, false, false, false, false, false, false, false, false] rfl rfl (by kernel_rfl) (fun _ _ _ h => h) (Or.inl ⟨by rfl, ?_⟩) ?_ ?_
      rotate_left
      · intro w'
        go_simp
        with_reducible rfl
      rotate_left
      · simp only [Act.put, List.setIfInBounds_toArray, List.set_cons_zero, List.set_cons_succ, qz, qA]
        rfl
      refine za (i := 16) (N := some 52) (v := ?_) (a' := ?_) #[true, true, true, false, true, false, true, false, true, false, false, true, true, false, true, false, true, false, false, false, false, false, false] rfl rfl (by kernel_rfl) (fun _ _ _ h => h) (Or.inl ⟨by rfl, ?_⟩) ?_ ?_
      rotate_left
      · intro w'
        go_simp
        with_reducible rfl
      rotate_left
      · simp only [Act.put, List.setIfInBounds_toArray, List.set_cons_zero, List.set_cons_succ, qz, qA]
        rfl
      refine za (i := 18) (N := some 54) (v := ?_) (a' := ?_) #[true, true, true, false, true, false, true, false, true, false, false, true, true, false, true, false, true, false, true, false, false, false, false] rfl rfl (by kernel_rfl) (fun _ _ _ h => h) (Or.inl ⟨by rfl, ?_⟩) ?_ ?_
      rotate_left
      · intro w'
        go_simp
        with_reducible rfl
      rotate_left
      · simp only [Act.put, List.setIfInBounds_toArray, List.set_cons_zero, List.set_cons_succ, qz, qA]
        rfl
      refine zD (i := 3) (N := some 39) (v := ?_) (a' := ?_) #[true, true, true, true, true, false, true, false, true, false, false, true, true, false, true, false, true, false, true, false, false, false, false] rfl rfl (by kernel_rfl) (fun _ _ _ h => h) (Or.inl ⟨by rfl, ?_⟩) hHeld ?_ ?_
      rotate_left
      · rintro w' ⟨s0, s1, s2, s3, s4, s5, s6, s7⟩
        go_simp
        with_reducible rfl
      rotate_left
      · simp only [Act.put, List.setIfInBounds_toArray, List.set_cons_zero, List.set_cons_succ, qz, qA]
        rfl
      refine zD (i := 5) (N := some 41) (v := ?_) (a' := ?_) #[true, true, true, true, true, true, true, false, true, false, false, true, true, false, true, false, true, false, true, false, false, false, false] rfl rfl (by kernel_rfl) (fun _ _ _ h => h) (Or.inl ⟨by rfl, ?_⟩) hHeld ?_ ?_
      rotate_left
      · rintro w' ⟨s0, s1, s2, s3, s4, s5, s6, s7⟩
        go_simp
        with_reducible rfl
      rotate_left
      · simp only [Act.put, List.setIfInBounds_toArray, List.set_cons_zero, List.set_cons_succ, qz, qA]
        rfl
      refine zD (i := 7) (N := some 43) (v := ?_) (a' := ?_) #[true, true, true, true, true, true, true, true, true, false, false, true, true, false, true, false, true, false, true, false, false, false, false] rfl rfl (by kernel_rfl) (fun _ _ _ h => h) (Or.inl ⟨by rfl, ?_⟩) hHeld ?_ ?_
      rotate_left
      · rintro w' ⟨s0, s1, s2, s3, s4, s5, s6, s7⟩
        go_simp
        with_reducible rfl
      rotate_left
      · simp only [Act.put, List.setIfInBounds_toArray, List.set_cons_zero, List.set_cons_succ, qz, qA]
        rfl
      refine zD (i := 9) (N := some 45) (v := ?_) (a' := ?_) #[true, true, true, true, true, true, true, true, true, true, false, true, true, false, true, false, true, false, true, false, false, false, false] rfl rfl (by kernel_rfl) (fun _ _ _ h => h) (Or.inl ⟨by rfl, ?_⟩) hHeld ?_ ?_
      rotate_left
      · rintro w' ⟨s0, s1, s2, s3, s4, s5, s6, s7⟩
        go_simp
        with_reducible rfl
      rotate_left
      · simp only [Act.put, List.setIfInBounds_toArray, List.set_cons_zero, List.set_cons_succ, qz, qA]
        rfl
      refine zD (i := 13) (N := some 49) (v := ?_) (a' := ?_) #[true, true, true, true, true, true, true, true, true, true, false, true, true, true, true, false, true, false, true, false, false, false, false] rfl rfl (by kernel_rfl) (fun _ _ _ h => h) (Or.inl ⟨by rfl, ?_⟩) hHeld ?_ ?_
      rotate_left
      · rintro w' ⟨s0, s1, s2, s3, s4, s5, s6, s7⟩
        go_simp
        with_reducible rfl
      rotate_left
      · simp only [Act.put, List.setIfInBounds_toArray, List.set_cons_zero, List.set_cons_succ, qz, qA]
        rfl
      refine zD (i := 15) (N := some 51) (v := ?_) (a' := ?_) #[true, true, true, true, true, true, true, true, true, true, false, true, true, true, true, true, true, false, true, false, false, false, false] rfl rfl (by kernel_rfl) (fun _ _ _ h => h) (Or.inl ⟨by rfl, ?_⟩) hHeld ?_ ?_
      rotate_left
      · rintro w' ⟨s0, s1, s2, s3, s4, s5, s6, s7⟩
        go_simp
        with_reducible rfl
      rotate_left
      · simp only [Act.put, List.setIfInBounds_toArray, List.set_cons_zero, List.set_cons_succ, qz, qA]
        rfl
      refine zD (i := 17) (N := some 53) (v := ?_) (a' := ?_) #[true, true, true, true, true, true, true, true, true, true, false, true, true, true, true, true, true, true, true, false, false, false, false] rfl rfl (by kernel_rfl) (fun _ _ _ h => h) (Or.inl ⟨by rfl, ?_⟩) hHeld ?_ ?_
      rotate_left
      · rintro w' ⟨s0, s1, s2, s3, s4, s5, s6, s7⟩
        go_simp
        with_reducible rfl
      rotate_left
      · simp only [Act.put, List.setIfInBounds_toArray, List.set_cons_zero, List.set_cons_succ, qz, qA]
        rfl
      refine zD (i := 19) (N := some 55) (v := ?_) (a' := ?_) #[true, true, true, true, true, true, true, true, true, true, false, true, true, true, true, true, true, true, true, true, false, false, false] rfl rfl (by kernel_rfl) (fun _ _ _ h => h) (Or.inl ⟨by rfl, ?_⟩) hHeld ?_ ?_
      rotate_left
      · rintro w' ⟨s0, s1, s2, s3, s4, s5, s6, s7⟩
        go_simp
        with_reducible rfl
      rotate_left
      · simp only [Act.put, List.setIfInBounds_toArray, List.set_cons_zero, List.set_cons_succ, qz, qA]
        rfl
      refine jd (i := 10) (N := some 46) #[true, true, true, true, true, true, true, true, true, true, true, true, true, true, true, true, true, true, true, true, false, false, false] rfl rfl (by kernel_rfl) (by decide) (fun K hK => ?_)
      refine goesC_ Try.func68 (by kernel_rfl) rfl #[.int .i64 x, .int .i64 c0, .int .i64 d0, .int .i64 b0] #[.int .i64 x, .int .i64 c0, .int .i64 d0, .int .i64 b0, .pointer (some ⟨bj, 0, none⟩), .pointer (some ⟨bi, 0, none⟩), .pointer (some ⟨tn, 0, none⟩)] (by rfl) rfl rfl rfl (by simp only [List.map_toArray, List.map_cons, List.map_nil]; rfl) rfl ?_
      refine (cubic_at k _ x c0 d0 b0 (n - i) i n r bj bi tn J5.out K5.out N5.out HR).mono ?_
      rintro e w6 ⟨rfl, hb6⟩
      have J6 := qa.mk ((hb6.block _ (qy J5.out)).trans J5.out)
      have K6 := qa.mk ((hb6.block _ (qy K5.out)).trans K5.out)
      have N6 := qa.mk ((hb6.block _ (qy N5.out)).trans N5.out)
      have C6 := qa.mk ((hb6.block _ (qy C5.out)).trans C5.out)
      have D6 := qa.mk ((hb6.block _ (qy D5.out)).trans D5.out)
      have T6 := qa.mk ((hb6.block _ (qy T5.out)).trans T5.out)
      have A6 := qa.mk ((hb6.block _ (qy A5.out)).trans A5.out)
      have I6 := qa.mk (I5.out.below hb6)
      have Q6 := qa.mk (Q5.out.below (fun k hk => I5.out.lts k (by simp [hk])) hb6)
      refine ⟨_, rfl, ?_⟩
      refine hK.out _ _ ⟨qc hb6 (hHeld.1), qc hb6 (hHeld.2.1), qc hb6 (hHeld.2.2.1), qc hb6 (hHeld.2.2.2.1), qc hb6 (hHeld.2.2.2.2.1), qc hb6 (hHeld.2.2.2.2.2.1), qc hb6 (hHeld.2.2.2.2.2.2.1), qc hb6 (hHeld.2.2.2.2.2.2.2)⟩ (fun hHeld => ?_)
      clear hK K
      refine zo (a' := ?_) ?_ ?_
      rotate_left
      · show Act.put _ (some 46) _ = _
        simp only [Act.put, List.setIfInBounds_toArray, List.set_cons_zero, List.set_cons_succ, qz, qA]
        rfl
      refine jd (i := 20) (N := some 56) #[true, true, true, true, true, true, true, true, true, true, true, true, true, true, true, true, true, true, true, true, true, false, false] rfl rfl (by kernel_rfl) (by decide) (fun K hK => ?_)
      refine goesC_ Try.func68 (by kernel_rfl) rfl #[.int .i64 y, .int .i64 c1, .int .i64 d1, .int .i64 b1] #[.int .i64 y, .int .i64 c1, .int .i64 d1, .int .i64 b1, .pointer (some ⟨bj, 0, none⟩), .pointer (some ⟨bi, 0, none⟩), .pointer (some ⟨tn, 0, none⟩)] (by rfl) rfl rfl rfl (by simp only [List.map_toArray, List.map_cons, List.map_nil]; rfl) rfl ?_
      refine (cubic_at k _ y c1 d1 b1 (n - i) i n s bj bi tn J6.out K6.out N6.out HS).mono ?_
      rintro e w7 ⟨rfl, hb7⟩
      have K7 := qa.mk ((hb7.block _ (qy K6.out)).trans K6.out)
      have N7 := qa.mk ((hb7.block _ (qy N6.out)).trans N6.out)
      have C7 := qa.mk ((hb7.block _ (qy C6.out)).trans C6.out)
      have D7 := qa.mk ((hb7.block _ (qy D6.out)).trans D6.out)
      have T7 := qa.mk ((hb7.block _ (qy T6.out)).trans T6.out)
      have A7 := qa.mk ((hb7.block _ (qy A6.out)).trans A6.out)
      have I7 := qa.mk (I6.out.below hb7)
      have Q7 := qa.mk (Q6.out.below (fun k hk => I6.out.lts k (by simp [hk])) hb7)
      refine ⟨_, rfl, ?_⟩
      refine hK.out _ _ ⟨qc hb7 (hHeld.1), qc hb7 (hHeld.2.1), qc hb7 (hHeld.2.2.1), qc hb7 (hHeld.2.2.2.1), qc hb7 (hHeld.2.2.2.2.1), qc hb7 (hHeld.2.2.2.2.2.1), qc hb7 (hHeld.2.2.2.2.2.2.1), qc hb7 (hHeld.2.2.2.2.2.2.2)⟩ (fun hHeld => ?_)
      clear hK K
      refine zo (a' := ?_) ?_ ?_
      rotate_left
      · show Act.put _ (some 56) _ = _
        simp only [Act.put, List.setIfInBounds_toArray, List.set_cons_zero, List.set_cons_succ, qz, qA]
        rfl
      refine za (i := 21) (N := some 57) (v := ?_) (a' := ?_) #[true, true, true, true, true, true, true, true, true, true, true, true, true, true, true, true, true, true, true, true, true, true, false] rfl rfl (by kernel_rfl) (fun _ _ _ h => h) (Or.inl ⟨by rfl, ?_⟩) ?_ ?_
      rotate_left
      · intro w'
        go_simp
        with_reducible rfl
      rotate_left
      · simp only [Act.put, List.setIfInBounds_toArray, List.set_cons_zero, List.set_cons_succ, qz, qA]
        rfl
      refine QP (i := 22) (N := some 58) #[true, true, true, true, true, true, true, true, true, true, true, true, true, true, true, true, true, true, true, true, true, true, true] rfl rfl (by kernel_rfl) (by decide) (fun K hK => ?_)
      refine zS Try.func47 (by kernel_rfl) rfl #[.pointer (some ⟨g, 0, none⟩), .agg #[.int .i64 r, .int .i64 s]] (by rfl) rfl rfl (by simp only [List.map_toArray, List.map_cons, List.map_nil]; rfl) ?_
      refine (JS w0 _ (bj :: bi :: tn :: ta :: tt :: td :: tc :: P) g out1 x1 y1 r s (by omega) I7).mono ?_
      rintro e w8 ⟨rfl, i8, k8⟩
      have I8 := qa.mk i8
      have B8 := qa.mk ((k8.2 bi (by simp) (by simpa using NB.out)).trans K7.out)
      have N8 := qa.mk ((k8.2 tn (by simp) (by simpa using NN.out)).trans N7.out)
      have C8 := qa.mk ((k8.2 tc (by simp) nc).trans C7.out)
      have D8 := qa.mk ((k8.2 td (by simp) nd).trans D7.out)
      have T8 := qa.mk ((k8.2 tt (by simp) nt).trans T7.out)
      have A8 := qa.mk ((k8.2 ta (by simp) na).trans A7.out)
      have Q8 := qa.mk (Q7.out.trans (k8.weak (fun k hk => by simp [hk])))
      have ci8 : w8.cell? ⟨bi, 0, none⟩ = some (.int .i64 i) := (qb B8.out 0).trans rfl
      clear i8 k8
      refine ⟨_, rfl, ?_⟩
      refine hK.out _ _ ?_
      clear hK K
      refine zo (a' := ?_) ?_ ?_
      rotate_left
      · show Act.put _ (some 58) _ = _
        simp only [Act.put, List.setIfInBounds_toArray, List.set_cons_zero, List.set_cons_succ, qz, qA]
        rfl
      refine Qa (by kernel_rfl) ?_
      go_wp2
      have cbr : wr.cell? ⟨bi, 0, none⟩ = some (.int .i64 i) := (qb KB.out 0).trans rfl
      have cbn : (w8.alloc (Obj.cells #[Value.int IntKind.i64 (i + 1)] 3)).cell? ⟨w8.heap.size, 0, none⟩ = some (.int .i64 (i + 1)) := (qb (zu w8 (Obj.cells #[Value.int IntKind.i64 (i + 1)] 3)) 0).trans rfl
      have l8 := I8.out.lts
      have gl8 := I8.out.lt
      refine ⟨⟨w8.heap.size, i + 1, out1 ++ [⟨r, s⟩], done ++ [⟨r, s⟩], rest, r, s, m, rfl, by omega, by omega, ⟨zu w8 _⟩, ⟨⟨by omega, fun hm => by have := l8 _ (List.mem_cons_of_mem _ (List.mem_cons_of_mem _ hm)); omega⟩⟩, ⟨(I8.out.weak (fun k hk => List.mem_cons_of_mem _ (List.mem_cons_of_mem _ hk)) (by have := IR.out.gm; rcases List.mem_cons.1 this with e | e; exact absurd e.symm NB.out; exact e)).guard _⟩, HQ, ⟨⟨by rw [OR.out.1, List.append_assoc], by rw [OR.out.2.1, List.append_assoc]; rfl, (qbb x y done _).symm⟩⟩, by rw [List.length_append]; simp; omega, ⟨qg N8.out _⟩, ⟨qg C8.out _⟩, ⟨qg D8.out _⟩, ⟨qg T8.out _⟩, ⟨qg A8.out _⟩, ⟨Q8.out.below (fun k hk => l8 k (by simp [hk])) (qw (Below.refl _ _) _)⟩, ⟨trivial⟩⟩, ?_⟩
      show (match (w8.alloc (Obj.cells #[Value.int IntKind.i64 (i + 1)] 3)).cell? ⟨w8.heap.size, 0, none⟩ with | some (.int _ i) => (n + 1 - i).toNat | _ => 0) < (match wr.cell? ⟨bi, 0, none⟩ with | some (.int _ i) => (n + 1 - i).toNat | _ => 0)
      rw [cbn, cbr]
      show (n + 1 - (i + 1)).toNat < (n + 1 - i).toNat
      omega
    · obtain rfl : m = 0 := by omega
      have qr := QR.out
      simp only [cL, Option.some.injEq] at qr
      subst qr
      go_wp2
      refine bodyPost_end (results_none rfl _ _ _) rfl ?_
      have hp : pts = done := by rw [OR.out.2.1, List.append_nil]
      have hg : g ∈ P := HI.out.gm
      refine ⟨rfl, ?_, ?_⟩
      · have i9 := IR.out.weak (P' := P) (fun k hk => by simp [hk]) hg
        rw [hp, ← OR.out.2.2, ← OR.out.1]; exact i9
      · have kw : Kp P g w W4 := (Kp.refl P g w).below HI.out.lts BW4.out
        exact kw.trans (KR.out.weak (fun k hk => by simp [hk]))
theorem cL_mono {k : Nat} {a0 a1 c0 c1 d0 d1 b0 b1 n : Int} : ∀ (m : Nat) (i : Int), LeO (cL k a0 a1 c0 c1 d0 d1 b0 b1 n m i) (cL (k + 1) a0 a1 c0 c1 d0 d1 b0 b1 n m i)
  | 0, _ => fun r h => h
  | m + 1, i => by
    simp only [cL]
    exact jR (zZ.mono _ _ k) fun r => jR (zZ.mono _ _ k) fun s => jR (cL_mono m _) fun q r h => h
theorem qaN {k : Nat} {a0 a1 c0 c1 d0 d1 b0 b1 : Int} : LeO (Zf k a0 a1 c0 c1 d0 d1 b0 b1) (Zf (k + 1) a0 a1 c0 c1 d0 d1 b0 b1) := by
  unfold Zf
  refine jR (fun r h => h) fun u => jR (fun r h => h) fun v => jR (zt.mono _ k) fun n => ?_
  split
  · exact cL_mono _ _
  · exact fun r h => h
end Go.Proofs.Ytmlkpadlafjfeaa.P
