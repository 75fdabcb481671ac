/- glyf: Decode of a glyph of one contour; and of one that throws. Written by rk/gengf.py. -/
import Derived.Test.YtchmhcfdamdjdaaGx0
import Derived.Test.YtchmhcfdamdjdaaGfUG
import Derived.Tactics2
import Derived.Defers
import Derived.Recover
import Derived.Laws.Pointers
set_option linter.unusedVariables false
set_option linter.unusedSimpArgs false
namespace Go.Proofs.Ytchmhcfdamdjdaa.G
open Go Go.RowKit Go.Proofs.YtchmhcfdamdjdaaW.PrintWords Go.Proofs.YtchmhcfdamdjdaaW.PrintLast Go.Proofs.YtchmhcfdamdjdaaW.PrintMore

theorem setRow_same {w : World} {g : Nat} {t : TypeId} {cs : Array Value} {fr : Nat × Nat} (hg : w.heap[g]? = some (.cells cs t fr)) : w.setRow g cs = w := by
  have hlt : g < w.heap.size := (Array.getElem?_eq_some_iff.1 hg).1
  have hv : w.heap[g] = .cells cs t fr := (Array.getElem?_eq_some_iff.1 hg).2
  unfold World.setRow
  cases w with
  | mk heap tape drawn os output =>
    congr 1
    apply Array.ext
    · simp
    · intro k h1 h2
      simp only [Array.getElem_modify]
      split
      · rename_i hk; subst hk; simp at hv; simp [hv]
      · rfl
section
variable {P : Program} {ops : Array Oper} {Q : Exit → Act → World → Prop}
theorem store_row_ {oi : Oper} {a : Act} {w : World} {K : Act → World → Prop} (hw : Region.wanted oi (yielded ops a.tmps) = true) (hN : oi.dst = none) (ty : TypeId) (x y : Operand) (ho : oi.op = .store ty x y)
    (g : Nat) (cells : Array Value) (hx : a.eval x = .pointer (some ⟨g, 0, none⟩)) (hy : a.eval y = .agg cells)
    (t : TypeId) (old : Array Value) (hg : w.heap[g]? = some (.cells old t (0, 0))) (hi : (P.info? ty).map (·.size) = some cells.size)
    (hold : old.size = cells.size) (h1 : cells.all (·.oneCell') = true)
    (h : K a (w.setRow g cells)) : if Region.wanted oi (yielded ops a.tmps) = true then Oper.wp P oi a w K Q else K (a.put none undef) w := by
  rw [if_pos hw]
  refine wp_store_row ty x y ho g cells hx hy t old hg hi hold h1 ?_
  rw [hN]
  exact h
end
theorem assert30 (E : Int) (w : World) : (Instr.typeAssert (.iface 30 (.int .i64 E)) 20 30 false).run Try.prog w = .ok (.int .i64 E) w := by kernel_rfl
set_option maxRecDepth 100000 in
set_option maxHeartbeats 1000000 in
theorem catch_calls (gm ge : Nat) (E : Int) (older : List PanicEntry) (w : World) (hm : w.heap[gm]? = some (.cells zeroG 29 (0, 0))) (he : w.heap[ge]? = some (.cells #[.int .i64 0] 30 (0, 0))) :
    CallsD Try.prog 33 #[.pointer (some ⟨gm, 0, none⟩), .pointer (some ⟨ge, 0, none⟩)] (.panicking ({ v := .iface 30 (.int .i64 E), recovered := false } :: older)) w fun e u' w' =>
      e = .returned (.tuple #[]) ∧ u' = .panicking ({ v := .iface 30 (.int .i64 E), recovered := true } :: older) ∧ w' = (w.setCell ⟨ge, 0, none⟩ (.int .i64 E)).drew := by
  have HM := Aside0.mk (blk_drew hm)
  have e0 := blk_cell (blk_drew he) 0
  have ef := blk_frozen (blk_drew he) 0
  have hs := setRow_same HM.out
  have ta := assert30 E
  clear hm he
  refine callsD_of_wpS Try.func33 rfl fun c₀ cs hu => ?_
  apply wpS_seq
  apply wpS_region
  simp [wpOpsS, go_sem, recoverD, hu, Try.ntmps33, Exit.thenS]
  apply wpS_seq
  apply wpS_region
  simp [wpOpsS, go_sem, Exit.thenS]
  refine wpS_cond (t := true) (by simp [Act.eval, Array.replicate]) ?_
  simp only [if_true]
  refine wpS_of_wp ?_
  show Code.wp Try.prog _ _ { tmps := #[.pointer (some ⟨gm, 0, none⟩), .pointer (some ⟨ge, 0, none⟩), .iface 30 (.int .i64 E), .iface 30 (.int .i64 E), .iface 30 (.int .i64 E), .bool true, undef, undef, undef], defers := [] } w
  refine start_ (n := 5) (S := fun w' => True) (ds := [3, 4]) #[false, false, false, false, false] (by kernel_rfl) rfl rfl trivial (fun hHeld => ?_)
  refine pure_ (i := 0) (N := some 6) (v := ?_) (a' := ?_) #[true, false, false, false, false] rfl rfl (by kernel_rfl) (fun _ _ _ h => h) (Or.inl ⟨by rfl, ?_⟩) ?_ ?_
  rotate_left
  · intro w'
    go_simp
    with_reducible rfl
  rotate_left
  · simp only [Act.put, List.setIfInBounds_toArray, List.set_cons_zero, List.set_cons_succ, i64_w, i32_w]
    rfl
  refine pure_ (i := 1) (N := some 7) (v := ?_) (a' := ?_) #[true, true, false, false, false] rfl rfl (by kernel_rfl) (fun _ _ _ h => h) (Or.inl ⟨by rfl, ?_⟩) ?_ ?_
  rotate_left
  · intro w'
    go_simp
    with_reducible rfl
  rotate_left
  · simp only [Act.put, List.setIfInBounds_toArray, List.set_cons_zero, List.set_cons_succ, i64_w, i32_w]
    rfl
  refine pure_ (i := 2) (N := some 8) (v := ?_) (a' := ?_) #[true, true, true, false, false] rfl rfl (by kernel_rfl) (fun _ _ _ h => h) (Or.inl ⟨by rfl, ?_⟩) ?_ ?_
  rotate_left
  · intro w'
    go_simp
    with_reducible rfl
  rotate_left
  · simp only [Act.put, List.setIfInBounds_toArray, List.set_cons_zero, List.set_cons_succ, i64_w, i32_w]
    rfl
  refine last_ (i := 3) (N := none) #[true, true, true, true, false] rfl rfl (by kernel_rfl) (by decide) (fun K hK => ?_)
  refine store_row_ (by rfl) rfl 29 (.tmp 0) (.tmp 6) rfl gm zeroG rfl rfl 29 zeroG HM.out (by kernel_rfl) rfl (by simp [Value.oneCell']) ?_
  rw [hs]
  refine hK.out _ _ ?_
  clear hK K
  refine last_ (i := 4) (N := none) #[true, true, true, true, true] rfl rfl (by kernel_rfl) (by decide) (fun K hK => ?_)
  refine skip_ (w1 := ?_) (by rfl) rfl ?_ ?_
  rotate_left
  · go_simp
    rfl
  refine hK.out _ _ ?_
  clear hK K
  refine done_ (by kernel_rfl) ?_

  refine ⟨rfl, _, rfl, _, ?_, rfl, rfl, rfl⟩
  simp [results, Try.results33]
theorem catch_idle (p q : Addr) (w : World) :
    CallsD Try.prog 33 #[.pointer (some p), .pointer (some q)] .returning w fun e u' w' => e = .returned (.tuple #[]) ∧ u' = .returning ∧ w' = w := by
  refine callsD_of_wpS Try.func33 rfl fun c₀ cs hu => ?_
  apply wpS_seq
  apply wpS_region
  simp [wpOpsS, go_sem, recoverD, hu, Try.ntmps33, Exit.thenS]
  apply wpS_seq
  apply wpS_region
  simp [wpOpsS, go_sem, Exit.thenS]
  refine wpS_cond (t := false) (by simp [Act.eval, Array.replicate]) ?_
  simp only [Bool.false_eq_true, if_false]
  refine wpS_of_wp (wp_skip ?_)
  cases c₀
  simp_all [bodyPostS, results, Try.results33]
theorem three_new (w : World) (o1 o2 o3 : Obj) : ∃ X gm ge g, X = ((w.alloc o1).alloc o2).alloc o3 ∧ w.heap.size + 1 + 1 = g ∧ w.heap.size + 1 = ge ∧ w.heap.size = gm ∧ X.heap[gm]? = some o1 ∧ X.heap[ge]? = some o2 ∧ X.heap[g]? = some o3 ∧ Below w.heap.size w X := by
  have z1 : (w.alloc o1).heap.size = w.heap.size + 1 := Array.size_push ..
  have z2 : ((w.alloc o1).alloc o2).heap.size = w.heap.size + 1 + 1 := by rw [← z1]; exact Array.size_push ..
  refine ⟨_, _, _, _, rfl, rfl, rfl, rfl, blk_alloc (blk_alloc (blk_new _ _) _) _, ?_, ?_, below_alloc (below_alloc (below_alloc (Below.refl _ _) _) _) _⟩
  · rw [← z1]; exact blk_alloc (blk_new _ _) _
  · rw [← z2]; exact blk_new _ _
theorem res25 (tmps : Array Value) (gm ge : Nat) (v0 v1 : Value) (E : Int) (w : World) (h2 : tmps[6]?.getD undef = .pointer (some ⟨gm, 0, none⟩)) (h3 : tmps[7]?.getD undef = .pointer (some ⟨ge, 0, none⟩))
    (hm : w.heap[gm]? = some (.cells #[v0, v1] 29 (0, 0))) (he : w.heap[ge]? = some (.cells #[.int .i64 E] 30 (0, 0))) :
    (results Try.f25 tmps).run Try.prog w = .ok (.tuple #[.agg #[v0, v1], .int .i64 E]) w := by
  have m0 := blk_cell hm 0
  have m1 := blk_cell hm 1
  have e0 := blk_cell he 0
  clear hm he
  simp [results, Try.results25, go_sem, h2, h3, m0, m1, e0]
/-- What Decode answers: a glyph, or an error. -/
def DecP (R : Option (List (List S46) × List Int)) (E : Int) (w : World) (e : Ending) (w' : World) : Prop := Below w.heap.size w w' ∧
  match R with
  | none => e = .returned (.tuple #[.agg zeroG, .int .i64 E])
  | some (o, code) => ∃ AO cO AC cC, e = .returned (.tuple #[.agg #[.slice AO o.length cO, .slice AC code.length cC], .int .i64 0]) ∧ GlyP AO cO AC cC o code w.heap.size w'
theorem leave_bad25 (tmps : Array Value) (gm ge : Nat) (E : Int) (w w' : World) (h2 : tmps[6]?.getD undef = .pointer (some ⟨gm, 0, none⟩)) (h3 : tmps[7]?.getD undef = .pointer (some ⟨ge, 0, none⟩))
    (hm : w'.heap[gm]? = some (.cells zeroG 29 (0, 0))) (he : w'.heap[ge]? = some (.cells #[.int .i64 0] 30 (0, 0))) (hb : Below w.heap.size w w') (hge : w.heap.size ≤ ge) :
    Leaves Try.prog Try.f25 tmps (DecP none E w) [{ target := .fn (.func 33) #[.pointer (some ⟨gm, 0, none⟩), .pointer (some ⟨ge, 0, none⟩)], args := #[] }] (.panicking [{ v := .iface 30 (.int .i64 E), recovered := false }]) w' := by
  refine leaves_cons (f := 33) (args := #[.pointer (some ⟨gm, 0, none⟩), .pointer (some ⟨ge, 0, none⟩)]) (by simp) (by simp [go_sem]) ?_
  refine (catch_calls gm ge E [] w' hm he).mono ?_
  rintro e u' w'' ⟨rfl, rfl, rfl⟩
  have hne : gm ≠ ge := fun z => by
    rw [z, he] at hm
    injection hm with hm
    injection hm with _ hm
    exact absurd hm (by decide)
  have he2 := blk_put (cs' := #[.int .i64 E]) he 0 (.int .i64 E) rfl
  have hm2 := blk_far hm (p := ⟨ge, 0, none⟩) hne (.int .i64 E)
  exact ⟨_, res25 tmps gm ge _ _ E _ h2 h3 (blk_drew hm2) (blk_drew he2), below_drew (below_set hb hge), rfl⟩
theorem leave_good25 (tmps : Array Value) (gm ge : Nat) (o : List (List S46)) (code : List Int) (AO AC : Option Addr) (cO cC : Nat) (w w' : World) (h2 : tmps[6]?.getD undef = .pointer (some ⟨gm, 0, none⟩)) (h3 : tmps[7]?.getD undef = .pointer (some ⟨ge, 0, none⟩))
    (hm : w'.heap[gm]? = some (.cells #[.slice AO o.length cO, .slice AC code.length cC] 29 (0, 0))) (he : w'.heap[ge]? = some (.cells #[.int .i64 0] 30 (0, 0))) (hb : Below w.heap.size w w') (hP : GlyP AO cO AC cC o code w.heap.size w') :
    Leaves Try.prog Try.f25 tmps (DecP (some (o, code)) 0 w) [{ target := .fn (.func 33) #[.pointer (some ⟨gm, 0, none⟩), .pointer (some ⟨ge, 0, none⟩)], args := #[] }] .returning w' := by
  refine leaves_cons (f := 33) (args := #[.pointer (some ⟨gm, 0, none⟩), .pointer (some ⟨ge, 0, none⟩)]) (by simp) (by simp [go_sem]) ?_
  refine (catch_idle ⟨gm, 0, none⟩ ⟨ge, 0, none⟩ w').mono ?_
  rintro e u' w'' ⟨rfl, rfl, rfl⟩
  exact ⟨_, res25 tmps gm ge _ _ 0 _ h2 h3 hm he, hb, AO, cO, AC, cC, rfl, hP⟩
set_option maxRecDepth 100000 in
set_option maxHeartbeats 4000000 in
/-- Decode, where glyph answers a glyph. -/
theorem decode_good (bs : List Int) (gv : Nat) (AP : Option Addr) (cP : Nat) (ps : List Int) (i : Int) (o : List (List S46)) (code : List Int) (w : World) (hv : Vw w gv bs) (hp : Kd.C (Kd.int .i64) w AP ps.length ps)
    (hg : ∀ (W : World) (dk : Nat), Dc W dk gv bs AP cP ps 0 → Calls Try.prog 34 #[.pointer (some ⟨dk, 0, none⟩), .int .i64 i, .int .i64 1] W fun q w' => ∃ AO cO AC cC, q = .returned (.agg #[.slice AO o.length cO, .slice AC code.length cC]) ∧ Below W.heap.size W w' ∧ GlyP AO cO AC cC o code W.heap.size w') :
    Calls Try.prog 25 #[.pointer (some ⟨gv, 0, none⟩), .slice AP ps.length cP, .int .i64 i] w (DecP (some (o, code)) 0 w) := by
  have HV := Aside0.mk hv
  have HP := Aside0.mk hp
  have HG := Aside0.mk hg
  have hmf : ∀ (fn : Go.Fn) (first cap : Array Value) (w : World), (Instr.makeFunc fn first cap).run Try.prog w = .ok (.func fn first cap) w := fun _ _ _ _ => rfl
  clear hv hp hg
  go_enter_defers Try.func25, Try.ntmps25
  go_upto_region 3 with fail
  obtain ⟨X, gm, ge, g, hX, e3, e2, e1, km, ke, kg, bX⟩ := three_new w (Obj.cells zeroG 29) (Obj.cells #[.int .i64 0] 30) (Obj.cells #[.pointer (some ⟨gv, 0, none⟩), .slice AP ps.length cP, .int .i64 0] 74)
  rw [← hX, e3, e2, e1]
  have l1 : w.heap.size ≤ gm := by omega
  have l2 : w.heap.size ≤ ge := by omega
  have n3 : gm ≠ ge := by omega
  have LS := Aside0.mk (show w.heap.size ≤ gm ∧ w.heap.size ≤ ge ∧ gm ≠ ge ∧ gm < X.heap.size ∧ ge < X.heap.size from ⟨l1, l2, n3, blk_lt km, blk_lt ke⟩)
  have KM := Aside0.mk km
  have KE := Aside0.mk ke
  have BX := Aside0.mk bX
  have DX := Aside0.mk (show Dc X g gv bs AP cP ps 0 from ⟨kg, HV.out.below bX, Kd.C_below HP.out bX⟩)
  clear hX e3 e2 e1 km ke kg bX l1 l2 n3
  go_wp2_with (first | (go_at_call 34; refine (HG.out X g DX.out).mono ?_; rintro q w1 ⟨AO, cO, AC, cC, rfl, k1, k2⟩; have P1 := Aside0.mk (k2.lower (below_size BX.out)); have P0 := Aside0.mk k2; have K1 := Aside0.mk ((k1.block _ (blk_lt KM.out)).trans KM.out); have E1 := Aside0.mk ((k1.block _ (blk_lt KE.out)).trans KE.out); have B1 := Aside0.mk (below_step BX.out k1); clear k1 k2) | (refine wpList_store_row rfl 29 (.tmp 6) (.tmp 16) rfl gm #[.slice AO o.length cO, .slice AC code.length cC] rfl rfl 29 zeroG K1.out (by kernel_rfl) rfl (by simp [Value.oneCell']) ?_; have K2 := Aside0.mk (setRow_heap w1 gm zeroG #[.slice AO o.length cO, .slice AC code.length cC] 29 (0, 0) K1.out); have E2 := Aside0.mk ((setRow_other w1 gm ge #[.slice AO o.length cO, .slice AC code.length cC] (fun z => LS.out.2.2.1 z.symm)).trans E1.out); have e20 := blk_cell E2.out 0; have ef0 := blk_frozen E2.out 0))
  have K3 := blk_far K2.out (p := ⟨ge, 0, none⟩) LS.out.2.2.1 (.int .i64 0)
  have E3 := blk_put (cs' := #[.int .i64 0]) E2.out 0 (.int .i64 0) rfl
  have P2 := (P0.out.setrow (cs := #[.slice AO o.length cO, .slice AC code.length cC]) LS.out.2.2.2.1)
  have P3 : GlyP AO cO AC cC o code w.heap.size ((w1.setRow gm #[.slice AO o.length cO, .slice AC code.length cC]).setCell ⟨ge, 0, none⟩ (.int .i64 0)) := ⟨Kd.R_lower (R_setg P2.1 LS.out.2.2.2.2) (below_size BX.out), Kd.R_lower (R_setg P2.2 LS.out.2.2.2.2) (below_size BX.out)⟩
  exact leave_good25 _ gm ge o code AO AC cO cC w _ rfl rfl K3 E3 (below_set (below_setRow1 B1.out LS.out.1 _) LS.out.2.1) P3
set_option maxRecDepth 100000 in
set_option maxHeartbeats 4000000 in
/-- Decode, where glyph throws. -/
theorem decode_bad (bs : List Int) (gv : Nat) (AP : Option Addr) (cP : Nat) (ps : List Int) (i : Int) (E : Int) (w : World) (hv : Vw w gv bs) (hp : Kd.C (Kd.int .i64) w AP ps.length ps)
    (hg : ∀ (W : World) (dk : Nat), Dc W dk gv bs AP cP ps 0 → Calls Try.prog 34 #[.pointer (some ⟨dk, 0, none⟩), .int .i64 i, .int .i64 1] W fun q w' => q = thr E ∧ W.grownBy w' (some dk)) :
    Calls Try.prog 25 #[.pointer (some ⟨gv, 0, none⟩), .slice AP ps.length cP, .int .i64 i] w (DecP none E w) := by
  have HV := Aside0.mk hv
  have HP := Aside0.mk hp
  have HG := Aside0.mk hg
  have hmf : ∀ (fn : Go.Fn) (first cap : Array Value) (w : World), (Instr.makeFunc fn first cap).run Try.prog w = .ok (.func fn first cap) w := fun _ _ _ _ => rfl
  clear hv hp hg
  go_enter_defers Try.func25, Try.ntmps25
  go_upto_region 3 with fail
  obtain ⟨X, gm, ge, g, hX, e3, e2, e1, km, ke, kg, bX⟩ := three_new w (Obj.cells zeroG 29) (Obj.cells #[.int .i64 0] 30) (Obj.cells #[.pointer (some ⟨gv, 0, none⟩), .slice AP ps.length cP, .int .i64 0] 74)
  rw [← hX, e3, e2, e1]
  have l1 : w.heap.size ≤ gm := by omega
  have l2 : w.heap.size ≤ ge := by omega
  have n3 : gm ≠ ge := by omega
  have LS := Aside0.mk (show w.heap.size ≤ gm ∧ w.heap.size ≤ ge ∧ gm ≠ ge ∧ gm < X.heap.size ∧ ge < X.heap.size from ⟨l1, l2, n3, blk_lt km, blk_lt ke⟩)
  have KM := Aside0.mk km
  have KE := Aside0.mk ke
  have BX := Aside0.mk bX
  have DX := Aside0.mk (show Dc X g gv bs AP cP ps 0 from ⟨kg, HV.out.below bX, Kd.C_below HP.out bX⟩)
  have LG := Aside0.mk (show w.heap.size ≤ g ∧ gm ≠ g ∧ ge ≠ g by omega)
  clear hX e3 e2 e1 km ke kg bX l1 l2 n3
  go_wp2_with (go_at_call 34; refine (HG.out X g DX.out).mono ?_; rintro q w1 ⟨rfl, k1⟩; have K1 := Aside0.mk (blk_grown KM.out k1 (fun z => by injection z with z; exact LG.out.2.1 z)); have E1 := Aside0.mk (blk_grown KE.out k1 (fun z => by injection z with z; exact LG.out.2.2 z)); have B1 := Aside0.mk (BX.out.grown k1 (below_size BX.out) (fun k hk => by injection hk with hk; rw [← hk]; exact LG.out.1)); clear k1)
  exact leave_bad25 _ gm ge E w w1 rfl rfl K1.out E1.out B1.out LS.out.2.1
end Go.Proofs.Ytchmhcfdamdjdaa.G
