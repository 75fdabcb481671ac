/- glyf: glyphs that hold one another are refused. Written by rk/gengf.py. -/
import Derived.Test.YtchmhcfdamdjdaaGfWG
set_option linter.unusedVariables false
set_option linter.unusedSimpArgs false
namespace Go.Proofs.Ytchmhcfdamdjdaa.G
open Go Go.RowKit Go.Proofs.YtchmhcfdamdjdaaW.PrintWords Go.Proofs.YtchmhcfdamdjdaaW.PrintLast Go.Proofs.YtchmhcfdamdjdaaW.PrintMore

section
variable {P : Program} {ops : Array Oper} {Q : Exit → Act → World → Prop}
/-- A call that throws, in a region that draws its order. -/
theorem throws_ {oi : Oper} {N : Option Tmp} {a : Act} {w : World} {K : Act → World → Prop} {f : FuncId} {fn : Func} {as_ : Array Operand} {ts : Array TypeId} (hf : P.funcs[f]? = some fn) (hname : (fn.name == "runtime.NumGoroutine") = false) (hb : fn.body.isSome = true) (args : Array Value)
    (hw : Region.wanted oi (yielded ops a.tmps) = true) (hN : oi.dst = N) (hop : oi.op = .call { callee := .value (.func f), args := as_, argTypes := ts }) (hargs : as_.map a.eval = args)
    (h : Calls P f args w fun e w' => ∃ c, e = .panicked c ∧ Q (.panic c) a w') : if Region.wanted oi (yielded ops a.tmps) = true then Oper.wp P oi a w K Q else K (a.put N undef) w := by
  have he := enters_ hf hname hb args w
  have hrun : (execOp a.eval oi).run P w = .ok (.enter f args) w := by
    unfold execOp
    simp [hop, resolve, Deferred.ofValue, invoke, Act.eval, hargs, he]
  rw [if_pos hw]
  subst hN
  unfold Oper.wp
  rw [hrun, Oper.upon_enter]
  refine h.mono fun e w'' hh => ?_
  obtain ⟨v, rfl, hk⟩ := hh
  exact hk
end
set_option maxRecDepth 100000 in
set_option maxHeartbeats 4000000 in
/-- Decode, where glyph throws. -/
theorem decode_thr (bs : List Int) (gv : Nat) (AP : Option Addr) (cP : Nat) (ps : List Int) (i : Int) (E : Int) (w : World) (hv : Vw w gv bs) (hp : Kd.C (Kd.int .i64) w AP ps.length ps)
    (hg : ∀ (W : World) (dk : Nat), w.heap.size ≤ dk → Below w.heap.size w W → W.heap[dk]? = some (.cells #[.pointer (some ⟨gv, 0, none⟩), .slice AP ps.length cP, .int .i64 0] 74 (0, 0)) → Calls Try.prog 34 #[.pointer (some ⟨dk, 0, none⟩), .int .i64 i, .int .i64 1] W fun q w' => q = thr E ∧ W.grownBy w' (some dk)) :
    Calls Try.prog 25 #[.pointer (some ⟨gv, 0, none⟩), .slice AP ps.length cP, .int .i64 i] w (DecP none E w) := by
  have HV := Aside0.mk hv
  have HP := Aside0.mk hp
  have HG := Aside0.mk hg
  have hmf : ∀ (fn : Go.Fn) (first cap : Array Value) (w : World), (Instr.makeFunc fn first cap).run Try.prog w = .ok (.func fn first cap) w := fun _ _ _ _ => rfl
  clear hv hp hg
  go_enter_defers Try.func25, Try.ntmps25
  go_upto_region 3 with fail
  obtain ⟨X, gm, ge, g, hX, e3, e2, e1, km, ke, kg, bX⟩ := three_new w (Obj.cells zeroG 29) (Obj.cells #[.int .i64 0] 30) (Obj.cells #[.pointer (some ⟨gv, 0, none⟩), .slice AP ps.length cP, .int .i64 0] 74)
  rw [← hX, e3, e2, e1]
  have l1 : w.heap.size ≤ gm := by omega
  have l2 : w.heap.size ≤ ge := by omega
  have n3 : gm ≠ ge := by omega
  have LS := Aside0.mk (show w.heap.size ≤ gm ∧ w.heap.size ≤ ge ∧ gm ≠ ge ∧ gm < X.heap.size ∧ ge < X.heap.size from ⟨l1, l2, n3, blk_lt km, blk_lt ke⟩)
  have KM := Aside0.mk km
  have KE := Aside0.mk ke
  have BX := Aside0.mk bX
  have DX := Aside0.mk (show Dc X g gv bs AP cP ps 0 from ⟨kg, HV.out.below bX, Kd.C_below HP.out bX⟩)
  have LG := Aside0.mk (show w.heap.size ≤ g ∧ gm ≠ g ∧ ge ≠ g by omega)
  clear hX e3 e2 e1 km ke kg bX l1 l2 n3
  go_wp2_with (go_at_call 34; refine (HG.out X g LG.out.1 BX.out DX.out.bk).mono ?_; rintro q w1 ⟨rfl, k1⟩; have K1 := Aside0.mk (blk_grown KM.out k1 (fun z => by injection z with z; exact LG.out.2.1 z)); have E1 := Aside0.mk (blk_grown KE.out k1 (fun z => by injection z with z; exact LG.out.2.2 z)); have B1 := Aside0.mk (BX.out.grown k1 (below_size BX.out) (fun k hk => by injection hk with hk; rw [← hk]; exact LG.out.1)); clear k1)
  exact leave_bad25 _ gm ge E w w1 rfl rfl K1.out E1.out B1.out LS.out.2.1
theorem res61 (tmps : Array Value) (r : Nat) (v0 v1 v2 v3 : Value) (w : World) (h4 : tmps[4]?.getD undef = .pointer (some ⟨r, 0, none⟩)) (hm : w.heap[r]? = some (.cells #[v0, v1, v2, v3] 103 (0, 0))) : (results Try.f61 tmps).run Try.prog w = .ok (.agg #[v0, v1, v2, v3]) w := by
  have m0 := blk_cell hm 0
  have m1 := blk_cell hm 1
  have m2 := blk_cell hm 2
  have m3 := blk_cell hm 3
  clear hm
  simp [results, Try.results61, go_sem, h4, m0, m1, m2, m3]
set_option maxRecDepth 100000 in
set_option maxHeartbeats 1000000 in
/-- A part without a matrix of its own. -/
theorem mat_calls (g : Nat) (f : Int) (w : World) (h8 : Go.bits .and .i64 f 8 = 0) (h64 : Go.bits .and .i64 f 64 = 0) (h128 : Go.bits .and .i64 f 128 = 0) :
    Calls Try.prog 61 #[.pointer (some ⟨g, 0, none⟩), .int .i64 f] w fun e w' => e = .returned (.agg #[.int .i64 16384, .int .i64 0, .int .i64 0, .int .i64 16384]) ∧ Below w.heap.size w w' := by
  have a1 : (Go.bits .and .i64 f 8 != 0) = false := by rw [h8]; rfl
  have a2 : (Go.bits .and .i64 f 64 != 0) = false := by rw [h64]; rfl
  have a3 : (Go.bits .and .i64 f 128 != 0) = false := by rw [h128]; rfl
  go_enter Try.func61, Try.ntmps61
  go_upto_region 1 with fail
  obtain ⟨w1, r, hX, er, kr, b1⟩ : ∃ X r, X = w.alloc (Obj.cells #[.int .i64 0, .int .i64 0, .int .i64 0, .int .i64 0] 103) ∧ w.heap.size = r ∧ X.heap[r]? = some (Obj.cells #[.int .i64 0, .int .i64 0, .int .i64 0, .int .i64 0] 103 (0, 0)) ∧ Below w.heap.size w X := ⟨_, _, rfl, rfl, blk_new _ _, below_alloc (Below.refl _ _) _⟩
  rw [← hX, er]
  have KR := Aside0.mk kr
  have B1 := Aside0.mk b1
  have RR := Aside0.mk (show w.heap.size ≤ r by omega)
  clear hX er kr b1
  go_wp2_with (refine wpList_store_row rfl 103 (.tmp 4) (.tmp 45) rfl r #[.int .i64 16384, .int .i64 0, .int .i64 0, .int .i64 16384] rfl rfl 103 #[.int .i64 0, .int .i64 0, .int .i64 0, .int .i64 0] KR.out (by kernel_rfl) rfl (by simp [Value.oneCell']) ?_)
  refine bodyPost_ret (res61 _ r _ _ _ _ _ rfl (setRow_heap _ _ _ _ _ _ KR.out)) rfl ?_
  exact ⟨rfl, below_setRow1 B1.out RR.out _⟩
/-- All blocks below B but dk's stay. -/
structure Gb (B dk : Nat) (w w' : World) : Prop where
  os : w'.os = w.os
  tape : w'.tape = w.tape
  output : w'.output = w.output
  size : w.heap.size ≤ w'.heap.size
  block : ∀ j, j < B → j ≠ dk → w'.heap[j]? = w.heap[j]?
theorem Gb.refl (B dk : Nat) (w : World) : Gb B dk w w := ⟨rfl, rfl, rfl, Nat.le_refl _, fun _ _ _ => rfl⟩
theorem Gb.grown {B dk : Nat} {w W W' : World} {row : Option Nat} (h : Gb B dk w W) (hg : W.grownBy W' row) (hB : B ≤ w.heap.size) (hr : ∀ j, row = some j → j = dk ∨ B ≤ j) : Gb B dk w W' :=
  ⟨hg.os.trans h.os, hg.tape.trans h.tape, hg.output.trans h.output, Nat.le_trans h.size hg.size, fun j hj hn => (hg.block j (by have := h.size; omega) (fun e => by rcases hr j e.symm with z | z; exact hn z; omega)).trans (h.block j hj hn)⟩
theorem Gb.below {B dk : Nat} {w W W' : World} (h : Gb B dk w W) (hb : Below W.heap.size W W') (hB : B ≤ w.heap.size) : Gb B dk w W' :=
  h.grown (grown_below (row := none) hb) hB (fun j e => by cases e)
theorem Gb.done {dk : Nat} {w W : World} (h : Gb w.heap.size dk w W) : w.grownBy W (some dk) := ⟨h.os, h.tape, h.output, h.size, fun j hj hn => h.block j hj (fun e => hn (by rw [e]))⟩
theorem Gb.old {dk : Nat} {wD w W : World} (h : Gb w.heap.size dk w W) (hb : Below wD.heap.size wD w) (hd : wD.heap.size ≤ dk) : Below wD.heap.size wD W :=
  ⟨h.os.trans hb.os, h.tape.trans hb.tape, h.output.trans hb.output, Nat.le_trans (below_size hb) h.size, fun j hj => (h.block j (Nat.lt_of_lt_of_le hj (below_size hb)) (by omega)).trans (hb.block j hj)⟩
/-- A table in which every glyph begins with a part that is a glyph of the table. -/
structure Tb (bs ps : List Int) (n : Nat) : Prop where
  len : ps.length = n + 1
  ok : okB bs
  lb : bs.length ≤ 1048576
  ln : n ≤ 20
  at_ : ∀ i : Nat, i < n → 0 ≤ rd ps i ∧ rd ps i + 18 ≤ rd ps (i + 1 : Nat) ∧ rd ps (i + 1 : Nat) ≤ bs.length ∧ ∃ L, (bs.take (rd ps (i + 1 : Nat)).toNat).drop (rd ps i).toNat = L ∧ u2 L 0 = 65535 ∧ (u2 L 10 = 35 ∨ u2 L 10 = 3) ∧ ∃ i' : Nat, i' < n ∧ u2 L 12 = i'
/-- The decoder's block. -/
abbrev dkc (gv : Nat) (AP : Option Addr) (n cP : Nat) (k : Int) : Array Value := #[.pointer (some ⟨gv, 0, none⟩), .slice AP n cP, .int .i64 k]
structure Pq (W0 : World) (dk g gq : Nat) (L : List Int) (cs : Array Value) (q : Int) (W : World) : Prop where
  rd : Rd W 86 g gq L q
  bk : W.heap[dk]? = some (.cells cs 74 (0, 0))
  gb : Gb W0.heap.size dk W0 W
theorem Pq.on {W0 : World} {dk g gq : Nat} {L : List Int} {cs : Array Value} {q q' : Int} {W W' : World} (h : Pq W0 dk g gq L cs q W) (k : On W 86 g gq L q' W') (hn : dk ≠ g) (hg : W0.heap.size ≤ g) : Pq W0 dk g gq L cs q' W' :=
  ⟨k.rd, blk_grown h.bk k.gr (fun z => by injection z with z; exact hn z), h.gb.grown k.gr (Nat.le_refl _) (fun j e => by injection e with e; omega)⟩
theorem Pq.below {W0 : World} {dk g gq : Nat} {L : List Int} {cs : Array Value} {q : Int} {W W' : World} (h : Pq W0 dk g gq L cs q W) (hb : Below W.heap.size W W') : Pq W0 dk g gq L cs q W' :=
  ⟨h.rd.below hb, (hb.block _ (blk_lt h.bk)).trans h.bk, h.gb.below hb (Nat.le_refl _)⟩
set_option maxRecDepth 100000 in
set_option maxHeartbeats 4000000 in
theorem part_thr (L : List Int) (oL : okB L) (l0 : 18 ≤ L.length) (l1 : L.length ≤ 1048576) (f : Int) (i' : Nat) (hf : u2 L 10 = f) (hf2 : f = 35 ∨ f = 3) (hi : u2 L 12 = i') (w : World) (dk g gq gv o : Nat) (AP : Option Addr) (n cP : Nat) (k d : Int) (k0 : 0 ≤ k) (k1 : k < 256) (d0 : 0 ≤ d) (d1 : d ≤ 8)
    (hk : w.heap[dk]? = some (.cells (dkc gv AP n cP k) 74 (0, 0))) (hR : Rd w 86 g gq L 10) (W0 : World) (h0 : Gb W0.heap.size dk W0 w) (hdk : dk < W0.heap.size) (hg : W0.heap.size ≤ g)
    (hG : ∀ W : World, Gb W0.heap.size dk W0 W → W.heap[dk]? = some (.cells (dkc gv AP n cP (k + 1)) 74 (0, 0)) → Calls Try.prog 34 #[.pointer (some ⟨dk, 0, none⟩), .int .i64 i', .int .i64 (d + 1)] W fun q w' => q = thr 73 ∧ W.grownBy w' (some dk)) :
    Calls Try.prog 44 #[.pointer (some ⟨dk, 0, none⟩), .pointer (some ⟨g, 0, none⟩), .pointer (some ⟨o, 0, none⟩), .int .i64 d] w fun q w' => q = thr 73 ∧ Gb W0.heap.size dk W0 w' := by
  have HK := Aside0.mk hk
  have HR := Aside0.mk hR
  have H0 := Aside0.mk h0
  have HG := Aside0.mk hG
  have ND := Aside0.mk (show dk ≠ g ∧ dk < W0.heap.size ∧ W0.heap.size ≤ g by omega)
  have U := Aside0.mk (fun (W : World) (q : Int) (hq : Rd W 86 g gq L q) (a : 0 ≤ q) (b : q + 1 < L.length) => gu16_calls L oL g gq q W hq a b (by omega))
  have I := Aside0.mk (fun (W : World) (q : Int) (hq : Rd W 86 g gq L q) (a : 0 ≤ q) (b : q + 1 < L.length) => gi16_calls L oL g gq q W hq a b (by omega))
  have U1 := Aside0.mk (fun (W : World) (hq : Rd W 86 g gq L 10) => (by have z := gu16_calls L oL g gq 10 W hq (by omega) (by omega) (by omega); rw [hf] at z; exact z : Calls Try.prog 56 #[.pointer (some ⟨g, 0, none⟩)] W fun q w' => q = .returned (.int .i64 f) ∧ On W 86 g gq L 12 w'))
  have U2 := Aside0.mk (fun (W : World) (hq : Rd W 86 g gq L 12) => (by have z := gu16_calls L oL g gq 12 W hq (by omega) (by omega) (by omega); rw [hi] at z; exact z : Calls Try.prog 56 #[.pointer (some ⟨g, 0, none⟩)] W fun q w' => q = .returned (.int .i64 (i' : Int)) ∧ On W 86 g gq L 14 w'))
  have I1 := Aside0.mk (fun (W : World) (hq : Rd W 86 g gq L 14) => (gi16_calls L oL g gq 14 W hq (by omega) (by omega) (by omega) : Calls Try.prog 41 #[.pointer (some ⟨g, 0, none⟩)] W fun q w' => q = .returned (.int .i64 (sgn16 (u2 L 14))) ∧ On W 86 g gq L 16 w'))
  have I2 := Aside0.mk (fun (W : World) (hq : Rd W 86 g gq L 16) => (gi16_calls L oL g gq 16 W hq (by omega) (by omega) (by omega) : Calls Try.prog 41 #[.pointer (some ⟨g, 0, none⟩)] W fun q w' => q = .returned (.int .i64 (sgn16 (u2 L 16))) ∧ On W 86 g gq L 18 w'))
  generalize sgn16 (u2 L 14) = dx at *
  generalize sgn16 (u2 L 16) = dy at *
  have MT := Aside0.mk (fun (W : World) => mat_calls g f W (by rcases hf2 with z | z <;> rw [z] <;> decide) (by rcases hf2 with z | z <;> rw [z] <;> decide) (by rcases hf2 with z | z <;> rw [z] <;> decide))
  have f1 : (Go.bits .and .i64 f 1 != 0) = true := by rcases hf2 with z | z <;> rw [z] <;> decide
  have f2 : (Go.bits .and .i64 f 2 != 0) = true := by rcases hf2 with z | z <;> rw [z] <;> decide
  have f3 := eq_false (show ¬ Go.bits .and .i64 f 1 = 0 by rcases hf2 with z | z <;> rw [z] <;> decide)
  have f4 := eq_false (show ¬ Go.bits .and .i64 f 2 = 0 by rcases hf2 with z | z <;> rw [z] <;> decide)
  have q0 : k + 1 ≤ 9223372036854775807 := by omega
  have q00 : -9223372036854775808 ≤ k + 1 := by omega
  have q1 := eq_true (show k + 1 ≤ 256 by omega)
  have q2 : d + 1 ≤ 9223372036854775807 := by omega
  have q3 : -9223372036854775808 ≤ d + 1 := by omega
  have c2 := blk_cell hk 2
  have cf := blk_frozen hk 2
  clear hk hR h0 hdk hg hG hf hf2 hi oL U I k0 k1 d0 d1 l0 l1
  go_enter Try.func44, Try.ntmps44
  go_upto_region 2 with fail
  obtain ⟨w1, hX, P1⟩ : ∃ W, W = w.setCell ⟨dk, 2, none⟩ (.int .i64 (k + 1)) ∧ Aside0 (Pq W0 dk g gq L (dkc gv AP n cP (k + 1)) 10 W) :=
    ⟨_, rfl, ⟨⟨blk_far HR.out.bk (p := ⟨dk, 2, none⟩) (fun z => ND.out.1 z.symm) _, HR.out.vw.set HK.out (by decide) ((blk_cell HK.out 2).trans rfl) (by simp)⟩, blk_put HK.out 2 _ rfl, H0.out.grown (grown_set _ _ _ _) (Nat.le_refl _) (fun j e => by injection e with e; exact Or.inl e.symm)⟩⟩
  rw [← hX]
  clear hX c2 cf HK HR H0
  have c2 := blk_cell P1.out.bk 2
  go_upto_region 12 with (first | (go_at_call 38; refine (gmust_ok _ _).mono ?_; rintro q w9 ⟨rfl, rfl⟩) | (go_at_call 56; first | (refine (U2.out w2 P2.out.rd).mono ?_; rintro q w3 ⟨rfl, k1⟩; have P3 := Aside0.mk (P2.out.on k1 ND.out.1 ND.out.2.2); clear k1) | (refine (U1.out _ P1.out.rd).mono ?_; rintro q w2 ⟨rfl, k1⟩; have P2 := Aside0.mk (P1.out.on k1 ND.out.1 ND.out.2.2); clear k1)) | (go_at_call 41; first | (refine (I2.out w5 P5.out.rd).mono ?_; rintro q w6 ⟨rfl, k1⟩; have P6 := Aside0.mk (P5.out.on k1 ND.out.1 ND.out.2.2); clear k1) | (refine (I1.out _ P3.out.rd).mono ?_; rintro q w5 ⟨rfl, k1⟩; have P5 := Aside0.mk (P3.out.on k1 ND.out.1 ND.out.2.2); clear k1)) | (go_at_call 61; refine (MT.out w6).mono ?_; rintro q w7 ⟨rfl, k1⟩; have P7 := Aside0.mk (P6.out.below k1); clear k1))
  obtain ⟨w8, m, hX, em, km, b8⟩ : ∃ X m, X = w7.alloc (Obj.cells #[.int .i64 16384, .int .i64 0, .int .i64 0, .int .i64 16384] 103) ∧ w7.heap.size = m ∧ X.heap[m]? = some (Obj.cells #[.int .i64 16384, .int .i64 0, .int .i64 0, .int .i64 16384] 103 (0, 0)) ∧ Below w7.heap.size w7 X := ⟨_, _, rfl, rfl, blk_new _ _, below_alloc (Below.refl _ _) _⟩
  rw [← hX, em]
  have P8 := Aside0.mk (P7.out.below b8)
  have m0 : w8.cell? ⟨m, 0, none⟩ = some (.int .i64 16384) := (blk_cell km 0).trans rfl
  have m1 : w8.cell? ⟨m, 1, none⟩ = some (.int .i64 0) := (blk_cell km 1).trans rfl
  have m2 : w8.cell? ⟨m, 2, none⟩ = some (.int .i64 0) := (blk_cell km 2).trans rfl
  have m3 : w8.cell? ⟨m, 3, none⟩ = some (.int .i64 16384) := (blk_cell km 3).trans rfl
  have HGw := Aside0.mk (fun (W : World) (h1 : Gb W0.heap.size dk W0 W) (h2 : W.heap[dk]? = some (.cells (dkc gv AP n cP (k + 1)) 74 (0, 0))) => (by have z := HG.out W h1 h2; rw [← wrap_id q3 q2] at z; exact z : Calls Try.prog 34 #[.pointer (some ⟨dk, 0, none⟩), .int .i64 i', .int .i64 (wrap64 (d + 1))] W fun q w' => q = thr 73 ∧ W.grownBy w' (some dk)))
  clear hX em km b8 P1 P2 P3 P5 P6 P7 c2
  refine start_ (n := 13) (S := fun w' => w'.cell? ⟨m, 0, none⟩ = some (.int .i64 16384) ∧ w'.cell? ⟨m, 1, none⟩ = some (.int .i64 0) ∧ w'.cell? ⟨m, 2, none⟩ = some (.int .i64 0) ∧ w'.cell? ⟨m, 3, none⟩ = some (.int .i64 16384)) (ds := []) #[false, false, false, false, false, false, false, false, false, false, false, false, false] (by kernel_rfl) rfl rfl ⟨m0, m1, m2, m3⟩ (fun hHeld => ?_)
  obtain ⟨w9, hW, P9⟩ : ∃ W, W = w8.drew ∧ Aside0 (Pq W0 dk g gq L (dkc gv AP n cP (k + 1)) 18 W) := ⟨_, rfl, ⟨P8.out.below (below_drew (Below.refl _ _))⟩⟩
  rw [← hW] at hHeld ⊢
  clear hW
  refine pure_ (i := 0) (N := some 59) (v := ?_) (a' := ?_) #[true, false, false, false, false, false, false, false, false, false, false, false, false] rfl rfl (by kernel_rfl) (fun _ _ _ h => h) (Or.inl ⟨by rfl, ?_⟩) ?_ ?_
  rotate_left
  · intro w'
    go_simp
    with_reducible rfl
  rotate_left
  · simp only [Act.put, List.setIfInBounds_toArray, List.set_cons_zero, List.set_cons_succ, i64_w, i32_w]
    rfl
  refine pure_ (i := 1) (N := some 60) (v := ?_) (a' := ?_) #[true, true, false, false, false, false, false, false, false, false, false, false, false] rfl rfl (by kernel_rfl) (fun _ _ _ h => h) (Or.inl ⟨by rfl, ?_⟩) ?_ ?_
  rotate_left
  · intro w'
    go_simp
    with_reducible rfl
  rotate_left
  · simp only [Act.put, List.setIfInBounds_toArray, List.set_cons_zero, List.set_cons_succ, i64_w, i32_w]
    rfl
  refine pure_ (i := 2) (N := some 61) (v := ?_) (a' := ?_) #[true, true, true, false, false, false, false, false, false, false, false, false, false] rfl rfl (by kernel_rfl) (fun _ _ _ h => h) (Or.inl ⟨by rfl, ?_⟩) ?_ ?_
  rotate_left
  · intro w'
    go_simp
    with_reducible rfl
  rotate_left
  · simp only [Act.put, List.setIfInBounds_toArray, List.set_cons_zero, List.set_cons_succ, i64_w, i32_w]
    rfl
  refine pure_ (i := 3) (N := some 62) (v := ?_) (a' := ?_) #[true, true, true, true, false, false, false, false, false, false, false, false, false] rfl rfl (by kernel_rfl) (fun _ _ _ h => h) (Or.inl ⟨by rfl, ?_⟩) ?_ ?_
  rotate_left
  · intro w'
    go_simp
    with_reducible rfl
  rotate_left
  · simp only [Act.put, List.setIfInBounds_toArray, List.set_cons_zero, List.set_cons_succ, i64_w, i32_w]
    rfl
  refine take_ (i := 6) (N := some 65) (v := ?_) (a' := ?_) #[true, true, true, true, false, false, true, false, false, false, false, false, false] rfl rfl (by kernel_rfl) (fun _ _ _ h => h) (Or.inl ⟨by rfl, ?_⟩) hHeld ?_ ?_
  rotate_left
  · rintro w' ⟨s0, s1, s2, s3⟩
    go_simp
    with_reducible rfl
  rotate_left
  · simp only [Act.put, List.setIfInBounds_toArray, List.set_cons_zero, List.set_cons_succ, i64_w, i32_w]
    rfl
  refine one_ (i := 4) (N := some 63) #[true, true, true, true, true, false, true, false, false, false, false, false, false] rfl rfl (by kernel_rfl) (by decide) (fun K hK => ?_)
  refine throws_ Try.func34 (by kernel_rfl) rfl #[.pointer (some ⟨dk, 0, none⟩), .int .i64 (i' : Int), .int .i64 (wrap64 (d + 1))] (by rfl) rfl rfl (by simp only [List.map_toArray, List.map_cons, List.map_nil]; rfl) ?_
  with_reducible refine (HGw.out w9 P9.out.gb P9.out.bk).mono ?_
  rintro e w10 ⟨rfl, k1⟩
  exact ⟨_, rfl, rfl, rfl, P9.out.gb.grown k1 (Nat.le_refl _) (fun j e => by injection e with e; exact Or.inl e.symm)⟩
set_option maxRecDepth 100000 in
set_option maxHeartbeats 4000000 in
/-- A glyph of such a table throws. -/
theorem glyph_thr {bs ps : List Int} {n : Nat} (T : Tb bs ps n) (wD : World) (gv : Nat) (AP : Option Addr) (cP : Nat) (hv : Vw wD gv bs) (hp : Kd.C (Kd.int .i64) wD AP ps.length ps) (dk : Nat) (hdk : wD.heap.size ≤ dk) :
    ∀ (m d : Nat), d + m = 9 → 1 ≤ d → ∀ (i : Nat), i < n → ∀ (k : Int), 0 ≤ k → k + m ≤ 256 → ∀ w : World, Below wD.heap.size wD w → w.heap[dk]? = some (.cells (dkc gv AP ps.length cP k) 74 (0, 0)) →
      Calls Try.prog 34 #[.pointer (some ⟨dk, 0, none⟩), .int .i64 i, .int .i64 d] w fun q w' => q = thr 73 ∧ w.grownBy w' (some dk) := by
  intro m
  induction m with
  | zero =>
    intro d hd hd1 i hi k hk hk2 w hb hbk
    have hl := T.len
    have HB := Aside0.mk hbk
    have i0 := eq_true (show (0 : Int) ≤ (i : Int) by omega)
    have i1 := eq_true (show (i : Int) < (ps.length : Int) - 1 by omega)
    have pw : -9223372036854775808 ≤ (ps.length : Int) - 1 := by omega
    have pw2 : (ps.length : Int) - 1 ≤ 9223372036854775807 := by have := T.ln; omega
    have dq := eq_false (show ¬ (d : Int) ≤ 8 by omega)
    have dq2 := eq_false (show ¬ d ≤ 8 by omega)
    clear hd hd1 hi hk hk2 hb hv hp hdk hl T
    go_enter Try.func34, Try.ntmps34
    go_upto_region 1 with fail
    obtain ⟨w1, r, hX, er, kr, b1⟩ : ∃ X r, X = w.alloc (Obj.cells zeroG 29) ∧ w.heap.size = r ∧ X.heap[r]? = some (Obj.cells zeroG 29 (0, 0)) ∧ Below w.heap.size w X := ⟨_, _, rfl, rfl, blk_new _ _, below_alloc (Below.refl _ _) _⟩
    rw [← hX, er]
    have B1 := Aside0.mk b1
    have d1 := blk_cell ((b1.block _ (blk_lt hbk)).trans hbk) 1
    clear hX er kr b1 hbk
    go_wp2_with (go_at_call 38; first | (refine (gmust_bad 73 _).mono ?_; rintro q w9 ⟨rfl, rfl⟩) | (refine (gmust_ok _ _).mono ?_; rintro q w9 ⟨rfl, rfl⟩))
    exact ⟨rfl, rfl, grown_below B1.out⟩
  | succ m ih =>
    intro d hd hd1 i hi k hk hk2 w hb hbk
    obtain ⟨h0, h1, h2, L, hL, u0, u10, i', hi', u12⟩ := T.at_ i hi
    have hl := T.len
    have hok := T.ok
    have hlb := T.lb
    have hln := T.ln
    obtain ⟨a, ha⟩ : ∃ a, rd ps i = a := ⟨_, rfl⟩
    obtain ⟨b, hb'⟩ : ∃ b, rd ps (i + 1 : Nat) = b := ⟨_, rfl⟩
    rw [ha] at h0 h1 hL
    rw [hb'] at h1 h2 hL
    have oL : okB L := by rw [← hL]; exact fun x hx => hok x (List.mem_of_mem_take (List.mem_of_mem_drop hx))
    have lL : (L.length : Int) = b - a := by rw [← hL, List.length_drop, List.length_take]; omega
    have HV := Aside0.mk hv
    have IH := Aside0.mk (fun (W : World) (h1 : Below wD.heap.size wD W) (h2 : W.heap[dk]? = some (.cells (dkc gv AP ps.length cP (k + 1)) 74 (0, 0))) => (by have z := ih (d + 1) (by omega) (by omega) i' hi' (k + 1) (by omega) (by push_cast at hk2; omega) W h1 h2; push_cast at z; exact z : Calls Try.prog 34 #[.pointer (some ⟨dk, 0, none⟩), .int .i64 i', .int .i64 ((d : Int) + 1)] W fun q w' => q = thr 73 ∧ W.grownBy w' (some dk)))
    have CU := Aside0.mk (fun (W : World) (hv : Vw W gv bs) => (by have z := cut_good bs gv a (b - a) W hv (by rw [part_in h0 (by omega) (by omega)]); rw [part_in h0 (by omega) (by omega), show a + (b - a) = b by omega, hL] at z; exact z : Calls Try.prog 39 #[.pointer (some ⟨gv, 0, none⟩), .int .i64 a, .int .i64 (b - a)] W fun q w' => ∃ g', W.heap.size ≤ g' ∧ q = .returned (.tuple #[.pointer (some ⟨g', 0, none⟩), .int .i64 0]) ∧ Vw w' g' L ∧ Below W.heap.size W w'))
    have I0 := Aside0.mk (fun (W : World) (g' gq : Nat) (k : Rd W 86 g' gq L 0) => (by have z := gi16_calls L oL g' gq 0 W k (by omega) (by omega) (by omega); rw [u0] at z; exact z : Calls Try.prog 41 #[.pointer (some ⟨g', 0, none⟩)] W fun q w' => q = .returned (.int .i64 (-1)) ∧ On W 86 g' gq L 2 w'))
    have I1 := Aside0.mk (fun (W : World) (g' gq : Nat) (k : Rd W 86 g' gq L 2) => (gbytes_calls L oL g' gq 2 8 W k (by omega) (by omega) (by omega) (by omega) : Calls Try.prog 42 #[.pointer (some ⟨g', 0, none⟩), .int .i64 8] W _))
    have PT := Aside0.mk (fun (W : World) (g gq o : Nat) (W0 : World) (q1 : W.heap[dk]? = some (.cells (dkc gv AP ps.length cP k) 74 (0, 0))) (q2 : Rd W 86 g gq L 10) (q3 : Gb W0.heap.size dk W0 W) (q4 : dk < W0.heap.size) (q5 : W0.heap.size ≤ g) (q6 : Below wD.heap.size wD W0) =>
      part_thr L oL (by omega) (by omega) (u2 L 10) i' rfl u10 u12 W dk g gq gv o AP ps.length cP k d hk (by push_cast at hk2; omega) (by omega) (by omega) q1 q2 W0 q3 q4 q5 (fun W2 h3 h4 => IH.out W2 (h3.old q6 hdk) h4))
    have DW := Aside0.mk (And.intro hb hdk)
    obtain ⟨adp, ep, xa⟩ := Kd.at_int (Kd.C_below hp hb) (i : Int) (by omega) (by omega)
    obtain ⟨adq, eq_, xb⟩ := Kd.at_int (Kd.C_below hp hb) ((i + 1 : Nat) : Int) (by omega) (by omega)
    rw [ep] at eq_
    injection eq_ with eq_
    subst eq_
    rw [Int.toNat_natCast, ha] at xa
    rw [Int.toNat_natCast, hb'] at xb
    subst ep
    have HK := Aside0.mk hbk
    have DL := Aside0.mk (blk_lt hbk)
    have XA := Aside0.mk xa
    have XB := Aside0.mk xb
    have i0 := eq_true (show (0 : Int) ≤ (i : Int) by omega)
    have i1 := eq_true (show (i : Int) < (ps.length : Int) - 1 by omega)
    have i2 := eq_true (show (i : Int) < (ps.length : Int) by omega)
    have i3 := eq_true (show i < ps.length by omega)
    have i4 := eq_true (show (i : Int) + 1 < (ps.length : Int) by omega)
    have i5 := eq_true (show i + 1 < ps.length by omega)
    have iw : (i : Int) + 1 ≤ 9223372036854775807 := by omega
    have pw : -9223372036854775808 ≤ (ps.length : Int) - 1 := by omega
    have pw2 : (ps.length : Int) - 1 ≤ 9223372036854775807 := by omega
    have dq := eq_true (show (d : Int) ≤ 8 by omega)
    have dq2 := eq_true (show d ≤ 8 by omega)
    have a0 := eq_true h0
    have a1 := eq_true (show a ≤ b by omega)
    have bw : b - a ≤ 9223372036854775807 := by omega
    have bw2 : -9223372036854775808 ≤ b - a := by omega
    have l0 : ((L.length : Int) == 0) = false := beq_eq_false_iff_ne.2 (by omega)
    have l1 := eq_false (show ¬ (L.length : Int) = 0 by omega)
    have l2 := eq_false (show ¬ L.length = 0 by omega)
    have l3 := eq_false (show ¬ L = [] by intro z; rw [z] at lL; simp at lL; omega)
    have i6 := eq_true (show (0 : Int) ≤ (i : Int) + 1 by omega)
    have i7 : ((i : Int) + 1).toNat = i + 1 := by omega
    have WX := Aside0.mk (show wrap64 ((i : Int) + 1) = (i : Int) + 1 from wrap_id (by omega) (by omega))
    clear u0 u10 u12 hok oL ha hb' hL hi hi' hk hk2 xa xb h0 h1 h2 hlb hln lL hl ih hb hbk hv hp hdk T hd hd1
    go_enter Try.func34, Try.ntmps34
    go_upto_region 1 with fail
    obtain ⟨w1, r, hX, er, kr, b1⟩ : ∃ X r, X = w.alloc (Obj.cells zeroG 29) ∧ w.heap.size = r ∧ X.heap[r]? = some (Obj.cells zeroG 29 (0, 0)) ∧ Below w.heap.size w X := ⟨_, _, rfl, rfl, blk_new _ _, below_alloc (Below.refl _ _) _⟩
    rw [← hX, er]
    have H1 := Aside0.mk ((Gb.refl w.heap.size dk w).below b1 (Nat.le_refl _))
    have K1 := Aside0.mk ((b1.block _ (blk_lt HK.out)).trans HK.out)
    have xa := pw_cell_below b1 XA.out
    have xb := pw_cell_below b1 XB.out
    clear hX er kr b1 XA XB HK
    have d0 := blk_cell K1.out 0
    have d1 : w1.cell? ⟨dk, 1, none⟩ = some (.slice (some adp) ps.length cP) := (blk_cell K1.out 1).trans rfl
    go_upto_region 3 with (go_at_call 38; refine (gmust_ok _ _).mono ?_; rintro q w2 ⟨rfl, rfl⟩)
    have xb : w2.cell? ⟨adp.block, adp.off + (i + 1), none⟩ = some (.int .i64 b) := by
      have z := xb
      unfold Addr.add at z
      rwa [if_neg (by omega)] at z
    have wx := WX.out
    refine start_ (n := 17) (S := fun w' => w'.cell? ⟨dk, 1, none⟩ = some (.slice (some adp) ps.length cP) ∧ w'.cell? (adp.add i) = some (.int .i64 a) ∧ w'.cell? ⟨adp.block, adp.off + (i + 1), none⟩ = some (.int .i64 b)) (ds := []) #[false, false, false, false, false, false, false, false, false, false, false, false, false, false, false, false, false] (by kernel_rfl) rfl rfl ⟨d1, xa, xb⟩ (fun hHeld => ?_)
    refine pure_ (i := 0) (N := some 31) (v := ?_) (a' := ?_) #[true, false, false, false, false, false, false, false, false, false, false, false, false, false, false, false, false] rfl rfl (by kernel_rfl) (fun _ _ _ h => h) (Or.inl ⟨by rfl, ?_⟩) ?_ ?_
    rotate_left
    · intro w'
      go_simp
      with_reducible rfl
    rotate_left
    · simp only [Act.put, List.setIfInBounds_toArray, List.set_cons_zero, List.set_cons_succ, i64_w, i32_w]
      rfl
    refine pure_ (i := 1) (N := some 32) (v := ?_) (a' := ?_) #[true, true, false, false, false, false, false, false, false, false, false, false, false, false, false, false, false] rfl rfl (by kernel_rfl) (fun _ _ _ h => h) (Or.inl ⟨by rfl, ?_⟩) ?_ ?_
    rotate_left
    · intro w'
      go_simp
      with_reducible rfl
    rotate_left
    · simp only [Act.put, List.setIfInBounds_toArray, List.set_cons_zero, List.set_cons_succ, i64_w, i32_w]
      rfl
    refine pure_ (i := 2) (N := some 33) (v := ?_) (a' := ?_) #[true, true, true, false, false, false, false, false, false, false, false, false, false, false, false, false, false] rfl rfl (by kernel_rfl) (fun _ _ _ h => h) (Or.inl ⟨by rfl, ?_⟩) ?_ ?_
    rotate_left
    · intro w'
      go_simp
      with_reducible rfl
    rotate_left
    · simp only [Act.put, List.setIfInBounds_toArray, List.set_cons_zero, List.set_cons_succ, i64_w, i32_w]
      rfl
    refine pure_ (i := 4) (N := some 35) (v := ?_) (a' := ?_) #[true, true, true, false, true, false, false, false, false, false, false, false, false, false, false, false, false] rfl rfl (by kernel_rfl) (fun _ _ _ h => h) (Or.inl ⟨by rfl, ?_⟩) ?_ ?_
    rotate_left
    · intro w'
      go_simp
      with_reducible rfl
    rotate_left
    · simp only [Act.put, List.setIfInBounds_toArray, List.set_cons_zero, List.set_cons_succ, i64_w, i32_w]
      rfl
    refine pure_ (i := 7) (N := some 38) (v := ?_) (a' := ?_) #[true, true, true, false, true, false, false, true, false, false, false, false, false, false, false, false, false] rfl rfl (by kernel_rfl) (fun _ _ _ h => h) (Or.inl ⟨by rfl, ?_⟩) ?_ ?_
    rotate_left
    · intro w'
      go_simp
      with_reducible rfl
    rotate_left
    · simp only [Act.put, List.setIfInBounds_toArray, List.set_cons_zero, List.set_cons_succ, i64_w, i32_w]
      rfl
    refine pure_ (i := 8) (N := some 39) (v := ?_) (a' := ?_) #[true, true, true, false, true, false, false, true, true, false, false, false, false, false, false, false, false] rfl rfl (by kernel_rfl) (fun _ _ _ h => h) (Or.inl ⟨by rfl, ?_⟩) ?_ ?_
    rotate_left
    · intro w'
      go_simp
      with_reducible rfl
    rotate_left
    · simp only [Act.put, List.setIfInBounds_toArray, List.set_cons_zero, List.set_cons_succ, i64_w, i32_w]
      rfl
    refine pure_ (i := 9) (N := some 40) (v := ?_) (a' := ?_) #[true, true, true, false, true, false, false, true, true, true, false, false, false, false, false, false, false] rfl rfl (by kernel_rfl) (fun _ _ _ h => h) (Or.inl ⟨by rfl, ?_⟩) ?_ ?_
    rotate_left
    · intro w'
      go_simp
      with_reducible rfl
    rotate_left
    · simp only [Act.put, List.setIfInBounds_toArray, List.set_cons_zero, List.set_cons_succ, i64_w, i32_w]
      rfl
    refine pure_ (i := 11) (N := some 42) (v := ?_) (a' := ?_) #[true, true, true, false, true, false, false, true, true, true, false, true, false, false, false, false, false] rfl rfl (by kernel_rfl) (fun _ _ _ h => h) (Or.inl ⟨by rfl, ?_⟩) ?_ ?_
    rotate_left
    · intro w'
      go_simp
      with_reducible rfl
    rotate_left
    · simp only [Act.put, List.setIfInBounds_toArray, List.set_cons_zero, List.set_cons_succ, i64_w, i32_w]
      rfl
    refine pure_ (i := 12) (N := some 43) (v := ?_) (a' := ?_) #[true, true, true, false, true, false, false, true, true, true, false, true, true, false, false, false, false] rfl rfl (by kernel_rfl) (fun _ _ _ h => h) (Or.inl ⟨by rfl, ?_⟩) ?_ ?_
    rotate_left
    · intro w'
      go_simp
      with_reducible rfl
    rotate_left
    · simp only [Act.put, List.setIfInBounds_toArray, List.set_cons_zero, List.set_cons_succ, i64_w, i32_w]
      rfl
    refine take_ (i := 3) (N := some 34) (v := ?_) (a' := ?_) #[true, true, true, true, true, false, false, true, true, true, false, true, true, false, false, false, false] rfl rfl (by kernel_rfl) (fun _ _ _ h => h) (Or.inl ⟨by rfl, ?_⟩) hHeld ?_ ?_
    rotate_left
    · rintro w' ⟨s0, s1, s2⟩
      go_simp
      with_reducible rfl
    rotate_left
    · simp only [Act.put, List.setIfInBounds_toArray, List.set_cons_zero, List.set_cons_succ, i64_w, i32_w]
      rfl
    refine pure_ (i := 5) (N := some 36) (v := ?_) (a' := ?_) #[true, true, true, true, true, true, false, true, true, true, false, true, true, false, false, false, false] rfl rfl (by kernel_rfl) (fun _ _ _ h => h) (Or.inl ⟨by rfl, ?_⟩) ?_ ?_
    rotate_left
    · intro w'
      go_simp
      with_reducible rfl
    rotate_left
    · simp only [Act.put, List.setIfInBounds_toArray, List.set_cons_zero, List.set_cons_succ, i64_w, i32_w]
      rfl
    refine take_ (i := 6) (N := some 37) (v := ?_) (a' := ?_) #[true, true, true, true, true, true, true, true, true, true, false, true, true, false, false, false, false] rfl rfl (by kernel_rfl) (fun _ _ _ h => h) (Or.inl ⟨by rfl, ?_⟩) hHeld ?_ ?_
    rotate_left
    · rintro w' ⟨s0, s1, s2⟩
      go_simp
      with_reducible rfl
    rotate_left
    · simp only [Act.put, List.setIfInBounds_toArray, List.set_cons_zero, List.set_cons_succ, i64_w, i32_w]
      rfl
    refine pure_ (i := 15) (N := some 7) (v := ?_) (a' := ?_) #[true, true, true, true, true, true, true, true, true, true, false, true, true, false, false, true, false] rfl rfl (by kernel_rfl) (fun _ _ _ h => h) (Or.inl ⟨by rfl, ?_⟩) ?_ ?_
    rotate_left
    · intro w'
      go_simp
      with_reducible rfl
    rotate_left
    · simp only [Act.put, List.setIfInBounds_toArray, List.set_cons_zero, List.set_cons_succ, i64_w, i32_w]
      rfl
    refine take_ (i := 10) (N := some 41) (v := ?_) (a' := ?_) #[true, true, true, true, true, true, true, true, true, true, true, true, true, false, false, true, false] rfl rfl (by kernel_rfl) (fun _ _ _ h => h) (Or.inl ⟨by rfl, ?_⟩) hHeld ?_ ?_
    rotate_left
    · rintro w' ⟨s0, s1, s2⟩
      go_simp
      with_reducible rfl
    rotate_left
    · simp only [Act.put, List.setIfInBounds_toArray, List.set_cons_zero, List.set_cons_succ, i64_w, i32_w]
      rfl
    refine pure_ (i := 13) (N := some 44) (v := ?_) (a' := ?_) #[true, true, true, true, true, true, true, true, true, true, true, true, true, true, false, true, false] rfl rfl (by kernel_rfl) (fun _ _ _ h => h) (Or.inl ⟨by rfl, ?_⟩) ?_ ?_
    rotate_left
    · intro w'
      go_simp
      with_reducible rfl
    rotate_left
    · simp only [Act.put, List.setIfInBounds_toArray, List.set_cons_zero, List.set_cons_succ, i64_w, i32_w]
      rfl
    refine take_ (i := 14) (N := some 45) (v := ?_) (a' := ?_) #[true, true, true, true, true, true, true, true, true, true, true, true, true, true, true, true, false] rfl rfl (by kernel_rfl) (fun _ _ _ h => h) (Or.inl ⟨by rfl, ?_⟩) hHeld ?_ ?_
    rotate_left
    · rintro w' ⟨s0, s1, s2⟩
      go_simp
      with_reducible rfl
    rotate_left
    · simp only [Act.put, List.setIfInBounds_toArray, List.set_cons_zero, List.set_cons_succ, i64_w, i32_w]
      rfl
    refine pure_ (i := 16) (N := some 8) (v := ?_) (a' := ?_) #[true, true, true, true, true, true, true, true, true, true, true, true, true, true, true, true, true] rfl rfl (by kernel_rfl) (fun _ _ _ h => h) (Or.inl ⟨by rfl, ?_⟩) ?_ ?_
    rotate_left
    · intro w'
      go_simp
      with_reducible rfl
    rotate_left
    · simp only [Act.put, List.setIfInBounds_toArray, List.set_cons_zero, List.set_cons_succ, i64_w, i32_w]
      rfl
    refine done_ (by kernel_rfl) ?_

    obtain ⟨w3, hX, H3, K3⟩ : ∃ W, W = w2.drew ∧ Aside0 (Gb w.heap.size dk w W) ∧ Aside0 (W.heap[dk]? = some (.cells (dkc gv (some adp) ps.length cP k) 74 (0, 0))) := ⟨_, rfl, ⟨H1.out.below (below_drew (Below.refl _ _)) (Nat.le_refl _)⟩, ⟨blk_drew K1.out⟩⟩
    rw [← hX]
    clear hX wx WX i6 i7 d0 d1 xa xb H1 K1
    have d0 : w3.cell? ⟨dk, 0, none⟩ = some (.pointer (some ⟨gv, 0, none⟩)) := (blk_cell K3.out 0).trans rfl
    go_upto_region 9 with (first | (go_at_call 38; refine (gmust_ok _ _).mono ?_; rintro q w9 ⟨rfl, rfl⟩) | (go_at_call 39; refine (CU.out _ (HV.out.below (H3.out.old DW.out.1 DW.out.2))).mono ?_; rintro q w4 ⟨gq, k1, rfl, k2, k3⟩; have V4 := Aside0.mk k2; have H4 := Aside0.mk (H3.out.below k3 (Nat.le_refl _)); have K4 := Aside0.mk ((k3.block _ (blk_lt K3.out)).trans K3.out); clear k1 k2 k3) | (go_at_call 40; refine (len_calls L gq _ V4.out).mono ?_; rintro q w5 ⟨rfl, k3⟩; have V5 := Aside0.mk (V4.out.below k3); have H5 := Aside0.mk (H4.out.below k3 (Nat.le_refl _)); have K5 := Aside0.mk ((k3.block _ (blk_lt K4.out)).trans K4.out); clear k3))
    clear d0 H3 K3 V4 H4 K4
    go_upto_region 10 with fail
    obtain ⟨w6, g, hX, eg, kg, b6⟩ : ∃ X g, X = w5.alloc (Obj.cells #[.pointer (some ⟨gq, 0, none⟩), .int .i64 0] 86) ∧ w5.heap.size = g ∧ X.heap[g]? = some (Obj.cells #[.pointer (some ⟨gq, 0, none⟩), .int .i64 0] 86 (0, 0)) ∧ Below w5.heap.size w5 X := ⟨_, _, rfl, rfl, blk_new _ _, below_alloc (Below.refl _ _) _⟩
    rw [← hX, eg]
    have G6 := Aside0.mk (show w.heap.size ≤ g ∧ dk ≠ g by have := H5.out.size; have := DL.out; omega)
    have P6 := Aside0.mk (show Pq w dk g gq L (dkc gv (some adp) ps.length cP k) 0 w6 from ⟨⟨kg, V5.out.below b6⟩, (b6.block _ (blk_lt K5.out)).trans K5.out, H5.out.below b6 (Nat.le_refl _)⟩)
    clear hX eg kg b6 V5 H5 K5
    go_upto_region 14 with (first | (go_at_call 41; refine (I0.out w6 g gq P6.out.rd).mono ?_; rintro q w7 ⟨rfl, k1⟩; have P7 := Aside0.mk (P6.out.on k1 G6.out.2 G6.out.1); clear k1) | (go_at_call 42; refine (I1.out w7 g gq P7.out.rd).mono ?_; rintro q w8 ⟨v8, rfl, _, k1⟩; have P8 := Aside0.mk (P7.out.on k1 G6.out.2 G6.out.1); clear k1))
    go_upto_region 15 with fail
    obtain ⟨w10, o, hX, eo, b10⟩ : ∃ X o, X = w8.alloc (Obj.cells zeroG 29) ∧ w8.heap.size = o ∧ Below w8.heap.size w8 X := ⟨_, _, rfl, rfl, below_alloc (Below.refl _ _) _⟩
    rw [← hX, eo]
    have P10 := Aside0.mk (show Pq w dk g gq L (dkc gv (some adp) ps.length cP k) 10 w10 from P8.out.below b10)
    clear hX eo b10 P6 P7 P8
    have b32 : Go.bits .and .i64 32 32 = 32 := by decide
    trace_state
    go_wp2
    refine wp_loop_rounds 1 ?_
    rw [rounds_succ]
    go_wp2_with (go_at_call 44; refine (PT.out w10 g gq o w P10.out.bk P10.out.rd P10.out.gb DL.out G6.out.1 DW.out.1).mono ?_; rintro q w11 ⟨rfl, k1⟩; have H11 := Aside0.mk k1; clear k1)
    exact ⟨rfl, rfl, H11.out.done⟩
end Go.Proofs.Ytchmhcfdamdjdaa.G
