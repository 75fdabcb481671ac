import Derived.Test.YtmlkpadlafjfeaaProg
import Derived.Below
import Derived.Deep.Draws
import Derived.Deep.AppendLies
import Derived.Maps.AppendAt
import Derived.OwnWalk
import Derived.Laws.BytesArg
import Derived.Laws.MakeOwn
import Derived.Laws.OwnMore
import Derived.Deep.OwnRows
import Derived.Tactics
import Derived.Lib.ConvBytes
import Derived.Laws.Slices
import Derived.WalkKit
import Derived.KernelRfl
import Derived.RowKit3
import Derived.Deep.LoopGhost
import Derived.Deep.QuietTactic
import Derived.BigQuiet
import Derived.WideLaws
import Derived.Deep.DeepCutAuto
import Derived.Deep.CutBlock
import Derived.Deep.RegionHeld3
import Derived.Laws.Rows
import Derived.Lib.AppendStr
import Derived.ArgAppend
import Derived.Laws.IdiomCopy
import Derived.OrdersHeld
import Derived.Laws.BitsLemmas
import Derived.RowKit
import Derived.WalkLawsBesides
import Derived.WalkSpells
import Derived.Deep.RegionWith
import Derived.Outline
import Derived.RegionTactic
import Derived.ChangeAlike
import Derived.BigRegion
import Derived.Test.YtmlkpadlafjfeaaLongP
import Derived.Test.YtmlkpadlafjfeaaWWords
import Derived.Test.YtmlkpadlafjfeaaWLast
import Derived.Test.YtmlkpadlafjfeaaWTab
import Derived.Test.YtmlkpadlafjfeaaWApart
import Derived.Test.YtmlkpadlafjfeaaWFoot
import Derived.Test.YtmlkpadlafjfeaaWKept
import Derived.Test.YtmlkpadlafjfeaaWShare
import Derived.Test.YtmlkpadlafjfeaaWN
import Derived.Test.YtmlkpadlafjfeaaWEqStruct
import Derived.Test.YtmlkpadlafjfeaaWRepsOne
import Derived.Test.YtmlkpadlafjfeaaWInv
import Derived.Test.YtmlkpadlafjfeaaWGuard
import Derived.Test.YtmlkpadlafjfeaaWNEv
import Derived.Test.YtmlkpadlafjfeaaWMore
namespace Go.Proofs.Ytmlkpadlafjfeaa.P
open Go.RowKit Go.Proofs.YtmlkpadlafjfeaaW.PrintWords Go.Proofs.YtmlkpadlafjfeaaW.PrintLast Go.Proofs.YtmlkpadlafjfeaaW.PrintMore
attribute [local go_sem] zH zK zU zT zB zC zJ zI
set_option linter.unusedVariables false
set_option linter.unusedSimpArgs false
def errW : Option Int → Value
 | none => .nilIface
 | some c => .iface 0 (.int .i64 c)
theorem qR : errW none = .nilIface := rfl
theorem qU (c : Int) : errW (some c) = .iface 0 (.int .i64 c) := rfl
theorem info3 : (Try.prog.info? 3).map (fun i => (i.zero, i.size, i.bytes)) = some (some (.int .i64 0), 1, 8) := by kernel_rfl
theorem info33 : (Try.prog.info? 33).map (fun i => (i.zero, i.size, i.bytes)) = some (some (.slice none 0 0), 1, 24) := by kernel_rfl
theorem info35 : (Try.prog.info? 35).map (fun i => (i.zero, i.size, i.bytes)) = some (some (.agg #[(.int .i64 0), (.int .i64 0)]), 2, 16) := by kernel_rfl
theorem info37 : (Try.prog.info? 37).map (fun i => (i.zero, i.size, i.bytes)) = some (some (.slice none 0 0), 1, 24) := by kernel_rfl
theorem QW : (Try.prog.info? 40).map (fun i => (i.zero, i.size, i.bytes)) = some (some (.agg #[(.int .i64 0), (.int .i64 0), (.int .i64 0)]), 3, 24) := by kernel_rfl
theorem info64 : (Try.prog.info? 64).map (fun i => (i.zero, i.size, i.bytes)) = some (some (.agg #[(.slice none 0 0), (.int .i64 0), (.int .i64 0)]), 3, 40) := by kernel_rfl
structure S40 where
 f0 : Int
 f1 : Int
 f2 : Int
def z40 : S40 := ⟨(0 : Int), (0 : Int), (0 : Int)⟩
def k40 : Kd S40 := Kd.iso (Kd.pair (Kd.int .i64) (Kd.pair (Kd.int .i64) (Kd.int .i64))) (fun x : S40 => (x.f0, x.f1, x.f2))
theorem k40_open {w : World} {x : S40} {cs : List Value} (h : k40.K w x cs) : cs = [.int .i64 x.f0, .int .i64 x.f1, .int .i64 x.f2] := by
 obtain ⟨_, _, rfl, rfl, ⟨_, _, rfl, rfl, rfl⟩⟩ := h
 exact rfl
theorem k40_openM {w : World} {base : Nat} {ok : Nat → Prop} {x : S40} {cs : List Value} (h : k40.M w base ok x cs) : cs = [.int .i64 x.f0, .int .i64 x.f1, .int .i64 x.f2] := by
 obtain ⟨_, _, rfl, rfl, ⟨_, _, rfl, rfl, rfl⟩⟩ := h
 exact rfl
theorem k40_mk (w : World) (x : S40)  : k40.K w x [.int .i64 x.f0, .int .i64 x.f1, .int .i64 x.f2] := ⟨[.int .i64 x.f0], [.int .i64 x.f1, .int .i64 x.f2], rfl, rfl, ⟨[.int .i64 x.f1], [.int .i64 x.f2], rfl, rfl, rfl⟩⟩
theorem Qf (w : World) (base : Nat) (ok : Nat → Prop) (x : S40)  : k40.M w base ok x [.int .i64 x.f0, .int .i64 x.f1, .int .i64 x.f2] := ⟨[.int .i64 x.f0], [.int .i64 x.f1, .int .i64 x.f2], rfl, rfl, ⟨[.int .i64 x.f1], [.int .i64 x.f2], rfl, rfl, rfl⟩⟩
theorem k40_mkF (W : World) (ok : Nat → Prop) (x : S40) : Kd.FK k40 W ok x [.int .i64 x.f0, .int .i64 x.f1, .int .i64 x.f2] := fun W2 _ => k40_mk W2 x
def ql (xs : List S40) (i : Int) : S40 := xs.getD i.toNat z40
theorem jh {w : World} {A : Option Addr} {n : Nat} {xs : List S40} (h : Kd.C k40 w A n xs) (i : Int) (h0 : 0 ≤ i) (h1 : i < n) : ∃ ad , A = some ad ∧ w.cell? (ad.add (i.toNat * 3)) = some (.int .i64 (ql xs i).f0) ∧ w.cell? ⟨(ad.add (i.toNat * 3)).block, (ad.add (i.toNat * 3)).off + 1, none⟩ = some (.int .i64 (ql xs i).f1) ∧ w.cell? ⟨(ad.add (i.toNat * 3)).block, (ad.add (i.toNat * 3)).off + 2, none⟩ = some (.int .i64 (ql xs i).f2) := by
 obtain ⟨ad, c, e, _, hK, hc0⟩ := Kd.C_get h z40 i h0 h1
 have hc : ∀ j u, c[j]? = some u → w.cell? (ad.add (i.toNat * 3 + j)) = some u := hc0
 obtain rfl := k40_open hK
 exact ⟨ad, e, hc 0 _ rfl, by rw [← Z0 _ _ 1 (by omega)]; exact hc 1 _ rfl, by rw [← Z0 _ _ 2 (by omega)]; exact hc 2 _ rfl⟩
def qp (xs : List (List S40)) (i : Int) : (List S40) := xs.getD i.toNat ([] : List S40)
theorem Qm {w : World} {A : Option Addr} {n : Nat} {xs : List (List S40)} (h : Kd.C (Kd.slice 40 k40) w A n xs) (i : Int) (h0 : 0 ≤ i) (h1 : i < n) : ∃ ad A0 c0, A = some ad ∧ w.cell? (ad.add i.toNat) = some (.slice A0 (qp xs i).length c0) ∧ (qp xs i).length ≤ c0 ∧ k40.C w A0 (qp xs i).length (qp xs i) := by
 obtain ⟨ad, c, e, _, hK, hc0⟩ := Kd.C_get h ([] : List S40) i h0 h1
 have hc : ∀ j u, c[j]? = some u → w.cell? (ad.add (i.toNat * 1 + j)) = some u := hc0
 obtain ⟨A0, c0, rfl, l0, g0⟩ := hK
 exact ⟨ad, A0, c0, e, by have hq := hc 0 _ rfl; rwa [Nat.mul_one, Nat.add_zero] at hq, l0, g0⟩
structure S35 where
 f0 : Int
 f1 : Int
def z35 : S35 := ⟨(0 : Int), (0 : Int)⟩
def k35 : Kd S35 := Kd.iso (Kd.pair (Kd.int .i64) (Kd.int .i64)) (fun x : S35 => (x.f0, x.f1))
theorem k35_open {w : World} {x : S35} {cs : List Value} (h : k35.K w x cs) : cs = [.int .i64 x.f0, .int .i64 x.f1] := by
 obtain ⟨_, _, rfl, rfl, rfl⟩ := h
 exact rfl
theorem k35_openM {w : World} {base : Nat} {ok : Nat → Prop} {x : S35} {cs : List Value} (h : k35.M w base ok x cs) : cs = [.int .i64 x.f0, .int .i64 x.f1] := by
 obtain ⟨_, _, rfl, rfl, rfl⟩ := h
 exact rfl
theorem k35_mk (w : World) (x : S35)  : k35.K w x [.int .i64 x.f0, .int .i64 x.f1] := ⟨[.int .i64 x.f0], [.int .i64 x.f1], rfl, rfl, rfl⟩
theorem JJ (w : World) (base : Nat) (ok : Nat → Prop) (x : S35)  : k35.M w base ok x [.int .i64 x.f0, .int .i64 x.f1] := ⟨[.int .i64 x.f0], [.int .i64 x.f1], rfl, rfl, rfl⟩
theorem k35_mkF (W : World) (ok : Nat → Prop) (x : S35) : Kd.FK k35 W ok x [.int .i64 x.f0, .int .i64 x.f1] := fun W2 _ => k35_mk W2 x
def jX (xs : List S35) (i : Int) : S35 := xs.getD i.toNat z35
theorem at_T35 {w : World} {A : Option Addr} {n : Nat} {xs : List S35} (h : Kd.C k35 w A n xs) (i : Int) (h0 : 0 ≤ i) (h1 : i < n) : ∃ ad , A = some ad ∧ w.cell? (ad.add (i.toNat * 2)) = some (.int .i64 (jX xs i).f0) ∧ w.cell? ⟨(ad.add (i.toNat * 2)).block, (ad.add (i.toNat * 2)).off + 1, none⟩ = some (.int .i64 (jX xs i).f1) := by
 obtain ⟨ad, c, e, _, hK, hc0⟩ := Kd.C_get h z35 i h0 h1
 have hc : ∀ j u, c[j]? = some u → w.cell? (ad.add (i.toNat * 2 + j)) = some u := hc0
 obtain rfl := k35_open hK
 exact ⟨ad, e, hc 0 _ rfl, by rw [← Z0 _ _ 1 (by omega)]; exact hc 1 _ rfl⟩
def zY (xs : List (List S35)) (i : Int) : (List S35) := xs.getD i.toNat ([] : List S35)
theorem Jd {w : World} {A : Option Addr} {n : Nat} {xs : List (List S35)} (h : Kd.C (Kd.slice 35 k35) w A n xs) (i : Int) (h0 : 0 ≤ i) (h1 : i < n) : ∃ ad A0 c0, A = some ad ∧ w.cell? (ad.add i.toNat) = some (.slice A0 (zY xs i).length c0) ∧ (zY xs i).length ≤ c0 ∧ k35.C w A0 (zY xs i).length (zY xs i) := by
 obtain ⟨ad, c, e, _, hK, hc0⟩ := Kd.C_get h ([] : List S35) i h0 h1
 have hc : ∀ j u, c[j]? = some u → w.cell? (ad.add (i.toNat * 1 + j)) = some u := hc0
 obtain ⟨A0, c0, rfl, l0, g0⟩ := hK
 exact ⟨ad, A0, c0, e, by have hq := hc 0 _ rfl; rwa [Nat.mul_one, Nat.add_zero] at hq, l0, g0⟩
structure S64 where
 f0 : (List S35)
 f1 : S35
def z64 : S64 := ⟨([] : List S35), z35⟩
def k64 : Kd S64 := Kd.iso (Kd.pair (Kd.slice 35 k35) k35) (fun x : S64 => (x.f0, x.f1))
theorem k64_open {w : World} {x : S64} {cs : List Value} (h : k64.K w x cs) : ∃ A0 c0, cs = [.slice A0 x.f0.length c0, .int .i64 x.f1.f0, .int .i64 x.f1.f1] ∧ x.f0.length ≤ c0 ∧ k35.C w A0 x.f0.length x.f0 := by
 obtain ⟨_, _, rfl, ⟨A0, c0, rfl, l0, g0⟩, s1⟩ := h
 obtain rfl := k35_open s1
 exact ⟨A0, c0, rfl, l0, g0⟩
theorem k64_openM {w : World} {base : Nat} {ok : Nat → Prop} {x : S64} {cs : List Value} (h : k64.M w base ok x cs) : ∃ v0, cs = [v0, .int .i64 x.f1.f0, .int .i64 x.f1.f1] ∧ k35.R 35 w base ok v0 x.f0 := by
 obtain ⟨_, _, rfl, ⟨v0, rfl, g0⟩, s1⟩ := h
 obtain rfl := k35_openM s1
 exact ⟨v0, rfl, g0⟩
theorem k64_mk (w : World) (x : S64) {A0 : Option Addr} {c0 : Nat} (l0 : x.f0.length ≤ c0) (g0 : k35.C w A0 x.f0.length x.f0) : k64.K w x [.slice A0 x.f0.length c0, .int .i64 x.f1.f0, .int .i64 x.f1.f1] := ⟨[.slice A0 x.f0.length c0], [.int .i64 x.f1.f0, .int .i64 x.f1.f1], rfl, ⟨A0, c0, rfl, l0, g0⟩, (k35_mk w x.f1 )⟩
theorem k64_mkM (w : World) (base : Nat) (ok : Nat → Prop) (x : S64) {v0 : Value} (g0 : k35.R 35 w base ok v0 x.f0) : k64.M w base ok x [v0, .int .i64 x.f1.f0, .int .i64 x.f1.f1] := ⟨[v0], [.int .i64 x.f1.f0, .int .i64 x.f1.f1], rfl, ⟨v0, rfl, g0⟩, (JJ w base ok x.f1 )⟩
theorem k64_openF {W : World} {ok : Nat → Prop} {x : S64} {cs : List Value} (h : Kd.FK k64 W ok x cs) : ∃ A0 c0, cs = [.slice A0 x.f0.length c0, .int .i64 x.f1.f0, .int .i64 x.f1.f1] ∧ x.f0.length ≤ c0 ∧ Kd.F k35 W ok A0 x.f0.length x.f0 := by
 obtain ⟨A0, c0, rfl, l0, _⟩ := k64_open (Kd.FK_now h)
 exact ⟨A0, c0, rfl, l0, (fun W' hW => by obtain ⟨A0_, c0_, he, l0_, g0_⟩ := k64_open (h W' hW); injection (Option.some.inj (show some (Value.slice A0 x.f0.length c0) = some (Value.slice A0_ x.f0.length c0_) from congrArg (fun l => l[0]?) he)) with ha_ _ _; rw [ha_]; exact g0_)⟩
theorem k64_mkF (W : World) (ok : Nat → Prop) (x : S64) {A0 : Option Addr} {c0 : Nat} (l0 : x.f0.length ≤ c0) (g0 : Kd.F k35 W ok A0 x.f0.length x.f0) : Kd.FK k64 W ok x [.slice A0 x.f0.length c0, .int .i64 x.f1.f0, .int .i64 x.f1.f1] := fun W2 hW => k64_mk W2 x l0 (g0 W2 hW)
def JE (xs : List S64) (i : Int) : S64 := xs.getD i.toNat z64
theorem at_T64 {w : World} {A : Option Addr} {n : Nat} {xs : List S64} (h : Kd.C k64 w A n xs) (i : Int) (h0 : 0 ≤ i) (h1 : i < n) : ∃ ad A0 c0, A = some ad ∧ w.cell? (ad.add (i.toNat * 3)) = some (.slice A0 (JE xs i).f0.length c0) ∧ w.cell? ⟨(ad.add (i.toNat * 3)).block, (ad.add (i.toNat * 3)).off + 1, none⟩ = some (.int .i64 (JE xs i).f1.f0) ∧ w.cell? ⟨(ad.add (i.toNat * 3)).block, (ad.add (i.toNat * 3)).off + 2, none⟩ = some (.int .i64 (JE xs i).f1.f1) ∧ (JE xs i).f0.length ≤ c0 ∧ k35.C w A0 (JE xs i).f0.length (JE xs i).f0 := by
 obtain ⟨ad, c, e, _, hK, hc0⟩ := Kd.C_get h z64 i h0 h1
 have hc : ∀ j u, c[j]? = some u → w.cell? (ad.add (i.toNat * 3 + j)) = some u := hc0
 obtain ⟨A0, c0, rfl, l0, g0⟩ := k64_open hK
 exact ⟨ad, A0, c0, e, hc 0 _ rfl, by rw [← Z0 _ _ 1 (by omega)]; exact hc 1 _ rfl, by rw [← Z0 _ _ 2 (by omega)]; exact hc 2 _ rfl, l0, g0⟩
def rd_L6 (xs : List (List (List S40))) (i : Int) : (List (List S40)) := xs.getD i.toNat ([] : List (List S40))
theorem at_L6 {w : World} {A : Option Addr} {n : Nat} {xs : List (List (List S40))} (h : Kd.C (Kd.slice 37 (Kd.slice 40 k40)) w A n xs) (i : Int) (h0 : 0 ≤ i) (h1 : i < n) : ∃ ad A0 c0, A = some ad ∧ w.cell? (ad.add i.toNat) = some (.slice A0 (rd_L6 xs i).length c0) ∧ (rd_L6 xs i).length ≤ c0 ∧ (Kd.slice 40 k40).C w A0 (rd_L6 xs i).length (rd_L6 xs i) := by
 obtain ⟨ad, c, e, _, hK, hc0⟩ := Kd.C_get h ([] : List (List S40)) i h0 h1
 have hc : ∀ j u, c[j]? = some u → w.cell? (ad.add (i.toNat * 1 + j)) = some u := hc0
 obtain ⟨A0, c0, rfl, l0, g0⟩ := hK
 exact ⟨ad, A0, c0, e, by have hq := hc 0 _ rfl; rwa [Nat.mul_one, Nat.add_zero] at hq, l0, g0⟩
end Go.Proofs.Ytmlkpadlafjfeaa.P
namespace Go.Proofs.Ytmlkpadlafjfeaa.P
open Go.RowKit Go.Proofs.YtmlkpadlafjfeaaW.PrintWords Go.Proofs.YtmlkpadlafjfeaaW.PrintLast Go.Proofs.YtmlkpadlafjfeaaW.PrintMore
attribute [local go_sem] zH zK zU zT zB zC zJ zI
set_option linter.unusedVariables false
set_option linter.unusedSimpArgs false
theorem eqA35 (d : Nat) (w : World) (x0 y0 : Int) (x1 y1 : Int) :
  (Op.equalIn (d + 2) 35 (.agg #[.int .i64 x0, .int .i64 x1]) (.agg #[.int .i64 y0, .int .i64 y1])).run Try.prog w = .ok (x0 == y0 && (x1 == y1)) w := by
 refine eqA_of Try.underlying35 (by kernel_rfl) ?_
 refine eqf_cons (by rfl) (by go_simp; rfl) (by go_simp; rfl) (by go_simp) ?_
 exact eqf_last (by rfl) (by go_simp; rfl) (by go_simp; rfl) (by go_simp)
end Go.Proofs.Ytmlkpadlafjfeaa.P
namespace Go.Proofs.Ytmlkpadlafjfeaa.P
open Go.RowKit Go.Proofs.YtmlkpadlafjfeaaW.PrintWords Go.Proofs.YtmlkpadlafjfeaaW.PrintLast Go.Proofs.YtmlkpadlafjfeaaW.PrintMore
attribute [local go_sem] zH zK zU zT zB zC zJ zI
set_option linter.unusedVariables false
set_option linter.unusedSimpArgs false
theorem eqA40 (d : Nat) (w : World) (x0 y0 : Int) (x1 y1 : Int) (x2 y2 : Int) :
  (Op.equalIn (d + 2) 40 (.agg #[.int .i64 x0, .int .i64 x1, .int .i64 x2]) (.agg #[.int .i64 y0, .int .i64 y1, .int .i64 y2])).run Try.prog w = .ok (x0 == y0 && (x1 == y1 && (x2 == y2))) w := by
 refine eqA_of Try.underlying40 (by kernel_rfl) ?_
 refine eqf_cons (by rfl) (by go_simp; rfl) (by go_simp; rfl) (by go_simp) ?_
 refine eqf_cons (by rfl) (by go_simp; rfl) (by go_simp; rfl) (by go_simp) ?_
 exact eqf_last (by rfl) (by go_simp; rfl) (by go_simp; rfl) (by go_simp)
end Go.Proofs.Ytmlkpadlafjfeaa.P
namespace Go.Proofs.Ytmlkpadlafjfeaa.P
open Go.RowKit Go.Proofs.YtmlkpadlafjfeaaW.PrintWords Go.Proofs.YtmlkpadlafjfeaaW.PrintLast Go.Proofs.YtmlkpadlafjfeaaW.PrintMore
attribute [local go_sem] zH zK zU zT zB zC zJ zI
set_option linter.unusedVariables false
set_option linter.unusedSimpArgs false
def zm.f (a0 : Int) : Option (Int) := if a0 < (-2147483647) then (some 14) else (if a0 > 2147483647 then (some 14) else (some 0))
set_option maxHeartbeats 8000000 in
set_option maxRecDepth 100000 in
theorem zm.calls (a0 : Int) (r : Int) (w : World) (h : zm.f a0 = some r) :
  Calls Try.prog 45 #[.int .i64 a0] w fun e w' => e = .returned (.int .i64 r) ∧ qE w w' := by
 have H : (if a0 < (-2147483647) then (some 14) else (if a0 > 2147483647 then (some 14) else (some 0))) = some r := h
 clear h
 by_cases c2 : a0 < (-2147483647)
 ·rw [if_pos c2] at H
  have c2b0 : decide (a0 < (-2147483647)) = true := decide_eq_true c2
  clear c2
  obtain rfl := Option.some.inj H
  go_enter Try.func45, Try.ntmps45
  go_wp2
  go_ret
  exact ⟨by first | rfl | (simp; done) | (simp [*]; done), by repeat (first | exact qE.refl _ | apply qE.step)⟩
 rw [if_neg c2] at H
 have c2b0 : decide (a0 < (-2147483647)) = false := decide_eq_false c2
 clear c2
 by_cases c3 : a0 > 2147483647
 ·rw [if_pos c3] at H
  have c3b0 : decide (2147483647 < a0) = true := decide_eq_true c3
  clear c3
  obtain rfl := Option.some.inj H
  go_enter Try.func45, Try.ntmps45
  go_wp2
  go_ret
  exact ⟨by first | rfl | (simp; done) | (simp [*]; done), by repeat (first | exact qE.refl _ | apply qE.step)⟩
 rw [if_neg c3] at H
 have c3b0 : decide (2147483647 < a0) = false := decide_eq_false c3
 clear c3
 obtain rfl := Option.some.inj H
 go_enter Try.func45, Try.ntmps45
 go_wp2
 go_ret
 exact ⟨by first | rfl | (simp; done) | (simp [*]; done), by repeat (first | exact qE.refl _ | apply qE.step)⟩
end Go.Proofs.Ytmlkpadlafjfeaa.P
namespace Go.Proofs.Ytmlkpadlafjfeaa.P
open Go.RowKit Go.Proofs.YtmlkpadlafjfeaaW.PrintWords Go.Proofs.YtmlkpadlafjfeaaW.PrintLast Go.Proofs.YtmlkpadlafjfeaaW.PrintMore
attribute [local go_sem] zH zK zU zT zB zC zJ zI
set_option linter.unusedVariables false
set_option linter.unusedSimpArgs false
def jD.f (a0_0 : Int) (a0_1 : Int) (a0_2 : Int) : Option (Int × Int) := some (a0_0, a0_1)
set_option maxHeartbeats 8000000 in
set_option maxRecDepth 100000 in
theorem jD.calls (a0_0 : Int) (a0_1 : Int) (a0_2 : Int) (r1 : Int) (r2 : Int) (w : World) (h : jD.f a0_0 a0_1 a0_2 = some (r1, r2)) :
  Calls Try.prog 49 #[.agg #[.int .i64 a0_0, .int .i64 a0_1, .int .i64 a0_2]] w fun e w' => e = .returned (.agg #[.int .i64 r1, .int .i64 r2]) ∧ Below w.heap.size w w' := by
 have hu40 := Try.underlying40
 have hu35 := Try.underlying35
 have HB := qa.mk (Below.refl w.heap.size w)
 have H : (some (a0_0, a0_1)) = some (r1, r2) := h
 clear h
 simp only [Option.some.injEq, Prod.mk.injEq] at H
 obtain ⟨rfl, rfl⟩ := H
 go_enter Try.func49, Try.ntmps49
 go_wp2_with (first | ((with_reducible refine zl (N := 1) rfl ?_); refine zF ?hg (N := 1) ?hd (cs := #[.int .i64 a0_0, .int .i64 a0_1, .int .i64 a0_2]) (t := 40) ?hr ?_; (case hd => rfl); (case hg => rfl); (case hr => first | (go_simp; done) | (go_simp; rfl)); intro gb110 hg w2 hbox hb; have n0_ := qa.mk (qh (bq HB) hb); have n1_ := qa.mk (hbox); have n2_ := qa.mk ((by rw [hg]; exact (qx (bq HB)) : w.heap.size ≤ gb110)); have n3_ := qa.mk ((by rw [hg]; exact (qx (bq HB)) : w.heap.size ≤ gb110)); clear HB; have HB := n0_; have BK110 := n1_; have GW110 := n2_; have GE110 := n3_; clear n0_ n1_ n2_ n3_; clear hb hbox hg) | ((with_reducible refine zl (N := 2) rfl ?_); refine zF ?hg (N := 2) ?hd (cs := #[.int .i64 0, .int .i64 0]) (t := 35) ?hr ?_; (case hd => rfl); (case hg => rfl); (case hr => first | (go_simp; done) | (go_simp; rfl)); intro gb111 hg w3 hbox hb; have n0_ := qa.mk (qF (g := gb110) (o := .cells #[.int .i64 a0_0, .int .i64 a0_1, .int .i64 a0_2] 40 (0, 0)) (kq BK110) hb); have n1_ := qa.mk (qh (bs HB GE110) hb); have n2_ := qa.mk (hbox); have n3_ := qa.mk ((by rw [hg]; exact (qx (bs HB GE110)) : w.heap.size ≤ gb111)); have n4_ := qa.mk ((by rw [hg]; exact (qx (bs HB GE110)) : w.heap.size ≤ gb111)); have n5_ := qa.mk ((by rw [hg]; exact Nat.ne_of_lt (qy (g := gb110) (o := .cells #[.int .i64 a0_0, .int .i64 a0_1, .int .i64 a0_2] 40 (0, 0)) (kq BK110)) : gb110 ≠ gb111)); have n6_ := qa.mk ((by rw [hg]; exact Nat.ne_of_gt (qy (g := gb110) (o := .cells #[.int .i64 a0_0, .int .i64 a0_1, .int .i64 a0_2] 40 (0, 0)) (kq BK110)) : gb111 ≠ gb110)); clear BK110; clear HB; have BK110 := n0_; have HB := n1_; have BK111 := n2_; have GW111 := n3_; have GE111 := n4_; have NB110_111 := n5_; have NB111_110 := n6_; clear n0_ n1_ n2_ n3_ n4_ n5_ n6_; clear hb hbox hg; have hnb4 := NB110_111.out; have hnc4 := NB111_110.out; have hcz5_0 : w3.cell? ⟨gb110, 0, none⟩ = some (.int .i64 a0_0) := (qb BK110.out 0).trans rfl; have hcz5_1 : w3.cell? ⟨gb110, 1, none⟩ = some (.int .i64 a0_1) := (qb BK110.out 1).trans rfl; have hcz5_2 : w3.cell? ⟨gb110, 2, none⟩ = some (.int .i64 a0_2) := (qb BK110.out 2).trans rfl; have hfz5_0 := qo BK110.out 0; have hfz5_1 := qo BK110.out 1; have hfz5_2 := qo BK110.out 2; have hcz6_0 : w3.cell? ⟨gb111, 0, none⟩ = some (.int .i64 0) := (qb BK111.out 0).trans rfl; have hcz6_1 : w3.cell? ⟨gb111, 1, none⟩ = some (.int .i64 0) := (qb BK111.out 1).trans rfl; have hfz6_0 := qo BK111.out 0; have hfz6_1 := qo BK111.out 1))
 refine bodyPost_ret (results_cell_row rfl _ _ gb111 35 #[.int .i64 a0_0, .int .i64 a0_1] (0, 0) _ rfl (by (with_reducible repeat (first | refine qj ?_ _ | refine qd ?_ | refine qg ?_ _)); refine zb (cs := #[.int .i64 a0_0, .int .i64 0]) ?_ 1 _ rfl; refine zb (cs := #[.int .i64 0, .int .i64 0]) ?_ 0 _ rfl; exact kq BK111) Try.underlying35 rfl (by kernel_rfl)) rfl ?_
 exact ⟨by first | rfl | (simp [qR, qU] <;> rfl) | (simp [*, qR, qU] <;> rfl), by repeat (first | (with_reducible first | exact HB.out | apply qw | apply qC | apply qJ | refine qf ?_ GE110.out | refine qf ?_ GE111.out) | exact HB.out)⟩
end Go.Proofs.Ytmlkpadlafjfeaa.P
namespace Go.Proofs.Ytmlkpadlafjfeaa.P
open Go.RowKit Go.Proofs.YtmlkpadlafjfeaaW.PrintWords Go.Proofs.YtmlkpadlafjfeaaW.PrintLast Go.Proofs.YtmlkpadlafjfeaaW.PrintMore
attribute [local go_sem] zH zK zU zT zB zC zJ zI
set_option linter.unusedVariables false
set_option linter.unusedSimpArgs false
def jO.f (a0 : Int) : Option (Int) := if a0 < 0 then (some (IntKind.u64.wrap (-(IntKind.u64.wrap (a0))))) else (some (IntKind.u64.wrap (a0)))
set_option maxHeartbeats 8000000 in
set_option maxRecDepth 100000 in
theorem jO.calls (a0 : Int) (r : Int) (w : World) (h : jO.f a0 = some r) :
  Calls Try.prog 60 #[.int .i64 a0] w fun e w' => e = .returned (.int .u64 r) ∧ qE w w' := by
 have H : (if a0 < 0 then (some (IntKind.u64.wrap (-(IntKind.u64.wrap (a0))))) else (some (IntKind.u64.wrap (a0)))) = some r := h
 clear h
 by_cases c2 : a0 < 0
 ·rw [if_pos c2] at H
  have c2b0 : decide (a0 < 0) = true := decide_eq_true c2
  clear c2
  obtain rfl := Option.some.inj H
  go_enter Try.func60, Try.ntmps60
  go_wp2
  go_ret
  exact ⟨by first | rfl | (simp; done) | (simp [*]; done), by repeat (first | exact qE.refl _ | apply qE.step)⟩
 rw [if_neg c2] at H
 have c2b0 : decide (a0 < 0) = false := decide_eq_false c2
 clear c2
 obtain rfl := Option.some.inj H
 go_enter Try.func60, Try.ntmps60
 go_wp2
 go_ret
 exact ⟨by first | rfl | (simp; done) | (simp [*]; done), by repeat (first | exact qE.refl _ | apply qE.step)⟩
end Go.Proofs.Ytmlkpadlafjfeaa.P
namespace Go.Proofs.Ytmlkpadlafjfeaa.P
open Go.RowKit Go.Proofs.YtmlkpadlafjfeaaW.PrintWords Go.Proofs.YtmlkpadlafjfeaaW.PrintLast Go.Proofs.YtmlkpadlafjfeaaW.PrintMore
attribute [local go_sem] zH zK zU zT zB zC zJ zI
set_option linter.unusedVariables false
set_option linter.unusedSimpArgs false
def bits_Mul64.f (a0 : Int) (a1 : Int) : Option (Int × Int) := some (IntKind.u64.wrap ((IntKind.u64.wrap ((IntKind.u64.wrap ((a0 / 4294967296) * (a1 / 4294967296))) + ((IntKind.u64.wrap ((IntKind.u64.wrap ((a0 / 4294967296) * (Go.bits .and .u64 a1 4294967295))) + ((IntKind.u64.wrap ((Go.bits .and .u64 a0 4294967295) * (Go.bits .and .u64 a1 4294967295))) / 4294967296))) / 4294967296))) + ((IntKind.u64.wrap ((Go.bits .and .u64 (IntKind.u64.wrap ((IntKind.u64.wrap ((a0 / 4294967296) * (Go.bits .and .u64 a1 4294967295))) + ((IntKind.u64.wrap ((Go.bits .and .u64 a0 4294967295) * (Go.bits .and .u64 a1 4294967295))) / 4294967296))) 4294967295) + (IntKind.u64.wrap ((Go.bits .and .u64 a0 4294967295) * (a1 / 4294967296))))) / 4294967296)), IntKind.u64.wrap (a0 * a1))
set_option maxHeartbeats 8000000 in
set_option maxRecDepth 100000 in
theorem bits_Mul64.calls (a0 : Int) (a1 : Int) (r1 : Int) (r2 : Int) (w : World) (h : bits_Mul64.f a0 a1 = some (r1, r2)) :
  Calls Try.prog 73 #[.int .u64 a0, .int .u64 a1] w fun e w' => e = .returned (.tuple #[.int .u64 r1, .int .u64 r2]) ∧ qE w w' := by
 have H : (some (IntKind.u64.wrap ((IntKind.u64.wrap ((IntKind.u64.wrap ((a0 / 4294967296) * (a1 / 4294967296))) + ((IntKind.u64.wrap ((IntKind.u64.wrap ((a0 / 4294967296) * (Go.bits .and .u64 a1 4294967295))) + ((IntKind.u64.wrap ((Go.bits .and .u64 a0 4294967295) * (Go.bits .and .u64 a1 4294967295))) / 4294967296))) / 4294967296))) + ((IntKind.u64.wrap ((Go.bits .and .u64 (IntKind.u64.wrap ((IntKind.u64.wrap ((a0 / 4294967296) * (Go.bits .and .u64 a1 4294967295))) + ((IntKind.u64.wrap ((Go.bits .and .u64 a0 4294967295) * (Go.bits .and .u64 a1 4294967295))) / 4294967296))) 4294967295) + (IntKind.u64.wrap ((Go.bits .and .u64 a0 4294967295) * (a1 / 4294967296))))) / 4294967296)), IntKind.u64.wrap (a0 * a1))) = some (r1, r2) := h
 clear h
 simp only [Option.some.injEq, Prod.mk.injEq] at H
 obtain ⟨rfl, rfl⟩ := H
 go_enter Try.func73, Try.ntmps73
 go_wp2
 go_ret2
 exact ⟨by first | rfl | (simp; done) | (simp [*]; done), by repeat (first | exact qE.refl _ | apply qE.step)⟩
end Go.Proofs.Ytmlkpadlafjfeaa.P
namespace Go.Proofs.Ytmlkpadlafjfeaa.P
open Go.RowKit Go.Proofs.YtmlkpadlafjfeaaW.PrintWords Go.Proofs.YtmlkpadlafjfeaaW.PrintLast Go.Proofs.YtmlkpadlafjfeaaW.PrintMore
attribute [local go_sem] zH zK zU zT zB zC zJ zI
set_option linter.unusedVariables false
set_option linter.unusedSimpArgs false
def QK.f (a0 : Int) (a1 : Int) : Option (Int × Int × Bool) := (jO.f a0).bind fun t113 => ((jO.f a1).bind fun t114 => ((bits_Mul64.f t113 t114).bind fun bt115 => (some (bt115.1, bt115.2, ((decide (a0 < 0)) != (decide (a1 < 0)))))))
set_option maxHeartbeats 8000000 in
set_option maxRecDepth 100000 in
theorem QK.calls (a0 : Int) (a1 : Int) (r1 : Int) (r2 : Int) (r3 : Bool) (w : World) (h : QK.f a0 a1 = some (r1, r2, r3)) :
  Calls Try.prog 59 #[.int .i64 a0, .int .i64 a1] w fun e w' => e = .returned (.agg #[.int .u64 r1, .int .u64 r2, .bool r3]) ∧ Below w.heap.size w w' := by
 have hu107 := Try.underlying107
 have HB := qa.mk (Below.refl w.heap.size w)
 have H : ((jO.f a0).bind fun t113 => ((jO.f a1).bind fun t114 => ((bits_Mul64.f t113 t114).bind fun bt115 => (some (bt115.1, bt115.2, ((decide (a0 < 0)) != (decide (a1 < 0)))))))) = some (r1, r2, r3) := h
 clear h
 replace H := Option.bind_eq_some_iff.mp H
 obtain ⟨t113, A30, H⟩ := H
 replace H : ((jO.f a1).bind fun t114 => ((bits_Mul64.f t113 t114).bind fun bt115 => (some (bt115.1, bt115.2, ((decide (a0 < 0)) != (decide (a1 < 0))))))) = some (r1, r2, r3) := H
 have A3 := qa.mk A30
 clear A30
 replace H := Option.bind_eq_some_iff.mp H
 obtain ⟨t114, A40, H⟩ := H
 replace H : ((bits_Mul64.f t113 t114).bind fun bt115 => (some (bt115.1, bt115.2, ((decide (a0 < 0)) != (decide (a1 < 0)))))) = some (r1, r2, r3) := H
 have A4 := qa.mk A40
 clear A40
 replace H := Option.bind_eq_some_iff.mp H
 obtain ⟨⟨t115, t116⟩, A50, H⟩ := H
 replace H : (some (t115, t116, ((decide (a0 < 0)) != (decide (a1 < 0))))) = some (r1, r2, r3) := H
 have A5 := qa.mk A50
 clear A50
 simp only [Option.some.injEq, Prod.mk.injEq] at H
 obtain ⟨rfl, rfl, rfl⟩ := H
 go_enter Try.func59, Try.ntmps59
 go_wp2_with (first | ((with_reducible refine zl (N := 4) rfl ?_); refine zF ?hg (N := 4) ?hd (cs := #[.int .u64 0, .int .u64 0, .bool false]) (t := 107) ?hr ?_; (case hd => rfl); (case hg => rfl); (case hr => first | (go_simp; done) | (go_simp; rfl)); intro gb112 hg w6 hbox hb; have n0_ := qa.mk (qh (bq HB) hb); have n1_ := qa.mk (hbox); have n2_ := qa.mk ((by rw [hg]; exact (qx (bq HB)) : w.heap.size ≤ gb112)); have n3_ := qa.mk ((by rw [hg]; exact (qx (bq HB)) : w.heap.size ≤ gb112)); clear HB; have HB := n0_; have BK112 := n1_; have GW112 := n2_; have GE112 := n3_; clear n0_ n1_ n2_ n3_; clear hb hbox hg) | ((with_reducible refine zf (f := 60) rfl ?_); refine zR (some 9) rfl rfl Try.func60 (by kernel_rfl) rfl #[.int .i64 a0] rfl (by (try simp only [List.map_toArray, List.map_cons, List.map_nil]); first | done | rfl | (simp only [List.length_drop, List.length_take]; rfl)) ?_; (with_reducible refine (jO.calls a0 t113 _ A3.out).mono ?_); rintro e w' ⟨rfl, ⟨nd, rfl⟩⟩; refine ⟨_, rfl, ?_⟩; (try (rw [Jb w6]; generalize hq_ : World.drewN w6 _ = w6; have n0_ : qa (w6.heap[gb112]? = some (.cells #[.int .u64 0, .int .u64 0, .bool false] 107 (0, 0))) := ⟨by rw [← hq_]; exact (kq BK112)⟩; have n1_ : qa (Below w.heap.size w w6) := ⟨by rw [← hq_]; exact (bs HB GE112)⟩; clear BK112 HB hq_; have BK112 := n0_; have HB := n1_; clear n0_ n1_))) | ((with_reducible refine zf (f := 60) rfl ?_); refine zR (some 11) rfl rfl Try.func60 (by kernel_rfl) rfl #[.int .i64 a1] rfl (by (try simp only [List.map_toArray, List.map_cons, List.map_nil]); first | done | rfl | (simp only [List.length_drop, List.length_take]; rfl)) ?_; (with_reducible refine (jO.calls a1 t114 _ A4.out).mono ?_); rintro e w' ⟨rfl, ⟨nd, rfl⟩⟩; refine ⟨_, rfl, ?_⟩; (try (rw [Jb w6]; generalize hq_ : World.drewN w6 _ = w6; have n0_ : qa (w6.heap[gb112]? = some (.cells #[.int .u64 0, .int .u64 0, .bool false] 107 (0, 0))) := ⟨by rw [← hq_]; exact (kq BK112)⟩; have n1_ : qa (Below w.heap.size w w6) := ⟨by rw [← hq_]; exact (bs HB GE112)⟩; clear BK112 HB hq_; have BK112 := n0_; have HB := n1_; clear n0_ n1_))) | ((with_reducible refine zf (f := 73) rfl ?_); refine zR (some 12) rfl rfl Try.func73 (by kernel_rfl) rfl #[.int .u64 t113, .int .u64 t114] rfl (by (try simp only [List.map_toArray, List.map_cons, List.map_nil]); first | done | rfl | (simp only [List.length_drop, List.length_take]; rfl)) ?_; (with_reducible refine (bits_Mul64.calls t113 t114 t115 t116 _ A5.out).mono ?_); rintro e w' ⟨rfl, ⟨nd, rfl⟩⟩; refine ⟨_, rfl, ?_⟩; (try (rw [Jb w6]; generalize hq_ : World.drewN w6 _ = w6; have n0_ : qa (w6.heap[gb112]? = some (.cells #[.int .u64 0, .int .u64 0, .bool false] 107 (0, 0))) := ⟨by rw [← hq_]; exact (kq BK112)⟩; have n1_ : qa (Below w.heap.size w w6) := ⟨by rw [← hq_]; exact (bs HB GE112)⟩; clear BK112 HB hq_; have BK112 := n0_; have HB := n1_; clear n0_ n1_)); have hcz7_0 : w6.cell? ⟨gb112, 0, none⟩ = some (.int .u64 0) := (qb BK112.out 0).trans rfl; have hcz7_1 : w6.cell? ⟨gb112, 1, none⟩ = some (.int .u64 0) := (qb BK112.out 1).trans rfl; have hcz7_2 : w6.cell? ⟨gb112, 2, none⟩ = some (.bool false) := (qb BK112.out 2).trans rfl; have hfz7_0 := qo BK112.out 0; have hfz7_1 := qo BK112.out 1; have hfz7_2 := qo BK112.out 2))
 refine bodyPost_ret (results_cell_row rfl _ _ gb112 107 #[.int .u64 t115, .int .u64 t116, .bool ((decide (a0 < 0)) != (decide (a1 < 0)))] (0, 0) _ rfl (by (with_reducible repeat (first | refine qj ?_ _ | refine qd ?_ | refine qg ?_ _)); refine zb (cs := #[.int .u64 t115, .int .u64 t116, .bool false]) ?_ 2 _ rfl; refine zb (cs := #[.int .u64 t115, .int .u64 0, .bool false]) ?_ 1 _ rfl; refine zb (cs := #[.int .u64 0, .int .u64 0, .bool false]) ?_ 0 _ rfl; exact kq BK112) Try.underlying107 rfl (by kernel_rfl)) rfl ?_
 exact ⟨by first | rfl | (simp [qR, qU] <;> rfl) | (simp [*, qR, qU] <;> rfl), bs HB GE112⟩
end Go.Proofs.Ytmlkpadlafjfeaa.P
namespace Go.Proofs.Ytmlkpadlafjfeaa.P
open Go.RowKit Go.Proofs.YtmlkpadlafjfeaaW.PrintWords Go.Proofs.YtmlkpadlafjfeaaW.PrintLast Go.Proofs.YtmlkpadlafjfeaaW.PrintMore
attribute [local go_sem] zH zK zU zT zB zC zJ zI
set_option linter.unusedVariables false
set_option linter.unusedSimpArgs false
def bits_Len64.j0 : Nat → Int → Int → Option (Int)
 | 0, _, _ => none
 | k + 1, x0, x2 => if x0 ≥ 65536 then (if (x0 / 65536) ≥ 256 then (if 0 ≤ (((x0 / 65536) / 256) % 256) then (if (((x0 / 65536) / 256) % 256) < 256 then (some (wrap64 ((wrap64 ((wrap64 (x2 + 16)) + 8)) + (wrap64 (bt (⟨#[0, 1, 2, 2, 3, 3, 3, 3, 4, 4, 4, 4, 4, 4, 4, 4, 5, 5, 5, 5, 5, 5, 5, 5, 5, 5, 5, 5, 5, 5, 5, 5, 6, 6, 6, 6, 6, 6, 6, 6, 6, 6, 6, 6, 6, 6, 6, 6, 6, 6, 6, 6, 6, 6, 6, 6, 6, 6, 6, 6, 6, 6, 6, 6, 7, 7, 7, 7, 7, 7, 7, 7, 7, 7, 7, 7, 7, 7, 7, 7, 7, 7, 7, 7, 7, 7, 7, 7, 7, 7, 7, 7, 7, 7, 7, 7, 7, 7, 7, 7, 7, 7, 7, 7, 7, 7, 7, 7, 7, 7, 7, 7, 7, 7, 7, 7, 7, 7, 7, 7, 7, 7, 7, 7, 7, 7, 7, 7, 8, 8, 8, 8, 8, 8, 8, 8, 8, 8, 8, 8, 8, 8, 8, 8, 8, 8, 8, 8, 8, 8, 8, 8, 8, 8, 8, 8, 8, 8, 8, 8, 8, 8, 8, 8, 8, 8, 8, 8, 8, 8, 8, 8, 8, 8, 8, 8, 8, 8, 8, 8, 8, 8, 8, 8, 8, 8, 8, 8, 8, 8, 8, 8, 8, 8, 8, 8, 8, 8, 8, 8, 8, 8, 8, 8, 8, 8, 8, 8, 8, 8, 8, 8, 8, 8, 8, 8, 8, 8, 8, 8, 8, 8, 8, 8, 8, 8, 8, 8, 8, 8, 8, 8, 8, 8, 8, 8, 8, 8, 8, 8, 8, 8, 8, 8, 8, 8, 8, 8, 8, 8, 8, 8, 8, 8, 8, 8]⟩ : ByteArray) (((x0 / 65536) / 256) % 256)))))) else (none)) else (none)) else (if 0 ≤ ((x0 / 65536) % 256) then (if ((x0 / 65536) % 256) < 256 then (some (wrap64 ((wrap64 (x2 + 16)) + (wrap64 (bt (⟨#[0, 1, 2, 2, 3, 3, 3, 3, 4, 4, 4, 4, 4, 4, 4, 4, 5, 5, 5, 5, 5, 5, 5, 5, 5, 5, 5, 5, 5, 5, 5, 5, 6, 6, 6, 6, 6, 6, 6, 6, 6, 6, 6, 6, 6, 6, 6, 6, 6, 6, 6, 6, 6, 6, 6, 6, 6, 6, 6, 6, 6, 6, 6, 6, 7, 7, 7, 7, 7, 7, 7, 7, 7, 7, 7, 7, 7, 7, 7, 7, 7, 7, 7, 7, 7, 7, 7, 7, 7, 7, 7, 7, 7, 7, 7, 7, 7, 7, 7, 7, 7, 7, 7, 7, 7, 7, 7, 7, 7, 7, 7, 7, 7, 7, 7, 7, 7, 7, 7, 7, 7, 7, 7, 7, 7, 7, 7, 7, 8, 8, 8, 8, 8, 8, 8, 8, 8, 8, 8, 8, 8, 8, 8, 8, 8, 8, 8, 8, 8, 8, 8, 8, 8, 8, 8, 8, 8, 8, 8, 8, 8, 8, 8, 8, 8, 8, 8, 8, 8, 8, 8, 8, 8, 8, 8, 8, 8, 8, 8, 8, 8, 8, 8, 8, 8, 8, 8, 8, 8, 8, 8, 8, 8, 8, 8, 8, 8, 8, 8, 8, 8, 8, 8, 8, 8, 8, 8, 8, 8, 8, 8, 8, 8, 8, 8, 8, 8, 8, 8, 8, 8, 8, 8, 8, 8, 8, 8, 8, 8, 8, 8, 8, 8, 8, 8, 8, 8, 8, 8, 8, 8, 8, 8, 8, 8, 8, 8, 8, 8, 8, 8, 8, 8, 8, 8, 8]⟩ : ByteArray) ((x0 / 65536) % 256)))))) else (none)) else (none))) else (if x0 ≥ 256 then (if 0 ≤ ((x0 / 256) % 256) then (if ((x0 / 256) % 256) < 256 then (some (wrap64 ((wrap64 (x2 + 8)) + (wrap64 (bt (⟨#[0, 1, 2, 2, 3, 3, 3, 3, 4, 4, 4, 4, 4, 4, 4, 4, 5, 5, 5, 5, 5, 5, 5, 5, 5, 5, 5, 5, 5, 5, 5, 5, 6, 6, 6, 6, 6, 6, 6, 6, 6, 6, 6, 6, 6, 6, 6, 6, 6, 6, 6, 6, 6, 6, 6, 6, 6, 6, 6, 6, 6, 6, 6, 6, 7, 7, 7, 7, 7, 7, 7, 7, 7, 7, 7, 7, 7, 7, 7, 7, 7, 7, 7, 7, 7, 7, 7, 7, 7, 7, 7, 7, 7, 7, 7, 7, 7, 7, 7, 7, 7, 7, 7, 7, 7, 7, 7, 7, 7, 7, 7, 7, 7, 7, 7, 7, 7, 7, 7, 7, 7, 7, 7, 7, 7, 7, 7, 7, 8, 8, 8, 8, 8, 8, 8, 8, 8, 8, 8, 8, 8, 8, 8, 8, 8, 8, 8, 8, 8, 8, 8, 8, 8, 8, 8, 8, 8, 8, 8, 8, 8, 8, 8, 8, 8, 8, 8, 8, 8, 8, 8, 8, 8, 8, 8, 8, 8, 8, 8, 8, 8, 8, 8, 8, 8, 8, 8, 8, 8, 8, 8, 8, 8, 8, 8, 8, 8, 8, 8, 8, 8, 8, 8, 8, 8, 8, 8, 8, 8, 8, 8, 8, 8, 8, 8, 8, 8, 8, 8, 8, 8, 8, 8, 8, 8, 8, 8, 8, 8, 8, 8, 8, 8, 8, 8, 8, 8, 8, 8, 8, 8, 8, 8, 8, 8, 8, 8, 8, 8, 8, 8, 8, 8, 8, 8, 8]⟩ : ByteArray) ((x0 / 256) % 256)))))) else (none)) else (none)) else (if 0 ≤ ((x0) % 256) then (if ((x0) % 256) < 256 then (some (wrap64 (x2 + (wrap64 (bt (⟨#[0, 1, 2, 2, 3, 3, 3, 3, 4, 4, 4, 4, 4, 4, 4, 4, 5, 5, 5, 5, 5, 5, 5, 5, 5, 5, 5, 5, 5, 5, 5, 5, 6, 6, 6, 6, 6, 6, 6, 6, 6, 6, 6, 6, 6, 6, 6, 6, 6, 6, 6, 6, 6, 6, 6, 6, 6, 6, 6, 6, 6, 6, 6, 6, 7, 7, 7, 7, 7, 7, 7, 7, 7, 7, 7, 7, 7, 7, 7, 7, 7, 7, 7, 7, 7, 7, 7, 7, 7, 7, 7, 7, 7, 7, 7, 7, 7, 7, 7, 7, 7, 7, 7, 7, 7, 7, 7, 7, 7, 7, 7, 7, 7, 7, 7, 7, 7, 7, 7, 7, 7, 7, 7, 7, 7, 7, 7, 7, 8, 8, 8, 8, 8, 8, 8, 8, 8, 8, 8, 8, 8, 8, 8, 8, 8, 8, 8, 8, 8, 8, 8, 8, 8, 8, 8, 8, 8, 8, 8, 8, 8, 8, 8, 8, 8, 8, 8, 8, 8, 8, 8, 8, 8, 8, 8, 8, 8, 8, 8, 8, 8, 8, 8, 8, 8, 8, 8, 8, 8, 8, 8, 8, 8, 8, 8, 8, 8, 8, 8, 8, 8, 8, 8, 8, 8, 8, 8, 8, 8, 8, 8, 8, 8, 8, 8, 8, 8, 8, 8, 8, 8, 8, 8, 8, 8, 8, 8, 8, 8, 8, 8, 8, 8, 8, 8, 8, 8, 8, 8, 8, 8, 8, 8, 8, 8, 8, 8, 8, 8, 8, 8, 8, 8, 8, 8, 8]⟩ : ByteArray) ((x0) % 256)))))) else (none)) else (none)))
def bits_Len64.f (k : Nat) (a0 : Int) : Option (Int) := if a0 ≥ 4294967296 then (bits_Len64.j0 k (a0 / 4294967296) 32) else (bits_Len64.j0 k a0 0)
theorem bits_Len64.zW : ∀ k, (∀ y0 y1, LeO (bits_Len64.j0 k y0 y1) (bits_Len64.j0 (k + 1) y0 y1))
 | 0 => fun _ _ r h => by simp [bits_Len64.j0] at h
 | k + 1 => by
  have ih0 := bits_Len64.zW k
  ·intro y0 y1
   unfold bits_Len64.j0
   repeat' first
   | (with_reducible exact ih0 _ _)
   | (with_reducible exact LeO.refl _)
   | (with_reducible exact LeO.none _)
   | (with_reducible refine LeO.ite ?_ ?_)
   | (with_reducible refine LeO.bind ?_ (fun _ => ?_))
   | exact ih0 _ _
   | exact LeO.none _
   | refine LeO.ite ?_ ?_
   | refine LeO.bind ?_ (fun _ => ?_)
theorem bits_Len64.mono : ∀ a0 k, LeO (bits_Len64.f k a0) (bits_Len64.f (k + 1) a0) := by
 intro a0 k
 have ih0 := bits_Len64.zW k
 unfold bits_Len64.f
 repeat' first
   | (with_reducible exact ih0 _ _)
   | (with_reducible exact LeO.refl _)
   | (with_reducible exact LeO.none _)
   | (with_reducible refine LeO.ite ?_ ?_)
   | (with_reducible refine LeO.bind ?_ (fun _ => ?_))
   | exact ih0 _ _
   | exact LeO.none _
   | refine LeO.ite ?_ ?_
   | refine LeO.bind ?_ (fun _ => ?_)
set_option maxHeartbeats 8000000 in
set_option maxRecDepth 100000 in
theorem bits_Len64.calls (k : Nat) (a0 : Int) (r : Int) (w : World) (h : bits_Len64.f k a0 = some r) :
  Calls Try.prog 77 #[.int .u64 a0] w fun e w' => e = .returned (.int .i64 r) ∧ qE w w' := by
 have H : (if a0 ≥ 4294967296 then (bits_Len64.j0 k (a0 / 4294967296) 32) else (bits_Len64.j0 k a0 0)) = some r := h
 clear h
 have HC2 := qa.mk H
 clear H
 go_enter Try.func77, Try.ntmps77
 go_upto_if 4 with (fail)
 go_cut [0, 2] (fun v0 v2 wc => ∃ (kq : Nat) (x0_1 : Int) (x2_1 : Int), v0 = .int .u64 x0_1 ∧ v2 = .int .i64 x2_1 ∧ qa (bits_Len64.j0 kq x0_1 x2_1 = some r) ∧ qa (kq ≤ k) ∧ qE w wc)
 case first =>
  have H := HC2.out
  clear HC2
  by_cases c3 : a0 ≥ 4294967296
  ·rw [if_pos c3] at H
   have c3b0 : decide (4294967296 ≤ a0) = true := decide_eq_true c3
   clear c3
   (first | rw [c3b0] | (simp only [qz, qA]; rw [c3b0]) | skip)
   have H' := qa.mk H
   clear H
   go_wp2
   go_meet
   case rel => exact ⟨_, (a0 / 4294967296), (32), (by first | rfl | (simp; done) | (simp [*]; done)), (by first | rfl | (simp; done) | (simp [*]; done)), H', ⟨by first | omega | exact Nat.le_refl _⟩, by repeat (first | exact qE.refl _ | apply qE.step)⟩
  rw [if_neg c3] at H
  have c3b0 : decide (4294967296 ≤ a0) = false := decide_eq_false c3
  clear c3
  (first | rw [c3b0] | (simp only [qz, qA]; rw [c3b0]) | skip)
  have H' := qa.mk H
  clear H
  go_wp2
  go_meet
  case rel => exact ⟨_, (a0), (0), (by first | rfl | (simp; done) | (simp [*]; done)), (by first | rfl | (simp; done) | (simp [*]; done)), H', ⟨by first | omega | exact Nat.le_refl _⟩, by repeat (first | exact qE.refl _ | apply qE.step)⟩
 case rest =>
  clear HC2
  try clear p2
  try clear c3
  try clear c3b0
  obtain ⟨kq, x0_1, x2_1, rfl, rfl, HA, HJ1, ⟨mc1, rfl⟩⟩ := hcut
  cases kq with
  | zero => exact absurd HA.out (by simp [bits_Len64.j0])
  | succ kj1 =>
   have H := HA.out
   clear HA
   simp only [bits_Len64.j0] at H
   by_cases c4 : x0_1 ≥ 65536
   case neg =>
    rw [if_neg c4] at H
    have c4b0 : decide (65536 ≤ x0_1) = false := decide_eq_false c4
    clear c4
    by_cases c14 : x0_1 ≥ 256
    case neg =>
     rw [if_neg c14] at H
     have c14b0 : decide (256 ≤ x0_1) = false := decide_eq_false c14
     clear c14
     obtain ⟨ji19, hji19⟩ : ∃ j_ : Int, ((x0_1) % 256) = j_ := ⟨_, rfl⟩
     replace H : (if 0 ≤ (ji19) then (if (ji19) < 256 then (some (wrap64 (x2_1 + (wrap64 (bt (⟨#[0, 1, 2, 2, 3, 3, 3, 3, 4, 4, 4, 4, 4, 4, 4, 4, 5, 5, 5, 5, 5, 5, 5, 5, 5, 5, 5, 5, 5, 5, 5, 5, 6, 6, 6, 6, 6, 6, 6, 6, 6, 6, 6, 6, 6, 6, 6, 6, 6, 6, 6, 6, 6, 6, 6, 6, 6, 6, 6, 6, 6, 6, 6, 6, 7, 7, 7, 7, 7, 7, 7, 7, 7, 7, 7, 7, 7, 7, 7, 7, 7, 7, 7, 7, 7, 7, 7, 7, 7, 7, 7, 7, 7, 7, 7, 7, 7, 7, 7, 7, 7, 7, 7, 7, 7, 7, 7, 7, 7, 7, 7, 7, 7, 7, 7, 7, 7, 7, 7, 7, 7, 7, 7, 7, 7, 7, 7, 7, 8, 8, 8, 8, 8, 8, 8, 8, 8, 8, 8, 8, 8, 8, 8, 8, 8, 8, 8, 8, 8, 8, 8, 8, 8, 8, 8, 8, 8, 8, 8, 8, 8, 8, 8, 8, 8, 8, 8, 8, 8, 8, 8, 8, 8, 8, 8, 8, 8, 8, 8, 8, 8, 8, 8, 8, 8, 8, 8, 8, 8, 8, 8, 8, 8, 8, 8, 8, 8, 8, 8, 8, 8, 8, 8, 8, 8, 8, 8, 8, 8, 8, 8, 8, 8, 8, 8, 8, 8, 8, 8, 8, 8, 8, 8, 8, 8, 8, 8, 8, 8, 8, 8, 8, 8, 8, 8, 8, 8, 8, 8, 8, 8, 8, 8, 8, 8, 8, 8, 8, 8, 8, 8, 8, 8, 8, 8, 8]⟩ : ByteArray) (ji19)))))) else (none)) else (none)) = some r := by first | (rw [hji19] at H; exact H) | (simp only [hji19] at H ⊢; exact H)
     by_cases c20 : 0 ≤ (ji19)
     case neg =>
      rw [if_neg c20] at H
      exact absurd H (by simp)
     rw [if_pos c20] at H
     have c20b0 : decide (0 ≤ (ji19)) = true := decide_eq_true c20
     clear c20
     by_cases c21 : (ji19) < 256
     case neg =>
      rw [if_neg c21] at H
      exact absurd H (by simp)
     rw [if_pos c21] at H
     have c21b0 : decide ((ji19) < 256) = true := decide_eq_true c21
     clear c21
     obtain rfl := Option.some.inj H
     have p22 : 0 ≤ ((ji19) : Int) := odt
     have q22 : (ji19) < (256 : Int) := odt
     have hx22 := bt_at (⟨#[0, 1, 2, 2, 3, 3, 3, 3, 4, 4, 4, 4, 4, 4, 4, 4, 5, 5, 5, 5, 5, 5, 5, 5, 5, 5, 5, 5, 5, 5, 5, 5, 6, 6, 6, 6, 6, 6, 6, 6, 6, 6, 6, 6, 6, 6, 6, 6, 6, 6, 6, 6, 6, 6, 6, 6, 6, 6, 6, 6, 6, 6, 6, 6, 7, 7, 7, 7, 7, 7, 7, 7, 7, 7, 7, 7, 7, 7, 7, 7, 7, 7, 7, 7, 7, 7, 7, 7, 7, 7, 7, 7, 7, 7, 7, 7, 7, 7, 7, 7, 7, 7, 7, 7, 7, 7, 7, 7, 7, 7, 7, 7, 7, 7, 7, 7, 7, 7, 7, 7, 7, 7, 7, 7, 7, 7, 7, 7, 8, 8, 8, 8, 8, 8, 8, 8, 8, 8, 8, 8, 8, 8, 8, 8, 8, 8, 8, 8, 8, 8, 8, 8, 8, 8, 8, 8, 8, 8, 8, 8, 8, 8, 8, 8, 8, 8, 8, 8, 8, 8, 8, 8, 8, 8, 8, 8, 8, 8, 8, 8, 8, 8, 8, 8, 8, 8, 8, 8, 8, 8, 8, 8, 8, 8, 8, 8, 8, 8, 8, 8, 8, 8, 8, 8, 8, 8, 8, 8, 8, 8, 8, 8, 8, 8, 8, 8, 8, 8, 8, 8, 8, 8, 8, 8, 8, 8, 8, 8, 8, 8, 8, 8, 8, 8, 8, 8, 8, 8, 8, 8, 8, 8, 8, 8, 8, 8, 8, 8, 8, 8, 8, 8, 8, 8, 8, 8]⟩ : ByteArray) (ji19)
     replace p22 := eq_true p22
     replace q22 := eq_true q22
     go_wp2
     go_ret
     exact ⟨by first | rfl | (simp; done) | (simp only [← hji19] <;> (first | rfl | simp)) | (simp [*]; done), by repeat (first | exact qE.refl _ | apply qE.step)⟩
    rw [if_pos c14] at H
    have c14b0 : decide (256 ≤ x0_1) = true := decide_eq_true c14
    clear c14
    obtain ⟨ji15, hji15⟩ : ∃ j_ : Int, ((x0_1 / 256) % 256) = j_ := ⟨_, rfl⟩
    replace H : (if 0 ≤ (ji15) then (if (ji15) < 256 then (some (wrap64 ((wrap64 (x2_1 + 8)) + (wrap64 (bt (⟨#[0, 1, 2, 2, 3, 3, 3, 3, 4, 4, 4, 4, 4, 4, 4, 4, 5, 5, 5, 5, 5, 5, 5, 5, 5, 5, 5, 5, 5, 5, 5, 5, 6, 6, 6, 6, 6, 6, 6, 6, 6, 6, 6, 6, 6, 6, 6, 6, 6, 6, 6, 6, 6, 6, 6, 6, 6, 6, 6, 6, 6, 6, 6, 6, 7, 7, 7, 7, 7, 7, 7, 7, 7, 7, 7, 7, 7, 7, 7, 7, 7, 7, 7, 7, 7, 7, 7, 7, 7, 7, 7, 7, 7, 7, 7, 7, 7, 7, 7, 7, 7, 7, 7, 7, 7, 7, 7, 7, 7, 7, 7, 7, 7, 7, 7, 7, 7, 7, 7, 7, 7, 7, 7, 7, 7, 7, 7, 7, 8, 8, 8, 8, 8, 8, 8, 8, 8, 8, 8, 8, 8, 8, 8, 8, 8, 8, 8, 8, 8, 8, 8, 8, 8, 8, 8, 8, 8, 8, 8, 8, 8, 8, 8, 8, 8, 8, 8, 8, 8, 8, 8, 8, 8, 8, 8, 8, 8, 8, 8, 8, 8, 8, 8, 8, 8, 8, 8, 8, 8, 8, 8, 8, 8, 8, 8, 8, 8, 8, 8, 8, 8, 8, 8, 8, 8, 8, 8, 8, 8, 8, 8, 8, 8, 8, 8, 8, 8, 8, 8, 8, 8, 8, 8, 8, 8, 8, 8, 8, 8, 8, 8, 8, 8, 8, 8, 8, 8, 8, 8, 8, 8, 8, 8, 8, 8, 8, 8, 8, 8, 8, 8, 8, 8, 8, 8, 8]⟩ : ByteArray) (ji15)))))) else (none)) else (none)) = some r := by first | (rw [hji15] at H; exact H) | (simp only [hji15] at H ⊢; exact H)
    by_cases c16 : 0 ≤ (ji15)
    case neg =>
     rw [if_neg c16] at H
     exact absurd H (by simp)
    rw [if_pos c16] at H
    have c16b0 : decide (0 ≤ (ji15)) = true := decide_eq_true c16
    clear c16
    by_cases c17 : (ji15) < 256
    case neg =>
     rw [if_neg c17] at H
     exact absurd H (by simp)
    rw [if_pos c17] at H
    have c17b0 : decide ((ji15) < 256) = true := decide_eq_true c17
    clear c17
    obtain rfl := Option.some.inj H
    have p18 : 0 ≤ ((ji15) : Int) := odt
    have q18 : (ji15) < (256 : Int) := odt
    have hx18 := bt_at (⟨#[0, 1, 2, 2, 3, 3, 3, 3, 4, 4, 4, 4, 4, 4, 4, 4, 5, 5, 5, 5, 5, 5, 5, 5, 5, 5, 5, 5, 5, 5, 5, 5, 6, 6, 6, 6, 6, 6, 6, 6, 6, 6, 6, 6, 6, 6, 6, 6, 6, 6, 6, 6, 6, 6, 6, 6, 6, 6, 6, 6, 6, 6, 6, 6, 7, 7, 7, 7, 7, 7, 7, 7, 7, 7, 7, 7, 7, 7, 7, 7, 7, 7, 7, 7, 7, 7, 7, 7, 7, 7, 7, 7, 7, 7, 7, 7, 7, 7, 7, 7, 7, 7, 7, 7, 7, 7, 7, 7, 7, 7, 7, 7, 7, 7, 7, 7, 7, 7, 7, 7, 7, 7, 7, 7, 7, 7, 7, 7, 8, 8, 8, 8, 8, 8, 8, 8, 8, 8, 8, 8, 8, 8, 8, 8, 8, 8, 8, 8, 8, 8, 8, 8, 8, 8, 8, 8, 8, 8, 8, 8, 8, 8, 8, 8, 8, 8, 8, 8, 8, 8, 8, 8, 8, 8, 8, 8, 8, 8, 8, 8, 8, 8, 8, 8, 8, 8, 8, 8, 8, 8, 8, 8, 8, 8, 8, 8, 8, 8, 8, 8, 8, 8, 8, 8, 8, 8, 8, 8, 8, 8, 8, 8, 8, 8, 8, 8, 8, 8, 8, 8, 8, 8, 8, 8, 8, 8, 8, 8, 8, 8, 8, 8, 8, 8, 8, 8, 8, 8, 8, 8, 8, 8, 8, 8, 8, 8, 8, 8, 8, 8, 8, 8, 8, 8, 8, 8]⟩ : ByteArray) (ji15)
    replace p18 := eq_true p18
    replace q18 := eq_true q18
    go_wp2
    go_ret
    exact ⟨by first | rfl | (simp; done) | (simp only [← hji15] <;> (first | rfl | simp)) | (simp [*]; done), by repeat (first | exact qE.refl _ | apply qE.step)⟩
   rw [if_pos c4] at H
   have c4b0 : decide (65536 ≤ x0_1) = true := decide_eq_true c4
   clear c4
   by_cases c5 : (x0_1 / 65536) ≥ 256
   ·rw [if_pos c5] at H
    have c5b0 : decide (256 ≤ (x0_1 / 65536)) = true := decide_eq_true c5
    clear c5
    obtain ⟨ji6, hji6⟩ : ∃ j_ : Int, (((x0_1 / 65536) / 256) % 256) = j_ := ⟨_, rfl⟩
    replace H : (if 0 ≤ (ji6) then (if (ji6) < 256 then (some (wrap64 ((wrap64 ((wrap64 (x2_1 + 16)) + 8)) + (wrap64 (bt (⟨#[0, 1, 2, 2, 3, 3, 3, 3, 4, 4, 4, 4, 4, 4, 4, 4, 5, 5, 5, 5, 5, 5, 5, 5, 5, 5, 5, 5, 5, 5, 5, 5, 6, 6, 6, 6, 6, 6, 6, 6, 6, 6, 6, 6, 6, 6, 6, 6, 6, 6, 6, 6, 6, 6, 6, 6, 6, 6, 6, 6, 6, 6, 6, 6, 7, 7, 7, 7, 7, 7, 7, 7, 7, 7, 7, 7, 7, 7, 7, 7, 7, 7, 7, 7, 7, 7, 7, 7, 7, 7, 7, 7, 7, 7, 7, 7, 7, 7, 7, 7, 7, 7, 7, 7, 7, 7, 7, 7, 7, 7, 7, 7, 7, 7, 7, 7, 7, 7, 7, 7, 7, 7, 7, 7, 7, 7, 7, 7, 8, 8, 8, 8, 8, 8, 8, 8, 8, 8, 8, 8, 8, 8, 8, 8, 8, 8, 8, 8, 8, 8, 8, 8, 8, 8, 8, 8, 8, 8, 8, 8, 8, 8, 8, 8, 8, 8, 8, 8, 8, 8, 8, 8, 8, 8, 8, 8, 8, 8, 8, 8, 8, 8, 8, 8, 8, 8, 8, 8, 8, 8, 8, 8, 8, 8, 8, 8, 8, 8, 8, 8, 8, 8, 8, 8, 8, 8, 8, 8, 8, 8, 8, 8, 8, 8, 8, 8, 8, 8, 8, 8, 8, 8, 8, 8, 8, 8, 8, 8, 8, 8, 8, 8, 8, 8, 8, 8, 8, 8, 8, 8, 8, 8, 8, 8, 8, 8, 8, 8, 8, 8, 8, 8, 8, 8, 8, 8]⟩ : ByteArray) (ji6)))))) else (none)) else (none)) = some r := by first | (rw [hji6] at H; exact H) | (simp only [hji6] at H ⊢; exact H)
    by_cases c7 : 0 ≤ (ji6)
    case neg =>
     rw [if_neg c7] at H
     exact absurd H (by simp)
    rw [if_pos c7] at H
    have c7b0 : decide (0 ≤ (ji6)) = true := decide_eq_true c7
    clear c7
    by_cases c8 : (ji6) < 256
    case neg =>
     rw [if_neg c8] at H
     exact absurd H (by simp)
    rw [if_pos c8] at H
    have c8b0 : decide ((ji6) < 256) = true := decide_eq_true c8
    clear c8
    obtain rfl := Option.some.inj H
    have p9 : 0 ≤ ((ji6) : Int) := odt
    have q9 : (ji6) < (256 : Int) := odt
    have hx9 := bt_at (⟨#[0, 1, 2, 2, 3, 3, 3, 3, 4, 4, 4, 4, 4, 4, 4, 4, 5, 5, 5, 5, 5, 5, 5, 5, 5, 5, 5, 5, 5, 5, 5, 5, 6, 6, 6, 6, 6, 6, 6, 6, 6, 6, 6, 6, 6, 6, 6, 6, 6, 6, 6, 6, 6, 6, 6, 6, 6, 6, 6, 6, 6, 6, 6, 6, 7, 7, 7, 7, 7, 7, 7, 7, 7, 7, 7, 7, 7, 7, 7, 7, 7, 7, 7, 7, 7, 7, 7, 7, 7, 7, 7, 7, 7, 7, 7, 7, 7, 7, 7, 7, 7, 7, 7, 7, 7, 7, 7, 7, 7, 7, 7, 7, 7, 7, 7, 7, 7, 7, 7, 7, 7, 7, 7, 7, 7, 7, 7, 7, 8, 8, 8, 8, 8, 8, 8, 8, 8, 8, 8, 8, 8, 8, 8, 8, 8, 8, 8, 8, 8, 8, 8, 8, 8, 8, 8, 8, 8, 8, 8, 8, 8, 8, 8, 8, 8, 8, 8, 8, 8, 8, 8, 8, 8, 8, 8, 8, 8, 8, 8, 8, 8, 8, 8, 8, 8, 8, 8, 8, 8, 8, 8, 8, 8, 8, 8, 8, 8, 8, 8, 8, 8, 8, 8, 8, 8, 8, 8, 8, 8, 8, 8, 8, 8, 8, 8, 8, 8, 8, 8, 8, 8, 8, 8, 8, 8, 8, 8, 8, 8, 8, 8, 8, 8, 8, 8, 8, 8, 8, 8, 8, 8, 8, 8, 8, 8, 8, 8, 8, 8, 8, 8, 8, 8, 8, 8, 8]⟩ : ByteArray) (ji6)
    replace p9 := eq_true p9
    replace q9 := eq_true q9
    go_wp2
    go_ret
    exact ⟨by first | rfl | (simp; done) | (simp only [← hji6] <;> (first | rfl | simp)) | (simp [*]; done), by repeat (first | exact qE.refl _ | apply qE.step)⟩
   rw [if_neg c5] at H
   have c5b0 : decide (256 ≤ (x0_1 / 65536)) = false := decide_eq_false c5
   clear c5
   obtain ⟨ji10, hji10⟩ : ∃ j_ : Int, ((x0_1 / 65536) % 256) = j_ := ⟨_, rfl⟩
   replace H : (if 0 ≤ (ji10) then (if (ji10) < 256 then (some (wrap64 ((wrap64 (x2_1 + 16)) + (wrap64 (bt (⟨#[0, 1, 2, 2, 3, 3, 3, 3, 4, 4, 4, 4, 4, 4, 4, 4, 5, 5, 5, 5, 5, 5, 5, 5, 5, 5, 5, 5, 5, 5, 5, 5, 6, 6, 6, 6, 6, 6, 6, 6, 6, 6, 6, 6, 6, 6, 6, 6, 6, 6, 6, 6, 6, 6, 6, 6, 6, 6, 6, 6, 6, 6, 6, 6, 7, 7, 7, 7, 7, 7, 7, 7, 7, 7, 7, 7, 7, 7, 7, 7, 7, 7, 7, 7, 7, 7, 7, 7, 7, 7, 7, 7, 7, 7, 7, 7, 7, 7, 7, 7, 7, 7, 7, 7, 7, 7, 7, 7, 7, 7, 7, 7, 7, 7, 7, 7, 7, 7, 7, 7, 7, 7, 7, 7, 7, 7, 7, 7, 8, 8, 8, 8, 8, 8, 8, 8, 8, 8, 8, 8, 8, 8, 8, 8, 8, 8, 8, 8, 8, 8, 8, 8, 8, 8, 8, 8, 8, 8, 8, 8, 8, 8, 8, 8, 8, 8, 8, 8, 8, 8, 8, 8, 8, 8, 8, 8, 8, 8, 8, 8, 8, 8, 8, 8, 8, 8, 8, 8, 8, 8, 8, 8, 8, 8, 8, 8, 8, 8, 8, 8, 8, 8, 8, 8, 8, 8, 8, 8, 8, 8, 8, 8, 8, 8, 8, 8, 8, 8, 8, 8, 8, 8, 8, 8, 8, 8, 8, 8, 8, 8, 8, 8, 8, 8, 8, 8, 8, 8, 8, 8, 8, 8, 8, 8, 8, 8, 8, 8, 8, 8, 8, 8, 8, 8, 8, 8]⟩ : ByteArray) (ji10)))))) else (none)) else (none)) = some r := by first | (rw [hji10] at H; exact H) | (simp only [hji10] at H ⊢; exact H)
   by_cases c11 : 0 ≤ (ji10)
   case neg =>
    rw [if_neg c11] at H
    exact absurd H (by simp)
   rw [if_pos c11] at H
   have c11b0 : decide (0 ≤ (ji10)) = true := decide_eq_true c11
   clear c11
   by_cases c12 : (ji10) < 256
   case neg =>
    rw [if_neg c12] at H
    exact absurd H (by simp)
   rw [if_pos c12] at H
   have c12b0 : decide ((ji10) < 256) = true := decide_eq_true c12
   clear c12
   obtain rfl := Option.some.inj H
   have p13 : 0 ≤ ((ji10) : Int) := odt
   have q13 : (ji10) < (256 : Int) := odt
   have hx13 := bt_at (⟨#[0, 1, 2, 2, 3, 3, 3, 3, 4, 4, 4, 4, 4, 4, 4, 4, 5, 5, 5, 5, 5, 5, 5, 5, 5, 5, 5, 5, 5, 5, 5, 5, 6, 6, 6, 6, 6, 6, 6, 6, 6, 6, 6, 6, 6, 6, 6, 6, 6, 6, 6, 6, 6, 6, 6, 6, 6, 6, 6, 6, 6, 6, 6, 6, 7, 7, 7, 7, 7, 7, 7, 7, 7, 7, 7, 7, 7, 7, 7, 7, 7, 7, 7, 7, 7, 7, 7, 7, 7, 7, 7, 7, 7, 7, 7, 7, 7, 7, 7, 7, 7, 7, 7, 7, 7, 7, 7, 7, 7, 7, 7, 7, 7, 7, 7, 7, 7, 7, 7, 7, 7, 7, 7, 7, 7, 7, 7, 7, 8, 8, 8, 8, 8, 8, 8, 8, 8, 8, 8, 8, 8, 8, 8, 8, 8, 8, 8, 8, 8, 8, 8, 8, 8, 8, 8, 8, 8, 8, 8, 8, 8, 8, 8, 8, 8, 8, 8, 8, 8, 8, 8, 8, 8, 8, 8, 8, 8, 8, 8, 8, 8, 8, 8, 8, 8, 8, 8, 8, 8, 8, 8, 8, 8, 8, 8, 8, 8, 8, 8, 8, 8, 8, 8, 8, 8, 8, 8, 8, 8, 8, 8, 8, 8, 8, 8, 8, 8, 8, 8, 8, 8, 8, 8, 8, 8, 8, 8, 8, 8, 8, 8, 8, 8, 8, 8, 8, 8, 8, 8, 8, 8, 8, 8, 8, 8, 8, 8, 8, 8, 8, 8, 8, 8, 8, 8, 8]⟩ : ByteArray) (ji10)
   replace p13 := eq_true p13
   replace q13 := eq_true q13
   go_wp2
   go_ret
   exact ⟨by first | rfl | (simp; done) | (simp only [← hji10] <;> (first | rfl | simp)) | (simp [*]; done), by repeat (first | exact qE.refl _ | apply qE.step)⟩
end Go.Proofs.Ytmlkpadlafjfeaa.P
namespace Go.Proofs.Ytmlkpadlafjfeaa.P
open Go.RowKit Go.Proofs.YtmlkpadlafjfeaaW.PrintWords Go.Proofs.YtmlkpadlafjfeaaW.PrintLast Go.Proofs.YtmlkpadlafjfeaaW.PrintMore
attribute [local go_sem] zH zK zU zT zB zC zJ zI
set_option linter.unusedVariables false
set_option linter.unusedSimpArgs false
def bits_LeadingZeros64.f (k : Nat) (a0 : Int) : Option (Int) := (bits_Len64.f k a0).bind fun t117 => (some (wrap64 (64 - t117)))
theorem bits_LeadingZeros64.mono : ∀ a0 k, LeO (bits_LeadingZeros64.f k a0) (bits_LeadingZeros64.f (k + 1) a0) := by
 intro a0 k
 unfold bits_LeadingZeros64.f
 repeat' first
   | (with_reducible exact bits_Len64.mono _ _)
   | (with_reducible exact LeO.refl _)
   | (with_reducible exact LeO.none _)
   | (with_reducible refine LeO.ite ?_ ?_)
   | (with_reducible refine LeO.bind ?_ (fun _ => ?_))
   | exact bits_Len64.mono _ _
   | exact LeO.none _
   | refine LeO.ite ?_ ?_
   | refine LeO.bind ?_ (fun _ => ?_)
set_option maxHeartbeats 8000000 in
set_option maxRecDepth 100000 in
theorem bits_LeadingZeros64.calls (k : Nat) (a0 : Int) (r : Int) (w : World) (h : bits_LeadingZeros64.f k a0 = some r) :
  Calls Try.prog 74 #[.int .u64 a0] w fun e w' => e = .returned (.int .i64 r) ∧ qE w w' := by
 have H : ((bits_Len64.f k a0).bind fun t117 => (some (wrap64 (64 - t117)))) = some r := h
 clear h
 replace H := Option.bind_eq_some_iff.mp H
 obtain ⟨t117, A20, H⟩ := H
 replace H : (some (wrap64 (64 - t117))) = some r := H
 have A2 := qa.mk A20
 clear A20
 obtain rfl := Option.some.inj H
 go_enter Try.func74, Try.ntmps74
 go_wp2_with (first | ((with_reducible refine zf (f := 77) rfl ?_); refine zR (some 4) rfl rfl Try.func77 (by kernel_rfl) rfl #[.int .u64 a0] rfl (by (try simp only [List.map_toArray, List.map_cons, List.map_nil]); first | done | rfl | (simp only [List.length_drop, List.length_take]; rfl)) ?_; (with_reducible refine (bits_Len64.calls k a0 t117 _ A2.out).mono ?_); rintro e w' ⟨rfl, ⟨nd, rfl⟩⟩; refine ⟨_, rfl, ?_⟩))
 go_ret
 exact ⟨by first | rfl | (simp; done) | (simp [*]; done), by repeat (first | exact qE.refl _ | apply qE.step)⟩
end Go.Proofs.Ytmlkpadlafjfeaa.P
namespace Go.Proofs.Ytmlkpadlafjfeaa.P
open Go.RowKit Go.Proofs.YtmlkpadlafjfeaaW.PrintWords Go.Proofs.YtmlkpadlafjfeaaW.PrintLast Go.Proofs.YtmlkpadlafjfeaaW.PrintMore
attribute [local go_sem] zH zK zU zT zB zC zJ zI
set_option linter.unusedVariables false
set_option linter.unusedSimpArgs false
def zt.l0 : Nat → Int → Int → Option (Int)
 | 0, _, _ => none
 | k + 1, x0, x3 => if x3 < 16 then (if x0 > (wrap64 ((wrap64 (4 * x3)) * x3)) then (zt.l0 k x0 (wrap64 (x3 * 2))) else (some x3)) else (some x3)
def zt.f (k : Nat) (a0 : Int) : Option (Int) := zt.l0 k a0 1
theorem zt.zW : ∀ k, (∀ y0 y1, LeO (zt.l0 k y0 y1) (zt.l0 (k + 1) y0 y1))
 | 0 => fun _ _ r h => by simp [zt.l0] at h
 | k + 1 => by
  have ih0 := zt.zW k
  ·intro y0 y1
   unfold zt.l0
   repeat' first
   | (with_reducible exact ih0 _ _)
   | (with_reducible exact LeO.refl _)
   | (with_reducible exact LeO.none _)
   | (with_reducible refine LeO.ite ?_ ?_)
   | (with_reducible refine LeO.bind ?_ (fun _ => ?_))
   | exact ih0 _ _
   | exact LeO.none _
   | refine LeO.ite ?_ ?_
   | refine LeO.bind ?_ (fun _ => ?_)
theorem zt.mono : ∀ a0 k, LeO (zt.f k a0) (zt.f (k + 1) a0) := by
 intro a0 k
 have ih0 := zt.zW k
 unfold zt.f
 repeat' first
   | (with_reducible exact ih0 _ _)
   | (with_reducible exact LeO.refl _)
   | (with_reducible exact LeO.none _)
   | (with_reducible refine LeO.ite ?_ ?_)
   | (with_reducible refine LeO.bind ?_ (fun _ => ?_))
   | exact ih0 _ _
   | exact LeO.none _
   | refine LeO.ite ?_ ?_
   | refine LeO.bind ?_ (fun _ => ?_)
set_option maxHeartbeats 8000000 in
set_option maxRecDepth 100000 in
theorem zt.calls (k : Nat) (a0 : Int) (r : Int) (w : World) (h : zt.f k a0 = some r) :
  Calls Try.prog 64 #[.int .i64 a0] w fun e w' => e = .returned (.int .i64 r) ∧ qE w w' := by
 have H : (zt.l0 k a0 1) = some r := h
 clear h
 have H' := qa.mk H
 clear H
 go_enter Try.func64, Try.ntmps64
 go_wp2
 go_loopg [3] k (fun kq v3 w' => ∃ (x3_1 : Int), v3 = .int .i64 x3_1 ∧ qa (zt.l0 kq a0 x3_1 = some r) ∧ qa (kq ≤ k) ∧ qE w w')
 case atStart => exact ⟨(1), (by first | rfl | (simp; done) | (simp [*]; done)), H', ⟨Nat.le_refl _⟩, by repeat (first | exact qE.refl _ | apply qE.step)⟩
 case round =>
  clear H'
  obtain ⟨x3_1, rfl, HA, HK1, ⟨m1, rfl⟩⟩ := hrel
  cases gk with
  | zero => exact absurd HA.out (by simp [zt.l0])
  | succ k1 =>
   have H := HA.out
   clear HA
   simp only [zt.l0] at H
   by_cases c2 : x3_1 < 16
   case neg =>
    rw [if_neg c2] at H
    have c2b0 : decide (x3_1 < 16) = false := decide_eq_false c2
    clear c2
    obtain rfl := Option.some.inj H
    go_wp2
    go_ret
    exact ⟨by first | rfl | (simp; done) | (simp [*]; done), by repeat (first | exact qE.refl _ | apply qE.step)⟩
   rw [if_pos c2] at H
   have c2b0 : decide (x3_1 < 16) = true := decide_eq_true c2
   clear c2
   by_cases c3 : a0 > (wrap64 ((wrap64 (4 * x3_1)) * x3_1))
   case neg =>
    rw [if_neg c3] at H
    have c3b0 : decide ((wrap64 ((wrap64 (4 * x3_1)) * x3_1)) < a0) = false := decide_eq_false c3
    clear c3
    obtain rfl := Option.some.inj H
    go_wp2
    go_ret
    exact ⟨by first | rfl | (simp; done) | (simp [*]; done), by repeat (first | exact qE.refl _ | apply qE.step)⟩
   rw [if_pos c3] at H
   have c3b0 : decide ((wrap64 ((wrap64 (4 * x3_1)) * x3_1)) < a0) = true := decide_eq_true c3
   clear c3
   have H' := qa.mk H
   clear H
   go_wp2
   go_roundg k1
   case measure => have := HK1.out; omega
   case rel => exact ⟨(wrap64 (x3_1 * 2)), (by first | rfl | (simp; done) | (simp [*]; done)), H', ⟨by have := HK1.out; omega⟩, by repeat (first | exact qE.refl _ | apply qE.step)⟩
end Go.Proofs.Ytmlkpadlafjfeaa.P
namespace Go.Proofs.Ytmlkpadlafjfeaa.P
open Go.RowKit Go.Proofs.YtmlkpadlafjfeaaW.PrintWords Go.Proofs.YtmlkpadlafjfeaaW.PrintLast Go.Proofs.YtmlkpadlafjfeaaW.PrintMore
attribute [local go_sem] zH zK zU zT zB zC zJ zI
set_option linter.unusedVariables false
set_option linter.unusedSimpArgs false
def Qo.f (a0 : Int) : Option (Int) := some (mx a0 (wrap64 (-a0)))
set_option maxHeartbeats 8000000 in
set_option maxRecDepth 100000 in
theorem Qo.calls (a0 : Int) (r : Int) (w : World) (h : Qo.f a0 = some r) :
  Calls Try.prog 75 #[.int .i64 a0] w fun e w' => e = .returned (.int .i64 r) ∧ Below w.heap.size w w' := by
 have HB := qa.mk (Below.refl w.heap.size w)
 have H : (some (mx a0 (wrap64 (-a0)))) = some r := h
 clear h
 obtain ⟨ji2, hji2⟩ : ∃ j_ : Int, (mx a0 (wrap64 (-a0))) = j_ := ⟨_, rfl⟩
 replace H : (some ji2) = some r := by first | (rw [hji2] at H; exact H) | (simp only [hji2] at H ⊢; exact H)
 have hji2_ : (if a0 < (wrap64 (-a0)) then (wrap64 (-a0)) else a0) = ji2 := hji2
 obtain rfl := Option.some.inj H
 go_enter Try.func75, Try.ntmps75
 go_wp2
 go_ret
 exact ⟨by first | rfl | (simp [qR, qU] <;> rfl) | (simp only [← hji2]; first | rfl | (simp [qR, qU] <;> rfl)) | (simp [*, qR, qU] <;> rfl), bq HB⟩
end Go.Proofs.Ytmlkpadlafjfeaa.P
namespace Go.Proofs.Ytmlkpadlafjfeaa.P
open Go.RowKit Go.Proofs.YtmlkpadlafjfeaaW.PrintWords Go.Proofs.YtmlkpadlafjfeaaW.PrintLast Go.Proofs.YtmlkpadlafjfeaaW.PrintMore
attribute [local go_sem] zH zK zU zT zB zC zJ zI
set_option linter.unusedVariables false
set_option linter.unusedSimpArgs false
def qM.f (a0 : Int) : Option (Bool) := if a0 ≥ (-2147483647) then (some (decide (a0 ≤ 2147483647))) else (some false)
set_option maxHeartbeats 8000000 in
set_option maxRecDepth 100000 in
theorem qM.calls (a0 : Int) (r : Bool) (w : World) (h : qM.f a0 = some r) :
  Calls Try.prog 16 #[.int .i64 a0] w fun e w' => e = .returned (.bool r) ∧ qE w w' := by
 have H : (if a0 ≥ (-2147483647) then (some (decide (a0 ≤ 2147483647))) else (some false)) = some r := h
 clear h
 by_cases c2 : a0 ≥ (-2147483647)
 ·rw [if_pos c2] at H
  have c2b0 : decide ((-2147483647) ≤ a0) = true := decide_eq_true c2
  clear c2
  obtain rfl := Option.some.inj H
  go_enter Try.func16, Try.ntmps16
  go_wp2
  go_ret
  exact ⟨by first | rfl | (simp; done) | (simp [*]; done), by repeat (first | exact qE.refl _ | apply qE.step)⟩
 rw [if_neg c2] at H
 have c2b0 : decide ((-2147483647) ≤ a0) = false := decide_eq_false c2
 clear c2
 obtain rfl := Option.some.inj H
 go_enter Try.func16, Try.ntmps16
 go_wp2
 go_ret
 exact ⟨by first | rfl | (simp; done) | (simp [*]; done), by repeat (first | exact qE.refl _ | apply qE.step)⟩
end Go.Proofs.Ytmlkpadlafjfeaa.P
namespace Go.Proofs.Ytmlkpadlafjfeaa.P
open Go.RowKit Go.Proofs.YtmlkpadlafjfeaaW.PrintWords Go.Proofs.YtmlkpadlafjfeaaW.PrintLast Go.Proofs.YtmlkpadlafjfeaaW.PrintMore
attribute [local go_sem] zH zK zU zT zB zC zJ zI
set_option linter.unusedVariables false
set_option linter.unusedSimpArgs false
def zi.l0 : Nat → List (List (S40)) → List (List (S40)) → Int → Int → Option ((List (List (S40))))
 | 0, _, _, _, _ => none
 | k + 1, x3, x8, x9, x10 => if x10 < x9 then (if 0 ≤ x10 then (if x10 < (x8.length : Int) then ((some (([] : List (S40)) : List (S40))).bind fun y230 => (if y230.length + (qp x8 x10).length < 5864062014805 then (if x3.length < 5864062014805 then (zi.l0 k (x3 ++ [(y230 ++ (qp x8 x10))]) x8 x9 (wrap64 (x10 + 1))) else (none)) else (none))) else (none)) else (none)) else (some x3)
def zi.f (k : Nat) (l0 : List (List (S40))) : Option ((List (List (S40)))) := zi.l0 k (([] : List (List (S40)))) l0 (l0.length : Int) 0
theorem zi.zW : ∀ k, (∀ y0 y1 y2 y3, LeO (zi.l0 k y0 y1 y2 y3) (zi.l0 (k + 1) y0 y1 y2 y3))
 | 0 => fun _ _ _ _ r h => by simp [zi.l0] at h
 | k + 1 => by
  have ih0 := zi.zW k
  ·intro y0 y1 y2 y3
   unfold zi.l0
   repeat' first
   | (with_reducible exact ih0 _ _ _ _)
   | (with_reducible exact LeO.refl _)
   | (with_reducible exact LeO.none _)
   | (with_reducible refine LeO.ite ?_ ?_)
   | (with_reducible refine LeO.bind ?_ (fun _ => ?_))
   | exact ih0 _ _ _ _
   | exact LeO.none _
   | refine LeO.ite ?_ ?_
   | refine LeO.bind ?_ (fun _ => ?_)
theorem zi.mono : ∀ a0 k, LeO (zi.f k a0) (zi.f (k + 1) a0) := by
 intro a0 k
 have ih0 := zi.zW k
 unfold zi.f
 repeat' first
   | (with_reducible exact ih0 _ _ _ _)
   | (with_reducible exact LeO.refl _)
   | (with_reducible exact LeO.none _)
   | (with_reducible refine LeO.ite ?_ ?_)
   | (with_reducible refine LeO.bind ?_ (fun _ => ?_))
   | exact ih0 _ _ _ _
   | exact LeO.none _
   | refine LeO.ite ?_ ?_
   | refine LeO.bind ?_ (fun _ => ?_)
set_option maxHeartbeats 8000000 in
set_option maxRecDepth 100000 in
theorem zi.calls (k : Nat) (A0 : Option Addr) (c0 : Nat) (l0 : List (List (S40))) (r : List (List (S40))) (w : World) (hr0 : Kd.C (Kd.slice 40 k40) w A0 l0.length l0) (hc0 : l0.length ≤ c0) (h : zi.f k l0 = some r) :
  Calls Try.prog 11 #[.slice A0 l0.length c0] w fun e w' => ∃ v0_ : Value, e = .returned (v0_) ∧ Kd.S (Kd.slice 40 k40) 37 w' w.heap.size (fun _ => True) v0_ r ∧ Below w.heap.size w w' := by
 have HR0 := qa.mk hr0
 have HC0 := qa.mk hc0
 clear hr0 hc0
 have HB := qa.mk (Below.refl w.heap.size w)
 have H : (zi.l0 k (([] : List (List (S40)))) l0 (l0.length : Int) 0) = some r := h
 clear h
 obtain ⟨y226, hy226⟩ : ∃ y_ : List (List (S40)), y_ = (([] : List (List (S40)))) := ⟨_, rfl⟩
 replace H : (zi.l0 k y226 l0 (l0.length : Int) 0) = some r := by first | (rw [hy226]; with_reducible exact H) | (have H2_ := (Option.bind_some _ _).symm.trans H; rw [hy226]; with_reducible exact H2_) | (have H2_ := (Option.bind_some _ _).symm.trans H; with_reducible exact H2_) | with_reducible exact H | (rw [hy226]; exact H) | exact H
 have Ny226 := qa.mk hy226
 clear hy226
 have H' := qa.mk H
 clear H
 go_enter Try.func11, Try.ntmps11
 go_wp2_with (first | ((with_reducible refine zl (N := 7) rfl ?_); refine Kd.S_lit (Kd.slice 40 k40) _ 37 ?hg (N := 7) ?hd (xs := ([] : List (List (S40)))) (inner := []) (ok := fun _ => True) (okp := fun _ => True) ?hr ?hp (fun _ hk => hk) trivial (Below.refl _ _) (Nat.le_refl _) (by simp) ?_; (case hd => rfl); (case hg => rfl); (case hr => first | (go_simp; done) | (go_simp; rfl)); (case hp => exact (zn.none _ _)); intro v227 w2 ho3 hb hg_ hnew_; clear hg_ hnew_; (first | rw [← Ny226.out] at ho3 | (simp only [Int.reduceToNat] at ho3; rw [← Ny226.out] at ho3)); have n0_ := qa.mk (Kd.Zm ho3 (qx (bq HB))); have n1_ := qa.mk (qh (bq HB) hb); clear HB; have HO228 := n0_; have HB := n1_; clear n0_ n1_; clear hb ho3))
 go_loopg [3, 10] k (fun kq v3 v10 w' => ∃ (x3_1 : List (List (S40))) (x10_1 : Int), v10 = .int .i64 x10_1 ∧ qa (zi.l0 kq x3_1 l0 (l0.length : Int) x10_1 = some r) ∧ qa (kq ≤ k) ∧ qa (Kd.S (Kd.slice 40 k40) 37 w' w.heap.size (fun _ => True) v3 x3_1) ∧ qa (Below w.heap.size w w'))
 case atStart => exact ⟨(y226), (0), (by first | rfl | (simp; done) | (simp [*]; done)), H', ⟨Nat.le_refl _⟩, ⟨by (with_reducible repeat (first | apply Kd.jw | apply Kd.jv | apply Kd.jM)); exact HO228.out⟩, ⟨bq HB⟩⟩
 case round =>
  clear H'
  try clear c1
  try clear p2
  obtain ⟨x3_1, x10_1, rfl, HA, HK1, HO_3, HB⟩ := hrel
  cases gk with
  | zero => exact absurd HA.out (by simp [zi.l0])
  | succ k1 =>
   have H := HA.out
   clear HA
   simp only [zi.l0] at H
   by_cases c4 : x10_1 < (l0.length : Int)
   case neg =>
    rw [if_neg c4] at H
    have c4b0 : decide (x10_1 < (l0.length : Int)) = false := decide_eq_false c4
    clear c4
    obtain rfl := Option.some.inj H
    go_wp2
    go_ret
    exact ⟨_, by first | rfl | (simp [qR, qU] <;> rfl) | (simp [*, qR, qU] <;> rfl), by (with_reducible repeat (first | apply Kd.jw | apply Kd.jv | apply Kd.jM)); exact HO_3.out, bq HB⟩
   rw [if_pos c4] at H
   have c4b0 : decide (x10_1 < (l0.length : Int)) = true := decide_eq_true c4
   clear c4
   by_cases c5 : 0 ≤ x10_1
   case neg =>
    rw [if_neg c5] at H
    exact absurd H (by simp)
   rw [if_pos c5] at H
   have c5b0 : decide (0 ≤ x10_1) = true := decide_eq_true c5
   clear c5
   by_cases c6 : x10_1 < (l0.length : Int)
   case neg =>
    rw [if_neg c6] at H
    exact absurd H (by simp)
   rw [if_pos c6] at H
   have c6b0 : decide (x10_1 < (l0.length : Int)) = true := decide_eq_true c6
   clear c6
   obtain ⟨y230, hy230⟩ : ∃ y_ : List (S40), y_ = (([] : List (S40))) := ⟨_, rfl⟩
   replace H : (if y230.length + (qp l0 x10_1).length < 5864062014805 then (if x3_1.length < 5864062014805 then (zi.l0 k1 (x3_1 ++ [(y230 ++ (qp l0 x10_1))]) l0 (l0.length : Int) (wrap64 (x10_1 + 1))) else (none)) else (none)) = some r := by first | (rw [hy230]; with_reducible exact H) | (have H2_ := (Option.bind_some _ _).symm.trans H; rw [hy230]; with_reducible exact H2_) | (have H2_ := (Option.bind_some _ _).symm.trans H; with_reducible exact H2_) | with_reducible exact H | (rw [hy230]; exact H) | exact H
   have Ny230 := qa.mk hy230
   clear hy230
   by_cases c7 : y230.length + (qp l0 x10_1).length < 5864062014805
   case neg =>
    rw [if_neg c7] at H
    exact absurd H (by simp)
   rw [if_pos c7] at H
   have LMc7 := qa.mk c7
   clear c7
   obtain ⟨y233, hy233⟩ : ∃ y_ : List (S40), y_ = (y230 ++ (qp l0 x10_1)) := ⟨_, rfl⟩
   replace H : (if x3_1.length < 5864062014805 then (zi.l0 k1 (x3_1 ++ [y233]) l0 (l0.length : Int) (wrap64 (x10_1 + 1))) else (none)) = some r := by first | (rw [hy233]; with_reducible exact H) | (have H2_ := (Option.bind_some _ _).symm.trans H; rw [hy233]; with_reducible exact H2_) | (have H2_ := (Option.bind_some _ _).symm.trans H; with_reducible exact H2_) | with_reducible exact H | (rw [hy233]; exact H) | exact H
   have Ny233 := qa.mk hy233
   clear hy233
   by_cases c8 : x3_1.length < 5864062014805
   case neg =>
    rw [if_neg c8] at H
    exact absurd H (by simp)
   rw [if_pos c8] at H
   have LMc8 := qa.mk c8
   clear c8
   obtain ⟨y236, hy236⟩ : ∃ y_ : List (List (S40)), y_ = (x3_1 ++ [y233]) := ⟨_, rfl⟩
   replace H : (zi.l0 k1 y236 l0 (l0.length : Int) (wrap64 (x10_1 + 1))) = some r := by first | (rw [hy236]; with_reducible exact H) | (have H2_ := (Option.bind_some _ _).symm.trans H; rw [hy236]; with_reducible exact H2_) | (have H2_ := (Option.bind_some _ _).symm.trans H; with_reducible exact H2_) | with_reducible exact H | (rw [hy236]; exact H) | exact H
   have Ny236 := qa.mk hy236
   clear hy236
   have H' := qa.mk H
   clear H
   have p229 : 0 ≤ (x10_1 : Int) := odt
   have q229 : x10_1 < (l0.length : Int) := odt
   obtain ⟨ad229, A229_0, c229_0, e229, hx229_0, hl229_0, hi229_0⟩ := Qm HR0.out x10_1 p229 q229
   cases e229
   replace hx229_0 := (HB.out.cell (World.block_lt_of_cell? w _ hx229_0)).trans hx229_0
   have HR229_0 := qa.mk hi229_0
   have HC229_0 := qa.mk hl229_0
   clear hi229_0 hl229_0
   replace p229 := eq_true p229
   replace q229 := eq_true q229
   go_wp2_with (first | ((with_reducible refine zl (N := 14) rfl ?_); refine Kd.Za k40 _ 40 ?hg (N := 14) ?hd (xs := ([] : List (S40))) (inner := []) (ok := fun _ => True) (okp := fun _ => True) ?hr ?hp (fun _ hk => hk) trivial (Below.refl _ _) (Nat.le_refl _) (by simp) ?_; (case hd => rfl); (case hg => rfl); (case hr => first | (go_simp; done) | (go_simp; rfl)); (case hp => exact (zn.none _ _)); intro v231 w9 ho10 hb hg_ hnew_; clear hg_ hnew_; (first | rw [← Ny230.out] at ho10 | (simp only [Int.reduceToNat] at ho10; rw [← Ny230.out] at ho10)); have n0_ := qa.mk (Kd.J7 (by (with_reducible repeat (first | apply Kd.jw | apply Kd.jv | apply Kd.jM)); exact HO_3.out) (Kd.Zt ho10) hb); have n1_ := qa.mk (Kd.jU ho10 (qx (bq HB))); have n2_ := qa.mk (qh (bq HB) hb); clear HO_3; clear HB; have HO_3 := n0_; have HO232 := n1_; have HB := n2_; clear n0_ n1_ n2_; clear hb ho10) | ((with_reducible refine Qq (b := .append) (xs := #[.tmp 16, .tmp 17]) rfl ?_); at_builtin; refine Kd.qad k40 (w0 := w) w.heap.size rfl (.tmp 16) (.tmp 17) 37 40 (.agg #[(.int .i64 0), (.int .i64 0), (.int .i64 0)]) 24 rfl Try.underlying37 QW rfl (by decide) (by omega) v231 y230 (qp l0 x10_1) _ _ _ (fun _ => True) (fun _ => False) rfl rfl ?aO ?aR (fun _ _ h => h) (fun _ h => h.elim) ?aF ?aB ?aS ?aL ?_; (case aR => repeat (first | exact (Kd.jb HR229_0.out HB.out) | (with_reducible refine Kd.jY ?_ _) | (with_reducible refine Kd.j6 ?_ _) | (with_reducible refine Kd.Qt ?_))); (case aB => exact (bq HB)); (case aF => exact (fun _ _ => trivial)); (case aO => exact (rq HO232)); (case aS => exact (qx (bq HB))); (case aL => have := LMc7.out; omega); intro v234 w11 ho hb hg hat; rw [← Ny233.out] at ho; have n0_ := qa.mk (Kd.S_after (ok := (fun _ => True)) (by (with_reducible repeat (first | apply Kd.jw | apply Kd.jv | apply Kd.jM)); exact HO_3.out) hg hat); have n1_ := qa.mk (hb); have n2_ := qa.mk (ho); clear HO_3; clear HB; clear HO232; have HO_3 := n0_; have HB := n1_; have HO235 := n2_; clear n0_ n1_ n2_; clear ho hb hg hat; obtain ⟨Ao13, co13, eo13⟩ := Kd.zX HO235.out; subst eo13) | ((with_reducible refine Qq (b := .append) (xs := #[.tmp 15, .tmp 19]) rfl ?_); at_builtin; refine Kd.S_append (Kd.slice 40 k40) (w0 := w) w.heap.size rfl (.tmp 15) (.tmp 19) 23 37 (.slice none 0 0) 24 rfl Try.underlying23 info37 rfl (by decide) (by omega) u3 x3_1 y233 [.slice Ao13 y233.length co13] (fun _ => True) (fun k_ => some k_ = (.slice Ao13 y233.length co13 : Value).ownBlock) rfl rfl ?aP (fun k_ hk_ => ((Kd.zV (ok' := fun k_ => ((fun _ => True)) k_ ∧ some k_ ≠ (u3 : Value).ownBlock) (Kd.QL (HO235.out) (Kd.ZO HO_3.out) (by decide)) (fun k_ hk => ⟨trivial, hk.2⟩))).1 k_ hk_.symm) ?aF ?aO ?aB ?aS ?aL ?_; (case aP => exact Kd.M_row (Kd.zV (Kd.R_tight rfl (Kd.zV (ok' := fun k_ => ((fun _ => True)) k_ ∧ some k_ ≠ (u3 : Value).ownBlock) (Kd.QL (HO235.out) (Kd.ZO HO_3.out) (by decide)) (fun k_ hk => ⟨trivial, hk.2⟩))) (fun _ h_ => h_))); (case aB => exact (bq HB)); (case aF => exact (fun _ _ => trivial)); (case aO => exact (by (with_reducible repeat (first | apply Kd.jw | apply Kd.jv | apply Kd.jM)); exact Kd.jr HO_3.out (fun k_ hk => ⟨trivial, fun e_ => hk.2 e_⟩))); (case aS => exact (qx (bq HB))); (case aL => have := LMc8.out; omega); intro v237 w12 ho hb hg hat; rw [← Ny236.out] at ho; have n0_ := qa.mk (hb); have n1_ := qa.mk (ho); clear HB; clear HO_3; clear HO235; have HB := n0_; have HO238 := n1_; clear n0_ n1_; clear ho hb hg hat))
   go_roundg k1
   case measure => have := HK1.out; omega
   case rel => exact ⟨(y236), (wrap64 (x10_1 + 1)), (by first | rfl | (simp; done) | (simp [*]; done)), H', ⟨by have := HK1.out; omega⟩, ⟨by (with_reducible repeat (first | apply Kd.jw | apply Kd.jv | apply Kd.jM)); exact HO238.out⟩, ⟨bq HB⟩⟩
end Go.Proofs.Ytmlkpadlafjfeaa.P
namespace Go.Proofs.Ytmlkpadlafjfeaa.P
open Go.RowKit Go.Proofs.YtmlkpadlafjfeaaW.PrintWords Go.Proofs.YtmlkpadlafjfeaaW.PrintLast Go.Proofs.YtmlkpadlafjfeaaW.PrintMore
attribute [local go_sem] zH zK zU zT zB zC zJ zI
set_option linter.unusedVariables false
set_option linter.unusedSimpArgs false
def jJ.f (a0 : Int) (a1 : Int) : Option (Int × Int) := (qM.f a0).bind fun t533 => (if t533 = true then ((qM.f a1).bind fun t534 => (if t534 = true then ((qM.f (wrap64 (a0 + a1))).bind fun t535 => (if t535 = true then (some (wrap64 (a0 + a1), 0)) else (some (0, 14)))) else (some (0, 14)))) else (some (0, 14)))
set_option maxHeartbeats 8000000 in
set_option maxRecDepth 100000 in
theorem jJ.calls (a0 : Int) (a1 : Int) (r1 : Int) (r2 : Int) (w : World) (h : jJ.f a0 a1 = some (r1, r2)) :
  Calls Try.prog 54 #[.int .i64 a0, .int .i64 a1] w fun e w' => e = .returned (.tuple #[.int .i64 r1, .int .i64 r2]) ∧ qE w w' := by
 have H : ((qM.f a0).bind fun t533 => (if t533 = true then ((qM.f a1).bind fun t534 => (if t534 = true then ((qM.f (wrap64 (a0 + a1))).bind fun t535 => (if t535 = true then (some (wrap64 (a0 + a1), 0)) else (some (0, 14)))) else (some (0, 14)))) else (some (0, 14)))) = some (r1, r2) := h
 clear h
 replace H := Option.bind_eq_some_iff.mp H
 obtain ⟨t533, A30, H⟩ := H
 replace H : (if t533 = true then ((qM.f a1).bind fun t534 => (if t534 = true then ((qM.f (wrap64 (a0 + a1))).bind fun t535 => (if t535 = true then (some (wrap64 (a0 + a1), 0)) else (some (0, 14)))) else (some (0, 14)))) else (some (0, 14))) = some (r1, r2) := H
 have A3 := qa.mk A30
 clear A30
 by_cases c4 : t533 = true
 case neg =>
  replace c4 := Bool.eq_false_iff.mpr c4
  subst c4
  have H1 : (some (0, 14)) = some (r1, r2) := by rw [if_neg (show ¬ (false = true) by decide)] at H; exact H
  clear H
  have H := H1
  clear H1
  simp only [Option.some.injEq, Prod.mk.injEq] at H
  obtain ⟨rfl, rfl⟩ := H
  go_enter Try.func54, Try.ntmps54
  go_wp2_with (first | ((with_reducible refine zf (f := 16) rfl ?_); refine zR (some 7) rfl rfl Try.func16 (by kernel_rfl) rfl #[.int .i64 a0] rfl (by (try simp only [List.map_toArray, List.map_cons, List.map_nil]); first | done | rfl | (simp only [List.length_drop, List.length_take]; rfl)) ?_; (with_reducible refine (qM.calls a0 false _ A3.out).mono ?_); rintro e w' ⟨rfl, ⟨nd, rfl⟩⟩; refine ⟨_, rfl, ?_⟩))
  go_ret2
  exact ⟨by first | rfl | (simp; done) | (simp [*]; done), by repeat (first | exact qE.refl _ | apply qE.step)⟩
 subst c4
 have H1 : ((qM.f a1).bind fun t534 => (if t534 = true then ((qM.f (wrap64 (a0 + a1))).bind fun t535 => (if t535 = true then (some (wrap64 (a0 + a1), 0)) else (some (0, 14)))) else (some (0, 14)))) = some (r1, r2) := by rw [if_pos rfl] at H; exact H
 clear H
 have H := H1
 clear H1
 replace H := Option.bind_eq_some_iff.mp H
 obtain ⟨t534, A50, H⟩ := H
 replace H : (if t534 = true then ((qM.f (wrap64 (a0 + a1))).bind fun t535 => (if t535 = true then (some (wrap64 (a0 + a1), 0)) else (some (0, 14)))) else (some (0, 14))) = some (r1, r2) := H
 have A5 := qa.mk A50
 clear A50
 by_cases c6 : t534 = true
 case neg =>
  replace c6 := Bool.eq_false_iff.mpr c6
  subst c6
  have H1 : (some (0, 14)) = some (r1, r2) := by rw [if_neg (show ¬ (false = true) by decide)] at H; exact H
  clear H
  have H := H1
  clear H1
  simp only [Option.some.injEq, Prod.mk.injEq] at H
  obtain ⟨rfl, rfl⟩ := H
  go_enter Try.func54, Try.ntmps54
  go_wp2_with (first | ((with_reducible refine zf (f := 16) rfl ?_); refine zR (some 7) rfl rfl Try.func16 (by kernel_rfl) rfl #[.int .i64 a0] rfl (by (try simp only [List.map_toArray, List.map_cons, List.map_nil]); first | done | rfl | (simp only [List.length_drop, List.length_take]; rfl)) ?_; (with_reducible refine (qM.calls a0 true _ A3.out).mono ?_); rintro e w' ⟨rfl, ⟨nd, rfl⟩⟩; refine ⟨_, rfl, ?_⟩) | (go_at_call 16; (with_reducible refine (qM.calls a1 false _ A5.out).mono ?_); rintro e w' ⟨rfl, ⟨nd, rfl⟩⟩))
  go_ret2
  exact ⟨by first | rfl | (simp; done) | (simp [*]; done), by repeat (first | exact qE.refl _ | apply qE.step)⟩
 subst c6
 have H1 : ((qM.f (wrap64 (a0 + a1))).bind fun t535 => (if t535 = true then (some (wrap64 (a0 + a1), 0)) else (some (0, 14)))) = some (r1, r2) := by rw [if_pos rfl] at H; exact H
 clear H
 have H := H1
 clear H1
 replace H := Option.bind_eq_some_iff.mp H
 obtain ⟨t535, A70, H⟩ := H
 replace H : (if t535 = true then (some (wrap64 (a0 + a1), 0)) else (some (0, 14))) = some (r1, r2) := H
 have A7 := qa.mk A70
 clear A70
 by_cases c8 : t535 = true
 ·subst c8
  have H1 : (some (wrap64 (a0 + a1), 0)) = some (r1, r2) := by rw [if_pos rfl] at H; exact H
  clear H
  have H := H1
  clear H1
  simp only [Option.some.injEq, Prod.mk.injEq] at H
  obtain ⟨rfl, rfl⟩ := H
  go_enter Try.func54, Try.ntmps54
  go_wp2_with (first | ((with_reducible refine zf (f := 16) rfl ?_); refine zR (some 7) rfl rfl Try.func16 (by kernel_rfl) rfl #[.int .i64 a0] rfl (by (try simp only [List.map_toArray, List.map_cons, List.map_nil]); first | done | rfl | (simp only [List.length_drop, List.length_take]; rfl)) ?_; (with_reducible refine (qM.calls a0 true _ A3.out).mono ?_); rintro e w' ⟨rfl, ⟨nd, rfl⟩⟩; refine ⟨_, rfl, ?_⟩) | (go_at_call 16; (with_reducible refine (qM.calls a1 true _ A5.out).mono ?_); rintro e w' ⟨rfl, ⟨nd, rfl⟩⟩) | (go_at_call 16; (with_reducible refine (qM.calls (wrap64 (a0 + a1)) true _ A7.out).mono ?_); rintro e w' ⟨rfl, ⟨nd, rfl⟩⟩))
  go_ret2
  exact ⟨by first | rfl | (simp; done) | (simp [*]; done), by repeat (first | exact qE.refl _ | apply qE.step)⟩
 replace c8 := Bool.eq_false_iff.mpr c8
 subst c8
 have H1 : (some (0, 14)) = some (r1, r2) := by rw [if_neg (show ¬ (false = true) by decide)] at H; exact H
 clear H
 have H := H1
 clear H1
 simp only [Option.some.injEq, Prod.mk.injEq] at H
 obtain ⟨rfl, rfl⟩ := H
 go_enter Try.func54, Try.ntmps54
 go_wp2_with (first | ((with_reducible refine zf (f := 16) rfl ?_); refine zR (some 7) rfl rfl Try.func16 (by kernel_rfl) rfl #[.int .i64 a0] rfl (by (try simp only [List.map_toArray, List.map_cons, List.map_nil]); first | done | rfl | (simp only [List.length_drop, List.length_take]; rfl)) ?_; (with_reducible refine (qM.calls a0 true _ A3.out).mono ?_); rintro e w' ⟨rfl, ⟨nd, rfl⟩⟩; refine ⟨_, rfl, ?_⟩) | (go_at_call 16; (with_reducible refine (qM.calls a1 true _ A5.out).mono ?_); rintro e w' ⟨rfl, ⟨nd, rfl⟩⟩) | (go_at_call 16; (with_reducible refine (qM.calls (wrap64 (a0 + a1)) false _ A7.out).mono ?_); rintro e w' ⟨rfl, ⟨nd, rfl⟩⟩))
 go_ret2
 exact ⟨by first | rfl | (simp; done) | (simp [*]; done), by repeat (first | exact qE.refl _ | apply qE.step)⟩
end Go.Proofs.Ytmlkpadlafjfeaa.P
namespace Go.Proofs.Ytmlkpadlafjfeaa.P
open Go.RowKit Go.Proofs.YtmlkpadlafjfeaaW.PrintWords Go.Proofs.YtmlkpadlafjfeaaW.PrintLast Go.Proofs.YtmlkpadlafjfeaaW.PrintMore
attribute [local go_sem] zH zK zU zT zB zC zJ zI
set_option linter.unusedVariables false
set_option linter.unusedSimpArgs false
set_option maxHeartbeats 8000000 in
set_option maxRecDepth 100000 in
theorem size_walk0 (n m : Int) (hn : 0 ≤ n) (e1 : IntKind.u64.wrap n = m) (h0 : 0 ≤ m) (h1 : m ≤ 9223372036854775808) (w : World) :
  Calls Try.prog 70 #[.int .i64 n] w fun e w' => e = .returned (.agg #[.int .i64 (m % 65536), .int .i64 (m / 65536 % 65536), .int .i64 (m / 65536 / 65536 % 65536), .int .i64 (m / 65536 / 65536 / 65536 % 65536), .int .i64 (0), .int .i64 (0), .int .i64 (0), .int .i64 (0), .int .i64 (0), .int .i64 (0)]) ∧ Below w.heap.size w w' := by
 have hu := Try.underlying116
 go_enter Try.func70, Try.ntmps70
 go_wp2
 refine wp_loop_rounds 5 ?_
 rw [rounds_succ]
 go_wp2
 rw [rounds_succ]
 go_wp2
 rw [rounds_succ]
 go_wp2
 rw [rounds_succ]
 go_wp2
 rw [rounds_succ]
 go_wp2
 exact bodyPost_ret (v := .agg #[.int .i64 (m % 65536), .int .i64 (m / 65536 % 65536), .int .i64 (m / 65536 / 65536 % 65536), .int .i64 (m / 65536 / 65536 / 65536 % 65536), .int .i64 (0), .int .i64 (0), .int .i64 (0), .int .i64 (0), .int .i64 (0), .int .i64 (0)]) (by simp [results, Try.results70, go_sem]) rfl ⟨rfl, (((Below.refl _ _).alloc (Nat.le_refl _) _).alloc (by simp) _)⟩
set_option maxHeartbeats 8000000 in
set_option maxRecDepth 100000 in
theorem size_walk1 (n m m0 : Int) (hn : n < 0) (e1 : IntKind.u64.wrap n = m0) (e2 : IntKind.u64.wrap (-m0) = m) (h0 : 0 ≤ m) (h1 : m ≤ 9223372036854775808) (w : World) :
  Calls Try.prog 70 #[.int .i64 n] w fun e w' => e = .returned (.agg #[.int .i64 (m % 65536), .int .i64 (m / 65536 % 65536), .int .i64 (m / 65536 / 65536 % 65536), .int .i64 (m / 65536 / 65536 / 65536 % 65536), .int .i64 (0), .int .i64 (0), .int .i64 (0), .int .i64 (0), .int .i64 (0), .int .i64 (0)]) ∧ Below w.heap.size w w' := by
 have hu := Try.underlying116
 go_enter Try.func70, Try.ntmps70
 go_wp2
 refine wp_loop_rounds 5 ?_
 rw [rounds_succ]
 go_wp2
 rw [rounds_succ]
 go_wp2
 rw [rounds_succ]
 go_wp2
 rw [rounds_succ]
 go_wp2
 rw [rounds_succ]
 go_wp2
 exact bodyPost_ret (v := .agg #[.int .i64 (m % 65536), .int .i64 (m / 65536 % 65536), .int .i64 (m / 65536 / 65536 % 65536), .int .i64 (m / 65536 / 65536 / 65536 % 65536), .int .i64 (0), .int .i64 (0), .int .i64 (0), .int .i64 (0), .int .i64 (0), .int .i64 (0)]) (by simp [results, Try.results70, go_sem]) rfl ⟨rfl, (((Below.refl _ _).alloc (Nat.le_refl _) _).alloc (by simp) _)⟩
def qV.f (a0 : Int) : Option (Int × Int × Int × Int × Int × Int × Int × Int × Int × Int) := if -9223372036854775808 ≤ a0 ∧ a0 ≤ 9223372036854775807 then some (digs (if a0 < 0 then -a0 else a0)) else none
theorem size_digs {m : Int} (h0 : 0 ≤ m) (h1 : m ≤ 9223372036854775808) : digs m = (m % 65536, m / 65536 % 65536, m / 65536 / 65536 % 65536, m / 65536 / 65536 / 65536 % 65536, 0, 0, 0, 0, 0, 0) := by
 simp only [digs, Prod.mk.injEq]
 refine ⟨trivial, trivial, ?_, ?_, ?_, ?_, ?_, ?_, ?_, ?_⟩ <;> omega
theorem qV.calls (a0 : Int) (r1 : Int) (r2 : Int) (r3 : Int) (r4 : Int) (r5 : Int) (r6 : Int) (r7 : Int) (r8 : Int) (r9 : Int) (r10 : Int) (w : World) (h : qV.f a0 = some (r1, r2, r3, r4, r5, r6, r7, r8, r9, r10)) :
  Calls Try.prog 70 #[.int .i64 a0] w fun e w' => e = .returned (.agg #[.int .i64 r1, .int .i64 r2, .int .i64 r3, .int .i64 r4, .int .i64 r5, .int .i64 r6, .int .i64 r7, .int .i64 r8, .int .i64 r9, .int .i64 r10]) ∧ Below w.heap.size w w' := by
 unfold qV.f at h
 by_cases hb : -9223372036854775808 ≤ a0 ∧ a0 ≤ 9223372036854775807
 case neg =>
  rw [if_neg hb] at h; exact absurd h (by simp)
 rw [if_pos hb] at h
 by_cases hn : a0 < 0
 ·rw [if_pos hn, size_digs (by omega) (by omega)] at h
  simp only [Option.some.injEq, Prod.mk.injEq] at h
  obtain ⟨rfl, rfl, rfl, rfl, rfl, rfl, rfl, rfl, rfl, rfl⟩ := h
  exact size_walk1 a0 (-a0) (a0 + 18446744073709551616) hn (by rw [show IntKind.u64.wrap a0 = a0 % 18446744073709551616 by simp [IntKind.wrap, IntKind.bits, IntKind.signed]]; omega) (by rw [show IntKind.u64.wrap (-(a0 + 18446744073709551616)) = (-(a0 + 18446744073709551616)) % 18446744073709551616 by simp [IntKind.wrap, IntKind.bits, IntKind.signed]]; omega) (by omega) (by omega) w
 rw [if_neg hn, size_digs (by omega) (by omega)] at h
 simp only [Option.some.injEq, Prod.mk.injEq] at h
 obtain ⟨rfl, rfl, rfl, rfl, rfl, rfl, rfl, rfl, rfl, rfl⟩ := h
 exact size_walk0 a0 a0 (by omega) (by rw [show IntKind.u64.wrap a0 = a0 % 18446744073709551616 by simp [IntKind.wrap, IntKind.bits, IntKind.signed]]; omega) (by omega) (by omega) w
end Go.Proofs.Ytmlkpadlafjfeaa.P
namespace Go.Proofs.Ytmlkpadlafjfeaa.P
open Go.RowKit Go.Proofs.YtmlkpadlafjfeaaW.PrintWords Go.Proofs.YtmlkpadlafjfeaaW.PrintLast Go.Proofs.YtmlkpadlafjfeaaW.PrintMore
attribute [local go_sem] zH zK zU zT zB zC zJ zI
set_option linter.unusedVariables false
set_option linter.unusedSimpArgs false
section
attribute [local go_sem] Z8
set_option maxHeartbeats 8000000 in
set_option maxRecDepth 100000 in
theorem under_walk (a0_0 : Int) (a0_1 : Int) (a0_2 : Int) (a0_3 : Int) (a0_4 : Int) (a0_5 : Int) (a0_6 : Int) (a0_7 : Int) (a0_8 : Int) (a0_9 : Int) (a1_0 : Int) (a1_1 : Int) (a1_2 : Int) (a1_3 : Int) (a1_4 : Int) (a1_5 : Int) (a1_6 : Int) (a1_7 : Int) (a1_8 : Int) (a1_9 : Int) (d0_0 : qa (qK a0_0 = true)) (d0_1 : qa (qK a0_1 = true)) (d0_2 : qa (qK a0_2 = true)) (d0_3 : qa (qK a0_3 = true)) (d0_4 : qa (qK a0_4 = true)) (d0_5 : qa (qK a0_5 = true)) (d0_6 : qa (qK a0_6 = true)) (d0_7 : qa (qK a0_7 = true)) (d0_8 : qa (qK a0_8 = true)) (d0_9 : qa (qK a0_9 = true)) (d1_0 : qa (qK a1_0 = true)) (d1_1 : qa (qK a1_1 = true)) (d1_2 : qa (qK a1_2 = true)) (d1_3 : qa (qK a1_3 = true)) (d1_4 : qa (qK a1_4 = true)) (d1_5 : qa (qK a1_5 = true)) (d1_6 : qa (qK a1_6 = true)) (d1_7 : qa (qK a1_7 = true)) (d1_8 : qa (qK a1_8 = true)) (d1_9 : qa (qK a1_9 = true)) (r : Bool) (hr : qa (decide (z8 a0_0 a0_1 a0_2 a0_3 a0_4 a0_5 a0_6 a0_7 a0_8 a0_9 < z8 a1_0 a1_1 a1_2 a1_3 a1_4 a1_5 a1_6 a1_7 a1_8 a1_9) = r)) (w : World) :
  Calls Try.prog 71 #[.agg #[.int .i64 a0_0, .int .i64 a0_1, .int .i64 a0_2, .int .i64 a0_3, .int .i64 a0_4, .int .i64 a0_5, .int .i64 a0_6, .int .i64 a0_7, .int .i64 a0_8, .int .i64 a0_9], .agg #[.int .i64 a1_0, .int .i64 a1_1, .int .i64 a1_2, .int .i64 a1_3, .int .i64 a1_4, .int .i64 a1_5, .int .i64 a1_6, .int .i64 a1_7, .int .i64 a1_8, .int .i64 a1_9]] w fun e w' => e = .returned (.bool r) ∧ Below w.heap.size w w' := by
 have hu := Try.underlying116
 go_enter Try.func71, Try.ntmps71
 go_wp2
 refine wp_loop_rounds 11 ?_
 rw [rounds_succ]
 go_wp2
 by_cases q9 : a0_9 = a1_9
 case neg =>
  have x1 : (a0_9 == a1_9) = false := beq_eq_false_iff_ne.2 q9
  have x2 : (a0_9 != a1_9) = true := bne_iff_ne.2 q9
  have x3 : decide (a0_9 < a1_9) = r := by rw [← hr.out]; exact under_at9 d0_0.out d0_1.out d0_2.out d0_3.out d0_4.out d0_5.out d0_6.out d0_7.out d0_8.out d0_9.out d1_0.out d1_1.out d1_2.out d1_3.out d1_4.out d1_5.out d1_6.out d1_7.out d1_8.out d1_9.out q9
  have X := qa.mk x3
  clear q9 x3
  go_quiet (fail)
  go_wp2
  go_quiet (fail)
  go_wp2
  go_ret
  exact ⟨by rw [← X.out]; rfl, (by repeat (first | exact Below.refl _ _ | apply qw | apply qC))⟩
 subst q9
 go_quiet (fail)
 go_wp2
 rw [rounds_succ]
 go_wp2
 by_cases q8 : a0_8 = a1_8
 case neg =>
  have x1 : (a0_8 == a1_8) = false := beq_eq_false_iff_ne.2 q8
  have x2 : (a0_8 != a1_8) = true := bne_iff_ne.2 q8
  have x3 : decide (a0_8 < a1_8) = r := by rw [← hr.out]; exact under_at8 d0_0.out d0_1.out d0_2.out d0_3.out d0_4.out d0_5.out d0_6.out d0_7.out d0_8.out d1_0.out d1_1.out d1_2.out d1_3.out d1_4.out d1_5.out d1_6.out d1_7.out d1_8.out q8
  have X := qa.mk x3
  clear q8 x3
  go_quiet (fail)
  go_wp2
  go_quiet (fail)
  go_wp2
  go_ret
  exact ⟨by rw [← X.out]; rfl, (by repeat (first | exact Below.refl _ _ | apply qw | apply qC))⟩
 subst q8
 go_quiet (fail)
 go_wp2
 rw [rounds_succ]
 go_wp2
 by_cases q7 : a0_7 = a1_7
 case neg =>
  have x1 : (a0_7 == a1_7) = false := beq_eq_false_iff_ne.2 q7
  have x2 : (a0_7 != a1_7) = true := bne_iff_ne.2 q7
  have x3 : decide (a0_7 < a1_7) = r := by rw [← hr.out]; exact under_at7 d0_0.out d0_1.out d0_2.out d0_3.out d0_4.out d0_5.out d0_6.out d0_7.out d1_0.out d1_1.out d1_2.out d1_3.out d1_4.out d1_5.out d1_6.out d1_7.out q7
  have X := qa.mk x3
  clear q7 x3
  go_quiet (fail)
  go_wp2
  go_quiet (fail)
  go_wp2
  go_ret
  exact ⟨by rw [← X.out]; rfl, (by repeat (first | exact Below.refl _ _ | apply qw | apply qC))⟩
 subst q7
 go_quiet (fail)
 go_wp2
 rw [rounds_succ]
 go_wp2
 by_cases q6 : a0_6 = a1_6
 case neg =>
  have x1 : (a0_6 == a1_6) = false := beq_eq_false_iff_ne.2 q6
  have x2 : (a0_6 != a1_6) = true := bne_iff_ne.2 q6
  have x3 : decide (a0_6 < a1_6) = r := by rw [← hr.out]; exact under_at6 d0_0.out d0_1.out d0_2.out d0_3.out d0_4.out d0_5.out d0_6.out d1_0.out d1_1.out d1_2.out d1_3.out d1_4.out d1_5.out d1_6.out q6
  have X := qa.mk x3
  clear q6 x3
  go_quiet (fail)
  go_wp2
  go_quiet (fail)
  go_wp2
  go_ret
  exact ⟨by rw [← X.out]; rfl, (by repeat (first | exact Below.refl _ _ | apply qw | apply qC))⟩
 subst q6
 go_quiet (fail)
 go_wp2
 rw [rounds_succ]
 go_wp2
 by_cases q5 : a0_5 = a1_5
 case neg =>
  have x1 : (a0_5 == a1_5) = false := beq_eq_false_iff_ne.2 q5
  have x2 : (a0_5 != a1_5) = true := bne_iff_ne.2 q5
  have x3 : decide (a0_5 < a1_5) = r := by rw [← hr.out]; exact under_at5 d0_0.out d0_1.out d0_2.out d0_3.out d0_4.out d0_5.out d1_0.out d1_1.out d1_2.out d1_3.out d1_4.out d1_5.out q5
  have X := qa.mk x3
  clear q5 x3
  go_quiet (fail)
  go_wp2
  go_quiet (fail)
  go_wp2
  go_ret
  exact ⟨by rw [← X.out]; rfl, (by repeat (first | exact Below.refl _ _ | apply qw | apply qC))⟩
 subst q5
 go_quiet (fail)
 go_wp2
 rw [rounds_succ]
 go_wp2
 by_cases q4 : a0_4 = a1_4
 case neg =>
  have x1 : (a0_4 == a1_4) = false := beq_eq_false_iff_ne.2 q4
  have x2 : (a0_4 != a1_4) = true := bne_iff_ne.2 q4
  have x3 : decide (a0_4 < a1_4) = r := by rw [← hr.out]; exact under_at4 d0_0.out d0_1.out d0_2.out d0_3.out d0_4.out d1_0.out d1_1.out d1_2.out d1_3.out d1_4.out q4
  have X := qa.mk x3
  clear q4 x3
  go_quiet (fail)
  go_wp2
  go_quiet (fail)
  go_wp2
  go_ret
  exact ⟨by rw [← X.out]; rfl, (by repeat (first | exact Below.refl _ _ | apply qw | apply qC))⟩
 subst q4
 go_quiet (fail)
 go_wp2
 rw [rounds_succ]
 go_wp2
 by_cases q3 : a0_3 = a1_3
 case neg =>
  have x1 : (a0_3 == a1_3) = false := beq_eq_false_iff_ne.2 q3
  have x2 : (a0_3 != a1_3) = true := bne_iff_ne.2 q3
  have x3 : decide (a0_3 < a1_3) = r := by rw [← hr.out]; exact under_at3 d0_0.out d0_1.out d0_2.out d0_3.out d1_0.out d1_1.out d1_2.out d1_3.out q3
  have X := qa.mk x3
  clear q3 x3
  go_quiet (fail)
  go_wp2
  go_quiet (fail)
  go_wp2
  go_ret
  exact ⟨by rw [← X.out]; rfl, (by repeat (first | exact Below.refl _ _ | apply qw | apply qC))⟩
 subst q3
 go_quiet (fail)
 go_wp2
 rw [rounds_succ]
 go_wp2
 by_cases q2 : a0_2 = a1_2
 case neg =>
  have x1 : (a0_2 == a1_2) = false := beq_eq_false_iff_ne.2 q2
  have x2 : (a0_2 != a1_2) = true := bne_iff_ne.2 q2
  have x3 : decide (a0_2 < a1_2) = r := by rw [← hr.out]; exact under_at2 d0_0.out d0_1.out d0_2.out d1_0.out d1_1.out d1_2.out q2
  have X := qa.mk x3
  clear q2 x3
  go_quiet (fail)
  go_wp2
  go_quiet (fail)
  go_wp2
  go_ret
  exact ⟨by rw [← X.out]; rfl, (by repeat (first | exact Below.refl _ _ | apply qw | apply qC))⟩
 subst q2
 go_quiet (fail)
 go_wp2
 rw [rounds_succ]
 go_wp2
 by_cases q1 : a0_1 = a1_1
 case neg =>
  have x1 : (a0_1 == a1_1) = false := beq_eq_false_iff_ne.2 q1
  have x2 : (a0_1 != a1_1) = true := bne_iff_ne.2 q1
  have x3 : decide (a0_1 < a1_1) = r := by rw [← hr.out]; exact under_at1 d0_0.out d0_1.out d1_0.out d1_1.out q1
  have X := qa.mk x3
  clear q1 x3
  go_quiet (fail)
  go_wp2
  go_quiet (fail)
  go_wp2
  go_ret
  exact ⟨by rw [← X.out]; rfl, (by repeat (first | exact Below.refl _ _ | apply qw | apply qC))⟩
 subst q1
 go_quiet (fail)
 go_wp2
 rw [rounds_succ]
 go_wp2
 by_cases q0 : a0_0 = a1_0
 ·subst q0
  go_quiet (fail)
  go_wp2
  rw [rounds_succ]
  go_wp2
  go_ret
  exact ⟨by rw [← hr.out]; simp, (by repeat (first | exact Below.refl _ _ | apply qw | apply qC))⟩
 have x1 : (a0_0 == a1_0) = false := beq_eq_false_iff_ne.2 q0
 have x2 : (a0_0 != a1_0) = true := bne_iff_ne.2 q0
 have x3 : decide (a0_0 < a1_0) = r := by rw [← hr.out]; exact under_at0 d0_0.out d1_0.out q0
 have X := qa.mk x3
 clear q0 x3
 go_quiet (fail)
 go_wp2
 go_quiet (fail)
 go_wp2
 go_ret
 exact ⟨by rw [← X.out]; rfl, (by repeat (first | exact Below.refl _ _ | apply qw | apply qC))⟩
end
def zw.f (a0_0 a0_1 a0_2 a0_3 a0_4 a0_5 a0_6 a0_7 a0_8 a0_9 a1_0 a1_1 a1_2 a1_3 a1_4 a1_5 a1_6 a1_7 a1_8 a1_9 : Int) : Option Bool := underL a0_0 a0_1 a0_2 a0_3 a0_4 a0_5 a0_6 a0_7 a0_8 a0_9 a1_0 a1_1 a1_2 a1_3 a1_4 a1_5 a1_6 a1_7 a1_8 a1_9
theorem zw.calls (a0_0 a0_1 a0_2 a0_3 a0_4 a0_5 a0_6 a0_7 a0_8 a0_9 a1_0 a1_1 a1_2 a1_3 a1_4 a1_5 a1_6 a1_7 a1_8 a1_9 : Int) (r : Bool) (w : World) (h : zw.f a0_0 a0_1 a0_2 a0_3 a0_4 a0_5 a0_6 a0_7 a0_8 a0_9 a1_0 a1_1 a1_2 a1_3 a1_4 a1_5 a1_6 a1_7 a1_8 a1_9 = some r) :
  Calls Try.prog 71 #[.agg #[.int .i64 a0_0, .int .i64 a0_1, .int .i64 a0_2, .int .i64 a0_3, .int .i64 a0_4, .int .i64 a0_5, .int .i64 a0_6, .int .i64 a0_7, .int .i64 a0_8, .int .i64 a0_9], .agg #[.int .i64 a1_0, .int .i64 a1_1, .int .i64 a1_2, .int .i64 a1_3, .int .i64 a1_4, .int .i64 a1_5, .int .i64 a1_6, .int .i64 a1_7, .int .i64 a1_8, .int .i64 a1_9]] w fun e w' => e = .returned (.bool r) ∧ Below w.heap.size w w' := by
 unfold zw.f underL at h
 split at h
 ·rename_i hd
  simp only [ZG, List.all_cons, List.all_nil, Bool.and_true, Bool.and_eq_true] at hd
  obtain ⟨d0, d1, d2, d3, d4, d5, d6, d7, d8, d9, d10, d11, d12, d13, d14, d15, d16, d17, d18, d19⟩ := hd
  exact under_walk a0_0 a0_1 a0_2 a0_3 a0_4 a0_5 a0_6 a0_7 a0_8 a0_9 a1_0 a1_1 a1_2 a1_3 a1_4 a1_5 a1_6 a1_7 a1_8 a1_9 ⟨d0⟩ ⟨d1⟩ ⟨d2⟩ ⟨d3⟩ ⟨d4⟩ ⟨d5⟩ ⟨d6⟩ ⟨d7⟩ ⟨d8⟩ ⟨d9⟩ ⟨d10⟩ ⟨d11⟩ ⟨d12⟩ ⟨d13⟩ ⟨d14⟩ ⟨d15⟩ ⟨d16⟩ ⟨d17⟩ ⟨d18⟩ ⟨d19⟩ r ⟨Option.some.inj h⟩ w
 exact absurd h (by simp)
end Go.Proofs.Ytmlkpadlafjfeaa.P
namespace Go.Proofs.Ytmlkpadlafjfeaa.P
open Go.RowKit Go.Proofs.YtmlkpadlafjfeaaW.PrintWords Go.Proofs.YtmlkpadlafjfeaaW.PrintLast Go.Proofs.YtmlkpadlafjfeaaW.PrintMore
attribute [local go_sem] zH zK zU zT zB zC zJ zI
set_option linter.unusedVariables false
set_option linter.unusedSimpArgs false
section
attribute [local go_sem] Z8
set_option maxHeartbeats 8000000 in
set_option maxRecDepth 100000 in
theorem plus_walk (a0_0 : Int) (a0_1 : Int) (a0_2 : Int) (a0_3 : Int) (a0_4 : Int) (a0_5 : Int) (a0_6 : Int) (a0_7 : Int) (a0_8 : Int) (a0_9 : Int) (a1_0 : Int) (a1_1 : Int) (a1_2 : Int) (a1_3 : Int) (a1_4 : Int) (a1_5 : Int) (a1_6 : Int) (a1_7 : Int) (a1_8 : Int) (a1_9 : Int) (d0_0 : qa (qK a0_0 = true)) (d0_1 : qa (qK a0_1 = true)) (d0_2 : qa (qK a0_2 = true)) (d0_3 : qa (qK a0_3 = true)) (d0_4 : qa (qK a0_4 = true)) (d0_5 : qa (qK a0_5 = true)) (d0_6 : qa (qK a0_6 = true)) (d0_7 : qa (qK a0_7 = true)) (d0_8 : qa (qK a0_8 = true)) (d0_9 : qa (qK a0_9 = true)) (d1_0 : qa (qK a1_0 = true)) (d1_1 : qa (qK a1_1 = true)) (d1_2 : qa (qK a1_2 = true)) (d1_3 : qa (qK a1_3 = true)) (d1_4 : qa (qK a1_4 = true)) (d1_5 : qa (qK a1_5 = true)) (d1_6 : qa (qK a1_6 = true)) (d1_7 : qa (qK a1_7 = true)) (d1_8 : qa (qK a1_8 = true)) (d1_9 : qa (qK a1_9 = true)) (w : World) :
  Calls Try.prog 76 #[.agg #[.int .i64 a0_0, .int .i64 a0_1, .int .i64 a0_2, .int .i64 a0_3, .int .i64 a0_4, .int .i64 a0_5, .int .i64 a0_6, .int .i64 a0_7, .int .i64 a0_8, .int .i64 a0_9], .agg #[.int .i64 a1_0, .int .i64 a1_1, .int .i64 a1_2, .int .i64 a1_3, .int .i64 a1_4, .int .i64 a1_5, .int .i64 a1_6, .int .i64 a1_7, .int .i64 a1_8, .int .i64 a1_9]] w (LongPost (digs (z8 a0_0 a0_1 a0_2 a0_3 a0_4 a0_5 a0_6 a0_7 a0_8 a0_9 + z8 a1_0 a1_1 a1_2 a1_3 a1_4 a1_5 a1_6 a1_7 a1_8 a1_9)) w) := by
 have hu := Try.underlying116
 go_enter Try.func76, Try.ntmps76
 go_wp2
 refine wp_loop_rounds 11 ?_
 obtain ⟨l_, u_⟩ := zL.1 d0_0.out
 obtain ⟨l1_, u1_⟩ := zL.1 d1_0.out
 rw [rounds_succ]
 go_wp2
 go_quiet (fail)
 go_wp2
 generalize hc_ : (a0_0 + a1_0) / 65536 = c0
 generalize ho_ : (a0_0 + a1_0) % 65536 = o0
 have H0 := qa.mk (Step.mk' (o := a0_0) (p := a1_0) (c := 0) (x := a0_0 + a1_0) (by simp only [Int.add_zero]) ho_ hc_ l_ u_ l1_ (by omega) (by omega) (by omega))
 clear ho_ hc_ l_ u_ l1_ u1_
 have bc01 := H0.out.c0
 have bc02 := H0.out.c1
 obtain ⟨l_, u_⟩ := zL.1 d0_1.out
 obtain ⟨l1_, u1_⟩ := zL.1 d1_1.out
 rw [rounds_succ]
 go_wp2
 go_quiet (fail)
 go_wp2
 generalize hc_ : (a0_1 + a1_1 + c0) / 65536 = c1
 generalize ho_ : (a0_1 + a1_1 + c0) % 65536 = o1
 have H1 := qa.mk (Step.mk' (o := a0_1) (p := a1_1) (c := c0) (x := a0_1 + a1_1 + c0) (by simp only [Int.add_zero]) ho_ hc_ l_ u_ l1_ (by omega) H0.out.c0 H0.out.c1)
 clear bc01 bc02
 clear ho_ hc_ l_ u_ l1_ u1_
 have bc11 := H1.out.c0
 have bc12 := H1.out.c1
 obtain ⟨l_, u_⟩ := zL.1 d0_2.out
 obtain ⟨l1_, u1_⟩ := zL.1 d1_2.out
 rw [rounds_succ]
 go_wp2
 go_quiet (fail)
 go_wp2
 generalize hc_ : (a0_2 + a1_2 + c1) / 65536 = c2
 generalize ho_ : (a0_2 + a1_2 + c1) % 65536 = o2
 have H2 := qa.mk (Step.mk' (o := a0_2) (p := a1_2) (c := c1) (x := a0_2 + a1_2 + c1) (by simp only [Int.add_zero]) ho_ hc_ l_ u_ l1_ (by omega) H1.out.c0 H1.out.c1)
 clear bc11 bc12
 clear ho_ hc_ l_ u_ l1_ u1_
 have bc21 := H2.out.c0
 have bc22 := H2.out.c1
 obtain ⟨l_, u_⟩ := zL.1 d0_3.out
 obtain ⟨l1_, u1_⟩ := zL.1 d1_3.out
 rw [rounds_succ]
 go_wp2
 go_quiet (fail)
 go_wp2
 generalize hc_ : (a0_3 + a1_3 + c2) / 65536 = c3
 generalize ho_ : (a0_3 + a1_3 + c2) % 65536 = o3
 have H3 := qa.mk (Step.mk' (o := a0_3) (p := a1_3) (c := c2) (x := a0_3 + a1_3 + c2) (by simp only [Int.add_zero]) ho_ hc_ l_ u_ l1_ (by omega) H2.out.c0 H2.out.c1)
 clear bc21 bc22
 clear ho_ hc_ l_ u_ l1_ u1_
 have bc31 := H3.out.c0
 have bc32 := H3.out.c1
 obtain ⟨l_, u_⟩ := zL.1 d0_4.out
 obtain ⟨l1_, u1_⟩ := zL.1 d1_4.out
 rw [rounds_succ]
 go_wp2
 go_quiet (fail)
 go_wp2
 generalize hc_ : (a0_4 + a1_4 + c3) / 65536 = c4
 generalize ho_ : (a0_4 + a1_4 + c3) % 65536 = o4
 have H4 := qa.mk (Step.mk' (o := a0_4) (p := a1_4) (c := c3) (x := a0_4 + a1_4 + c3) (by simp only [Int.add_zero]) ho_ hc_ l_ u_ l1_ (by omega) H3.out.c0 H3.out.c1)
 clear bc31 bc32
 clear ho_ hc_ l_ u_ l1_ u1_
 have bc41 := H4.out.c0
 have bc42 := H4.out.c1
 obtain ⟨l_, u_⟩ := zL.1 d0_5.out
 obtain ⟨l1_, u1_⟩ := zL.1 d1_5.out
 rw [rounds_succ]
 go_wp2
 go_quiet (fail)
 go_wp2
 generalize hc_ : (a0_5 + a1_5 + c4) / 65536 = c5
 generalize ho_ : (a0_5 + a1_5 + c4) % 65536 = o5
 have H5 := qa.mk (Step.mk' (o := a0_5) (p := a1_5) (c := c4) (x := a0_5 + a1_5 + c4) (by simp only [Int.add_zero]) ho_ hc_ l_ u_ l1_ (by omega) H4.out.c0 H4.out.c1)
 clear bc41 bc42
 clear ho_ hc_ l_ u_ l1_ u1_
 have bc51 := H5.out.c0
 have bc52 := H5.out.c1
 obtain ⟨l_, u_⟩ := zL.1 d0_6.out
 obtain ⟨l1_, u1_⟩ := zL.1 d1_6.out
 rw [rounds_succ]
 go_wp2
 go_quiet (fail)
 go_wp2
 generalize hc_ : (a0_6 + a1_6 + c5) / 65536 = c6
 generalize ho_ : (a0_6 + a1_6 + c5) % 65536 = o6
 have H6 := qa.mk (Step.mk' (o := a0_6) (p := a1_6) (c := c5) (x := a0_6 + a1_6 + c5) (by simp only [Int.add_zero]) ho_ hc_ l_ u_ l1_ (by omega) H5.out.c0 H5.out.c1)
 clear bc51 bc52
 clear ho_ hc_ l_ u_ l1_ u1_
 have bc61 := H6.out.c0
 have bc62 := H6.out.c1
 obtain ⟨l_, u_⟩ := zL.1 d0_7.out
 obtain ⟨l1_, u1_⟩ := zL.1 d1_7.out
 rw [rounds_succ]
 go_wp2
 go_quiet (fail)
 go_wp2
 generalize hc_ : (a0_7 + a1_7 + c6) / 65536 = c7
 generalize ho_ : (a0_7 + a1_7 + c6) % 65536 = o7
 have H7 := qa.mk (Step.mk' (o := a0_7) (p := a1_7) (c := c6) (x := a0_7 + a1_7 + c6) (by simp only [Int.add_zero]) ho_ hc_ l_ u_ l1_ (by omega) H6.out.c0 H6.out.c1)
 clear bc61 bc62
 clear ho_ hc_ l_ u_ l1_ u1_
 have bc71 := H7.out.c0
 have bc72 := H7.out.c1
 obtain ⟨l_, u_⟩ := zL.1 d0_8.out
 obtain ⟨l1_, u1_⟩ := zL.1 d1_8.out
 rw [rounds_succ]
 go_wp2
 go_quiet (fail)
 go_wp2
 generalize hc_ : (a0_8 + a1_8 + c7) / 65536 = c8
 generalize ho_ : (a0_8 + a1_8 + c7) % 65536 = o8
 have H8 := qa.mk (Step.mk' (o := a0_8) (p := a1_8) (c := c7) (x := a0_8 + a1_8 + c7) (by simp only [Int.add_zero]) ho_ hc_ l_ u_ l1_ (by omega) H7.out.c0 H7.out.c1)
 clear bc71 bc72
 clear ho_ hc_ l_ u_ l1_ u1_
 have bc81 := H8.out.c0
 have bc82 := H8.out.c1
 obtain ⟨l_, u_⟩ := zL.1 d0_9.out
 obtain ⟨l1_, u1_⟩ := zL.1 d1_9.out
 rw [rounds_succ]
 go_wp2
 go_quiet (fail)
 go_wp2
 generalize hc_ : (a0_9 + a1_9 + c8) / 65536 = c9
 generalize ho_ : (a0_9 + a1_9 + c8) % 65536 = o9
 have H9 := qa.mk (Step.mk' (o := a0_9) (p := a1_9) (c := c8) (x := a0_9 + a1_9 + c8) (by simp only [Int.add_zero]) ho_ hc_ l_ u_ l1_ (by omega) H8.out.c0 H8.out.c1)
 clear bc81 bc82
 clear ho_ hc_ l_ u_ l1_ u1_
 have bc91 := H9.out.c0
 have bc92 := H9.out.c1
 rw [rounds_succ]
 go_wp2
 have G : digs (z8 a0_0 a0_1 a0_2 a0_3 a0_4 a0_5 a0_6 a0_7 a0_8 a0_9 + z8 a1_0 a1_1 a1_2 a1_3 a1_4 a1_5 a1_6 a1_7 a1_8 a1_9) = (o0, o1, o2, o3, o4, o5, o6, o7, o8, o9) := plus_all H0.out H1.out H2.out H3.out H4.out H5.out H6.out H7.out H8.out H9.out
 exact bodyPost_ret (v := .agg #[.int .i64 o0, .int .i64 o1, .int .i64 o2, .int .i64 o3, .int .i64 o4, .int .i64 o5, .int .i64 o6, .int .i64 o7, .int .i64 o8, .int .i64 o9]) (by simp [results, Try.results76, go_sem]) rfl ⟨_, _, _, _, _, _, _, _, _, _, G, rfl, by repeat (first | exact Below.refl _ _ | apply qw | apply qC)⟩
end
def jc.f (a0_0 a0_1 a0_2 a0_3 a0_4 a0_5 a0_6 a0_7 a0_8 a0_9 a1_0 a1_1 a1_2 a1_3 a1_4 a1_5 a1_6 a1_7 a1_8 a1_9 : Int) : Option (Int × Int × Int × Int × Int × Int × Int × Int × Int × Int) := plusL a0_0 a0_1 a0_2 a0_3 a0_4 a0_5 a0_6 a0_7 a0_8 a0_9 a1_0 a1_1 a1_2 a1_3 a1_4 a1_5 a1_6 a1_7 a1_8 a1_9
theorem jc.calls (a0_0 a0_1 a0_2 a0_3 a0_4 a0_5 a0_6 a0_7 a0_8 a0_9 a1_0 a1_1 a1_2 a1_3 a1_4 a1_5 a1_6 a1_7 a1_8 a1_9 : Int) (r1 : Int) (r2 : Int) (r3 : Int) (r4 : Int) (r5 : Int) (r6 : Int) (r7 : Int) (r8 : Int) (r9 : Int) (r10 : Int) (w : World) (h : jc.f a0_0 a0_1 a0_2 a0_3 a0_4 a0_5 a0_6 a0_7 a0_8 a0_9 a1_0 a1_1 a1_2 a1_3 a1_4 a1_5 a1_6 a1_7 a1_8 a1_9 = some (r1, r2, r3, r4, r5, r6, r7, r8, r9, r10)) :
  Calls Try.prog 76 #[.agg #[.int .i64 a0_0, .int .i64 a0_1, .int .i64 a0_2, .int .i64 a0_3, .int .i64 a0_4, .int .i64 a0_5, .int .i64 a0_6, .int .i64 a0_7, .int .i64 a0_8, .int .i64 a0_9], .agg #[.int .i64 a1_0, .int .i64 a1_1, .int .i64 a1_2, .int .i64 a1_3, .int .i64 a1_4, .int .i64 a1_5, .int .i64 a1_6, .int .i64 a1_7, .int .i64 a1_8, .int .i64 a1_9]] w fun e w' => e = .returned (.agg #[.int .i64 r1, .int .i64 r2, .int .i64 r3, .int .i64 r4, .int .i64 r5, .int .i64 r6, .int .i64 r7, .int .i64 r8, .int .i64 r9, .int .i64 r10]) ∧ Below w.heap.size w w' := by
 unfold jc.f plusL at h
 split at h
 ·rename_i hd
  simp only [ZG, List.all_cons, List.all_nil, Bool.and_true, Bool.and_eq_true] at hd
  obtain ⟨d0, d1, d2, d3, d4, d5, d6, d7, d8, d9, d10, d11, d12, d13, d14, d15, d16, d17, d18, d19⟩ := hd
  have hv := Option.some.inj h
  refine (plus_walk a0_0 a0_1 a0_2 a0_3 a0_4 a0_5 a0_6 a0_7 a0_8 a0_9 a1_0 a1_1 a1_2 a1_3 a1_4 a1_5 a1_6 a1_7 a1_8 a1_9 ⟨d0⟩ ⟨d1⟩ ⟨d2⟩ ⟨d3⟩ ⟨d4⟩ ⟨d5⟩ ⟨d6⟩ ⟨d7⟩ ⟨d8⟩ ⟨d9⟩ ⟨d10⟩ ⟨d11⟩ ⟨d12⟩ ⟨d13⟩ ⟨d14⟩ ⟨d15⟩ ⟨d16⟩ ⟨d17⟩ ⟨d18⟩ ⟨d19⟩ w).mono ?_
  rintro e w' ⟨r0', r1', r2', r3', r4', r5', r6', r7', r8', r9', hr, he, hb⟩
  rw [hv] at hr
  simp only [Prod.mk.injEq] at hr
  obtain ⟨rfl, rfl, rfl, rfl, rfl, rfl, rfl, rfl, rfl, rfl⟩ := hr
  exact ⟨he, hb⟩
 exact absurd h (by simp)
end Go.Proofs.Ytmlkpadlafjfeaa.P
namespace Go.Proofs.Ytmlkpadlafjfeaa.P
open Go.RowKit Go.Proofs.YtmlkpadlafjfeaaW.PrintWords Go.Proofs.YtmlkpadlafjfeaaW.PrintLast Go.Proofs.YtmlkpadlafjfeaaW.PrintMore
attribute [local go_sem] zH zK zU zT zB zC zJ zI
set_option linter.unusedVariables false
set_option linter.unusedSimpArgs false
def zA.l0 : Nat → List Int → Int → Int → Option (Bool)
 | 0, _, _, _ => none
 | k + 1, x5, x6, x7 => if x7 < x6 then (if 0 ≤ x7 then (if x7 < (x5.length : Int) then ((zm.f (rd x5 x7)).bind fun t715 => (if t715 = 0 then (zA.l0 k x5 x6 (wrap64 (x7 + 1))) else (some false))) else (none)) else (none)) else (some true)
def zA.f (k : Nat) (l0 : List Int) : Option (Bool) := zA.l0 k l0 (l0.length : Int) 0
theorem zA.zW : ∀ k, (∀ y0 y1 y2, LeO (zA.l0 k y0 y1 y2) (zA.l0 (k + 1) y0 y1 y2))
 | 0 => fun _ _ _ r h => by simp [zA.l0] at h
 | k + 1 => by
  have ih0 := zA.zW k
  ·intro y0 y1 y2
   unfold zA.l0
   repeat' first
   | (with_reducible exact ih0 _ _ _)
   | (with_reducible exact LeO.refl _)
   | (with_reducible exact LeO.none _)
   | (with_reducible refine LeO.ite ?_ ?_)
   | (with_reducible refine LeO.bind ?_ (fun _ => ?_))
   | exact ih0 _ _ _
   | exact LeO.none _
   | refine LeO.ite ?_ ?_
   | refine LeO.bind ?_ (fun _ => ?_)
theorem zA.mono : ∀ a0 k, LeO (zA.f k a0) (zA.f (k + 1) a0) := by
 intro a0 k
 have ih0 := zA.zW k
 unfold zA.f
 repeat' first
   | (with_reducible exact ih0 _ _ _)
   | (with_reducible exact LeO.refl _)
   | (with_reducible exact LeO.none _)
   | (with_reducible refine LeO.ite ?_ ?_)
   | (with_reducible refine LeO.bind ?_ (fun _ => ?_))
   | exact ih0 _ _ _
   | exact LeO.none _
   | refine LeO.ite ?_ ?_
   | refine LeO.bind ?_ (fun _ => ?_)
set_option maxHeartbeats 8000000 in
set_option maxRecDepth 100000 in
theorem zA.calls (k : Nat) (A0 : Option Addr) (c0 : Nat) (l0 : List Int) (r : Bool) (w : World) (hr0 : Kd.C (Kd.int .i64) w A0 l0.length l0) (hc0 : l0.length ≤ c0) (h : zA.f k l0 = some r) :
  Calls Try.prog 57 #[.slice A0 l0.length c0] w fun e w' => e = .returned (.bool r) ∧ qE w w' := by
 have HR0 := qa.mk hr0
 have HC0 := qa.mk hc0
 clear hr0 hc0
 have H : (zA.l0 k l0 (l0.length : Int) 0) = some r := h
 clear h
 have H' := qa.mk H
 clear H
 go_enter Try.func57, Try.ntmps57
 go_wp2
 go_loopg [7] k (fun kq v7 w' => ∃ (x7_1 : Int), v7 = .int .i64 x7_1 ∧ qa (zA.l0 kq l0 (l0.length : Int) x7_1 = some r) ∧ qa (kq ≤ k) ∧ qE w w')
 case atStart => exact ⟨(0), (by first | rfl | (simp; done) | (simp [*]; done)), H', ⟨Nat.le_refl _⟩, by repeat (first | exact qE.refl _ | apply qE.step)⟩
 case round =>
  clear H'
  obtain ⟨x7_1, rfl, HA, HK1, ⟨m1, rfl⟩⟩ := hrel
  cases gk with
  | zero => exact absurd HA.out (by simp [zA.l0])
  | succ k1 =>
   have H := HA.out
   clear HA
   simp only [zA.l0] at H
   by_cases c2 : x7_1 < (l0.length : Int)
   case neg =>
    rw [if_neg c2] at H
    have c2b0 : decide (x7_1 < (l0.length : Int)) = false := decide_eq_false c2
    clear c2
    obtain rfl := Option.some.inj H
    go_wp2
    go_ret
    exact ⟨by first | rfl | (simp; done) | (simp [*]; done), by repeat (first | exact qE.refl _ | apply qE.step)⟩
   rw [if_pos c2] at H
   have c2b0 : decide (x7_1 < (l0.length : Int)) = true := decide_eq_true c2
   clear c2
   by_cases c3 : 0 ≤ x7_1
   case neg =>
    rw [if_neg c3] at H
    exact absurd H (by simp)
   rw [if_pos c3] at H
   have c3b0 : decide (0 ≤ x7_1) = true := decide_eq_true c3
   clear c3
   by_cases c4 : x7_1 < (l0.length : Int)
   case neg =>
    rw [if_neg c4] at H
    exact absurd H (by simp)
   rw [if_pos c4] at H
   have c4b0 : decide (x7_1 < (l0.length : Int)) = true := decide_eq_true c4
   clear c4
   replace H := Option.bind_eq_some_iff.mp H
   obtain ⟨t715, A50, H⟩ := H
   replace H : (if t715 = 0 then (zA.l0 k1 l0 (l0.length : Int) (wrap64 (x7_1 + 1))) else (some false)) = some r := H
   have A5 := qa.mk A50
   clear A50
   by_cases c6 : t715 = 0
   case neg =>
    rw [if_neg c6] at H
    have c6b0 : (t715 == 0) = false := beq_eq_false_iff_ne.mpr c6
    have c6b1 : (t715 != 0) = true := bne_iff_ne.mpr c6
    obtain rfl := Option.some.inj H
    have p714 : 0 ≤ (x7_1 : Int) := odt
    have q714 : x7_1 < (l0.length : Int) := odt
    obtain ⟨ad714, e714, hx714_0⟩ := Kd.at_int HR0.out x7_1 p714 q714
    cases e714
    replace p714 := eq_true p714
    replace q714 := eq_true q714
    go_wp2_with (first | ((with_reducible refine zf (f := 45) rfl ?_); refine zR (some 12) rfl rfl Try.func45 (by kernel_rfl) rfl #[.int .i64 (rd l0 x7_1)] rfl (by (try simp only [List.map_toArray, List.map_cons, List.map_nil]); first | done | rfl | (simp only [List.length_drop, List.length_take]; rfl)) ?_; (with_reducible refine (zm.calls (rd l0 x7_1) t715 _ A5.out).mono ?_); rintro e w' ⟨rfl, ⟨nd, rfl⟩⟩; refine ⟨_, rfl, ?_⟩))
    go_ret
    exact ⟨by first | rfl | (simp; done) | (simp [*]; done), by repeat (first | exact qE.refl _ | apply qE.step)⟩
   rw [if_pos c6] at H
   have c6b0 : (t715 == 0) = true := beq_iff_eq.mpr c6
   have c6b1 : (t715 != 0) = false := bne_eq_false_iff_eq.mpr c6
   clear c6
   have H' := qa.mk H
   clear H
   have p714 : 0 ≤ (x7_1 : Int) := odt
   have q714 : x7_1 < (l0.length : Int) := odt
   obtain ⟨ad714, e714, hx714_0⟩ := Kd.at_int HR0.out x7_1 p714 q714
   cases e714
   replace p714 := eq_true p714
   replace q714 := eq_true q714
   go_wp2_with (first | ((with_reducible refine zf (f := 45) rfl ?_); refine zR (some 12) rfl rfl Try.func45 (by kernel_rfl) rfl #[.int .i64 (rd l0 x7_1)] rfl (by (try simp only [List.map_toArray, List.map_cons, List.map_nil]); first | done | rfl | (simp only [List.length_drop, List.length_take]; rfl)) ?_; (with_reducible refine (zm.calls (rd l0 x7_1) t715 _ A5.out).mono ?_); rintro e w' ⟨rfl, ⟨nd, rfl⟩⟩; refine ⟨_, rfl, ?_⟩))
   go_roundg k1
   case measure => have := HK1.out; omega
   case rel => exact ⟨(wrap64 (x7_1 + 1)), (by first | rfl | (simp; done) | (simp [*]; done)), H', ⟨by have := HK1.out; omega⟩, by repeat (first | exact qE.refl _ | apply qE.step)⟩
end Go.Proofs.Ytmlkpadlafjfeaa.P
namespace Go.Proofs.Ytmlkpadlafjfeaa.P
open Go.RowKit Go.Proofs.YtmlkpadlafjfeaaW.PrintWords Go.Proofs.YtmlkpadlafjfeaaW.PrintLast Go.Proofs.YtmlkpadlafjfeaaW.PrintMore
attribute [local go_sem] zH zK zU zT zB zC zJ zI
set_option linter.unusedVariables false
set_option linter.unusedSimpArgs false
def Qz.f (a0 : Int) : Option (Int × Int) := (zm.f a0).bind fun t716 => (if t716 = 0 then (some (a0, 0)) else (some (0, t716)))
set_option maxHeartbeats 8000000 in
set_option maxRecDepth 100000 in
theorem Qz.calls (a0 : Int) (r1 : Int) (r2 : Int) (w : World) (h : Qz.f a0 = some (r1, r2)) :
  Calls Try.prog 58 #[.int .i64 a0] w fun e w' => e = .returned (.tuple #[.int .i64 r1, .int .i64 r2]) ∧ qE w w' := by
 have H : ((zm.f a0).bind fun t716 => (if t716 = 0 then (some (a0, 0)) else (some (0, t716)))) = some (r1, r2) := h
 clear h
 replace H := Option.bind_eq_some_iff.mp H
 obtain ⟨t716, A20, H⟩ := H
 replace H : (if t716 = 0 then (some (a0, 0)) else (some (0, t716))) = some (r1, r2) := H
 have A2 := qa.mk A20
 clear A20
 by_cases c3 : t716 = 0
 ·rw [if_pos c3] at H
  have c3b0 : (t716 == 0) = true := beq_iff_eq.mpr c3
  have c3b1 : (t716 != 0) = false := bne_eq_false_iff_eq.mpr c3
  clear c3
  simp only [Option.some.injEq, Prod.mk.injEq] at H
  obtain ⟨rfl, rfl⟩ := H
  go_enter Try.func58, Try.ntmps58
  go_wp2_with (first | ((with_reducible refine zf (f := 45) rfl ?_); refine zR (some 6) rfl rfl Try.func45 (by kernel_rfl) rfl #[.int .i64 a0] rfl (by (try simp only [List.map_toArray, List.map_cons, List.map_nil]); first | done | rfl | (simp only [List.length_drop, List.length_take]; rfl)) ?_; (with_reducible refine (zm.calls a0 t716 _ A2.out).mono ?_); rintro e w' ⟨rfl, ⟨nd, rfl⟩⟩; refine ⟨_, rfl, ?_⟩))
  go_ret2
  exact ⟨by first | rfl | (simp; done) | (simp [*]; done), by repeat (first | exact qE.refl _ | apply qE.step)⟩
 rw [if_neg c3] at H
 have c3b0 : (t716 == 0) = false := beq_eq_false_iff_ne.mpr c3
 have c3b1 : (t716 != 0) = true := bne_iff_ne.mpr c3
 simp only [Option.some.injEq, Prod.mk.injEq] at H
 obtain ⟨rfl, rfl⟩ := H
 go_enter Try.func58, Try.ntmps58
 go_wp2_with (first | ((with_reducible refine zf (f := 45) rfl ?_); refine zR (some 6) rfl rfl Try.func45 (by kernel_rfl) rfl #[.int .i64 a0] rfl (by (try simp only [List.map_toArray, List.map_cons, List.map_nil]); first | done | rfl | (simp only [List.length_drop, List.length_take]; rfl)) ?_; (with_reducible refine (zm.calls a0 t716 _ A2.out).mono ?_); rintro e w' ⟨rfl, ⟨nd, rfl⟩⟩; refine ⟨_, rfl, ?_⟩))
 go_ret2
 exact ⟨by first | rfl | (simp; done) | (simp [*]; done), by repeat (first | exact qE.refl _ | apply qE.step)⟩
end Go.Proofs.Ytmlkpadlafjfeaa.P
namespace Go.Proofs.Ytmlkpadlafjfeaa.P
open Go.RowKit Go.Proofs.YtmlkpadlafjfeaaW.PrintWords Go.Proofs.YtmlkpadlafjfeaaW.PrintLast Go.Proofs.YtmlkpadlafjfeaaW.PrintMore
attribute [local go_sem] zH zK zU zT zB zC zJ zI
set_option linter.unusedVariables false
set_option linter.unusedSimpArgs false
def jI.f (k : Nat) (a0 : Int) (a1 : Int) : Option (Int × Int) := (zA.f k (([a0, a1] : List Int))).bind fun t720 => (if t720 = true then ((Qz.f (wrap64 (a0 + a1))).bind fun bt721 => (some (bt721.1, bt721.2))) else (some (0, 14)))
theorem jI.mono : ∀ a0 a1 k, LeO (jI.f k a0 a1) (jI.f (k + 1) a0 a1) := by
 intro a0 a1 k
 unfold jI.f
 repeat' first
   | (with_reducible exact zA.mono _ _)
   | (with_reducible exact LeO.refl _)
   | (with_reducible exact LeO.none _)
   | (with_reducible refine LeO.ite ?_ ?_)
   | (with_reducible refine LeO.bind ?_ (fun _ => ?_))
   | exact zA.mono _ _
   | exact LeO.none _
   | refine LeO.ite ?_ ?_
   | refine LeO.bind ?_ (fun _ => ?_)
set_option maxHeartbeats 8000000 in
set_option maxRecDepth 100000 in
theorem jI.calls (k : Nat) (a0 : Int) (a1 : Int) (r1 : Int) (r2 : Int) (w : World) (h : jI.f k a0 a1 = some (r1, r2)) :
  Calls Try.prog 37 #[.int .i64 a0, .int .i64 a1] w fun e w' => e = .returned (.tuple #[.int .i64 r1, .int .i64 r2]) ∧ Below w.heap.size w w' := by
 have HB := qa.mk (Below.refl w.heap.size w)
 have H : ((zA.f k (([a0, a1] : List Int))).bind fun t720 => (if t720 = true then ((Qz.f (wrap64 (a0 + a1))).bind fun bt721 => (some (bt721.1, bt721.2))) else (some (0, 14)))) = some (r1, r2) := h
 clear h
 obtain ⟨y717, hy717⟩ : ∃ y_ : List Int, y_ = (([a0, a1] : List Int)) := ⟨_, rfl⟩
 replace H : ((zA.f k y717).bind fun t720 => (if t720 = true then ((Qz.f (wrap64 (a0 + a1))).bind fun bt721 => (some (bt721.1, bt721.2))) else (some (0, 14)))) = some (r1, r2) := by first | (rw [hy717]; with_reducible exact H) | (have H2_ := (Option.bind_some _ _).symm.trans H; rw [hy717]; with_reducible exact H2_) | (have H2_ := (Option.bind_some _ _).symm.trans H; with_reducible exact H2_) | with_reducible exact H | (rw [hy717]; exact H) | exact H
 have Ny717 := qa.mk hy717
 clear hy717
 replace H := Option.bind_eq_some_iff.mp H
 obtain ⟨t720, A30, H⟩ := H
 replace H : (if t720 = true then ((Qz.f (wrap64 (a0 + a1))).bind fun bt721 => (some (bt721.1, bt721.2))) else (some (0, 14))) = some (r1, r2) := H
 have A3 := qa.mk A30
 clear A30
 by_cases c4 : t720 = true
 case neg =>
  replace c4 := Bool.eq_false_iff.mpr c4
  subst c4
  have H1 : (some (0, 14)) = some (r1, r2) := by rw [if_neg (show ¬ (false = true) by decide)] at H; exact H
  clear H
  have H := H1
  clear H1
  simp only [Option.some.injEq, Prod.mk.injEq] at H
  obtain ⟨rfl, rfl⟩ := H
  go_enter Try.func37, Try.ntmps37
  go_wp2_with (first | ((with_reducible refine zl (N := 8) rfl ?_); refine Kd.Za (Kd.int .i64) _ 3 ?hg (N := 8) ?hd (xs := ([a0, a1] : List Int)) (inner := [.int .i64 a0, .int .i64 a1]) (ok := fun _ => True) (okp := fun _ => True) ?hr ?hp (fun _ hk => hk) trivial (Below.refl _ _) (Nat.le_refl _) (by simp) ?_; (case hd => rfl); (case hg => rfl); (case hr => first | (go_simp; done) | (go_simp; rfl)); (case hp => exact (zn.one (show Kd.M (Kd.int .i64) _ _ _ a0 [.int .i64 a0] from rfl) (zn.one (show Kd.M (Kd.int .i64) _ _ _ a1 [.int .i64 a1] from rfl) (zn.none _ _)))); intro v718 w9 ho10 hb hg_ hnew_; clear hg_ hnew_; (first | rw [← Ny717.out] at ho10 | (simp only [Int.reduceToNat] at ho10; rw [← Ny717.out] at ho10)); have n0_ := qa.mk (Kd.jU ho10 (qx (bq HB))); have n1_ := qa.mk (qh (bq HB) hb); clear HB; have HO719 := n0_; have HB := n1_; clear n0_ n1_; clear hb ho10; obtain ⟨Ao11, co11, eo11⟩ := Kd.zX HO719.out; subst eo11) | ((with_reducible refine zf (f := 57) rfl ?_); refine zR (some 9) rfl rfl Try.func57 (by kernel_rfl) rfl #[.slice Ao11 y717.length co11] rfl (by (try simp only [List.map_toArray, List.map_cons, List.map_nil]); first | done | rfl | (simp only [List.length_drop, List.length_take]; rfl)) ?_; (with_reducible refine (zA.calls k _ _ y717 false _ ?side1 ?side2 A3.out).mono ?_); (case side1 => repeat (first | exact (Kd.jq HO719.out).2.2 | (with_reducible refine Kd.jY ?_ _) | (with_reducible refine Kd.j6 ?_ _) | (with_reducible refine Kd.Qt ?_))); (case side2 => exact (Kd.jq HO719.out).2.1); rintro e w' ⟨rfl, ⟨nd, rfl⟩⟩; refine ⟨_, rfl, ?_⟩))
  go_ret2
  exact ⟨by first | rfl | (simp [qR, qU] <;> rfl) | (simp [*, qR, qU] <;> rfl), bq HB⟩
 subst c4
 have H1 : ((Qz.f (wrap64 (a0 + a1))).bind fun bt721 => (some (bt721.1, bt721.2))) = some (r1, r2) := by rw [if_pos rfl] at H; exact H
 clear H
 have H := H1
 clear H1
 replace H := Option.bind_eq_some_iff.mp H
 obtain ⟨⟨t721, t722⟩, A50, H⟩ := H
 replace H : (some (t721, t722)) = some (r1, r2) := H
 have A5 := qa.mk A50
 clear A50
 simp only [Option.some.injEq, Prod.mk.injEq] at H
 obtain ⟨rfl, rfl⟩ := H
 go_enter Try.func37, Try.ntmps37
 go_wp2_with (first | ((with_reducible refine zl (N := 8) rfl ?_); refine Kd.Za (Kd.int .i64) _ 3 ?hg (N := 8) ?hd (xs := ([a0, a1] : List Int)) (inner := [.int .i64 a0, .int .i64 a1]) (ok := fun _ => True) (okp := fun _ => True) ?hr ?hp (fun _ hk => hk) trivial (Below.refl _ _) (Nat.le_refl _) (by simp) ?_; (case hd => rfl); (case hg => rfl); (case hr => first | (go_simp; done) | (go_simp; rfl)); (case hp => exact (zn.one (show Kd.M (Kd.int .i64) _ _ _ a0 [.int .i64 a0] from rfl) (zn.one (show Kd.M (Kd.int .i64) _ _ _ a1 [.int .i64 a1] from rfl) (zn.none _ _)))); intro v718 w6 ho7 hb hg_ hnew_; clear hg_ hnew_; (first | rw [← Ny717.out] at ho7 | (simp only [Int.reduceToNat] at ho7; rw [← Ny717.out] at ho7)); have n0_ := qa.mk (Kd.jU ho7 (qx (bq HB))); have n1_ := qa.mk (qh (bq HB) hb); clear HB; have HO719 := n0_; have HB := n1_; clear n0_ n1_; clear hb ho7; obtain ⟨Ao8, co8, eo8⟩ := Kd.zX HO719.out; subst eo8) | ((with_reducible refine zf (f := 57) rfl ?_); refine zR (some 9) rfl rfl Try.func57 (by kernel_rfl) rfl #[.slice Ao8 y717.length co8] rfl (by (try simp only [List.map_toArray, List.map_cons, List.map_nil]); first | done | rfl | (simp only [List.length_drop, List.length_take]; rfl)) ?_; (with_reducible refine (zA.calls k _ _ y717 true _ ?side1 ?side2 A3.out).mono ?_); (case side1 => repeat (first | exact (Kd.jq HO719.out).2.2 | (with_reducible refine Kd.jY ?_ _) | (with_reducible refine Kd.j6 ?_ _) | (with_reducible refine Kd.Qt ?_))); (case side2 => exact (Kd.jq HO719.out).2.1); rintro e w' ⟨rfl, ⟨nd, rfl⟩⟩; refine ⟨_, rfl, ?_⟩) | ((with_reducible refine zf (f := 58) rfl ?_); refine zR (some 14) rfl rfl Try.func58 (by kernel_rfl) rfl #[.int .i64 (wrap64 (a0 + a1))] rfl (by (try simp only [List.map_toArray, List.map_cons, List.map_nil]); first | done | rfl | (simp only [List.length_drop, List.length_take]; rfl)) ?_; (with_reducible refine (Qz.calls (wrap64 (a0 + a1)) t721 t722 _ A5.out).mono ?_); rintro e w' ⟨rfl, ⟨nd, rfl⟩⟩; refine ⟨_, rfl, ?_⟩))
 go_ret2
 exact ⟨by first | rfl | (simp [qR, qU] <;> rfl) | (simp [*, qR, qU] <;> rfl), bq HB⟩
end Go.Proofs.Ytmlkpadlafjfeaa.P
