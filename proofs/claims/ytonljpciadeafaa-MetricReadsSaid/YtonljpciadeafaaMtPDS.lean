import Derived.Test.YtonljpciadeafaaSx0
import Derived.Test.YtonljpciadeafaaSxPA
import Derived.Test.YtonljpciadeafaaMtPCS
import Derived.Test.YtonljpciadeafaaSfOS
import Derived.Test.YtonljpciadeafaaMtPBS
import Derived.Test.YtonljpciadeafaaSx40
import Derived.Test.YtonljpciadeafaaSfAS
import Derived.Test.YtonljpciadeafaaSx37
import Derived.Test.YtonljpciadeafaaSx50
set_option linter.unusedVariables false
set_option linter.unusedSimpArgs false
namespace Go.Proofs.Ytonljpciadeafaa.S
open Go Go.RowKit Go.Proofs.YtonljpciadeafaaW.PrintWords Go.Proofs.YtonljpciadeafaaW.PrintLast Go.Proofs.YtonljpciadeafaaW.PrintMore
theorem C_unfix {W w : World} {A : Option Addr} {n : Nat} {xs : List S50} (h : Kd.C (Kd.fixed k50 W) w A n xs) (hb : Below W.heap.size W w) : Kd.C k50 w A n xs :=
  jB.Qz h (Below.refl _ _) (fun _ _ hp => k50.K_below hb hp)
def eU : List Int := [3, 232]
def eT : List Int := [3, 32, 255, 56, 0, 0]
def eG : List Int := [0, 1]
def eH : List Int := [2, 88, 255, 251]
def eL : List Int := [0, 0, 0, 0]
theorem Jt : qm.f 20 1000 2 = some eU ∧ qy.f 20 [800, -200, 0] = some eT ∧ qm.f 20 1 2 = some eG ∧ qy.f 20 [600, -5] = some eH ∧ qm.f 20 0 4 = some eL := by decide +kernel
def glyfP : S50 := ⟨⟨#[103, 108, 121, 102]⟩, []⟩
def eP : List S50 := Zc eU eT eG (jS (fun _ => eH) 1) (jS (fun _ => eL) 2) ++ [glyfP]
def eB : List Int := ((qo.f 400 1 (Qm eP)).getD ([], 1)).1
theorem e_build : qo.f 400 1 (Qm eP) = some (eB, 0) := by
  have h : ((qo.f 400 1 (Qm eP)).map (·.2)) = some 0 := by decide +kernel
  unfold eB
  cases hb : qo.f 400 1 (Qm eP) with
  | none => rw [hb] at h; simp at h
  | some p => rw [hb] at h; simp only [Option.map_some, Option.some.injEq] at h; rw [← h]; rfl
theorem e_ok : okB eB := by unfold okB; decide +kernel
theorem e_open : (je eB 0).2 = 0 := by decide +kernel
theorem e_len : (Zc eU eT eG (jS (fun _ => eH) 1) (jS (fun _ => eL) 2)).length = 5 ∧ eP.length = 6 ∧ (Qm eP).length = 6 := by decide +kernel
def eR : Int × Met := Qp eB (je eB 0).1.1 (je eB 0).1.2
theorem e_read : eR.1 = 0 ∧ eR.2.kd = 1 ∧ eR.2.u = 1000 ∧ eR.2.n = 1 ∧ eR.2.a = 800 ∧ eR.2.d = -200 ∧ eR.2.gp = 0 ∧ eR.2.adv = [600] ∧ eR.2.bear = [-5] ∧ eR.2.pl = [0, 0] := by decide +kernel
end Go.Proofs.Ytonljpciadeafaa.S
set_option linter.unusedVariables false
set_option linter.unusedSimpArgs false
namespace Go.Proofs.Ytonljpciadeafaa.S
open Go Go.RowKit Go.Proofs.YtonljpciadeafaaW.PrintWords Go.Proofs.YtonljpciadeafaaW.PrintLast Go.Proofs.YtonljpciadeafaaW.PrintMore
theorem m_zero (w : World) (o1 o2 o3 o4 : Obj) : ((((w.alloc o1).alloc o2).alloc o3).alloc o4).heap[w.heap.size + 1 + 1 + 1]? = some o4 := by
  rw [← QI w o1, ← QI (w.alloc o1) o2, ← QI ((w.alloc o1).alloc o2) o3]; exact zk _ _
theorem m_new (w : World) (x y p q : Int) (cs : Array Value) : ∃ X g, X = ((((w.alloc (Obj.cells #[.int .i64 x] 3)).alloc (Obj.cells #[.int .i64 y] 3)).alloc (Obj.cells #[.int .i64 p, .int .i64 q] 3)).alloc (Obj.cells zi 37)).setRow (w.heap.size + 1 + 1 + 1) cs ∧ w.heap.size + 1 + 1 + 1 = g ∧
    X.heap[g]? = some (Obj.cells cs 37) ∧ Kd.C (Kd.int .i64) X (some ⟨w.heap.size, 0, none⟩) 1 [x] ∧ Kd.C (Kd.int .i64) X (some ⟨w.heap.size + 1, 0, none⟩) 1 [y] ∧ Kd.C (Kd.int .i64) X (some ⟨w.heap.size + 1 + 1, 0, none⟩) 2 [p, q] ∧ Below w.heap.size w X := by
  obtain ⟨U, hU⟩ : ∃ U, U = ((w.alloc (Obj.cells #[.int .i64 x] 3)).alloc (Obj.cells #[.int .i64 y] 3)).alloc (Obj.cells #[.int .i64 p, .int .i64 q] 3) := ⟨_, rfl⟩
  have s : U.heap.size = w.heap.size + 1 + 1 + 1 := by rw [hU]; simp
  have k1 : U.heap[w.heap.size]? = some (Obj.cells #[.int .i64 x] 3) := by rw [hU]; exact zn (zn (zk _ _) _) _
  have k2 : U.heap[w.heap.size + 1]? = some (Obj.cells #[.int .i64 y] 3) := by rw [hU, ← QI w (Obj.cells #[.int .i64 x] 3)]; exact zn (zk _ _) _
  have k3 : U.heap[w.heap.size + 1 + 1]? = some (Obj.cells #[.int .i64 p, .int .i64 q] 3) := by rw [hU, ← QI w (Obj.cells #[.int .i64 x] 3), ← QI (w.alloc _) (Obj.cells #[.int .i64 y] 3)]; exact zk _ _
  have b : Below w.heap.size w U := by rw [hU]; exact qF (qF (qF (Below.refl _ _) _) _) _
  have c1 := C_one k1
  have c2 := C_one k2
  have c3 := C_two k3
  have bz : Below U.heap.size U ((U.alloc (Obj.cells zi 37)).setRow U.heap.size cs) := jr (qF (Below.refl _ _) _) (Nat.le_refl _) cs
  rw [← hU, ← s]
  exact ⟨_, _, rfl, rfl, setRow_heap _ _ _ _ _ _ (zk _ _), Kd.qO c1 bz, Kd.qO c2 bz, Kd.qO c3 bz, qc b bz⟩
theorem sorted_at (l : List S50) (n : Nat) (A : Option Addr) (c : Nat) (w : World) (hn : l.length = n) (hs : (Qm l).length = n) (hm : n ≤ 1000000) (hr : Kd.C k50 w A n l) (hc : n ≤ c) :
    Calls Try.prog 20 #[.slice A n c] w fun e w' => ∃ A' c', e = .returned (.slice A' n c') ∧ n ≤ c' ∧ Kd.C k50 w' A' n (Qm l) ∧ Below w.heap.size w w' := by
  subst hn
  refine (sorted_calls l A c w hr hc hm).mono ?_
  rintro e w1 ⟨v, rfl, h1, h2⟩
  obtain ⟨A', c', rfl⟩ := Kd.qN h1
  have h3 := Kd.qJ h1
  rw [hs] at h3 ⊢
  exact ⟨A', c', rfl, h3.2.1, C_unfix h3.2.2 h2, h2⟩
theorem build_at (k : Nat) (kd : Int) (l : List S50) (n : Nat) (A : Option Addr) (c : Nat) (r : List Int) (w : World) (hn : l.length = n) (hr : Kd.C k50 w A n l) (hc : n ≤ c) (hb : qo.f k kd l = some (r, 0)) :
    Calls Try.prog 19 #[.int .i64 kd, .slice A n c] w fun e w' => ∃ A' c', e = .returned (.tuple #[.slice A' r.length c', .int .i64 0]) ∧ r.length ≤ c' ∧ Kd.C (Kd.int .u8) w' A' r.length r ∧ Below w.heap.size w w' := by
  subst hn
  refine (qo.calls k kd A c l r 0 w hr hc hb).mono ?_
  rintro e w1 ⟨v, rfl, h1, h2⟩
  obtain ⟨A', c', rfl⟩ := Kd.qN h1
  have h3 := Kd.qJ h1
  exact ⟨A', c', rfl, h3.2.1, h3.2.2, h2⟩
theorem open_at (bs : List Int) (A : Option Addr) (c : Nat) (w : World) (h0 : (je bs 0).2 = 0) (hr : Kd.C (Kd.int .u8) w A bs.length bs) (hc : bs.length ≤ c) (ho : okB bs) :
    Calls Try.prog 15 #[.slice A bs.length c, .int .i64 0] w fun e w' => ∃ g, e = .returned (.tuple #[.pointer (some ⟨g, 0, none⟩), .int .i64 0]) ∧ Fn w' g (je bs 0).1.1 (je bs 0).1.2 bs ∧ Below w.heap.size w w' := by
  refine (ZY bs A c 0 w hr hc ho).mono ?_
  rintro e w1 ⟨h1, h2⟩
  rcases h2 with ⟨h2, _⟩ | ⟨_, g, h2, h3⟩
  · exact absurd h0 h2
  · exact ⟨g, h2, h3, h1⟩
theorem read_at (R : Int × Met) (w : World) (e : Ending) (w' : World) (h0 : R.1 = 0) (h : Zf R w e w') : ∃ A7 c7 A8 c8 A9 c9,
    e = .returned (.tuple #[.agg #[.int .i64 R.2.kd, .int .i64 R.2.u, .int .i64 R.2.n, .int .i64 R.2.a, .int .i64 R.2.d, .int .i64 R.2.gp, .slice A7 R.2.adv.length c7, .slice A8 R.2.bear.length c8, .slice A9 R.2.pl.length c9], .int .i64 0]) ∧
    R.2.adv.length ≤ c7 ∧ R.2.bear.length ≤ c8 ∧ R.2.pl.length ≤ c9 ∧ Kd.C (Kd.int .i64) w' A7 R.2.adv.length R.2.adv ∧ Kd.C (Kd.int .i64) w' A8 R.2.bear.length R.2.bear ∧ Kd.C (Kd.int .i64) w' A9 R.2.pl.length R.2.pl ∧ Below w.heap.size w w' := by
  obtain ⟨hb, ⟨hn, _⟩ | ⟨_, A7, c7, A8, c8, A9, c9, h1, h2, h3, h4⟩⟩ := h
  · exact absurd h0 hn
  · exact ⟨A7, c7, A8, c8, A9, c9, h1, (Kd.qJ h2).2.1, (Kd.qJ h3).2.1, (Kd.qJ h4).2.1, (Kd.qJ h2).2.2, (Kd.qJ h3).2.2, (Kd.qJ h4).2.2, hb⟩
theorem Zi (w : World) (cs : Array Value) : ∃ X g, X = (w.alloc (Obj.cells zi 37)).setRow w.heap.size cs ∧ w.heap.size = g ∧ X.heap[g]? = some (Obj.cells cs 37) ∧ Below w.heap.size w X :=
  ⟨_, _, rfl, rfl, setRow_heap _ _ _ _ _ _ (zk _ _), jr (qF (Below.refl _ _) _) (Nat.le_refl _) cs⟩
abbrev mR (R : Met) (A7 : Option Addr) (c7 : Nat) (A8 : Option Addr) (c8 : Nat) (A9 : Option Addr) (c9 : Nat) : Array Value := #[.int .i64 R.kd, .int .i64 R.u, .int .i64 R.n, .int .i64 R.a, .int .i64 R.d, .int .i64 R.gp, .slice A7 R.adv.length c7, .slice A8 R.bear.length c8, .slice A9 R.pl.length c9]
theorem scale_e (w : World) : Calls Try.prog 28 #[.agg #[.int .i64 0, .int .i64 1000, .int .i64 0, .int .i64 0, .int .i64 0, .int .i64 0, .slice none 0 0, .slice none 0 0, .slice none 0 0], .int .i64 500, .int .i64 640] w fun e w' => e = .returned (.tuple #[.int .i64 320, .int .i64 0]) ∧ Below w.heap.size w w' :=
  zu.calls 100 0 1000 0 0 0 0 none 0 [] none 0 [] none 0 [] 500 640 320 0 w (Kd.Za _ _) (by decide) (Kd.Za _ _) (by decide) (Kd.Za _ _) (by decide) (by decide +kernel)
theorem pieces_e (w : World) (A7 A8 A9 : Option Addr) (h7 : Kd.C (Kd.int .i64) w A7 1 [600]) (h8 : Kd.C (Kd.int .i64) w A8 1 [-5]) (h9 : Kd.C (Kd.int .i64) w A9 2 [0, 0]) :
    Calls Try.prog 21 #[.agg #[.int .i64 1, .int .i64 1000, .int .i64 1, .int .i64 800, .int .i64 (-200), .int .i64 0, .slice A7 1 1, .slice A8 1 1, .slice A9 2 2]] w fun e w' => ∃ v W, e = .returned v ∧ Kd.R (Kd.fixed k50 W) 50 w' W.heap.size (fun _ => True) v (Zc eU eT eG (jS (fun _ => eH) 1) (jS (fun _ => eL) 2)) ∧ Below W.heap.size W w' ∧ Below w.heap.size w W :=
  pieces_calls 20 1 1000 1 800 (-200) 0 A7 A8 A9 1 1 2 [600] [-5] [0, 0] eU eT eG w h7 h8 h9 Jt.1 Jt.2.1 Jt.2.2.1 rfl (fun _ => eH) (fun _ => eL) rfl (by decide) (by decide)
    (fun i hi => by match i, hi with | 0, _ => exact ⟨Jt.2.2.2.1, rfl⟩) (fun i hi => by match i, hi with | 0, _ => exact Jt.2.2.2.2 | 1, _ => exact Jt.2.2.2.2)
theorem same_e (w : World) (R : Met) (A7 A8 A9 B7 B8 B9 : Option Addr) (c7 c8 c9 d7 d8 d9 : Nat) (l7 l8 l9 : List Int) (kd u n a d gp : Int) (h7 : Kd.C (Kd.int .i64) w A7 R.adv.length R.adv) (h8 : Kd.C (Kd.int .i64) w A8 R.bear.length R.bear) (h9 : Kd.C (Kd.int .i64) w A9 R.pl.length R.pl) (k7 : R.adv.length ≤ c7) (k8 : R.bear.length ≤ c8) (k9 : R.pl.length ≤ c9)
    (g7 : Kd.C (Kd.int .i64) w B7 l7.length l7) (g8 : Kd.C (Kd.int .i64) w B8 l8.length l8) (g9 : Kd.C (Kd.int .i64) w B9 l9.length l9) (j7 : l7.length ≤ d7) (j8 : l8.length ≤ d8) (j9 : l9.length ≤ d9) (k : Nat) (b : Bool) (hs : jd.f k R.kd R.u R.n R.a R.d R.gp R.adv R.bear R.pl kd u n a d gp l7 l8 l9 = some b) :
    Calls Try.prog 18 #[.agg #[.int .i64 R.kd, .int .i64 R.u, .int .i64 R.n, .int .i64 R.a, .int .i64 R.d, .int .i64 R.gp, .slice A7 R.adv.length c7, .slice A8 R.bear.length c8, .slice A9 R.pl.length c9], .agg #[.int .i64 kd, .int .i64 u, .int .i64 n, .int .i64 a, .int .i64 d, .int .i64 gp, .slice B7 l7.length d7, .slice B8 l8.length d8, .slice B9 l9.length d9]] w fun e w' => e = .returned (.bool b) ∧ Below w.heap.size w w' :=
  jd.calls k R.kd R.u R.n R.a R.d R.gp A7 c7 R.adv A8 c8 R.bear A9 c9 R.pl kd u n a d gp B7 d7 l7 B8 d8 l8 B9 d9 l9 b w h7 k7 h8 k8 h9 k9 g7 j7 g8 j8 g9 j9 hs
theorem e_same : jd.f 20 eR.2.kd eR.2.u eR.2.n eR.2.a eR.2.d eR.2.gp eR.2.adv eR.2.bear eR.2.pl 1 1000 1 800 (-200) 0 [600] [-5] [0, 0] = some true := by decide +kernel
abbrev mE (p : Nat) : Array Value := #[.int .i64 1, .int .i64 1000, .int .i64 1, .int .i64 800, .int .i64 (-200), .int .i64 0, .slice (some ⟨p, 0, none⟩) 1 1, .slice (some ⟨p + 1, 0, none⟩) 1 1, .slice (some ⟨p + 1 + 1, 0, none⟩) 2 2]
set_option maxRecDepth 100000 in
set_option maxHeartbeats 4000000 in
theorem Jp (w : World) : Calls Try.prog 13 #[] w fun e w' => e = .returned (.bool true) ∧ Below w.heap.size w w' := by
  have SC := qa.mk (scale_e w)
  go_enter Try.func13, Try.ntmps13
  go_upto_region 2 with (go_at_call 28; refine SC.out.mono ?_; rintro q w1 ⟨rfl, h1⟩; have B1 := qa.mk h1; clear h1)
  go_upto_region 4 with fail
  have MZ := qa.mk (m_zero w1 (Obj.cells #[.int .i64 600] 3) (Obj.cells #[.int .i64 (-5)] 3) (Obj.cells #[.int .i64 0, .int .i64 0] 3) (Obj.cells zi 37))
  go_upto_region 5 with (refine wpList_store_row rfl 37 (.tmp 3) (.tmp 22) rfl (w1.heap.size + 1 + 1 + 1) (mE w1.heap.size) rfl rfl 37 zi MZ.out (by kernel_rfl) rfl (by simp [Value.oneCell']) ?_)
  clear MZ
  obtain ⟨X, g, hX, hg, km, k7, k8, k9, bX⟩ := m_new w1 600 (-5) 0 0 (mE w1.heap.size)
  rw [← hX, hg]
  have P := qa.mk (pieces_e X _ _ _ k7 k8 k9)
  have c0 := qb km 0
  have c1 := qb km 1
  have c2 := qb km 2
  have c3 := qb km 3
  have c4 := qb km 4
  have c5 := qb km 5
  have c6 := qb km 6
  have c7 := qb km 7
  have c8 := qb km 8
  have KM := qa.mk km
  have K7 := qa.mk k7
  have K8 := qa.mk k8
  have K9 := qa.mk k9
  have BX := qa.mk (qc B1.out bX)
  have EL := qa.mk e_len
  have EB := qa.mk e_build
  have EO := qa.mk (⟨e_ok, e_open⟩ : okB eB ∧ (je eB 0).2 = 0)
  clear hX hg km k7 k8 k9 bX
  go_upto_region 6 with (first | (go_at_call 21; refine P.out.mono ?_; rintro q w5 ⟨v, W, rfl, h1, h2, h3⟩; obtain ⟨A5, l5, rfl⟩ : ∃ A l, v = .slice A 5 l := Kd.qN h1; have R5 := qa.mk h1; have B5 := qa.mk h2; have D5 := qa.mk h3; clear h1 h2 h3) | ((with_reducible refine qG (b := .append) (xs := #[.tmp 25, .tmp 27]) rfl ?_); at_builtin; refine Kd.zM (Kd.fixed k50 W) (w0 := W) W.heap.size rfl (.tmp 25) (.tmp 27) 46 50 (.agg #[(.string ⟨#[]⟩), (.slice none 0 0)]) 40 rfl Try.underlying46 Zp rfl (show 0 < 2 by decide) (by omega) (.slice A5 5 l5) (Zc eU eT eG (jS (fun _ => eH) 1) (jS (fun _ => eL) 2)) glyfP [.string ⟨#[103, 108, 121, 102]⟩, .slice none 0 0] (fun _ => True) (fun _ => False) rfl (by first | (go_simp; done) | (go_simp; rfl)) ?aP (fun _ hk => hk.elim) ?aF ?aO ?aB ?aS ?aL ?_; (case aP => exact Jd W glyfP (Nat.le_refl 0) (Kd.Za _ _)); (case aF => exact fun _ _ => trivial); (case aO => exact R5.out); (case aB => exact B5.out); (case aS => exact qi B5.out); (case aL => rw [EL.out.1]; decide); intro v6 w6 k1 k2 k3 k4; obtain ⟨A6, l6, rfl⟩ : ∃ A l, v6 = .slice A 6 l := Kd.qN k1; have C6 := qa.mk (C_unfix (Kd.qJ k1).2.2 k2); have Q6 := qa.mk (Kd.qJ k1).2.1; have D6 := qa.mk (qc D5.out k2); clear k1 k2 k3 k4) | (go_at_call 20; refine (sorted_at eP 6 A6 l6 w6 EL.out.2.1 EL.out.2.2 (by decide) C6.out Q6.out).mono ?_; rintro q w7 ⟨A7, l7, rfl, h0, h1, h2⟩; have C7 := qa.mk h1; have Q7 := qa.mk h0; have D7 := qa.mk (qc D6.out h2); clear h0 h1 h2) | (go_at_call 19; refine (build_at 400 1 (Qm eP) 6 A7 l7 eB w7 EL.out.2.2 C7.out Q7.out EB.out).mono ?_; rintro q w8 ⟨A8, l8, rfl, h0, h1, h2⟩; have C8 := qa.mk h1; have Q8 := qa.mk h0; have D8 := qa.mk (qc D7.out h2); clear h0 h1 h2))
  clear C7 Q7 D7 C6 Q6 D6 R5 B5 D5 P
  go_upto_region 7 with (go_at_call 15; refine (open_at eB A8 l8 w8 EO.out.2 C8.out Q8.out EO.out.1).mono ?_; rintro q w9 ⟨gF, rfl, h1, h2⟩; have F9 := qa.mk h1; have D9 := qa.mk (qc D8.out h2); clear h1 h2)
  clear C8 Q8 D8
  have RD := qa.mk (show ∀ w2, Fn w2 gF (je eB 0).1.1 (je eB 0).1.2 eB → Calls Try.prog 17 #[.pointer (some ⟨gF, 0, none⟩)] w2 (Zf eR w2) from fun w2 h => JL eB EO.out.1 gF _ _ w2 h)
  have ER := qa.mk e_read.1
  have ES := qa.mk e_same
  go_upto_region 9 with fail
  go_upto_region 10 with (first | (go_at_call 17; refine (RD.out w9 F9.out).mono ?_; intro q w10 h; obtain ⟨A10, l10, A11, l11, A12, l12, rfl, h1, h2, h3, h4, h5, h6, h7⟩ := read_at eR w9 q w10 ER.out h; have V10 := qa.mk (And.intro h1 (And.intro h2 h3)); have C10 := qa.mk (And.intro h4 (And.intro h5 h6)); have D10 := qa.mk (qc D9.out h7); have MZ := qa.mk (zk w10 (Obj.cells zi 37)); clear h h1 h2 h3 h4 h5 h6 h7) | (refine wpList_store_row rfl 37 (.tmp 7) (.tmp 51) rfl w10.heap.size (mR eR.2 A10 l10 A11 l11 A12 l12) rfl rfl 37 zi MZ.out (by kernel_rfl) rfl (by simp [Value.oneCell']) ?_))
  clear MZ RD F9 D9
  obtain ⟨Y, gm, hY, hgm, km, bY⟩ := Zi w10 (mR eR.2 A10 l10 A11 l11 A12 l12)
  rw [← hY, hgm]
  have bX := qc D10.out bY
  have k2 := (bX.block _ (qz KM.out)).trans KM.out
  have c0 := qb k2 0
  have c1 := qb k2 1
  have c2 := qb k2 2
  have c3 := qb k2 3
  have c4 := qb k2 4
  have c5 := qb k2 5
  have c6 := qb k2 6
  have c7 := qb k2 7
  have c8 := qb k2 8
  have d0 := qb km 0
  have d1 := qb km 1
  have d2 := qb km 2
  have d3 := qb km 3
  have d4 := qb km 4
  have d5 := qb km 5
  have d6 := qb km 6
  have d7 := qb km 7
  have d8 := qb km 8
  have DY := qa.mk (qc BX.out bX)
  have SE := qa.mk (same_e Y eR.2 A10 A11 A12 _ _ _ l10 l11 l12 1 1 2 [600] [-5] [0, 0] 1 1000 1 800 (-200) 0 (Kd.qO C10.out.1 bY) (Kd.qO C10.out.2.1 bY) (Kd.qO C10.out.2.2 bY) V10.out.1 V10.out.2.1 V10.out.2.2 (Kd.qO K7.out bX) (Kd.qO K8.out bX) (Kd.qO K9.out bX) (by decide) (by decide) (by decide) 20 true ES.out)
  clear hY hgm km bY k2 bX C10 V10 K7 K8 K9 KM D10 BX
  go_wp2_with (go_at_call 18; refine SE.out.mono ?_; rintro q w11 ⟨rfl, h1⟩; have E11 := qa.mk (qc DY.out h1); clear h1)
  go_ret
  exact ⟨rfl, E11.out⟩
end Go.Proofs.Ytonljpciadeafaa.S
set_option linter.unusedVariables false
set_option linter.unusedSimpArgs false
namespace Go.Proofs.Ytonljpciadeafaa.S
open Go Go.RowKit Go.Proofs.YtonljpciadeafaaW.PrintWords Go.Proofs.YtonljpciadeafaaW.PrintLast Go.Proofs.YtonljpciadeafaaW.PrintMore
set_option maxRecDepth 100000 in
theorem mnames_walk (w : World) : Calls Try.prog 5 #[] w fun e w' => e = .returned (.bool true) ∧ Below w.heap.size w w' := by
  have HA := qa.mk (Jp w)
  go_enter Try.func5, Try.ntmps5
  go_wp2_with (go_at_call 13; refine HA.out.mono ?_; rintro q w1 ⟨rfl, h1⟩; have B1 := qa.mk h1; clear h1)
  go_ret
  exact ⟨rfl, B1.out⟩
end Go.Proofs.Ytonljpciadeafaa.S
