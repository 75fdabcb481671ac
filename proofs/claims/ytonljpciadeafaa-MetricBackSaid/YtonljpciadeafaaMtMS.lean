/- The example's font: its bytes, and what Open and Read answer for it. -/
import Derived.Test.YtonljpciadeafaaSx0
import Derived.Test.YtonljpciadeafaaSx38
import Derived.Test.YtonljpciadeafaaSx39
import Derived.Test.YtonljpciadeafaaMtPCS
import Derived.Test.YtonljpciadeafaaSfOS
import Derived.Test.YtonljpciadeafaaMtPBS
import Derived.Test.YtonljpciadeafaaSx40
set_option linter.unusedVariables false
set_option linter.unusedSimpArgs false
namespace Go.Proofs.Ytonljpciadeafaa.S
open Go Go.RowKit Go.Proofs.YtonljpciadeafaaW.PrintWords Go.Proofs.YtonljpciadeafaaW.PrintLast Go.Proofs.YtonljpciadeafaaW.PrintMore

theorem C_unfix {W w : World} {A : Option Addr} {n : Nat} {xs : List S50} (h : Kd.C (Kd.fixed k50 W) w A n xs) (hb : Below W.heap.size W w) : Kd.C k50 w A n xs :=
  ReadsRow.imp_ h (Below.refl _ _) (fun _ _ hp => k50.K_below hb hp)
/-- The example's pieces in order. -/
def eU : List Int := [3, 232]
def eT : List Int := [3, 32, 255, 56, 0, 0]
def eG : List Int := [0, 1]
def eH : List Int := [2, 88, 255, 251]
def eL : List Int := [0, 0, 0, 0]
theorem e_big : serifref02_Big.f 20 1000 2 = some eU ∧ serifref02_Two.f 20 [800, -200, 0] = some eT ∧ serifref02_Big.f 20 1 2 = some eG ∧ serifref02_Two.f 20 [600, -5] = some eH ∧ serifref02_Big.f 20 0 4 = some eL := by decide +kernel
def glyfP : S50 := ⟨⟨#[103, 108, 121, 102]⟩, []⟩
def eP : List S50 := piecesL eU eT eG (catL (fun _ => eH) 1) (catL (fun _ => eL) 2) ++ [glyfP]
def eB : List Int := ((serifref03_Build.f 400 1 (sortP eP)).getD ([], 1)).1
theorem e_build : serifref03_Build.f 400 1 (sortP eP) = some (eB, 0) := by
  have h : ((serifref03_Build.f 400 1 (sortP eP)).map (·.2)) = some 0 := by decide +kernel
  unfold eB
  cases hb : serifref03_Build.f 400 1 (sortP eP) with
  | none => rw [hb] at h; simp at h
  | some p => rw [hb] at h; simp only [Option.map_some, Option.some.injEq] at h; rw [← h]; rfl
theorem e_ok : okB eB := by unfold okB; decide +kernel
theorem e_open : (openV eB 0).2 = 0 := by decide +kernel
theorem e_len : (piecesL eU eT eG (catL (fun _ => eH) 1) (catL (fun _ => eL) 2)).length = 5 ∧ eP.length = 6 ∧ (sortP eP).length = 6 := by decide +kernel
def eR : Int × Met := readV eB (openV eB 0).1.1 (openV eB 0).1.2
theorem e_read : eR.1 = 0 ∧ eR.2.kd = 1 ∧ eR.2.u = 1000 ∧ eR.2.n = 1 ∧ eR.2.a = 800 ∧ eR.2.d = -200 ∧ eR.2.gp = 0 ∧ eR.2.adv = [600] ∧ eR.2.bear = [-5] ∧ eR.2.pl = [0, 0] := by decide +kernel
end Go.Proofs.Ytonljpciadeafaa.S
