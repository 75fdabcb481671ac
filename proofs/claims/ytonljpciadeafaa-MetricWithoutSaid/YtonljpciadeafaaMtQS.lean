/- The font that lacks a table: its bytes, and what Open and Read answer for it. -/
import Derived.Test.YtonljpciadeafaaSx0
import Derived.Test.YtonljpciadeafaaSx36
import Derived.Test.YtonljpciadeafaaSx37
import Derived.Test.YtonljpciadeafaaSx38
import Derived.Test.YtonljpciadeafaaSx39
import Derived.Test.YtonljpciadeafaaSx40
import Derived.Test.YtonljpciadeafaaMtOS
set_option linter.unusedVariables false
set_option linter.unusedSimpArgs false
namespace Go.Proofs.Ytonljpciadeafaa.S
open Go Go.RowKit Go.Proofs.YtonljpciadeafaaW.PrintWords Go.Proofs.YtonljpciadeafaaW.PrintLast Go.Proofs.YtonljpciadeafaaW.PrintMore

def fU : List Int := [0, 16]
def fT : List Int := [0, 0, 0, 0, 0, 0]
def fH : List Int := [0, 1, 0, 1]
theorem f_big : serifref02_Big.f 20 16 2 = some fU ∧ serifref02_Two.f 20 [0, 0, 0] = some fT ∧ serifref02_Big.f 20 1 2 = some eG ∧ serifref02_Two.f 20 [1, 1] = some fH ∧ serifref02_Big.f 20 0 4 = some eL := by decide +kernel
def fP : List S50 := piecesL fU fT eG (catL (fun _ => fH) 1) (catL (fun _ => eL) 2) ++ [glyfP]
def fS : List S50 := sortP fP
def fL (j : Nat) : List S50 := fS.take j ++ fS.drop (j + 1)
def fB (j : Nat) : List Int := ((serifref03_Build.f 400 1 (fL j)).getD ([], 1)).1
theorem f_build0 : ∀ j, j < 6 → ((serifref03_Build.f 400 1 (fL j)).map (·.2)) = some 0 := by decide +kernel
theorem f_build (j : Nat) (hj : j < 6) : serifref03_Build.f 400 1 (fL j) = some (fB j, 0) := by
  have h := f_build0 j hj
  unfold fB
  cases hb : serifref03_Build.f 400 1 (fL j) with
  | none => rw [hb] at h; simp at h
  | some p => rw [hb] at h; simp only [Option.map_some, Option.some.injEq] at h; rw [← h]; rfl
theorem f_ok0 : ∀ j, j < 6 → (fB j).all (fun x => decide (0 ≤ x) && decide (x ≤ 255)) = true := by decide +kernel
theorem f_ok (j : Nat) (hj : j < 6) : okB (fB j) := by
  have h := f_ok0 j hj
  rw [List.all_eq_true] at h
  intro x hx
  have := h x hx
  simp only [Bool.and_eq_true, decide_eq_true_eq] at this
  first | exact this | (constructor <;> omega)
theorem f_open : ∀ j, j < 6 → (openV (fB j) 0).2 = 0 := by decide +kernel
theorem f_len : (piecesL fU fT eG (catL (fun _ => fH) 1) (catL (fun _ => eL) 2)).length = 5 ∧ fP.length = 6 ∧ fS.length = 6 := by decide +kernel
theorem f_len5 : ∀ j, j < 6 → (fL j).length = 5 := by decide +kernel
theorem f_read : ∀ j, j < 6 → (readV (fB j) (openV (fB j) 0).1.1 (openV (fB j) 0).1.2).1 = 41 := by decide +kernel
theorem f_same : serifref04_Same.f 20 0 0 0 0 0 0 [] [] [] 0 0 0 0 0 0 [] [] [] = some true ∧ serifref02_SameInts.f 20 [0, 0] [] = some false := by decide +kernel
end Go.Proofs.Ytonljpciadeafaa.S
