import Derived.Test.YtmlkpadlafjfeaaLongP
import Derived.Test.YtmlkpadlafjfeaaWShare
set_option linter.unusedVariables false
set_option linter.unusedSimpArgs false
namespace Go.Proofs.Ytmlkpadlafjfeaa.P
open Go Go.RowKit Go.Proofs.YtmlkpadlafjfeaaW.PrintWords Go.Proofs.YtmlkpadlafjfeaaW.PrintLast Go.Proofs.YtmlkpadlafjfeaaW.PrintMore
theorem Kd.zq {α : Type} {d : Kd α} {e base n c g : Nat} {ok : Nat → Prop} {W : World} {ad : Addr} {xs : List α} (h : Kd.V d e W base ok (.slice (some ad) n c) xs) (hok : ∀ k, ok k → k ≠ g) (hp : 0 < xs.length := by first | omega | exact Int.natCast_pos.1 (of_eq_true (by assumption))) (hs : 0 < d.sz := by decide) : some g ≠ (Value.slice (some ad) n c).ownBlock := by
  intro he
  have hg : g = ad.block := by
    simp only [Value.ownBlock, Option.some.injEq] at he
    exact he
  have hF := (Kd.V_at h).2.2
  have hC := hF { W with heap := W.heap.setIfInBounds g (.cells #[] 0 (0, 0)) } (fun k hk _ => by
    show (W.heap.setIfInBounds g _)[k]? = _
    rw [Array.getElem?_setIfInBounds_ne (fun e => hok k hk e.symm)])
  obtain ⟨inh⟩ : Nonempty α := ⟨xs[0]⟩
  obtain ⟨ad', cs, ea, hl, _, hc⟩ := Kd.C_get hC inh 0 (by omega) (by omega)
  injection ea with ea
  subst ea
  have := hc 0 (cs[0]'(by omega)) (List.getElem?_eq_getElem (by omega))
  simp only [World.cell?] at this
  rw [show (ad.add ((0 : Int).toNat * d.sz + 0)).block = g by rw [add_block]; exact hg.symm] at this
  by_cases hgz : g < W.heap.size
  · rw [Array.getElem?_setIfInBounds_self_of_lt hgz] at this
    simp at this
  · rw [Array.getElem?_eq_none (by simp; omega)] at this
    simp at this
end Go.Proofs.Ytmlkpadlafjfeaa.P
