/- append(row, ys...) where the row is a []byte("constant"): its block is frozen behind its last cell, so the append grows. For serifref03.Build's print (ext4/serifref03_Build.sub). -/
import Derived.Test.YtchmhcfdamdjdaaLongG
import Derived.Lib.SlBytesConst
set_option linter.unusedVariables false
set_option linter.unusedSimpArgs false
namespace Go.Proofs.Ytchmhcfdamdjdaa.G
open Go Go.RowKit Go.Proofs.YtchmhcfdamdjdaaW.PrintWords Go.Proofs.YtchmhcfdamdjdaaW.PrintLast Go.Proofs.YtchmhcfdamdjdaaW.PrintMore

section
variable {P : Program} {ops : Array Oper} {rest : List Oper} {o : Oper} {a : Act} {Q : Exit → Act → World → Prop}
theorem cells_of_C8 {k : IntKind} {w : World} {A : Option Addr} {ys : List Int} (h : Kd.C (Kd.int k) w A ys.length ys) (hne : ys ≠ []) :
    ∃ ad, A = some ad ∧ ∀ j u, (ys.map (Value.int k))[j]? = some u → w.cell? (ad.add j) = some u := by
  obtain ⟨ad, e, hc⟩ := h.2.2 (List.length_pos_iff.2 hne)
  refine ⟨ad, e, fun j u hu => ?_⟩
  rw [List.getElem?_map] at hu
  obtain ⟨p, hp, rfl⟩ := Option.map_eq_some_iff.1 hu
  obtain ⟨c, hs, hr, hcell⟩ := hc j p hp
  have hr : c = [Value.int k p] := hr
  subst hr
  have h2 : w.cell? (ad.add (j * 1 + 0)) = some (.int k p) := hcell 0 _ rfl
  rw [Nat.mul_one, Nat.add_zero] at h2
  exact h2
theorem R_append_frozen {W : World} (hgd : o.guard = none) (s x : Operand) (t e : TypeId)
    (ho : o.op = .call { callee := .builtin .append, args := #[s, x], argTypes := #[t, t] })
    (ht : P.underlying t = some (.slice e)) (hinfo : (P.info? e).map (fun i => (i.zero, i.size, i.bytes)) = some (some (.int .u8 0), 1, 1))
    (g : Nat) (xs ys : List Int) (A : Option Addr) (c : Nat) (hs : a.eval s = .slice (some ⟨g, 0, none⟩) xs.length xs.length) (hx : a.eval x = .slice A ys.length c)
    (hX : Kd.C (Kd.int .u8) W (some ⟨g, 0, none⟩) xs.length xs) (hY : Kd.C (Kd.int .u8) W A ys.length ys) (hxe : xs ≠ []) (hne : ys ≠ []) (hl : xs.length + ys.length ≤ 140737488355328)
    (h : ∀ v1 w1, Kd.R (Kd.int .u8) e w1 W.heap.size (fun _ => True) v1 (xs ++ ys) → Below W.heap.size W w1 → wpList P ops Q rest (a.put o.dst v1) w1) :
    wpList P ops Q (o :: rest) a W := by
  obtain ⟨i0, hi, hzz⟩ := Option.map_eq_some_iff.1 hinfo
  simp only [Prod.mk.injEq] at hzz
  obtain ⟨hz0, hz1, hz2⟩ := hzz
  obtain ⟨ad, rfl, hcy⟩ := cells_of_C8 hY hne
  obtain ⟨ax, hax, hcx⟩ := cells_of_C8 hX hxe
  have hpos := List.length_pos_iff.2 hne
  refine wpList_append_grows (P := P) W hgd s x t ho e i0 (.int .u8 0) 1 1 ht hi hz0 hz1 hz2 rfl (by decide) (some ⟨g, 0, none⟩) xs.length xs.length (xs.map (Value.int .u8)) hs (fun z => by cases z) (by simp) (fun b hb => ?_) ad ys.length c (ys.map (Value.int .u8)) hx (by simp) hcy ?_ (by omega) (by unfold maxLen; omega) (by omega) (fun v' w' h1 h2 => ?_)
  · injection hb with hb
    subst hb
    injection hax with hax
    subst hax
    exact hcx
  · intro u hu
    obtain ⟨q, _, rfl⟩ := List.mem_map.1 hu
    rfl
  · refine h v' w' (Kd.R_of_own (h1 := fun _ => rfl) (enc := Value.int .u8) ?_ (fun _ _ => trivial)) ((Below.refl _ _).grown h2 (Nat.le_refl _) (fun k hk => by cases hk))
    rw [List.length_append]
    have : encs (Value.int .u8) (xs ++ ys) = xs.map (Value.int .u8) ++ ys.map (Value.int .u8) := List.map_append ..
    rw [this]
    exact h1
end
theorem C_row {k : IntKind} {w : World} {g T : Nat} {fr : Nat × Nat} {xs : List Int} (h : w.heap[g]? = some (.cells (xs.map (Value.int k)).toArray T fr)) (hl : xs.length ≤ 9223372036854775807) : Kd.C (Kd.int k) w (some ⟨g, 0, none⟩) xs.length xs := by
  refine ⟨rfl, hl, fun _ => ⟨_, rfl, fun j p hj => ⟨[.int k p], rfl, rfl, fun i u hi => ?_⟩⟩⟩
  obtain ⟨rfl, rfl⟩ : i = 0 ∧ Value.int k p = u := by
    match i, hi with
    | 0, hi => exact ⟨rfl, by simpa using hi⟩
  show w.cell? ((⟨g, 0, none⟩ : Addr).add (j * 1 + 0)) = _
  rw [add_at]
  simp only [World.cell?, h]
  simp [hj]
end Go.Proofs.Ytchmhcfdamdjdaa.G
