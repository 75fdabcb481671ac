import Derived.Test.YtonljpciadeafaaWWords
import Derived.Deep.Slices
import Derived.OpenShut
import Derived.ChangeArms
import Derived.ProofKit
set_option linter.unusedVariables false
set_option linter.unusedSimpArgs false
namespace Go.Proofs.Ytonljpciadeafaa.S
open Go Go.RowKit Go.Proofs.YtonljpciadeafaaW.PrintWords
def Opn {α : Type} (P : Program) (t : TypeId) (d : Kd α) (ok : α → Prop) : Prop :=
  ∀ {H : Type} (enc : TypeId × Value → H) (w : World) (fuel : Nat) (cs : List Value) (x : DataW H × List MemPlace),
    DataW.trod enc P w 0 (fun _ => true) true fuel t cs = some x → (x.1.weights P t).all (· ≤ reachBytes) = true → ∃ a, d.K w a cs ∧ ok a
section
variable {P : Program} {t e : TypeId}
theorem Opn.int {k : IntKind} (hu : P.underlying t = some (.int k)) : Opn P t (Kd.int k) (fun a => (Lit.int k a).wf = true) := by
  intro H enc w fuel cs x h _
  obtain ⟨n, rfl, _, hw⟩ := DataW.trod_int hu h
  exact ⟨n, rfl, hw⟩
theorem Opn.bool (hu : P.underlying t = some .bool) : Opn P t Kd.bool (fun _ => True) := by
  intro H enc w fuel cs x h _
  obtain ⟨b, rfl, _⟩ := DataW.trod_bool hu h
  exact ⟨b, rfl, trivial⟩
theorem Opn.string (hu : P.underlying t = some .string) : Opn P t Kd.string (fun s => s.size ≤ 140737488351232) := by
  intro H enc w fuel cs x h hw
  obtain ⟨s, rfl, rfl, _⟩ := DataW.trod_string hu h
  refine ⟨s, rfl, ?_⟩
  simp only [DataW.weights, reachBytes, List.all_cons, List.all_nil, Bool.and_true, Array.length_toList] at hw
  exact of_decide_eq_true hw
theorem choose_list {α : Type} {Q : Nat → α → Prop} (n : Nat) : (∀ i, i < n → ∃ a, Q i a) → ∃ xs : List α, xs.length = n ∧ ∀ j p, xs[j]? = some p → Q j p := by
  induction n with
  | zero => exact fun _ => ⟨[], rfl, fun j p h => by simp at h⟩
  | succ n ih =>
    intro h
    obtain ⟨xs, hl, hq⟩ := ih fun i hi => h i (by omega)
    obtain ⟨a, ha⟩ := h n (by omega)
    refine ⟨xs ++ [a], by simp [hl], fun j p hj => ?_⟩
    rcases Nat.lt_or_ge j xs.length with c | c
    · rw [List.getElem?_append_left c] at hj; exact hq j p hj
    · rw [List.getElem?_append_right c] at hj
      have : j = n := by
        have := (List.getElem?_eq_some_iff.1 hj).1
        simp at this; omega
      subst this
      rw [hl, Nat.sub_self] at hj
      have : a = p := by simpa using hj
      exact this ▸ ha
theorem mapM_get {α β : Type} {f : α → Option β} : ∀ {l : List α} {r : List β}, l.mapM f = some r → r.length = l.length ∧ ∀ (i : Nat) (x : α), l[i]? = some x → f x = r[i]?
  | [], r, h => by
    simp at h; subst h; exact ⟨rfl, fun i x h => by simp at h⟩
  | y :: l, r, h => by
    simp only [List.mapM_cons, Option.bind_eq_bind, Option.bind_eq_some_iff] at h
    obtain ⟨z, hz, zs, hzs, hr⟩ := h
    have hr' : z :: zs = r := by simpa using hr
    subst hr'
    obtain ⟨h1, h2⟩ := mapM_get hzs
    refine ⟨by simp [h1], fun i x hx => ?_⟩
    cases i with
    | zero => simp at hx; subst hx; simpa using hz
    | succ i => simpa using h2 i x (by simpa using hx)
theorem cells_get {w : World} {a : Addr} {n : Nat} {cs : List Value} (h : w.cells? 0 a n = some cs) : cs.length = n ∧ ∀ (i : Nat) (u : Value), cs[i]? = some u → w.cell? (a.add i) = some u := by
  unfold World.cells? at h
  rw [if_pos (Nat.zero_le _)] at h
  obtain ⟨h1, h2⟩ := mapM_get h
  have hl : cs.length = n := by simpa using h1
  refine ⟨hl, fun i u hu => ?_⟩
  have hi : i < n := by have := (List.getElem?_eq_some_iff.1 hu).1; omega
  have := h2 i i (by simp [hi])
  rw [this, hu]
theorem ZL {H : Type} {q : Nat → Bool} (P : Program) (e : TypeId) (l : List (DataW H)) : (DataW.weightsAll P e l).all q = true ↔ ∀ d ∈ l, (d.weights P e).all q = true := by
  induction l with
  | nil => simp [DataW.weightsAll]
  | cons d r ih => rw [DataW.weightsAll, List.all_append, Bool.and_eq_true, ih]; simp
theorem Opn.slice {α : Type} {d : Kd α} {ok : α → Prop} {B : Nat} (hu : P.underlying t = some (.slice e)) (hc : P.cellsOf e = d.sz) (hB : P.bytesOf e = B) (he : Opn P e d ok) :
    Opn P t (Kd.slice e d) (fun l => l.length ≤ 9223372036854775807 ∧ l.length * B ≤ 140737488351232 ∧ ∀ a ∈ l, ok a) := by
  intro H enc w fuel cs x h hw
  rcases Go.Deep.open_slice hu h with ⟨rfl, rfl⟩ | ⟨a, len, cap, m, n, D, Pl, rfl, _, hl, hm, em, rfl, hel⟩
  · exact ⟨[], ⟨none, 0, rfl, Nat.le_refl _, by simp, by simp, fun h => by simp at h⟩, by simp, by simp, by simp⟩
  · simp only [if_true] at em
    obtain rfl : cap = m := em.symm
    simp only [DataW.weights, hu, List.all_cons, List.all_append, Bool.and_eq_true, decide_eq_true_eq] at hw
    obtain ⟨hw0, hw1, _⟩ := hw
    rw [ZL] at hw1
    have each : ∀ i, i < len → ∃ y, (∃ c, c.length = d.sz ∧ d.K w y c ∧ ∀ j u, c[j]? = some u → w.cell? (a.add (i * d.sz + j)) = some u) ∧ ok y := by
      intro i hi
      obtain ⟨c, h1, h2⟩ := hel i (by omega)
      rw [hc] at h1
      obtain ⟨l1, l2⟩ := cells_get h1
      obtain ⟨y, ky, oy⟩ := he enc w n c (D i, Pl i) h2 (hw1 (D i) (List.mem_map.2 ⟨i, List.mem_range.2 hi, rfl⟩))
      exact ⟨y, ⟨c, l1, ky, fun j u hu => by have := l2 j u hu; rwa [Go.Addr.add_add] at this⟩, oy⟩
    obtain ⟨xs, hx, hq⟩ := choose_list len each
    have hmx : cap ≤ 9223372036854775807 := hm
    refine ⟨xs, ⟨some a, cap, by rw [hx], by omega, rfl, by omega, fun _ => ⟨a, rfl, fun j p hj => (hq j p hj).1⟩⟩, by omega, ?_, fun y hy => ?_⟩
    · rw [hB] at hw0
      simp only [List.length_map, List.length_range, reachBytes] at hw0
      rw [hx]
      exact Nat.le_trans (Nat.mul_le_mul_right _ (by omega)) hw0
    · obtain ⟨j, hj, e⟩ := List.getElem_of_mem hy
      exact (hq j y (by rw [← e]; exact List.getElem?_eq_getElem hj)).2
def ZX {α : Type} (P : Program) (fs : List (TypeId × Nat)) (off : Nat) (d : Kd α) (ok : α → Prop) : Prop :=
  ∀ {H : Type} (enc : TypeId × Value → H) (w : World) (m : Nat) (cs : List Value) (xs : List (DataW H × List MemPlace)),
    (∀ (i : Nat) (tf : TypeId × Nat), fs[i]? = some tf → DataW.trod enc P w 0 (fun _ => true) true m tf.1 ((cs.drop tf.2).take (P.cellsOf tf.1)) = xs[i]?) →
    (∀ (i : Nat) (tf : TypeId × Nat) (y : DataW H × List MemPlace), fs[i]? = some tf → xs[i]? = some y → (y.1.weights P tf.1).all (· ≤ reachBytes) = true) → xs.length = fs.length → cs.length = off + d.sz → ∃ a, d.K w a (cs.drop off) ∧ ok a
theorem ZX.one {α : Type} {d : Kd α} {ok : α → Prop} {off : Nat} (hc : P.cellsOf t = d.sz) (h : Opn P t d ok) : ZX P [(t, off)] off d ok := by
  intro H enc w m cs xs ht hw hl hcs
  match xs, hl with
  | [y], _ =>
    have := ht 0 (t, off) rfl
    rw [hc, List.take_of_length_le (by simp; omega)] at this
    exact h enc w m _ y this (hw 0 (t, off) y rfl rfl)
theorem ZX.cons {α β : Type} {a : Kd α} {b : Kd β} {oa : α → Prop} {ob : β → Prop} {off : Nat} {fs : List (TypeId × Nat)} (hc : P.cellsOf t = a.sz) (h : Opn P t a oa) (hr : ZX P fs (off + a.sz) b ob) :
    ZX P ((t, off) :: fs) off (Kd.pair a b) (fun z => oa z.1 ∧ ob z.2) := by
  intro H enc w m cs xs ht hw hl hcs
  have sz : (Kd.pair a b).sz = a.sz + b.sz := rfl
  rw [sz] at hcs
  match xs, hl with
  | y :: ys, hl =>
    have h0 := ht 0 (t, off) rfl
    rw [hc] at h0
    obtain ⟨u, ku, ou⟩ := h enc w m _ y h0 (hw 0 (t, off) y rfl rfl)
    obtain ⟨v, kv, ov⟩ := hr enc w m cs ys (fun i tf hi => by have := ht (i + 1) tf (by simpa using hi); simpa using this) (fun i tf z hi hz => hw (i + 1) tf z (by simpa using hi) (by simpa using hz)) (by simpa using hl) (by omega)
    refine ⟨(u, v), ⟨(cs.drop off).take a.sz, cs.drop (off + a.sz), ?_, ku, kv⟩, ou, ov⟩
    rw [← List.drop_drop, List.take_append_drop]
theorem Zb {H : Type} {q : Nat → Bool} (P : Program) : ∀ (ts : List TypeId) (ds : List (DataW H)), (DataW.weightsEach P ts ds).all q = true → ∀ (i : Nat) (t : TypeId) (d : DataW H), ts[i]? = some t → ds[i]? = some d → (d.weights P t).all q = true
  | [], _, _, i, t, d, h, _ => by simp at h
  | _ :: _, [], _, i, t, d, _, h => by simp at h
  | t0 :: ts, d0 :: ds, h, i, t, d, ht, hd => by
    rw [DataW.weightsEach, List.all_append, Bool.and_eq_true] at h
    cases i with
    | zero => simp at ht hd; subst ht; subst hd; exact h.1
    | succ i => exact Zb P ts ds h.2 i t d (by simpa using ht) (by simpa using hd)
theorem Opn.struct {α : Type} {d : Kd α} {ok : α → Prop} {fs : Array Field} {l : List (TypeId × Nat)} (hu : P.underlying t = some (.struct fs)) (hl : fs.toList.map (fun f : Field => (f.type, f.offset)) = l) (hc : P.cellsOf t = d.sz) (h : ZX P l 0 d ok) : Opn P t d ok := by
  intro H enc w fuel cs x hx hw
  obtain ⟨xs, n, _, rfl, hlen, hxl, hi⟩ := DataW.trod_struct hu hx
  subst hl
  simp only [DataW.weights, hu] at hw
  have get : ∀ (i : Nat) (tf : TypeId × Nat), (fs.toList.map (fun f : Field => (f.type, f.offset)))[i]? = some tf → ∃ f, fs[i]? = some f ∧ tf = (f.type, f.offset) := by
    intro i tf h
    rw [List.getElem?_map] at h
    obtain ⟨f, h1, h2⟩ := Option.map_eq_some_iff.1 h
    exact ⟨f, by simpa using h1, h2.symm⟩
  obtain ⟨a, ka, oa⟩ := h enc w n cs xs (fun i tf ht => by obtain ⟨f, hf, rfl⟩ := get i tf ht; exact hi i f hf)
    (fun i tf y ht hy => by
      obtain ⟨f, hf, rfl⟩ := get i tf ht
      exact Zb P _ _ hw i f.type y.1 (by rw [List.getElem?_map, ← Array.getElem?_toList] at *; simp [hf]) (by rw [List.getElem?_map, hy]; rfl))
    (by simp [hxl]) (by rw [hlen, hc]; omega)
  exact ⟨a, by simpa using ka, oa⟩
theorem Opn.array {α : Type} {d : Kd α} {ok : α → Prop} {n : Nat} {l : List (TypeId × Nat)} (hu : P.underlying t = some (.array n e)) (hl : (List.range n).map (fun i => (e, i * P.cellsOf e)) = l) (hc : P.cellsOf t = d.sz) (h : ZX P l 0 d ok) : Opn P t d ok := by
  intro H enc w fuel cs x hx hw
  obtain ⟨xs, m, _, rfl, hlen, hxl, hi⟩ := DataW.trod_array hu hx
  subst hl
  simp only [DataW.weights, hu] at hw
  rw [ZL] at hw
  have get : ∀ (i : Nat) (tf : TypeId × Nat), ((List.range n).map (fun i => (e, i * P.cellsOf e)))[i]? = some tf → i < n ∧ tf = (e, i * P.cellsOf e) := by
    intro i tf h
    rw [List.getElem?_map] at h
    obtain ⟨f, h1, h2⟩ := Option.map_eq_some_iff.1 h
    have := (List.getElem?_eq_some_iff.1 h1)
    obtain ⟨h3, h4⟩ := this
    simp at h3 h4
    subst h4
    exact ⟨h3, h2.symm⟩
  obtain ⟨a, ka, oa⟩ := h enc w m cs xs (fun i tf ht => by obtain ⟨hf, rfl⟩ := get i tf ht; exact hi i hf)
    (fun i tf y ht hy => by
      obtain ⟨hf, rfl⟩ := get i tf ht
      exact hw y.1 (List.mem_map.2 ⟨y, List.mem_of_getElem? hy, rfl⟩))
    (by simp [hxl]) (by rw [hlen, hc]; omega)
  exact ⟨a, by simpa using ka, oa⟩
theorem Opn.iso {α β : Type} {d : Kd α} {ok : α → Prop} {f : β → α} (g : α → β) (hg : ∀ a, f (g a) = a) (h : Opn P t d ok) : Opn P t (Kd.iso d f) (fun x => ok (f x)) := by
  intro H enc w fuel cs x hx hw
  obtain ⟨a, ka, oa⟩ := h enc w fuel cs x hx hw
  exact ⟨g a, by show d.K w (f (g a)) cs; rw [hg]; exact ka, by show ok (f (g a)); rw [hg]; exact oa⟩
theorem Opn.arg {α : Type} {d : Kd α} {ok : α → Prop} (h : Opn P t d ok) {H : Type} {enc : TypeId × Value → H} {w : World} {v : Value} {x : DataW H} {ps : List MemPlace} {ts : List TypeId} {ds : List (DataW H)} {j : Nat}
    (hsz : (DataW.weightsEach P ts ds).all (· ≤ reachBytes) = true) (ht : ts[j]? = some t) (hd : ds[j]? = some x) (hx : DataW.Trod enc P w 0 (fun _ => true) true t v x ps) : ∃ a, d.K w a v.cells.toList ∧ ok a := by
  obtain ⟨fuel, hf⟩ := hx
  exact h enc w fuel _ _ hf (Zb P _ _ hsz j t x ht hd)
theorem okWide_agg {w : World} {r : Reach} {base : Nat} {v : Value} {n : Nat} (ht : P.underlying t = some (.array n e)) (h : Value.okWide P w r base t v) : ∃ cs, v = .agg cs ∧ cs.size = P.cellsOf t := by
  simp only [Value.okWide, ht] at h
  obtain ⟨cs, h1, h2, _⟩ := h
  exact ⟨cs, h1, h2⟩
end
end Go.Proofs.Ytonljpciadeafaa.S
