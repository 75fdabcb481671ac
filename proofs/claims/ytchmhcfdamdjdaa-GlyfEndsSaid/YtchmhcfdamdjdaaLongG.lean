/- Long numbers of the reference, digit by digit in base 65536: plain facts. -/
import Derived.Test.YtchmhcfdamdjdaaWWords
import Derived.Test.YtchmhcfdamdjdaaWMore
import Derived.Deep.Draws
import Derived.Below
set_option linter.unusedVariables false
set_option linter.unusedSimpArgs false
namespace Go.Proofs.Ytchmhcfdamdjdaa.G
open Go Go.RowKit Go.Proofs.YtchmhcfdamdjdaaW.PrintWords

/-! Short words for steps that the printed walks take often. -/
theorem odt {p : Prop} [Decidable p] (h : decide p = true := by first | (with_reducible assumption) | assumption) : p := of_decide_eq_true h
/-- W' is W with more blocks. -/
class Grw (W W' : World) : Prop where
  b : Below W.heap.size W W'
instance grw0 (W : World) : Grw W W := ⟨Below.refl _ _⟩
instance grwA (W W' : World) (o : Obj) [g : Grw W W'] : Grw W (W'.alloc o) := ⟨below_alloc g.b o⟩
instance grwN (W W' : World) (n : Nat) [g : Grw W W'] : Grw W (W'.drewN n) := ⟨pw_below_drewN g.b n⟩
instance grwD (W W' : World) [g : Grw W W'] : Grw W W'.drew := ⟨below_drew g.b⟩
theorem bq {w W W' : World} (h : Aside0 (Below w.heap.size w W)) [g : Grw W W'] : Below w.heap.size w W' := below_step h.out g.b
theorem rq {α : Type} {d : Kd α} {e base : Nat} {ok : Nat → Prop} {v : Value} {xs : List α} {W W' : World} (h : Aside0 (Kd.R d e W base ok v xs)) [g : Grw W W'] : Kd.R d e W' base ok v xs := Kd.R_below h.out g.b
theorem kq {k : Nat} {o : Obj} {W W' : World} (h : Aside0 (W.heap[k]? = some o)) [g : Grw W W'] : W'.heap[k]? = some o := (g.b.block k (blk_lt h.out)).trans h.out
/-- W' is W with more blocks and writes to block k. -/
class GrwS (k : Nat) (W W' : World) : Prop where
  b : ∀ w : World, w.heap.size ≤ k → Below w.heap.size w W → Below w.heap.size w W'
instance grwS0 (k : Nat) (W : World) : GrwS k W W := ⟨fun _ _ h => h⟩
instance grwSA (k : Nat) (W W' : World) (o : Obj) [g : GrwS k W W'] : GrwS k W (W'.alloc o) := ⟨fun w h h' => below_alloc (g.b w h h') o⟩
instance grwSN (k : Nat) (W W' : World) (n : Nat) [g : GrwS k W W'] : GrwS k W (W'.drewN n) := ⟨fun w h h' => pw_below_drewN (g.b w h h') n⟩
instance grwSD (k : Nat) (W W' : World) [g : GrwS k W W'] : GrwS k W W'.drew := ⟨fun w h h' => below_drew (g.b w h h')⟩
instance grwSS (k i : Nat) (v : Value) (W W' : World) [g : GrwS k W W'] : GrwS k W (W'.setCell ⟨k, i, none⟩ v) := ⟨fun w h h' => below_set (g.b w h h') h⟩
theorem bs {k : Nat} {w W W' : World} (h : Aside0 (Below w.heap.size w W)) (hk : Aside0 (w.heap.size ≤ k)) [g : GrwS k W W'] : Below w.heap.size w W' := g.b w hk.out h.out

theorem setCell_drewN (w : World) (n : Nat) (a : Addr) (v : Value) : (w.drewN n).setCell a v = (w.setCell a v).drewN n := rfl
/-- Is it a digit? -/
def isDig (n : Int) : Bool := decide (0 ≤ n) && decide (n < 65536)
theorem isDig_iff {n : Int} : isDig n = true ↔ 0 ≤ n ∧ n < 65536 := by unfold isDig; simp
abbrev L10 := Int × Int × Int × Int × Int × Int × Int × Int × Int × Int
/-- The number of some digits, the lowest first. -/
def val5 (a b c d e : Int) : Int := a + 65536 * b + 4294967296 * c + 281474976710656 * d + 18446744073709551616 * e
def val10 (a b c d e f g h i j : Int) : Int := val5 a b c d e + 1208925819614629174706176 * val5 f g h i j
/-- The ten lowest digits of a number. -/
def digs (v : Int) : L10 :=
  (v % 65536, v / 65536 % 65536, v / 4294967296 % 65536, v / 281474976710656 % 65536, v / 18446744073709551616 % 65536,
   v / 1208925819614629174706176 % 65536, v / 79228162514264337593543950336 % 65536, v / 5192296858534827628530496329220096 % 65536,
   v / 340282366920938463463374607431768211456 % 65536, v / 22300745198530623141535718272648361505980416 % 65536)
def allDig (l : List Int) : Bool := l.all isDig
theorem val10_digs {v : Int} (h0 : 0 ≤ v) (h1 : v < 1461501637330902918203684832716283019655932542976) :
    val10 (digs v).1 (digs v).2.1 (digs v).2.2.1 (digs v).2.2.2.1 (digs v).2.2.2.2.1 (digs v).2.2.2.2.2.1 (digs v).2.2.2.2.2.2.1 (digs v).2.2.2.2.2.2.2.1 (digs v).2.2.2.2.2.2.2.2.1 (digs v).2.2.2.2.2.2.2.2.2 = v := by
  simp only [digs, val10, val5]; omega
theorem digs_val10 {a b c d e f g h i j : Int} (ha : isDig a = true) (hb : isDig b = true) (hc : isDig c = true) (hd : isDig d = true) (he : isDig e = true) (hf : isDig f = true) (hg : isDig g = true) (hh : isDig h = true) (hi : isDig i = true) (hj : isDig j = true) :
    digs (val10 a b c d e f g h i j) = (a, b, c, d, e, f, g, h, i, j) := by
  rw [isDig_iff] at *
  simp only [digs, val10, val5, Prod.mk.injEq]
  refine ⟨?_, ?_, ?_, ?_, ?_, ?_, ?_, ?_, ?_, ?_⟩ <;> omega
theorem digs_all (v : Int) : isDig (digs v).1 = true ∧ isDig (digs v).2.1 = true ∧ isDig (digs v).2.2.1 = true ∧ isDig (digs v).2.2.2.1 = true ∧ isDig (digs v).2.2.2.2.1 = true ∧ isDig (digs v).2.2.2.2.2.1 = true ∧ isDig (digs v).2.2.2.2.2.2.1 = true ∧ isDig (digs v).2.2.2.2.2.2.2.1 = true ∧ isDig (digs v).2.2.2.2.2.2.2.2.1 = true ∧ isDig (digs v).2.2.2.2.2.2.2.2.2 = true := by
  simp only [digs, isDig_iff]
  refine ⟨?_, ?_, ?_, ?_, ?_, ?_, ?_, ?_, ?_, ?_⟩ <;> omega
theorem dig_mul {a b : Int} (ha : isDig a = true) (hb : isDig b = true) : 0 ≤ a * b ∧ a * b ≤ 4294836225 := by
  rw [isDig_iff] at *
  refine ⟨Int.mul_nonneg ha.1 hb.1, ?_⟩
  exact Int.le_trans (Int.mul_le_mul_of_nonneg_right (show a ≤ 65535 by omega) hb.1) (Int.mul_le_mul_of_nonneg_left (show b ≤ 65535 by omega) (by omega))
/-- A step of a product: what is written, what is carried. -/
structure Step (o p c o' c' : Int) : Prop where
  e : o + p + c = o' + 65536 * c'
  o0 : 0 ≤ o'
  o1 : o' < 65536
  c0 : 0 ≤ c'
  c1 : c' < 65536
theorem Step.mk' {o p c o' c' x : Int} (hx : o + p + c = x) (ho : x % 65536 = o') (hc : x / 65536 = c') (o0 : 0 ≤ o) (o1 : o < 65536) (p0 : 0 ≤ p) (p1 : p ≤ 4294836225) (c0 : 0 ≤ c) (c1 : c < 65536) : Step o p c o' c' := by
  refine ⟨?_, ?_, ?_, ?_, ?_⟩ <;> omega
theorem times_row {a b0 b1 b2 b3 b4 x0 x1 x2 x3 x4 y0 y1 y2 y3 y4 c0 c1 c2 c3 c4 : Int} (h0 : Step x0 (a * b0) 0 y0 c0) (h1 : Step x1 (a * b1) c0 y1 c1) (h2 : Step x2 (a * b2) c1 y2 c2) (h3 : Step x3 (a * b3) c2 y3 c3) (h4 : Step x4 (a * b4) c3 y4 c4) :
    val5 x0 x1 x2 x3 x4 + a * val5 b0 b1 b2 b3 b4 = val5 y0 y1 y2 y3 y4 + 1208925819614629174706176 * c4 := by
  have e0 := h0.e; have e1 := h1.e; have e2 := h2.e; have e3 := h3.e; have e4 := h4.e
  have d : a * val5 b0 b1 b2 b3 b4 = a * b0 + 65536 * (a * b1) + 4294967296 * (a * b2) + 281474976710656 * (a * b3) + 18446744073709551616 * (a * b4) := by unfold val5; grind
  rw [d]; unfold val5; omega
theorem times_all {a0 a1 a2 a3 a4 B y00 y01 y02 y03 y04 c0 y10 y11 y12 y13 y14 c1 y20 y21 y22 y23 y24 c2 y30 y31 y32 y33 y34 c3 y40 y41 y42 y43 y44 c4 : Int}
    (r0 : val5 0 0 0 0 0 + a0 * B = val5 y00 y01 y02 y03 y04 + 1208925819614629174706176 * c0) (r1 : val5 y01 y02 y03 y04 c0 + a1 * B = val5 y10 y11 y12 y13 y14 + 1208925819614629174706176 * c1)
    (r2 : val5 y11 y12 y13 y14 c1 + a2 * B = val5 y20 y21 y22 y23 y24 + 1208925819614629174706176 * c2) (r3 : val5 y21 y22 y23 y24 c2 + a3 * B = val5 y30 y31 y32 y33 y34 + 1208925819614629174706176 * c3)
    (r4 : val5 y31 y32 y33 y34 c3 + a4 * B = val5 y40 y41 y42 y43 y44 + 1208925819614629174706176 * c4) :
    val10 y00 y10 y20 y30 y40 y41 y42 y43 y44 c4 = val5 a0 a1 a2 a3 a4 * B := by
  have d : val5 a0 a1 a2 a3 a4 * B = a0 * B + 65536 * (a1 * B) + 4294967296 * (a2 * B) + 281474976710656 * (a3 * B) + 18446744073709551616 * (a4 * B) := by unfold val5; grind
  rw [d]; unfold val10; unfold val5 at *; omega
theorem Step.dig {o p c o' c' : Int} (h : Step o p c o' c') : isDig o' = true := isDig_iff.2 ⟨h.o0, h.o1⟩
theorem Step.digc {o p c o' c' : Int} (h : Step o p c o' c') : isDig c' = true := isDig_iff.2 ⟨h.c0, h.c1⟩
def LongPost (v : L10) (w : World) (e : Ending) (w' : World) : Prop := ∃ r0 r1 r2 r3 r4 r5 r6 r7 r8 r9 : Int, v = (r0, r1, r2, r3, r4, r5, r6, r7, r8, r9) ∧
  e = .returned (.agg #[.int .i64 r0, .int .i64 r1, .int .i64 r2, .int .i64 r3, .int .i64 r4, .int .i64 r5, .int .i64 r6, .int .i64 r7, .int .i64 r8, .int .i64 r9]) ∧ Below w.heap.size w w'
/-- What Times answers: for digits in the first five places. -/
def timesL (a0 a1 a2 a3 a4 b0 b1 b2 b3 b4 : Int) : Option L10 :=
  if allDig [a0, a1, a2, a3, a4, b0, b1, b2, b3, b4] = true then some (digs (val5 a0 a1 a2 a3 a4 * val5 b0 b1 b2 b3 b4)) else none
/-- What Plus answers: for digits whose sum has ten. -/
def plusL (a0 a1 a2 a3 a4 a5 a6 a7 a8 a9 b0 b1 b2 b3 b4 b5 b6 b7 b8 b9 : Int) : Option L10 :=
  if allDig [a0, a1, a2, a3, a4, a5, a6, a7, a8, a9, b0, b1, b2, b3, b4, b5, b6, b7, b8, b9] = true then some (digs (val10 a0 a1 a2 a3 a4 a5 a6 a7 a8 a9 + val10 b0 b1 b2 b3 b4 b5 b6 b7 b8 b9)) else none
/-- What Under answers: for digits. -/
def underL (a0 a1 a2 a3 a4 a5 a6 a7 a8 a9 b0 b1 b2 b3 b4 b5 b6 b7 b8 b9 : Int) : Option Bool :=
  if allDig [a0, a1, a2, a3, a4, a5, a6, a7, a8, a9, b0, b1, b2, b3, b4, b5, b6, b7, b8, b9] = true then some (decide (val10 a0 a1 a2 a3 a4 a5 a6 a7 a8 a9 < val10 b0 b1 b2 b3 b4 b5 b6 b7 b8 b9)) else none
theorem under_at0 {a0 b0 t1 t2 t3 t4 t5 t6 t7 t8 t9 : Int} (ha0 : isDig a0 = true) (hb0 : isDig b0 = true) (q : ¬ a0 = b0) : decide (a0 < b0) = decide (val10 a0 t1 t2 t3 t4 t5 t6 t7 t8 t9 < val10 b0 t1 t2 t3 t4 t5 t6 t7 t8 t9) := by
  simp only [isDig_iff] at *
  rw [decide_eq_decide]; simp only [val10, val5]; omega
theorem under_at1 {a0 a1 b0 b1 t2 t3 t4 t5 t6 t7 t8 t9 : Int} (ha0 : isDig a0 = true) (ha1 : isDig a1 = true) (hb0 : isDig b0 = true) (hb1 : isDig b1 = true) (q : ¬ a1 = b1) : decide (a1 < b1) = decide (val10 a0 a1 t2 t3 t4 t5 t6 t7 t8 t9 < val10 b0 b1 t2 t3 t4 t5 t6 t7 t8 t9) := by
  simp only [isDig_iff] at *
  rw [decide_eq_decide]; simp only [val10, val5]; omega
theorem under_at2 {a0 a1 a2 b0 b1 b2 t3 t4 t5 t6 t7 t8 t9 : Int} (ha0 : isDig a0 = true) (ha1 : isDig a1 = true) (ha2 : isDig a2 = true) (hb0 : isDig b0 = true) (hb1 : isDig b1 = true) (hb2 : isDig b2 = true) (q : ¬ a2 = b2) : decide (a2 < b2) = decide (val10 a0 a1 a2 t3 t4 t5 t6 t7 t8 t9 < val10 b0 b1 b2 t3 t4 t5 t6 t7 t8 t9) := by
  simp only [isDig_iff] at *
  rw [decide_eq_decide]; simp only [val10, val5]; omega
theorem under_at3 {a0 a1 a2 a3 b0 b1 b2 b3 t4 t5 t6 t7 t8 t9 : Int} (ha0 : isDig a0 = true) (ha1 : isDig a1 = true) (ha2 : isDig a2 = true) (ha3 : isDig a3 = true) (hb0 : isDig b0 = true) (hb1 : isDig b1 = true) (hb2 : isDig b2 = true) (hb3 : isDig b3 = true) (q : ¬ a3 = b3) : decide (a3 < b3) = decide (val10 a0 a1 a2 a3 t4 t5 t6 t7 t8 t9 < val10 b0 b1 b2 b3 t4 t5 t6 t7 t8 t9) := by
  simp only [isDig_iff] at *
  rw [decide_eq_decide]; simp only [val10, val5]; omega
theorem under_at4 {a0 a1 a2 a3 a4 b0 b1 b2 b3 b4 t5 t6 t7 t8 t9 : Int} (ha0 : isDig a0 = true) (ha1 : isDig a1 = true) (ha2 : isDig a2 = true) (ha3 : isDig a3 = true) (ha4 : isDig a4 = true) (hb0 : isDig b0 = true) (hb1 : isDig b1 = true) (hb2 : isDig b2 = true) (hb3 : isDig b3 = true) (hb4 : isDig b4 = true) (q : ¬ a4 = b4) : decide (a4 < b4) = decide (val10 a0 a1 a2 a3 a4 t5 t6 t7 t8 t9 < val10 b0 b1 b2 b3 b4 t5 t6 t7 t8 t9) := by
  simp only [isDig_iff] at *
  rw [decide_eq_decide]; simp only [val10, val5]; omega
theorem under_at5 {a0 a1 a2 a3 a4 a5 b0 b1 b2 b3 b4 b5 t6 t7 t8 t9 : Int} (ha0 : isDig a0 = true) (ha1 : isDig a1 = true) (ha2 : isDig a2 = true) (ha3 : isDig a3 = true) (ha4 : isDig a4 = true) (ha5 : isDig a5 = true) (hb0 : isDig b0 = true) (hb1 : isDig b1 = true) (hb2 : isDig b2 = true) (hb3 : isDig b3 = true) (hb4 : isDig b4 = true) (hb5 : isDig b5 = true) (q : ¬ a5 = b5) : decide (a5 < b5) = decide (val10 a0 a1 a2 a3 a4 a5 t6 t7 t8 t9 < val10 b0 b1 b2 b3 b4 b5 t6 t7 t8 t9) := by
  simp only [isDig_iff] at *
  rw [decide_eq_decide]; simp only [val10, val5]; omega
theorem under_at6 {a0 a1 a2 a3 a4 a5 a6 b0 b1 b2 b3 b4 b5 b6 t7 t8 t9 : Int} (ha0 : isDig a0 = true) (ha1 : isDig a1 = true) (ha2 : isDig a2 = true) (ha3 : isDig a3 = true) (ha4 : isDig a4 = true) (ha5 : isDig a5 = true) (ha6 : isDig a6 = true) (hb0 : isDig b0 = true) (hb1 : isDig b1 = true) (hb2 : isDig b2 = true) (hb3 : isDig b3 = true) (hb4 : isDig b4 = true) (hb5 : isDig b5 = true) (hb6 : isDig b6 = true) (q : ¬ a6 = b6) : decide (a6 < b6) = decide (val10 a0 a1 a2 a3 a4 a5 a6 t7 t8 t9 < val10 b0 b1 b2 b3 b4 b5 b6 t7 t8 t9) := by
  simp only [isDig_iff] at *
  rw [decide_eq_decide]; simp only [val10, val5]; omega
theorem under_at7 {a0 a1 a2 a3 a4 a5 a6 a7 b0 b1 b2 b3 b4 b5 b6 b7 t8 t9 : Int} (ha0 : isDig a0 = true) (ha1 : isDig a1 = true) (ha2 : isDig a2 = true) (ha3 : isDig a3 = true) (ha4 : isDig a4 = true) (ha5 : isDig a5 = true) (ha6 : isDig a6 = true) (ha7 : isDig a7 = true) (hb0 : isDig b0 = true) (hb1 : isDig b1 = true) (hb2 : isDig b2 = true) (hb3 : isDig b3 = true) (hb4 : isDig b4 = true) (hb5 : isDig b5 = true) (hb6 : isDig b6 = true) (hb7 : isDig b7 = true) (q : ¬ a7 = b7) : decide (a7 < b7) = decide (val10 a0 a1 a2 a3 a4 a5 a6 a7 t8 t9 < val10 b0 b1 b2 b3 b4 b5 b6 b7 t8 t9) := by
  simp only [isDig_iff] at *
  rw [decide_eq_decide]; simp only [val10, val5]; omega
theorem under_at8 {a0 a1 a2 a3 a4 a5 a6 a7 a8 b0 b1 b2 b3 b4 b5 b6 b7 b8 t9 : Int} (ha0 : isDig a0 = true) (ha1 : isDig a1 = true) (ha2 : isDig a2 = true) (ha3 : isDig a3 = true) (ha4 : isDig a4 = true) (ha5 : isDig a5 = true) (ha6 : isDig a6 = true) (ha7 : isDig a7 = true) (ha8 : isDig a8 = true) (hb0 : isDig b0 = true) (hb1 : isDig b1 = true) (hb2 : isDig b2 = true) (hb3 : isDig b3 = true) (hb4 : isDig b4 = true) (hb5 : isDig b5 = true) (hb6 : isDig b6 = true) (hb7 : isDig b7 = true) (hb8 : isDig b8 = true) (q : ¬ a8 = b8) : decide (a8 < b8) = decide (val10 a0 a1 a2 a3 a4 a5 a6 a7 a8 t9 < val10 b0 b1 b2 b3 b4 b5 b6 b7 b8 t9) := by
  simp only [isDig_iff] at *
  rw [decide_eq_decide]; simp only [val10, val5]; omega
theorem under_at9 {a0 a1 a2 a3 a4 a5 a6 a7 a8 a9 b0 b1 b2 b3 b4 b5 b6 b7 b8 b9 : Int} (ha0 : isDig a0 = true) (ha1 : isDig a1 = true) (ha2 : isDig a2 = true) (ha3 : isDig a3 = true) (ha4 : isDig a4 = true) (ha5 : isDig a5 = true) (ha6 : isDig a6 = true) (ha7 : isDig a7 = true) (ha8 : isDig a8 = true) (ha9 : isDig a9 = true) (hb0 : isDig b0 = true) (hb1 : isDig b1 = true) (hb2 : isDig b2 = true) (hb3 : isDig b3 = true) (hb4 : isDig b4 = true) (hb5 : isDig b5 = true) (hb6 : isDig b6 = true) (hb7 : isDig b7 = true) (hb8 : isDig b8 = true) (hb9 : isDig b9 = true) (q : ¬ a9 = b9) : decide (a9 < b9) = decide (val10 a0 a1 a2 a3 a4 a5 a6 a7 a8 a9 < val10 b0 b1 b2 b3 b4 b5 b6 b7 b8 b9) := by
  simp only [isDig_iff] at *
  rw [decide_eq_decide]; simp only [val10, val5]; omega
theorem plus_all {a0 a1 a2 a3 a4 a5 a6 a7 a8 a9 b0 b1 b2 b3 b4 b5 b6 b7 b8 b9 o0 o1 o2 o3 o4 o5 o6 o7 o8 o9 c0 c1 c2 c3 c4 c5 c6 c7 c8 c9 : Int} (h0 : Step a0 b0 0 o0 c0) (h1 : Step a1 b1 c0 o1 c1) (h2 : Step a2 b2 c1 o2 c2) (h3 : Step a3 b3 c2 o3 c3) (h4 : Step a4 b4 c3 o4 c4) (h5 : Step a5 b5 c4 o5 c5) (h6 : Step a6 b6 c5 o6 c6) (h7 : Step a7 b7 c6 o7 c7) (h8 : Step a8 b8 c7 o8 c8) (h9 : Step a9 b9 c8 o9 c9) : digs (val10 a0 a1 a2 a3 a4 a5 a6 a7 a8 a9 + val10 b0 b1 b2 b3 b4 b5 b6 b7 b8 b9) = (o0, o1, o2, o3, o4, o5, o6, o7, o8, o9) := by
  have e : val10 a0 a1 a2 a3 a4 a5 a6 a7 a8 a9 + val10 b0 b1 b2 b3 b4 b5 b6 b7 b8 b9 = val10 o0 o1 o2 o3 o4 o5 o6 o7 o8 o9 + 1461501637330902918203684832716283019655932542976 * c9 := by
    have e0 := h0.e
    have e1 := h1.e
    have e2 := h2.e
    have e3 := h3.e
    have e4 := h4.e
    have e5 := h5.e
    have e6 := h6.e
    have e7 := h7.e
    have e8 := h8.e
    have e9 := h9.e
    simp only [val10, val5]; omega
  rw [e]
  have p0 := h0.o0; have q0 := h0.o1
  have p1 := h1.o0; have q1 := h1.o1
  have p2 := h2.o0; have q2 := h2.o1
  have p3 := h3.o0; have q3 := h3.o1
  have p4 := h4.o0; have q4 := h4.o1
  have p5 := h5.o0; have q5 := h5.o1
  have p6 := h6.o0; have q6 := h6.o1
  have p7 := h7.o0; have q7 := h7.o1
  have p8 := h8.o0; have q8 := h8.o1
  have p9 := h9.o0; have q9 := h9.o1
  simp only [digs, val10, val5, Prod.mk.injEq]
  refine ⟨?_, ?_, ?_, ?_, ?_, ?_, ?_, ?_, ?_, ?_⟩ <;> omega

end Go.Proofs.Ytchmhcfdamdjdaa.G
