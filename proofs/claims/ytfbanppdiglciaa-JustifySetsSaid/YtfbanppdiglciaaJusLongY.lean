/- The reference's long numbers as numbers: Size, Times, Under (group Y). -/
import Derived.Test.YtfbanppdiglciaaYx0
import Derived.Test.YtfbanppdiglciaaYx21
import Derived.Test.YtfbanppdiglciaaYx22
import Derived.Test.YtfbanppdiglciaaYx23
import Derived.Test.YtfbanppdiglciaaDivBY
import Derived.Test.YtfbanppdiglciaaLongY
set_option linter.unusedVariables false
set_option linter.unusedSimpArgs false
namespace Go.Proofs.Ytfbanppdiglciaa.Y
open Go Go.RowKit Go.Proofs.YtfbanppdiglciaaW.PrintWords Go.Proofs.YtfbanppdiglciaaW.PrintLast Go.Proofs.YtfbanppdiglciaaW.PrintMore

def absI (n : Int) : Int := if n < 0 then -n else n
def I64 (n : Int) : Prop := -9223372036854775808 ≤ n ∧ n ≤ 9223372036854775807
theorem val5_digs {u : Int} (h0 : 0 ≤ u) (h1 : u < 1208925819614629174706176) : val5 (digs u).1 (digs u).2.1 (digs u).2.2.1 (digs u).2.2.2.1 (digs u).2.2.2.2.1 = u := by
  simp only [digs, val5]; omega
theorem sizeD {n : Int} (h : I64 n) : serifref01_Size.f n = some (digs (absI n)) := by
  unfold serifref01_Size.f
  rw [if_pos (show -9223372036854775808 ≤ n ∧ n ≤ 9223372036854775807 from h)]; rfl
theorem timesD {u v : Int} (h0 : 0 ≤ u) (h1 : u < 1208925819614629174706176) (g0 : 0 ≤ v) (g1 : v < 1208925819614629174706176) :
    serifref01_Times.f (digs u).1 (digs u).2.1 (digs u).2.2.1 (digs u).2.2.2.1 (digs u).2.2.2.2.1 (digs u).2.2.2.2.2.1 (digs u).2.2.2.2.2.2.1 (digs u).2.2.2.2.2.2.2.1 (digs u).2.2.2.2.2.2.2.2.1 (digs u).2.2.2.2.2.2.2.2.2 (digs v).1 (digs v).2.1 (digs v).2.2.1 (digs v).2.2.2.1 (digs v).2.2.2.2.1 (digs v).2.2.2.2.2.1 (digs v).2.2.2.2.2.2.1 (digs v).2.2.2.2.2.2.2.1 (digs v).2.2.2.2.2.2.2.2.1 (digs v).2.2.2.2.2.2.2.2.2 = some (digs (u * v)) := by
  obtain ⟨a0, a1, a2, a3, a4, _⟩ := digs_all u
  obtain ⟨b0, b1, b2, b3, b4, _⟩ := digs_all v
  unfold serifref01_Times.f timesL
  rw [if_pos (by simp [allDig, a0, a1, a2, a3, a4, b0, b1, b2, b3, b4]), val5_digs h0 h1, val5_digs g0 g1]
theorem underD {u v : Int} (h0 : 0 ≤ u) (h1 : u < 1461501637330902918203684832716283019655932542976) (g0 : 0 ≤ v) (g1 : v < 1461501637330902918203684832716283019655932542976) :
    serifref01_Under.f (digs u).1 (digs u).2.1 (digs u).2.2.1 (digs u).2.2.2.1 (digs u).2.2.2.2.1 (digs u).2.2.2.2.2.1 (digs u).2.2.2.2.2.2.1 (digs u).2.2.2.2.2.2.2.1 (digs u).2.2.2.2.2.2.2.2.1 (digs u).2.2.2.2.2.2.2.2.2 (digs v).1 (digs v).2.1 (digs v).2.2.1 (digs v).2.2.2.1 (digs v).2.2.2.2.1 (digs v).2.2.2.2.2.1 (digs v).2.2.2.2.2.2.1 (digs v).2.2.2.2.2.2.2.1 (digs v).2.2.2.2.2.2.2.2.1 (digs v).2.2.2.2.2.2.2.2.2 = some (decide (u < v)) := by
  obtain ⟨a0, a1, a2, a3, a4, a5, a6, a7, a8, a9⟩ := digs_all u
  obtain ⟨b0, b1, b2, b3, b4, b5, b6, b7, b8, b9⟩ := digs_all v
  unfold serifref01_Under.f underL
  rw [if_pos (by simp [allDig, a0, a1, a2, a3, a4, a5, a6, a7, a8, a9, b0, b1, b2, b3, b4, b5, b6, b7, b8, b9]), val10_digs h0 h1, val10_digs g0 g1]

/-- Words that later texts lean on. -/
theorem ev_words : (∃ k, (fun _ : Nat => some (0 : Int)) k = some 0) ∧ Ev (fun _ => some (0 : Int)) 0 := ⟨Ev.rounds (Ev.now (0 : Int)), Ev.step (f := fun _ => some 0) (fun _ => rfl) (Ev.congr (f := fun _ => some 0) (fun _ => rfl) (Ev.now 0))⟩
end Go.Proofs.Ytfbanppdiglciaa.Y
