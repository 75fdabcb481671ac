import Derived.Test.YtonljpciadeafaaWLast
import Derived.Test.YtonljpciadeafaaWWords
namespace Go.Proofs.YtonljpciadeafaaW.PrintLast
open Go.Proofs.YtonljpciadeafaaW.PrintWords (qa)
def reachT (T : List (List Nat × List Nat)) (i : Nat) : Nat → Nat → Bool
  | 0, _ => false
  | fuel + 1, d => match T[d]? with
    | some r => r.1.any fun j => j == i || reachT T i fuel j
    | none => false
def lastT (T : List (List Nat × List Nat)) (l : List Bool) (ds : List Nat) (i : Nat) : Bool := ds.all fun d => l.getD d true || reachT T i T.length d
section
variable {md : Region.Mode} {ops : Array Oper} {T : Bool × List (List Nat × List Nat)} {l l' li lj lk : Array Bool} {ds : List Nat} {i j k : Nat}
end
end Go.Proofs.YtonljpciadeafaaW.PrintLast
