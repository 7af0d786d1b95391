import Derived.Test.YtmbccebjkenofaaGreatDoorSz1
set_option linter.unusedVariables false
set_option linter.unusedSimpArgs false
set_option linter.unusedSectionVars false

/- A mask. -/
namespace Sz
def lk : List (Nat × AV) → Nat → AV
  | [], _ => .undef
  | (k, v) :: m, t => if k = t then v else lk m t
def FM (n : Nat) (m : List (Nat × AV)) : List AV := (List.range n).map (lk m)
def mk (n : Nat) (ks : List Nat) : List Bool := (List.range n).map fun t => ks.contains t
end Sz
