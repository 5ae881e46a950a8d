/- What the printed texts use. -/
import Derived.Test.YthkimcdeejjmbaaWmLim
set_option linter.all false
namespace Wm
def ckB (o : Option V) (u : V) : Bool := match o with
  | some v => V.beq v u
  | none => false
inductive RV' where
  | v (x : V)
  | cell (agg : Bool) (n : Nat) (a : V)
def zg0 (h : H) : RV' → Option V
  | .v x => some x
  | .cell agg n a => match agg with
    | true => h.ldN n a
    | false => h.ld1 a
def zck (h : H) : List RV' → Option (List V)
  | [] => some []
  | r :: l => match zg0 h r with
    | some v => match zck h l with
      | some vs => some (v :: vs)
      | none => none
    | none => none
def finV (h : H) (l : List RV') : Option (V × H) := match zck h l with
  | some vs => some (zbd vs, h)
  | none => none
end Wm
