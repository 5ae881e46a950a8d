/- What the printed texts use. -/
import Derived.Test.YthkimcdeejjmbaaWmLim
set_option linter.all false
namespace Wm
def ckB (o:Option V) (u:V):Bool:=match o with
 | some v=>V.beq v u
 | none=>false
inductive RV' where
 | v (x:V)
 | cell (agg:Bool) (n:Nat) (a:V)
def z6u (h:H):RV'->Option V
 | .v x=>some x
 | .cell agg n a=>match agg with
  | true=>h.ldN n a
  | false=>h.ld1 a
def z3w (h:H):List RV'->Option (List V)
 | []=>some []
 | r :: l=>match z6u h r with
  | some v=>match z3w h l with
   | some vs=>some (v :: vs)
   | none=>none
  | none=>none
def finV (h:H) (l:List RV'):Option (V × H):=match z3w h l with
 | some vs=>some (z48 vs,h)
 | none=>none
end Wm
