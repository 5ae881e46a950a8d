/- A call of a function value, in the printed texts. -/
import Derived.Test.YthkimcdeejjmbaaWmEv
set_option linter.all false
namespace Wm
def z7w {R:Type} (M:Env) (x:V) (l:List V) (h:H) (k:V × H->Option R):Option R:=match x with
 | .fn f cs=>(M.call f (l ++ cs) h).bind fun p=>k p
 | _=>none
theorem z0ir {R:Type} (M:Env) (f:Nat) (cs l:List V) (h:H) (k:V × H->Option R):z7w M (.fn f cs) l h k=(M.call f (l ++ cs) h).bind k:=by
 have q:∀x,x=V.fn f cs->z7w M x l h k=(M.call f (l ++ cs) h).bind k:=by
  intro x hx; subst hx; rfl
 exact q _ rfl
theorem z0if {R:Type}{M:Env}{f:Nat}{cs l:List V}{h h':H}{v:V} (e:M.call f (l ++ cs) h=some (v,h')) (k:V × H->Option R):z7w M (.fn f cs) l h k=k (v,h'):=by
 rw[z0ir,e,Option.bind_some]
end Wm
