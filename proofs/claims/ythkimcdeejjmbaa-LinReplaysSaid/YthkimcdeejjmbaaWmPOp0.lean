/- A call of a function that may have the caller's heap. -/
import Derived.Test.YthkimcdeejjmbaaWmEv
set_option linter.all false
namespace Wm
theorem zn5 {prog:Nat->Option AFunc}{meth:Nat->Nat->Option Nat}{f:Nat}{af:AFunc} (hf:prog f=some af) (hc:af.closed=false) {args:List V}{h:H}{r:V × H} (he:z06 (envW meth (callW prog meth)) af args h=some r):callW prog meth f args h=some r :=
 z08b hf (by unfold zeq; rw[hc]; exact he)
theorem z08t {prog:Nat->Option AFunc}{meth:Nat->Nat->Option Nat}{r n f:Nat}{af:AFunc} (hf:prog f=some af) (hc:af.closed=true) {v:V} (hr:run prog meth r n f [] .empty=some (v,.empty)) (h:H):callW prog meth f [] h=some (v,h):=by
 cases n with
 | zero=>simp[run] at hr
 | succ n =>
  refine z069 (r:=r) (n:=n+1) ?_
  simp only[run,hf] at hr ⊢
  unfold zeq at hr ⊢
  simp only[hc] at hr ⊢
  split at hr
  ·rename_i hfl
   simp only[Option.bind_eq_some_iff] at hr ⊢
   obtain⟨p,hp,hr⟩:=hr
   refine⟨p,hp,?_⟩
   split at hr
   ·cases hr; rfl
   ·cases hr
  ·cases hr
end Wm
