/- Which functions there are. -/
import Derived.Test.YtmhebljpahogaaaWmEv
import Derived.KernelRfl
import Derived.Test.YtmhebljpahogaaaWmFnsOpRawA
set_option linter.all false
namespace Wm

def lookM : List (Nat × Nat × Nat) → Nat → Nat → Option Nat
  | [], _, _ => none
  | (t, m, f) :: l, a, b => match Nat.beq t a && Nat.beq m b with
    | true => some f
    | false => lookM l a b


def table : T AFunc := (.node (.node (.node (.node (.node .leaf none (.node (.node .leaf (some F.withylaw16_value) .leaf) none .leaf)) none .leaf) (some F.withylaw16_OpValues) .leaf) none (.node (.node (.node .leaf none (.node (.node .leaf (some F.op_Call) .leaf) none .leaf)) none .leaf) (some F.withylaw16_OpRaw) .leaf)) none (.node (.node (.node (.node .leaf none (.node (.node .leaf (some F.withylaw16_awake) .leaf) none .leaf)) none .leaf) (some F.withylaw16_OpCalls) (.node (.node (.node (.node (.node (.node .leaf (some F.op_none) .leaf) none .leaf) none .leaf) none .leaf) none .leaf) none .leaf)) none (.node .leaf (some F.withylaw16_OpSelf) (.node .leaf none (.node (.node (.node .leaf (some F.op_Value) .leaf) none .leaf) none .leaf)))))
/- the functions: (3, F.withylaw16_OpValues), (4, F.withylaw16_OpCalls), (5, F.withylaw16_OpRaw), (6, F.withylaw16_OpSelf), (78, F.op_Value), (79, F.withylaw16_value), (80, F.withylaw16_awake), (81, F.op_Call), (260, F.op_none) -/
def prog : Nat → Option AFunc := table.get
def meth : Nat → Nat → Option Nat := fun _ _ => none

noncomputable abbrev C : Nat → List V → H → Option (V × H) := callW prog meth
noncomputable abbrev W : Env := envW meth (callW prog meth)
@[simp] theorem W_call : W.call = C := rfl

end Wm
