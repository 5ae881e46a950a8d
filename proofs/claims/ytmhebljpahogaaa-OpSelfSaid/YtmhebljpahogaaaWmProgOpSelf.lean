/- Which functions there are. -/
import Derived.Test.YtmhebljpahogaaaWmEv
import Derived.KernelRfl
import Derived.Test.YtmhebljpahogaaaWmFnsOpSelfA
set_option linter.all false
namespace Wm

def lookF : List (Nat × AFunc) → Nat → Option AFunc
  | [], _ => none
  | (k, f) :: l, n => match Nat.beq k n with
    | true => some f
    | false => lookF l n

def table : List (Nat × AFunc) := [(3, F.withylaw16_OpValues), (4, F.withylaw16_OpCalls), (6, F.withylaw16_OpSelf), (13, F.withylaw17_ModelNew), (78, F.op_Value), (79, F.withylaw16_value), (80, F.withylaw16_awake), (81, F.op_Call), (85, F.withyref06_Right), (96, F.model_New), (98, F.withylaw17_awake), (260, F.op_none), (263, F.plan_Right), (97, F.withylaw17_config), (103, F.model_Model_Does), (105, F.model_Model_Held), (106, F.model_Model_Node), (116, F.model_Model_Field), (376, F.plan_between), (82, F.op_Walk), (83, F.op_Writes), (279, F.model_Model_client), (280, F.model_Model_makes), (281, F.model_Model_goes), (282, F.model_Model_asks), (283, F.model_Model_matches), (284, F.model_Model_done), (383, F.model_Model_fresh), (384, F.slices_Repeat___int_int_), (385, F.model_Model_hold), (386, F.model_Model_reached), (445, F.math_bits_Mul), (331, F.slices_Contains___int_int_), (485, F.math_bits_Mul32), (486, F.math_bits_Mul64), (404, F.slices_Index___int_int_)]
def prog : Nat → Option AFunc := lookF table
def meth : Nat → Nat → Option Nat := fun _ _ => none

noncomputable abbrev C : Nat → List V → H → Option (V × H) := callW prog meth
noncomputable abbrev W : Env := envW meth (callW prog meth)
@[simp] theorem W_call : W.call = C := rfl

end Wm
