/- Which functions there are. -/
import Derived.Test.YthkimcdeejjmbaaWmEv
import Derived.KernelRfl
import Derived.Test.YthkimcdeejjmbaaWmFnsModelCopiesA
set_option linter.all false
namespace Wm

def lookM : List (Nat × Nat × Nat) → Nat → Nat → Option Nat
  | [], _, _ => none
  | (t, m, f) :: l, a, b => match Nat.beq t a && Nat.beq m b with
    | true => some f
    | false => lookM l a b


def table : T AFunc := (.node (.node (.node (.node (.node (.node (.node (.node .leaf none (.node .leaf (some F.model_Model_fresh) .leaf)) none .leaf) none (.node (.node (.node .leaf (some F.slices_Clone___int_int_) .leaf) none .leaf) none .leaf)) none .leaf) none (.node (.node (.node (.node (.node .leaf (some F.plan_Right) .leaf) none .leaf) none .leaf) none (.node .leaf (some F.model_Model_Does) .leaf)) none (.node (.node (.node (.node .leaf (some F.model_Model_client) .leaf) none .leaf) none .leaf) none .leaf))) none (.node (.node .leaf none (.node (.node .leaf (some F.op_Writes) .leaf) none (.node .leaf (some F.model_Model_Copy) .leaf))) none (.node (.node (.node .leaf none (.node (.node .leaf (some F.slices_Contains___int_int_) .leaf) none .leaf)) none .leaf) none (.node (.node (.node (.node .leaf (some F.model_Model_matches) .leaf) none .leaf) none .leaf) none .leaf)))) none (.node (.node (.node (.node (.node (.node .leaf none (.node .leaf (some F.model_Model_hold) .leaf)) none .leaf) none (.node .leaf (some F.withylaw17_config) .leaf)) (some F.withylaw17_ModelCopies) .leaf) none (.node (.node .leaf none (.node .leaf (some F.model_Model_Held) .leaf)) none (.node (.node (.node (.node .leaf (some F.model_Model_goes) .leaf) none .leaf) none .leaf) none .leaf))) none (.node (.node (.node .leaf none (.node .leaf none (.node .leaf none (.node .leaf (some F.math_bits_Mul32) .leaf)))) none .leaf) none (.node .leaf none (.node (.node (.node (.node .leaf (some F.slices_Clone___model_walk_model_walk_) .leaf) none .leaf) none .leaf) none (.node (.node .leaf none (.node .leaf (some F.math_bits_Mul) .leaf)) none .leaf)))))) none (.node (.node (.node (.node (.node (.node (.node .leaf none (.node .leaf (some F.slices_Repeat___int_int_) .leaf)) none .leaf) none (.node .leaf (some F.model_New) .leaf)) none .leaf) none (.node .leaf none (.node (.node (.node (.node .leaf (some F.model_Model_makes) .leaf) none .leaf) none .leaf) none (.node .leaf none (.node (.node .leaf (some F.plan_between) .leaf) none .leaf))))) none (.node (.node .leaf none (.node (.node (.node .leaf none (.node .leaf (some F.slices_Index___int_int_) .leaf)) none .leaf) none (.node .leaf (some F.model_Model_Field) .leaf))) none (.node .leaf none (.node (.node (.node (.node .leaf (some F.model_Model_done) .leaf) none .leaf) none .leaf) none .leaf)))) none (.node (.node (.node (.node (.node (.node .leaf none (.node .leaf (some F.model_Model_reached) .leaf)) none .leaf) none (.node .leaf (some F.withylaw17_awake) .leaf)) none (.node (.node .leaf (some F.op_Walk) .leaf) none (.node .leaf (some F.withylaw17_plays) .leaf))) none (.node (.node .leaf none (.node .leaf (some F.model_Model_Node) .leaf)) none (.node (.node (.node (.node .leaf (some F.model_Model_asks) .leaf) none .leaf) none .leaf) none .leaf))) none (.node (.node (.node .leaf none (.node .leaf none (.node .leaf none (.node .leaf (some F.math_bits_Mul64) .leaf)))) none .leaf) none (.node .leaf none (.node (.node (.node (.node .leaf (some F.maps_Clone_map_uint64_int_uint64_int_) .leaf) none .leaf) none .leaf) none .leaf))))))
/- the functions: (17, F.withylaw17_ModelCopies), (96, F.model_New), (97, F.withylaw17_config), (98, F.withylaw17_awake), (103, F.model_Model_Does), (105, F.model_Model_Held), (106, F.model_Model_Node), (114, F.withylaw17_plays), (115, F.model_Model_Copy), (116, F.model_Model_Field), (263, F.plan_Right), (82, F.op_Walk), (83, F.op_Writes), (279, F.model_Model_client), (280, F.model_Model_makes), (281, F.model_Model_goes), (282, F.model_Model_asks), (283, F.model_Model_matches), (284, F.model_Model_done), (285, F.slices_Clone___model_walk_model_walk_), (286, F.maps_Clone_map_uint64_int_uint64_int_), (287, F.slices_Clone___int_int_), (376, F.plan_between), (383, F.model_Model_fresh), (384, F.slices_Repeat___int_int_), (385, F.model_Model_hold), (386, F.model_Model_reached), (445, F.math_bits_Mul), (331, F.slices_Contains___int_int_), (485, F.math_bits_Mul32), (486, F.math_bits_Mul64), (404, F.slices_Index___int_int_) -/
def prog : Nat → Option AFunc := table.get
def meth : Nat → Nat → Option Nat := fun _ _ => none

noncomputable abbrev C : Nat → List V → H → Option (V × H) := callW prog meth
noncomputable abbrev W : Env := envW meth (callW prog meth)
@[simp] theorem W_call : W.call = C := rfl

end Wm
