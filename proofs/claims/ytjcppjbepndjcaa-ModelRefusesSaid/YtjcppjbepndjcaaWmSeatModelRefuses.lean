/- How the seat's functions are those of my table. -/
import Derived.Test.YtjcppjbepndjcaaChecked
import Derived.Test.YtjcppjbepndjcaaWmProgModelRefuses
import Derived.Test.YtjcppjbepndjcaaWmMeth
set_option linter.all false
namespace Wm.Seat
open Wm Go Go.Proofs

def tab : Tab := { fn := [(4, 12), (15, 96), (16, 97), (17, 98), (18, 99), (19, 100), (20, 101), (21, 102), (22, 103), (23, 104), (60, 263), (24, 105), (25, 106), (61, 116), (62, 272), (63, 273), (65, 229), (64, 274), (66, 275), (67, 276), (68, 277), (69, 278), (72, 82), (75, 83), (70, 279), (71, 280), (73, 281), (74, 282), (76, 283), (77, 284), (78, 231), (136, 376), (137, 383), (138, 384), (139, 385), (140, 386), (162, 445), (163, 331), (185, 485), (186, 486), (187, 404)], ty := [(9, 9)], meth := [] }

theorem c4 : comp Try.prog tab F.withylaw17_ModelRefuses.closed F.withylaw17_ModelRefuses_hs Try.f4 = some F.withylaw17_ModelRefuses := by kernel_rfl
theorem g4 : FnOk Try.prog tab prog (4, 12) := FnOk.of (by kernel_rfl) (by kernel_rfl) Try.func4 c4

theorem c15 : comp Try.prog tab F.model_New.closed F.model_New_hs Try.f15 = some F.model_New := by kernel_rfl
theorem g15 : FnOk Try.prog tab prog (15, 96) := FnOk.of (by kernel_rfl) (by kernel_rfl) Try.func15 c15

theorem c16 : comp Try.prog tab F.withylaw17_config.closed F.withylaw17_config_hs Try.f16 = some F.withylaw17_config := by kernel_rfl
theorem g16 : FnOk Try.prog tab prog (16, 97) := FnOk.of (by kernel_rfl) (by kernel_rfl) Try.func16 c16

theorem c17 : comp Try.prog tab F.withylaw17_awake.closed F.withylaw17_awake_hs Try.f17 = some F.withylaw17_awake := by kernel_rfl
theorem g17 : FnOk Try.prog tab prog (17, 98) := FnOk.of (by kernel_rfl) (by kernel_rfl) Try.func17 c17

theorem c18 : comp Try.prog tab F.withyref17_New.closed F.withyref17_New_hs Try.f18 = some F.withyref17_New := by kernel_rfl
theorem g18 : FnOk Try.prog tab prog (18, 99) := FnOk.of (by kernel_rfl) (by kernel_rfl) Try.func18 c18

theorem c19 : comp Try.prog tab F.withylaw17_call.closed F.withylaw17_call_hs Try.f19 = some F.withylaw17_call := by kernel_rfl
theorem g19 : FnOk Try.prog tab prog (19, 100) := FnOk.of (by kernel_rfl) (by kernel_rfl) Try.func19 c19

theorem c20 : comp Try.prog tab F.withylaw17_answer.closed F.withylaw17_answer_hs Try.f20 = some F.withylaw17_answer := by kernel_rfl
theorem g20 : FnOk Try.prog tab prog (20, 101) := FnOk.of (by kernel_rfl) (by kernel_rfl) Try.func20 c20

theorem c21 : comp Try.prog tab F.withyref17_State_Does.closed F.withyref17_State_Does_hs Try.f21 = some F.withyref17_State_Does := by kernel_rfl
theorem g21 : FnOk Try.prog tab prog (21, 102) := FnOk.of (by kernel_rfl) (by kernel_rfl) Try.func21 c21

theorem c22 : comp Try.prog tab F.model_Model_Does.closed F.model_Model_Does_hs Try.f22 = some F.model_Model_Does := by kernel_rfl
theorem g22 : FnOk Try.prog tab prog (22, 103) := FnOk.of (by kernel_rfl) (by kernel_rfl) Try.func22 c22

theorem c23 : comp Try.prog tab F.withylaw17_same.closed F.withylaw17_same_hs Try.f23 = some F.withylaw17_same := by kernel_rfl
theorem g23 : FnOk Try.prog tab prog (23, 104) := FnOk.of (by kernel_rfl) (by kernel_rfl) Try.func23 c23

theorem c60 : comp Try.prog tab F.plan_Right.closed F.plan_Right_hs Try.f60 = some F.plan_Right := by kernel_rfl
theorem g60 : FnOk Try.prog tab prog (60, 263) := FnOk.of (by kernel_rfl) (by kernel_rfl) Try.func60 c60

theorem c24 : comp Try.prog tab F.model_Model_Held.closed F.model_Model_Held_hs Try.f24 = some F.model_Model_Held := by kernel_rfl
theorem g24 : FnOk Try.prog tab prog (24, 105) := FnOk.of (by kernel_rfl) (by kernel_rfl) Try.func24 c24

theorem c25 : comp Try.prog tab F.model_Model_Node.closed F.model_Model_Node_hs Try.f25 = some F.model_Model_Node := by kernel_rfl
theorem g25 : FnOk Try.prog tab prog (25, 106) := FnOk.of (by kernel_rfl) (by kernel_rfl) Try.func25 c25

theorem c61 : comp Try.prog tab F.model_Model_Field.closed F.model_Model_Field_hs Try.f61 = some F.model_Model_Field := by kernel_rfl
theorem g61 : FnOk Try.prog tab prog (61, 116) := FnOk.of (by kernel_rfl) (by kernel_rfl) Try.func61 c61

theorem c62 : comp Try.prog tab F.withylaw17_given.closed F.withylaw17_given_hs Try.f62 = some F.withylaw17_given := by kernel_rfl
theorem g62 : FnOk Try.prog tab prog (62, 272) := FnOk.of (by kernel_rfl) (by kernel_rfl) Try.func62 c62

theorem c63 : comp Try.prog tab F.withyref17_State_Whole.closed F.withyref17_State_Whole_hs Try.f63 = some F.withyref17_State_Whole := by kernel_rfl
theorem g63 : FnOk Try.prog tab prog (63, 273) := FnOk.of (by kernel_rfl) (by kernel_rfl) Try.func63 c63

theorem c65 : comp Try.prog tab F.withyref17_State_Node.closed F.withyref17_State_Node_hs Try.f65 = some F.withyref17_State_Node := by kernel_rfl
theorem g65 : FnOk Try.prog tab prog (65, 229) := FnOk.of (by kernel_rfl) (by kernel_rfl) Try.func65 c65

theorem c64 : comp Try.prog tab F.withyref17_State_Error.closed F.withyref17_State_Error_hs Try.f64 = some F.withyref17_State_Error := by kernel_rfl
theorem g64 : FnOk Try.prog tab prog (64, 274) := FnOk.of (by kernel_rfl) (by kernel_rfl) Try.func64 c64

theorem c66 : comp Try.prog tab F.withyref17_State_Fresh.closed F.withyref17_State_Fresh_hs Try.f66 = some F.withyref17_State_Fresh := by kernel_rfl
theorem g66 : FnOk Try.prog tab prog (66, 275) := FnOk.of (by kernel_rfl) (by kernel_rfl) Try.func66 c66

theorem c67 : comp Try.prog tab F.withyref17_State_copied.closed F.withyref17_State_copied_hs Try.f67 = some F.withyref17_State_copied := by kernel_rfl
theorem g67 : FnOk Try.prog tab prog (67, 276) := FnOk.of (by kernel_rfl) (by kernel_rfl) Try.func67 c67

theorem c68 : comp Try.prog tab F.withyref17_State_gives.closed F.withyref17_State_gives_hs Try.f68 = some F.withyref17_State_gives := by kernel_rfl
theorem g68 : FnOk Try.prog tab prog (68, 277) := FnOk.of (by kernel_rfl) (by kernel_rfl) Try.func68 c68

theorem c69 : comp Try.prog tab F.withyref17_State_Reached.closed F.withyref17_State_Reached_hs Try.f69 = some F.withyref17_State_Reached := by kernel_rfl
theorem g69 : FnOk Try.prog tab prog (69, 278) := FnOk.of (by kernel_rfl) (by kernel_rfl) Try.func69 c69

theorem c72 : comp Try.prog tab F.op_Walk.closed F.op_Walk_hs Try.f72 = some F.op_Walk := by kernel_rfl
theorem g72 : FnOk Try.prog tab prog (72, 82) := FnOk.of (by kernel_rfl) (by kernel_rfl) Try.func72 c72

theorem c75 : comp Try.prog tab F.op_Writes.closed F.op_Writes_hs Try.f75 = some F.op_Writes := by kernel_rfl
theorem g75 : FnOk Try.prog tab prog (75, 83) := FnOk.of (by kernel_rfl) (by kernel_rfl) Try.func75 c75

theorem c70 : comp Try.prog tab F.model_Model_client.closed F.model_Model_client_hs Try.f70 = some F.model_Model_client := by kernel_rfl
theorem g70 : FnOk Try.prog tab prog (70, 279) := FnOk.of (by kernel_rfl) (by kernel_rfl) Try.func70 c70

theorem c71 : comp Try.prog tab F.model_Model_makes.closed F.model_Model_makes_hs Try.f71 = some F.model_Model_makes := by kernel_rfl
theorem g71 : FnOk Try.prog tab prog (71, 280) := FnOk.of (by kernel_rfl) (by kernel_rfl) Try.func71 c71

theorem c73 : comp Try.prog tab F.model_Model_goes.closed F.model_Model_goes_hs Try.f73 = some F.model_Model_goes := by kernel_rfl
theorem g73 : FnOk Try.prog tab prog (73, 281) := FnOk.of (by kernel_rfl) (by kernel_rfl) Try.func73 c73

theorem c74 : comp Try.prog tab F.model_Model_asks.closed F.model_Model_asks_hs Try.f74 = some F.model_Model_asks := by kernel_rfl
theorem g74 : FnOk Try.prog tab prog (74, 282) := FnOk.of (by kernel_rfl) (by kernel_rfl) Try.func74 c74

theorem c76 : comp Try.prog tab F.model_Model_matches.closed F.model_Model_matches_hs Try.f76 = some F.model_Model_matches := by kernel_rfl
theorem g76 : FnOk Try.prog tab prog (76, 283) := FnOk.of (by kernel_rfl) (by kernel_rfl) Try.func76 c76

theorem c77 : comp Try.prog tab F.model_Model_done.closed F.model_Model_done_hs Try.f77 = some F.model_Model_done := by kernel_rfl
theorem g77 : FnOk Try.prog tab prog (77, 284) := FnOk.of (by kernel_rfl) (by kernel_rfl) Try.func77 c77

theorem c78 : comp Try.prog tab F.withyref17_State_Held.closed F.withyref17_State_Held_hs Try.f78 = some F.withyref17_State_Held := by kernel_rfl
theorem g78 : FnOk Try.prog tab prog (78, 231) := FnOk.of (by kernel_rfl) (by kernel_rfl) Try.func78 c78

theorem c136 : comp Try.prog tab F.plan_between.closed F.plan_between_hs Try.f136 = some F.plan_between := by kernel_rfl
theorem g136 : FnOk Try.prog tab prog (136, 376) := FnOk.of (by kernel_rfl) (by kernel_rfl) Try.func136 c136

theorem c137 : comp Try.prog tab F.model_Model_fresh.closed F.model_Model_fresh_hs Try.f137 = some F.model_Model_fresh := by kernel_rfl
theorem g137 : FnOk Try.prog tab prog (137, 383) := FnOk.of (by kernel_rfl) (by kernel_rfl) Try.func137 c137

theorem c138 : comp Try.prog tab F.slices_Repeat___int_int_.closed F.slices_Repeat___int_int__hs Try.f138 = some F.slices_Repeat___int_int_ := by kernel_rfl
theorem g138 : FnOk Try.prog tab prog (138, 384) := FnOk.of (by kernel_rfl) (by kernel_rfl) Try.func138 c138

theorem c139 : comp Try.prog tab F.model_Model_hold.closed F.model_Model_hold_hs Try.f139 = some F.model_Model_hold := by kernel_rfl
theorem g139 : FnOk Try.prog tab prog (139, 385) := FnOk.of (by kernel_rfl) (by kernel_rfl) Try.func139 c139

theorem c140 : comp Try.prog tab F.model_Model_reached.closed F.model_Model_reached_hs Try.f140 = some F.model_Model_reached := by kernel_rfl
theorem g140 : FnOk Try.prog tab prog (140, 386) := FnOk.of (by kernel_rfl) (by kernel_rfl) Try.func140 c140

theorem c162 : comp Try.prog tab F.math_bits_Mul.closed F.math_bits_Mul_hs Try.f162 = some F.math_bits_Mul := by kernel_rfl
theorem g162 : FnOk Try.prog tab prog (162, 445) := FnOk.of (by kernel_rfl) (by kernel_rfl) Try.func162 c162

theorem c163 : comp Try.prog tab F.slices_Contains___int_int_.closed F.slices_Contains___int_int__hs Try.f163 = some F.slices_Contains___int_int_ := by kernel_rfl
theorem g163 : FnOk Try.prog tab prog (163, 331) := FnOk.of (by kernel_rfl) (by kernel_rfl) Try.func163 c163

theorem c185 : comp Try.prog tab F.math_bits_Mul32.closed F.math_bits_Mul32_hs Try.f185 = some F.math_bits_Mul32 := by kernel_rfl
theorem g185 : FnOk Try.prog tab prog (185, 485) := FnOk.of (by kernel_rfl) (by kernel_rfl) Try.func185 c185

theorem c186 : comp Try.prog tab F.math_bits_Mul64.closed F.math_bits_Mul64_hs Try.f186 = some F.math_bits_Mul64 := by kernel_rfl
theorem g186 : FnOk Try.prog tab prog (186, 486) := FnOk.of (by kernel_rfl) (by kernel_rfl) Try.func186 c186

theorem c187 : comp Try.prog tab F.slices_Index___int_int_.closed F.slices_Index___int_int__hs Try.f187 = some F.slices_Index___int_int_ := by kernel_rfl
theorem g187 : FnOk Try.prog tab prog (187, 404) := FnOk.of (by kernel_rfl) (by kernel_rfl) Try.func187 c187

theorem progOk : ProgOk Try.prog tab prog := ProgOk.of_fn (l := tab.fn) rfl (by
  unfold tab
  exact List.forall_mem_cons.mpr ⟨g4, List.forall_mem_cons.mpr ⟨g15, List.forall_mem_cons.mpr ⟨g16, List.forall_mem_cons.mpr ⟨g17, List.forall_mem_cons.mpr ⟨g18, List.forall_mem_cons.mpr ⟨g19, List.forall_mem_cons.mpr ⟨g20, List.forall_mem_cons.mpr ⟨g21, List.forall_mem_cons.mpr ⟨g22, List.forall_mem_cons.mpr ⟨g23, List.forall_mem_cons.mpr ⟨g60, List.forall_mem_cons.mpr ⟨g24, List.forall_mem_cons.mpr ⟨g25, List.forall_mem_cons.mpr ⟨g61, List.forall_mem_cons.mpr ⟨g62, List.forall_mem_cons.mpr ⟨g63, List.forall_mem_cons.mpr ⟨g65, List.forall_mem_cons.mpr ⟨g64, List.forall_mem_cons.mpr ⟨g66, List.forall_mem_cons.mpr ⟨g67, List.forall_mem_cons.mpr ⟨g68, List.forall_mem_cons.mpr ⟨g69, List.forall_mem_cons.mpr ⟨g72, List.forall_mem_cons.mpr ⟨g75, List.forall_mem_cons.mpr ⟨g70, List.forall_mem_cons.mpr ⟨g71, List.forall_mem_cons.mpr ⟨g73, List.forall_mem_cons.mpr ⟨g74, List.forall_mem_cons.mpr ⟨g76, List.forall_mem_cons.mpr ⟨g77, List.forall_mem_cons.mpr ⟨g78, List.forall_mem_cons.mpr ⟨g136, List.forall_mem_cons.mpr ⟨g137, List.forall_mem_cons.mpr ⟨g138, List.forall_mem_cons.mpr ⟨g139, List.forall_mem_cons.mpr ⟨g140, List.forall_mem_cons.mpr ⟨g162, List.forall_mem_cons.mpr ⟨g163, List.forall_mem_cons.mpr ⟨g185, List.forall_mem_cons.mpr ⟨g186, List.forall_mem_cons.mpr ⟨g187, List.forall_mem_nil _⟩⟩⟩⟩⟩⟩⟩⟩⟩⟩⟩⟩⟩⟩⟩⟩⟩⟩⟩⟩⟩⟩⟩⟩⟩⟩⟩⟩⟩⟩⟩⟩⟩⟩⟩⟩⟩⟩⟩⟩⟩)

theorem methOk : MethOk Try.prog tab meth := fun T t mm m f _ h => by simp [tab, assocS] at h

theorem callOk : CallOk Try.prog tab C := callW_ok (by kernel_rfl) progOk methOk
end Wm.Seat
