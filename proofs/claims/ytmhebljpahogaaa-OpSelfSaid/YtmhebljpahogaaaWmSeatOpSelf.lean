/- How the seat's functions are those of my table. -/
import Derived.Test.YtmhebljpahogaaaChecked
import Derived.Test.YtmhebljpahogaaaWmProgOpSelf
set_option linter.all false
namespace Wm.Seat
open Wm Go Go.Proofs

def tab : Tab := { fn := [(3, 3), (4, 4), (6, 6), (13, 13), (15, 78), (16, 79), (17, 80), (18, 81), (22, 85), (33, 96), (35, 98), (44, 260), (52, 263), (34, 97), (40, 103), (42, 105), (43, 106), (65, 116), (86, 376), (19, 82), (20, 83), (74, 279), (75, 280), (76, 281), (77, 282), (78, 283), (79, 284), (93, 383), (94, 384), (95, 385), (96, 386), (104, 445), (105, 331), (109, 485), (110, 486), (111, 404)], ty := [(9, 9)], meth := [] }

theorem c3 : comp Try.prog tab F.withylaw16_OpValues.closed F.withylaw16_OpValues_hs Try.f3 = some F.withylaw16_OpValues := by kernel_rfl
theorem g3 : FnOk Try.prog tab prog (3, 3) := FnOk.of (by kernel_rfl) (by kernel_rfl) Try.func3 c3

theorem c4 : comp Try.prog tab F.withylaw16_OpCalls.closed F.withylaw16_OpCalls_hs Try.f4 = some F.withylaw16_OpCalls := by kernel_rfl
theorem g4 : FnOk Try.prog tab prog (4, 4) := FnOk.of (by kernel_rfl) (by kernel_rfl) Try.func4 c4

theorem c6 : comp Try.prog tab F.withylaw16_OpSelf.closed F.withylaw16_OpSelf_hs Try.f6 = some F.withylaw16_OpSelf := by kernel_rfl
theorem g6 : FnOk Try.prog tab prog (6, 6) := FnOk.of (by kernel_rfl) (by kernel_rfl) Try.func6 c6

theorem c13 : comp Try.prog tab F.withylaw17_ModelNew.closed F.withylaw17_ModelNew_hs Try.f13 = some F.withylaw17_ModelNew := by kernel_rfl
theorem g13 : FnOk Try.prog tab prog (13, 13) := FnOk.of (by kernel_rfl) (by kernel_rfl) Try.func13 c13

theorem c15 : comp Try.prog tab F.op_Value.closed F.op_Value_hs Try.f15 = some F.op_Value := by kernel_rfl
theorem g15 : FnOk Try.prog tab prog (15, 78) := FnOk.of (by kernel_rfl) (by kernel_rfl) Try.func15 c15

theorem c16 : comp Try.prog tab F.withylaw16_value.closed F.withylaw16_value_hs Try.f16 = some F.withylaw16_value := by kernel_rfl
theorem g16 : FnOk Try.prog tab prog (16, 79) := FnOk.of (by kernel_rfl) (by kernel_rfl) Try.func16 c16

theorem c17 : comp Try.prog tab F.withylaw16_awake.closed F.withylaw16_awake_hs Try.f17 = some F.withylaw16_awake := by kernel_rfl
theorem g17 : FnOk Try.prog tab prog (17, 80) := FnOk.of (by kernel_rfl) (by kernel_rfl) Try.func17 c17

theorem c18 : comp Try.prog tab F.op_Call.closed F.op_Call_hs Try.f18 = some F.op_Call := by kernel_rfl
theorem g18 : FnOk Try.prog tab prog (18, 81) := FnOk.of (by kernel_rfl) (by kernel_rfl) Try.func18 c18

theorem c22 : comp Try.prog tab F.withyref06_Right.closed F.withyref06_Right_hs Try.f22 = some F.withyref06_Right := by kernel_rfl
theorem g22 : FnOk Try.prog tab prog (22, 85) := FnOk.of (by kernel_rfl) (by kernel_rfl) Try.func22 c22

theorem c33 : comp Try.prog tab F.model_New.closed F.model_New_hs Try.f33 = some F.model_New := by kernel_rfl
theorem g33 : FnOk Try.prog tab prog (33, 96) := FnOk.of (by kernel_rfl) (by kernel_rfl) Try.func33 c33

theorem c35 : comp Try.prog tab F.withylaw17_awake.closed F.withylaw17_awake_hs Try.f35 = some F.withylaw17_awake := by kernel_rfl
theorem g35 : FnOk Try.prog tab prog (35, 98) := FnOk.of (by kernel_rfl) (by kernel_rfl) Try.func35 c35

theorem c44 : comp Try.prog tab F.op_none.closed F.op_none_hs Try.f44 = some F.op_none := by kernel_rfl
theorem g44 : FnOk Try.prog tab prog (44, 260) := FnOk.of (by kernel_rfl) (by kernel_rfl) Try.func44 c44

theorem c52 : comp Try.prog tab F.plan_Right.closed F.plan_Right_hs Try.f52 = some F.plan_Right := by kernel_rfl
theorem g52 : FnOk Try.prog tab prog (52, 263) := FnOk.of (by kernel_rfl) (by kernel_rfl) Try.func52 c52

theorem c34 : comp Try.prog tab F.withylaw17_config.closed F.withylaw17_config_hs Try.f34 = some F.withylaw17_config := by kernel_rfl
theorem g34 : FnOk Try.prog tab prog (34, 97) := FnOk.of (by kernel_rfl) (by kernel_rfl) Try.func34 c34

theorem c40 : comp Try.prog tab F.model_Model_Does.closed F.model_Model_Does_hs Try.f40 = some F.model_Model_Does := by kernel_rfl
theorem g40 : FnOk Try.prog tab prog (40, 103) := FnOk.of (by kernel_rfl) (by kernel_rfl) Try.func40 c40

theorem c42 : comp Try.prog tab F.model_Model_Held.closed F.model_Model_Held_hs Try.f42 = some F.model_Model_Held := by kernel_rfl
theorem g42 : FnOk Try.prog tab prog (42, 105) := FnOk.of (by kernel_rfl) (by kernel_rfl) Try.func42 c42

theorem c43 : comp Try.prog tab F.model_Model_Node.closed F.model_Model_Node_hs Try.f43 = some F.model_Model_Node := by kernel_rfl
theorem g43 : FnOk Try.prog tab prog (43, 106) := FnOk.of (by kernel_rfl) (by kernel_rfl) Try.func43 c43

theorem c65 : comp Try.prog tab F.model_Model_Field.closed F.model_Model_Field_hs Try.f65 = some F.model_Model_Field := by kernel_rfl
theorem g65 : FnOk Try.prog tab prog (65, 116) := FnOk.of (by kernel_rfl) (by kernel_rfl) Try.func65 c65

theorem c86 : comp Try.prog tab F.plan_between.closed F.plan_between_hs Try.f86 = some F.plan_between := by kernel_rfl
theorem g86 : FnOk Try.prog tab prog (86, 376) := FnOk.of (by kernel_rfl) (by kernel_rfl) Try.func86 c86

theorem c19 : comp Try.prog tab F.op_Walk.closed F.op_Walk_hs Try.f19 = some F.op_Walk := by kernel_rfl
theorem g19 : FnOk Try.prog tab prog (19, 82) := FnOk.of (by kernel_rfl) (by kernel_rfl) Try.func19 c19

theorem c20 : comp Try.prog tab F.op_Writes.closed F.op_Writes_hs Try.f20 = some F.op_Writes := by kernel_rfl
theorem g20 : FnOk Try.prog tab prog (20, 83) := FnOk.of (by kernel_rfl) (by kernel_rfl) Try.func20 c20

theorem c74 : comp Try.prog tab F.model_Model_client.closed F.model_Model_client_hs Try.f74 = some F.model_Model_client := by kernel_rfl
theorem g74 : FnOk Try.prog tab prog (74, 279) := FnOk.of (by kernel_rfl) (by kernel_rfl) Try.func74 c74

theorem c75 : comp Try.prog tab F.model_Model_makes.closed F.model_Model_makes_hs Try.f75 = some F.model_Model_makes := by kernel_rfl
theorem g75 : FnOk Try.prog tab prog (75, 280) := FnOk.of (by kernel_rfl) (by kernel_rfl) Try.func75 c75

theorem c76 : comp Try.prog tab F.model_Model_goes.closed F.model_Model_goes_hs Try.f76 = some F.model_Model_goes := by kernel_rfl
theorem g76 : FnOk Try.prog tab prog (76, 281) := FnOk.of (by kernel_rfl) (by kernel_rfl) Try.func76 c76

theorem c77 : comp Try.prog tab F.model_Model_asks.closed F.model_Model_asks_hs Try.f77 = some F.model_Model_asks := by kernel_rfl
theorem g77 : FnOk Try.prog tab prog (77, 282) := FnOk.of (by kernel_rfl) (by kernel_rfl) Try.func77 c77

theorem c78 : comp Try.prog tab F.model_Model_matches.closed F.model_Model_matches_hs Try.f78 = some F.model_Model_matches := by kernel_rfl
theorem g78 : FnOk Try.prog tab prog (78, 283) := FnOk.of (by kernel_rfl) (by kernel_rfl) Try.func78 c78

theorem c79 : comp Try.prog tab F.model_Model_done.closed F.model_Model_done_hs Try.f79 = some F.model_Model_done := by kernel_rfl
theorem g79 : FnOk Try.prog tab prog (79, 284) := FnOk.of (by kernel_rfl) (by kernel_rfl) Try.func79 c79

theorem c93 : comp Try.prog tab F.model_Model_fresh.closed F.model_Model_fresh_hs Try.f93 = some F.model_Model_fresh := by kernel_rfl
theorem g93 : FnOk Try.prog tab prog (93, 383) := FnOk.of (by kernel_rfl) (by kernel_rfl) Try.func93 c93

theorem c94 : comp Try.prog tab F.slices_Repeat___int_int_.closed F.slices_Repeat___int_int__hs Try.f94 = some F.slices_Repeat___int_int_ := by kernel_rfl
theorem g94 : FnOk Try.prog tab prog (94, 384) := FnOk.of (by kernel_rfl) (by kernel_rfl) Try.func94 c94

theorem c95 : comp Try.prog tab F.model_Model_hold.closed F.model_Model_hold_hs Try.f95 = some F.model_Model_hold := by kernel_rfl
theorem g95 : FnOk Try.prog tab prog (95, 385) := FnOk.of (by kernel_rfl) (by kernel_rfl) Try.func95 c95

theorem c96 : comp Try.prog tab F.model_Model_reached.closed F.model_Model_reached_hs Try.f96 = some F.model_Model_reached := by kernel_rfl
theorem g96 : FnOk Try.prog tab prog (96, 386) := FnOk.of (by kernel_rfl) (by kernel_rfl) Try.func96 c96

theorem c104 : comp Try.prog tab F.math_bits_Mul.closed F.math_bits_Mul_hs Try.f104 = some F.math_bits_Mul := by kernel_rfl
theorem g104 : FnOk Try.prog tab prog (104, 445) := FnOk.of (by kernel_rfl) (by kernel_rfl) Try.func104 c104

theorem c105 : comp Try.prog tab F.slices_Contains___int_int_.closed F.slices_Contains___int_int__hs Try.f105 = some F.slices_Contains___int_int_ := by kernel_rfl
theorem g105 : FnOk Try.prog tab prog (105, 331) := FnOk.of (by kernel_rfl) (by kernel_rfl) Try.func105 c105

theorem c109 : comp Try.prog tab F.math_bits_Mul32.closed F.math_bits_Mul32_hs Try.f109 = some F.math_bits_Mul32 := by kernel_rfl
theorem g109 : FnOk Try.prog tab prog (109, 485) := FnOk.of (by kernel_rfl) (by kernel_rfl) Try.func109 c109

theorem c110 : comp Try.prog tab F.math_bits_Mul64.closed F.math_bits_Mul64_hs Try.f110 = some F.math_bits_Mul64 := by kernel_rfl
theorem g110 : FnOk Try.prog tab prog (110, 486) := FnOk.of (by kernel_rfl) (by kernel_rfl) Try.func110 c110

theorem c111 : comp Try.prog tab F.slices_Index___int_int_.closed F.slices_Index___int_int__hs Try.f111 = some F.slices_Index___int_int_ := by kernel_rfl
theorem g111 : FnOk Try.prog tab prog (111, 404) := FnOk.of (by kernel_rfl) (by kernel_rfl) Try.func111 c111

theorem progOk : ProgOk Try.prog tab prog := ProgOk.of_fn (l := tab.fn) rfl (by
  unfold tab
  exact List.forall_mem_cons.mpr ⟨g3, List.forall_mem_cons.mpr ⟨g4, List.forall_mem_cons.mpr ⟨g6, List.forall_mem_cons.mpr ⟨g13, List.forall_mem_cons.mpr ⟨g15, List.forall_mem_cons.mpr ⟨g16, List.forall_mem_cons.mpr ⟨g17, List.forall_mem_cons.mpr ⟨g18, List.forall_mem_cons.mpr ⟨g22, List.forall_mem_cons.mpr ⟨g33, List.forall_mem_cons.mpr ⟨g35, List.forall_mem_cons.mpr ⟨g44, List.forall_mem_cons.mpr ⟨g52, List.forall_mem_cons.mpr ⟨g34, List.forall_mem_cons.mpr ⟨g40, List.forall_mem_cons.mpr ⟨g42, List.forall_mem_cons.mpr ⟨g43, List.forall_mem_cons.mpr ⟨g65, List.forall_mem_cons.mpr ⟨g86, List.forall_mem_cons.mpr ⟨g19, List.forall_mem_cons.mpr ⟨g20, List.forall_mem_cons.mpr ⟨g74, List.forall_mem_cons.mpr ⟨g75, List.forall_mem_cons.mpr ⟨g76, List.forall_mem_cons.mpr ⟨g77, List.forall_mem_cons.mpr ⟨g78, List.forall_mem_cons.mpr ⟨g79, List.forall_mem_cons.mpr ⟨g93, List.forall_mem_cons.mpr ⟨g94, List.forall_mem_cons.mpr ⟨g95, List.forall_mem_cons.mpr ⟨g96, List.forall_mem_cons.mpr ⟨g104, List.forall_mem_cons.mpr ⟨g105, List.forall_mem_cons.mpr ⟨g109, List.forall_mem_cons.mpr ⟨g110, List.forall_mem_cons.mpr ⟨g111, List.forall_mem_nil _⟩⟩⟩⟩⟩⟩⟩⟩⟩⟩⟩⟩⟩⟩⟩⟩⟩⟩⟩⟩⟩⟩⟩⟩⟩⟩⟩⟩⟩⟩⟩⟩⟩⟩⟩⟩)

theorem methOk : MethOk Try.prog tab meth := fun T t mm m f _ h => by simp [tab, assocS] at h

theorem callOk : CallOk Try.prog tab C := callW_ok (by kernel_rfl) progOk methOk
end Wm.Seat
