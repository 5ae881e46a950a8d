/- How the seat's functions are those of my table. -/
import Derived.Test.YthkimcdeejjmbaaChecked
import Derived.Test.YthkimcdeejjmbaaWmProgModelCopies
import Derived.Test.YthkimcdeejjmbaaWmMeth
set_option linter.all false
namespace Wm.Seat
open Wm Go Go.Proofs

def tab : Tab := { fn := [(3, 17), (14, 96), (15, 97), (16, 98), (19, 103), (20, 105), (21, 106), (17, 114), (18, 115), (22, 116), (59, 263), (65, 82), (68, 83), (63, 279), (64, 280), (66, 281), (67, 282), (69, 283), (70, 284), (60, 285), (61, 286), (62, 287), (104, 376), (106, 383), (107, 384), (108, 385), (109, 386), (151, 445), (85, 331), (165, 485), (166, 486), (125, 404)], ty := [(9, 9), (107, 159)], meth := [] }

theorem c3 : comp Try.prog tab F.withylaw17_ModelCopies.closed F.withylaw17_ModelCopies_hs Try.f3 = some F.withylaw17_ModelCopies := by kernel_rfl
theorem g3 : FnOk Try.prog tab prog (3, 17) := FnOk.of (by kernel_rfl) (by kernel_rfl) Try.func3 c3

theorem c14 : comp Try.prog tab F.model_New.closed F.model_New_hs Try.f14 = some F.model_New := by kernel_rfl
theorem g14 : FnOk Try.prog tab prog (14, 96) := FnOk.of (by kernel_rfl) (by kernel_rfl) Try.func14 c14

theorem c15 : comp Try.prog tab F.withylaw17_config.closed F.withylaw17_config_hs Try.f15 = some F.withylaw17_config := by kernel_rfl
theorem g15 : FnOk Try.prog tab prog (15, 97) := FnOk.of (by kernel_rfl) (by kernel_rfl) Try.func15 c15

theorem c16 : comp Try.prog tab F.withylaw17_awake.closed F.withylaw17_awake_hs Try.f16 = some F.withylaw17_awake := by kernel_rfl
theorem g16 : FnOk Try.prog tab prog (16, 98) := FnOk.of (by kernel_rfl) (by kernel_rfl) Try.func16 c16

theorem c19 : comp Try.prog tab F.model_Model_Does.closed F.model_Model_Does_hs Try.f19 = some F.model_Model_Does := by kernel_rfl
theorem g19 : FnOk Try.prog tab prog (19, 103) := FnOk.of (by kernel_rfl) (by kernel_rfl) Try.func19 c19

theorem c20 : comp Try.prog tab F.model_Model_Held.closed F.model_Model_Held_hs Try.f20 = some F.model_Model_Held := by kernel_rfl
theorem g20 : FnOk Try.prog tab prog (20, 105) := FnOk.of (by kernel_rfl) (by kernel_rfl) Try.func20 c20

theorem c21 : comp Try.prog tab F.model_Model_Node.closed F.model_Model_Node_hs Try.f21 = some F.model_Model_Node := by kernel_rfl
theorem g21 : FnOk Try.prog tab prog (21, 106) := FnOk.of (by kernel_rfl) (by kernel_rfl) Try.func21 c21

theorem c17 : comp Try.prog tab F.withylaw17_plays.closed F.withylaw17_plays_hs Try.f17 = some F.withylaw17_plays := by kernel_rfl
theorem g17 : FnOk Try.prog tab prog (17, 114) := FnOk.of (by kernel_rfl) (by kernel_rfl) Try.func17 c17

theorem c18 : comp Try.prog tab F.model_Model_Copy.closed F.model_Model_Copy_hs Try.f18 = some F.model_Model_Copy := by kernel_rfl
theorem g18 : FnOk Try.prog tab prog (18, 115) := FnOk.of (by kernel_rfl) (by kernel_rfl) Try.func18 c18

theorem c22 : comp Try.prog tab F.model_Model_Field.closed F.model_Model_Field_hs Try.f22 = some F.model_Model_Field := by kernel_rfl
theorem g22 : FnOk Try.prog tab prog (22, 116) := FnOk.of (by kernel_rfl) (by kernel_rfl) Try.func22 c22

theorem c59 : comp Try.prog tab F.plan_Right.closed F.plan_Right_hs Try.f59 = some F.plan_Right := by kernel_rfl
theorem g59 : FnOk Try.prog tab prog (59, 263) := FnOk.of (by kernel_rfl) (by kernel_rfl) Try.func59 c59

theorem c65 : comp Try.prog tab F.op_Walk.closed F.op_Walk_hs Try.f65 = some F.op_Walk := by kernel_rfl
theorem g65 : FnOk Try.prog tab prog (65, 82) := FnOk.of (by kernel_rfl) (by kernel_rfl) Try.func65 c65

theorem c68 : comp Try.prog tab F.op_Writes.closed F.op_Writes_hs Try.f68 = some F.op_Writes := by kernel_rfl
theorem g68 : FnOk Try.prog tab prog (68, 83) := FnOk.of (by kernel_rfl) (by kernel_rfl) Try.func68 c68

theorem c63 : comp Try.prog tab F.model_Model_client.closed F.model_Model_client_hs Try.f63 = some F.model_Model_client := by kernel_rfl
theorem g63 : FnOk Try.prog tab prog (63, 279) := FnOk.of (by kernel_rfl) (by kernel_rfl) Try.func63 c63

theorem c64 : comp Try.prog tab F.model_Model_makes.closed F.model_Model_makes_hs Try.f64 = some F.model_Model_makes := by kernel_rfl
theorem g64 : FnOk Try.prog tab prog (64, 280) := FnOk.of (by kernel_rfl) (by kernel_rfl) Try.func64 c64

theorem c66 : comp Try.prog tab F.model_Model_goes.closed F.model_Model_goes_hs Try.f66 = some F.model_Model_goes := by kernel_rfl
theorem g66 : FnOk Try.prog tab prog (66, 281) := FnOk.of (by kernel_rfl) (by kernel_rfl) Try.func66 c66

theorem c67 : comp Try.prog tab F.model_Model_asks.closed F.model_Model_asks_hs Try.f67 = some F.model_Model_asks := by kernel_rfl
theorem g67 : FnOk Try.prog tab prog (67, 282) := FnOk.of (by kernel_rfl) (by kernel_rfl) Try.func67 c67

theorem c69 : comp Try.prog tab F.model_Model_matches.closed F.model_Model_matches_hs Try.f69 = some F.model_Model_matches := by kernel_rfl
theorem g69 : FnOk Try.prog tab prog (69, 283) := FnOk.of (by kernel_rfl) (by kernel_rfl) Try.func69 c69

theorem c70 : comp Try.prog tab F.model_Model_done.closed F.model_Model_done_hs Try.f70 = some F.model_Model_done := by kernel_rfl
theorem g70 : FnOk Try.prog tab prog (70, 284) := FnOk.of (by kernel_rfl) (by kernel_rfl) Try.func70 c70

theorem c60 : comp Try.prog tab F.slices_Clone___model_walk_model_walk_.closed F.slices_Clone___model_walk_model_walk__hs Try.f60 = some F.slices_Clone___model_walk_model_walk_ := by kernel_rfl
theorem g60 : FnOk Try.prog tab prog (60, 285) := FnOk.of (by kernel_rfl) (by kernel_rfl) Try.func60 c60

theorem c61 : comp Try.prog tab F.maps_Clone_map_uint64_int_uint64_int_.closed F.maps_Clone_map_uint64_int_uint64_int__hs Try.f61 = some F.maps_Clone_map_uint64_int_uint64_int_ := by kernel_rfl
theorem g61 : FnOk Try.prog tab prog (61, 286) := FnOk.of (by kernel_rfl) (by kernel_rfl) Try.func61 c61

theorem c62 : comp Try.prog tab F.slices_Clone___int_int_.closed F.slices_Clone___int_int__hs Try.f62 = some F.slices_Clone___int_int_ := by kernel_rfl
theorem g62 : FnOk Try.prog tab prog (62, 287) := FnOk.of (by kernel_rfl) (by kernel_rfl) Try.func62 c62

theorem c104 : comp Try.prog tab F.plan_between.closed F.plan_between_hs Try.f104 = some F.plan_between := by kernel_rfl
theorem g104 : FnOk Try.prog tab prog (104, 376) := FnOk.of (by kernel_rfl) (by kernel_rfl) Try.func104 c104

theorem c106 : comp Try.prog tab F.model_Model_fresh.closed F.model_Model_fresh_hs Try.f106 = some F.model_Model_fresh := by kernel_rfl
theorem g106 : FnOk Try.prog tab prog (106, 383) := FnOk.of (by kernel_rfl) (by kernel_rfl) Try.func106 c106

theorem c107 : comp Try.prog tab F.slices_Repeat___int_int_.closed F.slices_Repeat___int_int__hs Try.f107 = some F.slices_Repeat___int_int_ := by kernel_rfl
theorem g107 : FnOk Try.prog tab prog (107, 384) := FnOk.of (by kernel_rfl) (by kernel_rfl) Try.func107 c107

theorem c108 : comp Try.prog tab F.model_Model_hold.closed F.model_Model_hold_hs Try.f108 = some F.model_Model_hold := by kernel_rfl
theorem g108 : FnOk Try.prog tab prog (108, 385) := FnOk.of (by kernel_rfl) (by kernel_rfl) Try.func108 c108

theorem c109 : comp Try.prog tab F.model_Model_reached.closed F.model_Model_reached_hs Try.f109 = some F.model_Model_reached := by kernel_rfl
theorem g109 : FnOk Try.prog tab prog (109, 386) := FnOk.of (by kernel_rfl) (by kernel_rfl) Try.func109 c109

theorem c151 : comp Try.prog tab F.math_bits_Mul.closed F.math_bits_Mul_hs Try.f151 = some F.math_bits_Mul := by kernel_rfl
theorem g151 : FnOk Try.prog tab prog (151, 445) := FnOk.of (by kernel_rfl) (by kernel_rfl) Try.func151 c151

theorem c85 : comp Try.prog tab F.slices_Contains___int_int_.closed F.slices_Contains___int_int__hs Try.f85 = some F.slices_Contains___int_int_ := by kernel_rfl
theorem g85 : FnOk Try.prog tab prog (85, 331) := FnOk.of (by kernel_rfl) (by kernel_rfl) Try.func85 c85

theorem c165 : comp Try.prog tab F.math_bits_Mul32.closed F.math_bits_Mul32_hs Try.f165 = some F.math_bits_Mul32 := by kernel_rfl
theorem g165 : FnOk Try.prog tab prog (165, 485) := FnOk.of (by kernel_rfl) (by kernel_rfl) Try.func165 c165

theorem c166 : comp Try.prog tab F.math_bits_Mul64.closed F.math_bits_Mul64_hs Try.f166 = some F.math_bits_Mul64 := by kernel_rfl
theorem g166 : FnOk Try.prog tab prog (166, 486) := FnOk.of (by kernel_rfl) (by kernel_rfl) Try.func166 c166

theorem c125 : comp Try.prog tab F.slices_Index___int_int_.closed F.slices_Index___int_int__hs Try.f125 = some F.slices_Index___int_int_ := by kernel_rfl
theorem g125 : FnOk Try.prog tab prog (125, 404) := FnOk.of (by kernel_rfl) (by kernel_rfl) Try.func125 c125

theorem progOk : ProgOk Try.prog tab prog := ProgOk.of_fn (l := tab.fn) rfl (by
  unfold tab
  exact List.forall_mem_cons.mpr ⟨g3, List.forall_mem_cons.mpr ⟨g14, List.forall_mem_cons.mpr ⟨g15, List.forall_mem_cons.mpr ⟨g16, List.forall_mem_cons.mpr ⟨g19, List.forall_mem_cons.mpr ⟨g20, List.forall_mem_cons.mpr ⟨g21, List.forall_mem_cons.mpr ⟨g17, List.forall_mem_cons.mpr ⟨g18, List.forall_mem_cons.mpr ⟨g22, List.forall_mem_cons.mpr ⟨g59, List.forall_mem_cons.mpr ⟨g65, List.forall_mem_cons.mpr ⟨g68, List.forall_mem_cons.mpr ⟨g63, List.forall_mem_cons.mpr ⟨g64, List.forall_mem_cons.mpr ⟨g66, List.forall_mem_cons.mpr ⟨g67, List.forall_mem_cons.mpr ⟨g69, List.forall_mem_cons.mpr ⟨g70, List.forall_mem_cons.mpr ⟨g60, List.forall_mem_cons.mpr ⟨g61, List.forall_mem_cons.mpr ⟨g62, List.forall_mem_cons.mpr ⟨g104, List.forall_mem_cons.mpr ⟨g106, List.forall_mem_cons.mpr ⟨g107, List.forall_mem_cons.mpr ⟨g108, List.forall_mem_cons.mpr ⟨g109, List.forall_mem_cons.mpr ⟨g151, List.forall_mem_cons.mpr ⟨g85, List.forall_mem_cons.mpr ⟨g165, List.forall_mem_cons.mpr ⟨g166, List.forall_mem_cons.mpr ⟨g125, List.forall_mem_nil _⟩⟩⟩⟩⟩⟩⟩⟩⟩⟩⟩⟩⟩⟩⟩⟩⟩⟩⟩⟩⟩⟩⟩⟩⟩⟩⟩⟩⟩⟩⟩⟩)

theorem methOk : MethOk Try.prog tab meth := fun T t mm m f _ h => by simp [tab, assocS] at h

theorem callOk : CallOk Try.prog tab C := callW_ok (by kernel_rfl) progOk methOk
end Wm.Seat
