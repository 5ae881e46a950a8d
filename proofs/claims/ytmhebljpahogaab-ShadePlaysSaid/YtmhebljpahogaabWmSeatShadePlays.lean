/- How the seat's functions are those of my table. -/
import Derived.Test.YtmhebljpahogaabChecked
import Derived.Test.YtmhebljpahogaabWmProgShadePlays
import Derived.Test.YtmhebljpahogaabWmMeth
set_option linter.all false
namespace Wm.Seat
open Wm Go Go.Proofs

def tab : Tab := { fn := [(3, 15), (11, 84), (16, 88), (13, 90), (15, 91), (9, 92), (10, 93), (12, 94), (14, 107), (17, 108), (18, 109), (19, 110), (20, 111), (58, 89), (55, 203), (54, 213), (56, 261), (57, 262), (60, 266), (61, 267), (62, 268), (63, 269), (50, 270), (51, 86), (53, 198), (52, 202), (59, 271), (64, 85), (65, 87), (66, 263), (107, 264), (79, 265), (109, 346), (110, 347), (84, 293), (108, 350), (111, 375), (112, 380), (113, 381), (114, 382), (91, 149), (115, 376), (134, 377), (135, 378), (121, 379), (137, 413), (136, 414), (138, 442), (139, 443), (140, 444), (144, 396), (143, 441), (159, 462), (160, 484), (164, 449), (103, 308), (4, 16), (21, 112), (22, 113), (23, 95)], ty := [], meth := [] }

theorem c3 : comp Try.prog tab F.withylaw09_ShadePlays.closed F.withylaw09_ShadePlays_hs Try.f3 = some F.withylaw09_ShadePlays := by kernel_rfl
theorem g3 : FnOk Try.prog tab prog (3, 15) := FnOk.of (by kernel_rfl) (by kernel_rfl) Try.func3 c3

theorem c11 : comp Try.prog tab F.withylaw09_awake.closed F.withylaw09_awake_hs Try.f11 = some F.withylaw09_awake := by kernel_rfl
theorem g11 : FnOk Try.prog tab prog (11, 84) := FnOk.of (by kernel_rfl) (by kernel_rfl) Try.func11 c11

theorem c16 : comp Try.prog tab F.withylaw09_grays.closed F.withylaw09_grays_hs Try.f16 = some F.withylaw09_grays := by kernel_rfl
theorem g16 : FnOk Try.prog tab prog (16, 88) := FnOk.of (by kernel_rfl) (by kernel_rfl) Try.func16 c16

theorem c13 : comp Try.prog tab F.shade_NewShade.closed F.shade_NewShade_hs Try.f13 = some F.shade_NewShade := by kernel_rfl
theorem g13 : FnOk Try.prog tab prog (13, 90) := FnOk.of (by kernel_rfl) (by kernel_rfl) Try.func13 c13

theorem c15 : comp Try.prog tab F.shade_Shade_Step.closed F.shade_Shade_Step_hs Try.f15 = some F.shade_Shade_Step := by kernel_rfl
theorem g15 : FnOk Try.prog tab prog (15, 91) := FnOk.of (by kernel_rfl) (by kernel_rfl) Try.func15 c15

theorem c9 : comp Try.prog tab F.withyref06_Fit.closed F.withyref06_Fit_hs Try.f9 = some F.withyref06_Fit := by kernel_rfl
theorem g9 : FnOk Try.prog tab prog (9, 92) := FnOk.of (by kernel_rfl) (by kernel_rfl) Try.func9 c9

theorem c10 : comp Try.prog tab F.withylaw09_filled.closed F.withylaw09_filled_hs Try.f10 = some F.withylaw09_filled := by kernel_rfl
theorem g10 : FnOk Try.prog tab prog (10, 93) := FnOk.of (by kernel_rfl) (by kernel_rfl) Try.func10 c10

theorem c12 : comp Try.prog tab F.mem_Mem_Words.closed F.mem_Mem_Words_hs Try.f12 = some F.mem_Mem_Words := by kernel_rfl
theorem g12 : FnOk Try.prog tab prog (12, 94) := FnOk.of (by kernel_rfl) (by kernel_rfl) Try.func12 c12

theorem c14 : comp Try.prog tab F.mem_Mem_Touches.closed F.mem_Mem_Touches_hs Try.f14 = some F.mem_Mem_Touches := by kernel_rfl
theorem g14 : FnOk Try.prog tab prog (14, 107) := FnOk.of (by kernel_rfl) (by kernel_rfl) Try.func14 c14

theorem c17 : comp Try.prog tab F.withyref06_At.closed F.withyref06_At_hs Try.f17 = some F.withyref06_At := by kernel_rfl
theorem g17 : FnOk Try.prog tab prog (17, 108) := FnOk.of (by kernel_rfl) (by kernel_rfl) Try.func17 c17

theorem c18 : comp Try.prog tab F.withyref04_Unpack.closed F.withyref04_Unpack_hs Try.f18 = some F.withyref04_Unpack := by kernel_rfl
theorem g18 : FnOk Try.prog tab prog (18, 109) := FnOk.of (by kernel_rfl) (by kernel_rfl) Try.func18 c18

theorem c19 : comp Try.prog tab F.withyref03_Black.closed F.withyref03_Black_hs Try.f19 = some F.withyref03_Black := by kernel_rfl
theorem g19 : FnOk Try.prog tab prog (19, 110) := FnOk.of (by kernel_rfl) (by kernel_rfl) Try.func19 c19

theorem c20 : comp Try.prog tab F.withyref04_Pack.closed F.withyref04_Pack_hs Try.f20 = some F.withyref04_Pack := by kernel_rfl
theorem g20 : FnOk Try.prog tab prog (20, 111) := FnOk.of (by kernel_rfl) (by kernel_rfl) Try.func20 c20

theorem c58 : comp Try.prog tab F.shade_Grays.closed F.shade_Grays_hs Try.f58 = some F.shade_Grays := by kernel_rfl
theorem g58 : FnOk Try.prog tab prog (58, 89) := FnOk.of (by kernel_rfl) (by kernel_rfl) Try.func58 c58

theorem c55 : comp Try.prog tab F.mem_Mem_Store.closed F.mem_Mem_Store_hs Try.f55 = some F.mem_Mem_Store := by kernel_rfl
theorem g55 : FnOk Try.prog tab prog (55, 203) := FnOk.of (by kernel_rfl) (by kernel_rfl) Try.func55 c55

theorem c54 : comp Try.prog tab F.plan_Memory.closed F.plan_Memory_hs Try.f54 = some F.plan_Memory := by kernel_rfl
theorem g54 : FnOk Try.prog tab prog (54, 213) := FnOk.of (by kernel_rfl) (by kernel_rfl) Try.func54 c54

theorem c56 : comp Try.prog tab F.plan_Header.closed F.plan_Header_hs Try.f56 = some F.plan_Header := by kernel_rfl
theorem g56 : FnOk Try.prog tab prog (56, 261) := FnOk.of (by kernel_rfl) (by kernel_rfl) Try.func56 c56

theorem c57 : comp Try.prog tab F.withylaw09_small.closed F.withylaw09_small_hs Try.f57 = some F.withylaw09_small := by kernel_rfl
theorem g57 : FnOk Try.prog tab prog (57, 262) := FnOk.of (by kernel_rfl) (by kernel_rfl) Try.func57 c57

theorem c60 : comp Try.prog tab F.mem_Mem_Load.closed F.mem_Mem_Load_hs Try.f60 = some F.mem_Mem_Load := by kernel_rfl
theorem g60 : FnOk Try.prog tab prog (60, 266) := FnOk.of (by kernel_rfl) (by kernel_rfl) Try.func60 c60

theorem c61 : comp Try.prog tab F.head_Shaded.closed F.head_Shaded_hs Try.f61 = some F.head_Shaded := by kernel_rfl
theorem g61 : FnOk Try.prog tab prog (61, 267) := FnOk.of (by kernel_rfl) (by kernel_rfl) Try.func61 c61

theorem c62 : comp Try.prog tab F.mem_Mem_Add.closed F.mem_Mem_Add_hs Try.f62 = some F.mem_Mem_Add := by kernel_rfl
theorem g62 : FnOk Try.prog tab prog (62, 268) := FnOk.of (by kernel_rfl) (by kernel_rfl) Try.func62 c62

theorem c63 : comp Try.prog tab F.mem_Mem_Swap.closed F.mem_Mem_Swap_hs Try.f63 = some F.mem_Mem_Swap := by kernel_rfl
theorem g63 : FnOk Try.prog tab prog (63, 269) := FnOk.of (by kernel_rfl) (by kernel_rfl) Try.func63 c63

theorem c50 : comp Try.prog tab F.withyref06_fit.closed F.withyref06_fit_hs Try.f50 = some F.withyref06_fit := by kernel_rfl
theorem g50 : FnOk Try.prog tab prog (50, 270) := FnOk.of (by kernel_rfl) (by kernel_rfl) Try.func50 c50

theorem c51 : comp Try.prog tab F.withyref06_Memory.closed F.withyref06_Memory_hs Try.f51 = some F.withyref06_Memory := by kernel_rfl
theorem g51 : FnOk Try.prog tab prog (51, 86) := FnOk.of (by kernel_rfl) (by kernel_rfl) Try.func51 c51

theorem c53 : comp Try.prog tab F.mem_Of.closed F.mem_Of_hs Try.f53 = some F.mem_Of := by kernel_rfl
theorem g53 : FnOk Try.prog tab prog (53, 198) := FnOk.of (by kernel_rfl) (by kernel_rfl) Try.func53 c53

theorem c52 : comp Try.prog tab F.withyref04_Right.closed F.withyref04_Right_hs Try.f52 = some F.withyref04_Right := by kernel_rfl
theorem g52 : FnOk Try.prog tab prog (52, 202) := FnOk.of (by kernel_rfl) (by kernel_rfl) Try.func52 c52

theorem c59 : comp Try.prog tab F.slices_Clone___uint64_uint64_.closed F.slices_Clone___uint64_uint64__hs Try.f59 = some F.slices_Clone___uint64_uint64_ := by kernel_rfl
theorem g59 : FnOk Try.prog tab prog (59, 271) := FnOk.of (by kernel_rfl) (by kernel_rfl) Try.func59 c59

theorem c64 : comp Try.prog tab F.withyref06_Right.closed F.withyref06_Right_hs Try.f64 = some F.withyref06_Right := by kernel_rfl
theorem g64 : FnOk Try.prog tab prog (64, 85) := FnOk.of (by kernel_rfl) (by kernel_rfl) Try.func64 c64

theorem c65 : comp Try.prog tab F.withyref06_Words.closed F.withyref06_Words_hs Try.f65 = some F.withyref06_Words := by kernel_rfl
theorem g65 : FnOk Try.prog tab prog (65, 87) := FnOk.of (by kernel_rfl) (by kernel_rfl) Try.func65 c65

theorem c66 : comp Try.prog tab F.plan_Right.closed F.plan_Right_hs Try.f66 = some F.plan_Right := by kernel_rfl
theorem g66 : FnOk Try.prog tab prog (66, 263) := FnOk.of (by kernel_rfl) (by kernel_rfl) Try.func66 c66

theorem c107 : comp Try.prog tab F.plan_Size.closed F.plan_Size_hs Try.f107 = some F.plan_Size := by kernel_rfl
theorem g107 : FnOk Try.prog tab prog (107, 264) := FnOk.of (by kernel_rfl) (by kernel_rfl) Try.func107 c107

theorem c79 : comp Try.prog tab F.head_Unpack.closed F.head_Unpack_hs Try.f79 = some F.head_Unpack := by kernel_rfl
theorem g79 : FnOk Try.prog tab prog (79, 265) := FnOk.of (by kernel_rfl) (by kernel_rfl) Try.func79 c79

theorem c109 : comp Try.prog tab F.mem_Mem_there.closed F.mem_Mem_there_hs Try.f109 = some F.mem_Mem_there := by kernel_rfl
theorem g109 : FnOk Try.prog tab prog (109, 346) := FnOk.of (by kernel_rfl) (by kernel_rfl) Try.func109 c109

theorem c110 : comp Try.prog tab F.mem_Mem_touch.closed F.mem_Mem_touch_hs Try.f110 = some F.mem_Mem_touch := by kernel_rfl
theorem g110 : FnOk Try.prog tab prog (110, 347) := FnOk.of (by kernel_rfl) (by kernel_rfl) Try.func110 c110

theorem c84 : comp Try.prog tab F.plan_Link.closed F.plan_Link_hs Try.f84 = some F.plan_Link := by kernel_rfl
theorem g84 : FnOk Try.prog tab prog (84, 293) := FnOk.of (by kernel_rfl) (by kernel_rfl) Try.func84 c84

theorem c108 : comp Try.prog tab F.tag_Top.closed F.tag_Top_hs Try.f108 = some F.tag_Top := by kernel_rfl
theorem g108 : FnOk Try.prog tab prog (108, 350) := FnOk.of (by kernel_rfl) (by kernel_rfl) Try.func108 c108

theorem c111 : comp Try.prog tab F.plan_within.closed F.plan_within_hs Try.f111 = some F.plan_within := by kernel_rfl
theorem g111 : FnOk Try.prog tab prog (111, 375) := FnOk.of (by kernel_rfl) (by kernel_rfl) Try.func111 c111

theorem c112 : comp Try.prog tab F.head_lives.closed F.head_lives_hs Try.f112 = some F.head_lives := by kernel_rfl
theorem g112 : FnOk Try.prog tab prog (112, 380) := FnOk.of (by kernel_rfl) (by kernel_rfl) Try.func112 c112

theorem c113 : comp Try.prog tab F.turn_Black.closed F.turn_Black_hs Try.f113 = some F.turn_Black := by kernel_rfl
theorem g113 : FnOk Try.prog tab prog (113, 381) := FnOk.of (by kernel_rfl) (by kernel_rfl) Try.func113 c113

theorem c114 : comp Try.prog tab F.head_Pack.closed F.head_Pack_hs Try.f114 = some F.head_Pack := by kernel_rfl
theorem g114 : FnOk Try.prog tab prog (114, 382) := FnOk.of (by kernel_rfl) (by kernel_rfl) Try.func114 c114

theorem c91 : comp Try.prog tab F.withyref06_Room.closed F.withyref06_Room_hs Try.f91 = some F.withyref06_Room := by kernel_rfl
theorem g91 : FnOk Try.prog tab prog (91, 149) := FnOk.of (by kernel_rfl) (by kernel_rfl) Try.func91 c91

theorem c115 : comp Try.prog tab F.plan_between.closed F.plan_between_hs Try.f115 = some F.plan_between := by kernel_rfl
theorem g115 : FnOk Try.prog tab prog (115, 376) := FnOk.of (by kernel_rfl) (by kernel_rfl) Try.func115 c115

theorem c134 : comp Try.prog tab F.plan_slots.closed F.plan_slots_hs Try.f134 = some F.plan_slots := by kernel_rfl
theorem g134 : FnOk Try.prog tab prog (134, 377) := FnOk.of (by kernel_rfl) (by kernel_rfl) Try.func134 c134

theorem c135 : comp Try.prog tab F.plan_room.closed F.plan_room_hs Try.f135 = some F.plan_room := by kernel_rfl
theorem g135 : FnOk Try.prog tab prog (135, 378) := FnOk.of (by kernel_rfl) (by kernel_rfl) Try.func135 c135

theorem c121 : comp Try.prog tab F.word_Unpack.closed F.word_Unpack_hs Try.f121 = some F.word_Unpack := by kernel_rfl
theorem g121 : FnOk Try.prog tab prog (121, 379) := FnOk.of (by kernel_rfl) (by kernel_rfl) Try.func121 c121

theorem c137 : comp Try.prog tab F.mem_Mem_Size.closed F.mem_Mem_Size_hs Try.f137 = some F.mem_Mem_Size := by kernel_rfl
theorem g137 : FnOk Try.prog tab prog (137, 413) := FnOk.of (by kernel_rfl) (by kernel_rfl) Try.func137 c137

theorem c136 : comp Try.prog tab F.tag_tagged.closed F.tag_tagged_hs Try.f136 = some F.tag_tagged := by kernel_rfl
theorem g136 : FnOk Try.prog tab prog (136, 414) := FnOk.of (by kernel_rfl) (by kernel_rfl) Try.func136 c136

theorem c138 : comp Try.prog tab F.turn_Cycle.closed F.turn_Cycle_hs Try.f138 = some F.turn_Cycle := by kernel_rfl
theorem g138 : FnOk Try.prog tab prog (138, 442) := FnOk.of (by kernel_rfl) (by kernel_rfl) Try.func138 c138

theorem c139 : comp Try.prog tab F.word_Pack.closed F.word_Pack_hs Try.f139 = some F.word_Pack := by kernel_rfl
theorem g139 : FnOk Try.prog tab prog (139, 443) := FnOk.of (by kernel_rfl) (by kernel_rfl) Try.func139 c139

theorem c140 : comp Try.prog tab F.head_bit.closed F.head_bit_hs Try.f140 = some F.head_bit := by kernel_rfl
theorem g140 : FnOk Try.prog tab prog (140, 444) := FnOk.of (by kernel_rfl) (by kernel_rfl) Try.func140 c140

theorem c144 : comp Try.prog tab F.word_Get.closed F.word_Get_hs Try.f144 = some F.word_Get := by kernel_rfl
theorem g144 : FnOk Try.prog tab prog (144, 396) := FnOk.of (by kernel_rfl) (by kernel_rfl) Try.func144 c144

theorem c143 : comp Try.prog tab F.word_some.closed F.word_some_hs Try.f143 = some F.word_some := by kernel_rfl
theorem g143 : FnOk Try.prog tab prog (143, 441) := FnOk.of (by kernel_rfl) (by kernel_rfl) Try.func143 c143

theorem c159 : comp Try.prog tab F.tag_slots.closed F.tag_slots_hs Try.f159 = some F.tag_slots := by kernel_rfl
theorem g159 : FnOk Try.prog tab prog (159, 462) := FnOk.of (by kernel_rfl) (by kernel_rfl) Try.func159 c159

theorem c160 : comp Try.prog tab F.word_Fits.closed F.word_Fits_hs Try.f160 = some F.word_Fits := by kernel_rfl
theorem g160 : FnOk Try.prog tab prog (160, 484) := FnOk.of (by kernel_rfl) (by kernel_rfl) Try.func160 c160

theorem c164 : comp Try.prog tab F.word_mask.closed F.word_mask_hs Try.f164 = some F.word_mask := by kernel_rfl
theorem g164 : FnOk Try.prog tab prog (164, 449) := FnOk.of (by kernel_rfl) (by kernel_rfl) Try.func164 c164

theorem c103 : comp Try.prog tab F.turn_Fenced.closed F.turn_Fenced_hs Try.f103 = some F.turn_Fenced := by kernel_rfl
theorem g103 : FnOk Try.prog tab prog (103, 308) := FnOk.of (by kernel_rfl) (by kernel_rfl) Try.func103 c103

theorem c4 : comp Try.prog tab F.withylaw09_ShadeAlone.closed F.withylaw09_ShadeAlone_hs Try.f4 = some F.withylaw09_ShadeAlone := by kernel_rfl
theorem g4 : FnOk Try.prog tab prog (4, 16) := FnOk.of (by kernel_rfl) (by kernel_rfl) Try.func4 c4

theorem c21 : comp Try.prog tab F.withyref04_Lives.closed F.withyref04_Lives_hs Try.f21 = some F.withyref04_Lives := by kernel_rfl
theorem g21 : FnOk Try.prog tab prog (21, 112) := FnOk.of (by kernel_rfl) (by kernel_rfl) Try.func21 c21

theorem c22 : comp Try.prog tab F.withyref04_Marked.closed F.withyref04_Marked_hs Try.f22 = some F.withyref04_Marked := by kernel_rfl
theorem g22 : FnOk Try.prog tab prog (22, 113) := FnOk.of (by kernel_rfl) (by kernel_rfl) Try.func22 c22

theorem c23 : comp Try.prog tab F.withyref06_Same.closed F.withyref06_Same_hs Try.f23 = some F.withyref06_Same := by kernel_rfl
theorem g23 : FnOk Try.prog tab prog (23, 95) := FnOk.of (by kernel_rfl) (by kernel_rfl) Try.func23 c23

theorem progOk : ProgOk Try.prog tab prog := ProgOk.of_fn (l := tab.fn) rfl (by
  unfold tab
  exact List.forall_mem_cons.mpr ⟨g3, List.forall_mem_cons.mpr ⟨g11, List.forall_mem_cons.mpr ⟨g16, List.forall_mem_cons.mpr ⟨g13, List.forall_mem_cons.mpr ⟨g15, List.forall_mem_cons.mpr ⟨g9, List.forall_mem_cons.mpr ⟨g10, List.forall_mem_cons.mpr ⟨g12, List.forall_mem_cons.mpr ⟨g14, List.forall_mem_cons.mpr ⟨g17, List.forall_mem_cons.mpr ⟨g18, List.forall_mem_cons.mpr ⟨g19, List.forall_mem_cons.mpr ⟨g20, List.forall_mem_cons.mpr ⟨g58, List.forall_mem_cons.mpr ⟨g55, List.forall_mem_cons.mpr ⟨g54, List.forall_mem_cons.mpr ⟨g56, List.forall_mem_cons.mpr ⟨g57, List.forall_mem_cons.mpr ⟨g60, List.forall_mem_cons.mpr ⟨g61, List.forall_mem_cons.mpr ⟨g62, List.forall_mem_cons.mpr ⟨g63, List.forall_mem_cons.mpr ⟨g50, List.forall_mem_cons.mpr ⟨g51, List.forall_mem_cons.mpr ⟨g53, List.forall_mem_cons.mpr ⟨g52, List.forall_mem_cons.mpr ⟨g59, List.forall_mem_cons.mpr ⟨g64, List.forall_mem_cons.mpr ⟨g65, List.forall_mem_cons.mpr ⟨g66, List.forall_mem_cons.mpr ⟨g107, List.forall_mem_cons.mpr ⟨g79, List.forall_mem_cons.mpr ⟨g109, List.forall_mem_cons.mpr ⟨g110, List.forall_mem_cons.mpr ⟨g84, List.forall_mem_cons.mpr ⟨g108, List.forall_mem_cons.mpr ⟨g111, List.forall_mem_cons.mpr ⟨g112, List.forall_mem_cons.mpr ⟨g113, List.forall_mem_cons.mpr ⟨g114, List.forall_mem_cons.mpr ⟨g91, List.forall_mem_cons.mpr ⟨g115, List.forall_mem_cons.mpr ⟨g134, List.forall_mem_cons.mpr ⟨g135, List.forall_mem_cons.mpr ⟨g121, List.forall_mem_cons.mpr ⟨g137, List.forall_mem_cons.mpr ⟨g136, List.forall_mem_cons.mpr ⟨g138, List.forall_mem_cons.mpr ⟨g139, List.forall_mem_cons.mpr ⟨g140, List.forall_mem_cons.mpr ⟨g144, List.forall_mem_cons.mpr ⟨g143, List.forall_mem_cons.mpr ⟨g159, List.forall_mem_cons.mpr ⟨g160, List.forall_mem_cons.mpr ⟨g164, List.forall_mem_cons.mpr ⟨g103, List.forall_mem_cons.mpr ⟨g4, List.forall_mem_cons.mpr ⟨g21, List.forall_mem_cons.mpr ⟨g22, List.forall_mem_cons.mpr ⟨g23, List.forall_mem_nil _⟩⟩⟩⟩⟩⟩⟩⟩⟩⟩⟩⟩⟩⟩⟩⟩⟩⟩⟩⟩⟩⟩⟩⟩⟩⟩⟩⟩⟩⟩⟩⟩⟩⟩⟩⟩⟩⟩⟩⟩⟩⟩⟩⟩⟩⟩⟩⟩⟩⟩⟩⟩⟩⟩⟩⟩⟩⟩⟩⟩)

theorem methOk : MethOk Try.prog tab meth := fun T t mm m f _ h => by simp [tab, assocS] at h

theorem callOk : CallOk Try.prog tab C := callW_ok (by kernel_rfl) progOk methOk
end Wm.Seat
