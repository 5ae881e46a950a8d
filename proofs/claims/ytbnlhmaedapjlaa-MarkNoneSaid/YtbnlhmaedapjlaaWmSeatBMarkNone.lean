/- How the seat's functions are those of my table. -/
import Derived.Test.YtbnlhmaedapjlaaChecked
import Derived.Test.YtbnlhmaedapjlaaWmProgMarkNone
import Derived.Test.YtbnlhmaedapjlaaWmMeth
set_option linter.all false
namespace Wm.Seat
open Wm Go Go.Proofs

def tab : Tab := { fn := [(4, 26), (10, 85), (27, 154), (25, 158), (26, 159), (70, 94), (68, 124), (67, 155), (65, 198), (64, 313), (66, 314), (69, 315), (57, 263), (53, 91), (61, 325), (62, 326), (63, 327), (111, 271), (56, 261), (112, 264), (71, 265), (47, 305), (113, 316), (114, 317), (103, 318), (104, 319), (106, 320), (107, 321), (82, 121), (98, 107), (116, 108), (115, 113), (92, 376), (46, 266), (90, 267), (91, 268), (54, 269), (101, 393), (102, 399), (105, 400), (108, 401), (50, 203), (109, 402), (110, 403), (89, 375), (136, 377), (135, 378), (117, 379), (121, 380), (122, 381), (141, 396), (140, 397), (94, 86), (95, 111), (11, 149), (127, 202), (128, 297), (137, 87), (142, 109), (144, 110), (143, 112), (87, 346), (88, 347), (123, 382), (52, 90), (145, 441), (147, 442), (154, 449), (152, 322), (134, 413), (148, 443), (149, 444), (155, 484)], ty := [], meth := [] }

theorem c4 : comp Try.prog tab F.withylaw13_MarkNone.closed F.withylaw13_MarkNone_hs Try.f4 = some F.withylaw13_MarkNone := by kernel_rfl
theorem g4 : FnOk Try.prog tab prog (4, 26) := FnOk.of (by kernel_rfl) (by kernel_rfl) Try.func4 c4

theorem c10 : comp Try.prog tab F.withyref06_Right.closed F.withyref06_Right_hs Try.f10 = some F.withyref06_Right := by kernel_rfl
theorem g10 : FnOk Try.prog tab prog (10, 85) := FnOk.of (by kernel_rfl) (by kernel_rfl) Try.func10 c10

theorem c27 : comp Try.prog tab F.withylaw13_awake.closed F.withylaw13_awake_hs Try.f27 = some F.withylaw13_awake := by kernel_rfl
theorem g27 : FnOk Try.prog tab prog (27, 154) := FnOk.of (by kernel_rfl) (by kernel_rfl) Try.func27 c27

theorem c25 : comp Try.prog tab F.mark_NewMark.closed F.mark_NewMark_hs Try.f25 = some F.mark_NewMark := by kernel_rfl
theorem g25 : FnOk Try.prog tab prog (25, 158) := FnOk.of (by kernel_rfl) (by kernel_rfl) Try.func25 c25

theorem c26 : comp Try.prog tab F.mark_Mark_Step.closed F.mark_Mark_Step_hs Try.f26 = some F.mark_Mark_Step := by kernel_rfl
theorem g26 : FnOk Try.prog tab prog (26, 159) := FnOk.of (by kernel_rfl) (by kernel_rfl) Try.func26 c26

theorem c70 : comp Try.prog tab F.mem_Mem_Words.closed F.mem_Mem_Words_hs Try.f70 = some F.mem_Mem_Words := by kernel_rfl
theorem g70 : FnOk Try.prog tab prog (70, 94) := FnOk.of (by kernel_rfl) (by kernel_rfl) Try.func70 c70

theorem c68 : comp Try.prog tab F.withyref13_Same.closed F.withyref13_Same_hs Try.f68 = some F.withyref13_Same := by kernel_rfl
theorem g68 : FnOk Try.prog tab prog (68, 124) := FnOk.of (by kernel_rfl) (by kernel_rfl) Try.func68 c68

theorem c67 : comp Try.prog tab F.mark_Found.closed F.mark_Found_hs Try.f67 = some F.mark_Found := by kernel_rfl
theorem g67 : FnOk Try.prog tab prog (67, 155) := FnOk.of (by kernel_rfl) (by kernel_rfl) Try.func67 c67

theorem c65 : comp Try.prog tab F.mem_Of.closed F.mem_Of_hs Try.f65 = some F.mem_Of := by kernel_rfl
theorem g65 : FnOk Try.prog tab prog (65, 198) := FnOk.of (by kernel_rfl) (by kernel_rfl) Try.func65 c65

theorem c64 : comp Try.prog tab F.withylaw13_small.closed F.withylaw13_small_hs Try.f64 = some F.withylaw13_small := by kernel_rfl
theorem g64 : FnOk Try.prog tab prog (64, 313) := FnOk.of (by kernel_rfl) (by kernel_rfl) Try.func64 c64

theorem c66 : comp Try.prog tab F.withylaw13_ends.closed F.withylaw13_ends_hs Try.f66 = some F.withylaw13_ends := by kernel_rfl
theorem g66 : FnOk Try.prog tab prog (66, 314) := FnOk.of (by kernel_rfl) (by kernel_rfl) Try.func66 c66

theorem c69 : comp Try.prog tab F.withylaw13_marked.closed F.withylaw13_marked_hs Try.f69 = some F.withylaw13_marked := by kernel_rfl
theorem g69 : FnOk Try.prog tab prog (69, 315) := FnOk.of (by kernel_rfl) (by kernel_rfl) Try.func69 c69

theorem c57 : comp Try.prog tab F.plan_Right.closed F.plan_Right_hs Try.f57 = some F.plan_Right := by kernel_rfl
theorem g57 : FnOk Try.prog tab prog (57, 263) := FnOk.of (by kernel_rfl) (by kernel_rfl) Try.func57 c57

theorem c53 : comp Try.prog tab F.shade_Shade_Step.closed F.shade_Shade_Step_hs Try.f53 = some F.shade_Shade_Step := by kernel_rfl
theorem g53 : FnOk Try.prog tab prog (53, 91) := FnOk.of (by kernel_rfl) (by kernel_rfl) Try.func53 c53

theorem c61 : comp Try.prog tab F.mark_Mark_roots.closed F.mark_Mark_roots_hs Try.f61 = some F.mark_Mark_roots := by kernel_rfl
theorem g61 : FnOk Try.prog tab prog (61, 325) := FnOk.of (by kernel_rfl) (by kernel_rfl) Try.func61 c61

theorem c62 : comp Try.prog tab F.mark_Mark_pass.closed F.mark_Mark_pass_hs Try.f62 = some F.mark_Mark_pass := by kernel_rfl
theorem g62 : FnOk Try.prog tab prog (62, 326) := FnOk.of (by kernel_rfl) (by kernel_rfl) Try.func62 c62

theorem c63 : comp Try.prog tab F.mark_Mark_through.closed F.mark_Mark_through_hs Try.f63 = some F.mark_Mark_through := by kernel_rfl
theorem g63 : FnOk Try.prog tab prog (63, 327) := FnOk.of (by kernel_rfl) (by kernel_rfl) Try.func63 c63

theorem c111 : comp Try.prog tab F.slices_Clone___uint64_uint64_.closed F.slices_Clone___uint64_uint64__hs Try.f111 = some F.slices_Clone___uint64_uint64_ := by kernel_rfl
theorem g111 : FnOk Try.prog tab prog (111, 271) := FnOk.of (by kernel_rfl) (by kernel_rfl) Try.func111 c111

theorem c56 : comp Try.prog tab F.plan_Header.closed F.plan_Header_hs Try.f56 = some F.plan_Header := by kernel_rfl
theorem g56 : FnOk Try.prog tab prog (56, 261) := FnOk.of (by kernel_rfl) (by kernel_rfl) Try.func56 c56

theorem c112 : comp Try.prog tab F.plan_Size.closed F.plan_Size_hs Try.f112 = some F.plan_Size := by kernel_rfl
theorem g112 : FnOk Try.prog tab prog (112, 264) := FnOk.of (by kernel_rfl) (by kernel_rfl) Try.func112 c112

theorem c71 : comp Try.prog tab F.head_Unpack.closed F.head_Unpack_hs Try.f71 = some F.head_Unpack := by kernel_rfl
theorem g71 : FnOk Try.prog tab prog (71, 265) := FnOk.of (by kernel_rfl) (by kernel_rfl) Try.func71 c71

theorem c47 : comp Try.prog tab F.plan_Body.closed F.plan_Body_hs Try.f47 = some F.plan_Body := by kernel_rfl
theorem g47 : FnOk Try.prog tab prog (47, 305) := FnOk.of (by kernel_rfl) (by kernel_rfl) Try.func47 c47

theorem c113 : comp Try.prog tab F.mark_Found_1.closed F.mark_Found_1_hs Try.f113 = some F.mark_Found_1 := by kernel_rfl
theorem g113 : FnOk Try.prog tab prog (113, 316) := FnOk.of (by kernel_rfl) (by kernel_rfl) Try.func113 c113

theorem c114 : comp Try.prog tab F.head_Marked.closed F.head_Marked_hs Try.f114 = some F.head_Marked := by kernel_rfl
theorem g114 : FnOk Try.prog tab prog (114, 317) := FnOk.of (by kernel_rfl) (by kernel_rfl) Try.func114 c114

theorem c103 : comp Try.prog tab F.tag_EntryParts.closed F.tag_EntryParts_hs Try.f103 = some F.tag_EntryParts := by kernel_rfl
theorem g103 : FnOk Try.prog tab prog (103, 318) := FnOk.of (by kernel_rfl) (by kernel_rfl) Try.func103 c103

theorem c104 : comp Try.prog tab F.plan_Entry.closed F.plan_Entry_hs Try.f104 = some F.plan_Entry := by kernel_rfl
theorem g104 : FnOk Try.prog tab prog (104, 319) := FnOk.of (by kernel_rfl) (by kernel_rfl) Try.func104 c104

theorem c106 : comp Try.prog tab F.mark_Mark_named.closed F.mark_Mark_named_hs Try.f106 = some F.mark_Mark_named := by kernel_rfl
theorem g106 : FnOk Try.prog tab prog (106, 320) := FnOk.of (by kernel_rfl) (by kernel_rfl) Try.func106 c106

theorem c107 : comp Try.prog tab F.plan_Start.closed F.plan_Start_hs Try.f107 = some F.plan_Start := by kernel_rfl
theorem g107 : FnOk Try.prog tab prog (107, 321) := FnOk.of (by kernel_rfl) (by kernel_rfl) Try.func107 c107

theorem c82 : comp Try.prog tab F.withyref13_Laid.closed F.withyref13_Laid_hs Try.f82 = some F.withyref13_Laid := by kernel_rfl
theorem g82 : FnOk Try.prog tab prog (82, 121) := FnOk.of (by kernel_rfl) (by kernel_rfl) Try.func82 c82

theorem c98 : comp Try.prog tab F.mem_Mem_Touches.closed F.mem_Mem_Touches_hs Try.f98 = some F.mem_Mem_Touches := by kernel_rfl
theorem g98 : FnOk Try.prog tab prog (98, 107) := FnOk.of (by kernel_rfl) (by kernel_rfl) Try.func98 c98

theorem c116 : comp Try.prog tab F.withyref06_At.closed F.withyref06_At_hs Try.f116 = some F.withyref06_At := by kernel_rfl
theorem g116 : FnOk Try.prog tab prog (116, 108) := FnOk.of (by kernel_rfl) (by kernel_rfl) Try.func116 c116

theorem c115 : comp Try.prog tab F.withyref04_Marked.closed F.withyref04_Marked_hs Try.f115 = some F.withyref04_Marked := by kernel_rfl
theorem g115 : FnOk Try.prog tab prog (115, 113) := FnOk.of (by kernel_rfl) (by kernel_rfl) Try.func115 c115

theorem c92 : comp Try.prog tab F.plan_between.closed F.plan_between_hs Try.f92 = some F.plan_between := by kernel_rfl
theorem g92 : FnOk Try.prog tab prog (92, 376) := FnOk.of (by kernel_rfl) (by kernel_rfl) Try.func92 c92

theorem c46 : comp Try.prog tab F.mem_Mem_Load.closed F.mem_Mem_Load_hs Try.f46 = some F.mem_Mem_Load := by kernel_rfl
theorem g46 : FnOk Try.prog tab prog (46, 266) := FnOk.of (by kernel_rfl) (by kernel_rfl) Try.func46 c46

theorem c90 : comp Try.prog tab F.head_Shaded.closed F.head_Shaded_hs Try.f90 = some F.head_Shaded := by kernel_rfl
theorem g90 : FnOk Try.prog tab prog (90, 267) := FnOk.of (by kernel_rfl) (by kernel_rfl) Try.func90 c90

theorem c91 : comp Try.prog tab F.mem_Mem_Add.closed F.mem_Mem_Add_hs Try.f91 = some F.mem_Mem_Add := by kernel_rfl
theorem g91 : FnOk Try.prog tab prog (91, 268) := FnOk.of (by kernel_rfl) (by kernel_rfl) Try.func91 c91

theorem c54 : comp Try.prog tab F.mem_Mem_Swap.closed F.mem_Mem_Swap_hs Try.f54 = some F.mem_Mem_Swap := by kernel_rfl
theorem g54 : FnOk Try.prog tab prog (54, 269) := FnOk.of (by kernel_rfl) (by kernel_rfl) Try.func54 c54

theorem c101 : comp Try.prog tab F.plan_View.closed F.plan_View_hs Try.f101 = some F.plan_View := by kernel_rfl
theorem g101 : FnOk Try.prog tab prog (101, 393) := FnOk.of (by kernel_rfl) (by kernel_rfl) Try.func101 c101

theorem c102 : comp Try.prog tab F.mark_Mark_client.closed F.mark_Mark_client_hs Try.f102 = some F.mark_Mark_client := by kernel_rfl
theorem g102 : FnOk Try.prog tab prog (102, 399) := FnOk.of (by kernel_rfl) (by kernel_rfl) Try.func102 c102

theorem c105 : comp Try.prog tab F.mark_Mark_finds.closed F.mark_Mark_finds_hs Try.f105 = some F.mark_Mark_finds := by kernel_rfl
theorem g105 : FnOk Try.prog tab prog (105, 400) := FnOk.of (by kernel_rfl) (by kernel_rfl) Try.func105 c105

theorem c108 : comp Try.prog tab F.mark_Mark_look.closed F.mark_Mark_look_hs Try.f108 = some F.mark_Mark_look := by kernel_rfl
theorem g108 : FnOk Try.prog tab prog (108, 401) := FnOk.of (by kernel_rfl) (by kernel_rfl) Try.func108 c108

theorem c50 : comp Try.prog tab F.mem_Mem_Store.closed F.mem_Mem_Store_hs Try.f50 = some F.mem_Mem_Store := by kernel_rfl
theorem g50 : FnOk Try.prog tab prog (50, 203) := FnOk.of (by kernel_rfl) (by kernel_rfl) Try.func50 c50

theorem c109 : comp Try.prog tab F.head_Blackened.closed F.head_Blackened_hs Try.f109 = some F.head_Blackened := by kernel_rfl
theorem g109 : FnOk Try.prog tab prog (109, 402) := FnOk.of (by kernel_rfl) (by kernel_rfl) Try.func109 c109

theorem c110 : comp Try.prog tab F.mark_Mark_onward.closed F.mark_Mark_onward_hs Try.f110 = some F.mark_Mark_onward := by kernel_rfl
theorem g110 : FnOk Try.prog tab prog (110, 403) := FnOk.of (by kernel_rfl) (by kernel_rfl) Try.func110 c110

theorem c89 : comp Try.prog tab F.plan_within.closed F.plan_within_hs Try.f89 = some F.plan_within := by kernel_rfl
theorem g89 : FnOk Try.prog tab prog (89, 375) := FnOk.of (by kernel_rfl) (by kernel_rfl) Try.func89 c89

theorem c136 : comp Try.prog tab F.plan_slots.closed F.plan_slots_hs Try.f136 = some F.plan_slots := by kernel_rfl
theorem g136 : FnOk Try.prog tab prog (136, 377) := FnOk.of (by kernel_rfl) (by kernel_rfl) Try.func136 c136

theorem c135 : comp Try.prog tab F.plan_room.closed F.plan_room_hs Try.f135 = some F.plan_room := by kernel_rfl
theorem g135 : FnOk Try.prog tab prog (135, 378) := FnOk.of (by kernel_rfl) (by kernel_rfl) Try.func135 c135

theorem c117 : comp Try.prog tab F.word_Unpack.closed F.word_Unpack_hs Try.f117 = some F.word_Unpack := by kernel_rfl
theorem g117 : FnOk Try.prog tab prog (117, 379) := FnOk.of (by kernel_rfl) (by kernel_rfl) Try.func117 c117

theorem c121 : comp Try.prog tab F.head_lives.closed F.head_lives_hs Try.f121 = some F.head_lives := by kernel_rfl
theorem g121 : FnOk Try.prog tab prog (121, 380) := FnOk.of (by kernel_rfl) (by kernel_rfl) Try.func121 c121

theorem c122 : comp Try.prog tab F.turn_Black.closed F.turn_Black_hs Try.f122 = some F.turn_Black := by kernel_rfl
theorem g122 : FnOk Try.prog tab prog (122, 381) := FnOk.of (by kernel_rfl) (by kernel_rfl) Try.func122 c122

theorem c141 : comp Try.prog tab F.word_Get.closed F.word_Get_hs Try.f141 = some F.word_Get := by kernel_rfl
theorem g141 : FnOk Try.prog tab prog (141, 396) := FnOk.of (by kernel_rfl) (by kernel_rfl) Try.func141 c141

theorem c140 : comp Try.prog tab F.plan_place.closed F.plan_place_hs Try.f140 = some F.plan_place := by kernel_rfl
theorem g140 : FnOk Try.prog tab prog (140, 397) := FnOk.of (by kernel_rfl) (by kernel_rfl) Try.func140 c140

theorem c94 : comp Try.prog tab F.withyref06_Memory.closed F.withyref06_Memory_hs Try.f94 = some F.withyref06_Memory := by kernel_rfl
theorem g94 : FnOk Try.prog tab prog (94, 86) := FnOk.of (by kernel_rfl) (by kernel_rfl) Try.func94 c94

theorem c95 : comp Try.prog tab F.withyref04_Pack.closed F.withyref04_Pack_hs Try.f95 = some F.withyref04_Pack := by kernel_rfl
theorem g95 : FnOk Try.prog tab prog (95, 111) := FnOk.of (by kernel_rfl) (by kernel_rfl) Try.func95 c95

theorem c11 : comp Try.prog tab F.withyref06_Room.closed F.withyref06_Room_hs Try.f11 = some F.withyref06_Room := by kernel_rfl
theorem g11 : FnOk Try.prog tab prog (11, 149) := FnOk.of (by kernel_rfl) (by kernel_rfl) Try.func11 c11

theorem c127 : comp Try.prog tab F.withyref04_Right.closed F.withyref04_Right_hs Try.f127 = some F.withyref04_Right := by kernel_rfl
theorem g127 : FnOk Try.prog tab prog (127, 202) := FnOk.of (by kernel_rfl) (by kernel_rfl) Try.func127 c127

theorem c128 : comp Try.prog tab F.withyref13_Grays.closed F.withyref13_Grays_hs Try.f128 = some F.withyref13_Grays := by kernel_rfl
theorem g128 : FnOk Try.prog tab prog (128, 297) := FnOk.of (by kernel_rfl) (by kernel_rfl) Try.func128 c128

theorem c137 : comp Try.prog tab F.withyref06_Words.closed F.withyref06_Words_hs Try.f137 = some F.withyref06_Words := by kernel_rfl
theorem g137 : FnOk Try.prog tab prog (137, 87) := FnOk.of (by kernel_rfl) (by kernel_rfl) Try.func137 c137

theorem c142 : comp Try.prog tab F.withyref04_Unpack.closed F.withyref04_Unpack_hs Try.f142 = some F.withyref04_Unpack := by kernel_rfl
theorem g142 : FnOk Try.prog tab prog (142, 109) := FnOk.of (by kernel_rfl) (by kernel_rfl) Try.func142 c142

theorem c144 : comp Try.prog tab F.withyref03_Black.closed F.withyref03_Black_hs Try.f144 = some F.withyref03_Black := by kernel_rfl
theorem g144 : FnOk Try.prog tab prog (144, 110) := FnOk.of (by kernel_rfl) (by kernel_rfl) Try.func144 c144

theorem c143 : comp Try.prog tab F.withyref04_Lives.closed F.withyref04_Lives_hs Try.f143 = some F.withyref04_Lives := by kernel_rfl
theorem g143 : FnOk Try.prog tab prog (143, 112) := FnOk.of (by kernel_rfl) (by kernel_rfl) Try.func143 c143

theorem c87 : comp Try.prog tab F.mem_Mem_there.closed F.mem_Mem_there_hs Try.f87 = some F.mem_Mem_there := by kernel_rfl
theorem g87 : FnOk Try.prog tab prog (87, 346) := FnOk.of (by kernel_rfl) (by kernel_rfl) Try.func87 c87

theorem c88 : comp Try.prog tab F.mem_Mem_touch.closed F.mem_Mem_touch_hs Try.f88 = some F.mem_Mem_touch := by kernel_rfl
theorem g88 : FnOk Try.prog tab prog (88, 347) := FnOk.of (by kernel_rfl) (by kernel_rfl) Try.func88 c88

theorem c123 : comp Try.prog tab F.head_Pack.closed F.head_Pack_hs Try.f123 = some F.head_Pack := by kernel_rfl
theorem g123 : FnOk Try.prog tab prog (123, 382) := FnOk.of (by kernel_rfl) (by kernel_rfl) Try.func123 c123

theorem c52 : comp Try.prog tab F.shade_NewShade.closed F.shade_NewShade_hs Try.f52 = some F.shade_NewShade := by kernel_rfl
theorem g52 : FnOk Try.prog tab prog (52, 90) := FnOk.of (by kernel_rfl) (by kernel_rfl) Try.func52 c52

theorem c145 : comp Try.prog tab F.word_some.closed F.word_some_hs Try.f145 = some F.word_some := by kernel_rfl
theorem g145 : FnOk Try.prog tab prog (145, 441) := FnOk.of (by kernel_rfl) (by kernel_rfl) Try.func145 c145

theorem c147 : comp Try.prog tab F.turn_Cycle.closed F.turn_Cycle_hs Try.f147 = some F.turn_Cycle := by kernel_rfl
theorem g147 : FnOk Try.prog tab prog (147, 442) := FnOk.of (by kernel_rfl) (by kernel_rfl) Try.func147 c147

theorem c154 : comp Try.prog tab F.word_mask.closed F.word_mask_hs Try.f154 = some F.word_mask := by kernel_rfl
theorem g154 : FnOk Try.prog tab prog (154, 449) := FnOk.of (by kernel_rfl) (by kernel_rfl) Try.func154 c154

theorem c152 : comp Try.prog tab F.withyref13_at.closed F.withyref13_at_hs Try.f152 = some F.withyref13_at := by kernel_rfl
theorem g152 : FnOk Try.prog tab prog (152, 322) := FnOk.of (by kernel_rfl) (by kernel_rfl) Try.func152 c152

theorem c134 : comp Try.prog tab F.mem_Mem_Size.closed F.mem_Mem_Size_hs Try.f134 = some F.mem_Mem_Size := by kernel_rfl
theorem g134 : FnOk Try.prog tab prog (134, 413) := FnOk.of (by kernel_rfl) (by kernel_rfl) Try.func134 c134

theorem c148 : comp Try.prog tab F.word_Pack.closed F.word_Pack_hs Try.f148 = some F.word_Pack := by kernel_rfl
theorem g148 : FnOk Try.prog tab prog (148, 443) := FnOk.of (by kernel_rfl) (by kernel_rfl) Try.func148 c148

theorem c149 : comp Try.prog tab F.head_bit.closed F.head_bit_hs Try.f149 = some F.head_bit := by kernel_rfl
theorem g149 : FnOk Try.prog tab prog (149, 444) := FnOk.of (by kernel_rfl) (by kernel_rfl) Try.func149 c149

theorem c155 : comp Try.prog tab F.word_Fits.closed F.word_Fits_hs Try.f155 = some F.word_Fits := by kernel_rfl
theorem g155 : FnOk Try.prog tab prog (155, 484) := FnOk.of (by kernel_rfl) (by kernel_rfl) Try.func155 c155

theorem progOk : ProgOk Try.prog tab prog := ProgOk.of_fn (l := tab.fn) rfl (by
  unfold tab
  exact List.forall_mem_cons.mpr ⟨g4, List.forall_mem_cons.mpr ⟨g10, List.forall_mem_cons.mpr ⟨g27, List.forall_mem_cons.mpr ⟨g25, List.forall_mem_cons.mpr ⟨g26, List.forall_mem_cons.mpr ⟨g70, List.forall_mem_cons.mpr ⟨g68, List.forall_mem_cons.mpr ⟨g67, List.forall_mem_cons.mpr ⟨g65, List.forall_mem_cons.mpr ⟨g64, List.forall_mem_cons.mpr ⟨g66, List.forall_mem_cons.mpr ⟨g69, List.forall_mem_cons.mpr ⟨g57, List.forall_mem_cons.mpr ⟨g53, List.forall_mem_cons.mpr ⟨g61, List.forall_mem_cons.mpr ⟨g62, List.forall_mem_cons.mpr ⟨g63, List.forall_mem_cons.mpr ⟨g111, List.forall_mem_cons.mpr ⟨g56, List.forall_mem_cons.mpr ⟨g112, List.forall_mem_cons.mpr ⟨g71, List.forall_mem_cons.mpr ⟨g47, List.forall_mem_cons.mpr ⟨g113, List.forall_mem_cons.mpr ⟨g114, List.forall_mem_cons.mpr ⟨g103, List.forall_mem_cons.mpr ⟨g104, List.forall_mem_cons.mpr ⟨g106, List.forall_mem_cons.mpr ⟨g107, List.forall_mem_cons.mpr ⟨g82, List.forall_mem_cons.mpr ⟨g98, List.forall_mem_cons.mpr ⟨g116, List.forall_mem_cons.mpr ⟨g115, List.forall_mem_cons.mpr ⟨g92, List.forall_mem_cons.mpr ⟨g46, List.forall_mem_cons.mpr ⟨g90, List.forall_mem_cons.mpr ⟨g91, List.forall_mem_cons.mpr ⟨g54, List.forall_mem_cons.mpr ⟨g101, List.forall_mem_cons.mpr ⟨g102, List.forall_mem_cons.mpr ⟨g105, List.forall_mem_cons.mpr ⟨g108, List.forall_mem_cons.mpr ⟨g50, List.forall_mem_cons.mpr ⟨g109, List.forall_mem_cons.mpr ⟨g110, List.forall_mem_cons.mpr ⟨g89, List.forall_mem_cons.mpr ⟨g136, List.forall_mem_cons.mpr ⟨g135, List.forall_mem_cons.mpr ⟨g117, List.forall_mem_cons.mpr ⟨g121, List.forall_mem_cons.mpr ⟨g122, List.forall_mem_cons.mpr ⟨g141, List.forall_mem_cons.mpr ⟨g140, List.forall_mem_cons.mpr ⟨g94, List.forall_mem_cons.mpr ⟨g95, List.forall_mem_cons.mpr ⟨g11, List.forall_mem_cons.mpr ⟨g127, List.forall_mem_cons.mpr ⟨g128, List.forall_mem_cons.mpr ⟨g137, List.forall_mem_cons.mpr ⟨g142, List.forall_mem_cons.mpr ⟨g144, List.forall_mem_cons.mpr ⟨g143, List.forall_mem_cons.mpr ⟨g87, List.forall_mem_cons.mpr ⟨g88, List.forall_mem_cons.mpr ⟨g123, List.forall_mem_cons.mpr ⟨g52, List.forall_mem_cons.mpr ⟨g145, List.forall_mem_cons.mpr ⟨g147, List.forall_mem_cons.mpr ⟨g154, List.forall_mem_cons.mpr ⟨g152, List.forall_mem_cons.mpr ⟨g134, List.forall_mem_cons.mpr ⟨g148, List.forall_mem_cons.mpr ⟨g149, List.forall_mem_cons.mpr ⟨g155, List.forall_mem_nil _⟩⟩⟩⟩⟩⟩⟩⟩⟩⟩⟩⟩⟩⟩⟩⟩⟩⟩⟩⟩⟩⟩⟩⟩⟩⟩⟩⟩⟩⟩⟩⟩⟩⟩⟩⟩⟩⟩⟩⟩⟩⟩⟩⟩⟩⟩⟩⟩⟩⟩⟩⟩⟩⟩⟩⟩⟩⟩⟩⟩⟩⟩⟩⟩⟩⟩⟩⟩⟩⟩⟩⟩⟩)

theorem methOk : MethOk Try.prog tab meth := fun T t mm m f _ h => by simp [tab, assocS] at h

theorem callOk : CallOk Try.prog tab C := callW_ok (by kernel_rfl) progOk methOk
end Wm.Seat
