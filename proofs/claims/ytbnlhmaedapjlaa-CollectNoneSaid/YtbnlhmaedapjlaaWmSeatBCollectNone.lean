/- How the seat's functions are those of my table. -/
import Derived.Test.YtbnlhmaedapjlaaChecked
import Derived.Test.YtbnlhmaedapjlaaWmProgCollectNone
import Derived.Test.YtbnlhmaedapjlaaWmMeth
set_option linter.all false
namespace Wm.Seat
open Wm Go Go.Proofs

def tab : Tab := { fn := [(8, 51), (7, 49), (10, 85), (41, 212), (42, 214), (43, 215), (39, 210), (40, 211), (84, 213), (57, 263), (85, 351), (86, 352), (65, 198), (112, 264), (130, 293), (129, 350), (92, 376), (25, 158), (34, 188), (35, 189), (131, 415), (26, 159), (36, 190), (37, 191), (46, 266), (54, 269), (132, 416), (133, 417), (111, 271), (136, 377), (135, 378), (89, 375), (153, 414), (53, 91), (61, 325), (62, 326), (63, 327), (56, 261), (79, 340), (71, 265), (80, 341), (81, 342), (87, 346), (88, 347), (140, 397), (148, 443), (157, 462), (90, 267), (91, 268), (103, 318), (104, 319), (106, 320), (107, 321), (101, 393), (102, 399), (105, 400), (108, 401), (50, 203), (47, 305), (109, 402), (110, 403), (121, 380), (122, 381), (123, 382), (117, 379), (124, 409), (125, 410), (126, 411), (134, 413), (145, 441), (155, 484), (141, 396), (52, 90), (147, 442), (149, 444), (150, 391), (151, 461), (154, 449), (156, 447)], ty := [(44, 166), (51, 206), (52, 207)], meth := [("Step", 0)] }

theorem c8 : comp Try.prog tab F.withylaw15_CollectNone.closed F.withylaw15_CollectNone_hs Try.f8 = some F.withylaw15_CollectNone := by kernel_rfl
theorem g8 : FnOk Try.prog tab prog (8, 51) := FnOk.of (by kernel_rfl) (by kernel_rfl) Try.func8 c8

theorem c7 : comp Try.prog tab F.withylaw15_CollectBounds.closed F.withylaw15_CollectBounds_hs Try.f7 = some F.withylaw15_CollectBounds := by kernel_rfl
theorem g7 : FnOk Try.prog tab prog (7, 49) := FnOk.of (by kernel_rfl) (by kernel_rfl) Try.func7 c7

theorem c10 : comp Try.prog tab F.withyref06_Right.closed F.withyref06_Right_hs Try.f10 = some F.withyref06_Right := by kernel_rfl
theorem g10 : FnOk Try.prog tab prog (10, 85) := FnOk.of (by kernel_rfl) (by kernel_rfl) Try.func10 c10

theorem c41 : comp Try.prog tab F.withylaw15_awake.closed F.withylaw15_awake_hs Try.f41 = some F.withylaw15_awake := by kernel_rfl
theorem g41 : FnOk Try.prog tab prog (41, 212) := FnOk.of (by kernel_rfl) (by kernel_rfl) Try.func41 c41

theorem c42 : comp Try.prog tab F.collect_NewCollect.closed F.collect_NewCollect_hs Try.f42 = some F.collect_NewCollect := by kernel_rfl
theorem g42 : FnOk Try.prog tab prog (42, 214) := FnOk.of (by kernel_rfl) (by kernel_rfl) Try.func42 c42

theorem c43 : comp Try.prog tab F.collect_Collect_Step.closed F.collect_Collect_Step_hs Try.f43 = some F.collect_Collect_Step := by kernel_rfl
theorem g43 : FnOk Try.prog tab prog (43, 215) := FnOk.of (by kernel_rfl) (by kernel_rfl) Try.func43 c43

theorem c39 : comp Try.prog tab F.collect_Bound.closed F.collect_Bound_hs Try.f39 = some F.collect_Bound := by kernel_rfl
theorem g39 : FnOk Try.prog tab prog (39, 210) := FnOk.of (by kernel_rfl) (by kernel_rfl) Try.func39 c39

theorem c40 : comp Try.prog tab F.withyref15_Bound.closed F.withyref15_Bound_hs Try.f40 = some F.withyref15_Bound := by kernel_rfl
theorem g40 : FnOk Try.prog tab prog (40, 211) := FnOk.of (by kernel_rfl) (by kernel_rfl) Try.func40 c40

theorem c84 : comp Try.prog tab F.plan_Memory.closed F.plan_Memory_hs Try.f84 = some F.plan_Memory := by kernel_rfl
theorem g84 : FnOk Try.prog tab prog (84, 213) := FnOk.of (by kernel_rfl) (by kernel_rfl) Try.func84 c84

theorem c57 : comp Try.prog tab F.plan_Right.closed F.plan_Right_hs Try.f57 = some F.plan_Right := by kernel_rfl
theorem g57 : FnOk Try.prog tab prog (57, 263) := FnOk.of (by kernel_rfl) (by kernel_rfl) Try.func57 c57

theorem c85 : comp Try.prog tab F.collect_Collect_begin.closed F.collect_Collect_begin_hs Try.f85 = some F.collect_Collect_begin := by kernel_rfl
theorem g85 : FnOk Try.prog tab prog (85, 351) := FnOk.of (by kernel_rfl) (by kernel_rfl) Try.func85 c85

theorem c86 : comp Try.prog tab F.epoch_Advance_Step.closed F.epoch_Advance_Step_hs Try.f86 = some F.epoch_Advance_Step := by kernel_rfl
theorem g86 : FnOk Try.prog tab prog (86, 352) := FnOk.of (by kernel_rfl) (by kernel_rfl) Try.func86 c86

theorem c65 : comp Try.prog tab F.mem_Of.closed F.mem_Of_hs Try.f65 = some F.mem_Of := by kernel_rfl
theorem g65 : FnOk Try.prog tab prog (65, 198) := FnOk.of (by kernel_rfl) (by kernel_rfl) Try.func65 c65

theorem c112 : comp Try.prog tab F.plan_Size.closed F.plan_Size_hs Try.f112 = some F.plan_Size := by kernel_rfl
theorem g112 : FnOk Try.prog tab prog (112, 264) := FnOk.of (by kernel_rfl) (by kernel_rfl) Try.func112 c112

theorem c130 : comp Try.prog tab F.plan_Link.closed F.plan_Link_hs Try.f130 = some F.plan_Link := by kernel_rfl
theorem g130 : FnOk Try.prog tab prog (130, 293) := FnOk.of (by kernel_rfl) (by kernel_rfl) Try.func130 c130

theorem c129 : comp Try.prog tab F.tag_Top.closed F.tag_Top_hs Try.f129 = some F.tag_Top := by kernel_rfl
theorem g129 : FnOk Try.prog tab prog (129, 350) := FnOk.of (by kernel_rfl) (by kernel_rfl) Try.func129 c129

theorem c92 : comp Try.prog tab F.plan_between.closed F.plan_between_hs Try.f92 = some F.plan_between := by kernel_rfl
theorem g92 : FnOk Try.prog tab prog (92, 376) := FnOk.of (by kernel_rfl) (by kernel_rfl) Try.func92 c92

theorem c25 : comp Try.prog tab F.mark_NewMark.closed F.mark_NewMark_hs Try.f25 = some F.mark_NewMark := by kernel_rfl
theorem g25 : FnOk Try.prog tab prog (25, 158) := FnOk.of (by kernel_rfl) (by kernel_rfl) Try.func25 c25

theorem c34 : comp Try.prog tab F.sweep_NewSweep.closed F.sweep_NewSweep_hs Try.f34 = some F.sweep_NewSweep := by kernel_rfl
theorem g34 : FnOk Try.prog tab prog (34, 188) := FnOk.of (by kernel_rfl) (by kernel_rfl) Try.func34 c34

theorem c35 : comp Try.prog tab F.sweep_NewReclaim.closed F.sweep_NewReclaim_hs Try.f35 = some F.sweep_NewReclaim := by kernel_rfl
theorem g35 : FnOk Try.prog tab prog (35, 189) := FnOk.of (by kernel_rfl) (by kernel_rfl) Try.func35 c35

theorem c131 : comp Try.prog tab F.epoch_NewAdvance.closed F.epoch_NewAdvance_hs Try.f131 = some F.epoch_NewAdvance := by kernel_rfl
theorem g131 : FnOk Try.prog tab prog (131, 415) := FnOk.of (by kernel_rfl) (by kernel_rfl) Try.func131 c131

theorem c26 : comp Try.prog tab F.mark_Mark_Step.closed F.mark_Mark_Step_hs Try.f26 = some F.mark_Mark_Step := by kernel_rfl
theorem g26 : FnOk Try.prog tab prog (26, 159) := FnOk.of (by kernel_rfl) (by kernel_rfl) Try.func26 c26

theorem c36 : comp Try.prog tab F.sweep_Sweep_Step.closed F.sweep_Sweep_Step_hs Try.f36 = some F.sweep_Sweep_Step := by kernel_rfl
theorem g36 : FnOk Try.prog tab prog (36, 190) := FnOk.of (by kernel_rfl) (by kernel_rfl) Try.func36 c36

theorem c37 : comp Try.prog tab F.sweep_Reclaim_Step.closed F.sweep_Reclaim_Step_hs Try.f37 = some F.sweep_Reclaim_Step := by kernel_rfl
theorem g37 : FnOk Try.prog tab prog (37, 191) := FnOk.of (by kernel_rfl) (by kernel_rfl) Try.func37 c37

theorem c46 : comp Try.prog tab F.mem_Mem_Load.closed F.mem_Mem_Load_hs Try.f46 = some F.mem_Mem_Load := by kernel_rfl
theorem g46 : FnOk Try.prog tab prog (46, 266) := FnOk.of (by kernel_rfl) (by kernel_rfl) Try.func46 c46

theorem c54 : comp Try.prog tab F.mem_Mem_Swap.closed F.mem_Mem_Swap_hs Try.f54 = some F.mem_Mem_Swap := by kernel_rfl
theorem g54 : FnOk Try.prog tab prog (54, 269) := FnOk.of (by kernel_rfl) (by kernel_rfl) Try.func54 c54

theorem c132 : comp Try.prog tab F.plan_Pin.closed F.plan_Pin_hs Try.f132 = some F.plan_Pin := by kernel_rfl
theorem g132 : FnOk Try.prog tab prog (132, 416) := FnOk.of (by kernel_rfl) (by kernel_rfl) Try.func132 c132

theorem c133 : comp Try.prog tab F.epoch_pinned.closed F.epoch_pinned_hs Try.f133 = some F.epoch_pinned := by kernel_rfl
theorem g133 : FnOk Try.prog tab prog (133, 417) := FnOk.of (by kernel_rfl) (by kernel_rfl) Try.func133 c133

theorem c111 : comp Try.prog tab F.slices_Clone___uint64_uint64_.closed F.slices_Clone___uint64_uint64__hs Try.f111 = some F.slices_Clone___uint64_uint64_ := by kernel_rfl
theorem g111 : FnOk Try.prog tab prog (111, 271) := FnOk.of (by kernel_rfl) (by kernel_rfl) Try.func111 c111

theorem c136 : comp Try.prog tab F.plan_slots.closed F.plan_slots_hs Try.f136 = some F.plan_slots := by kernel_rfl
theorem g136 : FnOk Try.prog tab prog (136, 377) := FnOk.of (by kernel_rfl) (by kernel_rfl) Try.func136 c136

theorem c135 : comp Try.prog tab F.plan_room.closed F.plan_room_hs Try.f135 = some F.plan_room := by kernel_rfl
theorem g135 : FnOk Try.prog tab prog (135, 378) := FnOk.of (by kernel_rfl) (by kernel_rfl) Try.func135 c135

theorem c89 : comp Try.prog tab F.plan_within.closed F.plan_within_hs Try.f89 = some F.plan_within := by kernel_rfl
theorem g89 : FnOk Try.prog tab prog (89, 375) := FnOk.of (by kernel_rfl) (by kernel_rfl) Try.func89 c89

theorem c153 : comp Try.prog tab F.tag_tagged.closed F.tag_tagged_hs Try.f153 = some F.tag_tagged := by kernel_rfl
theorem g153 : FnOk Try.prog tab prog (153, 414) := FnOk.of (by kernel_rfl) (by kernel_rfl) Try.func153 c153

theorem c53 : comp Try.prog tab F.shade_Shade_Step.closed F.shade_Shade_Step_hs Try.f53 = some F.shade_Shade_Step := by kernel_rfl
theorem g53 : FnOk Try.prog tab prog (53, 91) := FnOk.of (by kernel_rfl) (by kernel_rfl) Try.func53 c53

theorem c61 : comp Try.prog tab F.mark_Mark_roots.closed F.mark_Mark_roots_hs Try.f61 = some F.mark_Mark_roots := by kernel_rfl
theorem g61 : FnOk Try.prog tab prog (61, 325) := FnOk.of (by kernel_rfl) (by kernel_rfl) Try.func61 c61

theorem c62 : comp Try.prog tab F.mark_Mark_pass.closed F.mark_Mark_pass_hs Try.f62 = some F.mark_Mark_pass := by kernel_rfl
theorem g62 : FnOk Try.prog tab prog (62, 326) := FnOk.of (by kernel_rfl) (by kernel_rfl) Try.func62 c62

theorem c63 : comp Try.prog tab F.mark_Mark_through.closed F.mark_Mark_through_hs Try.f63 = some F.mark_Mark_through := by kernel_rfl
theorem g63 : FnOk Try.prog tab prog (63, 327) := FnOk.of (by kernel_rfl) (by kernel_rfl) Try.func63 c63

theorem c56 : comp Try.prog tab F.plan_Header.closed F.plan_Header_hs Try.f56 = some F.plan_Header := by kernel_rfl
theorem g56 : FnOk Try.prog tab prog (56, 261) := FnOk.of (by kernel_rfl) (by kernel_rfl) Try.func56 c56

theorem c79 : comp Try.prog tab F.head_Retired.closed F.head_Retired_hs Try.f79 = some F.head_Retired := by kernel_rfl
theorem g79 : FnOk Try.prog tab prog (79, 340) := FnOk.of (by kernel_rfl) (by kernel_rfl) Try.func79 c79

theorem c71 : comp Try.prog tab F.head_Unpack.closed F.head_Unpack_hs Try.f71 = some F.head_Unpack := by kernel_rfl
theorem g71 : FnOk Try.prog tab prog (71, 265) := FnOk.of (by kernel_rfl) (by kernel_rfl) Try.func71 c71

theorem c80 : comp Try.prog tab F.arena_NewFree.closed F.arena_NewFree_hs Try.f80 = some F.arena_NewFree := by kernel_rfl
theorem g80 : FnOk Try.prog tab prog (80, 341) := FnOk.of (by kernel_rfl) (by kernel_rfl) Try.func80 c80

theorem c81 : comp Try.prog tab F.arena_Free_Step.closed F.arena_Free_Step_hs Try.f81 = some F.arena_Free_Step := by kernel_rfl
theorem g81 : FnOk Try.prog tab prog (81, 342) := FnOk.of (by kernel_rfl) (by kernel_rfl) Try.func81 c81

theorem c87 : comp Try.prog tab F.mem_Mem_there.closed F.mem_Mem_there_hs Try.f87 = some F.mem_Mem_there := by kernel_rfl
theorem g87 : FnOk Try.prog tab prog (87, 346) := FnOk.of (by kernel_rfl) (by kernel_rfl) Try.func87 c87

theorem c88 : comp Try.prog tab F.mem_Mem_touch.closed F.mem_Mem_touch_hs Try.f88 = some F.mem_Mem_touch := by kernel_rfl
theorem g88 : FnOk Try.prog tab prog (88, 347) := FnOk.of (by kernel_rfl) (by kernel_rfl) Try.func88 c88

theorem c140 : comp Try.prog tab F.plan_place.closed F.plan_place_hs Try.f140 = some F.plan_place := by kernel_rfl
theorem g140 : FnOk Try.prog tab prog (140, 397) := FnOk.of (by kernel_rfl) (by kernel_rfl) Try.func140 c140

theorem c148 : comp Try.prog tab F.word_Pack.closed F.word_Pack_hs Try.f148 = some F.word_Pack := by kernel_rfl
theorem g148 : FnOk Try.prog tab prog (148, 443) := FnOk.of (by kernel_rfl) (by kernel_rfl) Try.func148 c148

theorem c157 : comp Try.prog tab F.tag_slots.closed F.tag_slots_hs Try.f157 = some F.tag_slots := by kernel_rfl
theorem g157 : FnOk Try.prog tab prog (157, 462) := FnOk.of (by kernel_rfl) (by kernel_rfl) Try.func157 c157

theorem c90 : comp Try.prog tab F.head_Shaded.closed F.head_Shaded_hs Try.f90 = some F.head_Shaded := by kernel_rfl
theorem g90 : FnOk Try.prog tab prog (90, 267) := FnOk.of (by kernel_rfl) (by kernel_rfl) Try.func90 c90

theorem c91 : comp Try.prog tab F.mem_Mem_Add.closed F.mem_Mem_Add_hs Try.f91 = some F.mem_Mem_Add := by kernel_rfl
theorem g91 : FnOk Try.prog tab prog (91, 268) := FnOk.of (by kernel_rfl) (by kernel_rfl) Try.func91 c91

theorem c103 : comp Try.prog tab F.tag_EntryParts.closed F.tag_EntryParts_hs Try.f103 = some F.tag_EntryParts := by kernel_rfl
theorem g103 : FnOk Try.prog tab prog (103, 318) := FnOk.of (by kernel_rfl) (by kernel_rfl) Try.func103 c103

theorem c104 : comp Try.prog tab F.plan_Entry.closed F.plan_Entry_hs Try.f104 = some F.plan_Entry := by kernel_rfl
theorem g104 : FnOk Try.prog tab prog (104, 319) := FnOk.of (by kernel_rfl) (by kernel_rfl) Try.func104 c104

theorem c106 : comp Try.prog tab F.mark_Mark_named.closed F.mark_Mark_named_hs Try.f106 = some F.mark_Mark_named := by kernel_rfl
theorem g106 : FnOk Try.prog tab prog (106, 320) := FnOk.of (by kernel_rfl) (by kernel_rfl) Try.func106 c106

theorem c107 : comp Try.prog tab F.plan_Start.closed F.plan_Start_hs Try.f107 = some F.plan_Start := by kernel_rfl
theorem g107 : FnOk Try.prog tab prog (107, 321) := FnOk.of (by kernel_rfl) (by kernel_rfl) Try.func107 c107

theorem c101 : comp Try.prog tab F.plan_View.closed F.plan_View_hs Try.f101 = some F.plan_View := by kernel_rfl
theorem g101 : FnOk Try.prog tab prog (101, 393) := FnOk.of (by kernel_rfl) (by kernel_rfl) Try.func101 c101

theorem c102 : comp Try.prog tab F.mark_Mark_client.closed F.mark_Mark_client_hs Try.f102 = some F.mark_Mark_client := by kernel_rfl
theorem g102 : FnOk Try.prog tab prog (102, 399) := FnOk.of (by kernel_rfl) (by kernel_rfl) Try.func102 c102

theorem c105 : comp Try.prog tab F.mark_Mark_finds.closed F.mark_Mark_finds_hs Try.f105 = some F.mark_Mark_finds := by kernel_rfl
theorem g105 : FnOk Try.prog tab prog (105, 400) := FnOk.of (by kernel_rfl) (by kernel_rfl) Try.func105 c105

theorem c108 : comp Try.prog tab F.mark_Mark_look.closed F.mark_Mark_look_hs Try.f108 = some F.mark_Mark_look := by kernel_rfl
theorem g108 : FnOk Try.prog tab prog (108, 401) := FnOk.of (by kernel_rfl) (by kernel_rfl) Try.func108 c108

theorem c50 : comp Try.prog tab F.mem_Mem_Store.closed F.mem_Mem_Store_hs Try.f50 = some F.mem_Mem_Store := by kernel_rfl
theorem g50 : FnOk Try.prog tab prog (50, 203) := FnOk.of (by kernel_rfl) (by kernel_rfl) Try.func50 c50

theorem c47 : comp Try.prog tab F.plan_Body.closed F.plan_Body_hs Try.f47 = some F.plan_Body := by kernel_rfl
theorem g47 : FnOk Try.prog tab prog (47, 305) := FnOk.of (by kernel_rfl) (by kernel_rfl) Try.func47 c47

theorem c109 : comp Try.prog tab F.head_Blackened.closed F.head_Blackened_hs Try.f109 = some F.head_Blackened := by kernel_rfl
theorem g109 : FnOk Try.prog tab prog (109, 402) := FnOk.of (by kernel_rfl) (by kernel_rfl) Try.func109 c109

theorem c110 : comp Try.prog tab F.mark_Mark_onward.closed F.mark_Mark_onward_hs Try.f110 = some F.mark_Mark_onward := by kernel_rfl
theorem g110 : FnOk Try.prog tab prog (110, 403) := FnOk.of (by kernel_rfl) (by kernel_rfl) Try.func110 c110

theorem c121 : comp Try.prog tab F.head_lives.closed F.head_lives_hs Try.f121 = some F.head_lives := by kernel_rfl
theorem g121 : FnOk Try.prog tab prog (121, 380) := FnOk.of (by kernel_rfl) (by kernel_rfl) Try.func121 c121

theorem c122 : comp Try.prog tab F.turn_Black.closed F.turn_Black_hs Try.f122 = some F.turn_Black := by kernel_rfl
theorem g122 : FnOk Try.prog tab prog (122, 381) := FnOk.of (by kernel_rfl) (by kernel_rfl) Try.func122 c122

theorem c123 : comp Try.prog tab F.head_Pack.closed F.head_Pack_hs Try.f123 = some F.head_Pack := by kernel_rfl
theorem g123 : FnOk Try.prog tab prog (123, 382) := FnOk.of (by kernel_rfl) (by kernel_rfl) Try.func123 c123

theorem c117 : comp Try.prog tab F.word_Unpack.closed F.word_Unpack_hs Try.f117 = some F.word_Unpack := by kernel_rfl
theorem g117 : FnOk Try.prog tab prog (117, 379) := FnOk.of (by kernel_rfl) (by kernel_rfl) Try.func117 c117

theorem c124 : comp Try.prog tab F.head_Freed.closed F.head_Freed_hs Try.f124 = some F.head_Freed := by kernel_rfl
theorem g124 : FnOk Try.prog tab prog (124, 409) := FnOk.of (by kernel_rfl) (by kernel_rfl) Try.func124 c124

theorem c125 : comp Try.prog tab F.stack_NewPush.closed F.stack_NewPush_hs Try.f125 = some F.stack_NewPush := by kernel_rfl
theorem g125 : FnOk Try.prog tab prog (125, 410) := FnOk.of (by kernel_rfl) (by kernel_rfl) Try.func125 c125

theorem c126 : comp Try.prog tab F.stack_Push_Step.closed F.stack_Push_Step_hs Try.f126 = some F.stack_Push_Step := by kernel_rfl
theorem g126 : FnOk Try.prog tab prog (126, 411) := FnOk.of (by kernel_rfl) (by kernel_rfl) Try.func126 c126

theorem c134 : comp Try.prog tab F.mem_Mem_Size.closed F.mem_Mem_Size_hs Try.f134 = some F.mem_Mem_Size := by kernel_rfl
theorem g134 : FnOk Try.prog tab prog (134, 413) := FnOk.of (by kernel_rfl) (by kernel_rfl) Try.func134 c134

theorem c145 : comp Try.prog tab F.word_some.closed F.word_some_hs Try.f145 = some F.word_some := by kernel_rfl
theorem g145 : FnOk Try.prog tab prog (145, 441) := FnOk.of (by kernel_rfl) (by kernel_rfl) Try.func145 c145

theorem c155 : comp Try.prog tab F.word_Fits.closed F.word_Fits_hs Try.f155 = some F.word_Fits := by kernel_rfl
theorem g155 : FnOk Try.prog tab prog (155, 484) := FnOk.of (by kernel_rfl) (by kernel_rfl) Try.func155 c155

theorem c141 : comp Try.prog tab F.word_Get.closed F.word_Get_hs Try.f141 = some F.word_Get := by kernel_rfl
theorem g141 : FnOk Try.prog tab prog (141, 396) := FnOk.of (by kernel_rfl) (by kernel_rfl) Try.func141 c141

theorem c52 : comp Try.prog tab F.shade_NewShade.closed F.shade_NewShade_hs Try.f52 = some F.shade_NewShade := by kernel_rfl
theorem g52 : FnOk Try.prog tab prog (52, 90) := FnOk.of (by kernel_rfl) (by kernel_rfl) Try.func52 c52

theorem c147 : comp Try.prog tab F.turn_Cycle.closed F.turn_Cycle_hs Try.f147 = some F.turn_Cycle := by kernel_rfl
theorem g147 : FnOk Try.prog tab prog (147, 442) := FnOk.of (by kernel_rfl) (by kernel_rfl) Try.func147 c147

theorem c149 : comp Try.prog tab F.head_bit.closed F.head_bit_hs Try.f149 = some F.head_bit := by kernel_rfl
theorem g149 : FnOk Try.prog tab prog (149, 444) := FnOk.of (by kernel_rfl) (by kernel_rfl) Try.func149 c149

theorem c150 : comp Try.prog tab F.stack_first.closed F.stack_first_hs Try.f150 = some F.stack_first := by kernel_rfl
theorem g150 : FnOk Try.prog tab prog (150, 391) := FnOk.of (by kernel_rfl) (by kernel_rfl) Try.func150 c150

theorem c151 : comp Try.prog tab F.tag_Moved.closed F.tag_Moved_hs Try.f151 = some F.tag_Moved := by kernel_rfl
theorem g151 : FnOk Try.prog tab prog (151, 461) := FnOk.of (by kernel_rfl) (by kernel_rfl) Try.func151 c151

theorem c154 : comp Try.prog tab F.word_mask.closed F.word_mask_hs Try.f154 = some F.word_mask := by kernel_rfl
theorem g154 : FnOk Try.prog tab prog (154, 449) := FnOk.of (by kernel_rfl) (by kernel_rfl) Try.func154 c154

theorem c156 : comp Try.prog tab F.tag_TopParts.closed F.tag_TopParts_hs Try.f156 = some F.tag_TopParts := by kernel_rfl
theorem g156 : FnOk Try.prog tab prog (156, 447) := FnOk.of (by kernel_rfl) (by kernel_rfl) Try.func156 c156

theorem progOk : ProgOk Try.prog tab prog := ProgOk.of_fn (l := tab.fn) rfl (by
  unfold tab
  exact List.forall_mem_cons.mpr ⟨g8, List.forall_mem_cons.mpr ⟨g7, List.forall_mem_cons.mpr ⟨g10, List.forall_mem_cons.mpr ⟨g41, List.forall_mem_cons.mpr ⟨g42, List.forall_mem_cons.mpr ⟨g43, List.forall_mem_cons.mpr ⟨g39, List.forall_mem_cons.mpr ⟨g40, List.forall_mem_cons.mpr ⟨g84, List.forall_mem_cons.mpr ⟨g57, List.forall_mem_cons.mpr ⟨g85, List.forall_mem_cons.mpr ⟨g86, List.forall_mem_cons.mpr ⟨g65, List.forall_mem_cons.mpr ⟨g112, List.forall_mem_cons.mpr ⟨g130, List.forall_mem_cons.mpr ⟨g129, List.forall_mem_cons.mpr ⟨g92, List.forall_mem_cons.mpr ⟨g25, List.forall_mem_cons.mpr ⟨g34, List.forall_mem_cons.mpr ⟨g35, List.forall_mem_cons.mpr ⟨g131, List.forall_mem_cons.mpr ⟨g26, List.forall_mem_cons.mpr ⟨g36, List.forall_mem_cons.mpr ⟨g37, List.forall_mem_cons.mpr ⟨g46, List.forall_mem_cons.mpr ⟨g54, List.forall_mem_cons.mpr ⟨g132, List.forall_mem_cons.mpr ⟨g133, List.forall_mem_cons.mpr ⟨g111, List.forall_mem_cons.mpr ⟨g136, List.forall_mem_cons.mpr ⟨g135, List.forall_mem_cons.mpr ⟨g89, List.forall_mem_cons.mpr ⟨g153, List.forall_mem_cons.mpr ⟨g53, List.forall_mem_cons.mpr ⟨g61, List.forall_mem_cons.mpr ⟨g62, List.forall_mem_cons.mpr ⟨g63, List.forall_mem_cons.mpr ⟨g56, List.forall_mem_cons.mpr ⟨g79, List.forall_mem_cons.mpr ⟨g71, List.forall_mem_cons.mpr ⟨g80, List.forall_mem_cons.mpr ⟨g81, List.forall_mem_cons.mpr ⟨g87, List.forall_mem_cons.mpr ⟨g88, List.forall_mem_cons.mpr ⟨g140, List.forall_mem_cons.mpr ⟨g148, List.forall_mem_cons.mpr ⟨g157, List.forall_mem_cons.mpr ⟨g90, List.forall_mem_cons.mpr ⟨g91, List.forall_mem_cons.mpr ⟨g103, List.forall_mem_cons.mpr ⟨g104, List.forall_mem_cons.mpr ⟨g106, List.forall_mem_cons.mpr ⟨g107, List.forall_mem_cons.mpr ⟨g101, List.forall_mem_cons.mpr ⟨g102, List.forall_mem_cons.mpr ⟨g105, List.forall_mem_cons.mpr ⟨g108, List.forall_mem_cons.mpr ⟨g50, List.forall_mem_cons.mpr ⟨g47, List.forall_mem_cons.mpr ⟨g109, List.forall_mem_cons.mpr ⟨g110, List.forall_mem_cons.mpr ⟨g121, List.forall_mem_cons.mpr ⟨g122, List.forall_mem_cons.mpr ⟨g123, List.forall_mem_cons.mpr ⟨g117, List.forall_mem_cons.mpr ⟨g124, List.forall_mem_cons.mpr ⟨g125, List.forall_mem_cons.mpr ⟨g126, List.forall_mem_cons.mpr ⟨g134, List.forall_mem_cons.mpr ⟨g145, List.forall_mem_cons.mpr ⟨g155, List.forall_mem_cons.mpr ⟨g141, List.forall_mem_cons.mpr ⟨g52, List.forall_mem_cons.mpr ⟨g147, List.forall_mem_cons.mpr ⟨g149, List.forall_mem_cons.mpr ⟨g150, List.forall_mem_cons.mpr ⟨g151, List.forall_mem_cons.mpr ⟨g154, List.forall_mem_cons.mpr ⟨g156, List.forall_mem_nil _⟩⟩⟩⟩⟩⟩⟩⟩⟩⟩⟩⟩⟩⟩⟩⟩⟩⟩⟩⟩⟩⟩⟩⟩⟩⟩⟩⟩⟩⟩⟩⟩⟩⟩⟩⟩⟩⟩⟩⟩⟩⟩⟩⟩⟩⟩⟩⟩⟩⟩⟩⟩⟩⟩⟩⟩⟩⟩⟩⟩⟩⟩⟩⟩⟩⟩⟩⟩⟩⟩⟩⟩⟩⟩⟩⟩⟩⟩⟩)

theorem m52 (v : Value) (w : World) : (Go.method (Try.prog.types.size + Go.Made.depth) 52 v "Step").run Try.prog w = .ok (37, v) w := by kernel_rfl
theorem m51 (v : Value) (w : World) : (Go.method (Try.prog.types.size + Go.Made.depth) 51 v "Step").run Try.prog w = .ok (36, v) w := by kernel_rfl
theorem m44 (v : Value) (w : World) : (Go.method (Try.prog.types.size + Go.Made.depth) 44 v "Step").run Try.prog w = .ok (26, v) w := by kernel_rfl
theorem methOk : MethOk Try.prog tab meth := MethOk.of (n := "Step") (i := 0) rfl (by
  unfold tab
  exact List.forall_mem_cons.mpr ⟨(fun f hf => by
    have e : some 159 = some f := hf
    cases e
    exact ⟨26, by kernel_rfl, m44⟩), List.forall_mem_cons.mpr ⟨(fun f hf => by
    have e : some 190 = some f := hf
    cases e
    exact ⟨36, by kernel_rfl, m51⟩), List.forall_mem_cons.mpr ⟨(fun f hf => by
    have e : some 191 = some f := hf
    cases e
    exact ⟨37, by kernel_rfl, m52⟩), List.forall_mem_nil _⟩⟩⟩)

theorem callOk : CallOk Try.prog tab C := callW_ok (by kernel_rfl) progOk methOk
end Wm.Seat
