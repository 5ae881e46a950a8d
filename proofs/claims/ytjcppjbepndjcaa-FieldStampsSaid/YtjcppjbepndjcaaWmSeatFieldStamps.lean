/- How the seat's functions are those of my table. -/
import Derived.Test.YtjcppjbepndjcaaChecked
import Derived.Test.YtjcppjbepndjcaaWmProgFieldStamps
import Derived.Test.YtjcppjbepndjcaaWmMeth
set_option linter.all false
namespace Wm.Seat
open Wm Go Go.Proofs

def tab : Tab := { fn := [(8, 24), (40, 94), (26, 125), (27, 126), (32, 131), (35, 144), (36, 145), (41, 150), (39, 151), (42, 152), (101, 271), (79, 299), (80, 300), (82, 86), (83, 111), (85, 148), (84, 198), (81, 301), (93, 108), (60, 263), (100, 153), (89, 266), (99, 269), (90, 305), (94, 261), (142, 107), (29, 128), (34, 133), (141, 394), (143, 395), (30, 129), (116, 87), (115, 85), (136, 376), (144, 346), (145, 347), (146, 375), (87, 303), (88, 304), (91, 306), (97, 90), (98, 91), (92, 203), (95, 307), (96, 308), (28, 127), (31, 130), (33, 132), (164, 448), (37, 146), (38, 147), (125, 149), (165, 413), (149, 377), (150, 378), (108, 267), (147, 268), (86, 302), (151, 380), (152, 381), (153, 382), (109, 265), (169, 442), (170, 443), (171, 444), (154, 379), (172, 441), (194, 484), (155, 396), (173, 449), (192, 402), (110, 317), (112, 319), (106, 264), (114, 321), (188, 393), (156, 397), (127, 110), (122, 112), (119, 113), (124, 202), (117, 109), (47, 92), (123, 270)], ty := [], meth := [] }

theorem c8 : comp Try.prog tab F.withylaw10_FieldStamps.closed F.withylaw10_FieldStamps_hs Try.f8 = some F.withylaw10_FieldStamps := by kernel_rfl
theorem g8 : FnOk Try.prog tab prog (8, 24) := FnOk.of (by kernel_rfl) (by kernel_rfl) Try.func8 c8

theorem c40 : comp Try.prog tab F.mem_Mem_Words.closed F.mem_Mem_Words_hs Try.f40 = some F.mem_Mem_Words := by kernel_rfl
theorem g40 : FnOk Try.prog tab prog (40, 94) := FnOk.of (by kernel_rfl) (by kernel_rfl) Try.func40 c40

theorem c26 : comp Try.prog tab F.withylaw10_awake.closed F.withylaw10_awake_hs Try.f26 = some F.withylaw10_awake := by kernel_rfl
theorem g26 : FnOk Try.prog tab prog (26, 125) := FnOk.of (by kernel_rfl) (by kernel_rfl) Try.func26 c26

theorem c27 : comp Try.prog tab F.withylaw10_begin.closed F.withylaw10_begin_hs Try.f27 = some F.withylaw10_begin := by kernel_rfl
theorem g27 : FnOk Try.prog tab prog (27, 126) := FnOk.of (by kernel_rfl) (by kernel_rfl) Try.func27 c27

theorem c32 : comp Try.prog tab F.withylaw10_at.closed F.withylaw10_at_hs Try.f32 = some F.withylaw10_at := by kernel_rfl
theorem g32 : FnOk Try.prog tab prog (32, 131) := FnOk.of (by kernel_rfl) (by kernel_rfl) Try.func32 c32

theorem c35 : comp Try.prog tab F.field_NewTurn.closed F.field_NewTurn_hs Try.f35 = some F.field_NewTurn := by kernel_rfl
theorem g35 : FnOk Try.prog tab prog (35, 144) := FnOk.of (by kernel_rfl) (by kernel_rfl) Try.func35 c35

theorem c36 : comp Try.prog tab F.field_Turn_Step.closed F.field_Turn_Step_hs Try.f36 = some F.field_Turn_Step := by kernel_rfl
theorem g36 : FnOk Try.prog tab prog (36, 145) := FnOk.of (by kernel_rfl) (by kernel_rfl) Try.func36 c36

theorem c41 : comp Try.prog tab F.field_Stamp_Step.closed F.field_Stamp_Step_hs Try.f41 = some F.field_Stamp_Step := by kernel_rfl
theorem g41 : FnOk Try.prog tab prog (41, 150) := FnOk.of (by kernel_rfl) (by kernel_rfl) Try.func41 c41

theorem c39 : comp Try.prog tab F.field_NewStamp.closed F.field_NewStamp_hs Try.f39 = some F.field_NewStamp := by kernel_rfl
theorem g39 : FnOk Try.prog tab prog (39, 151) := FnOk.of (by kernel_rfl) (by kernel_rfl) Try.func39 c39

theorem c42 : comp Try.prog tab F.field_Book_Born.closed F.field_Book_Born_hs Try.f42 = some F.field_Book_Born := by kernel_rfl
theorem g42 : FnOk Try.prog tab prog (42, 152) := FnOk.of (by kernel_rfl) (by kernel_rfl) Try.func42 c42

theorem c101 : comp Try.prog tab F.slices_Clone___uint64_uint64_.closed F.slices_Clone___uint64_uint64__hs Try.f101 = some F.slices_Clone___uint64_uint64_ := by kernel_rfl
theorem g101 : FnOk Try.prog tab prog (101, 271) := FnOk.of (by kernel_rfl) (by kernel_rfl) Try.func101 c101

theorem c79 : comp Try.prog tab F.withylaw10_hand_step.closed F.withylaw10_hand_step_hs Try.f79 = some F.withylaw10_hand_step := by kernel_rfl
theorem g79 : FnOk Try.prog tab prog (79, 299) := FnOk.of (by kernel_rfl) (by kernel_rfl) Try.func79 c79

theorem c80 : comp Try.prog tab F.withylaw10_world_right.closed F.withylaw10_world_right_hs Try.f80 = some F.withylaw10_world_right := by kernel_rfl
theorem g80 : FnOk Try.prog tab prog (80, 300) := FnOk.of (by kernel_rfl) (by kernel_rfl) Try.func80 c80

theorem c82 : comp Try.prog tab F.withyref06_Memory.closed F.withyref06_Memory_hs Try.f82 = some F.withyref06_Memory := by kernel_rfl
theorem g82 : FnOk Try.prog tab prog (82, 86) := FnOk.of (by kernel_rfl) (by kernel_rfl) Try.func82 c82

theorem c83 : comp Try.prog tab F.withyref04_Pack.closed F.withyref04_Pack_hs Try.f83 = some F.withyref04_Pack := by kernel_rfl
theorem g83 : FnOk Try.prog tab prog (83, 111) := FnOk.of (by kernel_rfl) (by kernel_rfl) Try.func83 c83

theorem c85 : comp Try.prog tab F.field_NewBook.closed F.field_NewBook_hs Try.f85 = some F.field_NewBook := by kernel_rfl
theorem g85 : FnOk Try.prog tab prog (85, 148) := FnOk.of (by kernel_rfl) (by kernel_rfl) Try.func85 c85

theorem c84 : comp Try.prog tab F.mem_Of.closed F.mem_Of_hs Try.f84 = some F.mem_Of := by kernel_rfl
theorem g84 : FnOk Try.prog tab prog (84, 198) := FnOk.of (by kernel_rfl) (by kernel_rfl) Try.func84 c84

theorem c81 : comp Try.prog tab F.withylaw10_config.closed F.withylaw10_config_hs Try.f81 = some F.withylaw10_config := by kernel_rfl
theorem g81 : FnOk Try.prog tab prog (81, 301) := FnOk.of (by kernel_rfl) (by kernel_rfl) Try.func81 c81

theorem c93 : comp Try.prog tab F.withyref06_At.closed F.withyref06_At_hs Try.f93 = some F.withyref06_At := by kernel_rfl
theorem g93 : FnOk Try.prog tab prog (93, 108) := FnOk.of (by kernel_rfl) (by kernel_rfl) Try.func93 c93

theorem c60 : comp Try.prog tab F.plan_Right.closed F.plan_Right_hs Try.f60 = some F.plan_Right := by kernel_rfl
theorem g60 : FnOk Try.prog tab prog (60, 263) := FnOk.of (by kernel_rfl) (by kernel_rfl) Try.func60 c60

theorem c100 : comp Try.prog tab F.field_Book_Turned.closed F.field_Book_Turned_hs Try.f100 = some F.field_Book_Turned := by kernel_rfl
theorem g100 : FnOk Try.prog tab prog (100, 153) := FnOk.of (by kernel_rfl) (by kernel_rfl) Try.func100 c100

theorem c89 : comp Try.prog tab F.mem_Mem_Load.closed F.mem_Mem_Load_hs Try.f89 = some F.mem_Mem_Load := by kernel_rfl
theorem g89 : FnOk Try.prog tab prog (89, 266) := FnOk.of (by kernel_rfl) (by kernel_rfl) Try.func89 c89

theorem c99 : comp Try.prog tab F.mem_Mem_Swap.closed F.mem_Mem_Swap_hs Try.f99 = some F.mem_Mem_Swap := by kernel_rfl
theorem g99 : FnOk Try.prog tab prog (99, 269) := FnOk.of (by kernel_rfl) (by kernel_rfl) Try.func99 c99

theorem c90 : comp Try.prog tab F.plan_Body.closed F.plan_Body_hs Try.f90 = some F.plan_Body := by kernel_rfl
theorem g90 : FnOk Try.prog tab prog (90, 305) := FnOk.of (by kernel_rfl) (by kernel_rfl) Try.func90 c90

theorem c94 : comp Try.prog tab F.plan_Header.closed F.plan_Header_hs Try.f94 = some F.plan_Header := by kernel_rfl
theorem g94 : FnOk Try.prog tab prog (94, 261) := FnOk.of (by kernel_rfl) (by kernel_rfl) Try.func94 c94

theorem c142 : comp Try.prog tab F.mem_Mem_Touches.closed F.mem_Mem_Touches_hs Try.f142 = some F.mem_Mem_Touches := by kernel_rfl
theorem g142 : FnOk Try.prog tab prog (142, 107) := FnOk.of (by kernel_rfl) (by kernel_rfl) Try.func142 c142

theorem c29 : comp Try.prog tab F.field_Read_Step.closed F.field_Read_Step_hs Try.f29 = some F.field_Read_Step := by kernel_rfl
theorem g29 : FnOk Try.prog tab prog (29, 128) := FnOk.of (by kernel_rfl) (by kernel_rfl) Try.func29 c29

theorem c34 : comp Try.prog tab F.field_Lay_Step.closed F.field_Lay_Step_hs Try.f34 = some F.field_Lay_Step := by kernel_rfl
theorem g34 : FnOk Try.prog tab prog (34, 133) := FnOk.of (by kernel_rfl) (by kernel_rfl) Try.func34 c34

theorem c141 : comp Try.prog tab F.withylaw10_hand_begins.closed F.withylaw10_hand_begins_hs Try.f141 = some F.withylaw10_hand_begins := by kernel_rfl
theorem g141 : FnOk Try.prog tab prog (141, 394) := FnOk.of (by kernel_rfl) (by kernel_rfl) Try.func141 c141

theorem c143 : comp Try.prog tab F.withylaw10_hand_sees.closed F.withylaw10_hand_sees_hs Try.f143 = some F.withylaw10_hand_sees := by kernel_rfl
theorem g143 : FnOk Try.prog tab prog (143, 395) := FnOk.of (by kernel_rfl) (by kernel_rfl) Try.func143 c143

theorem c30 : comp Try.prog tab F.withylaw10_slot.closed F.withylaw10_slot_hs Try.f30 = some F.withylaw10_slot := by kernel_rfl
theorem g30 : FnOk Try.prog tab prog (30, 129) := FnOk.of (by kernel_rfl) (by kernel_rfl) Try.func30 c30

theorem c116 : comp Try.prog tab F.withyref06_Words.closed F.withyref06_Words_hs Try.f116 = some F.withyref06_Words := by kernel_rfl
theorem g116 : FnOk Try.prog tab prog (116, 87) := FnOk.of (by kernel_rfl) (by kernel_rfl) Try.func116 c116

theorem c115 : comp Try.prog tab F.withyref06_Right.closed F.withyref06_Right_hs Try.f115 = some F.withyref06_Right := by kernel_rfl
theorem g115 : FnOk Try.prog tab prog (115, 85) := FnOk.of (by kernel_rfl) (by kernel_rfl) Try.func115 c115

theorem c136 : comp Try.prog tab F.plan_between.closed F.plan_between_hs Try.f136 = some F.plan_between := by kernel_rfl
theorem g136 : FnOk Try.prog tab prog (136, 376) := FnOk.of (by kernel_rfl) (by kernel_rfl) Try.func136 c136

theorem c144 : comp Try.prog tab F.mem_Mem_there.closed F.mem_Mem_there_hs Try.f144 = some F.mem_Mem_there := by kernel_rfl
theorem g144 : FnOk Try.prog tab prog (144, 346) := FnOk.of (by kernel_rfl) (by kernel_rfl) Try.func144 c144

theorem c145 : comp Try.prog tab F.mem_Mem_touch.closed F.mem_Mem_touch_hs Try.f145 = some F.mem_Mem_touch := by kernel_rfl
theorem g145 : FnOk Try.prog tab prog (145, 347) := FnOk.of (by kernel_rfl) (by kernel_rfl) Try.func145 c145

theorem c146 : comp Try.prog tab F.plan_within.closed F.plan_within_hs Try.f146 = some F.plan_within := by kernel_rfl
theorem g146 : FnOk Try.prog tab prog (146, 375) := FnOk.of (by kernel_rfl) (by kernel_rfl) Try.func146 c146

theorem c87 : comp Try.prog tab F.field_newest_step.closed F.field_newest_step_hs Try.f87 = some F.field_newest_step := by kernel_rfl
theorem g87 : FnOk Try.prog tab prog (87, 303) := FnOk.of (by kernel_rfl) (by kernel_rfl) Try.func87 c87

theorem c88 : comp Try.prog tab F.field_named.closed F.field_named_hs Try.f88 = some F.field_named := by kernel_rfl
theorem g88 : FnOk Try.prog tab prog (88, 304) := FnOk.of (by kernel_rfl) (by kernel_rfl) Try.func88 c88

theorem c91 : comp Try.prog tab F.field_newest_point.closed F.field_newest_point_hs Try.f91 = some F.field_newest_point := by kernel_rfl
theorem g91 : FnOk Try.prog tab prog (91, 306) := FnOk.of (by kernel_rfl) (by kernel_rfl) Try.func91 c91

theorem c97 : comp Try.prog tab F.shade_NewShade.closed F.shade_NewShade_hs Try.f97 = some F.shade_NewShade := by kernel_rfl
theorem g97 : FnOk Try.prog tab prog (97, 90) := FnOk.of (by kernel_rfl) (by kernel_rfl) Try.func97 c97

theorem c98 : comp Try.prog tab F.shade_Shade_Step.closed F.shade_Shade_Step_hs Try.f98 = some F.shade_Shade_Step := by kernel_rfl
theorem g98 : FnOk Try.prog tab prog (98, 91) := FnOk.of (by kernel_rfl) (by kernel_rfl) Try.func98 c98

theorem c92 : comp Try.prog tab F.mem_Mem_Store.closed F.mem_Mem_Store_hs Try.f92 = some F.mem_Mem_Store := by kernel_rfl
theorem g92 : FnOk Try.prog tab prog (92, 203) := FnOk.of (by kernel_rfl) (by kernel_rfl) Try.func92 c92

theorem c95 : comp Try.prog tab F.field_Lay_refuse.closed F.field_Lay_refuse_hs Try.f95 = some F.field_Lay_refuse := by kernel_rfl
theorem g95 : FnOk Try.prog tab prog (95, 307) := FnOk.of (by kernel_rfl) (by kernel_rfl) Try.func95 c95

theorem c96 : comp Try.prog tab F.turn_Fenced.closed F.turn_Fenced_hs Try.f96 = some F.turn_Fenced := by kernel_rfl
theorem g96 : FnOk Try.prog tab prog (96, 308) := FnOk.of (by kernel_rfl) (by kernel_rfl) Try.func96 c96

theorem c28 : comp Try.prog tab F.field_NewRead.closed F.field_NewRead_hs Try.f28 = some F.field_NewRead := by kernel_rfl
theorem g28 : FnOk Try.prog tab prog (28, 127) := FnOk.of (by kernel_rfl) (by kernel_rfl) Try.func28 c28

theorem c31 : comp Try.prog tab F.withylaw10_laid.closed F.withylaw10_laid_hs Try.f31 = some F.withylaw10_laid := by kernel_rfl
theorem g31 : FnOk Try.prog tab prog (31, 130) := FnOk.of (by kernel_rfl) (by kernel_rfl) Try.func31 c31

theorem c33 : comp Try.prog tab F.field_NewLay.closed F.field_NewLay_hs Try.f33 = some F.field_NewLay := by kernel_rfl
theorem g33 : FnOk Try.prog tab prog (33, 132) := FnOk.of (by kernel_rfl) (by kernel_rfl) Try.func33 c33

theorem c164 : comp Try.prog tab F.withylaw10_pick.closed F.withylaw10_pick_hs Try.f164 = some F.withylaw10_pick := by kernel_rfl
theorem g164 : FnOk Try.prog tab prog (164, 448) := FnOk.of (by kernel_rfl) (by kernel_rfl) Try.func164 c164

theorem c37 : comp Try.prog tab F.field_NewSee.closed F.field_NewSee_hs Try.f37 = some F.field_NewSee := by kernel_rfl
theorem g37 : FnOk Try.prog tab prog (37, 146) := FnOk.of (by kernel_rfl) (by kernel_rfl) Try.func37 c37

theorem c38 : comp Try.prog tab F.field_See_Step.closed F.field_See_Step_hs Try.f38 = some F.field_See_Step := by kernel_rfl
theorem g38 : FnOk Try.prog tab prog (38, 147) := FnOk.of (by kernel_rfl) (by kernel_rfl) Try.func38 c38

theorem c125 : comp Try.prog tab F.withyref06_Room.closed F.withyref06_Room_hs Try.f125 = some F.withyref06_Room := by kernel_rfl
theorem g125 : FnOk Try.prog tab prog (125, 149) := FnOk.of (by kernel_rfl) (by kernel_rfl) Try.func125 c125

theorem c165 : comp Try.prog tab F.mem_Mem_Size.closed F.mem_Mem_Size_hs Try.f165 = some F.mem_Mem_Size := by kernel_rfl
theorem g165 : FnOk Try.prog tab prog (165, 413) := FnOk.of (by kernel_rfl) (by kernel_rfl) Try.func165 c165

theorem c149 : comp Try.prog tab F.plan_slots.closed F.plan_slots_hs Try.f149 = some F.plan_slots := by kernel_rfl
theorem g149 : FnOk Try.prog tab prog (149, 377) := FnOk.of (by kernel_rfl) (by kernel_rfl) Try.func149 c149

theorem c150 : comp Try.prog tab F.plan_room.closed F.plan_room_hs Try.f150 = some F.plan_room := by kernel_rfl
theorem g150 : FnOk Try.prog tab prog (150, 378) := FnOk.of (by kernel_rfl) (by kernel_rfl) Try.func150 c150

theorem c108 : comp Try.prog tab F.head_Shaded.closed F.head_Shaded_hs Try.f108 = some F.head_Shaded := by kernel_rfl
theorem g108 : FnOk Try.prog tab prog (108, 267) := FnOk.of (by kernel_rfl) (by kernel_rfl) Try.func108 c108

theorem c147 : comp Try.prog tab F.mem_Mem_Add.closed F.mem_Mem_Add_hs Try.f147 = some F.mem_Mem_Add := by kernel_rfl
theorem g147 : FnOk Try.prog tab prog (147, 268) := FnOk.of (by kernel_rfl) (by kernel_rfl) Try.func147 c147

theorem c86 : comp Try.prog tab F.field_fresh.closed F.field_fresh_hs Try.f86 = some F.field_fresh := by kernel_rfl
theorem g86 : FnOk Try.prog tab prog (86, 302) := FnOk.of (by kernel_rfl) (by kernel_rfl) Try.func86 c86

theorem c151 : comp Try.prog tab F.head_lives.closed F.head_lives_hs Try.f151 = some F.head_lives := by kernel_rfl
theorem g151 : FnOk Try.prog tab prog (151, 380) := FnOk.of (by kernel_rfl) (by kernel_rfl) Try.func151 c151

theorem c152 : comp Try.prog tab F.turn_Black.closed F.turn_Black_hs Try.f152 = some F.turn_Black := by kernel_rfl
theorem g152 : FnOk Try.prog tab prog (152, 381) := FnOk.of (by kernel_rfl) (by kernel_rfl) Try.func152 c152

theorem c153 : comp Try.prog tab F.head_Pack.closed F.head_Pack_hs Try.f153 = some F.head_Pack := by kernel_rfl
theorem g153 : FnOk Try.prog tab prog (153, 382) := FnOk.of (by kernel_rfl) (by kernel_rfl) Try.func153 c153

theorem c109 : comp Try.prog tab F.head_Unpack.closed F.head_Unpack_hs Try.f109 = some F.head_Unpack := by kernel_rfl
theorem g109 : FnOk Try.prog tab prog (109, 265) := FnOk.of (by kernel_rfl) (by kernel_rfl) Try.func109 c109

theorem c169 : comp Try.prog tab F.turn_Cycle.closed F.turn_Cycle_hs Try.f169 = some F.turn_Cycle := by kernel_rfl
theorem g169 : FnOk Try.prog tab prog (169, 442) := FnOk.of (by kernel_rfl) (by kernel_rfl) Try.func169 c169

theorem c170 : comp Try.prog tab F.word_Pack.closed F.word_Pack_hs Try.f170 = some F.word_Pack := by kernel_rfl
theorem g170 : FnOk Try.prog tab prog (170, 443) := FnOk.of (by kernel_rfl) (by kernel_rfl) Try.func170 c170

theorem c171 : comp Try.prog tab F.head_bit.closed F.head_bit_hs Try.f171 = some F.head_bit := by kernel_rfl
theorem g171 : FnOk Try.prog tab prog (171, 444) := FnOk.of (by kernel_rfl) (by kernel_rfl) Try.func171 c171

theorem c154 : comp Try.prog tab F.word_Unpack.closed F.word_Unpack_hs Try.f154 = some F.word_Unpack := by kernel_rfl
theorem g154 : FnOk Try.prog tab prog (154, 379) := FnOk.of (by kernel_rfl) (by kernel_rfl) Try.func154 c154

theorem c172 : comp Try.prog tab F.word_some.closed F.word_some_hs Try.f172 = some F.word_some := by kernel_rfl
theorem g172 : FnOk Try.prog tab prog (172, 441) := FnOk.of (by kernel_rfl) (by kernel_rfl) Try.func172 c172

theorem c194 : comp Try.prog tab F.word_Fits.closed F.word_Fits_hs Try.f194 = some F.word_Fits := by kernel_rfl
theorem g194 : FnOk Try.prog tab prog (194, 484) := FnOk.of (by kernel_rfl) (by kernel_rfl) Try.func194 c194

theorem c155 : comp Try.prog tab F.word_Get.closed F.word_Get_hs Try.f155 = some F.word_Get := by kernel_rfl
theorem g155 : FnOk Try.prog tab prog (155, 396) := FnOk.of (by kernel_rfl) (by kernel_rfl) Try.func155 c155

theorem c173 : comp Try.prog tab F.word_mask.closed F.word_mask_hs Try.f173 = some F.word_mask := by kernel_rfl
theorem g173 : FnOk Try.prog tab prog (173, 449) := FnOk.of (by kernel_rfl) (by kernel_rfl) Try.func173 c173

theorem c192 : comp Try.prog tab F.head_Blackened.closed F.head_Blackened_hs Try.f192 = some F.head_Blackened := by kernel_rfl
theorem g192 : FnOk Try.prog tab prog (192, 402) := FnOk.of (by kernel_rfl) (by kernel_rfl) Try.func192 c192

theorem c110 : comp Try.prog tab F.head_Marked.closed F.head_Marked_hs Try.f110 = some F.head_Marked := by kernel_rfl
theorem g110 : FnOk Try.prog tab prog (110, 317) := FnOk.of (by kernel_rfl) (by kernel_rfl) Try.func110 c110

theorem c112 : comp Try.prog tab F.plan_Entry.closed F.plan_Entry_hs Try.f112 = some F.plan_Entry := by kernel_rfl
theorem g112 : FnOk Try.prog tab prog (112, 319) := FnOk.of (by kernel_rfl) (by kernel_rfl) Try.func112 c112

theorem c106 : comp Try.prog tab F.plan_Size.closed F.plan_Size_hs Try.f106 = some F.plan_Size := by kernel_rfl
theorem g106 : FnOk Try.prog tab prog (106, 264) := FnOk.of (by kernel_rfl) (by kernel_rfl) Try.func106 c106

theorem c114 : comp Try.prog tab F.plan_Start.closed F.plan_Start_hs Try.f114 = some F.plan_Start := by kernel_rfl
theorem g114 : FnOk Try.prog tab prog (114, 321) := FnOk.of (by kernel_rfl) (by kernel_rfl) Try.func114 c114

theorem c188 : comp Try.prog tab F.plan_View.closed F.plan_View_hs Try.f188 = some F.plan_View := by kernel_rfl
theorem g188 : FnOk Try.prog tab prog (188, 393) := FnOk.of (by kernel_rfl) (by kernel_rfl) Try.func188 c188

theorem c156 : comp Try.prog tab F.plan_place.closed F.plan_place_hs Try.f156 = some F.plan_place := by kernel_rfl
theorem g156 : FnOk Try.prog tab prog (156, 397) := FnOk.of (by kernel_rfl) (by kernel_rfl) Try.func156 c156

theorem c127 : comp Try.prog tab F.withyref03_Black.closed F.withyref03_Black_hs Try.f127 = some F.withyref03_Black := by kernel_rfl
theorem g127 : FnOk Try.prog tab prog (127, 110) := FnOk.of (by kernel_rfl) (by kernel_rfl) Try.func127 c127

theorem c122 : comp Try.prog tab F.withyref04_Lives.closed F.withyref04_Lives_hs Try.f122 = some F.withyref04_Lives := by kernel_rfl
theorem g122 : FnOk Try.prog tab prog (122, 112) := FnOk.of (by kernel_rfl) (by kernel_rfl) Try.func122 c122

theorem c119 : comp Try.prog tab F.withyref04_Marked.closed F.withyref04_Marked_hs Try.f119 = some F.withyref04_Marked := by kernel_rfl
theorem g119 : FnOk Try.prog tab prog (119, 113) := FnOk.of (by kernel_rfl) (by kernel_rfl) Try.func119 c119

theorem c124 : comp Try.prog tab F.withyref04_Right.closed F.withyref04_Right_hs Try.f124 = some F.withyref04_Right := by kernel_rfl
theorem g124 : FnOk Try.prog tab prog (124, 202) := FnOk.of (by kernel_rfl) (by kernel_rfl) Try.func124 c124

theorem c117 : comp Try.prog tab F.withyref04_Unpack.closed F.withyref04_Unpack_hs Try.f117 = some F.withyref04_Unpack := by kernel_rfl
theorem g117 : FnOk Try.prog tab prog (117, 109) := FnOk.of (by kernel_rfl) (by kernel_rfl) Try.func117 c117

theorem c47 : comp Try.prog tab F.withyref06_Fit.closed F.withyref06_Fit_hs Try.f47 = some F.withyref06_Fit := by kernel_rfl
theorem g47 : FnOk Try.prog tab prog (47, 92) := FnOk.of (by kernel_rfl) (by kernel_rfl) Try.func47 c47

theorem c123 : comp Try.prog tab F.withyref06_fit.closed F.withyref06_fit_hs Try.f123 = some F.withyref06_fit := by kernel_rfl
theorem g123 : FnOk Try.prog tab prog (123, 270) := FnOk.of (by kernel_rfl) (by kernel_rfl) Try.func123 c123

theorem progOk : ProgOk Try.prog tab prog := ProgOk.of_fn (l := tab.fn) rfl (by
  unfold tab
  exact List.forall_mem_cons.mpr ⟨g8, List.forall_mem_cons.mpr ⟨g40, List.forall_mem_cons.mpr ⟨g26, List.forall_mem_cons.mpr ⟨g27, List.forall_mem_cons.mpr ⟨g32, List.forall_mem_cons.mpr ⟨g35, List.forall_mem_cons.mpr ⟨g36, List.forall_mem_cons.mpr ⟨g41, List.forall_mem_cons.mpr ⟨g39, List.forall_mem_cons.mpr ⟨g42, List.forall_mem_cons.mpr ⟨g101, List.forall_mem_cons.mpr ⟨g79, List.forall_mem_cons.mpr ⟨g80, List.forall_mem_cons.mpr ⟨g82, List.forall_mem_cons.mpr ⟨g83, List.forall_mem_cons.mpr ⟨g85, List.forall_mem_cons.mpr ⟨g84, List.forall_mem_cons.mpr ⟨g81, List.forall_mem_cons.mpr ⟨g93, List.forall_mem_cons.mpr ⟨g60, List.forall_mem_cons.mpr ⟨g100, List.forall_mem_cons.mpr ⟨g89, List.forall_mem_cons.mpr ⟨g99, List.forall_mem_cons.mpr ⟨g90, List.forall_mem_cons.mpr ⟨g94, List.forall_mem_cons.mpr ⟨g142, List.forall_mem_cons.mpr ⟨g29, List.forall_mem_cons.mpr ⟨g34, List.forall_mem_cons.mpr ⟨g141, List.forall_mem_cons.mpr ⟨g143, List.forall_mem_cons.mpr ⟨g30, List.forall_mem_cons.mpr ⟨g116, List.forall_mem_cons.mpr ⟨g115, List.forall_mem_cons.mpr ⟨g136, List.forall_mem_cons.mpr ⟨g144, List.forall_mem_cons.mpr ⟨g145, List.forall_mem_cons.mpr ⟨g146, List.forall_mem_cons.mpr ⟨g87, List.forall_mem_cons.mpr ⟨g88, List.forall_mem_cons.mpr ⟨g91, List.forall_mem_cons.mpr ⟨g97, List.forall_mem_cons.mpr ⟨g98, List.forall_mem_cons.mpr ⟨g92, List.forall_mem_cons.mpr ⟨g95, List.forall_mem_cons.mpr ⟨g96, List.forall_mem_cons.mpr ⟨g28, List.forall_mem_cons.mpr ⟨g31, List.forall_mem_cons.mpr ⟨g33, List.forall_mem_cons.mpr ⟨g164, List.forall_mem_cons.mpr ⟨g37, List.forall_mem_cons.mpr ⟨g38, List.forall_mem_cons.mpr ⟨g125, List.forall_mem_cons.mpr ⟨g165, List.forall_mem_cons.mpr ⟨g149, List.forall_mem_cons.mpr ⟨g150, List.forall_mem_cons.mpr ⟨g108, List.forall_mem_cons.mpr ⟨g147, List.forall_mem_cons.mpr ⟨g86, List.forall_mem_cons.mpr ⟨g151, List.forall_mem_cons.mpr ⟨g152, List.forall_mem_cons.mpr ⟨g153, List.forall_mem_cons.mpr ⟨g109, List.forall_mem_cons.mpr ⟨g169, List.forall_mem_cons.mpr ⟨g170, List.forall_mem_cons.mpr ⟨g171, List.forall_mem_cons.mpr ⟨g154, List.forall_mem_cons.mpr ⟨g172, List.forall_mem_cons.mpr ⟨g194, List.forall_mem_cons.mpr ⟨g155, List.forall_mem_cons.mpr ⟨g173, List.forall_mem_cons.mpr ⟨g192, List.forall_mem_cons.mpr ⟨g110, List.forall_mem_cons.mpr ⟨g112, List.forall_mem_cons.mpr ⟨g106, List.forall_mem_cons.mpr ⟨g114, List.forall_mem_cons.mpr ⟨g188, List.forall_mem_cons.mpr ⟨g156, List.forall_mem_cons.mpr ⟨g127, List.forall_mem_cons.mpr ⟨g122, List.forall_mem_cons.mpr ⟨g119, List.forall_mem_cons.mpr ⟨g124, List.forall_mem_cons.mpr ⟨g117, List.forall_mem_cons.mpr ⟨g47, List.forall_mem_cons.mpr ⟨g123, List.forall_mem_nil _⟩⟩⟩⟩⟩⟩⟩⟩⟩⟩⟩⟩⟩⟩⟩⟩⟩⟩⟩⟩⟩⟩⟩⟩⟩⟩⟩⟩⟩⟩⟩⟩⟩⟩⟩⟩⟩⟩⟩⟩⟩⟩⟩⟩⟩⟩⟩⟩⟩⟩⟩⟩⟩⟩⟩⟩⟩⟩⟩⟩⟩⟩⟩⟩⟩⟩⟩⟩⟩⟩⟩⟩⟩⟩⟩⟩⟩⟩⟩⟩⟩⟩⟩⟩)

theorem methOk : MethOk Try.prog tab meth := fun T t mm m f _ h => by simp [tab, assocS] at h

theorem callOk : CallOk Try.prog tab C := callW_ok (by kernel_rfl) progOk methOk
end Wm.Seat
