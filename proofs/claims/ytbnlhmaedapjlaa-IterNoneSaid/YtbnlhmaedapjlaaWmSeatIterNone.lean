/- How the seat's functions are those of my table. -/
import Derived.Test.YtbnlhmaedapjlaaChecked
import Derived.Test.YtbnlhmaedapjlaaWmProgIterNone
import Derived.Test.YtbnlhmaedapjlaaWmMeth
set_option linter.all false
namespace Wm.Seat
open Wm Go Go.Proofs

def tab : Tab := { fn := [(5, 31), (10, 85), (9, 148), (33, 160), (28, 167), (29, 171), (30, 172), (31, 176), (32, 177), (21, 144), (15, 145), (74, 161), (75, 162), (76, 163), (77, 164), (78, 166), (56, 261), (13, 147), (71, 265), (46, 266), (72, 330), (73, 331), (57, 263), (23, 153), (54, 269), (94, 86), (95, 111), (65, 198), (119, 328), (19, 132), (14, 133), (120, 169), (50, 203), (89, 375), (44, 303), (45, 304), (47, 305), (117, 379), (87, 346), (88, 347), (18, 146), (118, 404), (92, 376), (137, 87), (111, 271), (116, 108), (55, 302), (52, 90), (53, 91), (16, 150), (20, 151), (22, 152), (49, 307), (51, 308), (146, 165), (136, 377), (135, 378), (141, 396), (145, 441), (134, 413), (11, 149), (90, 267), (91, 268), (48, 306), (154, 449), (121, 380), (122, 381), (123, 382), (147, 442), (148, 443), (149, 444), (155, 484), (17, 127), (12, 128), (109, 402), (124, 409), (114, 317), (79, 340), (98, 107), (70, 94), (112, 264), (144, 110), (143, 112), (115, 113), (127, 202), (142, 109)], ty := [], meth := [] }

theorem c5 : comp Try.prog tab F.withylaw20_IterNone.closed F.withylaw20_IterNone_hs Try.f5 = some F.withylaw20_IterNone := by kernel_rfl
theorem g5 : FnOk Try.prog tab prog (5, 31) := FnOk.of (by kernel_rfl) (by kernel_rfl) Try.func5 c5

theorem c10 : comp Try.prog tab F.withyref06_Right.closed F.withyref06_Right_hs Try.f10 = some F.withyref06_Right := by kernel_rfl
theorem g10 : FnOk Try.prog tab prog (10, 85) := FnOk.of (by kernel_rfl) (by kernel_rfl) Try.func10 c10

theorem c9 : comp Try.prog tab F.field_NewBook.closed F.field_NewBook_hs Try.f9 = some F.field_NewBook := by kernel_rfl
theorem g9 : FnOk Try.prog tab prog (9, 148) := FnOk.of (by kernel_rfl) (by kernel_rfl) Try.func9 c9

theorem c33 : comp Try.prog tab F.withylaw20_awake.closed F.withylaw20_awake_hs Try.f33 = some F.withylaw20_awake := by kernel_rfl
theorem g33 : FnOk Try.prog tab prog (33, 160) := FnOk.of (by kernel_rfl) (by kernel_rfl) Try.func33 c33

theorem c28 : comp Try.prog tab F.iter_NewWalk.closed F.iter_NewWalk_hs Try.f28 = some F.iter_NewWalk := by kernel_rfl
theorem g28 : FnOk Try.prog tab prog (28, 167) := FnOk.of (by kernel_rfl) (by kernel_rfl) Try.func28 c28

theorem c29 : comp Try.prog tab F.iter_Walk_Left.closed F.iter_Walk_Left_hs Try.f29 = some F.iter_Walk_Left := by kernel_rfl
theorem g29 : FnOk Try.prog tab prog (29, 171) := FnOk.of (by kernel_rfl) (by kernel_rfl) Try.func29 c29

theorem c30 : comp Try.prog tab F.iter_Walk_Front.closed F.iter_Walk_Front_hs Try.f30 = some F.iter_Walk_Front := by kernel_rfl
theorem g30 : FnOk Try.prog tab prog (30, 172) := FnOk.of (by kernel_rfl) (by kernel_rfl) Try.func30 c30

theorem c31 : comp Try.prog tab F.iter_Walk_Step.closed F.iter_Walk_Step_hs Try.f31 = some F.iter_Walk_Step := by kernel_rfl
theorem g31 : FnOk Try.prog tab prog (31, 176) := FnOk.of (by kernel_rfl) (by kernel_rfl) Try.func31 c31

theorem c32 : comp Try.prog tab F.iter_Walk_Go.closed F.iter_Walk_Go_hs Try.f32 = some F.iter_Walk_Go := by kernel_rfl
theorem g32 : FnOk Try.prog tab prog (32, 177) := FnOk.of (by kernel_rfl) (by kernel_rfl) Try.func32 c32

theorem c21 : comp Try.prog tab F.field_NewTurn.closed F.field_NewTurn_hs Try.f21 = some F.field_NewTurn := by kernel_rfl
theorem g21 : FnOk Try.prog tab prog (21, 144) := FnOk.of (by kernel_rfl) (by kernel_rfl) Try.func21 c21

theorem c15 : comp Try.prog tab F.field_Turn_Step.closed F.field_Turn_Step_hs Try.f15 = some F.field_Turn_Step := by kernel_rfl
theorem g15 : FnOk Try.prog tab prog (15, 145) := FnOk.of (by kernel_rfl) (by kernel_rfl) Try.func15 c15

theorem c74 : comp Try.prog tab F.withylaw20_begin.closed F.withylaw20_begin_hs Try.f74 = some F.withylaw20_begin := by kernel_rfl
theorem g74 : FnOk Try.prog tab prog (74, 161) := FnOk.of (by kernel_rfl) (by kernel_rfl) Try.func74 c74

theorem c75 : comp Try.prog tab F.withylaw20_world_tick.closed F.withylaw20_world_tick_hs Try.f75 = some F.withylaw20_world_tick := by kernel_rfl
theorem g75 : FnOk Try.prog tab prog (75, 162) := FnOk.of (by kernel_rfl) (by kernel_rfl) Try.func75 c75

theorem c76 : comp Try.prog tab F.withylaw20_hand_step.closed F.withylaw20_hand_step_hs Try.f76 = some F.withylaw20_hand_step := by kernel_rfl
theorem g76 : FnOk Try.prog tab prog (76, 163) := FnOk.of (by kernel_rfl) (by kernel_rfl) Try.func76 c76

theorem c77 : comp Try.prog tab F.withylaw20_config.closed F.withylaw20_config_hs Try.f77 = some F.withylaw20_config := by kernel_rfl
theorem g77 : FnOk Try.prog tab prog (77, 164) := FnOk.of (by kernel_rfl) (by kernel_rfl) Try.func77 c77

theorem c78 : comp Try.prog tab F.withylaw20_walked.closed F.withylaw20_walked_hs Try.f78 = some F.withylaw20_walked := by kernel_rfl
theorem g78 : FnOk Try.prog tab prog (78, 166) := FnOk.of (by kernel_rfl) (by kernel_rfl) Try.func78 c78

theorem c56 : comp Try.prog tab F.plan_Header.closed F.plan_Header_hs Try.f56 = some F.plan_Header := by kernel_rfl
theorem g56 : FnOk Try.prog tab prog (56, 261) := FnOk.of (by kernel_rfl) (by kernel_rfl) Try.func56 c56

theorem c13 : comp Try.prog tab F.field_See_Step.closed F.field_See_Step_hs Try.f13 = some F.field_See_Step := by kernel_rfl
theorem g13 : FnOk Try.prog tab prog (13, 147) := FnOk.of (by kernel_rfl) (by kernel_rfl) Try.func13 c13

theorem c71 : comp Try.prog tab F.head_Unpack.closed F.head_Unpack_hs Try.f71 = some F.head_Unpack := by kernel_rfl
theorem g71 : FnOk Try.prog tab prog (71, 265) := FnOk.of (by kernel_rfl) (by kernel_rfl) Try.func71 c71

theorem c46 : comp Try.prog tab F.mem_Mem_Load.closed F.mem_Mem_Load_hs Try.f46 = some F.mem_Mem_Load := by kernel_rfl
theorem g46 : FnOk Try.prog tab prog (46, 266) := FnOk.of (by kernel_rfl) (by kernel_rfl) Try.func46 c46

theorem c72 : comp Try.prog tab F.iter_Walk_field.closed F.iter_Walk_field_hs Try.f72 = some F.iter_Walk_field := by kernel_rfl
theorem g72 : FnOk Try.prog tab prog (72, 330) := FnOk.of (by kernel_rfl) (by kernel_rfl) Try.func72 c72

theorem c73 : comp Try.prog tab F.slices_Contains___int_int_.closed F.slices_Contains___int_int__hs Try.f73 = some F.slices_Contains___int_int_ := by kernel_rfl
theorem g73 : FnOk Try.prog tab prog (73, 331) := FnOk.of (by kernel_rfl) (by kernel_rfl) Try.func73 c73

theorem c57 : comp Try.prog tab F.plan_Right.closed F.plan_Right_hs Try.f57 = some F.plan_Right := by kernel_rfl
theorem g57 : FnOk Try.prog tab prog (57, 263) := FnOk.of (by kernel_rfl) (by kernel_rfl) Try.func57 c57

theorem c23 : comp Try.prog tab F.field_Book_Turned.closed F.field_Book_Turned_hs Try.f23 = some F.field_Book_Turned := by kernel_rfl
theorem g23 : FnOk Try.prog tab prog (23, 153) := FnOk.of (by kernel_rfl) (by kernel_rfl) Try.func23 c23

theorem c54 : comp Try.prog tab F.mem_Mem_Swap.closed F.mem_Mem_Swap_hs Try.f54 = some F.mem_Mem_Swap := by kernel_rfl
theorem g54 : FnOk Try.prog tab prog (54, 269) := FnOk.of (by kernel_rfl) (by kernel_rfl) Try.func54 c54

theorem c94 : comp Try.prog tab F.withyref06_Memory.closed F.withyref06_Memory_hs Try.f94 = some F.withyref06_Memory := by kernel_rfl
theorem g94 : FnOk Try.prog tab prog (94, 86) := FnOk.of (by kernel_rfl) (by kernel_rfl) Try.func94 c94

theorem c95 : comp Try.prog tab F.withyref04_Pack.closed F.withyref04_Pack_hs Try.f95 = some F.withyref04_Pack := by kernel_rfl
theorem g95 : FnOk Try.prog tab prog (95, 111) := FnOk.of (by kernel_rfl) (by kernel_rfl) Try.func95 c95

theorem c65 : comp Try.prog tab F.mem_Of.closed F.mem_Of_hs Try.f65 = some F.mem_Of := by kernel_rfl
theorem g65 : FnOk Try.prog tab prog (65, 198) := FnOk.of (by kernel_rfl) (by kernel_rfl) Try.func65 c65

theorem c119 : comp Try.prog tab F.withylaw20_at.closed F.withylaw20_at_hs Try.f119 = some F.withylaw20_at := by kernel_rfl
theorem g119 : FnOk Try.prog tab prog (119, 328) := FnOk.of (by kernel_rfl) (by kernel_rfl) Try.func119 c119

theorem c19 : comp Try.prog tab F.field_NewLay.closed F.field_NewLay_hs Try.f19 = some F.field_NewLay := by kernel_rfl
theorem g19 : FnOk Try.prog tab prog (19, 132) := FnOk.of (by kernel_rfl) (by kernel_rfl) Try.func19 c19

theorem c14 : comp Try.prog tab F.field_Lay_Step.closed F.field_Lay_Step_hs Try.f14 = some F.field_Lay_Step := by kernel_rfl
theorem g14 : FnOk Try.prog tab prog (14, 133) := FnOk.of (by kernel_rfl) (by kernel_rfl) Try.func14 c14

theorem c120 : comp Try.prog tab F.withylaw20_Lay_fit.closed F.withylaw20_Lay_fit_hs Try.f120 = some F.withylaw20_Lay_fit := by kernel_rfl
theorem g120 : FnOk Try.prog tab prog (120, 169) := FnOk.of (by kernel_rfl) (by kernel_rfl) Try.func120 c120

theorem c50 : comp Try.prog tab F.mem_Mem_Store.closed F.mem_Mem_Store_hs Try.f50 = some F.mem_Mem_Store := by kernel_rfl
theorem g50 : FnOk Try.prog tab prog (50, 203) := FnOk.of (by kernel_rfl) (by kernel_rfl) Try.func50 c50

theorem c89 : comp Try.prog tab F.plan_within.closed F.plan_within_hs Try.f89 = some F.plan_within := by kernel_rfl
theorem g89 : FnOk Try.prog tab prog (89, 375) := FnOk.of (by kernel_rfl) (by kernel_rfl) Try.func89 c89

theorem c44 : comp Try.prog tab F.field_newest_step.closed F.field_newest_step_hs Try.f44 = some F.field_newest_step := by kernel_rfl
theorem g44 : FnOk Try.prog tab prog (44, 303) := FnOk.of (by kernel_rfl) (by kernel_rfl) Try.func44 c44

theorem c45 : comp Try.prog tab F.field_named.closed F.field_named_hs Try.f45 = some F.field_named := by kernel_rfl
theorem g45 : FnOk Try.prog tab prog (45, 304) := FnOk.of (by kernel_rfl) (by kernel_rfl) Try.func45 c45

theorem c47 : comp Try.prog tab F.plan_Body.closed F.plan_Body_hs Try.f47 = some F.plan_Body := by kernel_rfl
theorem g47 : FnOk Try.prog tab prog (47, 305) := FnOk.of (by kernel_rfl) (by kernel_rfl) Try.func47 c47

theorem c117 : comp Try.prog tab F.word_Unpack.closed F.word_Unpack_hs Try.f117 = some F.word_Unpack := by kernel_rfl
theorem g117 : FnOk Try.prog tab prog (117, 379) := FnOk.of (by kernel_rfl) (by kernel_rfl) Try.func117 c117

theorem c87 : comp Try.prog tab F.mem_Mem_there.closed F.mem_Mem_there_hs Try.f87 = some F.mem_Mem_there := by kernel_rfl
theorem g87 : FnOk Try.prog tab prog (87, 346) := FnOk.of (by kernel_rfl) (by kernel_rfl) Try.func87 c87

theorem c88 : comp Try.prog tab F.mem_Mem_touch.closed F.mem_Mem_touch_hs Try.f88 = some F.mem_Mem_touch := by kernel_rfl
theorem g88 : FnOk Try.prog tab prog (88, 347) := FnOk.of (by kernel_rfl) (by kernel_rfl) Try.func88 c88

theorem c18 : comp Try.prog tab F.field_NewSee.closed F.field_NewSee_hs Try.f18 = some F.field_NewSee := by kernel_rfl
theorem g18 : FnOk Try.prog tab prog (18, 146) := FnOk.of (by kernel_rfl) (by kernel_rfl) Try.func18 c18

theorem c118 : comp Try.prog tab F.slices_Index___int_int_.closed F.slices_Index___int_int__hs Try.f118 = some F.slices_Index___int_int_ := by kernel_rfl
theorem g118 : FnOk Try.prog tab prog (118, 404) := FnOk.of (by kernel_rfl) (by kernel_rfl) Try.func118 c118

theorem c92 : comp Try.prog tab F.plan_between.closed F.plan_between_hs Try.f92 = some F.plan_between := by kernel_rfl
theorem g92 : FnOk Try.prog tab prog (92, 376) := FnOk.of (by kernel_rfl) (by kernel_rfl) Try.func92 c92

theorem c137 : comp Try.prog tab F.withyref06_Words.closed F.withyref06_Words_hs Try.f137 = some F.withyref06_Words := by kernel_rfl
theorem g137 : FnOk Try.prog tab prog (137, 87) := FnOk.of (by kernel_rfl) (by kernel_rfl) Try.func137 c137

theorem c111 : comp Try.prog tab F.slices_Clone___uint64_uint64_.closed F.slices_Clone___uint64_uint64__hs Try.f111 = some F.slices_Clone___uint64_uint64_ := by kernel_rfl
theorem g111 : FnOk Try.prog tab prog (111, 271) := FnOk.of (by kernel_rfl) (by kernel_rfl) Try.func111 c111

theorem c116 : comp Try.prog tab F.withyref06_At.closed F.withyref06_At_hs Try.f116 = some F.withyref06_At := by kernel_rfl
theorem g116 : FnOk Try.prog tab prog (116, 108) := FnOk.of (by kernel_rfl) (by kernel_rfl) Try.func116 c116

theorem c55 : comp Try.prog tab F.field_fresh.closed F.field_fresh_hs Try.f55 = some F.field_fresh := by kernel_rfl
theorem g55 : FnOk Try.prog tab prog (55, 302) := FnOk.of (by kernel_rfl) (by kernel_rfl) Try.func55 c55

theorem c52 : comp Try.prog tab F.shade_NewShade.closed F.shade_NewShade_hs Try.f52 = some F.shade_NewShade := by kernel_rfl
theorem g52 : FnOk Try.prog tab prog (52, 90) := FnOk.of (by kernel_rfl) (by kernel_rfl) Try.func52 c52

theorem c53 : comp Try.prog tab F.shade_Shade_Step.closed F.shade_Shade_Step_hs Try.f53 = some F.shade_Shade_Step := by kernel_rfl
theorem g53 : FnOk Try.prog tab prog (53, 91) := FnOk.of (by kernel_rfl) (by kernel_rfl) Try.func53 c53

theorem c16 : comp Try.prog tab F.field_Stamp_Step.closed F.field_Stamp_Step_hs Try.f16 = some F.field_Stamp_Step := by kernel_rfl
theorem g16 : FnOk Try.prog tab prog (16, 150) := FnOk.of (by kernel_rfl) (by kernel_rfl) Try.func16 c16

theorem c20 : comp Try.prog tab F.field_NewStamp.closed F.field_NewStamp_hs Try.f20 = some F.field_NewStamp := by kernel_rfl
theorem g20 : FnOk Try.prog tab prog (20, 151) := FnOk.of (by kernel_rfl) (by kernel_rfl) Try.func20 c20

theorem c22 : comp Try.prog tab F.field_Book_Born.closed F.field_Book_Born_hs Try.f22 = some F.field_Book_Born := by kernel_rfl
theorem g22 : FnOk Try.prog tab prog (22, 152) := FnOk.of (by kernel_rfl) (by kernel_rfl) Try.func22 c22

theorem c49 : comp Try.prog tab F.field_Lay_refuse.closed F.field_Lay_refuse_hs Try.f49 = some F.field_Lay_refuse := by kernel_rfl
theorem g49 : FnOk Try.prog tab prog (49, 307) := FnOk.of (by kernel_rfl) (by kernel_rfl) Try.func49 c49

theorem c51 : comp Try.prog tab F.turn_Fenced.closed F.turn_Fenced_hs Try.f51 = some F.turn_Fenced := by kernel_rfl
theorem g51 : FnOk Try.prog tab prog (51, 308) := FnOk.of (by kernel_rfl) (by kernel_rfl) Try.func51 c51

theorem c146 : comp Try.prog tab F.withylaw20_pick.closed F.withylaw20_pick_hs Try.f146 = some F.withylaw20_pick := by kernel_rfl
theorem g146 : FnOk Try.prog tab prog (146, 165) := FnOk.of (by kernel_rfl) (by kernel_rfl) Try.func146 c146

theorem c136 : comp Try.prog tab F.plan_slots.closed F.plan_slots_hs Try.f136 = some F.plan_slots := by kernel_rfl
theorem g136 : FnOk Try.prog tab prog (136, 377) := FnOk.of (by kernel_rfl) (by kernel_rfl) Try.func136 c136

theorem c135 : comp Try.prog tab F.plan_room.closed F.plan_room_hs Try.f135 = some F.plan_room := by kernel_rfl
theorem g135 : FnOk Try.prog tab prog (135, 378) := FnOk.of (by kernel_rfl) (by kernel_rfl) Try.func135 c135

theorem c141 : comp Try.prog tab F.word_Get.closed F.word_Get_hs Try.f141 = some F.word_Get := by kernel_rfl
theorem g141 : FnOk Try.prog tab prog (141, 396) := FnOk.of (by kernel_rfl) (by kernel_rfl) Try.func141 c141

theorem c145 : comp Try.prog tab F.word_some.closed F.word_some_hs Try.f145 = some F.word_some := by kernel_rfl
theorem g145 : FnOk Try.prog tab prog (145, 441) := FnOk.of (by kernel_rfl) (by kernel_rfl) Try.func145 c145

theorem c134 : comp Try.prog tab F.mem_Mem_Size.closed F.mem_Mem_Size_hs Try.f134 = some F.mem_Mem_Size := by kernel_rfl
theorem g134 : FnOk Try.prog tab prog (134, 413) := FnOk.of (by kernel_rfl) (by kernel_rfl) Try.func134 c134

theorem c11 : comp Try.prog tab F.withyref06_Room.closed F.withyref06_Room_hs Try.f11 = some F.withyref06_Room := by kernel_rfl
theorem g11 : FnOk Try.prog tab prog (11, 149) := FnOk.of (by kernel_rfl) (by kernel_rfl) Try.func11 c11

theorem c90 : comp Try.prog tab F.head_Shaded.closed F.head_Shaded_hs Try.f90 = some F.head_Shaded := by kernel_rfl
theorem g90 : FnOk Try.prog tab prog (90, 267) := FnOk.of (by kernel_rfl) (by kernel_rfl) Try.func90 c90

theorem c91 : comp Try.prog tab F.mem_Mem_Add.closed F.mem_Mem_Add_hs Try.f91 = some F.mem_Mem_Add := by kernel_rfl
theorem g91 : FnOk Try.prog tab prog (91, 268) := FnOk.of (by kernel_rfl) (by kernel_rfl) Try.func91 c91

theorem c48 : comp Try.prog tab F.field_newest_point.closed F.field_newest_point_hs Try.f48 = some F.field_newest_point := by kernel_rfl
theorem g48 : FnOk Try.prog tab prog (48, 306) := FnOk.of (by kernel_rfl) (by kernel_rfl) Try.func48 c48

theorem c154 : comp Try.prog tab F.word_mask.closed F.word_mask_hs Try.f154 = some F.word_mask := by kernel_rfl
theorem g154 : FnOk Try.prog tab prog (154, 449) := FnOk.of (by kernel_rfl) (by kernel_rfl) Try.func154 c154

theorem c121 : comp Try.prog tab F.head_lives.closed F.head_lives_hs Try.f121 = some F.head_lives := by kernel_rfl
theorem g121 : FnOk Try.prog tab prog (121, 380) := FnOk.of (by kernel_rfl) (by kernel_rfl) Try.func121 c121

theorem c122 : comp Try.prog tab F.turn_Black.closed F.turn_Black_hs Try.f122 = some F.turn_Black := by kernel_rfl
theorem g122 : FnOk Try.prog tab prog (122, 381) := FnOk.of (by kernel_rfl) (by kernel_rfl) Try.func122 c122

theorem c123 : comp Try.prog tab F.head_Pack.closed F.head_Pack_hs Try.f123 = some F.head_Pack := by kernel_rfl
theorem g123 : FnOk Try.prog tab prog (123, 382) := FnOk.of (by kernel_rfl) (by kernel_rfl) Try.func123 c123

theorem c147 : comp Try.prog tab F.turn_Cycle.closed F.turn_Cycle_hs Try.f147 = some F.turn_Cycle := by kernel_rfl
theorem g147 : FnOk Try.prog tab prog (147, 442) := FnOk.of (by kernel_rfl) (by kernel_rfl) Try.func147 c147

theorem c148 : comp Try.prog tab F.word_Pack.closed F.word_Pack_hs Try.f148 = some F.word_Pack := by kernel_rfl
theorem g148 : FnOk Try.prog tab prog (148, 443) := FnOk.of (by kernel_rfl) (by kernel_rfl) Try.func148 c148

theorem c149 : comp Try.prog tab F.head_bit.closed F.head_bit_hs Try.f149 = some F.head_bit := by kernel_rfl
theorem g149 : FnOk Try.prog tab prog (149, 444) := FnOk.of (by kernel_rfl) (by kernel_rfl) Try.func149 c149

theorem c155 : comp Try.prog tab F.word_Fits.closed F.word_Fits_hs Try.f155 = some F.word_Fits := by kernel_rfl
theorem g155 : FnOk Try.prog tab prog (155, 484) := FnOk.of (by kernel_rfl) (by kernel_rfl) Try.func155 c155

theorem c17 : comp Try.prog tab F.field_NewRead.closed F.field_NewRead_hs Try.f17 = some F.field_NewRead := by kernel_rfl
theorem g17 : FnOk Try.prog tab prog (17, 127) := FnOk.of (by kernel_rfl) (by kernel_rfl) Try.func17 c17

theorem c12 : comp Try.prog tab F.field_Read_Step.closed F.field_Read_Step_hs Try.f12 = some F.field_Read_Step := by kernel_rfl
theorem g12 : FnOk Try.prog tab prog (12, 128) := FnOk.of (by kernel_rfl) (by kernel_rfl) Try.func12 c12

theorem c109 : comp Try.prog tab F.head_Blackened.closed F.head_Blackened_hs Try.f109 = some F.head_Blackened := by kernel_rfl
theorem g109 : FnOk Try.prog tab prog (109, 402) := FnOk.of (by kernel_rfl) (by kernel_rfl) Try.func109 c109

theorem c124 : comp Try.prog tab F.head_Freed.closed F.head_Freed_hs Try.f124 = some F.head_Freed := by kernel_rfl
theorem g124 : FnOk Try.prog tab prog (124, 409) := FnOk.of (by kernel_rfl) (by kernel_rfl) Try.func124 c124

theorem c114 : comp Try.prog tab F.head_Marked.closed F.head_Marked_hs Try.f114 = some F.head_Marked := by kernel_rfl
theorem g114 : FnOk Try.prog tab prog (114, 317) := FnOk.of (by kernel_rfl) (by kernel_rfl) Try.func114 c114

theorem c79 : comp Try.prog tab F.head_Retired.closed F.head_Retired_hs Try.f79 = some F.head_Retired := by kernel_rfl
theorem g79 : FnOk Try.prog tab prog (79, 340) := FnOk.of (by kernel_rfl) (by kernel_rfl) Try.func79 c79

theorem c98 : comp Try.prog tab F.mem_Mem_Touches.closed F.mem_Mem_Touches_hs Try.f98 = some F.mem_Mem_Touches := by kernel_rfl
theorem g98 : FnOk Try.prog tab prog (98, 107) := FnOk.of (by kernel_rfl) (by kernel_rfl) Try.func98 c98

theorem c70 : comp Try.prog tab F.mem_Mem_Words.closed F.mem_Mem_Words_hs Try.f70 = some F.mem_Mem_Words := by kernel_rfl
theorem g70 : FnOk Try.prog tab prog (70, 94) := FnOk.of (by kernel_rfl) (by kernel_rfl) Try.func70 c70

theorem c112 : comp Try.prog tab F.plan_Size.closed F.plan_Size_hs Try.f112 = some F.plan_Size := by kernel_rfl
theorem g112 : FnOk Try.prog tab prog (112, 264) := FnOk.of (by kernel_rfl) (by kernel_rfl) Try.func112 c112

theorem c144 : comp Try.prog tab F.withyref03_Black.closed F.withyref03_Black_hs Try.f144 = some F.withyref03_Black := by kernel_rfl
theorem g144 : FnOk Try.prog tab prog (144, 110) := FnOk.of (by kernel_rfl) (by kernel_rfl) Try.func144 c144

theorem c143 : comp Try.prog tab F.withyref04_Lives.closed F.withyref04_Lives_hs Try.f143 = some F.withyref04_Lives := by kernel_rfl
theorem g143 : FnOk Try.prog tab prog (143, 112) := FnOk.of (by kernel_rfl) (by kernel_rfl) Try.func143 c143

theorem c115 : comp Try.prog tab F.withyref04_Marked.closed F.withyref04_Marked_hs Try.f115 = some F.withyref04_Marked := by kernel_rfl
theorem g115 : FnOk Try.prog tab prog (115, 113) := FnOk.of (by kernel_rfl) (by kernel_rfl) Try.func115 c115

theorem c127 : comp Try.prog tab F.withyref04_Right.closed F.withyref04_Right_hs Try.f127 = some F.withyref04_Right := by kernel_rfl
theorem g127 : FnOk Try.prog tab prog (127, 202) := FnOk.of (by kernel_rfl) (by kernel_rfl) Try.func127 c127

theorem c142 : comp Try.prog tab F.withyref04_Unpack.closed F.withyref04_Unpack_hs Try.f142 = some F.withyref04_Unpack := by kernel_rfl
theorem g142 : FnOk Try.prog tab prog (142, 109) := FnOk.of (by kernel_rfl) (by kernel_rfl) Try.func142 c142

theorem progOk : ProgOk Try.prog tab prog := ProgOk.of_fn (l := tab.fn) rfl (by
  unfold tab
  exact List.forall_mem_cons.mpr ⟨g5, List.forall_mem_cons.mpr ⟨g10, List.forall_mem_cons.mpr ⟨g9, List.forall_mem_cons.mpr ⟨g33, List.forall_mem_cons.mpr ⟨g28, List.forall_mem_cons.mpr ⟨g29, List.forall_mem_cons.mpr ⟨g30, List.forall_mem_cons.mpr ⟨g31, List.forall_mem_cons.mpr ⟨g32, List.forall_mem_cons.mpr ⟨g21, List.forall_mem_cons.mpr ⟨g15, List.forall_mem_cons.mpr ⟨g74, List.forall_mem_cons.mpr ⟨g75, List.forall_mem_cons.mpr ⟨g76, List.forall_mem_cons.mpr ⟨g77, List.forall_mem_cons.mpr ⟨g78, List.forall_mem_cons.mpr ⟨g56, List.forall_mem_cons.mpr ⟨g13, List.forall_mem_cons.mpr ⟨g71, List.forall_mem_cons.mpr ⟨g46, List.forall_mem_cons.mpr ⟨g72, List.forall_mem_cons.mpr ⟨g73, List.forall_mem_cons.mpr ⟨g57, List.forall_mem_cons.mpr ⟨g23, List.forall_mem_cons.mpr ⟨g54, List.forall_mem_cons.mpr ⟨g94, List.forall_mem_cons.mpr ⟨g95, List.forall_mem_cons.mpr ⟨g65, List.forall_mem_cons.mpr ⟨g119, List.forall_mem_cons.mpr ⟨g19, List.forall_mem_cons.mpr ⟨g14, List.forall_mem_cons.mpr ⟨g120, List.forall_mem_cons.mpr ⟨g50, List.forall_mem_cons.mpr ⟨g89, List.forall_mem_cons.mpr ⟨g44, List.forall_mem_cons.mpr ⟨g45, List.forall_mem_cons.mpr ⟨g47, List.forall_mem_cons.mpr ⟨g117, List.forall_mem_cons.mpr ⟨g87, List.forall_mem_cons.mpr ⟨g88, List.forall_mem_cons.mpr ⟨g18, List.forall_mem_cons.mpr ⟨g118, List.forall_mem_cons.mpr ⟨g92, List.forall_mem_cons.mpr ⟨g137, List.forall_mem_cons.mpr ⟨g111, List.forall_mem_cons.mpr ⟨g116, List.forall_mem_cons.mpr ⟨g55, List.forall_mem_cons.mpr ⟨g52, List.forall_mem_cons.mpr ⟨g53, List.forall_mem_cons.mpr ⟨g16, List.forall_mem_cons.mpr ⟨g20, List.forall_mem_cons.mpr ⟨g22, List.forall_mem_cons.mpr ⟨g49, List.forall_mem_cons.mpr ⟨g51, List.forall_mem_cons.mpr ⟨g146, List.forall_mem_cons.mpr ⟨g136, List.forall_mem_cons.mpr ⟨g135, List.forall_mem_cons.mpr ⟨g141, List.forall_mem_cons.mpr ⟨g145, List.forall_mem_cons.mpr ⟨g134, List.forall_mem_cons.mpr ⟨g11, List.forall_mem_cons.mpr ⟨g90, List.forall_mem_cons.mpr ⟨g91, List.forall_mem_cons.mpr ⟨g48, List.forall_mem_cons.mpr ⟨g154, List.forall_mem_cons.mpr ⟨g121, List.forall_mem_cons.mpr ⟨g122, List.forall_mem_cons.mpr ⟨g123, List.forall_mem_cons.mpr ⟨g147, List.forall_mem_cons.mpr ⟨g148, List.forall_mem_cons.mpr ⟨g149, List.forall_mem_cons.mpr ⟨g155, List.forall_mem_cons.mpr ⟨g17, List.forall_mem_cons.mpr ⟨g12, List.forall_mem_cons.mpr ⟨g109, List.forall_mem_cons.mpr ⟨g124, List.forall_mem_cons.mpr ⟨g114, List.forall_mem_cons.mpr ⟨g79, List.forall_mem_cons.mpr ⟨g98, List.forall_mem_cons.mpr ⟨g70, List.forall_mem_cons.mpr ⟨g112, List.forall_mem_cons.mpr ⟨g144, List.forall_mem_cons.mpr ⟨g143, List.forall_mem_cons.mpr ⟨g115, List.forall_mem_cons.mpr ⟨g127, List.forall_mem_cons.mpr ⟨g142, List.forall_mem_nil _⟩⟩⟩⟩⟩⟩⟩⟩⟩⟩⟩⟩⟩⟩⟩⟩⟩⟩⟩⟩⟩⟩⟩⟩⟩⟩⟩⟩⟩⟩⟩⟩⟩⟩⟩⟩⟩⟩⟩⟩⟩⟩⟩⟩⟩⟩⟩⟩⟩⟩⟩⟩⟩⟩⟩⟩⟩⟩⟩⟩⟩⟩⟩⟩⟩⟩⟩⟩⟩⟩⟩⟩⟩⟩⟩⟩⟩⟩⟩⟩⟩⟩⟩⟩⟩⟩)

theorem methOk : MethOk Try.prog tab meth := fun T t mm m f _ h => by simp [tab, assocS] at h

theorem callOk : CallOk Try.prog tab C := callW_ok (by kernel_rfl) progOk methOk
end Wm.Seat
