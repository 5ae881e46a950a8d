/- How the seat's functions are those of my table. -/
import Derived.Test.YtibifpboopmggaaChecked
import Derived.Test.YtibifpboopmggaaWmProgSweepBoth
import Derived.Test.YtibifpboopmggaaWmMeth
set_option linter.all false
namespace Wm.Seat
open Wm Go Go.Proofs

def tab : Tab := { fn := [(11, 42), (16, 92), (47, 94), (52, 111), (50, 113), (20, 121), (56, 143), (45, 188), (54, 189), (43, 192), (44, 198), (46, 199), (55, 200), (53, 190), (58, 191), (72, 270), (101, 271), (51, 109), (102, 110), (49, 112), (87, 86), (23, 108), (88, 149), (59, 202), (86, 297), (62, 85), (48, 87), (94, 263), (41, 107), (75, 261), (95, 266), (96, 269), (103, 340), (74, 265), (104, 341), (105, 342), (131, 322), (144, 376), (122, 375), (106, 346), (107, 347), (147, 380), (148, 381), (149, 382), (121, 379), (60, 203), (150, 409), (151, 410), (152, 411), (179, 377), (180, 378), (153, 413), (196, 442), (197, 443), (198, 444), (183, 396), (182, 441), (80, 293), (126, 391), (199, 461), (215, 484), (214, 449), (189, 447), (120, 350), (213, 462), (181, 414), (143, 152), (97, 153), (135, 307), (92, 132), (145, 146), (141, 151), (29, 144), (99, 147), (142, 150), (31, 145), (133, 302), (136, 304), (193, 306), (134, 303), (194, 267), (195, 268), (137, 305), (185, 319), (119, 264), (186, 321), (132, 393), (192, 397), (81, 89), (139, 90), (140, 91), (138, 308), (10, 41), (12, 43), (9, 40), (57, 201)], ty := [(76, 206), (92, 207)], meth := [("Step", 0)] }

theorem c11 : comp Try.prog tab F.withylaw14_SweepBoth.closed F.withylaw14_SweepBoth_hs Try.f11 = some F.withylaw14_SweepBoth := by kernel_rfl
theorem g11 : FnOk Try.prog tab prog (11, 42) := FnOk.of (by kernel_rfl) (by kernel_rfl) Try.func11 c11

theorem c16 : comp Try.prog tab F.withyref06_Fit.closed F.withyref06_Fit_hs Try.f16 = some F.withyref06_Fit := by kernel_rfl
theorem g16 : FnOk Try.prog tab prog (16, 92) := FnOk.of (by kernel_rfl) (by kernel_rfl) Try.func16 c16

theorem c47 : comp Try.prog tab F.mem_Mem_Words.closed F.mem_Mem_Words_hs Try.f47 = some F.mem_Mem_Words := by kernel_rfl
theorem g47 : FnOk Try.prog tab prog (47, 94) := FnOk.of (by kernel_rfl) (by kernel_rfl) Try.func47 c47

theorem c52 : comp Try.prog tab F.withyref04_Pack.closed F.withyref04_Pack_hs Try.f52 = some F.withyref04_Pack := by kernel_rfl
theorem g52 : FnOk Try.prog tab prog (52, 111) := FnOk.of (by kernel_rfl) (by kernel_rfl) Try.func52 c52

theorem c50 : comp Try.prog tab F.withyref04_Marked.closed F.withyref04_Marked_hs Try.f50 = some F.withyref04_Marked := by kernel_rfl
theorem g50 : FnOk Try.prog tab prog (50, 113) := FnOk.of (by kernel_rfl) (by kernel_rfl) Try.func50 c50

theorem c20 : comp Try.prog tab F.withyref13_Laid.closed F.withyref13_Laid_hs Try.f20 = some F.withyref13_Laid := by kernel_rfl
theorem g20 : FnOk Try.prog tab prog (20, 121) := FnOk.of (by kernel_rfl) (by kernel_rfl) Try.func20 c20

theorem c56 : comp Try.prog tab F.withyref07_List.closed F.withyref07_List_hs Try.f56 = some F.withyref07_List := by kernel_rfl
theorem g56 : FnOk Try.prog tab prog (56, 143) := FnOk.of (by kernel_rfl) (by kernel_rfl) Try.func56 c56

theorem c45 : comp Try.prog tab F.sweep_NewSweep.closed F.sweep_NewSweep_hs Try.f45 = some F.sweep_NewSweep := by kernel_rfl
theorem g45 : FnOk Try.prog tab prog (45, 188) := FnOk.of (by kernel_rfl) (by kernel_rfl) Try.func45 c45

theorem c54 : comp Try.prog tab F.sweep_NewReclaim.closed F.sweep_NewReclaim_hs Try.f54 = some F.sweep_NewReclaim := by kernel_rfl
theorem g54 : FnOk Try.prog tab prog (54, 189) := FnOk.of (by kernel_rfl) (by kernel_rfl) Try.func54 c54

theorem c43 : comp Try.prog tab F.withylaw14_awake.closed F.withylaw14_awake_hs Try.f43 = some F.withylaw14_awake := by kernel_rfl
theorem g43 : FnOk Try.prog tab prog (43, 192) := FnOk.of (by kernel_rfl) (by kernel_rfl) Try.func43 c43

theorem c44 : comp Try.prog tab F.mem_Of.closed F.mem_Of_hs Try.f44 = some F.mem_Of := by kernel_rfl
theorem g44 : FnOk Try.prog tab prog (44, 198) := FnOk.of (by kernel_rfl) (by kernel_rfl) Try.func44 c44

theorem c46 : comp Try.prog tab F.withylaw14_ends.closed F.withylaw14_ends_hs Try.f46 = some F.withylaw14_ends := by kernel_rfl
theorem g46 : FnOk Try.prog tab prog (46, 199) := FnOk.of (by kernel_rfl) (by kernel_rfl) Try.func46 c46

theorem c55 : comp Try.prog tab F.withylaw14_heads.closed F.withylaw14_heads_hs Try.f55 = some F.withylaw14_heads := by kernel_rfl
theorem g55 : FnOk Try.prog tab prog (55, 200) := FnOk.of (by kernel_rfl) (by kernel_rfl) Try.func55 c55

theorem c53 : comp Try.prog tab F.sweep_Sweep_Step.closed F.sweep_Sweep_Step_hs Try.f53 = some F.sweep_Sweep_Step := by kernel_rfl
theorem g53 : FnOk Try.prog tab prog (53, 190) := FnOk.of (by kernel_rfl) (by kernel_rfl) Try.func53 c53

theorem c58 : comp Try.prog tab F.sweep_Reclaim_Step.closed F.sweep_Reclaim_Step_hs Try.f58 = some F.sweep_Reclaim_Step := by kernel_rfl
theorem g58 : FnOk Try.prog tab prog (58, 191) := FnOk.of (by kernel_rfl) (by kernel_rfl) Try.func58 c58

theorem c72 : comp Try.prog tab F.withyref06_fit.closed F.withyref06_fit_hs Try.f72 = some F.withyref06_fit := by kernel_rfl
theorem g72 : FnOk Try.prog tab prog (72, 270) := FnOk.of (by kernel_rfl) (by kernel_rfl) Try.func72 c72

theorem c101 : comp Try.prog tab F.slices_Clone___uint64_uint64_.closed F.slices_Clone___uint64_uint64__hs Try.f101 = some F.slices_Clone___uint64_uint64_ := by kernel_rfl
theorem g101 : FnOk Try.prog tab prog (101, 271) := FnOk.of (by kernel_rfl) (by kernel_rfl) Try.func101 c101

theorem c51 : comp Try.prog tab F.withyref04_Unpack.closed F.withyref04_Unpack_hs Try.f51 = some F.withyref04_Unpack := by kernel_rfl
theorem g51 : FnOk Try.prog tab prog (51, 109) := FnOk.of (by kernel_rfl) (by kernel_rfl) Try.func51 c51

theorem c102 : comp Try.prog tab F.withyref03_Black.closed F.withyref03_Black_hs Try.f102 = some F.withyref03_Black := by kernel_rfl
theorem g102 : FnOk Try.prog tab prog (102, 110) := FnOk.of (by kernel_rfl) (by kernel_rfl) Try.func102 c102

theorem c49 : comp Try.prog tab F.withyref04_Lives.closed F.withyref04_Lives_hs Try.f49 = some F.withyref04_Lives := by kernel_rfl
theorem g49 : FnOk Try.prog tab prog (49, 112) := FnOk.of (by kernel_rfl) (by kernel_rfl) Try.func49 c49

theorem c87 : comp Try.prog tab F.withyref06_Memory.closed F.withyref06_Memory_hs Try.f87 = some F.withyref06_Memory := by kernel_rfl
theorem g87 : FnOk Try.prog tab prog (87, 86) := FnOk.of (by kernel_rfl) (by kernel_rfl) Try.func87 c87

theorem c23 : comp Try.prog tab F.withyref06_At.closed F.withyref06_At_hs Try.f23 = some F.withyref06_At := by kernel_rfl
theorem g23 : FnOk Try.prog tab prog (23, 108) := FnOk.of (by kernel_rfl) (by kernel_rfl) Try.func23 c23

theorem c88 : comp Try.prog tab F.withyref06_Room.closed F.withyref06_Room_hs Try.f88 = some F.withyref06_Room := by kernel_rfl
theorem g88 : FnOk Try.prog tab prog (88, 149) := FnOk.of (by kernel_rfl) (by kernel_rfl) Try.func88 c88

theorem c59 : comp Try.prog tab F.withyref04_Right.closed F.withyref04_Right_hs Try.f59 = some F.withyref04_Right := by kernel_rfl
theorem g59 : FnOk Try.prog tab prog (59, 202) := FnOk.of (by kernel_rfl) (by kernel_rfl) Try.func59 c59

theorem c86 : comp Try.prog tab F.withyref13_Grays.closed F.withyref13_Grays_hs Try.f86 = some F.withyref13_Grays := by kernel_rfl
theorem g86 : FnOk Try.prog tab prog (86, 297) := FnOk.of (by kernel_rfl) (by kernel_rfl) Try.func86 c86

theorem c62 : comp Try.prog tab F.withyref06_Right.closed F.withyref06_Right_hs Try.f62 = some F.withyref06_Right := by kernel_rfl
theorem g62 : FnOk Try.prog tab prog (62, 85) := FnOk.of (by kernel_rfl) (by kernel_rfl) Try.func62 c62

theorem c48 : comp Try.prog tab F.withyref06_Words.closed F.withyref06_Words_hs Try.f48 = some F.withyref06_Words := by kernel_rfl
theorem g48 : FnOk Try.prog tab prog (48, 87) := FnOk.of (by kernel_rfl) (by kernel_rfl) Try.func48 c48

theorem c94 : comp Try.prog tab F.plan_Right.closed F.plan_Right_hs Try.f94 = some F.plan_Right := by kernel_rfl
theorem g94 : FnOk Try.prog tab prog (94, 263) := FnOk.of (by kernel_rfl) (by kernel_rfl) Try.func94 c94

theorem c41 : comp Try.prog tab F.mem_Mem_Touches.closed F.mem_Mem_Touches_hs Try.f41 = some F.mem_Mem_Touches := by kernel_rfl
theorem g41 : FnOk Try.prog tab prog (41, 107) := FnOk.of (by kernel_rfl) (by kernel_rfl) Try.func41 c41

theorem c75 : comp Try.prog tab F.plan_Header.closed F.plan_Header_hs Try.f75 = some F.plan_Header := by kernel_rfl
theorem g75 : FnOk Try.prog tab prog (75, 261) := FnOk.of (by kernel_rfl) (by kernel_rfl) Try.func75 c75

theorem c95 : comp Try.prog tab F.mem_Mem_Load.closed F.mem_Mem_Load_hs Try.f95 = some F.mem_Mem_Load := by kernel_rfl
theorem g95 : FnOk Try.prog tab prog (95, 266) := FnOk.of (by kernel_rfl) (by kernel_rfl) Try.func95 c95

theorem c96 : comp Try.prog tab F.mem_Mem_Swap.closed F.mem_Mem_Swap_hs Try.f96 = some F.mem_Mem_Swap := by kernel_rfl
theorem g96 : FnOk Try.prog tab prog (96, 269) := FnOk.of (by kernel_rfl) (by kernel_rfl) Try.func96 c96

theorem c103 : comp Try.prog tab F.head_Retired.closed F.head_Retired_hs Try.f103 = some F.head_Retired := by kernel_rfl
theorem g103 : FnOk Try.prog tab prog (103, 340) := FnOk.of (by kernel_rfl) (by kernel_rfl) Try.func103 c103

theorem c74 : comp Try.prog tab F.head_Unpack.closed F.head_Unpack_hs Try.f74 = some F.head_Unpack := by kernel_rfl
theorem g74 : FnOk Try.prog tab prog (74, 265) := FnOk.of (by kernel_rfl) (by kernel_rfl) Try.func74 c74

theorem c104 : comp Try.prog tab F.arena_NewFree.closed F.arena_NewFree_hs Try.f104 = some F.arena_NewFree := by kernel_rfl
theorem g104 : FnOk Try.prog tab prog (104, 341) := FnOk.of (by kernel_rfl) (by kernel_rfl) Try.func104 c104

theorem c105 : comp Try.prog tab F.arena_Free_Step.closed F.arena_Free_Step_hs Try.f105 = some F.arena_Free_Step := by kernel_rfl
theorem g105 : FnOk Try.prog tab prog (105, 342) := FnOk.of (by kernel_rfl) (by kernel_rfl) Try.func105 c105

theorem c131 : comp Try.prog tab F.withyref13_at.closed F.withyref13_at_hs Try.f131 = some F.withyref13_at := by kernel_rfl
theorem g131 : FnOk Try.prog tab prog (131, 322) := FnOk.of (by kernel_rfl) (by kernel_rfl) Try.func131 c131

theorem c144 : comp Try.prog tab F.plan_between.closed F.plan_between_hs Try.f144 = some F.plan_between := by kernel_rfl
theorem g144 : FnOk Try.prog tab prog (144, 376) := FnOk.of (by kernel_rfl) (by kernel_rfl) Try.func144 c144

theorem c122 : comp Try.prog tab F.plan_within.closed F.plan_within_hs Try.f122 = some F.plan_within := by kernel_rfl
theorem g122 : FnOk Try.prog tab prog (122, 375) := FnOk.of (by kernel_rfl) (by kernel_rfl) Try.func122 c122

theorem c106 : comp Try.prog tab F.mem_Mem_there.closed F.mem_Mem_there_hs Try.f106 = some F.mem_Mem_there := by kernel_rfl
theorem g106 : FnOk Try.prog tab prog (106, 346) := FnOk.of (by kernel_rfl) (by kernel_rfl) Try.func106 c106

theorem c107 : comp Try.prog tab F.mem_Mem_touch.closed F.mem_Mem_touch_hs Try.f107 = some F.mem_Mem_touch := by kernel_rfl
theorem g107 : FnOk Try.prog tab prog (107, 347) := FnOk.of (by kernel_rfl) (by kernel_rfl) Try.func107 c107

theorem c147 : comp Try.prog tab F.head_lives.closed F.head_lives_hs Try.f147 = some F.head_lives := by kernel_rfl
theorem g147 : FnOk Try.prog tab prog (147, 380) := FnOk.of (by kernel_rfl) (by kernel_rfl) Try.func147 c147

theorem c148 : comp Try.prog tab F.turn_Black.closed F.turn_Black_hs Try.f148 = some F.turn_Black := by kernel_rfl
theorem g148 : FnOk Try.prog tab prog (148, 381) := FnOk.of (by kernel_rfl) (by kernel_rfl) Try.func148 c148

theorem c149 : comp Try.prog tab F.head_Pack.closed F.head_Pack_hs Try.f149 = some F.head_Pack := by kernel_rfl
theorem g149 : FnOk Try.prog tab prog (149, 382) := FnOk.of (by kernel_rfl) (by kernel_rfl) Try.func149 c149

theorem c121 : comp Try.prog tab F.word_Unpack.closed F.word_Unpack_hs Try.f121 = some F.word_Unpack := by kernel_rfl
theorem g121 : FnOk Try.prog tab prog (121, 379) := FnOk.of (by kernel_rfl) (by kernel_rfl) Try.func121 c121

theorem c60 : comp Try.prog tab F.mem_Mem_Store.closed F.mem_Mem_Store_hs Try.f60 = some F.mem_Mem_Store := by kernel_rfl
theorem g60 : FnOk Try.prog tab prog (60, 203) := FnOk.of (by kernel_rfl) (by kernel_rfl) Try.func60 c60

theorem c150 : comp Try.prog tab F.head_Freed.closed F.head_Freed_hs Try.f150 = some F.head_Freed := by kernel_rfl
theorem g150 : FnOk Try.prog tab prog (150, 409) := FnOk.of (by kernel_rfl) (by kernel_rfl) Try.func150 c150

theorem c151 : comp Try.prog tab F.stack_NewPush.closed F.stack_NewPush_hs Try.f151 = some F.stack_NewPush := by kernel_rfl
theorem g151 : FnOk Try.prog tab prog (151, 410) := FnOk.of (by kernel_rfl) (by kernel_rfl) Try.func151 c151

theorem c152 : comp Try.prog tab F.stack_Push_Step.closed F.stack_Push_Step_hs Try.f152 = some F.stack_Push_Step := by kernel_rfl
theorem g152 : FnOk Try.prog tab prog (152, 411) := FnOk.of (by kernel_rfl) (by kernel_rfl) Try.func152 c152

theorem c179 : comp Try.prog tab F.plan_slots.closed F.plan_slots_hs Try.f179 = some F.plan_slots := by kernel_rfl
theorem g179 : FnOk Try.prog tab prog (179, 377) := FnOk.of (by kernel_rfl) (by kernel_rfl) Try.func179 c179

theorem c180 : comp Try.prog tab F.plan_room.closed F.plan_room_hs Try.f180 = some F.plan_room := by kernel_rfl
theorem g180 : FnOk Try.prog tab prog (180, 378) := FnOk.of (by kernel_rfl) (by kernel_rfl) Try.func180 c180

theorem c153 : comp Try.prog tab F.mem_Mem_Size.closed F.mem_Mem_Size_hs Try.f153 = some F.mem_Mem_Size := by kernel_rfl
theorem g153 : FnOk Try.prog tab prog (153, 413) := FnOk.of (by kernel_rfl) (by kernel_rfl) Try.func153 c153

theorem c196 : comp Try.prog tab F.turn_Cycle.closed F.turn_Cycle_hs Try.f196 = some F.turn_Cycle := by kernel_rfl
theorem g196 : FnOk Try.prog tab prog (196, 442) := FnOk.of (by kernel_rfl) (by kernel_rfl) Try.func196 c196

theorem c197 : comp Try.prog tab F.word_Pack.closed F.word_Pack_hs Try.f197 = some F.word_Pack := by kernel_rfl
theorem g197 : FnOk Try.prog tab prog (197, 443) := FnOk.of (by kernel_rfl) (by kernel_rfl) Try.func197 c197

theorem c198 : comp Try.prog tab F.head_bit.closed F.head_bit_hs Try.f198 = some F.head_bit := by kernel_rfl
theorem g198 : FnOk Try.prog tab prog (198, 444) := FnOk.of (by kernel_rfl) (by kernel_rfl) Try.func198 c198

theorem c183 : comp Try.prog tab F.word_Get.closed F.word_Get_hs Try.f183 = some F.word_Get := by kernel_rfl
theorem g183 : FnOk Try.prog tab prog (183, 396) := FnOk.of (by kernel_rfl) (by kernel_rfl) Try.func183 c183

theorem c182 : comp Try.prog tab F.word_some.closed F.word_some_hs Try.f182 = some F.word_some := by kernel_rfl
theorem g182 : FnOk Try.prog tab prog (182, 441) := FnOk.of (by kernel_rfl) (by kernel_rfl) Try.func182 c182

theorem c80 : comp Try.prog tab F.plan_Link.closed F.plan_Link_hs Try.f80 = some F.plan_Link := by kernel_rfl
theorem g80 : FnOk Try.prog tab prog (80, 293) := FnOk.of (by kernel_rfl) (by kernel_rfl) Try.func80 c80

theorem c126 : comp Try.prog tab F.stack_first.closed F.stack_first_hs Try.f126 = some F.stack_first := by kernel_rfl
theorem g126 : FnOk Try.prog tab prog (126, 391) := FnOk.of (by kernel_rfl) (by kernel_rfl) Try.func126 c126

theorem c199 : comp Try.prog tab F.tag_Moved.closed F.tag_Moved_hs Try.f199 = some F.tag_Moved := by kernel_rfl
theorem g199 : FnOk Try.prog tab prog (199, 461) := FnOk.of (by kernel_rfl) (by kernel_rfl) Try.func199 c199

theorem c215 : comp Try.prog tab F.word_Fits.closed F.word_Fits_hs Try.f215 = some F.word_Fits := by kernel_rfl
theorem g215 : FnOk Try.prog tab prog (215, 484) := FnOk.of (by kernel_rfl) (by kernel_rfl) Try.func215 c215

theorem c214 : comp Try.prog tab F.word_mask.closed F.word_mask_hs Try.f214 = some F.word_mask := by kernel_rfl
theorem g214 : FnOk Try.prog tab prog (214, 449) := FnOk.of (by kernel_rfl) (by kernel_rfl) Try.func214 c214

theorem c189 : comp Try.prog tab F.tag_TopParts.closed F.tag_TopParts_hs Try.f189 = some F.tag_TopParts := by kernel_rfl
theorem g189 : FnOk Try.prog tab prog (189, 447) := FnOk.of (by kernel_rfl) (by kernel_rfl) Try.func189 c189

theorem c120 : comp Try.prog tab F.tag_Top.closed F.tag_Top_hs Try.f120 = some F.tag_Top := by kernel_rfl
theorem g120 : FnOk Try.prog tab prog (120, 350) := FnOk.of (by kernel_rfl) (by kernel_rfl) Try.func120 c120

theorem c213 : comp Try.prog tab F.tag_slots.closed F.tag_slots_hs Try.f213 = some F.tag_slots := by kernel_rfl
theorem g213 : FnOk Try.prog tab prog (213, 462) := FnOk.of (by kernel_rfl) (by kernel_rfl) Try.func213 c213

theorem c181 : comp Try.prog tab F.tag_tagged.closed F.tag_tagged_hs Try.f181 = some F.tag_tagged := by kernel_rfl
theorem g181 : FnOk Try.prog tab prog (181, 414) := FnOk.of (by kernel_rfl) (by kernel_rfl) Try.func181 c181

theorem c143 : comp Try.prog tab F.field_Book_Born.closed F.field_Book_Born_hs Try.f143 = some F.field_Book_Born := by kernel_rfl
theorem g143 : FnOk Try.prog tab prog (143, 152) := FnOk.of (by kernel_rfl) (by kernel_rfl) Try.func143 c143

theorem c97 : comp Try.prog tab F.field_Book_Turned.closed F.field_Book_Turned_hs Try.f97 = some F.field_Book_Turned := by kernel_rfl
theorem g97 : FnOk Try.prog tab prog (97, 153) := FnOk.of (by kernel_rfl) (by kernel_rfl) Try.func97 c97

theorem c135 : comp Try.prog tab F.field_Lay_refuse.closed F.field_Lay_refuse_hs Try.f135 = some F.field_Lay_refuse := by kernel_rfl
theorem g135 : FnOk Try.prog tab prog (135, 307) := FnOk.of (by kernel_rfl) (by kernel_rfl) Try.func135 c135

theorem c92 : comp Try.prog tab F.field_NewLay.closed F.field_NewLay_hs Try.f92 = some F.field_NewLay := by kernel_rfl
theorem g92 : FnOk Try.prog tab prog (92, 132) := FnOk.of (by kernel_rfl) (by kernel_rfl) Try.func92 c92

theorem c145 : comp Try.prog tab F.field_NewSee.closed F.field_NewSee_hs Try.f145 = some F.field_NewSee := by kernel_rfl
theorem g145 : FnOk Try.prog tab prog (145, 146) := FnOk.of (by kernel_rfl) (by kernel_rfl) Try.func145 c145

theorem c141 : comp Try.prog tab F.field_NewStamp.closed F.field_NewStamp_hs Try.f141 = some F.field_NewStamp := by kernel_rfl
theorem g141 : FnOk Try.prog tab prog (141, 151) := FnOk.of (by kernel_rfl) (by kernel_rfl) Try.func141 c141

theorem c29 : comp Try.prog tab F.field_NewTurn.closed F.field_NewTurn_hs Try.f29 = some F.field_NewTurn := by kernel_rfl
theorem g29 : FnOk Try.prog tab prog (29, 144) := FnOk.of (by kernel_rfl) (by kernel_rfl) Try.func29 c29

theorem c99 : comp Try.prog tab F.field_See_Step.closed F.field_See_Step_hs Try.f99 = some F.field_See_Step := by kernel_rfl
theorem g99 : FnOk Try.prog tab prog (99, 147) := FnOk.of (by kernel_rfl) (by kernel_rfl) Try.func99 c99

theorem c142 : comp Try.prog tab F.field_Stamp_Step.closed F.field_Stamp_Step_hs Try.f142 = some F.field_Stamp_Step := by kernel_rfl
theorem g142 : FnOk Try.prog tab prog (142, 150) := FnOk.of (by kernel_rfl) (by kernel_rfl) Try.func142 c142

theorem c31 : comp Try.prog tab F.field_Turn_Step.closed F.field_Turn_Step_hs Try.f31 = some F.field_Turn_Step := by kernel_rfl
theorem g31 : FnOk Try.prog tab prog (31, 145) := FnOk.of (by kernel_rfl) (by kernel_rfl) Try.func31 c31

theorem c133 : comp Try.prog tab F.field_fresh.closed F.field_fresh_hs Try.f133 = some F.field_fresh := by kernel_rfl
theorem g133 : FnOk Try.prog tab prog (133, 302) := FnOk.of (by kernel_rfl) (by kernel_rfl) Try.func133 c133

theorem c136 : comp Try.prog tab F.field_named.closed F.field_named_hs Try.f136 = some F.field_named := by kernel_rfl
theorem g136 : FnOk Try.prog tab prog (136, 304) := FnOk.of (by kernel_rfl) (by kernel_rfl) Try.func136 c136

theorem c193 : comp Try.prog tab F.field_newest_point.closed F.field_newest_point_hs Try.f193 = some F.field_newest_point := by kernel_rfl
theorem g193 : FnOk Try.prog tab prog (193, 306) := FnOk.of (by kernel_rfl) (by kernel_rfl) Try.func193 c193

theorem c134 : comp Try.prog tab F.field_newest_step.closed F.field_newest_step_hs Try.f134 = some F.field_newest_step := by kernel_rfl
theorem g134 : FnOk Try.prog tab prog (134, 303) := FnOk.of (by kernel_rfl) (by kernel_rfl) Try.func134 c134

theorem c194 : comp Try.prog tab F.head_Shaded.closed F.head_Shaded_hs Try.f194 = some F.head_Shaded := by kernel_rfl
theorem g194 : FnOk Try.prog tab prog (194, 267) := FnOk.of (by kernel_rfl) (by kernel_rfl) Try.func194 c194

theorem c195 : comp Try.prog tab F.mem_Mem_Add.closed F.mem_Mem_Add_hs Try.f195 = some F.mem_Mem_Add := by kernel_rfl
theorem g195 : FnOk Try.prog tab prog (195, 268) := FnOk.of (by kernel_rfl) (by kernel_rfl) Try.func195 c195

theorem c137 : comp Try.prog tab F.plan_Body.closed F.plan_Body_hs Try.f137 = some F.plan_Body := by kernel_rfl
theorem g137 : FnOk Try.prog tab prog (137, 305) := FnOk.of (by kernel_rfl) (by kernel_rfl) Try.func137 c137

theorem c185 : comp Try.prog tab F.plan_Entry.closed F.plan_Entry_hs Try.f185 = some F.plan_Entry := by kernel_rfl
theorem g185 : FnOk Try.prog tab prog (185, 319) := FnOk.of (by kernel_rfl) (by kernel_rfl) Try.func185 c185

theorem c119 : comp Try.prog tab F.plan_Size.closed F.plan_Size_hs Try.f119 = some F.plan_Size := by kernel_rfl
theorem g119 : FnOk Try.prog tab prog (119, 264) := FnOk.of (by kernel_rfl) (by kernel_rfl) Try.func119 c119

theorem c186 : comp Try.prog tab F.plan_Start.closed F.plan_Start_hs Try.f186 = some F.plan_Start := by kernel_rfl
theorem g186 : FnOk Try.prog tab prog (186, 321) := FnOk.of (by kernel_rfl) (by kernel_rfl) Try.func186 c186

theorem c132 : comp Try.prog tab F.plan_View.closed F.plan_View_hs Try.f132 = some F.plan_View := by kernel_rfl
theorem g132 : FnOk Try.prog tab prog (132, 393) := FnOk.of (by kernel_rfl) (by kernel_rfl) Try.func132 c132

theorem c192 : comp Try.prog tab F.plan_place.closed F.plan_place_hs Try.f192 = some F.plan_place := by kernel_rfl
theorem g192 : FnOk Try.prog tab prog (192, 397) := FnOk.of (by kernel_rfl) (by kernel_rfl) Try.func192 c192

theorem c81 : comp Try.prog tab F.shade_Grays.closed F.shade_Grays_hs Try.f81 = some F.shade_Grays := by kernel_rfl
theorem g81 : FnOk Try.prog tab prog (81, 89) := FnOk.of (by kernel_rfl) (by kernel_rfl) Try.func81 c81

theorem c139 : comp Try.prog tab F.shade_NewShade.closed F.shade_NewShade_hs Try.f139 = some F.shade_NewShade := by kernel_rfl
theorem g139 : FnOk Try.prog tab prog (139, 90) := FnOk.of (by kernel_rfl) (by kernel_rfl) Try.func139 c139

theorem c140 : comp Try.prog tab F.shade_Shade_Step.closed F.shade_Shade_Step_hs Try.f140 = some F.shade_Shade_Step := by kernel_rfl
theorem g140 : FnOk Try.prog tab prog (140, 91) := FnOk.of (by kernel_rfl) (by kernel_rfl) Try.func140 c140

theorem c138 : comp Try.prog tab F.turn_Fenced.closed F.turn_Fenced_hs Try.f138 = some F.turn_Fenced := by kernel_rfl
theorem g138 : FnOk Try.prog tab prog (138, 308) := FnOk.of (by kernel_rfl) (by kernel_rfl) Try.func138 c138

theorem c10 : comp Try.prog tab F.withylaw14_SweepReclaims.closed F.withylaw14_SweepReclaims_hs Try.f10 = some F.withylaw14_SweepReclaims := by kernel_rfl
theorem g10 : FnOk Try.prog tab prog (10, 41) := FnOk.of (by kernel_rfl) (by kernel_rfl) Try.func10 c10

theorem c12 : comp Try.prog tab F.withylaw14_SweepShades.closed F.withylaw14_SweepShades_hs Try.f12 = some F.withylaw14_SweepShades := by kernel_rfl
theorem g12 : FnOk Try.prog tab prog (12, 43) := FnOk.of (by kernel_rfl) (by kernel_rfl) Try.func12 c12

theorem c9 : comp Try.prog tab F.withylaw14_SweepSweeps.closed F.withylaw14_SweepSweeps_hs Try.f9 = some F.withylaw14_SweepSweeps := by kernel_rfl
theorem g9 : FnOk Try.prog tab prog (9, 40) := FnOk.of (by kernel_rfl) (by kernel_rfl) Try.func9 c9

theorem c57 : comp Try.prog tab F.withyref07_Same.closed F.withyref07_Same_hs Try.f57 = some F.withyref07_Same := by kernel_rfl
theorem g57 : FnOk Try.prog tab prog (57, 201) := FnOk.of (by kernel_rfl) (by kernel_rfl) Try.func57 c57

theorem progOk : ProgOk Try.prog tab prog := ProgOk.of_fn (l := tab.fn) rfl (by
  unfold tab
  exact List.forall_mem_cons.mpr ⟨g11, List.forall_mem_cons.mpr ⟨g16, List.forall_mem_cons.mpr ⟨g47, List.forall_mem_cons.mpr ⟨g52, List.forall_mem_cons.mpr ⟨g50, List.forall_mem_cons.mpr ⟨g20, List.forall_mem_cons.mpr ⟨g56, List.forall_mem_cons.mpr ⟨g45, List.forall_mem_cons.mpr ⟨g54, List.forall_mem_cons.mpr ⟨g43, List.forall_mem_cons.mpr ⟨g44, List.forall_mem_cons.mpr ⟨g46, List.forall_mem_cons.mpr ⟨g55, List.forall_mem_cons.mpr ⟨g53, List.forall_mem_cons.mpr ⟨g58, List.forall_mem_cons.mpr ⟨g72, List.forall_mem_cons.mpr ⟨g101, List.forall_mem_cons.mpr ⟨g51, List.forall_mem_cons.mpr ⟨g102, List.forall_mem_cons.mpr ⟨g49, List.forall_mem_cons.mpr ⟨g87, List.forall_mem_cons.mpr ⟨g23, List.forall_mem_cons.mpr ⟨g88, List.forall_mem_cons.mpr ⟨g59, List.forall_mem_cons.mpr ⟨g86, List.forall_mem_cons.mpr ⟨g62, List.forall_mem_cons.mpr ⟨g48, List.forall_mem_cons.mpr ⟨g94, List.forall_mem_cons.mpr ⟨g41, List.forall_mem_cons.mpr ⟨g75, List.forall_mem_cons.mpr ⟨g95, List.forall_mem_cons.mpr ⟨g96, List.forall_mem_cons.mpr ⟨g103, List.forall_mem_cons.mpr ⟨g74, List.forall_mem_cons.mpr ⟨g104, List.forall_mem_cons.mpr ⟨g105, List.forall_mem_cons.mpr ⟨g131, List.forall_mem_cons.mpr ⟨g144, List.forall_mem_cons.mpr ⟨g122, List.forall_mem_cons.mpr ⟨g106, List.forall_mem_cons.mpr ⟨g107, List.forall_mem_cons.mpr ⟨g147, List.forall_mem_cons.mpr ⟨g148, List.forall_mem_cons.mpr ⟨g149, List.forall_mem_cons.mpr ⟨g121, List.forall_mem_cons.mpr ⟨g60, List.forall_mem_cons.mpr ⟨g150, List.forall_mem_cons.mpr ⟨g151, List.forall_mem_cons.mpr ⟨g152, List.forall_mem_cons.mpr ⟨g179, List.forall_mem_cons.mpr ⟨g180, List.forall_mem_cons.mpr ⟨g153, List.forall_mem_cons.mpr ⟨g196, List.forall_mem_cons.mpr ⟨g197, List.forall_mem_cons.mpr ⟨g198, List.forall_mem_cons.mpr ⟨g183, List.forall_mem_cons.mpr ⟨g182, List.forall_mem_cons.mpr ⟨g80, List.forall_mem_cons.mpr ⟨g126, List.forall_mem_cons.mpr ⟨g199, List.forall_mem_cons.mpr ⟨g215, List.forall_mem_cons.mpr ⟨g214, List.forall_mem_cons.mpr ⟨g189, List.forall_mem_cons.mpr ⟨g120, List.forall_mem_cons.mpr ⟨g213, List.forall_mem_cons.mpr ⟨g181, List.forall_mem_cons.mpr ⟨g143, List.forall_mem_cons.mpr ⟨g97, List.forall_mem_cons.mpr ⟨g135, List.forall_mem_cons.mpr ⟨g92, List.forall_mem_cons.mpr ⟨g145, List.forall_mem_cons.mpr ⟨g141, List.forall_mem_cons.mpr ⟨g29, List.forall_mem_cons.mpr ⟨g99, List.forall_mem_cons.mpr ⟨g142, List.forall_mem_cons.mpr ⟨g31, List.forall_mem_cons.mpr ⟨g133, List.forall_mem_cons.mpr ⟨g136, List.forall_mem_cons.mpr ⟨g193, List.forall_mem_cons.mpr ⟨g134, List.forall_mem_cons.mpr ⟨g194, List.forall_mem_cons.mpr ⟨g195, List.forall_mem_cons.mpr ⟨g137, List.forall_mem_cons.mpr ⟨g185, List.forall_mem_cons.mpr ⟨g119, List.forall_mem_cons.mpr ⟨g186, List.forall_mem_cons.mpr ⟨g132, List.forall_mem_cons.mpr ⟨g192, List.forall_mem_cons.mpr ⟨g81, List.forall_mem_cons.mpr ⟨g139, List.forall_mem_cons.mpr ⟨g140, List.forall_mem_cons.mpr ⟨g138, List.forall_mem_cons.mpr ⟨g10, List.forall_mem_cons.mpr ⟨g12, List.forall_mem_cons.mpr ⟨g9, List.forall_mem_cons.mpr ⟨g57, List.forall_mem_nil _⟩⟩⟩⟩⟩⟩⟩⟩⟩⟩⟩⟩⟩⟩⟩⟩⟩⟩⟩⟩⟩⟩⟩⟩⟩⟩⟩⟩⟩⟩⟩⟩⟩⟩⟩⟩⟩⟩⟩⟩⟩⟩⟩⟩⟩⟩⟩⟩⟩⟩⟩⟩⟩⟩⟩⟩⟩⟩⟩⟩⟩⟩⟩⟩⟩⟩⟩⟩⟩⟩⟩⟩⟩⟩⟩⟩⟩⟩⟩⟩⟩⟩⟩⟩⟩⟩⟩⟩⟩⟩⟩⟩⟩⟩⟩⟩)

theorem m92 (v : Value) (w : World) : (Go.method (Try.prog.types.size + Go.Made.depth) 92 v "Step").run Try.prog w = .ok (58, v) w := by kernel_rfl
theorem m76 (v : Value) (w : World) : (Go.method (Try.prog.types.size + Go.Made.depth) 76 v "Step").run Try.prog w = .ok (53, v) w := by kernel_rfl
theorem methOk : MethOk Try.prog tab meth := MethOk.of (n := "Step") (i := 0) rfl (by
  unfold tab
  exact List.forall_mem_cons.mpr ⟨(fun f hf => by
    have e : some 190 = some f := hf
    cases e
    exact ⟨53, by kernel_rfl, m76⟩), List.forall_mem_cons.mpr ⟨(fun f hf => by
    have e : some 191 = some f := hf
    cases e
    exact ⟨58, by kernel_rfl, m92⟩), List.forall_mem_nil _⟩⟩)

theorem callOk : CallOk Try.prog tab C := callW_ok (by kernel_rfl) progOk methOk
end Wm.Seat
