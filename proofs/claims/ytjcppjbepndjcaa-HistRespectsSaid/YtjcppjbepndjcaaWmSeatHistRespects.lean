/- How the seat's functions are those of my table. -/
import Derived.Test.YtjcppjbepndjcaaChecked
import Derived.Test.YtjcppjbepndjcaaWmProgHistRespects
import Derived.Test.YtjcppjbepndjcaaWmMeth
set_option linter.all false
namespace Wm.Seat
open Wm Go Go.Proofs

def tab : Tab := { fn := [(12, 35), (52, 180), (55, 183), (56, 184), (57, 185), (58, 186), (50, 178), (53, 181), (128, 332), (129, 333), (131, 335), (132, 336), (158, 405), (159, 406), (130, 334), (161, 408), (133, 337), (134, 338), (174, 450), (175, 451), (176, 452), (177, 453), (178, 454), (179, 455), (180, 456), (181, 457), (182, 458), (183, 459), (160, 407), (184, 460), (195, 487), (196, 488), (197, 489), (198, 490), (199, 491), (200, 492), (201, 512), (202, 513), (192, 402), (110, 317), (153, 382), (108, 267), (109, 265), (171, 444), (151, 380), (147, 268), (89, 266), (165, 413), (92, 203), (99, 269), (142, 107), (40, 94), (144, 346), (145, 347), (84, 198), (94, 261), (60, 263), (106, 264), (136, 376), (150, 378), (149, 377), (146, 375), (97, 90), (98, 91), (101, 271), (152, 381), (169, 442), (96, 308), (127, 110), (122, 112), (119, 113), (83, 111), (124, 202), (117, 109), (93, 108), (47, 92), (82, 86), (115, 85), (125, 149), (116, 87), (123, 270), (194, 484), (155, 396), (170, 443), (154, 379), (173, 449), (172, 441)], ty := [], meth := [] }

theorem c12 : comp Try.prog tab F.withylaw18_HistRespects.closed F.withylaw18_HistRespects_hs Try.f12 = some F.withylaw18_HistRespects := by kernel_rfl
theorem g12 : FnOk Try.prog tab prog (12, 35) := FnOk.of (by kernel_rfl) (by kernel_rfl) Try.func12 c12

theorem c52 : comp Try.prog tab F.withylaw18_awake.closed F.withylaw18_awake_hs Try.f52 = some F.withylaw18_awake := by kernel_rfl
theorem g52 : FnOk Try.prog tab prog (52, 180) := FnOk.of (by kernel_rfl) (by kernel_rfl) Try.func52 c52

theorem c55 : comp Try.prog tab F.hist_Ahead.closed F.hist_Ahead_hs Try.f55 = some F.hist_Ahead := by kernel_rfl
theorem g55 : FnOk Try.prog tab prog (55, 183) := FnOk.of (by kernel_rfl) (by kernel_rfl) Try.func55 c55

theorem c56 : comp Try.prog tab F.withyref18_Ahead.closed F.withyref18_Ahead_hs Try.f56 = some F.withyref18_Ahead := by kernel_rfl
theorem g56 : FnOk Try.prog tab prog (56, 184) := FnOk.of (by kernel_rfl) (by kernel_rfl) Try.func56 c56

theorem c57 : comp Try.prog tab F.hist_Respects.closed F.hist_Respects_hs Try.f57 = some F.hist_Respects := by kernel_rfl
theorem g57 : FnOk Try.prog tab prog (57, 185) := FnOk.of (by kernel_rfl) (by kernel_rfl) Try.func57 c57

theorem c58 : comp Try.prog tab F.withyref18_Respects.closed F.withyref18_Respects_hs Try.f58 = some F.withyref18_Respects := by kernel_rfl
theorem g58 : FnOk Try.prog tab prog (58, 186) := FnOk.of (by kernel_rfl) (by kernel_rfl) Try.func58 c58

theorem c50 : comp Try.prog tab F.hist_Right.closed F.hist_Right_hs Try.f50 = some F.hist_Right := by kernel_rfl
theorem g50 : FnOk Try.prog tab prog (50, 178) := FnOk.of (by kernel_rfl) (by kernel_rfl) Try.func50 c50

theorem c53 : comp Try.prog tab F.hist_Order.closed F.hist_Order_hs Try.f53 = some F.hist_Order := by kernel_rfl
theorem g53 : FnOk Try.prog tab prog (53, 181) := FnOk.of (by kernel_rfl) (by kernel_rfl) Try.func53 c53

theorem c128 : comp Try.prog tab F.slices_SortFunc___int_int_.closed F.slices_SortFunc___int_int__hs Try.f128 = some F.slices_SortFunc___int_int_ := by kernel_rfl
theorem g128 : FnOk Try.prog tab prog (128, 332) := FnOk.of (by kernel_rfl) (by kernel_rfl) Try.func128 c128

theorem c129 : comp Try.prog tab F.hist_Right_1.closed F.hist_Right_1_hs Try.f129 = some F.hist_Right_1 := by kernel_rfl
theorem g129 : FnOk Try.prog tab prog (129, 333) := FnOk.of (by kernel_rfl) (by kernel_rfl) Try.func129 c129

theorem c131 : comp Try.prog tab F.slices_SortStableFunc___int_int_.closed F.slices_SortStableFunc___int_int__hs Try.f131 = some F.slices_SortStableFunc___int_int_ := by kernel_rfl
theorem g131 : FnOk Try.prog tab prog (131, 335) := FnOk.of (by kernel_rfl) (by kernel_rfl) Try.func131 c131

theorem c132 : comp Try.prog tab F.hist_Order_1.closed F.hist_Order_1_hs Try.f132 = some F.hist_Order_1 := by kernel_rfl
theorem g132 : FnOk Try.prog tab prog (132, 336) := FnOk.of (by kernel_rfl) (by kernel_rfl) Try.func132 c132

theorem c158 : comp Try.prog tab F.slices_pdqsortCmpFunc_int_.closed F.slices_pdqsortCmpFunc_int__hs Try.f158 = some F.slices_pdqsortCmpFunc_int_ := by kernel_rfl
theorem g158 : FnOk Try.prog tab prog (158, 405) := FnOk.of (by kernel_rfl) (by kernel_rfl) Try.func158 c158

theorem c159 : comp Try.prog tab F.math_bits_Len.closed F.math_bits_Len_hs Try.f159 = some F.math_bits_Len := by kernel_rfl
theorem g159 : FnOk Try.prog tab prog (159, 406) := FnOk.of (by kernel_rfl) (by kernel_rfl) Try.func159 c159

theorem c130 : comp Try.prog tab F.cmp_Compare_int_.closed F.cmp_Compare_int__hs Try.f130 = some F.cmp_Compare_int_ := by kernel_rfl
theorem g130 : FnOk Try.prog tab prog (130, 334) := FnOk.of (by kernel_rfl) (by kernel_rfl) Try.func130 c130

theorem c161 : comp Try.prog tab F.slices_stableCmpFunc_int_.closed F.slices_stableCmpFunc_int__hs Try.f161 = some F.slices_stableCmpFunc_int_ := by kernel_rfl
theorem g161 : FnOk Try.prog tab prog (161, 408) := FnOk.of (by kernel_rfl) (by kernel_rfl) Try.func161 c161

theorem c133 : comp Try.prog tab F.cmp_Or_int_.closed F.cmp_Or_int__hs Try.f133 = some F.cmp_Or_int_ := by kernel_rfl
theorem g133 : FnOk Try.prog tab prog (133, 337) := FnOk.of (by kernel_rfl) (by kernel_rfl) Try.func133 c133

theorem c134 : comp Try.prog tab F.hist_behind.closed F.hist_behind_hs Try.f134 = some F.hist_behind := by kernel_rfl
theorem g134 : FnOk Try.prog tab prog (134, 338) := FnOk.of (by kernel_rfl) (by kernel_rfl) Try.func134 c134

theorem c174 : comp Try.prog tab F.slices_insertionSortCmpFunc_int_.closed F.slices_insertionSortCmpFunc_int__hs Try.f174 = some F.slices_insertionSortCmpFunc_int_ := by kernel_rfl
theorem g174 : FnOk Try.prog tab prog (174, 450) := FnOk.of (by kernel_rfl) (by kernel_rfl) Try.func174 c174

theorem c175 : comp Try.prog tab F.slices_heapSortCmpFunc_int_.closed F.slices_heapSortCmpFunc_int__hs Try.f175 = some F.slices_heapSortCmpFunc_int_ := by kernel_rfl
theorem g175 : FnOk Try.prog tab prog (175, 451) := FnOk.of (by kernel_rfl) (by kernel_rfl) Try.func175 c175

theorem c176 : comp Try.prog tab F.slices_breakPatternsCmpFunc_int_.closed F.slices_breakPatternsCmpFunc_int__hs Try.f176 = some F.slices_breakPatternsCmpFunc_int_ := by kernel_rfl
theorem g176 : FnOk Try.prog tab prog (176, 452) := FnOk.of (by kernel_rfl) (by kernel_rfl) Try.func176 c176

theorem c177 : comp Try.prog tab F.slices_choosePivotCmpFunc_int_.closed F.slices_choosePivotCmpFunc_int__hs Try.f177 = some F.slices_choosePivotCmpFunc_int_ := by kernel_rfl
theorem g177 : FnOk Try.prog tab prog (177, 453) := FnOk.of (by kernel_rfl) (by kernel_rfl) Try.func177 c177

theorem c178 : comp Try.prog tab F.slices_reverseRangeCmpFunc_int_.closed F.slices_reverseRangeCmpFunc_int__hs Try.f178 = some F.slices_reverseRangeCmpFunc_int_ := by kernel_rfl
theorem g178 : FnOk Try.prog tab prog (178, 454) := FnOk.of (by kernel_rfl) (by kernel_rfl) Try.func178 c178

theorem c179 : comp Try.prog tab F.slices_partialInsertionSortCmpFunc_int_.closed F.slices_partialInsertionSortCmpFunc_int__hs Try.f179 = some F.slices_partialInsertionSortCmpFunc_int_ := by kernel_rfl
theorem g179 : FnOk Try.prog tab prog (179, 455) := FnOk.of (by kernel_rfl) (by kernel_rfl) Try.func179 c179

theorem c180 : comp Try.prog tab F.slices_partitionEqualCmpFunc_int_.closed F.slices_partitionEqualCmpFunc_int__hs Try.f180 = some F.slices_partitionEqualCmpFunc_int_ := by kernel_rfl
theorem g180 : FnOk Try.prog tab prog (180, 456) := FnOk.of (by kernel_rfl) (by kernel_rfl) Try.func180 c180

theorem c181 : comp Try.prog tab F.slices_partitionCmpFunc_int_.closed F.slices_partitionCmpFunc_int__hs Try.f181 = some F.slices_partitionCmpFunc_int_ := by kernel_rfl
theorem g181 : FnOk Try.prog tab prog (181, 457) := FnOk.of (by kernel_rfl) (by kernel_rfl) Try.func181 c181

theorem c182 : comp Try.prog tab F.math_bits_Len32.closed F.math_bits_Len32_hs Try.f182 = some F.math_bits_Len32 := by kernel_rfl
theorem g182 : FnOk Try.prog tab prog (182, 458) := FnOk.of (by kernel_rfl) (by kernel_rfl) Try.func182 c182

theorem c183 : comp Try.prog tab F.math_bits_Len64.closed F.math_bits_Len64_hs Try.f183 = some F.math_bits_Len64 := by kernel_rfl
theorem g183 : FnOk Try.prog tab prog (183, 459) := FnOk.of (by kernel_rfl) (by kernel_rfl) Try.func183 c183

theorem c160 : comp Try.prog tab F.cmp_isNaN_int_.closed F.cmp_isNaN_int__hs Try.f160 = some F.cmp_isNaN_int_ := by kernel_rfl
theorem g160 : FnOk Try.prog tab prog (160, 407) := FnOk.of (by kernel_rfl) (by kernel_rfl) Try.func160 c160

theorem c184 : comp Try.prog tab F.slices_symMergeCmpFunc_int_.closed F.slices_symMergeCmpFunc_int__hs Try.f184 = some F.slices_symMergeCmpFunc_int_ := by kernel_rfl
theorem g184 : FnOk Try.prog tab prog (184, 460) := FnOk.of (by kernel_rfl) (by kernel_rfl) Try.func184 c184

theorem c195 : comp Try.prog tab F.slices_siftDownCmpFunc_int_.closed F.slices_siftDownCmpFunc_int__hs Try.f195 = some F.slices_siftDownCmpFunc_int_ := by kernel_rfl
theorem g195 : FnOk Try.prog tab prog (195, 487) := FnOk.of (by kernel_rfl) (by kernel_rfl) Try.func195 c195

theorem c196 : comp Try.prog tab F.slices_nextPowerOfTwo.closed F.slices_nextPowerOfTwo_hs Try.f196 = some F.slices_nextPowerOfTwo := by kernel_rfl
theorem g196 : FnOk Try.prog tab prog (196, 488) := FnOk.of (by kernel_rfl) (by kernel_rfl) Try.func196 c196

theorem c197 : comp Try.prog tab F.slices_xorshift_Next.closed F.slices_xorshift_Next_hs Try.f197 = some F.slices_xorshift_Next := by kernel_rfl
theorem g197 : FnOk Try.prog tab prog (197, 489) := FnOk.of (by kernel_rfl) (by kernel_rfl) Try.func197 c197

theorem c198 : comp Try.prog tab F.slices_medianAdjacentCmpFunc_int_.closed F.slices_medianAdjacentCmpFunc_int__hs Try.f198 = some F.slices_medianAdjacentCmpFunc_int_ := by kernel_rfl
theorem g198 : FnOk Try.prog tab prog (198, 490) := FnOk.of (by kernel_rfl) (by kernel_rfl) Try.func198 c198

theorem c199 : comp Try.prog tab F.slices_medianCmpFunc_int_.closed F.slices_medianCmpFunc_int__hs Try.f199 = some F.slices_medianCmpFunc_int_ := by kernel_rfl
theorem g199 : FnOk Try.prog tab prog (199, 491) := FnOk.of (by kernel_rfl) (by kernel_rfl) Try.func199 c199

theorem c200 : comp Try.prog tab F.slices_rotateCmpFunc_int_.closed F.slices_rotateCmpFunc_int__hs Try.f200 = some F.slices_rotateCmpFunc_int_ := by kernel_rfl
theorem g200 : FnOk Try.prog tab prog (200, 492) := FnOk.of (by kernel_rfl) (by kernel_rfl) Try.func200 c200

theorem c201 : comp Try.prog tab F.slices_order2CmpFunc_int_.closed F.slices_order2CmpFunc_int__hs Try.f201 = some F.slices_order2CmpFunc_int_ := by kernel_rfl
theorem g201 : FnOk Try.prog tab prog (201, 512) := FnOk.of (by kernel_rfl) (by kernel_rfl) Try.func201 c201

theorem c202 : comp Try.prog tab F.slices_swapRangeCmpFunc_int_.closed F.slices_swapRangeCmpFunc_int__hs Try.f202 = some F.slices_swapRangeCmpFunc_int_ := by kernel_rfl
theorem g202 : FnOk Try.prog tab prog (202, 513) := FnOk.of (by kernel_rfl) (by kernel_rfl) Try.func202 c202

theorem c192 : comp Try.prog tab F.head_Blackened.closed F.head_Blackened_hs Try.f192 = some F.head_Blackened := by kernel_rfl
theorem g192 : FnOk Try.prog tab prog (192, 402) := FnOk.of (by kernel_rfl) (by kernel_rfl) Try.func192 c192

theorem c110 : comp Try.prog tab F.head_Marked.closed F.head_Marked_hs Try.f110 = some F.head_Marked := by kernel_rfl
theorem g110 : FnOk Try.prog tab prog (110, 317) := FnOk.of (by kernel_rfl) (by kernel_rfl) Try.func110 c110

theorem c153 : comp Try.prog tab F.head_Pack.closed F.head_Pack_hs Try.f153 = some F.head_Pack := by kernel_rfl
theorem g153 : FnOk Try.prog tab prog (153, 382) := FnOk.of (by kernel_rfl) (by kernel_rfl) Try.func153 c153

theorem c108 : comp Try.prog tab F.head_Shaded.closed F.head_Shaded_hs Try.f108 = some F.head_Shaded := by kernel_rfl
theorem g108 : FnOk Try.prog tab prog (108, 267) := FnOk.of (by kernel_rfl) (by kernel_rfl) Try.func108 c108

theorem c109 : comp Try.prog tab F.head_Unpack.closed F.head_Unpack_hs Try.f109 = some F.head_Unpack := by kernel_rfl
theorem g109 : FnOk Try.prog tab prog (109, 265) := FnOk.of (by kernel_rfl) (by kernel_rfl) Try.func109 c109

theorem c171 : comp Try.prog tab F.head_bit.closed F.head_bit_hs Try.f171 = some F.head_bit := by kernel_rfl
theorem g171 : FnOk Try.prog tab prog (171, 444) := FnOk.of (by kernel_rfl) (by kernel_rfl) Try.func171 c171

theorem c151 : comp Try.prog tab F.head_lives.closed F.head_lives_hs Try.f151 = some F.head_lives := by kernel_rfl
theorem g151 : FnOk Try.prog tab prog (151, 380) := FnOk.of (by kernel_rfl) (by kernel_rfl) Try.func151 c151

theorem c147 : comp Try.prog tab F.mem_Mem_Add.closed F.mem_Mem_Add_hs Try.f147 = some F.mem_Mem_Add := by kernel_rfl
theorem g147 : FnOk Try.prog tab prog (147, 268) := FnOk.of (by kernel_rfl) (by kernel_rfl) Try.func147 c147

theorem c89 : comp Try.prog tab F.mem_Mem_Load.closed F.mem_Mem_Load_hs Try.f89 = some F.mem_Mem_Load := by kernel_rfl
theorem g89 : FnOk Try.prog tab prog (89, 266) := FnOk.of (by kernel_rfl) (by kernel_rfl) Try.func89 c89

theorem c165 : comp Try.prog tab F.mem_Mem_Size.closed F.mem_Mem_Size_hs Try.f165 = some F.mem_Mem_Size := by kernel_rfl
theorem g165 : FnOk Try.prog tab prog (165, 413) := FnOk.of (by kernel_rfl) (by kernel_rfl) Try.func165 c165

theorem c92 : comp Try.prog tab F.mem_Mem_Store.closed F.mem_Mem_Store_hs Try.f92 = some F.mem_Mem_Store := by kernel_rfl
theorem g92 : FnOk Try.prog tab prog (92, 203) := FnOk.of (by kernel_rfl) (by kernel_rfl) Try.func92 c92

theorem c99 : comp Try.prog tab F.mem_Mem_Swap.closed F.mem_Mem_Swap_hs Try.f99 = some F.mem_Mem_Swap := by kernel_rfl
theorem g99 : FnOk Try.prog tab prog (99, 269) := FnOk.of (by kernel_rfl) (by kernel_rfl) Try.func99 c99

theorem c142 : comp Try.prog tab F.mem_Mem_Touches.closed F.mem_Mem_Touches_hs Try.f142 = some F.mem_Mem_Touches := by kernel_rfl
theorem g142 : FnOk Try.prog tab prog (142, 107) := FnOk.of (by kernel_rfl) (by kernel_rfl) Try.func142 c142

theorem c40 : comp Try.prog tab F.mem_Mem_Words.closed F.mem_Mem_Words_hs Try.f40 = some F.mem_Mem_Words := by kernel_rfl
theorem g40 : FnOk Try.prog tab prog (40, 94) := FnOk.of (by kernel_rfl) (by kernel_rfl) Try.func40 c40

theorem c144 : comp Try.prog tab F.mem_Mem_there.closed F.mem_Mem_there_hs Try.f144 = some F.mem_Mem_there := by kernel_rfl
theorem g144 : FnOk Try.prog tab prog (144, 346) := FnOk.of (by kernel_rfl) (by kernel_rfl) Try.func144 c144

theorem c145 : comp Try.prog tab F.mem_Mem_touch.closed F.mem_Mem_touch_hs Try.f145 = some F.mem_Mem_touch := by kernel_rfl
theorem g145 : FnOk Try.prog tab prog (145, 347) := FnOk.of (by kernel_rfl) (by kernel_rfl) Try.func145 c145

theorem c84 : comp Try.prog tab F.mem_Of.closed F.mem_Of_hs Try.f84 = some F.mem_Of := by kernel_rfl
theorem g84 : FnOk Try.prog tab prog (84, 198) := FnOk.of (by kernel_rfl) (by kernel_rfl) Try.func84 c84

theorem c94 : comp Try.prog tab F.plan_Header.closed F.plan_Header_hs Try.f94 = some F.plan_Header := by kernel_rfl
theorem g94 : FnOk Try.prog tab prog (94, 261) := FnOk.of (by kernel_rfl) (by kernel_rfl) Try.func94 c94

theorem c60 : comp Try.prog tab F.plan_Right.closed F.plan_Right_hs Try.f60 = some F.plan_Right := by kernel_rfl
theorem g60 : FnOk Try.prog tab prog (60, 263) := FnOk.of (by kernel_rfl) (by kernel_rfl) Try.func60 c60

theorem c106 : comp Try.prog tab F.plan_Size.closed F.plan_Size_hs Try.f106 = some F.plan_Size := by kernel_rfl
theorem g106 : FnOk Try.prog tab prog (106, 264) := FnOk.of (by kernel_rfl) (by kernel_rfl) Try.func106 c106

theorem c136 : comp Try.prog tab F.plan_between.closed F.plan_between_hs Try.f136 = some F.plan_between := by kernel_rfl
theorem g136 : FnOk Try.prog tab prog (136, 376) := FnOk.of (by kernel_rfl) (by kernel_rfl) Try.func136 c136

theorem c150 : comp Try.prog tab F.plan_room.closed F.plan_room_hs Try.f150 = some F.plan_room := by kernel_rfl
theorem g150 : FnOk Try.prog tab prog (150, 378) := FnOk.of (by kernel_rfl) (by kernel_rfl) Try.func150 c150

theorem c149 : comp Try.prog tab F.plan_slots.closed F.plan_slots_hs Try.f149 = some F.plan_slots := by kernel_rfl
theorem g149 : FnOk Try.prog tab prog (149, 377) := FnOk.of (by kernel_rfl) (by kernel_rfl) Try.func149 c149

theorem c146 : comp Try.prog tab F.plan_within.closed F.plan_within_hs Try.f146 = some F.plan_within := by kernel_rfl
theorem g146 : FnOk Try.prog tab prog (146, 375) := FnOk.of (by kernel_rfl) (by kernel_rfl) Try.func146 c146

theorem c97 : comp Try.prog tab F.shade_NewShade.closed F.shade_NewShade_hs Try.f97 = some F.shade_NewShade := by kernel_rfl
theorem g97 : FnOk Try.prog tab prog (97, 90) := FnOk.of (by kernel_rfl) (by kernel_rfl) Try.func97 c97

theorem c98 : comp Try.prog tab F.shade_Shade_Step.closed F.shade_Shade_Step_hs Try.f98 = some F.shade_Shade_Step := by kernel_rfl
theorem g98 : FnOk Try.prog tab prog (98, 91) := FnOk.of (by kernel_rfl) (by kernel_rfl) Try.func98 c98

theorem c101 : comp Try.prog tab F.slices_Clone___uint64_uint64_.closed F.slices_Clone___uint64_uint64__hs Try.f101 = some F.slices_Clone___uint64_uint64_ := by kernel_rfl
theorem g101 : FnOk Try.prog tab prog (101, 271) := FnOk.of (by kernel_rfl) (by kernel_rfl) Try.func101 c101

theorem c152 : comp Try.prog tab F.turn_Black.closed F.turn_Black_hs Try.f152 = some F.turn_Black := by kernel_rfl
theorem g152 : FnOk Try.prog tab prog (152, 381) := FnOk.of (by kernel_rfl) (by kernel_rfl) Try.func152 c152

theorem c169 : comp Try.prog tab F.turn_Cycle.closed F.turn_Cycle_hs Try.f169 = some F.turn_Cycle := by kernel_rfl
theorem g169 : FnOk Try.prog tab prog (169, 442) := FnOk.of (by kernel_rfl) (by kernel_rfl) Try.func169 c169

theorem c96 : comp Try.prog tab F.turn_Fenced.closed F.turn_Fenced_hs Try.f96 = some F.turn_Fenced := by kernel_rfl
theorem g96 : FnOk Try.prog tab prog (96, 308) := FnOk.of (by kernel_rfl) (by kernel_rfl) Try.func96 c96

theorem c127 : comp Try.prog tab F.withyref03_Black.closed F.withyref03_Black_hs Try.f127 = some F.withyref03_Black := by kernel_rfl
theorem g127 : FnOk Try.prog tab prog (127, 110) := FnOk.of (by kernel_rfl) (by kernel_rfl) Try.func127 c127

theorem c122 : comp Try.prog tab F.withyref04_Lives.closed F.withyref04_Lives_hs Try.f122 = some F.withyref04_Lives := by kernel_rfl
theorem g122 : FnOk Try.prog tab prog (122, 112) := FnOk.of (by kernel_rfl) (by kernel_rfl) Try.func122 c122

theorem c119 : comp Try.prog tab F.withyref04_Marked.closed F.withyref04_Marked_hs Try.f119 = some F.withyref04_Marked := by kernel_rfl
theorem g119 : FnOk Try.prog tab prog (119, 113) := FnOk.of (by kernel_rfl) (by kernel_rfl) Try.func119 c119

theorem c83 : comp Try.prog tab F.withyref04_Pack.closed F.withyref04_Pack_hs Try.f83 = some F.withyref04_Pack := by kernel_rfl
theorem g83 : FnOk Try.prog tab prog (83, 111) := FnOk.of (by kernel_rfl) (by kernel_rfl) Try.func83 c83

theorem c124 : comp Try.prog tab F.withyref04_Right.closed F.withyref04_Right_hs Try.f124 = some F.withyref04_Right := by kernel_rfl
theorem g124 : FnOk Try.prog tab prog (124, 202) := FnOk.of (by kernel_rfl) (by kernel_rfl) Try.func124 c124

theorem c117 : comp Try.prog tab F.withyref04_Unpack.closed F.withyref04_Unpack_hs Try.f117 = some F.withyref04_Unpack := by kernel_rfl
theorem g117 : FnOk Try.prog tab prog (117, 109) := FnOk.of (by kernel_rfl) (by kernel_rfl) Try.func117 c117

theorem c93 : comp Try.prog tab F.withyref06_At.closed F.withyref06_At_hs Try.f93 = some F.withyref06_At := by kernel_rfl
theorem g93 : FnOk Try.prog tab prog (93, 108) := FnOk.of (by kernel_rfl) (by kernel_rfl) Try.func93 c93

theorem c47 : comp Try.prog tab F.withyref06_Fit.closed F.withyref06_Fit_hs Try.f47 = some F.withyref06_Fit := by kernel_rfl
theorem g47 : FnOk Try.prog tab prog (47, 92) := FnOk.of (by kernel_rfl) (by kernel_rfl) Try.func47 c47

theorem c82 : comp Try.prog tab F.withyref06_Memory.closed F.withyref06_Memory_hs Try.f82 = some F.withyref06_Memory := by kernel_rfl
theorem g82 : FnOk Try.prog tab prog (82, 86) := FnOk.of (by kernel_rfl) (by kernel_rfl) Try.func82 c82

theorem c115 : comp Try.prog tab F.withyref06_Right.closed F.withyref06_Right_hs Try.f115 = some F.withyref06_Right := by kernel_rfl
theorem g115 : FnOk Try.prog tab prog (115, 85) := FnOk.of (by kernel_rfl) (by kernel_rfl) Try.func115 c115

theorem c125 : comp Try.prog tab F.withyref06_Room.closed F.withyref06_Room_hs Try.f125 = some F.withyref06_Room := by kernel_rfl
theorem g125 : FnOk Try.prog tab prog (125, 149) := FnOk.of (by kernel_rfl) (by kernel_rfl) Try.func125 c125

theorem c116 : comp Try.prog tab F.withyref06_Words.closed F.withyref06_Words_hs Try.f116 = some F.withyref06_Words := by kernel_rfl
theorem g116 : FnOk Try.prog tab prog (116, 87) := FnOk.of (by kernel_rfl) (by kernel_rfl) Try.func116 c116

theorem c123 : comp Try.prog tab F.withyref06_fit.closed F.withyref06_fit_hs Try.f123 = some F.withyref06_fit := by kernel_rfl
theorem g123 : FnOk Try.prog tab prog (123, 270) := FnOk.of (by kernel_rfl) (by kernel_rfl) Try.func123 c123

theorem c194 : comp Try.prog tab F.word_Fits.closed F.word_Fits_hs Try.f194 = some F.word_Fits := by kernel_rfl
theorem g194 : FnOk Try.prog tab prog (194, 484) := FnOk.of (by kernel_rfl) (by kernel_rfl) Try.func194 c194

theorem c155 : comp Try.prog tab F.word_Get.closed F.word_Get_hs Try.f155 = some F.word_Get := by kernel_rfl
theorem g155 : FnOk Try.prog tab prog (155, 396) := FnOk.of (by kernel_rfl) (by kernel_rfl) Try.func155 c155

theorem c170 : comp Try.prog tab F.word_Pack.closed F.word_Pack_hs Try.f170 = some F.word_Pack := by kernel_rfl
theorem g170 : FnOk Try.prog tab prog (170, 443) := FnOk.of (by kernel_rfl) (by kernel_rfl) Try.func170 c170

theorem c154 : comp Try.prog tab F.word_Unpack.closed F.word_Unpack_hs Try.f154 = some F.word_Unpack := by kernel_rfl
theorem g154 : FnOk Try.prog tab prog (154, 379) := FnOk.of (by kernel_rfl) (by kernel_rfl) Try.func154 c154

theorem c173 : comp Try.prog tab F.word_mask.closed F.word_mask_hs Try.f173 = some F.word_mask := by kernel_rfl
theorem g173 : FnOk Try.prog tab prog (173, 449) := FnOk.of (by kernel_rfl) (by kernel_rfl) Try.func173 c173

theorem c172 : comp Try.prog tab F.word_some.closed F.word_some_hs Try.f172 = some F.word_some := by kernel_rfl
theorem g172 : FnOk Try.prog tab prog (172, 441) := FnOk.of (by kernel_rfl) (by kernel_rfl) Try.func172 c172

theorem progOk : ProgOk Try.prog tab prog := ProgOk.of_fn (l := tab.fn) rfl (by
  unfold tab
  exact List.forall_mem_cons.mpr ⟨g12, List.forall_mem_cons.mpr ⟨g52, List.forall_mem_cons.mpr ⟨g55, List.forall_mem_cons.mpr ⟨g56, List.forall_mem_cons.mpr ⟨g57, List.forall_mem_cons.mpr ⟨g58, List.forall_mem_cons.mpr ⟨g50, List.forall_mem_cons.mpr ⟨g53, List.forall_mem_cons.mpr ⟨g128, List.forall_mem_cons.mpr ⟨g129, List.forall_mem_cons.mpr ⟨g131, List.forall_mem_cons.mpr ⟨g132, List.forall_mem_cons.mpr ⟨g158, List.forall_mem_cons.mpr ⟨g159, List.forall_mem_cons.mpr ⟨g130, List.forall_mem_cons.mpr ⟨g161, List.forall_mem_cons.mpr ⟨g133, List.forall_mem_cons.mpr ⟨g134, List.forall_mem_cons.mpr ⟨g174, List.forall_mem_cons.mpr ⟨g175, List.forall_mem_cons.mpr ⟨g176, List.forall_mem_cons.mpr ⟨g177, List.forall_mem_cons.mpr ⟨g178, List.forall_mem_cons.mpr ⟨g179, List.forall_mem_cons.mpr ⟨g180, List.forall_mem_cons.mpr ⟨g181, List.forall_mem_cons.mpr ⟨g182, List.forall_mem_cons.mpr ⟨g183, List.forall_mem_cons.mpr ⟨g160, List.forall_mem_cons.mpr ⟨g184, List.forall_mem_cons.mpr ⟨g195, List.forall_mem_cons.mpr ⟨g196, List.forall_mem_cons.mpr ⟨g197, List.forall_mem_cons.mpr ⟨g198, List.forall_mem_cons.mpr ⟨g199, List.forall_mem_cons.mpr ⟨g200, List.forall_mem_cons.mpr ⟨g201, List.forall_mem_cons.mpr ⟨g202, List.forall_mem_cons.mpr ⟨g192, List.forall_mem_cons.mpr ⟨g110, List.forall_mem_cons.mpr ⟨g153, List.forall_mem_cons.mpr ⟨g108, List.forall_mem_cons.mpr ⟨g109, List.forall_mem_cons.mpr ⟨g171, List.forall_mem_cons.mpr ⟨g151, List.forall_mem_cons.mpr ⟨g147, List.forall_mem_cons.mpr ⟨g89, List.forall_mem_cons.mpr ⟨g165, List.forall_mem_cons.mpr ⟨g92, List.forall_mem_cons.mpr ⟨g99, List.forall_mem_cons.mpr ⟨g142, List.forall_mem_cons.mpr ⟨g40, List.forall_mem_cons.mpr ⟨g144, List.forall_mem_cons.mpr ⟨g145, List.forall_mem_cons.mpr ⟨g84, List.forall_mem_cons.mpr ⟨g94, List.forall_mem_cons.mpr ⟨g60, List.forall_mem_cons.mpr ⟨g106, List.forall_mem_cons.mpr ⟨g136, List.forall_mem_cons.mpr ⟨g150, List.forall_mem_cons.mpr ⟨g149, List.forall_mem_cons.mpr ⟨g146, List.forall_mem_cons.mpr ⟨g97, List.forall_mem_cons.mpr ⟨g98, List.forall_mem_cons.mpr ⟨g101, List.forall_mem_cons.mpr ⟨g152, List.forall_mem_cons.mpr ⟨g169, List.forall_mem_cons.mpr ⟨g96, List.forall_mem_cons.mpr ⟨g127, List.forall_mem_cons.mpr ⟨g122, List.forall_mem_cons.mpr ⟨g119, List.forall_mem_cons.mpr ⟨g83, List.forall_mem_cons.mpr ⟨g124, List.forall_mem_cons.mpr ⟨g117, List.forall_mem_cons.mpr ⟨g93, List.forall_mem_cons.mpr ⟨g47, List.forall_mem_cons.mpr ⟨g82, List.forall_mem_cons.mpr ⟨g115, List.forall_mem_cons.mpr ⟨g125, List.forall_mem_cons.mpr ⟨g116, List.forall_mem_cons.mpr ⟨g123, List.forall_mem_cons.mpr ⟨g194, List.forall_mem_cons.mpr ⟨g155, List.forall_mem_cons.mpr ⟨g170, List.forall_mem_cons.mpr ⟨g154, List.forall_mem_cons.mpr ⟨g173, List.forall_mem_cons.mpr ⟨g172, List.forall_mem_nil _⟩⟩⟩⟩⟩⟩⟩⟩⟩⟩⟩⟩⟩⟩⟩⟩⟩⟩⟩⟩⟩⟩⟩⟩⟩⟩⟩⟩⟩⟩⟩⟩⟩⟩⟩⟩⟩⟩⟩⟩⟩⟩⟩⟩⟩⟩⟩⟩⟩⟩⟩⟩⟩⟩⟩⟩⟩⟩⟩⟩⟩⟩⟩⟩⟩⟩⟩⟩⟩⟩⟩⟩⟩⟩⟩⟩⟩⟩⟩⟩⟩⟩⟩⟩⟩⟩⟩)

theorem methOk : MethOk Try.prog tab meth := fun T t mm m f _ h => by simp [tab, assocS] at h

theorem callOk : CallOk Try.prog tab C := callW_ok (by kernel_rfl) progOk methOk
end Wm.Seat
