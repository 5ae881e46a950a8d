/- How the seat's functions are those of my table. -/
import Derived.Test.YthkimcdeejjmbaaChecked
import Derived.Test.YthkimcdeejjmbaaWmProgLinFronts
import Derived.Test.YthkimcdeejjmbaaWmMeth
set_option linter.all false
namespace Wm.Seat
open Wm Go Go.Proofs

def tab : Tab := { fn := [(11, 47), (41, 204), (43, 205), (44, 206), (48, 208), (86, 348), (14, 96), (19, 103), (87, 178), (88, 181), (59, 263), (18, 115), (93, 349), (65, 82), (68, 83), (63, 279), (64, 280), (66, 281), (67, 282), (69, 283), (70, 284), (129, 183), (126, 332), (127, 333), (130, 335), (131, 336), (104, 376), (60, 285), (61, 286), (62, 287), (85, 331), (20, 105), (21, 106), (22, 116), (106, 383), (107, 384), (108, 385), (109, 386), (157, 405), (158, 406), (128, 334), (160, 408), (132, 337), (133, 338), (125, 404), (151, 445), (171, 450), (172, 451), (173, 452), (174, 453), (175, 454), (176, 455), (177, 456), (178, 457), (179, 458), (180, 459), (159, 407), (181, 460), (165, 485), (166, 486), (185, 487), (186, 488), (187, 489), (188, 490), (189, 491), (190, 492), (191, 512), (192, 513)], ty := [(9, 9), (107, 159)], meth := [] }

theorem c11 : comp Try.prog tab F.withylaw19_LinFronts.closed F.withylaw19_LinFronts_hs Try.f11 = some F.withylaw19_LinFronts := by kernel_rfl
theorem g11 : FnOk Try.prog tab prog (11, 47) := FnOk.of (by kernel_rfl) (by kernel_rfl) Try.func11 c11

theorem c41 : comp Try.prog tab F.withylaw19_awake.closed F.withylaw19_awake_hs Try.f41 = some F.withylaw19_awake := by kernel_rfl
theorem g41 : FnOk Try.prog tab prog (41, 204) := FnOk.of (by kernel_rfl) (by kernel_rfl) Try.func41 c41

theorem c43 : comp Try.prog tab F.lin_Replay.closed F.lin_Replay_hs Try.f43 = some F.lin_Replay := by kernel_rfl
theorem g43 : FnOk Try.prog tab prog (43, 205) := FnOk.of (by kernel_rfl) (by kernel_rfl) Try.func43 c43

theorem c44 : comp Try.prog tab F.lin_Points.closed F.lin_Points_hs Try.f44 = some F.lin_Points := by kernel_rfl
theorem g44 : FnOk Try.prog tab prog (44, 206) := FnOk.of (by kernel_rfl) (by kernel_rfl) Try.func44 c44

theorem c48 : comp Try.prog tab F.lin_Search.closed F.lin_Search_hs Try.f48 = some F.lin_Search := by kernel_rfl
theorem g48 : FnOk Try.prog tab prog (48, 208) := FnOk.of (by kernel_rfl) (by kernel_rfl) Try.func48 c48

theorem c86 : comp Try.prog tab F.withylaw19_config.closed F.withylaw19_config_hs Try.f86 = some F.withylaw19_config := by kernel_rfl
theorem g86 : FnOk Try.prog tab prog (86, 348) := FnOk.of (by kernel_rfl) (by kernel_rfl) Try.func86 c86

theorem c14 : comp Try.prog tab F.model_New.closed F.model_New_hs Try.f14 = some F.model_New := by kernel_rfl
theorem g14 : FnOk Try.prog tab prog (14, 96) := FnOk.of (by kernel_rfl) (by kernel_rfl) Try.func14 c14

theorem c19 : comp Try.prog tab F.model_Model_Does.closed F.model_Model_Does_hs Try.f19 = some F.model_Model_Does := by kernel_rfl
theorem g19 : FnOk Try.prog tab prog (19, 103) := FnOk.of (by kernel_rfl) (by kernel_rfl) Try.func19 c19

theorem c87 : comp Try.prog tab F.hist_Right.closed F.hist_Right_hs Try.f87 = some F.hist_Right := by kernel_rfl
theorem g87 : FnOk Try.prog tab prog (87, 178) := FnOk.of (by kernel_rfl) (by kernel_rfl) Try.func87 c87

theorem c88 : comp Try.prog tab F.hist_Order.closed F.hist_Order_hs Try.f88 = some F.hist_Order := by kernel_rfl
theorem g88 : FnOk Try.prog tab prog (88, 181) := FnOk.of (by kernel_rfl) (by kernel_rfl) Try.func88 c88

theorem c59 : comp Try.prog tab F.plan_Right.closed F.plan_Right_hs Try.f59 = some F.plan_Right := by kernel_rfl
theorem g59 : FnOk Try.prog tab prog (59, 263) := FnOk.of (by kernel_rfl) (by kernel_rfl) Try.func59 c59

theorem c18 : comp Try.prog tab F.model_Model_Copy.closed F.model_Model_Copy_hs Try.f18 = some F.model_Model_Copy := by kernel_rfl
theorem g18 : FnOk Try.prog tab prog (18, 115) := FnOk.of (by kernel_rfl) (by kernel_rfl) Try.func18 c18

theorem c93 : comp Try.prog tab F.lin_may.closed F.lin_may_hs Try.f93 = some F.lin_may := by kernel_rfl
theorem g93 : FnOk Try.prog tab prog (93, 349) := FnOk.of (by kernel_rfl) (by kernel_rfl) Try.func93 c93

theorem c65 : comp Try.prog tab F.op_Walk.closed F.op_Walk_hs Try.f65 = some F.op_Walk := by kernel_rfl
theorem g65 : FnOk Try.prog tab prog (65, 82) := FnOk.of (by kernel_rfl) (by kernel_rfl) Try.func65 c65

theorem c68 : comp Try.prog tab F.op_Writes.closed F.op_Writes_hs Try.f68 = some F.op_Writes := by kernel_rfl
theorem g68 : FnOk Try.prog tab prog (68, 83) := FnOk.of (by kernel_rfl) (by kernel_rfl) Try.func68 c68

theorem c63 : comp Try.prog tab F.model_Model_client.closed F.model_Model_client_hs Try.f63 = some F.model_Model_client := by kernel_rfl
theorem g63 : FnOk Try.prog tab prog (63, 279) := FnOk.of (by kernel_rfl) (by kernel_rfl) Try.func63 c63

theorem c64 : comp Try.prog tab F.model_Model_makes.closed F.model_Model_makes_hs Try.f64 = some F.model_Model_makes := by kernel_rfl
theorem g64 : FnOk Try.prog tab prog (64, 280) := FnOk.of (by kernel_rfl) (by kernel_rfl) Try.func64 c64

theorem c66 : comp Try.prog tab F.model_Model_goes.closed F.model_Model_goes_hs Try.f66 = some F.model_Model_goes := by kernel_rfl
theorem g66 : FnOk Try.prog tab prog (66, 281) := FnOk.of (by kernel_rfl) (by kernel_rfl) Try.func66 c66

theorem c67 : comp Try.prog tab F.model_Model_asks.closed F.model_Model_asks_hs Try.f67 = some F.model_Model_asks := by kernel_rfl
theorem g67 : FnOk Try.prog tab prog (67, 282) := FnOk.of (by kernel_rfl) (by kernel_rfl) Try.func67 c67

theorem c69 : comp Try.prog tab F.model_Model_matches.closed F.model_Model_matches_hs Try.f69 = some F.model_Model_matches := by kernel_rfl
theorem g69 : FnOk Try.prog tab prog (69, 283) := FnOk.of (by kernel_rfl) (by kernel_rfl) Try.func69 c69

theorem c70 : comp Try.prog tab F.model_Model_done.closed F.model_Model_done_hs Try.f70 = some F.model_Model_done := by kernel_rfl
theorem g70 : FnOk Try.prog tab prog (70, 284) := FnOk.of (by kernel_rfl) (by kernel_rfl) Try.func70 c70

theorem c129 : comp Try.prog tab F.hist_Ahead.closed F.hist_Ahead_hs Try.f129 = some F.hist_Ahead := by kernel_rfl
theorem g129 : FnOk Try.prog tab prog (129, 183) := FnOk.of (by kernel_rfl) (by kernel_rfl) Try.func129 c129

theorem c126 : comp Try.prog tab F.slices_SortFunc___int_int_.closed F.slices_SortFunc___int_int__hs Try.f126 = some F.slices_SortFunc___int_int_ := by kernel_rfl
theorem g126 : FnOk Try.prog tab prog (126, 332) := FnOk.of (by kernel_rfl) (by kernel_rfl) Try.func126 c126

theorem c127 : comp Try.prog tab F.hist_Right_1.closed F.hist_Right_1_hs Try.f127 = some F.hist_Right_1 := by kernel_rfl
theorem g127 : FnOk Try.prog tab prog (127, 333) := FnOk.of (by kernel_rfl) (by kernel_rfl) Try.func127 c127

theorem c130 : comp Try.prog tab F.slices_SortStableFunc___int_int_.closed F.slices_SortStableFunc___int_int__hs Try.f130 = some F.slices_SortStableFunc___int_int_ := by kernel_rfl
theorem g130 : FnOk Try.prog tab prog (130, 335) := FnOk.of (by kernel_rfl) (by kernel_rfl) Try.func130 c130

theorem c131 : comp Try.prog tab F.hist_Order_1.closed F.hist_Order_1_hs Try.f131 = some F.hist_Order_1 := by kernel_rfl
theorem g131 : FnOk Try.prog tab prog (131, 336) := FnOk.of (by kernel_rfl) (by kernel_rfl) Try.func131 c131

theorem c104 : comp Try.prog tab F.plan_between.closed F.plan_between_hs Try.f104 = some F.plan_between := by kernel_rfl
theorem g104 : FnOk Try.prog tab prog (104, 376) := FnOk.of (by kernel_rfl) (by kernel_rfl) Try.func104 c104

theorem c60 : comp Try.prog tab F.slices_Clone___model_walk_model_walk_.closed F.slices_Clone___model_walk_model_walk__hs Try.f60 = some F.slices_Clone___model_walk_model_walk_ := by kernel_rfl
theorem g60 : FnOk Try.prog tab prog (60, 285) := FnOk.of (by kernel_rfl) (by kernel_rfl) Try.func60 c60

theorem c61 : comp Try.prog tab F.maps_Clone_map_uint64_int_uint64_int_.closed F.maps_Clone_map_uint64_int_uint64_int__hs Try.f61 = some F.maps_Clone_map_uint64_int_uint64_int_ := by kernel_rfl
theorem g61 : FnOk Try.prog tab prog (61, 286) := FnOk.of (by kernel_rfl) (by kernel_rfl) Try.func61 c61

theorem c62 : comp Try.prog tab F.slices_Clone___int_int_.closed F.slices_Clone___int_int__hs Try.f62 = some F.slices_Clone___int_int_ := by kernel_rfl
theorem g62 : FnOk Try.prog tab prog (62, 287) := FnOk.of (by kernel_rfl) (by kernel_rfl) Try.func62 c62

theorem c85 : comp Try.prog tab F.slices_Contains___int_int_.closed F.slices_Contains___int_int__hs Try.f85 = some F.slices_Contains___int_int_ := by kernel_rfl
theorem g85 : FnOk Try.prog tab prog (85, 331) := FnOk.of (by kernel_rfl) (by kernel_rfl) Try.func85 c85

theorem c20 : comp Try.prog tab F.model_Model_Held.closed F.model_Model_Held_hs Try.f20 = some F.model_Model_Held := by kernel_rfl
theorem g20 : FnOk Try.prog tab prog (20, 105) := FnOk.of (by kernel_rfl) (by kernel_rfl) Try.func20 c20

theorem c21 : comp Try.prog tab F.model_Model_Node.closed F.model_Model_Node_hs Try.f21 = some F.model_Model_Node := by kernel_rfl
theorem g21 : FnOk Try.prog tab prog (21, 106) := FnOk.of (by kernel_rfl) (by kernel_rfl) Try.func21 c21

theorem c22 : comp Try.prog tab F.model_Model_Field.closed F.model_Model_Field_hs Try.f22 = some F.model_Model_Field := by kernel_rfl
theorem g22 : FnOk Try.prog tab prog (22, 116) := FnOk.of (by kernel_rfl) (by kernel_rfl) Try.func22 c22

theorem c106 : comp Try.prog tab F.model_Model_fresh.closed F.model_Model_fresh_hs Try.f106 = some F.model_Model_fresh := by kernel_rfl
theorem g106 : FnOk Try.prog tab prog (106, 383) := FnOk.of (by kernel_rfl) (by kernel_rfl) Try.func106 c106

theorem c107 : comp Try.prog tab F.slices_Repeat___int_int_.closed F.slices_Repeat___int_int__hs Try.f107 = some F.slices_Repeat___int_int_ := by kernel_rfl
theorem g107 : FnOk Try.prog tab prog (107, 384) := FnOk.of (by kernel_rfl) (by kernel_rfl) Try.func107 c107

theorem c108 : comp Try.prog tab F.model_Model_hold.closed F.model_Model_hold_hs Try.f108 = some F.model_Model_hold := by kernel_rfl
theorem g108 : FnOk Try.prog tab prog (108, 385) := FnOk.of (by kernel_rfl) (by kernel_rfl) Try.func108 c108

theorem c109 : comp Try.prog tab F.model_Model_reached.closed F.model_Model_reached_hs Try.f109 = some F.model_Model_reached := by kernel_rfl
theorem g109 : FnOk Try.prog tab prog (109, 386) := FnOk.of (by kernel_rfl) (by kernel_rfl) Try.func109 c109

theorem c157 : comp Try.prog tab F.slices_pdqsortCmpFunc_int_.closed F.slices_pdqsortCmpFunc_int__hs Try.f157 = some F.slices_pdqsortCmpFunc_int_ := by kernel_rfl
theorem g157 : FnOk Try.prog tab prog (157, 405) := FnOk.of (by kernel_rfl) (by kernel_rfl) Try.func157 c157

theorem c158 : comp Try.prog tab F.math_bits_Len.closed F.math_bits_Len_hs Try.f158 = some F.math_bits_Len := by kernel_rfl
theorem g158 : FnOk Try.prog tab prog (158, 406) := FnOk.of (by kernel_rfl) (by kernel_rfl) Try.func158 c158

theorem c128 : comp Try.prog tab F.cmp_Compare_int_.closed F.cmp_Compare_int__hs Try.f128 = some F.cmp_Compare_int_ := by kernel_rfl
theorem g128 : FnOk Try.prog tab prog (128, 334) := FnOk.of (by kernel_rfl) (by kernel_rfl) Try.func128 c128

theorem c160 : comp Try.prog tab F.slices_stableCmpFunc_int_.closed F.slices_stableCmpFunc_int__hs Try.f160 = some F.slices_stableCmpFunc_int_ := by kernel_rfl
theorem g160 : FnOk Try.prog tab prog (160, 408) := FnOk.of (by kernel_rfl) (by kernel_rfl) Try.func160 c160

theorem c132 : comp Try.prog tab F.cmp_Or_int_.closed F.cmp_Or_int__hs Try.f132 = some F.cmp_Or_int_ := by kernel_rfl
theorem g132 : FnOk Try.prog tab prog (132, 337) := FnOk.of (by kernel_rfl) (by kernel_rfl) Try.func132 c132

theorem c133 : comp Try.prog tab F.hist_behind.closed F.hist_behind_hs Try.f133 = some F.hist_behind := by kernel_rfl
theorem g133 : FnOk Try.prog tab prog (133, 338) := FnOk.of (by kernel_rfl) (by kernel_rfl) Try.func133 c133

theorem c125 : comp Try.prog tab F.slices_Index___int_int_.closed F.slices_Index___int_int__hs Try.f125 = some F.slices_Index___int_int_ := by kernel_rfl
theorem g125 : FnOk Try.prog tab prog (125, 404) := FnOk.of (by kernel_rfl) (by kernel_rfl) Try.func125 c125

theorem c151 : comp Try.prog tab F.math_bits_Mul.closed F.math_bits_Mul_hs Try.f151 = some F.math_bits_Mul := by kernel_rfl
theorem g151 : FnOk Try.prog tab prog (151, 445) := FnOk.of (by kernel_rfl) (by kernel_rfl) Try.func151 c151

theorem c171 : comp Try.prog tab F.slices_insertionSortCmpFunc_int_.closed F.slices_insertionSortCmpFunc_int__hs Try.f171 = some F.slices_insertionSortCmpFunc_int_ := by kernel_rfl
theorem g171 : FnOk Try.prog tab prog (171, 450) := FnOk.of (by kernel_rfl) (by kernel_rfl) Try.func171 c171

theorem c172 : comp Try.prog tab F.slices_heapSortCmpFunc_int_.closed F.slices_heapSortCmpFunc_int__hs Try.f172 = some F.slices_heapSortCmpFunc_int_ := by kernel_rfl
theorem g172 : FnOk Try.prog tab prog (172, 451) := FnOk.of (by kernel_rfl) (by kernel_rfl) Try.func172 c172

theorem c173 : comp Try.prog tab F.slices_breakPatternsCmpFunc_int_.closed F.slices_breakPatternsCmpFunc_int__hs Try.f173 = some F.slices_breakPatternsCmpFunc_int_ := by kernel_rfl
theorem g173 : FnOk Try.prog tab prog (173, 452) := FnOk.of (by kernel_rfl) (by kernel_rfl) Try.func173 c173

theorem c174 : comp Try.prog tab F.slices_choosePivotCmpFunc_int_.closed F.slices_choosePivotCmpFunc_int__hs Try.f174 = some F.slices_choosePivotCmpFunc_int_ := by kernel_rfl
theorem g174 : FnOk Try.prog tab prog (174, 453) := FnOk.of (by kernel_rfl) (by kernel_rfl) Try.func174 c174

theorem c175 : comp Try.prog tab F.slices_reverseRangeCmpFunc_int_.closed F.slices_reverseRangeCmpFunc_int__hs Try.f175 = some F.slices_reverseRangeCmpFunc_int_ := by kernel_rfl
theorem g175 : FnOk Try.prog tab prog (175, 454) := FnOk.of (by kernel_rfl) (by kernel_rfl) Try.func175 c175

theorem c176 : comp Try.prog tab F.slices_partialInsertionSortCmpFunc_int_.closed F.slices_partialInsertionSortCmpFunc_int__hs Try.f176 = some F.slices_partialInsertionSortCmpFunc_int_ := by kernel_rfl
theorem g176 : FnOk Try.prog tab prog (176, 455) := FnOk.of (by kernel_rfl) (by kernel_rfl) Try.func176 c176

theorem c177 : comp Try.prog tab F.slices_partitionEqualCmpFunc_int_.closed F.slices_partitionEqualCmpFunc_int__hs Try.f177 = some F.slices_partitionEqualCmpFunc_int_ := by kernel_rfl
theorem g177 : FnOk Try.prog tab prog (177, 456) := FnOk.of (by kernel_rfl) (by kernel_rfl) Try.func177 c177

theorem c178 : comp Try.prog tab F.slices_partitionCmpFunc_int_.closed F.slices_partitionCmpFunc_int__hs Try.f178 = some F.slices_partitionCmpFunc_int_ := by kernel_rfl
theorem g178 : FnOk Try.prog tab prog (178, 457) := FnOk.of (by kernel_rfl) (by kernel_rfl) Try.func178 c178

theorem c179 : comp Try.prog tab F.math_bits_Len32.closed F.math_bits_Len32_hs Try.f179 = some F.math_bits_Len32 := by kernel_rfl
theorem g179 : FnOk Try.prog tab prog (179, 458) := FnOk.of (by kernel_rfl) (by kernel_rfl) Try.func179 c179

theorem c180 : comp Try.prog tab F.math_bits_Len64.closed F.math_bits_Len64_hs Try.f180 = some F.math_bits_Len64 := by kernel_rfl
theorem g180 : FnOk Try.prog tab prog (180, 459) := FnOk.of (by kernel_rfl) (by kernel_rfl) Try.func180 c180

theorem c159 : comp Try.prog tab F.cmp_isNaN_int_.closed F.cmp_isNaN_int__hs Try.f159 = some F.cmp_isNaN_int_ := by kernel_rfl
theorem g159 : FnOk Try.prog tab prog (159, 407) := FnOk.of (by kernel_rfl) (by kernel_rfl) Try.func159 c159

theorem c181 : comp Try.prog tab F.slices_symMergeCmpFunc_int_.closed F.slices_symMergeCmpFunc_int__hs Try.f181 = some F.slices_symMergeCmpFunc_int_ := by kernel_rfl
theorem g181 : FnOk Try.prog tab prog (181, 460) := FnOk.of (by kernel_rfl) (by kernel_rfl) Try.func181 c181

theorem c165 : comp Try.prog tab F.math_bits_Mul32.closed F.math_bits_Mul32_hs Try.f165 = some F.math_bits_Mul32 := by kernel_rfl
theorem g165 : FnOk Try.prog tab prog (165, 485) := FnOk.of (by kernel_rfl) (by kernel_rfl) Try.func165 c165

theorem c166 : comp Try.prog tab F.math_bits_Mul64.closed F.math_bits_Mul64_hs Try.f166 = some F.math_bits_Mul64 := by kernel_rfl
theorem g166 : FnOk Try.prog tab prog (166, 486) := FnOk.of (by kernel_rfl) (by kernel_rfl) Try.func166 c166

theorem c185 : comp Try.prog tab F.slices_siftDownCmpFunc_int_.closed F.slices_siftDownCmpFunc_int__hs Try.f185 = some F.slices_siftDownCmpFunc_int_ := by kernel_rfl
theorem g185 : FnOk Try.prog tab prog (185, 487) := FnOk.of (by kernel_rfl) (by kernel_rfl) Try.func185 c185

theorem c186 : comp Try.prog tab F.slices_nextPowerOfTwo.closed F.slices_nextPowerOfTwo_hs Try.f186 = some F.slices_nextPowerOfTwo := by kernel_rfl
theorem g186 : FnOk Try.prog tab prog (186, 488) := FnOk.of (by kernel_rfl) (by kernel_rfl) Try.func186 c186

theorem c187 : comp Try.prog tab F.slices_xorshift_Next.closed F.slices_xorshift_Next_hs Try.f187 = some F.slices_xorshift_Next := by kernel_rfl
theorem g187 : FnOk Try.prog tab prog (187, 489) := FnOk.of (by kernel_rfl) (by kernel_rfl) Try.func187 c187

theorem c188 : comp Try.prog tab F.slices_medianAdjacentCmpFunc_int_.closed F.slices_medianAdjacentCmpFunc_int__hs Try.f188 = some F.slices_medianAdjacentCmpFunc_int_ := by kernel_rfl
theorem g188 : FnOk Try.prog tab prog (188, 490) := FnOk.of (by kernel_rfl) (by kernel_rfl) Try.func188 c188

theorem c189 : comp Try.prog tab F.slices_medianCmpFunc_int_.closed F.slices_medianCmpFunc_int__hs Try.f189 = some F.slices_medianCmpFunc_int_ := by kernel_rfl
theorem g189 : FnOk Try.prog tab prog (189, 491) := FnOk.of (by kernel_rfl) (by kernel_rfl) Try.func189 c189

theorem c190 : comp Try.prog tab F.slices_rotateCmpFunc_int_.closed F.slices_rotateCmpFunc_int__hs Try.f190 = some F.slices_rotateCmpFunc_int_ := by kernel_rfl
theorem g190 : FnOk Try.prog tab prog (190, 492) := FnOk.of (by kernel_rfl) (by kernel_rfl) Try.func190 c190

theorem c191 : comp Try.prog tab F.slices_order2CmpFunc_int_.closed F.slices_order2CmpFunc_int__hs Try.f191 = some F.slices_order2CmpFunc_int_ := by kernel_rfl
theorem g191 : FnOk Try.prog tab prog (191, 512) := FnOk.of (by kernel_rfl) (by kernel_rfl) Try.func191 c191

theorem c192 : comp Try.prog tab F.slices_swapRangeCmpFunc_int_.closed F.slices_swapRangeCmpFunc_int__hs Try.f192 = some F.slices_swapRangeCmpFunc_int_ := by kernel_rfl
theorem g192 : FnOk Try.prog tab prog (192, 513) := FnOk.of (by kernel_rfl) (by kernel_rfl) Try.func192 c192

theorem progOk : ProgOk Try.prog tab prog := ProgOk.of_fn (l := tab.fn) rfl (by
  unfold tab
  exact List.forall_mem_cons.mpr ⟨g11, List.forall_mem_cons.mpr ⟨g41, List.forall_mem_cons.mpr ⟨g43, List.forall_mem_cons.mpr ⟨g44, List.forall_mem_cons.mpr ⟨g48, List.forall_mem_cons.mpr ⟨g86, List.forall_mem_cons.mpr ⟨g14, List.forall_mem_cons.mpr ⟨g19, List.forall_mem_cons.mpr ⟨g87, List.forall_mem_cons.mpr ⟨g88, List.forall_mem_cons.mpr ⟨g59, List.forall_mem_cons.mpr ⟨g18, List.forall_mem_cons.mpr ⟨g93, List.forall_mem_cons.mpr ⟨g65, List.forall_mem_cons.mpr ⟨g68, List.forall_mem_cons.mpr ⟨g63, List.forall_mem_cons.mpr ⟨g64, List.forall_mem_cons.mpr ⟨g66, List.forall_mem_cons.mpr ⟨g67, List.forall_mem_cons.mpr ⟨g69, List.forall_mem_cons.mpr ⟨g70, List.forall_mem_cons.mpr ⟨g129, List.forall_mem_cons.mpr ⟨g126, List.forall_mem_cons.mpr ⟨g127, List.forall_mem_cons.mpr ⟨g130, List.forall_mem_cons.mpr ⟨g131, List.forall_mem_cons.mpr ⟨g104, List.forall_mem_cons.mpr ⟨g60, List.forall_mem_cons.mpr ⟨g61, List.forall_mem_cons.mpr ⟨g62, List.forall_mem_cons.mpr ⟨g85, List.forall_mem_cons.mpr ⟨g20, List.forall_mem_cons.mpr ⟨g21, List.forall_mem_cons.mpr ⟨g22, List.forall_mem_cons.mpr ⟨g106, List.forall_mem_cons.mpr ⟨g107, List.forall_mem_cons.mpr ⟨g108, List.forall_mem_cons.mpr ⟨g109, List.forall_mem_cons.mpr ⟨g157, List.forall_mem_cons.mpr ⟨g158, List.forall_mem_cons.mpr ⟨g128, List.forall_mem_cons.mpr ⟨g160, List.forall_mem_cons.mpr ⟨g132, List.forall_mem_cons.mpr ⟨g133, List.forall_mem_cons.mpr ⟨g125, List.forall_mem_cons.mpr ⟨g151, List.forall_mem_cons.mpr ⟨g171, List.forall_mem_cons.mpr ⟨g172, List.forall_mem_cons.mpr ⟨g173, List.forall_mem_cons.mpr ⟨g174, List.forall_mem_cons.mpr ⟨g175, List.forall_mem_cons.mpr ⟨g176, List.forall_mem_cons.mpr ⟨g177, List.forall_mem_cons.mpr ⟨g178, List.forall_mem_cons.mpr ⟨g179, List.forall_mem_cons.mpr ⟨g180, List.forall_mem_cons.mpr ⟨g159, List.forall_mem_cons.mpr ⟨g181, List.forall_mem_cons.mpr ⟨g165, List.forall_mem_cons.mpr ⟨g166, List.forall_mem_cons.mpr ⟨g185, List.forall_mem_cons.mpr ⟨g186, List.forall_mem_cons.mpr ⟨g187, List.forall_mem_cons.mpr ⟨g188, List.forall_mem_cons.mpr ⟨g189, List.forall_mem_cons.mpr ⟨g190, List.forall_mem_cons.mpr ⟨g191, List.forall_mem_cons.mpr ⟨g192, List.forall_mem_nil _⟩⟩⟩⟩⟩⟩⟩⟩⟩⟩⟩⟩⟩⟩⟩⟩⟩⟩⟩⟩⟩⟩⟩⟩⟩⟩⟩⟩⟩⟩⟩⟩⟩⟩⟩⟩⟩⟩⟩⟩⟩⟩⟩⟩⟩⟩⟩⟩⟩⟩⟩⟩⟩⟩⟩⟩⟩⟩⟩⟩⟩⟩⟩⟩⟩⟩⟩⟩)

theorem methOk : MethOk Try.prog tab meth := fun T t mm m f _ h => by simp [tab, assocS] at h

theorem callOk : CallOk Try.prog tab C := callW_ok (by kernel_rfl) progOk methOk
end Wm.Seat
