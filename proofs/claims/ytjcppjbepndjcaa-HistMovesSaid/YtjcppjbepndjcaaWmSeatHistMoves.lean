/- How the seat's functions are those of my table. -/
import Derived.Test.YtjcppjbepndjcaaChecked
import Derived.Test.YtjcppjbepndjcaaWmProgHistMoves
import Derived.Test.YtjcppjbepndjcaaWmMeth
set_option linter.all false
namespace Wm.Seat
open Wm Go Go.Proofs

def tab : Tab := { fn := [(14, 37), (50, 178), (52, 180), (53, 181), (57, 185), (59, 187), (55, 183), (128, 332), (129, 333), (131, 335), (132, 336), (158, 405), (159, 406), (130, 334), (161, 408), (133, 337), (134, 338), (174, 450), (175, 451), (176, 452), (177, 453), (178, 454), (179, 455), (180, 456), (181, 457), (182, 458), (183, 459), (160, 407), (184, 460), (195, 487), (196, 488), (197, 489), (198, 490), (199, 491), (200, 492), (201, 512), (202, 513)], ty := [], meth := [] }

theorem c14 : comp Try.prog tab F.withylaw18_HistMoves.closed F.withylaw18_HistMoves_hs Try.f14 = some F.withylaw18_HistMoves := by kernel_rfl
theorem g14 : FnOk Try.prog tab prog (14, 37) := FnOk.of (by kernel_rfl) (by kernel_rfl) Try.func14 c14

theorem c50 : comp Try.prog tab F.hist_Right.closed F.hist_Right_hs Try.f50 = some F.hist_Right := by kernel_rfl
theorem g50 : FnOk Try.prog tab prog (50, 178) := FnOk.of (by kernel_rfl) (by kernel_rfl) Try.func50 c50

theorem c52 : comp Try.prog tab F.withylaw18_awake.closed F.withylaw18_awake_hs Try.f52 = some F.withylaw18_awake := by kernel_rfl
theorem g52 : FnOk Try.prog tab prog (52, 180) := FnOk.of (by kernel_rfl) (by kernel_rfl) Try.func52 c52

theorem c53 : comp Try.prog tab F.hist_Order.closed F.hist_Order_hs Try.f53 = some F.hist_Order := by kernel_rfl
theorem g53 : FnOk Try.prog tab prog (53, 181) := FnOk.of (by kernel_rfl) (by kernel_rfl) Try.func53 c53

theorem c57 : comp Try.prog tab F.hist_Respects.closed F.hist_Respects_hs Try.f57 = some F.hist_Respects := by kernel_rfl
theorem g57 : FnOk Try.prog tab prog (57, 185) := FnOk.of (by kernel_rfl) (by kernel_rfl) Try.func57 c57

theorem c59 : comp Try.prog tab F.withylaw18_far.closed F.withylaw18_far_hs Try.f59 = some F.withylaw18_far := by kernel_rfl
theorem g59 : FnOk Try.prog tab prog (59, 187) := FnOk.of (by kernel_rfl) (by kernel_rfl) Try.func59 c59

theorem c55 : comp Try.prog tab F.hist_Ahead.closed F.hist_Ahead_hs Try.f55 = some F.hist_Ahead := by kernel_rfl
theorem g55 : FnOk Try.prog tab prog (55, 183) := FnOk.of (by kernel_rfl) (by kernel_rfl) Try.func55 c55

theorem c128 : comp Try.prog tab F.slices_SortFunc___int_int_.closed F.slices_SortFunc___int_int__hs Try.f128 = some F.slices_SortFunc___int_int_ := by kernel_rfl
theorem g128 : FnOk Try.prog tab prog (128, 332) := FnOk.of (by kernel_rfl) (by kernel_rfl) Try.func128 c128

theorem c129 : comp Try.prog tab F.hist_Right_1.closed F.hist_Right_1_hs Try.f129 = some F.hist_Right_1 := by kernel_rfl
theorem g129 : FnOk Try.prog tab prog (129, 333) := FnOk.of (by kernel_rfl) (by kernel_rfl) Try.func129 c129

theorem c131 : comp Try.prog tab F.slices_SortStableFunc___int_int_.closed F.slices_SortStableFunc___int_int__hs Try.f131 = some F.slices_SortStableFunc___int_int_ := by kernel_rfl
theorem g131 : FnOk Try.prog tab prog (131, 335) := FnOk.of (by kernel_rfl) (by kernel_rfl) Try.func131 c131

theorem c132 : comp Try.prog tab F.hist_Order_1.closed F.hist_Order_1_hs Try.f132 = some F.hist_Order_1 := by kernel_rfl
theorem g132 : FnOk Try.prog tab prog (132, 336) := FnOk.of (by kernel_rfl) (by kernel_rfl) Try.func132 c132

theorem c158 : comp Try.prog tab F.slices_pdqsortCmpFunc_int_.closed F.slices_pdqsortCmpFunc_int__hs Try.f158 = some F.slices_pdqsortCmpFunc_int_ := by kernel_rfl
theorem g158 : FnOk Try.prog tab prog (158, 405) := FnOk.of (by kernel_rfl) (by kernel_rfl) Try.func158 c158

theorem c159 : comp Try.prog tab F.math_bits_Len.closed F.math_bits_Len_hs Try.f159 = some F.math_bits_Len := by kernel_rfl
theorem g159 : FnOk Try.prog tab prog (159, 406) := FnOk.of (by kernel_rfl) (by kernel_rfl) Try.func159 c159

theorem c130 : comp Try.prog tab F.cmp_Compare_int_.closed F.cmp_Compare_int__hs Try.f130 = some F.cmp_Compare_int_ := by kernel_rfl
theorem g130 : FnOk Try.prog tab prog (130, 334) := FnOk.of (by kernel_rfl) (by kernel_rfl) Try.func130 c130

theorem c161 : comp Try.prog tab F.slices_stableCmpFunc_int_.closed F.slices_stableCmpFunc_int__hs Try.f161 = some F.slices_stableCmpFunc_int_ := by kernel_rfl
theorem g161 : FnOk Try.prog tab prog (161, 408) := FnOk.of (by kernel_rfl) (by kernel_rfl) Try.func161 c161

theorem c133 : comp Try.prog tab F.cmp_Or_int_.closed F.cmp_Or_int__hs Try.f133 = some F.cmp_Or_int_ := by kernel_rfl
theorem g133 : FnOk Try.prog tab prog (133, 337) := FnOk.of (by kernel_rfl) (by kernel_rfl) Try.func133 c133

theorem c134 : comp Try.prog tab F.hist_behind.closed F.hist_behind_hs Try.f134 = some F.hist_behind := by kernel_rfl
theorem g134 : FnOk Try.prog tab prog (134, 338) := FnOk.of (by kernel_rfl) (by kernel_rfl) Try.func134 c134

theorem c174 : comp Try.prog tab F.slices_insertionSortCmpFunc_int_.closed F.slices_insertionSortCmpFunc_int__hs Try.f174 = some F.slices_insertionSortCmpFunc_int_ := by kernel_rfl
theorem g174 : FnOk Try.prog tab prog (174, 450) := FnOk.of (by kernel_rfl) (by kernel_rfl) Try.func174 c174

theorem c175 : comp Try.prog tab F.slices_heapSortCmpFunc_int_.closed F.slices_heapSortCmpFunc_int__hs Try.f175 = some F.slices_heapSortCmpFunc_int_ := by kernel_rfl
theorem g175 : FnOk Try.prog tab prog (175, 451) := FnOk.of (by kernel_rfl) (by kernel_rfl) Try.func175 c175

theorem c176 : comp Try.prog tab F.slices_breakPatternsCmpFunc_int_.closed F.slices_breakPatternsCmpFunc_int__hs Try.f176 = some F.slices_breakPatternsCmpFunc_int_ := by kernel_rfl
theorem g176 : FnOk Try.prog tab prog (176, 452) := FnOk.of (by kernel_rfl) (by kernel_rfl) Try.func176 c176

theorem c177 : comp Try.prog tab F.slices_choosePivotCmpFunc_int_.closed F.slices_choosePivotCmpFunc_int__hs Try.f177 = some F.slices_choosePivotCmpFunc_int_ := by kernel_rfl
theorem g177 : FnOk Try.prog tab prog (177, 453) := FnOk.of (by kernel_rfl) (by kernel_rfl) Try.func177 c177

theorem c178 : comp Try.prog tab F.slices_reverseRangeCmpFunc_int_.closed F.slices_reverseRangeCmpFunc_int__hs Try.f178 = some F.slices_reverseRangeCmpFunc_int_ := by kernel_rfl
theorem g178 : FnOk Try.prog tab prog (178, 454) := FnOk.of (by kernel_rfl) (by kernel_rfl) Try.func178 c178

theorem c179 : comp Try.prog tab F.slices_partialInsertionSortCmpFunc_int_.closed F.slices_partialInsertionSortCmpFunc_int__hs Try.f179 = some F.slices_partialInsertionSortCmpFunc_int_ := by kernel_rfl
theorem g179 : FnOk Try.prog tab prog (179, 455) := FnOk.of (by kernel_rfl) (by kernel_rfl) Try.func179 c179

theorem c180 : comp Try.prog tab F.slices_partitionEqualCmpFunc_int_.closed F.slices_partitionEqualCmpFunc_int__hs Try.f180 = some F.slices_partitionEqualCmpFunc_int_ := by kernel_rfl
theorem g180 : FnOk Try.prog tab prog (180, 456) := FnOk.of (by kernel_rfl) (by kernel_rfl) Try.func180 c180

theorem c181 : comp Try.prog tab F.slices_partitionCmpFunc_int_.closed F.slices_partitionCmpFunc_int__hs Try.f181 = some F.slices_partitionCmpFunc_int_ := by kernel_rfl
theorem g181 : FnOk Try.prog tab prog (181, 457) := FnOk.of (by kernel_rfl) (by kernel_rfl) Try.func181 c181

theorem c182 : comp Try.prog tab F.math_bits_Len32.closed F.math_bits_Len32_hs Try.f182 = some F.math_bits_Len32 := by kernel_rfl
theorem g182 : FnOk Try.prog tab prog (182, 458) := FnOk.of (by kernel_rfl) (by kernel_rfl) Try.func182 c182

theorem c183 : comp Try.prog tab F.math_bits_Len64.closed F.math_bits_Len64_hs Try.f183 = some F.math_bits_Len64 := by kernel_rfl
theorem g183 : FnOk Try.prog tab prog (183, 459) := FnOk.of (by kernel_rfl) (by kernel_rfl) Try.func183 c183

theorem c160 : comp Try.prog tab F.cmp_isNaN_int_.closed F.cmp_isNaN_int__hs Try.f160 = some F.cmp_isNaN_int_ := by kernel_rfl
theorem g160 : FnOk Try.prog tab prog (160, 407) := FnOk.of (by kernel_rfl) (by kernel_rfl) Try.func160 c160

theorem c184 : comp Try.prog tab F.slices_symMergeCmpFunc_int_.closed F.slices_symMergeCmpFunc_int__hs Try.f184 = some F.slices_symMergeCmpFunc_int_ := by kernel_rfl
theorem g184 : FnOk Try.prog tab prog (184, 460) := FnOk.of (by kernel_rfl) (by kernel_rfl) Try.func184 c184

theorem c195 : comp Try.prog tab F.slices_siftDownCmpFunc_int_.closed F.slices_siftDownCmpFunc_int__hs Try.f195 = some F.slices_siftDownCmpFunc_int_ := by kernel_rfl
theorem g195 : FnOk Try.prog tab prog (195, 487) := FnOk.of (by kernel_rfl) (by kernel_rfl) Try.func195 c195

theorem c196 : comp Try.prog tab F.slices_nextPowerOfTwo.closed F.slices_nextPowerOfTwo_hs Try.f196 = some F.slices_nextPowerOfTwo := by kernel_rfl
theorem g196 : FnOk Try.prog tab prog (196, 488) := FnOk.of (by kernel_rfl) (by kernel_rfl) Try.func196 c196

theorem c197 : comp Try.prog tab F.slices_xorshift_Next.closed F.slices_xorshift_Next_hs Try.f197 = some F.slices_xorshift_Next := by kernel_rfl
theorem g197 : FnOk Try.prog tab prog (197, 489) := FnOk.of (by kernel_rfl) (by kernel_rfl) Try.func197 c197

theorem c198 : comp Try.prog tab F.slices_medianAdjacentCmpFunc_int_.closed F.slices_medianAdjacentCmpFunc_int__hs Try.f198 = some F.slices_medianAdjacentCmpFunc_int_ := by kernel_rfl
theorem g198 : FnOk Try.prog tab prog (198, 490) := FnOk.of (by kernel_rfl) (by kernel_rfl) Try.func198 c198

theorem c199 : comp Try.prog tab F.slices_medianCmpFunc_int_.closed F.slices_medianCmpFunc_int__hs Try.f199 = some F.slices_medianCmpFunc_int_ := by kernel_rfl
theorem g199 : FnOk Try.prog tab prog (199, 491) := FnOk.of (by kernel_rfl) (by kernel_rfl) Try.func199 c199

theorem c200 : comp Try.prog tab F.slices_rotateCmpFunc_int_.closed F.slices_rotateCmpFunc_int__hs Try.f200 = some F.slices_rotateCmpFunc_int_ := by kernel_rfl
theorem g200 : FnOk Try.prog tab prog (200, 492) := FnOk.of (by kernel_rfl) (by kernel_rfl) Try.func200 c200

theorem c201 : comp Try.prog tab F.slices_order2CmpFunc_int_.closed F.slices_order2CmpFunc_int__hs Try.f201 = some F.slices_order2CmpFunc_int_ := by kernel_rfl
theorem g201 : FnOk Try.prog tab prog (201, 512) := FnOk.of (by kernel_rfl) (by kernel_rfl) Try.func201 c201

theorem c202 : comp Try.prog tab F.slices_swapRangeCmpFunc_int_.closed F.slices_swapRangeCmpFunc_int__hs Try.f202 = some F.slices_swapRangeCmpFunc_int_ := by kernel_rfl
theorem g202 : FnOk Try.prog tab prog (202, 513) := FnOk.of (by kernel_rfl) (by kernel_rfl) Try.func202 c202

theorem progOk : ProgOk Try.prog tab prog := ProgOk.of_fn (l := tab.fn) rfl (by
  unfold tab
  exact List.forall_mem_cons.mpr ⟨g14, List.forall_mem_cons.mpr ⟨g50, List.forall_mem_cons.mpr ⟨g52, List.forall_mem_cons.mpr ⟨g53, List.forall_mem_cons.mpr ⟨g57, List.forall_mem_cons.mpr ⟨g59, List.forall_mem_cons.mpr ⟨g55, List.forall_mem_cons.mpr ⟨g128, List.forall_mem_cons.mpr ⟨g129, List.forall_mem_cons.mpr ⟨g131, List.forall_mem_cons.mpr ⟨g132, List.forall_mem_cons.mpr ⟨g158, List.forall_mem_cons.mpr ⟨g159, List.forall_mem_cons.mpr ⟨g130, List.forall_mem_cons.mpr ⟨g161, List.forall_mem_cons.mpr ⟨g133, List.forall_mem_cons.mpr ⟨g134, List.forall_mem_cons.mpr ⟨g174, List.forall_mem_cons.mpr ⟨g175, List.forall_mem_cons.mpr ⟨g176, List.forall_mem_cons.mpr ⟨g177, List.forall_mem_cons.mpr ⟨g178, List.forall_mem_cons.mpr ⟨g179, List.forall_mem_cons.mpr ⟨g180, List.forall_mem_cons.mpr ⟨g181, List.forall_mem_cons.mpr ⟨g182, List.forall_mem_cons.mpr ⟨g183, List.forall_mem_cons.mpr ⟨g160, List.forall_mem_cons.mpr ⟨g184, List.forall_mem_cons.mpr ⟨g195, List.forall_mem_cons.mpr ⟨g196, List.forall_mem_cons.mpr ⟨g197, List.forall_mem_cons.mpr ⟨g198, List.forall_mem_cons.mpr ⟨g199, List.forall_mem_cons.mpr ⟨g200, List.forall_mem_cons.mpr ⟨g201, List.forall_mem_cons.mpr ⟨g202, List.forall_mem_nil _⟩⟩⟩⟩⟩⟩⟩⟩⟩⟩⟩⟩⟩⟩⟩⟩⟩⟩⟩⟩⟩⟩⟩⟩⟩⟩⟩⟩⟩⟩⟩⟩⟩⟩⟩⟩⟩)

theorem methOk : MethOk Try.prog tab meth := fun T t mm m f _ h => by simp [tab, assocS] at h

theorem callOk : CallOk Try.prog tab C := callW_ok (by kernel_rfl) progOk methOk
end Wm.Seat
