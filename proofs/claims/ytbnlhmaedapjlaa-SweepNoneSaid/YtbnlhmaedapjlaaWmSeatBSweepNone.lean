/- How the seat's functions are those of my table. -/
import Derived.Test.YtbnlhmaedapjlaaChecked
import Derived.Test.YtbnlhmaedapjlaaWmProgSweepNone
import Derived.Test.YtbnlhmaedapjlaaWmMeth
set_option linter.all false
namespace Wm.Seat
open Wm Go Go.Proofs

def tab : Tab := { fn := [(6, 38), (10, 85), (34, 188), (35, 189), (36, 190), (37, 191), (38, 192), (57, 263), (56, 261), (46, 266), (54, 269), (79, 340), (71, 265), (80, 341), (81, 342), (82, 121), (65, 198), (83, 199), (92, 376), (89, 375), (87, 346), (88, 347), (121, 380), (122, 381), (123, 382), (117, 379), (50, 203), (124, 409), (125, 410), (126, 411), (94, 86), (116, 108), (95, 111), (11, 149), (127, 202), (128, 297), (111, 271), (98, 107), (136, 377), (135, 378), (134, 413), (147, 442), (148, 443), (149, 444), (141, 396), (145, 441), (130, 293), (150, 391), (151, 461), (137, 87), (142, 109), (152, 322), (155, 484), (154, 449), (156, 447), (129, 350), (157, 462), (153, 414)], ty := [(51, 206), (52, 207)], meth := [("Step", 0)] }

theorem c6 : comp Try.prog tab F.withylaw14_SweepNone.closed F.withylaw14_SweepNone_hs Try.f6 = some F.withylaw14_SweepNone := by kernel_rfl
theorem g6 : FnOk Try.prog tab prog (6, 38) := FnOk.of (by kernel_rfl) (by kernel_rfl) Try.func6 c6

theorem c10 : comp Try.prog tab F.withyref06_Right.closed F.withyref06_Right_hs Try.f10 = some F.withyref06_Right := by kernel_rfl
theorem g10 : FnOk Try.prog tab prog (10, 85) := FnOk.of (by kernel_rfl) (by kernel_rfl) Try.func10 c10

theorem c34 : comp Try.prog tab F.sweep_NewSweep.closed F.sweep_NewSweep_hs Try.f34 = some F.sweep_NewSweep := by kernel_rfl
theorem g34 : FnOk Try.prog tab prog (34, 188) := FnOk.of (by kernel_rfl) (by kernel_rfl) Try.func34 c34

theorem c35 : comp Try.prog tab F.sweep_NewReclaim.closed F.sweep_NewReclaim_hs Try.f35 = some F.sweep_NewReclaim := by kernel_rfl
theorem g35 : FnOk Try.prog tab prog (35, 189) := FnOk.of (by kernel_rfl) (by kernel_rfl) Try.func35 c35

theorem c36 : comp Try.prog tab F.sweep_Sweep_Step.closed F.sweep_Sweep_Step_hs Try.f36 = some F.sweep_Sweep_Step := by kernel_rfl
theorem g36 : FnOk Try.prog tab prog (36, 190) := FnOk.of (by kernel_rfl) (by kernel_rfl) Try.func36 c36

theorem c37 : comp Try.prog tab F.sweep_Reclaim_Step.closed F.sweep_Reclaim_Step_hs Try.f37 = some F.sweep_Reclaim_Step := by kernel_rfl
theorem g37 : FnOk Try.prog tab prog (37, 191) := FnOk.of (by kernel_rfl) (by kernel_rfl) Try.func37 c37

theorem c38 : comp Try.prog tab F.withylaw14_awake.closed F.withylaw14_awake_hs Try.f38 = some F.withylaw14_awake := by kernel_rfl
theorem g38 : FnOk Try.prog tab prog (38, 192) := FnOk.of (by kernel_rfl) (by kernel_rfl) Try.func38 c38

theorem c57 : comp Try.prog tab F.plan_Right.closed F.plan_Right_hs Try.f57 = some F.plan_Right := by kernel_rfl
theorem g57 : FnOk Try.prog tab prog (57, 263) := FnOk.of (by kernel_rfl) (by kernel_rfl) Try.func57 c57

theorem c56 : comp Try.prog tab F.plan_Header.closed F.plan_Header_hs Try.f56 = some F.plan_Header := by kernel_rfl
theorem g56 : FnOk Try.prog tab prog (56, 261) := FnOk.of (by kernel_rfl) (by kernel_rfl) Try.func56 c56

theorem c46 : comp Try.prog tab F.mem_Mem_Load.closed F.mem_Mem_Load_hs Try.f46 = some F.mem_Mem_Load := by kernel_rfl
theorem g46 : FnOk Try.prog tab prog (46, 266) := FnOk.of (by kernel_rfl) (by kernel_rfl) Try.func46 c46

theorem c54 : comp Try.prog tab F.mem_Mem_Swap.closed F.mem_Mem_Swap_hs Try.f54 = some F.mem_Mem_Swap := by kernel_rfl
theorem g54 : FnOk Try.prog tab prog (54, 269) := FnOk.of (by kernel_rfl) (by kernel_rfl) Try.func54 c54

theorem c79 : comp Try.prog tab F.head_Retired.closed F.head_Retired_hs Try.f79 = some F.head_Retired := by kernel_rfl
theorem g79 : FnOk Try.prog tab prog (79, 340) := FnOk.of (by kernel_rfl) (by kernel_rfl) Try.func79 c79

theorem c71 : comp Try.prog tab F.head_Unpack.closed F.head_Unpack_hs Try.f71 = some F.head_Unpack := by kernel_rfl
theorem g71 : FnOk Try.prog tab prog (71, 265) := FnOk.of (by kernel_rfl) (by kernel_rfl) Try.func71 c71

theorem c80 : comp Try.prog tab F.arena_NewFree.closed F.arena_NewFree_hs Try.f80 = some F.arena_NewFree := by kernel_rfl
theorem g80 : FnOk Try.prog tab prog (80, 341) := FnOk.of (by kernel_rfl) (by kernel_rfl) Try.func80 c80

theorem c81 : comp Try.prog tab F.arena_Free_Step.closed F.arena_Free_Step_hs Try.f81 = some F.arena_Free_Step := by kernel_rfl
theorem g81 : FnOk Try.prog tab prog (81, 342) := FnOk.of (by kernel_rfl) (by kernel_rfl) Try.func81 c81

theorem c82 : comp Try.prog tab F.withyref13_Laid.closed F.withyref13_Laid_hs Try.f82 = some F.withyref13_Laid := by kernel_rfl
theorem g82 : FnOk Try.prog tab prog (82, 121) := FnOk.of (by kernel_rfl) (by kernel_rfl) Try.func82 c82

theorem c65 : comp Try.prog tab F.mem_Of.closed F.mem_Of_hs Try.f65 = some F.mem_Of := by kernel_rfl
theorem g65 : FnOk Try.prog tab prog (65, 198) := FnOk.of (by kernel_rfl) (by kernel_rfl) Try.func65 c65

theorem c83 : comp Try.prog tab F.withylaw14_ends.closed F.withylaw14_ends_hs Try.f83 = some F.withylaw14_ends := by kernel_rfl
theorem g83 : FnOk Try.prog tab prog (83, 199) := FnOk.of (by kernel_rfl) (by kernel_rfl) Try.func83 c83

theorem c92 : comp Try.prog tab F.plan_between.closed F.plan_between_hs Try.f92 = some F.plan_between := by kernel_rfl
theorem g92 : FnOk Try.prog tab prog (92, 376) := FnOk.of (by kernel_rfl) (by kernel_rfl) Try.func92 c92

theorem c89 : comp Try.prog tab F.plan_within.closed F.plan_within_hs Try.f89 = some F.plan_within := by kernel_rfl
theorem g89 : FnOk Try.prog tab prog (89, 375) := FnOk.of (by kernel_rfl) (by kernel_rfl) Try.func89 c89

theorem c87 : comp Try.prog tab F.mem_Mem_there.closed F.mem_Mem_there_hs Try.f87 = some F.mem_Mem_there := by kernel_rfl
theorem g87 : FnOk Try.prog tab prog (87, 346) := FnOk.of (by kernel_rfl) (by kernel_rfl) Try.func87 c87

theorem c88 : comp Try.prog tab F.mem_Mem_touch.closed F.mem_Mem_touch_hs Try.f88 = some F.mem_Mem_touch := by kernel_rfl
theorem g88 : FnOk Try.prog tab prog (88, 347) := FnOk.of (by kernel_rfl) (by kernel_rfl) Try.func88 c88

theorem c121 : comp Try.prog tab F.head_lives.closed F.head_lives_hs Try.f121 = some F.head_lives := by kernel_rfl
theorem g121 : FnOk Try.prog tab prog (121, 380) := FnOk.of (by kernel_rfl) (by kernel_rfl) Try.func121 c121

theorem c122 : comp Try.prog tab F.turn_Black.closed F.turn_Black_hs Try.f122 = some F.turn_Black := by kernel_rfl
theorem g122 : FnOk Try.prog tab prog (122, 381) := FnOk.of (by kernel_rfl) (by kernel_rfl) Try.func122 c122

theorem c123 : comp Try.prog tab F.head_Pack.closed F.head_Pack_hs Try.f123 = some F.head_Pack := by kernel_rfl
theorem g123 : FnOk Try.prog tab prog (123, 382) := FnOk.of (by kernel_rfl) (by kernel_rfl) Try.func123 c123

theorem c117 : comp Try.prog tab F.word_Unpack.closed F.word_Unpack_hs Try.f117 = some F.word_Unpack := by kernel_rfl
theorem g117 : FnOk Try.prog tab prog (117, 379) := FnOk.of (by kernel_rfl) (by kernel_rfl) Try.func117 c117

theorem c50 : comp Try.prog tab F.mem_Mem_Store.closed F.mem_Mem_Store_hs Try.f50 = some F.mem_Mem_Store := by kernel_rfl
theorem g50 : FnOk Try.prog tab prog (50, 203) := FnOk.of (by kernel_rfl) (by kernel_rfl) Try.func50 c50

theorem c124 : comp Try.prog tab F.head_Freed.closed F.head_Freed_hs Try.f124 = some F.head_Freed := by kernel_rfl
theorem g124 : FnOk Try.prog tab prog (124, 409) := FnOk.of (by kernel_rfl) (by kernel_rfl) Try.func124 c124

theorem c125 : comp Try.prog tab F.stack_NewPush.closed F.stack_NewPush_hs Try.f125 = some F.stack_NewPush := by kernel_rfl
theorem g125 : FnOk Try.prog tab prog (125, 410) := FnOk.of (by kernel_rfl) (by kernel_rfl) Try.func125 c125

theorem c126 : comp Try.prog tab F.stack_Push_Step.closed F.stack_Push_Step_hs Try.f126 = some F.stack_Push_Step := by kernel_rfl
theorem g126 : FnOk Try.prog tab prog (126, 411) := FnOk.of (by kernel_rfl) (by kernel_rfl) Try.func126 c126

theorem c94 : comp Try.prog tab F.withyref06_Memory.closed F.withyref06_Memory_hs Try.f94 = some F.withyref06_Memory := by kernel_rfl
theorem g94 : FnOk Try.prog tab prog (94, 86) := FnOk.of (by kernel_rfl) (by kernel_rfl) Try.func94 c94

theorem c116 : comp Try.prog tab F.withyref06_At.closed F.withyref06_At_hs Try.f116 = some F.withyref06_At := by kernel_rfl
theorem g116 : FnOk Try.prog tab prog (116, 108) := FnOk.of (by kernel_rfl) (by kernel_rfl) Try.func116 c116

theorem c95 : comp Try.prog tab F.withyref04_Pack.closed F.withyref04_Pack_hs Try.f95 = some F.withyref04_Pack := by kernel_rfl
theorem g95 : FnOk Try.prog tab prog (95, 111) := FnOk.of (by kernel_rfl) (by kernel_rfl) Try.func95 c95

theorem c11 : comp Try.prog tab F.withyref06_Room.closed F.withyref06_Room_hs Try.f11 = some F.withyref06_Room := by kernel_rfl
theorem g11 : FnOk Try.prog tab prog (11, 149) := FnOk.of (by kernel_rfl) (by kernel_rfl) Try.func11 c11

theorem c127 : comp Try.prog tab F.withyref04_Right.closed F.withyref04_Right_hs Try.f127 = some F.withyref04_Right := by kernel_rfl
theorem g127 : FnOk Try.prog tab prog (127, 202) := FnOk.of (by kernel_rfl) (by kernel_rfl) Try.func127 c127

theorem c128 : comp Try.prog tab F.withyref13_Grays.closed F.withyref13_Grays_hs Try.f128 = some F.withyref13_Grays := by kernel_rfl
theorem g128 : FnOk Try.prog tab prog (128, 297) := FnOk.of (by kernel_rfl) (by kernel_rfl) Try.func128 c128

theorem c111 : comp Try.prog tab F.slices_Clone___uint64_uint64_.closed F.slices_Clone___uint64_uint64__hs Try.f111 = some F.slices_Clone___uint64_uint64_ := by kernel_rfl
theorem g111 : FnOk Try.prog tab prog (111, 271) := FnOk.of (by kernel_rfl) (by kernel_rfl) Try.func111 c111

theorem c98 : comp Try.prog tab F.mem_Mem_Touches.closed F.mem_Mem_Touches_hs Try.f98 = some F.mem_Mem_Touches := by kernel_rfl
theorem g98 : FnOk Try.prog tab prog (98, 107) := FnOk.of (by kernel_rfl) (by kernel_rfl) Try.func98 c98

theorem c136 : comp Try.prog tab F.plan_slots.closed F.plan_slots_hs Try.f136 = some F.plan_slots := by kernel_rfl
theorem g136 : FnOk Try.prog tab prog (136, 377) := FnOk.of (by kernel_rfl) (by kernel_rfl) Try.func136 c136

theorem c135 : comp Try.prog tab F.plan_room.closed F.plan_room_hs Try.f135 = some F.plan_room := by kernel_rfl
theorem g135 : FnOk Try.prog tab prog (135, 378) := FnOk.of (by kernel_rfl) (by kernel_rfl) Try.func135 c135

theorem c134 : comp Try.prog tab F.mem_Mem_Size.closed F.mem_Mem_Size_hs Try.f134 = some F.mem_Mem_Size := by kernel_rfl
theorem g134 : FnOk Try.prog tab prog (134, 413) := FnOk.of (by kernel_rfl) (by kernel_rfl) Try.func134 c134

theorem c147 : comp Try.prog tab F.turn_Cycle.closed F.turn_Cycle_hs Try.f147 = some F.turn_Cycle := by kernel_rfl
theorem g147 : FnOk Try.prog tab prog (147, 442) := FnOk.of (by kernel_rfl) (by kernel_rfl) Try.func147 c147

theorem c148 : comp Try.prog tab F.word_Pack.closed F.word_Pack_hs Try.f148 = some F.word_Pack := by kernel_rfl
theorem g148 : FnOk Try.prog tab prog (148, 443) := FnOk.of (by kernel_rfl) (by kernel_rfl) Try.func148 c148

theorem c149 : comp Try.prog tab F.head_bit.closed F.head_bit_hs Try.f149 = some F.head_bit := by kernel_rfl
theorem g149 : FnOk Try.prog tab prog (149, 444) := FnOk.of (by kernel_rfl) (by kernel_rfl) Try.func149 c149

theorem c141 : comp Try.prog tab F.word_Get.closed F.word_Get_hs Try.f141 = some F.word_Get := by kernel_rfl
theorem g141 : FnOk Try.prog tab prog (141, 396) := FnOk.of (by kernel_rfl) (by kernel_rfl) Try.func141 c141

theorem c145 : comp Try.prog tab F.word_some.closed F.word_some_hs Try.f145 = some F.word_some := by kernel_rfl
theorem g145 : FnOk Try.prog tab prog (145, 441) := FnOk.of (by kernel_rfl) (by kernel_rfl) Try.func145 c145

theorem c130 : comp Try.prog tab F.plan_Link.closed F.plan_Link_hs Try.f130 = some F.plan_Link := by kernel_rfl
theorem g130 : FnOk Try.prog tab prog (130, 293) := FnOk.of (by kernel_rfl) (by kernel_rfl) Try.func130 c130

theorem c150 : comp Try.prog tab F.stack_first.closed F.stack_first_hs Try.f150 = some F.stack_first := by kernel_rfl
theorem g150 : FnOk Try.prog tab prog (150, 391) := FnOk.of (by kernel_rfl) (by kernel_rfl) Try.func150 c150

theorem c151 : comp Try.prog tab F.tag_Moved.closed F.tag_Moved_hs Try.f151 = some F.tag_Moved := by kernel_rfl
theorem g151 : FnOk Try.prog tab prog (151, 461) := FnOk.of (by kernel_rfl) (by kernel_rfl) Try.func151 c151

theorem c137 : comp Try.prog tab F.withyref06_Words.closed F.withyref06_Words_hs Try.f137 = some F.withyref06_Words := by kernel_rfl
theorem g137 : FnOk Try.prog tab prog (137, 87) := FnOk.of (by kernel_rfl) (by kernel_rfl) Try.func137 c137

theorem c142 : comp Try.prog tab F.withyref04_Unpack.closed F.withyref04_Unpack_hs Try.f142 = some F.withyref04_Unpack := by kernel_rfl
theorem g142 : FnOk Try.prog tab prog (142, 109) := FnOk.of (by kernel_rfl) (by kernel_rfl) Try.func142 c142

theorem c152 : comp Try.prog tab F.withyref13_at.closed F.withyref13_at_hs Try.f152 = some F.withyref13_at := by kernel_rfl
theorem g152 : FnOk Try.prog tab prog (152, 322) := FnOk.of (by kernel_rfl) (by kernel_rfl) Try.func152 c152

theorem c155 : comp Try.prog tab F.word_Fits.closed F.word_Fits_hs Try.f155 = some F.word_Fits := by kernel_rfl
theorem g155 : FnOk Try.prog tab prog (155, 484) := FnOk.of (by kernel_rfl) (by kernel_rfl) Try.func155 c155

theorem c154 : comp Try.prog tab F.word_mask.closed F.word_mask_hs Try.f154 = some F.word_mask := by kernel_rfl
theorem g154 : FnOk Try.prog tab prog (154, 449) := FnOk.of (by kernel_rfl) (by kernel_rfl) Try.func154 c154

theorem c156 : comp Try.prog tab F.tag_TopParts.closed F.tag_TopParts_hs Try.f156 = some F.tag_TopParts := by kernel_rfl
theorem g156 : FnOk Try.prog tab prog (156, 447) := FnOk.of (by kernel_rfl) (by kernel_rfl) Try.func156 c156

theorem c129 : comp Try.prog tab F.tag_Top.closed F.tag_Top_hs Try.f129 = some F.tag_Top := by kernel_rfl
theorem g129 : FnOk Try.prog tab prog (129, 350) := FnOk.of (by kernel_rfl) (by kernel_rfl) Try.func129 c129

theorem c157 : comp Try.prog tab F.tag_slots.closed F.tag_slots_hs Try.f157 = some F.tag_slots := by kernel_rfl
theorem g157 : FnOk Try.prog tab prog (157, 462) := FnOk.of (by kernel_rfl) (by kernel_rfl) Try.func157 c157

theorem c153 : comp Try.prog tab F.tag_tagged.closed F.tag_tagged_hs Try.f153 = some F.tag_tagged := by kernel_rfl
theorem g153 : FnOk Try.prog tab prog (153, 414) := FnOk.of (by kernel_rfl) (by kernel_rfl) Try.func153 c153

theorem progOk : ProgOk Try.prog tab prog := ProgOk.of_fn (l := tab.fn) rfl (by
  unfold tab
  exact List.forall_mem_cons.mpr ⟨g6, List.forall_mem_cons.mpr ⟨g10, List.forall_mem_cons.mpr ⟨g34, List.forall_mem_cons.mpr ⟨g35, List.forall_mem_cons.mpr ⟨g36, List.forall_mem_cons.mpr ⟨g37, List.forall_mem_cons.mpr ⟨g38, List.forall_mem_cons.mpr ⟨g57, List.forall_mem_cons.mpr ⟨g56, List.forall_mem_cons.mpr ⟨g46, List.forall_mem_cons.mpr ⟨g54, List.forall_mem_cons.mpr ⟨g79, List.forall_mem_cons.mpr ⟨g71, List.forall_mem_cons.mpr ⟨g80, List.forall_mem_cons.mpr ⟨g81, List.forall_mem_cons.mpr ⟨g82, List.forall_mem_cons.mpr ⟨g65, List.forall_mem_cons.mpr ⟨g83, List.forall_mem_cons.mpr ⟨g92, List.forall_mem_cons.mpr ⟨g89, List.forall_mem_cons.mpr ⟨g87, List.forall_mem_cons.mpr ⟨g88, List.forall_mem_cons.mpr ⟨g121, List.forall_mem_cons.mpr ⟨g122, List.forall_mem_cons.mpr ⟨g123, List.forall_mem_cons.mpr ⟨g117, List.forall_mem_cons.mpr ⟨g50, List.forall_mem_cons.mpr ⟨g124, List.forall_mem_cons.mpr ⟨g125, List.forall_mem_cons.mpr ⟨g126, List.forall_mem_cons.mpr ⟨g94, List.forall_mem_cons.mpr ⟨g116, List.forall_mem_cons.mpr ⟨g95, List.forall_mem_cons.mpr ⟨g11, List.forall_mem_cons.mpr ⟨g127, List.forall_mem_cons.mpr ⟨g128, List.forall_mem_cons.mpr ⟨g111, List.forall_mem_cons.mpr ⟨g98, List.forall_mem_cons.mpr ⟨g136, List.forall_mem_cons.mpr ⟨g135, List.forall_mem_cons.mpr ⟨g134, List.forall_mem_cons.mpr ⟨g147, List.forall_mem_cons.mpr ⟨g148, List.forall_mem_cons.mpr ⟨g149, List.forall_mem_cons.mpr ⟨g141, List.forall_mem_cons.mpr ⟨g145, List.forall_mem_cons.mpr ⟨g130, List.forall_mem_cons.mpr ⟨g150, List.forall_mem_cons.mpr ⟨g151, List.forall_mem_cons.mpr ⟨g137, List.forall_mem_cons.mpr ⟨g142, List.forall_mem_cons.mpr ⟨g152, List.forall_mem_cons.mpr ⟨g155, List.forall_mem_cons.mpr ⟨g154, List.forall_mem_cons.mpr ⟨g156, List.forall_mem_cons.mpr ⟨g129, List.forall_mem_cons.mpr ⟨g157, List.forall_mem_cons.mpr ⟨g153, List.forall_mem_nil _⟩⟩⟩⟩⟩⟩⟩⟩⟩⟩⟩⟩⟩⟩⟩⟩⟩⟩⟩⟩⟩⟩⟩⟩⟩⟩⟩⟩⟩⟩⟩⟩⟩⟩⟩⟩⟩⟩⟩⟩⟩⟩⟩⟩⟩⟩⟩⟩⟩⟩⟩⟩⟩⟩⟩⟩⟩⟩)

theorem m52 (v : Value) (w : World) : (Go.method (Try.prog.types.size + Go.Made.depth) 52 v "Step").run Try.prog w = .ok (37, v) w := by kernel_rfl
theorem m51 (v : Value) (w : World) : (Go.method (Try.prog.types.size + Go.Made.depth) 51 v "Step").run Try.prog w = .ok (36, v) w := by kernel_rfl
theorem methOk : MethOk Try.prog tab meth := MethOk.of (n := "Step") (i := 0) rfl (by
  unfold tab
  exact List.forall_mem_cons.mpr ⟨(fun f hf => by
    have e : some 190 = some f := hf
    cases e
    exact ⟨36, by kernel_rfl, m51⟩), List.forall_mem_cons.mpr ⟨(fun f hf => by
    have e : some 191 = some f := hf
    cases e
    exact ⟨37, by kernel_rfl, m52⟩), List.forall_mem_nil _⟩⟩)

theorem callOk : CallOk Try.prog tab C := callW_ok (by kernel_rfl) progOk methOk
end Wm.Seat
