/- How the seat's functions are those of my table. -/
import Derived.Test.YtmhebljpahogaaaChecked
import Derived.Test.YtmhebljpahogaaaWmProgShadeTwice
import Derived.Test.YtmhebljpahogaaaWmMeth
set_option linter.all false
namespace Wm.Seat
open Wm Go Go.Proofs

def tab : Tab := { fn := [(10, 10), (21, 84), (27, 90), (28, 91), (29, 92), (30, 93), (31, 94), (32, 95), (26, 89), (46, 203), (45, 213), (47, 261), (48, 262), (55, 266), (56, 267), (57, 268), (58, 269), (59, 270), (23, 86), (25, 88), (51, 108), (60, 110), (62, 111), (63, 198), (61, 202), (64, 271), (52, 263), (53, 264), (54, 265), (83, 346), (84, 347), (82, 293), (81, 350), (85, 375), (90, 380), (91, 381), (92, 382), (24, 87), (50, 109), (22, 85), (86, 376), (87, 377), (88, 378), (89, 379), (98, 413), (97, 414), (101, 442), (102, 443), (103, 444), (49, 149), (100, 396), (99, 441), (106, 462), (108, 484), (107, 449)], ty := [], meth := [] }

theorem c10 : comp Try.prog tab F.withylaw09_ShadeTwice.closed F.withylaw09_ShadeTwice_hs Try.f10 = some F.withylaw09_ShadeTwice := by kernel_rfl
theorem g10 : FnOk Try.prog tab prog (10, 10) := FnOk.of (by kernel_rfl) (by kernel_rfl) Try.func10 c10

theorem c21 : comp Try.prog tab F.withylaw09_awake.closed F.withylaw09_awake_hs Try.f21 = some F.withylaw09_awake := by kernel_rfl
theorem g21 : FnOk Try.prog tab prog (21, 84) := FnOk.of (by kernel_rfl) (by kernel_rfl) Try.func21 c21

theorem c27 : comp Try.prog tab F.shade_NewShade.closed F.shade_NewShade_hs Try.f27 = some F.shade_NewShade := by kernel_rfl
theorem g27 : FnOk Try.prog tab prog (27, 90) := FnOk.of (by kernel_rfl) (by kernel_rfl) Try.func27 c27

theorem c28 : comp Try.prog tab F.shade_Shade_Step.closed F.shade_Shade_Step_hs Try.f28 = some F.shade_Shade_Step := by kernel_rfl
theorem g28 : FnOk Try.prog tab prog (28, 91) := FnOk.of (by kernel_rfl) (by kernel_rfl) Try.func28 c28

theorem c29 : comp Try.prog tab F.withyref06_Fit.closed F.withyref06_Fit_hs Try.f29 = some F.withyref06_Fit := by kernel_rfl
theorem g29 : FnOk Try.prog tab prog (29, 92) := FnOk.of (by kernel_rfl) (by kernel_rfl) Try.func29 c29

theorem c30 : comp Try.prog tab F.withylaw09_filled.closed F.withylaw09_filled_hs Try.f30 = some F.withylaw09_filled := by kernel_rfl
theorem g30 : FnOk Try.prog tab prog (30, 93) := FnOk.of (by kernel_rfl) (by kernel_rfl) Try.func30 c30

theorem c31 : comp Try.prog tab F.mem_Mem_Words.closed F.mem_Mem_Words_hs Try.f31 = some F.mem_Mem_Words := by kernel_rfl
theorem g31 : FnOk Try.prog tab prog (31, 94) := FnOk.of (by kernel_rfl) (by kernel_rfl) Try.func31 c31

theorem c32 : comp Try.prog tab F.withyref06_Same.closed F.withyref06_Same_hs Try.f32 = some F.withyref06_Same := by kernel_rfl
theorem g32 : FnOk Try.prog tab prog (32, 95) := FnOk.of (by kernel_rfl) (by kernel_rfl) Try.func32 c32

theorem c26 : comp Try.prog tab F.shade_Grays.closed F.shade_Grays_hs Try.f26 = some F.shade_Grays := by kernel_rfl
theorem g26 : FnOk Try.prog tab prog (26, 89) := FnOk.of (by kernel_rfl) (by kernel_rfl) Try.func26 c26

theorem c46 : comp Try.prog tab F.mem_Mem_Store.closed F.mem_Mem_Store_hs Try.f46 = some F.mem_Mem_Store := by kernel_rfl
theorem g46 : FnOk Try.prog tab prog (46, 203) := FnOk.of (by kernel_rfl) (by kernel_rfl) Try.func46 c46

theorem c45 : comp Try.prog tab F.plan_Memory.closed F.plan_Memory_hs Try.f45 = some F.plan_Memory := by kernel_rfl
theorem g45 : FnOk Try.prog tab prog (45, 213) := FnOk.of (by kernel_rfl) (by kernel_rfl) Try.func45 c45

theorem c47 : comp Try.prog tab F.plan_Header.closed F.plan_Header_hs Try.f47 = some F.plan_Header := by kernel_rfl
theorem g47 : FnOk Try.prog tab prog (47, 261) := FnOk.of (by kernel_rfl) (by kernel_rfl) Try.func47 c47

theorem c48 : comp Try.prog tab F.withylaw09_small.closed F.withylaw09_small_hs Try.f48 = some F.withylaw09_small := by kernel_rfl
theorem g48 : FnOk Try.prog tab prog (48, 262) := FnOk.of (by kernel_rfl) (by kernel_rfl) Try.func48 c48

theorem c55 : comp Try.prog tab F.mem_Mem_Load.closed F.mem_Mem_Load_hs Try.f55 = some F.mem_Mem_Load := by kernel_rfl
theorem g55 : FnOk Try.prog tab prog (55, 266) := FnOk.of (by kernel_rfl) (by kernel_rfl) Try.func55 c55

theorem c56 : comp Try.prog tab F.head_Shaded.closed F.head_Shaded_hs Try.f56 = some F.head_Shaded := by kernel_rfl
theorem g56 : FnOk Try.prog tab prog (56, 267) := FnOk.of (by kernel_rfl) (by kernel_rfl) Try.func56 c56

theorem c57 : comp Try.prog tab F.mem_Mem_Add.closed F.mem_Mem_Add_hs Try.f57 = some F.mem_Mem_Add := by kernel_rfl
theorem g57 : FnOk Try.prog tab prog (57, 268) := FnOk.of (by kernel_rfl) (by kernel_rfl) Try.func57 c57

theorem c58 : comp Try.prog tab F.mem_Mem_Swap.closed F.mem_Mem_Swap_hs Try.f58 = some F.mem_Mem_Swap := by kernel_rfl
theorem g58 : FnOk Try.prog tab prog (58, 269) := FnOk.of (by kernel_rfl) (by kernel_rfl) Try.func58 c58

theorem c59 : comp Try.prog tab F.withyref06_fit.closed F.withyref06_fit_hs Try.f59 = some F.withyref06_fit := by kernel_rfl
theorem g59 : FnOk Try.prog tab prog (59, 270) := FnOk.of (by kernel_rfl) (by kernel_rfl) Try.func59 c59

theorem c23 : comp Try.prog tab F.withyref06_Memory.closed F.withyref06_Memory_hs Try.f23 = some F.withyref06_Memory := by kernel_rfl
theorem g23 : FnOk Try.prog tab prog (23, 86) := FnOk.of (by kernel_rfl) (by kernel_rfl) Try.func23 c23

theorem c25 : comp Try.prog tab F.withylaw09_grays.closed F.withylaw09_grays_hs Try.f25 = some F.withylaw09_grays := by kernel_rfl
theorem g25 : FnOk Try.prog tab prog (25, 88) := FnOk.of (by kernel_rfl) (by kernel_rfl) Try.func25 c25

theorem c51 : comp Try.prog tab F.withyref06_At.closed F.withyref06_At_hs Try.f51 = some F.withyref06_At := by kernel_rfl
theorem g51 : FnOk Try.prog tab prog (51, 108) := FnOk.of (by kernel_rfl) (by kernel_rfl) Try.func51 c51

theorem c60 : comp Try.prog tab F.withyref03_Black.closed F.withyref03_Black_hs Try.f60 = some F.withyref03_Black := by kernel_rfl
theorem g60 : FnOk Try.prog tab prog (60, 110) := FnOk.of (by kernel_rfl) (by kernel_rfl) Try.func60 c60

theorem c62 : comp Try.prog tab F.withyref04_Pack.closed F.withyref04_Pack_hs Try.f62 = some F.withyref04_Pack := by kernel_rfl
theorem g62 : FnOk Try.prog tab prog (62, 111) := FnOk.of (by kernel_rfl) (by kernel_rfl) Try.func62 c62

theorem c63 : comp Try.prog tab F.mem_Of.closed F.mem_Of_hs Try.f63 = some F.mem_Of := by kernel_rfl
theorem g63 : FnOk Try.prog tab prog (63, 198) := FnOk.of (by kernel_rfl) (by kernel_rfl) Try.func63 c63

theorem c61 : comp Try.prog tab F.withyref04_Right.closed F.withyref04_Right_hs Try.f61 = some F.withyref04_Right := by kernel_rfl
theorem g61 : FnOk Try.prog tab prog (61, 202) := FnOk.of (by kernel_rfl) (by kernel_rfl) Try.func61 c61

theorem c64 : comp Try.prog tab F.slices_Clone___uint64_uint64_.closed F.slices_Clone___uint64_uint64__hs Try.f64 = some F.slices_Clone___uint64_uint64_ := by kernel_rfl
theorem g64 : FnOk Try.prog tab prog (64, 271) := FnOk.of (by kernel_rfl) (by kernel_rfl) Try.func64 c64

theorem c52 : comp Try.prog tab F.plan_Right.closed F.plan_Right_hs Try.f52 = some F.plan_Right := by kernel_rfl
theorem g52 : FnOk Try.prog tab prog (52, 263) := FnOk.of (by kernel_rfl) (by kernel_rfl) Try.func52 c52

theorem c53 : comp Try.prog tab F.plan_Size.closed F.plan_Size_hs Try.f53 = some F.plan_Size := by kernel_rfl
theorem g53 : FnOk Try.prog tab prog (53, 264) := FnOk.of (by kernel_rfl) (by kernel_rfl) Try.func53 c53

theorem c54 : comp Try.prog tab F.head_Unpack.closed F.head_Unpack_hs Try.f54 = some F.head_Unpack := by kernel_rfl
theorem g54 : FnOk Try.prog tab prog (54, 265) := FnOk.of (by kernel_rfl) (by kernel_rfl) Try.func54 c54

theorem c83 : comp Try.prog tab F.mem_Mem_there.closed F.mem_Mem_there_hs Try.f83 = some F.mem_Mem_there := by kernel_rfl
theorem g83 : FnOk Try.prog tab prog (83, 346) := FnOk.of (by kernel_rfl) (by kernel_rfl) Try.func83 c83

theorem c84 : comp Try.prog tab F.mem_Mem_touch.closed F.mem_Mem_touch_hs Try.f84 = some F.mem_Mem_touch := by kernel_rfl
theorem g84 : FnOk Try.prog tab prog (84, 347) := FnOk.of (by kernel_rfl) (by kernel_rfl) Try.func84 c84

theorem c82 : comp Try.prog tab F.plan_Link.closed F.plan_Link_hs Try.f82 = some F.plan_Link := by kernel_rfl
theorem g82 : FnOk Try.prog tab prog (82, 293) := FnOk.of (by kernel_rfl) (by kernel_rfl) Try.func82 c82

theorem c81 : comp Try.prog tab F.tag_Top.closed F.tag_Top_hs Try.f81 = some F.tag_Top := by kernel_rfl
theorem g81 : FnOk Try.prog tab prog (81, 350) := FnOk.of (by kernel_rfl) (by kernel_rfl) Try.func81 c81

theorem c85 : comp Try.prog tab F.plan_within.closed F.plan_within_hs Try.f85 = some F.plan_within := by kernel_rfl
theorem g85 : FnOk Try.prog tab prog (85, 375) := FnOk.of (by kernel_rfl) (by kernel_rfl) Try.func85 c85

theorem c90 : comp Try.prog tab F.head_lives.closed F.head_lives_hs Try.f90 = some F.head_lives := by kernel_rfl
theorem g90 : FnOk Try.prog tab prog (90, 380) := FnOk.of (by kernel_rfl) (by kernel_rfl) Try.func90 c90

theorem c91 : comp Try.prog tab F.turn_Black.closed F.turn_Black_hs Try.f91 = some F.turn_Black := by kernel_rfl
theorem g91 : FnOk Try.prog tab prog (91, 381) := FnOk.of (by kernel_rfl) (by kernel_rfl) Try.func91 c91

theorem c92 : comp Try.prog tab F.head_Pack.closed F.head_Pack_hs Try.f92 = some F.head_Pack := by kernel_rfl
theorem g92 : FnOk Try.prog tab prog (92, 382) := FnOk.of (by kernel_rfl) (by kernel_rfl) Try.func92 c92

theorem c24 : comp Try.prog tab F.withyref06_Words.closed F.withyref06_Words_hs Try.f24 = some F.withyref06_Words := by kernel_rfl
theorem g24 : FnOk Try.prog tab prog (24, 87) := FnOk.of (by kernel_rfl) (by kernel_rfl) Try.func24 c24

theorem c50 : comp Try.prog tab F.withyref04_Unpack.closed F.withyref04_Unpack_hs Try.f50 = some F.withyref04_Unpack := by kernel_rfl
theorem g50 : FnOk Try.prog tab prog (50, 109) := FnOk.of (by kernel_rfl) (by kernel_rfl) Try.func50 c50

theorem c22 : comp Try.prog tab F.withyref06_Right.closed F.withyref06_Right_hs Try.f22 = some F.withyref06_Right := by kernel_rfl
theorem g22 : FnOk Try.prog tab prog (22, 85) := FnOk.of (by kernel_rfl) (by kernel_rfl) Try.func22 c22

theorem c86 : comp Try.prog tab F.plan_between.closed F.plan_between_hs Try.f86 = some F.plan_between := by kernel_rfl
theorem g86 : FnOk Try.prog tab prog (86, 376) := FnOk.of (by kernel_rfl) (by kernel_rfl) Try.func86 c86

theorem c87 : comp Try.prog tab F.plan_slots.closed F.plan_slots_hs Try.f87 = some F.plan_slots := by kernel_rfl
theorem g87 : FnOk Try.prog tab prog (87, 377) := FnOk.of (by kernel_rfl) (by kernel_rfl) Try.func87 c87

theorem c88 : comp Try.prog tab F.plan_room.closed F.plan_room_hs Try.f88 = some F.plan_room := by kernel_rfl
theorem g88 : FnOk Try.prog tab prog (88, 378) := FnOk.of (by kernel_rfl) (by kernel_rfl) Try.func88 c88

theorem c89 : comp Try.prog tab F.word_Unpack.closed F.word_Unpack_hs Try.f89 = some F.word_Unpack := by kernel_rfl
theorem g89 : FnOk Try.prog tab prog (89, 379) := FnOk.of (by kernel_rfl) (by kernel_rfl) Try.func89 c89

theorem c98 : comp Try.prog tab F.mem_Mem_Size.closed F.mem_Mem_Size_hs Try.f98 = some F.mem_Mem_Size := by kernel_rfl
theorem g98 : FnOk Try.prog tab prog (98, 413) := FnOk.of (by kernel_rfl) (by kernel_rfl) Try.func98 c98

theorem c97 : comp Try.prog tab F.tag_tagged.closed F.tag_tagged_hs Try.f97 = some F.tag_tagged := by kernel_rfl
theorem g97 : FnOk Try.prog tab prog (97, 414) := FnOk.of (by kernel_rfl) (by kernel_rfl) Try.func97 c97

theorem c101 : comp Try.prog tab F.turn_Cycle.closed F.turn_Cycle_hs Try.f101 = some F.turn_Cycle := by kernel_rfl
theorem g101 : FnOk Try.prog tab prog (101, 442) := FnOk.of (by kernel_rfl) (by kernel_rfl) Try.func101 c101

theorem c102 : comp Try.prog tab F.word_Pack.closed F.word_Pack_hs Try.f102 = some F.word_Pack := by kernel_rfl
theorem g102 : FnOk Try.prog tab prog (102, 443) := FnOk.of (by kernel_rfl) (by kernel_rfl) Try.func102 c102

theorem c103 : comp Try.prog tab F.head_bit.closed F.head_bit_hs Try.f103 = some F.head_bit := by kernel_rfl
theorem g103 : FnOk Try.prog tab prog (103, 444) := FnOk.of (by kernel_rfl) (by kernel_rfl) Try.func103 c103

theorem c49 : comp Try.prog tab F.withyref06_Room.closed F.withyref06_Room_hs Try.f49 = some F.withyref06_Room := by kernel_rfl
theorem g49 : FnOk Try.prog tab prog (49, 149) := FnOk.of (by kernel_rfl) (by kernel_rfl) Try.func49 c49

theorem c100 : comp Try.prog tab F.word_Get.closed F.word_Get_hs Try.f100 = some F.word_Get := by kernel_rfl
theorem g100 : FnOk Try.prog tab prog (100, 396) := FnOk.of (by kernel_rfl) (by kernel_rfl) Try.func100 c100

theorem c99 : comp Try.prog tab F.word_some.closed F.word_some_hs Try.f99 = some F.word_some := by kernel_rfl
theorem g99 : FnOk Try.prog tab prog (99, 441) := FnOk.of (by kernel_rfl) (by kernel_rfl) Try.func99 c99

theorem c106 : comp Try.prog tab F.tag_slots.closed F.tag_slots_hs Try.f106 = some F.tag_slots := by kernel_rfl
theorem g106 : FnOk Try.prog tab prog (106, 462) := FnOk.of (by kernel_rfl) (by kernel_rfl) Try.func106 c106

theorem c108 : comp Try.prog tab F.word_Fits.closed F.word_Fits_hs Try.f108 = some F.word_Fits := by kernel_rfl
theorem g108 : FnOk Try.prog tab prog (108, 484) := FnOk.of (by kernel_rfl) (by kernel_rfl) Try.func108 c108

theorem c107 : comp Try.prog tab F.word_mask.closed F.word_mask_hs Try.f107 = some F.word_mask := by kernel_rfl
theorem g107 : FnOk Try.prog tab prog (107, 449) := FnOk.of (by kernel_rfl) (by kernel_rfl) Try.func107 c107

theorem progOk : ProgOk Try.prog tab prog := ProgOk.of_fn (l := tab.fn) rfl (by
  unfold tab
  exact List.forall_mem_cons.mpr ⟨g10, List.forall_mem_cons.mpr ⟨g21, List.forall_mem_cons.mpr ⟨g27, List.forall_mem_cons.mpr ⟨g28, List.forall_mem_cons.mpr ⟨g29, List.forall_mem_cons.mpr ⟨g30, List.forall_mem_cons.mpr ⟨g31, List.forall_mem_cons.mpr ⟨g32, List.forall_mem_cons.mpr ⟨g26, List.forall_mem_cons.mpr ⟨g46, List.forall_mem_cons.mpr ⟨g45, List.forall_mem_cons.mpr ⟨g47, List.forall_mem_cons.mpr ⟨g48, List.forall_mem_cons.mpr ⟨g55, List.forall_mem_cons.mpr ⟨g56, List.forall_mem_cons.mpr ⟨g57, List.forall_mem_cons.mpr ⟨g58, List.forall_mem_cons.mpr ⟨g59, List.forall_mem_cons.mpr ⟨g23, List.forall_mem_cons.mpr ⟨g25, List.forall_mem_cons.mpr ⟨g51, List.forall_mem_cons.mpr ⟨g60, List.forall_mem_cons.mpr ⟨g62, List.forall_mem_cons.mpr ⟨g63, List.forall_mem_cons.mpr ⟨g61, List.forall_mem_cons.mpr ⟨g64, List.forall_mem_cons.mpr ⟨g52, List.forall_mem_cons.mpr ⟨g53, List.forall_mem_cons.mpr ⟨g54, List.forall_mem_cons.mpr ⟨g83, List.forall_mem_cons.mpr ⟨g84, List.forall_mem_cons.mpr ⟨g82, List.forall_mem_cons.mpr ⟨g81, List.forall_mem_cons.mpr ⟨g85, List.forall_mem_cons.mpr ⟨g90, List.forall_mem_cons.mpr ⟨g91, List.forall_mem_cons.mpr ⟨g92, List.forall_mem_cons.mpr ⟨g24, List.forall_mem_cons.mpr ⟨g50, List.forall_mem_cons.mpr ⟨g22, List.forall_mem_cons.mpr ⟨g86, List.forall_mem_cons.mpr ⟨g87, List.forall_mem_cons.mpr ⟨g88, List.forall_mem_cons.mpr ⟨g89, List.forall_mem_cons.mpr ⟨g98, List.forall_mem_cons.mpr ⟨g97, List.forall_mem_cons.mpr ⟨g101, List.forall_mem_cons.mpr ⟨g102, List.forall_mem_cons.mpr ⟨g103, List.forall_mem_cons.mpr ⟨g49, List.forall_mem_cons.mpr ⟨g100, List.forall_mem_cons.mpr ⟨g99, List.forall_mem_cons.mpr ⟨g106, List.forall_mem_cons.mpr ⟨g108, List.forall_mem_cons.mpr ⟨g107, List.forall_mem_nil _⟩⟩⟩⟩⟩⟩⟩⟩⟩⟩⟩⟩⟩⟩⟩⟩⟩⟩⟩⟩⟩⟩⟩⟩⟩⟩⟩⟩⟩⟩⟩⟩⟩⟩⟩⟩⟩⟩⟩⟩⟩⟩⟩⟩⟩⟩⟩⟩⟩⟩⟩⟩⟩⟩⟩)

theorem methOk : MethOk Try.prog tab meth := fun T t mm m f _ h => by simp [tab, assocS] at h

theorem callOk : CallOk Try.prog tab C := callW_ok (by kernel_rfl) progOk methOk
end Wm.Seat
