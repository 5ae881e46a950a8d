/- How the seat's functions are those of my table. -/
import Derived.Test.YtmhebljpahogaaaChecked
import Derived.Test.YtmhebljpahogaaaWmProgOpRaw
import Derived.Test.YtmhebljpahogaaaWmMeth
set_option linter.all false
namespace Wm.Seat
open Wm Go Go.Proofs

def tab : Tab := { fn := [(3, 3), (4, 4), (5, 5), (6, 6), (15, 78), (16, 79), (17, 80), (18, 81), (44, 260)], ty := [], meth := [] }

theorem c3 : comp Try.prog tab F.withylaw16_OpValues.closed F.withylaw16_OpValues_hs Try.f3 = some F.withylaw16_OpValues := by kernel_rfl
theorem g3 : FnOk Try.prog tab prog (3, 3) := FnOk.of (by kernel_rfl) (by kernel_rfl) Try.func3 c3

theorem c4 : comp Try.prog tab F.withylaw16_OpCalls.closed F.withylaw16_OpCalls_hs Try.f4 = some F.withylaw16_OpCalls := by kernel_rfl
theorem g4 : FnOk Try.prog tab prog (4, 4) := FnOk.of (by kernel_rfl) (by kernel_rfl) Try.func4 c4

theorem c5 : comp Try.prog tab F.withylaw16_OpRaw.closed F.withylaw16_OpRaw_hs Try.f5 = some F.withylaw16_OpRaw := by kernel_rfl
theorem g5 : FnOk Try.prog tab prog (5, 5) := FnOk.of (by kernel_rfl) (by kernel_rfl) Try.func5 c5

theorem c6 : comp Try.prog tab F.withylaw16_OpSelf.closed F.withylaw16_OpSelf_hs Try.f6 = some F.withylaw16_OpSelf := by kernel_rfl
theorem g6 : FnOk Try.prog tab prog (6, 6) := FnOk.of (by kernel_rfl) (by kernel_rfl) Try.func6 c6

theorem c15 : comp Try.prog tab F.op_Value.closed F.op_Value_hs Try.f15 = some F.op_Value := by kernel_rfl
theorem g15 : FnOk Try.prog tab prog (15, 78) := FnOk.of (by kernel_rfl) (by kernel_rfl) Try.func15 c15

theorem c16 : comp Try.prog tab F.withylaw16_value.closed F.withylaw16_value_hs Try.f16 = some F.withylaw16_value := by kernel_rfl
theorem g16 : FnOk Try.prog tab prog (16, 79) := FnOk.of (by kernel_rfl) (by kernel_rfl) Try.func16 c16

theorem c17 : comp Try.prog tab F.withylaw16_awake.closed F.withylaw16_awake_hs Try.f17 = some F.withylaw16_awake := by kernel_rfl
theorem g17 : FnOk Try.prog tab prog (17, 80) := FnOk.of (by kernel_rfl) (by kernel_rfl) Try.func17 c17

theorem c18 : comp Try.prog tab F.op_Call.closed F.op_Call_hs Try.f18 = some F.op_Call := by kernel_rfl
theorem g18 : FnOk Try.prog tab prog (18, 81) := FnOk.of (by kernel_rfl) (by kernel_rfl) Try.func18 c18

theorem c44 : comp Try.prog tab F.op_none.closed F.op_none_hs Try.f44 = some F.op_none := by kernel_rfl
theorem g44 : FnOk Try.prog tab prog (44, 260) := FnOk.of (by kernel_rfl) (by kernel_rfl) Try.func44 c44

theorem progOk : ProgOk Try.prog tab prog := ProgOk.of_fn (l := tab.fn) rfl (by
  unfold tab
  exact List.forall_mem_cons.mpr ⟨g3, List.forall_mem_cons.mpr ⟨g4, List.forall_mem_cons.mpr ⟨g5, List.forall_mem_cons.mpr ⟨g6, List.forall_mem_cons.mpr ⟨g15, List.forall_mem_cons.mpr ⟨g16, List.forall_mem_cons.mpr ⟨g17, List.forall_mem_cons.mpr ⟨g18, List.forall_mem_cons.mpr ⟨g44, List.forall_mem_nil _⟩⟩⟩⟩⟩⟩⟩⟩⟩)

theorem methOk : MethOk Try.prog tab meth := fun T t mm m f _ h => by simp [tab, assocS] at h

theorem callOk : CallOk Try.prog tab C := callW_ok (by kernel_rfl) progOk methOk
end Wm.Seat
