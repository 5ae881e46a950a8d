/- Machines of a config that isn't right, and of none (Shade). -/
import Derived.Test.YtmhebljpahogaaaWmPNMade
import Derived.Test.YtmhebljpahogaaaWmTxtShadeNoneA
set_option linter.all false
namespace Wm

theorem shadeNil (m : V) (h : H) : C 91 [.nilp, m] h = some (.bool true, h) := by
  refine call_open (af := F.shade_Shade_Step) (by kernel_rfl) rfl ?_
  rw [S.shade_Shade_Step_eq]
  simp only [S.shade_Shade_Step, eqV, eqPtr, Option.bind_some]
end Wm
