/- The document's example of a layer, run by the kernel. -/
import Derived.Test.YtmhebljpahogaabWmProgShadePlays
import Derived.Test.YtmhebljpahogaabWmFast
import Derived.Test.YtmhebljpahogaabWmPOp0
set_option linter.all false
namespace Wm
set_option maxRecDepth 100000 in
theorem awake09_run : runF prog meth 2000 200 84 [] .empty = some (.bool true, .empty) := by kernel_rfl
theorem awake09 (h : H) : C 84 [] h = some (.bool true, h) := call_closed_run (af := F.withylaw09_awake) (by kernel_rfl) rfl (by rw [← runF_eq]; exact awake09_run) h
end Wm
