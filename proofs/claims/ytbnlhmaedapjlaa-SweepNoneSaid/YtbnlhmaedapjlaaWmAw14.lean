/- The document's example of a layer, run by the kernel. -/
import Derived.Test.YtbnlhmaedapjlaaWmProgSweepNone
import Derived.Test.YtbnlhmaedapjlaaWmFast
import Derived.Test.YtbnlhmaedapjlaaWmPOp0
set_option linter.all false
namespace Wm
set_option maxRecDepth 100000 in
theorem awake14_run : runF prog meth 2000 200 192 [] .empty = some (.bool true, .empty) := by kernel_rfl
theorem awake14 (h : H) : C 192 [] h = some (.bool true, h) := call_closed_run (af := F.withylaw14_awake) (by kernel_rfl) rfl (by rw [← runF_eq]; exact awake14_run) h
end Wm
