/- The document's example of a layer, run by the kernel. -/
import Derived.Test.YtbnlhmaedapjlaaWmProgMarkNone
import Derived.Test.YtbnlhmaedapjlaaWmFast
import Derived.Test.YtbnlhmaedapjlaaWmPOp0
set_option linter.all false
namespace Wm
set_option maxRecDepth 100000 in
theorem awake13_run : runF prog meth 2000 200 154 [] .empty = some (.bool true, .empty) := by kernel_rfl
theorem awake13 (h : H) : C 154 [] h = some (.bool true, h) := call_closed_run (af := F.withylaw13_awake) (by kernel_rfl) rfl (by rw [← runF_eq]; exact awake13_run) h
end Wm
