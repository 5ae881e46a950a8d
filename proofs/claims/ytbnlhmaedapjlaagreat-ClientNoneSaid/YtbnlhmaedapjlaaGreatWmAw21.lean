/- The document's example of a layer, run by the kernel. -/
import Derived.Test.YtbnlhmaedapjlaaGreatWmProgClientNone
import Derived.Test.YtbnlhmaedapjlaaGreatWmFast
import Derived.Test.YtbnlhmaedapjlaaGreatWmPOp0
set_option linter.all false
namespace Wm
set_option maxRecDepth 100000 in
theorem awake21_run : runF prog meth 2000 200 221 [] .empty = some (.bool true, .empty) := by kernel_rfl
theorem awake21 (h : H) : C 221 [] h = some (.bool true, h) := call_closed_run (af := F.withylaw21_awake) (by kernel_rfl) rfl (by rw [← runF_eq]; exact awake21_run) h
end Wm
