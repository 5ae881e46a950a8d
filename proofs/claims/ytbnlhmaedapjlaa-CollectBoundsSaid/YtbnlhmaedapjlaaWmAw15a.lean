/- The example of layer 15, some steps of it, run by the kernel. -/
import Derived.Test.YtbnlhmaedapjlaaWmAw15H
set_option linter.all false
namespace Wm
set_option maxRecDepth 100000 in
theorem aw15_it0 : itF 215 [.ptr 7 0, .ptr 5 0] 0 cfg15 34 aw15_0 = some aw15_1 := by kernel_rfl
end Wm
