/- The example of layer 15, some steps of it, run by the kernel. -/
import Derived.Test.YtbnlhmaedapjlaaWmAw15H
set_option linter.all false
namespace Wm
set_option maxRecDepth 100000 in
theorem aw15_it1 : itF 215 [.ptr 7 0, .ptr 5 0] 0 cfg15 34 aw15_1 = some aw15_2 := by kernel_rfl
end Wm
