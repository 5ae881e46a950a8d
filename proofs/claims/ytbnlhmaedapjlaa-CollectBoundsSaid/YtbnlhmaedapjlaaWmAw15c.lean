/- The example of layer 15, some steps of it, run by the kernel. -/
import Derived.Test.YtbnlhmaedapjlaaWmAw15H
set_option linter.all false
namespace Wm
set_option maxRecDepth 100000 in
theorem aw15_it2 : itF 215 [.ptr 7 0, .ptr 5 0] 0 cfg15 33 aw15_2 = some aw15_3 := by kernel_rfl
end Wm
