/- The document's example of layer 20, run by the kernel; where a word stands is told. -/
import Derived.Test.YtbnlhmaedapjlaaWmProgIterNone
import Derived.Test.YtbnlhmaedapjlaaWmOracle
import Derived.Test.YtbnlhmaedapjlaaWmPOp0
set_option linter.all false
namespace Wm
def cfg20 : Cfg := ⟨40, 2, 1, 1, 9, 0⟩
theorem cfg20_R : cfg20.R = true := by decide
set_option maxRecDepth 100000 in
theorem awake20_run : (runO (orcAt cfg20) prog meth 2000 200 160 [] .empty).map (·.1) = some (.bool true) := by kernel_rfl
theorem awake20 (h : H) : C 160 [] h = some (.bool true, h) := orc_closed cfg20_R (af := F.withylaw20_awake) (by kernel_rfl) rfl awake20_run h
end Wm
