/- The document's example of layer 10, run by the kernel; where a word stands is told. -/
import Derived.Test.YtbnlhmaedapjlaaWmProgFieldNone
import Derived.Test.YtbnlhmaedapjlaaWmOracle
import Derived.Test.YtbnlhmaedapjlaaWmPOp0
set_option linter.all false
namespace Wm
def cfg10 : Cfg := ⟨40, 3, 1, 1, 9, 0⟩
theorem cfg10_R : cfg10.R = true := by decide
set_option maxRecDepth 100000 in
theorem awake10_run : (runO (orcAt cfg10) prog meth 2000 200 125 [] .empty).map (·.1) = some (.bool true) := by kernel_rfl
theorem awake10 (h : H) : C 125 [] h = some (.bool true, h) := orc_closed cfg10_R (af := F.withylaw10_awake) (by kernel_rfl) rfl awake10_run h
end Wm
