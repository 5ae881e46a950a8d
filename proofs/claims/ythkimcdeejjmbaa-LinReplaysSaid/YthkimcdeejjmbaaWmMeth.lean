/- Methods of interface values, one by one. -/
import Derived.Test.YthkimcdeejjmbaaWmEv
set_option linter.all false
namespace Wm
open Go (Program Value World)
end Wm
