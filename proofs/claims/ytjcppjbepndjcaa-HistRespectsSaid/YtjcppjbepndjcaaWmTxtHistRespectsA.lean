/- PRINTED by my tool: what functions come to, stretch by stretch. -/
import Derived.KernelRfl
import Derived.Test.YtjcppjbepndjcaaWmShal
import Derived.Test.YtjcppjbepndjcaaWmFnsHistRespectsA
set_option linter.all false
section
open Wm
namespace Wm.S
def dd : Nat → List V → List V
  | 0, l => l
  | n + 1, l => .dead :: dd n l
end Wm.S

end
section
/- PRINTED by my tool (wip/wm/tool/Gen.lean): what a function comes to, stretch by stretch. -/
namespace Wm.S
open Wm
set_option maxRecDepth 100000
set_option linter.unusedVariables false


end Wm.S
end

section
/- PRINTED by my tool (wip/wm/tool/Gen.lean): what a function comes to, stretch by stretch. -/
namespace Wm.S
open Wm
set_option maxRecDepth 100000
set_option linter.unusedVariables false


end Wm.S
end

section
/- PRINTED by my tool (wip/wm/tool/Gen.lean): what a function comes to, stretch by stretch. -/
namespace Wm.S
open Wm
set_option maxRecDepth 100000
set_option linter.unusedVariables false


end Wm.S
end

section
/- PRINTED by my tool (wip/wm/tool/Gen.lean): what a function comes to, stretch by stretch. -/
namespace Wm.S
open Wm
set_option maxRecDepth 100000
set_option linter.unusedVariables false


end Wm.S
end

section
/- PRINTED by my tool (wip/wm/tool/Gen.lean): what a function comes to, stretch by stretch. -/
namespace Wm.S
open Wm
set_option maxRecDepth 100000
set_option linter.unusedVariables false


end Wm.S
end

section
/- PRINTED by my tool (wip/wm/tool/Gen.lean): what a function comes to, stretch by stretch. -/
namespace Wm.S
open Wm
set_option maxRecDepth 100000
set_option linter.unusedVariables false


end Wm.S
end

section
/- PRINTED by my tool (wip/wm/tool/Gen.lean): what a function comes to, stretch by stretch. -/
namespace Wm.S
open Wm
set_option maxRecDepth 100000
set_option linter.unusedVariables false


end Wm.S
end

section
/- PRINTED by my tool (wip/wm/tool/Gen.lean): what a function comes to, stretch by stretch. -/
namespace Wm.S
open Wm
set_option maxRecDepth 100000
set_option linter.unusedVariables false


end Wm.S
end

section
/- PRINTED by my tool (wip/wm/tool/Gen.lean): what a function comes to, stretch by stretch. -/
namespace Wm.S
open Wm
set_option maxRecDepth 100000
set_option linter.unusedVariables false


end Wm.S
end

section
/- PRINTED by my tool (wip/wm/tool/Gen.lean): what a function comes to, stretch by stretch. -/
namespace Wm.S
open Wm
set_option maxRecDepth 100000
set_option linter.unusedVariables false


end Wm.S
end

section
/- PRINTED by my tool (wip/wm/tool/Gen.lean): what a function comes to, stretch by stretch. -/
namespace Wm.S
open Wm
set_option maxRecDepth 100000
set_option linter.unusedVariables false

end Wm.S
end

section
/- PRINTED by my tool (wip/wm/tool/Gen.lean): what a function comes to, stretch by stretch. -/
namespace Wm.S
open Wm
set_option maxRecDepth 100000
set_option linter.unusedVariables false


end Wm.S
end

section
/- PRINTED by my tool (wip/wm/tool/Gen.lean): what a function comes to, stretch by stretch. -/
namespace Wm.S
open Wm
set_option maxRecDepth 100000
set_option linter.unusedVariables false


end Wm.S
end

section
/- PRINTED by my tool (wip/wm/tool/Gen.lean): what a function comes to, stretch by stretch. -/
namespace Wm.S
open Wm
set_option maxRecDepth 100000
set_option linter.unusedVariables false

end Wm.S
end

section
/- PRINTED by my tool (wip/wm/tool/Gen.lean): what a function comes to, stretch by stretch. -/
namespace Wm.S
open Wm
set_option maxRecDepth 100000
set_option linter.unusedVariables false


end Wm.S
end

section
/- PRINTED by my tool (wip/wm/tool/Gen.lean): what a function comes to, stretch by stretch. -/
namespace Wm.S
open Wm
set_option maxRecDepth 100000
set_option linter.unusedVariables false

end Wm.S
end

section
/- PRINTED by my tool (wip/wm/tool/Gen.lean): what a function comes to, stretch by stretch. -/
namespace Wm.S
open Wm
set_option maxRecDepth 100000
set_option linter.unusedVariables false

end Wm.S
end

section
/- PRINTED by my tool (wip/wm/tool/Gen.lean): what a function comes to, stretch by stretch. -/
namespace Wm.S
open Wm
set_option maxRecDepth 100000
set_option linter.unusedVariables false

end Wm.S
end

section
/- PRINTED by my tool (wip/wm/tool/Gen.lean): what a function comes to, stretch by stretch. -/
namespace Wm.S
open Wm
set_option maxRecDepth 100000
set_option linter.unusedVariables false


end Wm.S
end

section
/- PRINTED by my tool (wip/wm/tool/Gen.lean): what a function comes to, stretch by stretch. -/
namespace Wm.S
open Wm
set_option maxRecDepth 100000
set_option linter.unusedVariables false

end Wm.S
end

section
/- PRINTED by my tool (wip/wm/tool/Gen.lean): what a function comes to, stretch by stretch. -/
namespace Wm.S
open Wm
set_option maxRecDepth 100000
set_option linter.unusedVariables false


end Wm.S
end

section
/- PRINTED by my tool (wip/wm/tool/Gen.lean): what a function comes to, stretch by stretch. -/
namespace Wm.S
open Wm
set_option maxRecDepth 100000
set_option linter.unusedVariables false


end Wm.S
end

section
/- PRINTED by my tool (wip/wm/tool/Gen.lean): what a function comes to, stretch by stretch. -/
namespace Wm.S
open Wm
set_option maxRecDepth 100000
set_option linter.unusedVariables false


end Wm.S
end

section
/- PRINTED by my tool (wip/wm/tool/Gen.lean): what a function comes to, stretch by stretch. -/
namespace Wm.S
open Wm
set_option maxRecDepth 100000
set_option linter.unusedVariables false


end Wm.S
end

section
/- PRINTED by my tool (wip/wm/tool/Gen.lean): what a function comes to, stretch by stretch. -/
namespace Wm.S
open Wm
set_option maxRecDepth 100000
set_option linter.unusedVariables false


end Wm.S
end

section
/- PRINTED by my tool (wip/wm/tool/Gen.lean): what a function comes to, stretch by stretch. -/
namespace Wm.S
open Wm
set_option maxRecDepth 100000
set_option linter.unusedVariables false


end Wm.S
end

section
/- PRINTED by my tool (wip/wm/tool/Gen.lean): what a function comes to, stretch by stretch. -/
namespace Wm.S
open Wm
set_option maxRecDepth 100000
set_option linter.unusedVariables false


end Wm.S
end

section
/- PRINTED by my tool (wip/wm/tool/Gen.lean): what a function comes to, stretch by stretch. -/
namespace Wm.S
open Wm
set_option maxRecDepth 100000
set_option linter.unusedVariables false


end Wm.S
end

section
/- PRINTED by my tool (wip/wm/tool/Gen.lean): what a function comes to, stretch by stretch. -/
namespace Wm.S
open Wm
set_option maxRecDepth 100000
set_option linter.unusedVariables false

end Wm.S
end

section
/- PRINTED by my tool (wip/wm/tool/Gen.lean): what a function comes to, stretch by stretch. -/
namespace Wm.S
open Wm
set_option maxRecDepth 100000
set_option linter.unusedVariables false


end Wm.S
end

section
/- PRINTED by my tool (wip/wm/tool/Gen.lean): what a function comes to, stretch by stretch. -/
namespace Wm.S
open Wm
set_option maxRecDepth 100000
set_option linter.unusedVariables false


end Wm.S
end

section
/- PRINTED by my tool (wip/wm/tool/Gen.lean): what a function comes to, stretch by stretch. -/
namespace Wm.S
open Wm
set_option maxRecDepth 100000
set_option linter.unusedVariables false

end Wm.S
end

section
/- PRINTED by my tool (wip/wm/tool/Gen.lean): what a function comes to, stretch by stretch. -/
namespace Wm.S
open Wm
set_option maxRecDepth 100000
set_option linter.unusedVariables false


end Wm.S
end

section
/- PRINTED by my tool (wip/wm/tool/Gen.lean): what a function comes to, stretch by stretch. -/
namespace Wm.S
open Wm
set_option maxRecDepth 100000
set_option linter.unusedVariables false


end Wm.S
end

section
/- PRINTED by my tool (wip/wm/tool/Gen.lean): what a function comes to, stretch by stretch. -/
namespace Wm.S
open Wm
set_option maxRecDepth 100000
set_option linter.unusedVariables false


end Wm.S
end

section
/- PRINTED by my tool (wip/wm/tool/Gen.lean): what a function comes to, stretch by stretch. -/
namespace Wm.S
open Wm
set_option maxRecDepth 100000
set_option linter.unusedVariables false


end Wm.S
end

section
/- PRINTED by my tool (wip/wm/tool/Gen.lean): what a function comes to, stretch by stretch. -/
namespace Wm.S
open Wm
set_option maxRecDepth 100000
set_option linter.unusedVariables false


end Wm.S
end

section
/- PRINTED by my tool (wip/wm/tool/Gen.lean): what a function comes to, stretch by stretch. -/
namespace Wm.S
open Wm
set_option maxRecDepth 100000
set_option linter.unusedVariables false


end Wm.S
end

section
/- PRINTED by my tool (wip/wm/tool/Gen.lean): what a function comes to, stretch by stretch. -/
namespace Wm.S
open Wm
set_option maxRecDepth 100000
set_option linter.unusedVariables false


end Wm.S
end

section
/- PRINTED by my tool (wip/wm/tool/Gen.lean): what a function comes to, stretch by stretch. -/
namespace Wm.S
open Wm
set_option maxRecDepth 100000
set_option linter.unusedVariables false


end Wm.S
end

section
/- PRINTED by my tool (wip/wm/tool/Gen.lean): what a function comes to, stretch by stretch. -/
namespace Wm.S
open Wm
set_option maxRecDepth 100000
set_option linter.unusedVariables false


end Wm.S
end

section
/- PRINTED by my tool (wip/wm/tool/Gen.lean): what a function comes to, stretch by stretch. -/
namespace Wm.S
open Wm
set_option maxRecDepth 100000
set_option linter.unusedVariables false


end Wm.S
end

section
/- PRINTED by my tool (wip/wm/tool/Gen.lean): what a function comes to, stretch by stretch. -/
namespace Wm.S
open Wm
set_option maxRecDepth 100000
set_option linter.unusedVariables false


end Wm.S
end

section
/- PRINTED by my tool (wip/wm/tool/Gen.lean): what a function comes to, stretch by stretch. -/
namespace Wm.S
open Wm
set_option maxRecDepth 100000
set_option linter.unusedVariables false


end Wm.S
end

section
/- PRINTED by my tool (wip/wm/tool/Gen.lean): what a function comes to, stretch by stretch. -/
namespace Wm.S
open Wm
set_option maxRecDepth 100000
set_option linter.unusedVariables false


end Wm.S
end

section
/- PRINTED by my tool (wip/wm/tool/Gen.lean): what a function comes to, stretch by stretch. -/
namespace Wm.S
open Wm
set_option maxRecDepth 100000
set_option linter.unusedVariables false


end Wm.S
end

section
/- PRINTED by my tool (wip/wm/tool/Gen.lean): what a function comes to, stretch by stretch. -/
namespace Wm.S
open Wm
set_option maxRecDepth 100000
set_option linter.unusedVariables false


end Wm.S
end

section
/- PRINTED by my tool (wip/wm/tool/Gen.lean): what a function comes to, stretch by stretch. -/
namespace Wm.S
open Wm
set_option maxRecDepth 100000
set_option linter.unusedVariables false


end Wm.S
end

section
/- PRINTED by my tool (wip/wm/tool/Gen.lean): what a function comes to, stretch by stretch. -/
namespace Wm.S
open Wm
set_option maxRecDepth 100000
set_option linter.unusedVariables false


end Wm.S
end

section
/- PRINTED by my tool (wip/wm/tool/Gen.lean): what a function comes to, stretch by stretch. -/
namespace Wm.S
open Wm
set_option maxRecDepth 100000
set_option linter.unusedVariables false


end Wm.S
end

section
/- PRINTED by my tool (wip/wm/tool/Gen.lean): what a function comes to, stretch by stretch. -/
namespace Wm.S
open Wm
set_option maxRecDepth 100000
set_option linter.unusedVariables false


end Wm.S
end

section
/- PRINTED by my tool (wip/wm/tool/Gen.lean): what a function comes to, stretch by stretch. -/
namespace Wm.S
open Wm
set_option maxRecDepth 100000
set_option linter.unusedVariables false


end Wm.S
end

section
/- PRINTED by my tool (wip/wm/tool/Gen.lean): what a function comes to, stretch by stretch. -/
namespace Wm.S
open Wm
set_option maxRecDepth 100000
set_option linter.unusedVariables false


end Wm.S
end

section
/- PRINTED by my tool (wip/wm/tool/Gen.lean): what a function comes to, stretch by stretch. -/
namespace Wm.S
open Wm
set_option maxRecDepth 100000
set_option linter.unusedVariables false


end Wm.S
end

section
/- PRINTED by my tool (wip/wm/tool/Gen.lean): what a function comes to, stretch by stretch. -/
namespace Wm.S
open Wm
set_option maxRecDepth 100000
set_option linter.unusedVariables false


end Wm.S
end

section
/- PRINTED by my tool (wip/wm/tool/Gen.lean): what a function comes to, stretch by stretch. -/
namespace Wm.S
open Wm
set_option maxRecDepth 100000
set_option linter.unusedVariables false

end Wm.S
end

section
/- PRINTED by my tool (wip/wm/tool/Gen.lean): what a function comes to, stretch by stretch. -/
namespace Wm.S
open Wm
set_option maxRecDepth 100000
set_option linter.unusedVariables false


def hist_Ahead (M : Env) (a0_0 : Int) (a0_1 : Int) (a0_2 : Int) (a0_3 : Int) (a0_4 : Int) (a0_5 : Bool) (a0_6 : Int) (a0_7 : Int) (a0_8 : Int) (a0_9 : Int) (a0_10 : Int) (a0_11 : Int) (a0_12 : Int) (a0_13 : Bool) (a1_0 : Int) (a1_1 : Int) (a1_2 : Int) (a1_3 : Int) (a1_4 : Int) (a1_5 : Bool) (a1_6 : Int) (a1_7 : Int) (a1_8 : Int) (a1_9 : Int) (a1_10 : Int) (a1_11 : Int) (a1_12 : Int) (a1_13 : Bool) (h : H) : Option (V × H) :=
 let h0 := h.new (.cells [(.int .i64 a0_0), (.int .i64 a0_1), (.int .i64 a0_2), (.int .i64 a0_3), (.int .i64 a0_4), (.bool a0_5), (.int .i64 a0_6), (.int .i64 a0_7), (.int .u64 a0_8), (.int .u64 a0_9), (.int .u64 a0_10), (.int .i64 a0_11), (.int .u64 a0_12), (.bool a0_13)] .rw)
 let h1 := h0.new (.cells [(.int .i64 a1_0), (.int .i64 a1_1), (.int .i64 a1_2), (.int .i64 a1_3), (.int .i64 a1_4), (.bool a1_5), (.int .i64 a1_6), (.int .i64 a1_7), (.int .u64 a1_8), (.int .u64 a1_9), (.int .u64 a1_10), (.int .i64 a1_11), (.int .u64 a1_12), (.bool a1_13)] .rw)
 (h1.ld1 (.ptr h.next 4)).bind fun v2 =>
 (h1.ld1 (.ptr h0.next 2)).bind fun v3 =>
 (asI .i64 v2).bind fun n4 =>
 (asI .i64 v3).bind fun n5 =>
 some ((.bool (decide (n4 < n5))), h1)

theorem hist_Ahead_eq (M : Env) (a0_0 : Int) (a0_1 : Int) (a0_2 : Int) (a0_3 : Int) (a0_4 : Int) (a0_5 : Bool) (a0_6 : Int) (a0_7 : Int) (a0_8 : Int) (a0_9 : Int) (a0_10 : Int) (a0_11 : Int) (a0_12 : Int) (a0_13 : Bool) (a1_0 : Int) (a1_1 : Int) (a1_2 : Int) (a1_3 : Int) (a1_4 : Int) (a1_5 : Bool) (a1_6 : Int) (a1_7 : Int) (a1_8 : Int) (a1_9 : Int) (a1_10 : Int) (a1_11 : Int) (a1_12 : Int) (a1_13 : Bool) (h : H) : evalF M F.hist_Ahead [(.agg [(.int .i64 a0_0), (.int .i64 a0_1), (.int .i64 a0_2), (.int .i64 a0_3), (.int .i64 a0_4), (.bool a0_5), (.int .i64 a0_6), (.int .i64 a0_7), (.int .u64 a0_8), (.int .u64 a0_9), (.int .u64 a0_10), (.int .i64 a0_11), (.int .u64 a0_12), (.bool a0_13)]), (.agg [(.int .i64 a1_0), (.int .i64 a1_1), (.int .i64 a1_2), (.int .i64 a1_3), (.int .i64 a1_4), (.bool a1_5), (.int .i64 a1_6), (.int .i64 a1_7), (.int .u64 a1_8), (.int .u64 a1_9), (.int .u64 a1_10), (.int .i64 a1_11), (.int .u64 a1_12), (.bool a1_13)])] h = hist_Ahead M a0_0 a0_1 a0_2 a0_3 a0_4 a0_5 a0_6 a0_7 a0_8 a0_9 a0_10 a0_11 a0_12 a0_13 a1_0 a1_1 a1_2 a1_3 a1_4 a1_5 a1_6 a1_7 a1_8 a1_9 a1_10 a1_11 a1_12 a1_13 h := by kernel_rfl

end Wm.S
end

section
/- PRINTED by my tool (wip/wm/tool/Gen.lean): what a function comes to, stretch by stretch. -/
namespace Wm.S
open Wm
set_option maxRecDepth 100000
set_option linter.unusedVariables false


def withyref18_Ahead (M : Env) (a0_0 : Int) (a0_1 : Int) (a0_2 : Int) (a0_3 : Int) (a0_4 : Int) (a0_5 : Bool) (a0_6 : Int) (a0_7 : Int) (a0_8 : Int) (a0_9 : Int) (a0_10 : Int) (a0_11 : Int) (a0_12 : Int) (a0_13 : Bool) (a1_0 : Int) (a1_1 : Int) (a1_2 : Int) (a1_3 : Int) (a1_4 : Int) (a1_5 : Bool) (a1_6 : Int) (a1_7 : Int) (a1_8 : Int) (a1_9 : Int) (a1_10 : Int) (a1_11 : Int) (a1_12 : Int) (a1_13 : Bool) (h : H) : Option (V × H) :=
 let h0 := h.new (.cells [(.int .i64 a0_0), (.int .i64 a0_1), (.int .i64 a0_2), (.int .i64 a0_3), (.int .i64 a0_4), (.bool a0_5), (.int .i64 a0_6), (.int .i64 a0_7), (.int .u64 a0_8), (.int .u64 a0_9), (.int .u64 a0_10), (.int .i64 a0_11), (.int .u64 a0_12), (.bool a0_13)] .rw)
 let h1 := h0.new (.cells [(.int .i64 a1_0), (.int .i64 a1_1), (.int .i64 a1_2), (.int .i64 a1_3), (.int .i64 a1_4), (.bool a1_5), (.int .i64 a1_6), (.int .i64 a1_7), (.int .u64 a1_8), (.int .u64 a1_9), (.int .u64 a1_10), (.int .i64 a1_11), (.int .u64 a1_12), (.bool a1_13)] .rw)
 (h1.ld1 (.ptr h.next 4)).bind fun v2 =>
 (h1.ld1 (.ptr h0.next 2)).bind fun v3 =>
 (asI .i64 v2).bind fun n4 =>
 (asI .i64 v3).bind fun n5 =>
 some ((.bool (decide (n4 < n5))), h1)

theorem withyref18_Ahead_eq (M : Env) (a0_0 : Int) (a0_1 : Int) (a0_2 : Int) (a0_3 : Int) (a0_4 : Int) (a0_5 : Bool) (a0_6 : Int) (a0_7 : Int) (a0_8 : Int) (a0_9 : Int) (a0_10 : Int) (a0_11 : Int) (a0_12 : Int) (a0_13 : Bool) (a1_0 : Int) (a1_1 : Int) (a1_2 : Int) (a1_3 : Int) (a1_4 : Int) (a1_5 : Bool) (a1_6 : Int) (a1_7 : Int) (a1_8 : Int) (a1_9 : Int) (a1_10 : Int) (a1_11 : Int) (a1_12 : Int) (a1_13 : Bool) (h : H) : evalF M F.withyref18_Ahead [(.agg [(.int .i64 a0_0), (.int .i64 a0_1), (.int .i64 a0_2), (.int .i64 a0_3), (.int .i64 a0_4), (.bool a0_5), (.int .i64 a0_6), (.int .i64 a0_7), (.int .u64 a0_8), (.int .u64 a0_9), (.int .u64 a0_10), (.int .i64 a0_11), (.int .u64 a0_12), (.bool a0_13)]), (.agg [(.int .i64 a1_0), (.int .i64 a1_1), (.int .i64 a1_2), (.int .i64 a1_3), (.int .i64 a1_4), (.bool a1_5), (.int .i64 a1_6), (.int .i64 a1_7), (.int .u64 a1_8), (.int .u64 a1_9), (.int .u64 a1_10), (.int .i64 a1_11), (.int .u64 a1_12), (.bool a1_13)])] h = withyref18_Ahead M a0_0 a0_1 a0_2 a0_3 a0_4 a0_5 a0_6 a0_7 a0_8 a0_9 a0_10 a0_11 a0_12 a0_13 a1_0 a1_1 a1_2 a1_3 a1_4 a1_5 a1_6 a1_7 a1_8 a1_9 a1_10 a1_11 a1_12 a1_13 h := by kernel_rfl

end Wm.S
end

section
/- PRINTED by my tool (wip/wm/tool/Gen.lean): what a function comes to, stretch by stretch. -/
namespace Wm.S
open Wm
set_option maxRecDepth 100000
set_option linter.unusedVariables false

def hist_Respects_c1_B (M : Env) : List V → H → Option (AX × List V × H) :=
 fun env h => evalC M F.hist_Respects_c1 env h fun x env h => match x with
 | .normal => some (.normal, keepOf [0, 5, 6, 17, 18, 19] 0 env, h)
 | x => some (x, keepOf [4] 0 env, h)

def hist_Respects_c1_E (x0 x5 x6 x17 x18 x19 : V) : List V := x0 :: dd 4 (x5 :: x6 :: dd 10 (x17 :: x18 :: x19 :: dd 49 []))
def hist_Respects_c1_O (x4 : V) : List V := dd 4 (x4 :: dd 64 [])

def hist_Respects_K0 (M : Env) : AX → List V → H → Option (V × H) :=
 fun x env h => fin F.hist_Respects x env h

def hist_Respects_K1 (M : Env) : AX → List V → H → Option (V × H) :=
 fun x env h => match x with | .normal => evalC M F.hist_Respects_c0 env h (fun x env h => hist_Respects_K0 M x env h) | x => hist_Respects_K0 M x env h

def hist_Respects_K2 (M : Env) : AX → List V → H → Option (V × H) :=
 fun x env h => match x with | .exit j => (match Nat.beq j 0 with | true => hist_Respects_K1 M .normal env h | false => hist_Respects_K1 M (.exit j) env h) | x => hist_Respects_K1 M x env h

def hist_Respects (M : Env) (a0 : V) (a1 : V) (h : H) : Option (V × H) :=
 (lenSl a1).bind fun n0 =>
 (lenSl a0).bind fun n1 =>
 match (!decide (((n0 : Nat) : Int) = ((n1 : Nat) : Int))) with
 | true => (
 some ((.bool false), h))
 | false => (
 (lenSl a0).bind fun n2 =>
 (h.mkSl 1 1 [(.bool false)] ((n2 : Nat) : Int) ((n2 : Nat) : Int)).bind fun p3 =>
 (lenSl a1).bind fun n4 =>
 (M.loop (hist_Respects_c1_B M) (hist_Respects_c1_E a0 p3.1 (.int .i64 0) a1 (.int .i64 ((n4 : Nat) : Int)) (.int .i64 0)) p3.2).bind fun p5 => hist_Respects_K2 M p5.1 p5.2.1 p5.2.2)

def hist_Respects_c1_S (M : Env) (x0 : V) (x5 : V) (x6 : Int) (x17 : V) (x18 : Int) (x19 : Int) (h : H) : Option (AX × List V × H) :=
 match (decide (x19 < x18)) with
 | true => (
 (indexAV 1 x17 (.int .i64 x19)).bind fun v0 =>
 (h.ld1 v0).bind fun v1 =>
 (asI .i64 v1).bind fun n2 =>
 match (decide (n2 < 0)) with
 | true => (
 some (.ret, (hist_Respects_c1_O (.bool false)), h))
 | false => (
 (lenSl x0).bind fun n3 =>
 (asI .i64 v1).bind fun n4 =>
 match (decide (((n3 : Nat) : Int) ≤ n4)) with
 | true => (
 some (.ret, (hist_Respects_c1_O (.bool false)), h))
 | false => (
 (indexAV 1 x5 v1).bind fun v5 =>
 (h.ld1 v5).bind fun v6 =>
 (asB v6).bind fun b7 =>
 match b7 with
 | true => (
 some (.ret, (hist_Respects_c1_O (.bool false)), h))
 | false => (
 (indexAV 1 x5 v1).bind fun v8 =>
 (h.st 1 v8 (.bool true)).bind fun h9 =>
 match (decide (0 < x19)) with
 | true => (
 (indexAV 14 x0 v1).bind fun v10 =>
 (ptrAt v10 4).bind fun v11 =>
 (h9.ld1 v11).bind fun v12 =>
 (asI .i64 v12).bind fun n13 =>
 match (decide (n13 < x6)) with
 | true => (
 some (.ret, (hist_Respects_c1_O (.bool false)), h9))
 | false => (
 match (decide (x19 = 0)) with
 | true => (
 (indexAV 14 x0 v1).bind fun v14 =>
 (ptrAt v14 2).bind fun v15 =>
 (h9.ld1 v15).bind fun v16 =>
 some (.normal, (hist_Respects_c1_E x0 x5 v16 x17 (.int .i64 x18) (.int .i64 (wr .i64 (x19 + 1)))), h9))
 | false => (
 (indexAV 14 x0 v1).bind fun v14 =>
 (ptrAt v14 2).bind fun v15 =>
 (h9.ld1 v15).bind fun v16 =>
 (asI .i64 v16).bind fun n17 =>
 match (decide (x6 < n17)) with
 | true => (
 (indexAV 14 x0 v1).bind fun v18 =>
 (ptrAt v18 2).bind fun v19 =>
 (h9.ld1 v19).bind fun v20 =>
 some (.normal, (hist_Respects_c1_E x0 x5 v20 x17 (.int .i64 x18) (.int .i64 (wr .i64 (x19 + 1)))), h9))
 | false => (
 some (.normal, (hist_Respects_c1_E x0 x5 (.int .i64 x6) x17 (.int .i64 x18) (.int .i64 (wr .i64 (x19 + 1)))), h9)))))
 | false => (
 match (decide (x19 = 0)) with
 | true => (
 (indexAV 14 x0 v1).bind fun v10 =>
 (ptrAt v10 2).bind fun v11 =>
 (h9.ld1 v11).bind fun v12 =>
 some (.normal, (hist_Respects_c1_E x0 x5 v12 x17 (.int .i64 x18) (.int .i64 (wr .i64 (x19 + 1)))), h9))
 | false => (
 (indexAV 14 x0 v1).bind fun v10 =>
 (ptrAt v10 2).bind fun v11 =>
 (h9.ld1 v11).bind fun v12 =>
 (asI .i64 v12).bind fun n13 =>
 match (decide (x6 < n13)) with
 | true => (
 (indexAV 14 x0 v1).bind fun v14 =>
 (ptrAt v14 2).bind fun v15 =>
 (h9.ld1 v15).bind fun v16 =>
 some (.normal, (hist_Respects_c1_E x0 x5 v16 x17 (.int .i64 x18) (.int .i64 (wr .i64 (x19 + 1)))), h9))
 | false => (
 some (.normal, (hist_Respects_c1_E x0 x5 (.int .i64 x6) x17 (.int .i64 x18) (.int .i64 (wr .i64 (x19 + 1)))), h9))))))))
 | false => (
 some ((.exit 0), (hist_Respects_c1_O .dead), h))

def hist_Respects_c1_e0 (M : Env) (x4 : V) (h : H) : Option (V × H) :=
 some ((.bool true), h)

def hist_Respects_c1_r (M : Env) (x4 : Bool) (h : H) : Option (V × H) :=
 some ((.bool x4), h)

theorem hist_Respects_eq (M : Env) (a0 : V) (a1 : V) (h : H) : evalF M F.hist_Respects [a0, a1] h = hist_Respects M a0 a1 h := by kernel_rfl

theorem hist_Respects_c1_eq (M : Env) (x0 : V) (x5 : V) (x6 : Int) (x17 : V) (x18 : Int) (x19 : Int) (h : H) : hist_Respects_c1_B M (hist_Respects_c1_E x0 x5 (.int .i64 x6) x17 (.int .i64 x18) (.int .i64 x19)) h = hist_Respects_c1_S M x0 x5 x6 x17 x18 x19 h := by kernel_rfl

theorem hist_Respects_c1_e0_eq (M : Env) (x4 : V) (h : H) : hist_Respects_K2 M (.exit 0) (hist_Respects_c1_O x4) h = hist_Respects_c1_e0 M x4 h := by kernel_rfl

theorem hist_Respects_c1_r_eq (M : Env) (x4 : Bool) (h : H) : hist_Respects_K2 M .ret (hist_Respects_c1_O (.bool x4)) h = hist_Respects_c1_r M x4 h := by kernel_rfl

end Wm.S
end

section
/- PRINTED by my tool (wip/wm/tool/Gen.lean): what a function comes to, stretch by stretch. -/
namespace Wm.S
open Wm
set_option maxRecDepth 100000
set_option linter.unusedVariables false

def withyref18_Respects_c1_B (M : Env) : List V → H → Option (AX × List V × H) :=
 fun env h => evalC M F.withyref18_Respects_c1 env h fun x env h => match x with
 | .normal => some (.normal, keepOf [0, 1, 5, 6] 0 env, h)
 | x => some (x, keepOf [4] 0 env, h)

def withyref18_Respects_c1_E (x0 x1 x5 x6 : V) : List V := x0 :: x1 :: dd 3 (x5 :: x6 :: dd 54 [])
def withyref18_Respects_c1_O (x4 : V) : List V := dd 4 (x4 :: dd 56 [])

def withyref18_Respects_c3_B (M : Env) : List V → H → Option (AX × List V × H) :=
 fun env h => evalC M F.withyref18_Respects_c3 env h fun x env h => match x with
 | .normal => some (.normal, keepOf [0, 1, 5, 6, 7, 8] 0 env, h)
 | x => some (x, keepOf [0, 1, 4, 5, 6] 0 env, h)

def withyref18_Respects_c3_E (x0 x1 x5 x6 x7 x8 : V) : List V := x0 :: x1 :: dd 3 (x5 :: x6 :: x7 :: x8 :: dd 52 [])
def withyref18_Respects_c3_O (x0 x1 x4 x5 x6 : V) : List V := x0 :: x1 :: dd 2 (x4 :: x5 :: x6 :: dd 54 [])

def withyref18_Respects_K0 (M : Env) : AX → List V → H → Option (V × H) :=
 fun x env h => fin F.withyref18_Respects x env h

def withyref18_Respects_K1 (M : Env) : AX → List V → H → Option (V × H) :=
 fun x env h => match x with | .normal => evalC M F.withyref18_Respects_c0 env h (fun x env h => withyref18_Respects_K0 M x env h) | x => withyref18_Respects_K0 M x env h

def withyref18_Respects_K2 (M : Env) : AX → List V → H → Option (V × H) :=
 fun x env h => match x with | .exit j => (match Nat.beq j 0 with | true => withyref18_Respects_K1 M .normal env h | false => withyref18_Respects_K1 M (.exit j) env h) | x => withyref18_Respects_K1 M x env h

def withyref18_Respects_K3 (M : Env) : AX → List V → H → Option (AX × List V × H) :=
 fun x env h => match x with | .normal => some (.normal, keepOf [0, 1, 5, 6] 0 env, h) | x => some (x, keepOf [4] 0 env, h)

def withyref18_Respects_K4 (M : Env) : AX → List V → H → Option (AX × List V × H) :=
 fun x env h => match x with | .normal => evalC M F.withyref18_Respects_c2 env h (fun x env h => withyref18_Respects_K3 M x env h) | x => withyref18_Respects_K3 M x env h

def withyref18_Respects_K5 (M : Env) : AX → List V → H → Option (AX × List V × H) :=
 fun x env h => match x with | .exit j => (match Nat.beq j 1 with | true => withyref18_Respects_K4 M .normal env h | false => withyref18_Respects_K4 M (.exit j) env h) | x => withyref18_Respects_K4 M x env h

def withyref18_Respects_K6 (M : Env) : AX → List V → H → Option (AX × List V × H) :=
 fun x env h => match x with | .exit j => (match Nat.beq j 2 with | true => withyref18_Respects_K5 M .normal env h | false => withyref18_Respects_K5 M (.exit j) env h) | x => withyref18_Respects_K5 M x env h

def withyref18_Respects (M : Env) (a0 : V) (a1 : V) (h : H) : Option (V × H) :=
 (lenSl a1).bind fun n0 =>
 (lenSl a0).bind fun n1 =>
 match (!decide (((n0 : Nat) : Int) = ((n1 : Nat) : Int))) with
 | true => (
 some ((.bool false), h))
 | false => (
 (lenSl a0).bind fun n2 =>
 (h.mkSl 1 1 [(.bool false)] ((n2 : Nat) : Int) ((n2 : Nat) : Int)).bind fun p3 =>
 (M.loop (withyref18_Respects_c1_B M) (withyref18_Respects_c1_E a0 a1 p3.1 (.int .i64 0)) p3.2).bind fun p4 => withyref18_Respects_K2 M p4.1 p4.2.1 p4.2.2)

def withyref18_Respects_c1_S (M : Env) (x0 : V) (x1 : V) (x5 : V) (x6 : Int) (h : H) : Option (AX × List V × H) :=
 (lenSl x1).bind fun n0 =>
 match (decide (x6 < ((n0 : Nat) : Int))) with
 | true => (
 (indexAV 1 x1 (.int .i64 x6)).bind fun v1 =>
 (h.ld1 v1).bind fun v2 =>
 (asI .i64 v2).bind fun n3 =>
 match (decide (n3 < 0)) with
 | true => (
 some (.ret, (withyref18_Respects_c1_O (.bool false)), h))
 | false => (
 (lenSl x0).bind fun n4 =>
 (asI .i64 v2).bind fun n5 =>
 match (decide (((n4 : Nat) : Int) ≤ n5)) with
 | true => (
 some (.ret, (withyref18_Respects_c1_O (.bool false)), h))
 | false => (
 (indexAV 1 x5 v2).bind fun v6 =>
 (h.ld1 v6).bind fun v7 =>
 (asB v7).bind fun b8 =>
 match b8 with
 | true => (
 some (.ret, (withyref18_Respects_c1_O (.bool false)), h))
 | false => (
 (indexAV 1 x5 v2).bind fun v9 =>
 (h.st 1 v9 (.bool true)).bind fun h10 =>
 (M.loop (withyref18_Respects_c3_B M) (withyref18_Respects_c3_E x0 x1 x5 (.int .i64 x6) v2 (.int .i64 0)) h10).bind fun p11 => withyref18_Respects_K6 M p11.1 p11.2.1 p11.2.2))))
 | false => (
 some ((.exit 0), (withyref18_Respects_c1_O .dead), h))

def withyref18_Respects_c1_e0 (M : Env) (x4 : V) (h : H) : Option (V × H) :=
 some ((.bool true), h)

def withyref18_Respects_c1_r (M : Env) (x4 : Bool) (h : H) : Option (V × H) :=
 some ((.bool x4), h)

def withyref18_Respects_c3_S (M : Env) (x0 : V) (x1 : V) (x5 : V) (x6 : Int) (x7 : Int) (x8 : Int) (h : H) : Option (AX × List V × H) :=
 match (decide (x8 < x6)) with
 | true => (
 (indexAV 14 x0 (.int .i64 x7)).bind fun v0 =>
 (h.ldN 14 v0).bind fun v1 =>
 (indexAV 1 x1 (.int .i64 x8)).bind fun v2 =>
 (h.ld1 v2).bind fun v3 =>
 (indexAV 14 x0 v3).bind fun v4 =>
 (h.ldN 14 v4).bind fun v5 =>
 (M.call 184 [v1, v5] h).bind fun p6 =>
 (asB p6.1).bind fun b7 =>
 match b7 with
 | true => (
 some (.ret, (withyref18_Respects_c3_O x0 x1 (.bool false) x5 (.int .i64 x6)), p6.2))
 | false => (
 some (.normal, (withyref18_Respects_c3_E x0 x1 x5 (.int .i64 x6) (.int .i64 x7) (.int .i64 (wr .i64 (x8 + 1)))), p6.2)))
 | false => (
 some ((.exit 2), (withyref18_Respects_c3_O x0 x1 .dead x5 (.int .i64 x6)), h))

def withyref18_Respects_c3_e2 (M : Env) (x0 : V) (x1 : V) (x4 : V) (x5 : V) (x6 : Int) (h : H) : Option (AX × List V × H) :=
 some (.normal, (withyref18_Respects_c1_E x0 x1 x5 (.int .i64 (wr .i64 (x6 + 1)))), h)

def withyref18_Respects_c3_r (M : Env) (x0 : V) (x1 : V) (x4 : Bool) (x5 : V) (x6 : V) (h : H) : Option (AX × List V × H) :=
 some (.ret, (withyref18_Respects_c1_O (.bool x4)), h)

theorem withyref18_Respects_eq (M : Env) (a0 : V) (a1 : V) (h : H) : evalF M F.withyref18_Respects [a0, a1] h = withyref18_Respects M a0 a1 h := by kernel_rfl

theorem withyref18_Respects_c1_eq (M : Env) (x0 : V) (x1 : V) (x5 : V) (x6 : Int) (h : H) : withyref18_Respects_c1_B M (withyref18_Respects_c1_E x0 x1 x5 (.int .i64 x6)) h = withyref18_Respects_c1_S M x0 x1 x5 x6 h := by kernel_rfl

theorem withyref18_Respects_c1_e0_eq (M : Env) (x4 : V) (h : H) : withyref18_Respects_K2 M (.exit 0) (withyref18_Respects_c1_O x4) h = withyref18_Respects_c1_e0 M x4 h := by kernel_rfl

theorem withyref18_Respects_c1_r_eq (M : Env) (x4 : Bool) (h : H) : withyref18_Respects_K2 M .ret (withyref18_Respects_c1_O (.bool x4)) h = withyref18_Respects_c1_r M x4 h := by kernel_rfl

theorem withyref18_Respects_c3_eq (M : Env) (x0 : V) (x1 : V) (x5 : V) (x6 : Int) (x7 : Int) (x8 : Int) (h : H) : withyref18_Respects_c3_B M (withyref18_Respects_c3_E x0 x1 x5 (.int .i64 x6) (.int .i64 x7) (.int .i64 x8)) h = withyref18_Respects_c3_S M x0 x1 x5 x6 x7 x8 h := by kernel_rfl

theorem withyref18_Respects_c3_e2_eq (M : Env) (x0 : V) (x1 : V) (x4 : V) (x5 : V) (x6 : Int) (h : H) : withyref18_Respects_K6 M (.exit 2) (withyref18_Respects_c3_O x0 x1 x4 x5 (.int .i64 x6)) h = withyref18_Respects_c3_e2 M x0 x1 x4 x5 x6 h := by kernel_rfl

theorem withyref18_Respects_c3_r_eq (M : Env) (x0 : V) (x1 : V) (x4 : Bool) (x5 : V) (x6 : V) (h : H) : withyref18_Respects_K6 M .ret (withyref18_Respects_c3_O x0 x1 (.bool x4) x5 x6) h = withyref18_Respects_c3_r M x0 x1 x4 x5 x6 h := by kernel_rfl

end Wm.S
end

section
/- PRINTED by my tool (wip/wm/tool/Gen.lean): what a function comes to, stretch by stretch. -/
namespace Wm.S
open Wm
set_option maxRecDepth 100000
set_option linter.unusedVariables false


def withylaw18_HistRespects (M : Env) (a0 : V) (a1 : V) (h : H) : Option (V × H) :=
 (lenSl a0).bind fun n0 =>
 match (decide (60 < ((n0 : Nat) : Int))) with
 | true => (
 (M.call 180 [] h).bind fun p1 =>
 some (p1.1, p1.2))
 | false => (
 (lenSl a1).bind fun n1 =>
 match (decide (60 < ((n1 : Nat) : Int))) with
 | true => (
 (M.call 180 [] h).bind fun p2 =>
 some (p2.1, p2.2))
 | false => (
 (lenSl a0).bind fun n2 =>
 match (decide (((n2 : Nat) : Int) < 2)) with
 | true => (
 (M.call 185 [a0, a1] h).bind fun p3 =>
 (M.call 186 [a0, a1] p3.2).bind fun p4 =>
 (eqV .bool p3.1 p4.1).bind fun b5 =>
 match b5 with
 | true => (
 (M.call 180 [] p4.2).bind fun p6 =>
 some (p6.1, p6.2))
 | false => (
 some ((.bool false), p4.2)))
 | false => (
 (indexAV 14 a0 (.int .i64 0)).bind fun v3 =>
 (h.ldN 14 v3).bind fun v4 =>
 (indexAV 14 a0 (.int .i64 1)).bind fun v5 =>
 (h.ldN 14 v5).bind fun v6 =>
 (indexAV 14 a0 (.int .i64 0)).bind fun v7 =>
 (h.ldN 14 v7).bind fun v8 =>
 (indexAV 14 a0 (.int .i64 1)).bind fun v9 =>
 (h.ldN 14 v9).bind fun v10 =>
 (M.call 183 [v4, v6] h).bind fun p11 =>
 match ckB (p11.2.ldN 14 v9) v10 with
 | true => (
 match ckB (p11.2.ldN 14 v7) v8 with
 | true => (
 (M.call 184 [v8, v10] p11.2).bind fun p12 =>
 (eqV .bool p11.1 p12.1).bind fun b13 =>
 (M.call 185 [a0, a1] p12.2).bind fun p14 =>
 (M.call 186 [a0, a1] p14.2).bind fun p15 =>
 (eqV .bool p14.1 p15.1).bind fun b16 =>
 match b16 with
 | true => (
 match b13 with
 | true => (
 (M.call 180 [] p15.2).bind fun p17 =>
 some (p17.1, p17.2))
 | false => (
 some ((.bool false), p15.2)))
 | false => (
 some ((.bool false), p15.2)))
 | false => none)
 | false => none)))

theorem withylaw18_HistRespects_eq (M : Env) (a0 : V) (a1 : V) (h : H) : evalF M F.withylaw18_HistRespects [a0, a1] h = withylaw18_HistRespects M a0 a1 h := by kernel_rfl

end Wm.S
end

