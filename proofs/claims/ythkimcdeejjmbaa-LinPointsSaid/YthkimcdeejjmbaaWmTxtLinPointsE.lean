/- PRINTED by my tool: what functions come to, stretch by stretch. -/
import Derived.KernelRfl
import Derived.Test.YthkimcdeejjmbaaWmShal
import Derived.Test.YthkimcdeejjmbaaWmFnsLinPoints
import Derived.Test.YthkimcdeejjmbaaWmTxtLinPointsA
set_option linter.all false
noncomputable section
namespace Wm.S
open Wm
set_option maxRecDepth 100000
set_option autoImplicit true
set_option relaxedAutoImplicit true
def z49 (M : Env) (a0_0 a0_1 a0_2 a0_3 a0_4 a0_5 : Int) (a1 : V) (h : H) : Rf :=
 let h0 := h.new (.cells [a0_0, a0_1, a0_2, a0_3, a0_4, a0_5] .rw)
 (lenSl a1).bind fun n1 =>
 match decide (7 < (n1 : Int)) with
 | true => ((M.call 204 [] h0).bind fun p2 =>
 some (p2.1, p2.2))
 | false => ((h0.ldN 6 (.ptr h.next 0)).bind fun v2 =>
 (M.call 206 [v2, a1] h0).bind fun p3 =>
 (asB p3.1).bind fun b4 =>
 match (!b4) with
 | true => ((M.call 204 [] p3.2).bind fun p5 =>
 some (p5.1, p5.2))
 | false => ((p3.2.ldN 6 (.ptr h.next 0)).bind fun v5 =>
 (M.call 208 [v5, a1] p3.2).bind fun p6 =>
 match p6.1 with
 | .tup vs7 => ((vs7[0]?).bind fun v8 =>
 match p6.1 with
 | .tup vs9 => ((vs9[1]?).bind fun v10 =>
 match p6.1 with
 | .tup vs11 => ((vs11[2]?).bind fun v12 =>
 match v10 with
 | .bool true => (
 (asI .i64 v12).bind fun n13 =>
 match decide (n13 = 0) with
 | true => ((M.call 186 [a1, v8] p6.2).bind fun p14 =>
 match p14.1 with
 | .bool true => (
 (p14.2.ldN 6 (.ptr h.next 0)).bind fun v15 =>
 (M.call 205 [v15, a1, v8] p14.2).bind fun p16 =>
 (lenSl a1).bind fun n17 =>
 (asI .i64 p16.1).bind fun n18 =>
 match decide (n18 = (n17 : Int)) with
 | true => ((M.call 204 [] p16.2).bind fun p19 =>
 some (p19.1, p19.2))
 | false => (some (false, p16.2)))
 | .bool false => (
 some (false, p14.2))
 | .tup [] => (
 (asB p14.1).bind fun b15 =>
 match (match b15 with | true => (.tup []) | false => false : V) with
 | .bool true => (
 (M.call 204 [] p14.2).bind fun p16 =>
 some (p16.1, p16.2))
 | .bool false => (
 some (false, p14.2))
 | .tup [] => (
 (asB (match b15 with | true => (.tup []) | false => false : V)).bind fun b16 =>
 some ((match b16 with | true => (.tup []) | false => false : V), p14.2))
 | _ => none)
 | _ => none)
 | false => (some (false, p6.2)))
 | .bool false => (
 some (false, p6.2))
 | .tup [] => (
 (asB v10).bind fun b13 =>
 match (match b13 with | true => (.tup []) | false => false : V) with
 | .bool true => (
 (M.call 186 [a1, v8] p6.2).bind fun p14 =>
 match p14.1 with
 | .bool true => (
 (p14.2.ldN 6 (.ptr h.next 0)).bind fun v15 =>
 (M.call 205 [v15, a1, v8] p14.2).bind fun p16 =>
 (lenSl a1).bind fun n17 =>
 (asI .i64 p16.1).bind fun n18 =>
 match decide (n18 = (n17 : Int)) with
 | true => ((M.call 204 [] p16.2).bind fun p19 =>
 some (p19.1, p19.2))
 | false => (some (false, p16.2)))
 | .bool false => (
 some (false, p14.2))
 | .tup [] => (
 (asB p14.1).bind fun b15 =>
 match (match b15 with | true => (.tup []) | false => false : V) with
 | .bool true => (
 (M.call 204 [] p14.2).bind fun p16 =>
 some (p16.1, p16.2))
 | .bool false => (
 some (false, p14.2))
 | .tup [] => (
 (asB (match b15 with | true => (.tup []) | false => false : V)).bind fun b16 =>
 some ((match b16 with | true => (.tup []) | false => false : V), p14.2))
 | _ => none)
 | _ => none)
 | .bool false => (
 some (false, p6.2))
 | .tup [] => (
 (asB (match b13 with | true => (.tup []) | false => false : V)).bind fun b14 =>
 match (match b14 with | true => (.tup []) | false => false : V) with
 | .bool true => (
 (p6.2.ldN 6 (.ptr h.next 0)).bind fun v15 =>
 (M.call 205 [v15, a1, v8] p6.2).bind fun p16 =>
 (lenSl a1).bind fun n17 =>
 (asI .i64 p16.1).bind fun n18 =>
 match decide (n18 = (n17 : Int)) with
 | true => ((M.call 204 [] p16.2).bind fun p19 =>
 some (p19.1, p19.2))
 | false => (some (false, p16.2)))
 | .bool false => (
 some (false, p6.2))
 | .tup [] => (
 (asB (match b14 with | true => (.tup []) | false => false : V)).bind fun b15 =>
 match (match b15 with | true => (.tup []) | false => false : V) with
 | .bool true => (
 (M.call 204 [] p6.2).bind fun p16 =>
 some (p16.1, p16.2))
 | .bool false => (
 some (false, p6.2))
 | .tup [] => (
 (asB (match b15 with | true => (.tup []) | false => false : V)).bind fun b16 =>
 some ((match b16 with | true => (.tup []) | false => false : V), p6.2))
 | _ => none)
 | _ => none)
 | _ => none)
 | _ => none)
 | _ => none)
 | _ => none)
 | _ => none))
theorem zrn : z06 M F.z49 [(.agg [(.int .i64 a0_0), (.int .i64 a0_1), (.int .i64 a0_2), (.int .i64 a0_3), (.int .i64 a0_4), (.int .i64 a0_5)]), a1] h = z49 M a0_0 a0_1 a0_2 a0_3 a0_4 a0_5 a1 h := by kernel_rfl
end Wm.S
end
