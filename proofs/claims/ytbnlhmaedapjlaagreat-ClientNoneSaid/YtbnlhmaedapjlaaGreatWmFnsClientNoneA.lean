/- PRINTED by my tool: functions as those of my machine. -/
import Derived.Test.YtbnlhmaedapjlaaGreatWmCore
set_option linter.all false
section
/- PRINTED by my tool (wip/wm/tool/Gen.lean): a function as one of my machine. -/
namespace Wm.F
open Wm
set_option maxRecDepth 100000

def withylaw21_ClientNone_c3 : ACode :=
  .ops (
    .op ⟨(some 16), .loadN 6 (.t 4), []⟩ <|
    .op ⟨(some 17), .call 85 [(.t 16)], []⟩ <|
    .op ⟨(some 18), .mov (.t 17), []⟩ <|
    .grd 18 true [⟨(some 19), .mov (.t 1), []⟩,
        ⟨(some 20), .cmp .geq .i64 (.t 19) (.c (.int .i64 0)), []⟩] <|
    .op ⟨(some 21), .pick (.t 18) (.t 20) (.c (.bool false)), []⟩ <|
    .op ⟨(some 22), .mov (.t 21), []⟩ <|
    .grd 22 true [⟨(some 23), .mov (.t 1), []⟩,
        ⟨(some 24), .fieldA 2 (.t 4), []⟩,
        ⟨(some 25), .load1 (.t 24), []⟩,
        ⟨(some 26), .cmp .lss .i64 (.t 23) (.t 25), []⟩] <|
    .op ⟨(some 27), .pick (.t 22) (.t 26) (.c (.bool false)), []⟩ <|
    .op ⟨(some 28), .mov (.t 27), []⟩ <|
    .grd 28 true [⟨(some 29), .mov (.t 2), []⟩] <|
    .op ⟨(some 30), .pick (.t 28) (.t 29) (.c (.bool false)), []⟩ <|
    .op ⟨(some 10), .mov (.t 30), []⟩ <|
    .nil)

def withylaw21_ClientNone_c2 : ACode :=
  .seq (.ops (
    .op ⟨(some 11), .mov (.c .nilp), []⟩ <|
    .nil)) (
  .seq (.ops (
    .op ⟨(some 32), .mov (.t 11), []⟩ <|
    .op ⟨(some 33), .call 232 [(.t 32)], []⟩ <|
    .op ⟨(some 31), .mov (.t 33), []⟩ <|
    .op ⟨(some 34), .extract (.t 31) 0, []⟩ <|
    .op ⟨(some 35), .extract (.t 31) 1, []⟩ <|
    .op ⟨(some 12), .mov (.t 34), []⟩ <|
    .op ⟨(some 13), .mov (.t 35), []⟩ <|
    .nil)) (
  .seq (.ops (
    .op ⟨(some 36), .loadN 6 (.t 4), []⟩ <|
    .op ⟨(some 37), .mov (.t 1), []⟩ <|
    .op ⟨(some 38), .mov (.t 9), []⟩ <|
    .op ⟨(some 39), .call 220 [(.t 36), (.t 37), (.t 38)], []⟩ <|
    .op ⟨(some 40), .eq true .ptr (.t 39) (.c .nilp), []⟩ <|
    .op ⟨(some 41), .mov (.t 10), []⟩ <|
    .op ⟨(some 42), .eq false .bool (.t 40) (.t 41), []⟩ <|
    .op ⟨(some 43), .mov (.t 42), []⟩ <|
    .grd 43 true [⟨(some 44), .mov (.t 11), []⟩,
        ⟨(some 45), .loadN 5 (.t 7), []⟩,
        ⟨(some 46), .call 223 [(.t 44), (.t 45)], []⟩,
        ⟨(some 47), .not (.t 46), []⟩] <|
    .op ⟨(some 48), .pick (.t 43) (.t 47) (.c (.bool false)), []⟩ <|
    .op ⟨(some 49), .mov (.t 48), []⟩ <|
    .grd 49 true [⟨(some 50), .mov (.t 11), []⟩,
        ⟨(some 51), .call 233 [(.t 50)], []⟩,
        ⟨(some 52), .not (.t 51), []⟩] <|
    .op ⟨(some 53), .pick (.t 49) (.t 52) (.c (.bool false)), []⟩ <|
    .op ⟨(some 54), .mov (.t 53), []⟩ <|
    .grd 54 true [⟨(some 55), .mov (.t 11), []⟩,
        ⟨(some 56), .call 224 [(.t 55), (.c .nilp)], []⟩] <|
    .op ⟨(some 57), .pick (.t 54) (.t 56) (.c (.bool false)), []⟩ <|
    .op ⟨(some 58), .mov (.t 57), []⟩ <|
    .grd 58 true [⟨(some 59), .mov (.t 11), []⟩,
        ⟨(some 60), .call 225 [(.t 59)], []⟩,
        ⟨(some 61), .build [(.int .i64 0), (.int .u64 0), (.bool false)] [], []⟩,
        ⟨(some 62), .eq false (.agg [(0, .int), (1, .int), (2, .bool)]) (.t 60) (.t 61), []⟩] <|
    .op ⟨(some 63), .pick (.t 58) (.t 62) (.c (.bool false)), []⟩ <|
    .op ⟨(some 64), .mov (.t 63), []⟩ <|
    .grd 64 true [⟨(some 65), .mov (.t 12), []⟩,
        ⟨(some 66), .cmp .eql .i64 (.t 65) (.c (.int .i64 0)), []⟩] <|
    .op ⟨(some 67), .pick (.t 64) (.t 66) (.c (.bool false)), []⟩ <|
    .op ⟨(some 68), .mov (.t 67), []⟩ <|
    .grd 68 true [⟨(some 69), .mov (.t 13), []⟩,
        ⟨(some 70), .not (.t 69), []⟩] <|
    .op ⟨(some 71), .pick (.t 68) (.t 70) (.c (.bool false)), []⟩ <|
    .op ⟨(some 72), .mov (.t 71), []⟩ <|
    .grd 72 true [⟨(some 73), .mov (.t 11), []⟩,
        ⟨(some 74), .fieldA 2 (.t 7), []⟩,
        ⟨(some 75), .load1 (.t 74), []⟩,
        ⟨(some 76), .call 226 [(.t 73), (.t 75)], []⟩,
        ⟨(some 77), .cmp .eql .i64 (.t 76) (.c (.int .i64 (-1))), []⟩] <|
    .op ⟨(some 78), .pick (.t 72) (.t 77) (.c (.bool false)), []⟩ <|
    .op ⟨(some 79), .mov (.t 78), []⟩ <|
    .grd 79 true [⟨(some 80), .call 221 [], []⟩] <|
    .op ⟨(some 81), .pick (.t 79) (.t 80) (.c (.bool false)), []⟩ <|
    .op ⟨(some 8), .mov (.t 81), []⟩ <|
    .nil)) (
  .ret)))

def withylaw21_ClientNone_c1 : ACode :=
  .seq (.ops (
    .op ⟨(some 14), .mov (.t 2), []⟩ <|
    .nil)) (
  .cond (.t 14) (.ops (
      .op ⟨(some 15), .call 148 [], []⟩ <|
      .op ⟨(some 9), .mov (.t 15), []⟩ <|
      .nil)) (.skip))

def withylaw21_ClientNone_c0 : ACode :=
  .seq (.join [1, 2, 4, 7, 9] [1, 4, 7, 9, 10] (withylaw21_ClientNone_c3)) (
  withylaw21_ClientNone_c2)

/-- 57: withy/withylaw21.ClientNone -/
def withylaw21_ClientNone : AFunc where
  closed := true
  nparams := 4
  ntmps := 82
  results := [.tmp 8]
  body := .seq (.ops (
      .op ⟨(some 4), .box (.t 0), []⟩ <|
      .op ⟨(some 7), .box (.t 3), []⟩ <|
      .op ⟨(some 8), .mov (.c (.bool false)), []⟩ <|
      .nil)) (
    .seq (.ops (
      .op ⟨(some 9), .mov (.c .nilp), []⟩ <|
      .nil)) (
    .seq (.join [1, 2, 4, 7, 9] [1, 2, 4, 7, 9] (withylaw21_ClientNone_c1)) (
    withylaw21_ClientNone_c0)))

def withylaw21_ClientNone_hs : List (List Nat × List Nat) := [([1000002, 1, 2, 4, 7, 9], [1, 2, 4, 7, 9]), ([1000001, 1, 2, 4, 7, 9], [1, 4, 7, 9, 10])]

end Wm.F
end

section
/- PRINTED by my tool (wip/wm/tool/Gen.lean): a function as one of my machine. -/
namespace Wm.F
open Wm
set_option maxRecDepth 100000

/-- 85: withy/withyref06.Right -/
def withyref06_Right : AFunc where
  closed := true
  nparams := 1
  ntmps := 61
  results := [.tmp 2]
  body := .seq (.ops (
      .op ⟨(some 1), .box (.t 0), []⟩ <|
      .op ⟨(some 2), .mov (.c (.bool false)), []⟩ <|
      .nil)) (
    .seq (.ops (
      .op ⟨(some 3), .fieldA 0 (.t 1), []⟩ <|
      .op ⟨(some 4), .load1 (.t 3), []⟩ <|
      .op ⟨(some 5), .cmp .geq .i64 (.t 4) (.c (.int .i64 1)), []⟩ <|
      .op ⟨(some 6), .mov (.t 5), []⟩ <|
      .grd 6 true [⟨(some 7), .fieldA 0 (.t 1), []⟩,
          ⟨(some 8), .load1 (.t 7), []⟩,
          ⟨(some 9), .cmp .leq .i64 (.t 8) (.c (.int .i64 64)), []⟩] <|
      .op ⟨(some 10), .pick (.t 6) (.t 9) (.c (.bool false)), []⟩ <|
      .op ⟨(some 11), .mov (.t 10), []⟩ <|
      .grd 11 true [⟨(some 12), .fieldA 1 (.t 1), []⟩,
          ⟨(some 13), .load1 (.t 12), []⟩,
          ⟨(some 14), .cmp .geq .i64 (.t 13) (.c (.int .i64 0)), []⟩] <|
      .op ⟨(some 15), .pick (.t 11) (.t 14) (.c (.bool false)), []⟩ <|
      .op ⟨(some 16), .mov (.t 15), []⟩ <|
      .grd 16 true [⟨(some 17), .fieldA 1 (.t 1), []⟩,
          ⟨(some 18), .load1 (.t 17), []⟩,
          ⟨(some 19), .cmp .leq .i64 (.t 18) (.c (.int .i64 8)), []⟩] <|
      .op ⟨(some 20), .pick (.t 16) (.t 19) (.c (.bool false)), []⟩ <|
      .op ⟨(some 21), .mov (.t 20), []⟩ <|
      .grd 21 true [⟨(some 22), .fieldA 2 (.t 1), []⟩,
          ⟨(some 23), .load1 (.t 22), []⟩,
          ⟨(some 24), .cmp .geq .i64 (.t 23) (.c (.int .i64 1)), []⟩] <|
      .op ⟨(some 25), .pick (.t 21) (.t 24) (.c (.bool false)), []⟩ <|
      .op ⟨(some 26), .mov (.t 25), []⟩ <|
      .grd 26 true [⟨(some 27), .fieldA 2 (.t 1), []⟩,
          ⟨(some 28), .load1 (.t 27), []⟩,
          ⟨(some 29), .cmp .leq .i64 (.t 28) (.c (.int .i64 8)), []⟩] <|
      .op ⟨(some 30), .pick (.t 26) (.t 29) (.c (.bool false)), []⟩ <|
      .op ⟨(some 31), .mov (.t 30), []⟩ <|
      .grd 31 true [⟨(some 32), .fieldA 3 (.t 1), []⟩,
          ⟨(some 33), .load1 (.t 32), []⟩,
          ⟨(some 34), .cmp .geq .i64 (.t 33) (.c (.int .i64 1)), []⟩] <|
      .op ⟨(some 35), .pick (.t 31) (.t 34) (.c (.bool false)), []⟩ <|
      .op ⟨(some 36), .mov (.t 35), []⟩ <|
      .grd 36 true [⟨(some 37), .fieldA 3 (.t 1), []⟩,
          ⟨(some 38), .load1 (.t 37), []⟩,
          ⟨(some 39), .cmp .leq .i64 (.t 38) (.c (.int .i64 16)), []⟩] <|
      .op ⟨(some 40), .pick (.t 36) (.t 39) (.c (.bool false)), []⟩ <|
      .op ⟨(some 41), .mov (.t 40), []⟩ <|
      .grd 41 true [⟨(some 42), .fieldA 4 (.t 1), []⟩,
          ⟨(some 43), .load1 (.t 42), []⟩,
          ⟨(some 44), .cmp .geq .i64 (.t 43) (.c (.int .i64 1)), []⟩] <|
      .op ⟨(some 45), .pick (.t 41) (.t 44) (.c (.bool false)), []⟩ <|
      .op ⟨(some 46), .mov (.t 45), []⟩ <|
      .grd 46 true [⟨(some 47), .fieldA 4 (.t 1), []⟩,
          ⟨(some 48), .load1 (.t 47), []⟩,
          ⟨(some 49), .cmp .leq .i64 (.t 48) (.c (.int .i64 1048576)), []⟩] <|
      .op ⟨(some 50), .pick (.t 46) (.t 49) (.c (.bool false)), []⟩ <|
      .op ⟨(some 51), .mov (.t 50), []⟩ <|
      .grd 51 true [⟨(some 52), .fieldA 5 (.t 1), []⟩,
          ⟨(some 53), .load1 (.t 52), []⟩,
          ⟨(some 54), .cmp .geq .i64 (.t 53) (.c (.int .i64 0)), []⟩] <|
      .op ⟨(some 55), .pick (.t 51) (.t 54) (.c (.bool false)), []⟩ <|
      .op ⟨(some 56), .mov (.t 55), []⟩ <|
      .grd 56 true [⟨(some 57), .fieldA 5 (.t 1), []⟩,
          ⟨(some 58), .load1 (.t 57), []⟩,
          ⟨(some 59), .cmp .leq .i64 (.t 58) (.c (.int .i64 64)), []⟩] <|
      .op ⟨(some 60), .pick (.t 56) (.t 59) (.c (.bool false)), []⟩ <|
      .op ⟨(some 2), .mov (.t 60), []⟩ <|
      .nil)) (
    .ret))

def withyref06_Right_hs : List (List Nat × List Nat) := []

end Wm.F
end

section
/- PRINTED by my tool (wip/wm/tool/Gen.lean): a function as one of my machine. -/
namespace Wm.F
open Wm
set_option maxRecDepth 100000

/-- 148: withy/field.NewBook -/
def field_NewBook : AFunc where
  closed := false
  nparams := 0
  ntmps := 5
  results := [.tmp 0]
  body := .seq (.ops (
      .op ⟨(some 0), .mov (.c .nilp), []⟩ <|
      .nil)) (
    .seq (.ops (
      .op ⟨(some 1), .mkMap, []⟩ <|
      .op ⟨(some 2), .mkMap, []⟩ <|
      .op ⟨(some 3), .build [(.int .i64 0), .nilmap, .nilmap] [(1, 1, (.t 1)), (2, 1, (.t 2))], []⟩ <|
      .op ⟨(some 4), .box (.t 3), []⟩ <|
      .op ⟨(some 0), .mov (.t 4), []⟩ <|
      .nil)) (
    .ret))

def field_NewBook_hs : List (List Nat × List Nat) := []

end Wm.F
end

section
/- PRINTED by my tool (wip/wm/tool/Gen.lean): a function as one of my machine. -/
namespace Wm.F
open Wm
set_option maxRecDepth 100000

/-- 220: withy/client.New -/
def client_New : AFunc where
  closed := false
  nparams := 3
  ntmps := 23
  results := [.tmp 6]
  body := .seq (.ops (
      .op ⟨(some 3), .box (.t 0), []⟩ <|
      .op ⟨(some 6), .mov (.c .nilp), []⟩ <|
      .nil)) (
    .seq (.ops (
      .op ⟨(some 8), .loadN 6 (.t 3), []⟩ <|
      .op ⟨(some 9), .mov (.t 1), []⟩ <|
      .op ⟨(some 10), .call 354 [(.t 8), (.t 9), (.c (.int .u64 0))], []⟩ <|
      .op ⟨(some 7), .mov (.t 10), []⟩ <|
      .nil)) (
    .seq (.seq (.ops (
      .op ⟨(some 11), .mov (.t 7), []⟩ <|
      .op ⟨(some 12), .eq false .ptr (.t 11) (.c .nilp), []⟩ <|
      .op ⟨(some 13), .mov (.t 12), []⟩ <|
      .grd 13 false [⟨(some 14), .mov (.t 2), []⟩,
          ⟨(some 15), .eq false .ptr (.t 14) (.c .nilp), []⟩] <|
      .op ⟨(some 16), .pick (.t 13) (.c (.bool true)) (.t 15), []⟩ <|
      .nil)) (
    .cond (.t 16) (.seq (.ops (
        .op ⟨(some 6), .mov (.c .nilp), []⟩ <|
        .nil)) (
      .ret)) (.skip))) (
    .seq (.ops (
      .op ⟨(some 17), .loadN 6 (.t 3), []⟩ <|
      .op ⟨(some 18), .mov (.t 1), []⟩ <|
      .op ⟨(some 19), .mov (.t 2), []⟩ <|
      .op ⟨(some 20), .mov (.t 7), []⟩ <|
      .op ⟨(some 21), .build [(.int .i64 0), (.int .i64 0), (.int .i64 0), (.int .i64 0), (.int .i64 0), (.int .i64 0), (.int .i64 0), .nilp, .nilp, .nilp, (.int .i64 0), (.int .u64 0), (.int .u64 0), (.int .i64 0), (.int .i64 0), (.int .u64 0), (.int .u64 0), (.int .u64 0), (.int .i64 0), (.int .u64 0), (.bool false), (.int .i64 0), (.bool false), (.bool false), (.int .i64 0), .nilifc, (.int .u64 0), (.int .i64 0), (.int .i64 0), (.int .i64 0), (.int .i64 0), .nilp, .nilp, .nilp, .nilp, .nilp, .nilp] [(0, 6, (.t 17)), (6, 1, (.t 18)), (7, 1, (.t 19)), (8, 1, (.t 20))], []⟩ <|
      .op ⟨(some 22), .box (.t 21), []⟩ <|
      .op ⟨(some 6), .mov (.t 22), []⟩ <|
      .nil)) (
    .ret))))

def client_New_hs : List (List Nat × List Nat) := []

end Wm.F
end

section
/- PRINTED by my tool (wip/wm/tool/Gen.lean): a function as one of my machine. -/
namespace Wm.F
open Wm
set_option maxRecDepth 100000

def withylaw21_awake_c3 : ACode :=
  .seq (.seq (.ops (
    .op ⟨(some 41), .mov (.t 6), []⟩ <|
    .op ⟨(some 42), .cmp .lss .i64 (.t 41) (.c (.int .i64 60)), []⟩ <|
    .op ⟨(some 43), .mov (.t 42), []⟩ <|
    .grd 43 true [⟨(some 44), .mov (.t 3), []⟩,
        ⟨(some 45), .mov (.t 2), []⟩,
        ⟨(some 46), .call 224 [(.t 44), (.t 45)], []⟩,
        ⟨(some 47), .not (.t 46), []⟩] <|
    .op ⟨(some 48), .pick (.t 43) (.t 47) (.c (.bool false)), []⟩ <|
    .nil)) (
  .cond (.t 48) (.skip) (.exit 2))) (
  .seq (.block 3 (.skip)) (
  .ops (
    .op ⟨(some 49), .mov (.t 6), []⟩ <|
    .op ⟨(some 50), .arith .add .i64 (.t 49) (.c (.int .i64 1)), []⟩ <|
    .op ⟨(some 6), .mov (.t 50), []⟩ <|
    .nil)))

def withylaw21_awake_c2 : ACode :=
  .seq (.ops (
    .op ⟨(some 51), .fieldA 0 (.t 5), []⟩ <|
    .op ⟨(some 52), .load1 (.t 51), []⟩ <|
    .op ⟨(some 53), .cmp .eql .i64 (.t 52) (.c (.int .i64 0)), []⟩ <|
    .op ⟨(some 54), .mov (.t 53), []⟩ <|
    .grd 54 true [⟨(some 55), .fieldA 1 (.t 5), []⟩,
        ⟨(some 56), .load1 (.t 55), []⟩,
        ⟨(some 57), .cmp .neq .u64 (.t 56) (.c (.int .u64 0)), []⟩] <|
    .op ⟨(some 58), .pick (.t 54) (.t 57) (.c (.bool false)), []⟩ <|
    .op ⟨(some 59), .mov (.t 58), []⟩ <|
    .grd 59 true [⟨(some 60), .mov (.t 3), []⟩,
        ⟨(some 61), .fieldA 1 (.t 5), []⟩,
        ⟨(some 62), .load1 (.t 61), []⟩,
        ⟨(some 63), .call 226 [(.t 60), (.t 62)], []⟩,
        ⟨(some 64), .cmp .eql .i64 (.t 63) (.c (.int .i64 0)), []⟩] <|
    .op ⟨(some 65), .pick (.t 59) (.t 64) (.c (.bool false)), []⟩ <|
    .op ⟨(some 66), .mov (.t 65), []⟩ <|
    .grd 66 true [⟨(some 67), .mov (.t 3), []⟩,
        ⟨(some 68), .call 225 [(.t 67)], []⟩,
        ⟨(some 69), .field 0 1 false (.t 68), []⟩,
        ⟨(some 70), .cmp .eql .i64 (.t 69) (.c (.int .i64 4)), []⟩] <|
    .op ⟨(some 71), .pick (.t 66) (.t 70) (.c (.bool false)), []⟩ <|
    .op ⟨(some 0), .mov (.t 71), []⟩ <|
    .nil)) (
  .ret)

def withylaw21_awake_c1 : ACode :=
  .seq (.seq (.ops (
    .op ⟨(some 25), .mov (.t 4), []⟩ <|
    .op ⟨(some 26), .cmp .lss .i64 (.t 25) (.c (.int .i64 60)), []⟩ <|
    .op ⟨(some 27), .mov (.t 26), []⟩ <|
    .grd 27 true [⟨(some 28), .mov (.t 3), []⟩,
        ⟨(some 29), .mov (.t 2), []⟩,
        ⟨(some 30), .call 224 [(.t 28), (.t 29)], []⟩,
        ⟨(some 31), .not (.t 30), []⟩] <|
    .op ⟨(some 32), .pick (.t 27) (.t 31) (.c (.bool false)), []⟩ <|
    .nil)) (
  .cond (.t 32) (.skip) (.exit 0))) (
  .seq (.block 1 (.skip)) (
  .ops (
    .op ⟨(some 33), .mov (.t 4), []⟩ <|
    .op ⟨(some 34), .arith .add .i64 (.t 33) (.c (.int .i64 1)), []⟩ <|
    .op ⟨(some 4), .mov (.t 34), []⟩ <|
    .nil)))

def withylaw21_awake_c0 : ACode :=
  .seq (.ops (
    .op ⟨(some 35), .mov (.t 3), []⟩ <|
    .op ⟨(some 36), .call 225 [(.t 35)], []⟩ <|
    .op ⟨(some 5), .alloc [(.int .i64 0), (.int .u64 0), (.bool false)], []⟩ <|
    .op ⟨none, .store 3 (.t 5) (.t 36), []⟩ <|
    .nil)) (
  .seq (.seq (.ops (
    .op ⟨(some 37), .mov (.t 3), []⟩ <|
    .op ⟨(some 38), .build [(.int .i64 0), (.int .i64 0), (.int .u64 0), (.int .u64 0), (.int .u64 0)] [(0, 1, (.c (.int .i64 1))), (1, 1, (.c (.int .i64 1)))], []⟩ <|
    .op ⟨(some 39), .call 223 [(.t 37), (.t 38)], []⟩ <|
    .op ⟨(some 40), .not (.t 39), []⟩ <|
    .nil)) (
  .cond (.t 40) (.seq (.ops (
      .op ⟨(some 0), .mov (.c (.bool false)), []⟩ <|
      .nil)) (
    .ret)) (.skip))) (
  .seq (.seq (.ops (
    .op ⟨(some 6), .mov (.c (.int .i64 0)), []⟩ <|
    .nil)) (
  .block 2 (.loop [2, 3, 5, 6] [3, 5] (withylaw21_awake_c3)))) (
  withylaw21_awake_c2)))

/-- 221: withy/withylaw21.awake -/
def withylaw21_awake : AFunc where
  closed := true
  nparams := 0
  ntmps := 72
  results := [.tmp 0]
  body := .seq (.ops (
      .op ⟨(some 0), .mov (.c (.bool false)), []⟩ <|
      .nil)) (
    .seq (.ops (
      .op ⟨(some 7), .build [(.int .i64 0), (.int .i64 0), (.int .i64 0), (.int .i64 0), (.int .i64 0), (.int .i64 0)] [(0, 1, (.c (.int .i64 1))), (1, 1, (.c (.int .i64 1))), (2, 1, (.c (.int .i64 1))), (3, 1, (.c (.int .i64 2))), (4, 1, (.c (.int .i64 9)))], []⟩ <|
      .op ⟨(some 1), .alloc [(.int .i64 0), (.int .i64 0), (.int .i64 0), (.int .i64 0), (.int .i64 0), (.int .i64 0)], []⟩ <|
      .op ⟨none, .store 6 (.t 1) (.t 7), []⟩ <|
      .nil)) (
    .seq (.ops (
      .op ⟨(some 8), .loadN 6 (.t 1), []⟩ <|
      .op ⟨(some 9), .call 213 [(.t 8)], []⟩ <|
      .op ⟨(some 2), .mov (.t 9), []⟩ <|
      .nil)) (
    .seq (.ops (
      .op ⟨(some 10), .loadN 6 (.t 1), []⟩ <|
      .op ⟨(some 11), .call 148 [], [{ g := none, op := .loadN 6 (.t 1), d := 10 }]⟩ <|
      .op ⟨(some 12), .call 220 [(.t 10), (.c (.int .i64 0)), (.t 11)], []⟩ <|
      .op ⟨(some 3), .mov (.t 12), []⟩ <|
      .nil)) (
    .seq (.seq (.ops (
      .op ⟨(some 13), .mov (.t 2), []⟩ <|
      .op ⟨(some 14), .eq false .ptr (.t 13) (.c .nilp), []⟩ <|
      .op ⟨(some 15), .mov (.t 14), []⟩ <|
      .grd 15 false [⟨(some 16), .mov (.t 3), []⟩,
          ⟨(some 17), .eq false .ptr (.t 16) (.c .nilp), []⟩] <|
      .op ⟨(some 18), .pick (.t 15) (.c (.bool true)) (.t 17), []⟩ <|
      .op ⟨(some 19), .mov (.t 18), []⟩ <|
      .grd 19 false [⟨(some 20), .mov (.t 3), []⟩,
          ⟨(some 21), .build [(.int .i64 0), (.int .i64 0), (.int .u64 0), (.int .u64 0), (.int .u64 0)] [(0, 1, (.c (.int .i64 1))), (1, 1, (.c (.int .i64 1)))], []⟩,
          ⟨(some 22), .call 223 [(.t 20), (.t 21)], []⟩,
          ⟨(some 23), .not (.t 22), []⟩] <|
      .op ⟨(some 24), .pick (.t 19) (.c (.bool true)) (.t 23), []⟩ <|
      .nil)) (
    .cond (.t 24) (.seq (.ops (
        .op ⟨(some 0), .mov (.c (.bool false)), []⟩ <|
        .nil)) (
      .ret)) (.skip))) (
    .seq (.seq (.ops (
      .op ⟨(some 4), .mov (.c (.int .i64 0)), []⟩ <|
      .nil)) (
    .block 0 (.loop [2, 3, 4] [2, 3] (withylaw21_awake_c1)))) (
    withylaw21_awake_c0))))))

def withylaw21_awake_hs : List (List Nat × List Nat) := [([2, 3, 4], [2, 3]), ([2, 3, 5, 6], [3, 5])]

end Wm.F
end

section
/- PRINTED by my tool (wip/wm/tool/Gen.lean): a function as one of my machine. -/
namespace Wm.F
open Wm
set_option maxRecDepth 100000

/-- 223: (*withy/client.Client).Begin -/
def client_Client_Begin : AFunc where
  closed := false
  nparams := 2
  ntmps := 26
  results := [.tmp 4]
  body := .seq (.ops (
      .op ⟨(some 3), .box (.t 1), []⟩ <|
      .op ⟨(some 4), .mov (.c (.bool false)), []⟩ <|
      .nil)) (
    .seq (.seq (.ops (
      .op ⟨(some 5), .mov (.t 0), []⟩ <|
      .op ⟨(some 6), .eq false .ptr (.t 5) (.c .nilp), []⟩ <|
      .op ⟨(some 7), .mov (.t 6), []⟩ <|
      .grd 7 false [⟨(some 8), .mov (.t 0), []⟩,
          ⟨(some 9), .nilc (.t 8), []⟩,
          ⟨(some 10), .fieldA 23 (.t 9), []⟩,
          ⟨(some 11), .load1 (.t 10), []⟩] <|
      .op ⟨(some 12), .pick (.t 7) (.c (.bool true)) (.t 11), []⟩ <|
      .nil)) (
    .cond (.t 12) (.seq (.ops (
        .op ⟨(some 4), .mov (.c (.bool false)), []⟩ <|
        .nil)) (
      .ret)) (.skip))) (
    .seq (.ops (
      .op ⟨(some 13), .mov (.t 0), []⟩ <|
      .op ⟨(some 14), .mov (.t 0), []⟩ <|
      .op ⟨(some 15), .mov (.t 0), []⟩ <|
      .op ⟨(some 16), .loadN 5 (.t 3), []⟩ <|
      .op ⟨(some 17), .nilc (.t 13), []⟩ <|
      .op ⟨(some 18), .fieldA 13 (.t 17), []⟩ <|
      .op ⟨none, .store 5 (.t 18) (.t 16), []⟩ <|
      .op ⟨(some 19), .nilc (.t 14), []⟩ <|
      .op ⟨(some 20), .fieldA 23 (.t 19), []⟩ <|
      .op ⟨none, .store 1 (.t 20) (.c (.bool true)), []⟩ <|
      .op ⟨(some 21), .nilc (.t 15), []⟩ <|
      .op ⟨(some 22), .fieldA 24 (.t 21), []⟩ <|
      .op ⟨none, .store 1 (.t 22) (.c (.int .i64 0)), []⟩ <|
      .nil)) (
    .seq (.ops (
      .op ⟨(some 23), .mov (.t 0), []⟩ <|
      .op ⟨(some 24), .nilc (.t 23), []⟩ <|
      .op ⟨(some 25), .fieldA 25 (.t 24), []⟩ <|
      .op ⟨none, .store 1 (.t 25) (.c .nilifc), []⟩ <|
      .nil)) (
    .seq (.ops (
      .op ⟨(some 4), .mov (.c (.bool true)), []⟩ <|
      .nil)) (
    .ret)))))

def client_Client_Begin_hs : List (List Nat × List Nat) := []

end Wm.F
end

section
/- PRINTED by my tool (wip/wm/tool/Gen.lean): a function as one of my machine. -/
namespace Wm.F
open Wm
set_option maxRecDepth 100000

/-- 224: (*withy/client.Client).Step -/
def client_Client_Step : AFunc where
  closed := false
  nparams := 2
  ntmps := 62
  results := [.tmp 4]
  body := .seq (.ops (
      .op ⟨(some 4), .mov (.c (.bool false)), []⟩ <|
      .nil)) (
    .seq (.seq (.ops (
      .op ⟨(some 5), .mov (.t 0), []⟩ <|
      .op ⟨(some 6), .call 233 [(.t 5)], []⟩ <|
      .op ⟨(some 7), .not (.t 6), []⟩ <|
      .nil)) (
    .cond (.t 7) (.seq (.ops (
        .op ⟨(some 4), .mov (.c (.bool true)), []⟩ <|
        .nil)) (
      .ret)) (.skip))) (
    .seq (.seq (.ops (
      .op ⟨(some 8), .mov (.t 0), []⟩ <|
      .op ⟨(some 9), .nilc (.t 8), []⟩ <|
      .op ⟨(some 10), .fieldA 24 (.t 9), []⟩ <|
      .op ⟨(some 11), .load1 (.t 10), []⟩ <|
      .op ⟨(some 12), .cmp .eql .i64 (.t 11) (.c (.int .i64 0)), []⟩ <|
      .nil)) (
    .cond (.t 12) (.seq (.seq (.ops (
        .op ⟨(some 13), .mov (.t 0), []⟩ <|
        .op ⟨(some 14), .call 356 [(.t 13)], []⟩ <|
        .nil)) (
      .cond (.t 14) (.seq (.ops (
          .op ⟨(some 15), .mov (.t 0), []⟩ <|
          .op ⟨(some 16), .nilc (.t 15), []⟩ <|
          .op ⟨(some 17), .fieldA 23 (.t 16), []⟩ <|
          .op ⟨none, .store 1 (.t 17) (.c (.bool false)), []⟩ <|
          .nil)) (
        .seq (.ops (
          .op ⟨(some 4), .mov (.c (.bool true)), []⟩ <|
          .nil)) (
        .ret))) (.skip))) (
      .seq (.ops (
        .op ⟨(some 18), .mov (.t 0), []⟩ <|
        .op ⟨(some 19), .mov (.t 0), []⟩ <|
        .op ⟨(some 20), .nilc (.t 19), []⟩ <|
        .op ⟨(some 21), .fieldA 0 (.t 20), []⟩ <|
        .op ⟨(some 22), .loadN 6 (.t 21), []⟩ <|
        .op ⟨(some 23), .mov (.t 0), []⟩ <|
        .op ⟨(some 24), .nilc (.t 23), []⟩ <|
        .op ⟨(some 25), .fieldA 6 (.t 24), []⟩ <|
        .op ⟨(some 26), .load1 (.t 25), []⟩ <|
        .op ⟨(some 27), .call 357 [(.t 22), (.t 26)], []⟩ <|
        .op ⟨(some 28), .nilc (.t 18), []⟩ <|
        .op ⟨(some 29), .fieldA 31 (.t 28), []⟩ <|
        .op ⟨none, .store 1 (.t 29) (.t 27), []⟩ <|
        .nil)) (
      .ops (
        .op ⟨(some 30), .mov (.t 0), []⟩ <|
        .op ⟨(some 31), .mov (.t 0), []⟩ <|
        .op ⟨(some 32), .mov (.t 0), []⟩ <|
        .op ⟨(some 33), .nilc (.t 32), []⟩ <|
        .op ⟨(some 34), .fieldA 31 (.t 33), []⟩ <|
        .op ⟨(some 35), .load1 (.t 34), []⟩ <|
        .op ⟨(some 36), .mkIfc 387 (.t 35), []⟩ <|
        .op ⟨(some 37), .nilc (.t 30), []⟩ <|
        .op ⟨(some 38), .fieldA 25 (.t 37), []⟩ <|
        .op ⟨none, .store 1 (.t 38) (.t 36), []⟩ <|
        .op ⟨(some 39), .nilc (.t 31), []⟩ <|
        .op ⟨(some 40), .fieldA 24 (.t 39), []⟩ <|
        .op ⟨none, .store 1 (.t 40) (.c (.int .i64 1)), []⟩ <|
        .nil)))) (.skip))) (
    .seq (.seq (.ops (
      .op ⟨(some 41), .mov (.t 0), []⟩ <|
      .op ⟨(some 42), .nilc (.t 41), []⟩ <|
      .op ⟨(some 43), .fieldA 25 (.t 42), []⟩ <|
      .op ⟨(some 44), .load1 (.t 43), []⟩ <|
      .op ⟨(some 45), .mov (.t 1), []⟩ <|
      .op ⟨(some 46), .invoke 0 (.t 44) [(.t 45)], []⟩ <|
      .nil)) (
    .cond (.t 46) (.ops (
        .op ⟨(some 47), .mov (.t 0), []⟩ <|
        .op ⟨(some 48), .call 358 [(.t 47)], []⟩ <|
        .nil)) (.skip))) (
    .seq (.ops (
      .op ⟨(some 49), .mov (.t 0), []⟩ <|
      .op ⟨(some 50), .mov (.t 0), []⟩ <|
      .op ⟨(some 51), .nilc (.t 50), []⟩ <|
      .op ⟨(some 52), .fieldA 24 (.t 51), []⟩ <|
      .op ⟨(some 53), .load1 (.t 52), []⟩ <|
      .op ⟨(some 54), .cmp .neq .i64 (.t 53) (.c (.int .i64 13)), []⟩ <|
      .op ⟨(some 55), .nilc (.t 49), []⟩ <|
      .op ⟨(some 56), .fieldA 23 (.t 55), []⟩ <|
      .op ⟨none, .store 1 (.t 56) (.t 54), []⟩ <|
      .nil)) (
    .seq (.ops (
      .op ⟨(some 57), .mov (.t 0), []⟩ <|
      .op ⟨(some 58), .nilc (.t 57), []⟩ <|
      .op ⟨(some 59), .fieldA 23 (.t 58), []⟩ <|
      .op ⟨(some 60), .load1 (.t 59), []⟩ <|
      .op ⟨(some 61), .not (.t 60), []⟩ <|
      .op ⟨(some 4), .mov (.t 61), []⟩ <|
      .nil)) (
    .ret))))))

def client_Client_Step_hs : List (List Nat × List Nat) := []

end Wm.F
end

section
/- PRINTED by my tool (wip/wm/tool/Gen.lean): a function as one of my machine. -/
namespace Wm.F
open Wm
set_option maxRecDepth 100000

/-- 225: (*withy/client.Client).Answer -/
def client_Client_Answer : AFunc where
  closed := false
  nparams := 1
  ntmps := 10
  results := [.cell true 3 2]
  body := .seq (.ops (
      .op ⟨(some 2), .alloc [(.int .i64 0), (.int .u64 0), (.bool false)], []⟩ <|
      .nil)) (
    .seq (.seq (.ops (
      .op ⟨(some 3), .mov (.t 0), []⟩ <|
      .op ⟨(some 4), .eq false .ptr (.t 3) (.c .nilp), []⟩ <|
      .nil)) (
    .cond (.t 4) (.seq (.ops (
        .op ⟨(some 5), .build [(.int .i64 0), (.int .u64 0), (.bool false)] [], []⟩ <|
        .op ⟨none, .store 3 (.t 2) (.t 5), []⟩ <|
        .nil)) (
      .ret)) (.skip))) (
    .seq (.ops (
      .op ⟨(some 6), .mov (.t 0), []⟩ <|
      .op ⟨(some 7), .nilc (.t 6), []⟩ <|
      .op ⟨(some 8), .fieldA 18 (.t 7), []⟩ <|
      .op ⟨(some 9), .loadN 3 (.t 8), []⟩ <|
      .op ⟨none, .store 3 (.t 2) (.t 9), []⟩ <|
      .nil)) (
    .ret)))

def client_Client_Answer_hs : List (List Nat × List Nat) := []

end Wm.F
end

section
/- PRINTED by my tool (wip/wm/tool/Gen.lean): a function as one of my machine. -/
namespace Wm.F
open Wm
set_option maxRecDepth 100000

/-- 226: (*withy/client.Client).Holds -/
def client_Client_Holds : AFunc where
  closed := false
  nparams := 2
  ntmps := 22
  results := [.tmp 4]
  body := .seq (.ops (
      .op ⟨(some 4), .mov (.c (.int .i64 0)), []⟩ <|
      .nil)) (
    .seq (.seq (.ops (
      .op ⟨(some 8), .mov (.t 0), []⟩ <|
      .op ⟨(some 9), .eq true .ptr (.t 8) (.c .nilp), []⟩ <|
      .nil)) (
    .cond (.t 9) (.seq (.ops (
        .op ⟨(some 11), .mov (.t 0), []⟩ <|
        .op ⟨(some 12), .nilc (.t 11), []⟩ <|
        .op ⟨(some 13), .fieldA 8 (.t 12), []⟩ <|
        .op ⟨(some 14), .load1 (.t 13), []⟩ <|
        .op ⟨(some 15), .mov (.t 1), []⟩ <|
        .op ⟨(some 16), .call 359 [(.t 14), (.t 15)], []⟩ <|
        .op ⟨(some 10), .mov (.t 16), []⟩ <|
        .op ⟨(some 17), .extract (.t 10) 0, []⟩ <|
        .op ⟨(some 18), .extract (.t 10) 1, []⟩ <|
        .op ⟨(some 19), .extract (.t 10) 2, []⟩ <|
        .op ⟨(some 5), .mov (.t 17), []⟩ <|
        .op ⟨(some 6), .mov (.t 18), []⟩ <|
        .op ⟨(some 7), .mov (.t 19), []⟩ <|
        .nil)) (
      .seq (.ops (
        .op ⟨(some 20), .mov (.t 7), []⟩ <|
        .nil)) (
      .cond (.t 20) (.seq (.ops (
          .op ⟨(some 21), .mov (.t 6), []⟩ <|
          .op ⟨(some 4), .mov (.t 21), []⟩ <|
          .nil)) (
        .ret)) (.skip)))) (.skip))) (
    .seq (.ops (
      .op ⟨(some 4), .mov (.c (.int .i64 (-1))), []⟩ <|
      .nil)) (
    .ret)))

def client_Client_Holds_hs : List (List Nat × List Nat) := []

end Wm.F
end

section
/- PRINTED by my tool (wip/wm/tool/Gen.lean): a function as one of my machine. -/
namespace Wm.F
open Wm
set_option maxRecDepth 100000

/-- 232: (*withy/client.Client).Point -/
def client_Client_Point : AFunc where
  closed := false
  nparams := 1
  ntmps := 14
  results := [.tmp 2, .tmp 3]
  body := .seq (.ops (
      .op ⟨(some 2), .mov (.c (.int .i64 0)), []⟩ <|
      .op ⟨(some 3), .mov (.c (.bool false)), []⟩ <|
      .nil)) (
    .seq (.seq (.ops (
      .op ⟨(some 4), .mov (.t 0), []⟩ <|
      .op ⟨(some 5), .eq false .ptr (.t 4) (.c .nilp), []⟩ <|
      .nil)) (
    .cond (.t 5) (.seq (.ops (
        .op ⟨(some 2), .mov (.c (.int .i64 0)), []⟩ <|
        .op ⟨(some 3), .mov (.c (.bool false)), []⟩ <|
        .nil)) (
      .ret)) (.skip))) (
    .seq (.ops (
      .op ⟨(some 6), .mov (.t 0), []⟩ <|
      .op ⟨(some 7), .nilc (.t 6), []⟩ <|
      .op ⟨(some 8), .fieldA 21 (.t 7), []⟩ <|
      .op ⟨(some 9), .load1 (.t 8), []⟩ <|
      .op ⟨(some 10), .mov (.t 0), []⟩ <|
      .op ⟨(some 11), .nilc (.t 10), []⟩ <|
      .op ⟨(some 12), .fieldA 22 (.t 11), []⟩ <|
      .op ⟨(some 13), .load1 (.t 12), []⟩ <|
      .op ⟨(some 2), .mov (.t 9), []⟩ <|
      .op ⟨(some 3), .mov (.t 13), []⟩ <|
      .nil)) (
    .ret)))

def client_Client_Point_hs : List (List Nat × List Nat) := []

end Wm.F
end

section
/- PRINTED by my tool (wip/wm/tool/Gen.lean): a function as one of my machine. -/
namespace Wm.F
open Wm
set_option maxRecDepth 100000

/-- 233: (*withy/client.Client).Busy -/
def client_Client_Busy : AFunc where
  closed := false
  nparams := 1
  ntmps := 11
  results := [.tmp 2]
  body := .seq (.ops (
      .op ⟨(some 2), .mov (.c (.bool false)), []⟩ <|
      .nil)) (
    .seq (.ops (
      .op ⟨(some 3), .mov (.t 0), []⟩ <|
      .op ⟨(some 4), .eq true .ptr (.t 3) (.c .nilp), []⟩ <|
      .op ⟨(some 5), .mov (.t 4), []⟩ <|
      .grd 5 true [⟨(some 6), .mov (.t 0), []⟩,
          ⟨(some 7), .nilc (.t 6), []⟩,
          ⟨(some 8), .fieldA 23 (.t 7), []⟩,
          ⟨(some 9), .load1 (.t 8), []⟩] <|
      .op ⟨(some 10), .pick (.t 5) (.t 9) (.c (.bool false)), []⟩ <|
      .op ⟨(some 2), .mov (.t 10), []⟩ <|
      .nil)) (
    .ret))

def client_Client_Busy_hs : List (List Nat × List Nat) := []

end Wm.F
end

section
/- PRINTED by my tool (wip/wm/tool/Gen.lean): a function as one of my machine. -/
namespace Wm.F
open Wm
set_option maxRecDepth 100000

def root_NewTable_c1 : ACode :=
  .seq (.ops (
    .op ⟨(some 23), .cmp .lss .i64 (.t 22) (.t 21), []⟩ <|
    .nil)) (
  .seq (.cond (.t 23) (.skip) (.exit 0)) (
  .seq (.block 1 (.ops (
    .op ⟨(some 24), .mov (.t 7), []⟩ <|
    .op ⟨(some 25), .mov (.t 7), []⟩ <|
    .op ⟨(some 26), .nilc (.t 25), []⟩ <|
    .op ⟨(some 27), .fieldA 7 (.t 26), []⟩ <|
    .op ⟨(some 28), .load1 (.t 27), []⟩ <|
    .op ⟨(some 29), .mov (.t 2), []⟩ <|
    .op ⟨(some 30), .build [(.int .u64 0), (.int .i64 0)] [(0, 1, (.t 29)), (1, 1, (.c (.int .i64 (-1))))], []⟩ <|
    .op ⟨(some 31), .buildSl 2 1 [(.int .u64 0), (.int .i64 0)] [(0, 2, (.t 30))], []⟩ <|
    .op ⟨(some 32), .append 2 16 (.t 28) (.t 31), []⟩ <|
    .op ⟨(some 33), .nilc (.t 24), []⟩ <|
    .op ⟨(some 34), .fieldA 7 (.t 33), []⟩ <|
    .op ⟨none, .store 1 (.t 34) (.t 32), []⟩ <|
    .nil))) (
  .ops (
    .op ⟨(some 35), .arith .add .i64 (.t 22) (.c (.int .i64 1)), []⟩ <|
    .op ⟨(some 22), .mov (.t 35), []⟩ <|
    .nil))))

def root_NewTable_c0 : ACode :=
  .seq (.ops (
    .op ⟨(some 36), .mov (.t 7), []⟩ <|
    .op ⟨(some 6), .mov (.t 36), []⟩ <|
    .nil)) (
  .ret)

/-- 354: withy/root.NewTable -/
def root_NewTable : AFunc where
  closed := false
  nparams := 3
  ntmps := 37
  results := [.tmp 6]
  body := .seq (.ops (
      .op ⟨(some 3), .box (.t 0), []⟩ <|
      .op ⟨(some 6), .mov (.c .nilp), []⟩ <|
      .nil)) (
    .seq (.seq (.ops (
      .op ⟨(some 8), .loadN 6 (.t 3), []⟩ <|
      .op ⟨(some 9), .mov (.t 1), []⟩ <|
      .op ⟨(some 10), .call 416 [(.t 8), (.t 9)], []⟩ <|
      .op ⟨(some 11), .cmp .lss .i64 (.t 10) (.c (.int .i64 0)), []⟩ <|
      .op ⟨(some 12), .mov (.t 11), []⟩ <|
      .grd 12 false [⟨(some 13), .mov (.t 2), []⟩,
          ⟨(some 14), .cmp .gtr .u64 (.t 13) (.c (.int .u64 4294967295)), []⟩] <|
      .op ⟨(some 15), .pick (.t 12) (.c (.bool true)) (.t 14), []⟩ <|
      .nil)) (
    .cond (.t 15) (.seq (.ops (
        .op ⟨(some 6), .mov (.c .nilp), []⟩ <|
        .nil)) (
      .ret)) (.skip))) (
    .seq (.ops (
      .op ⟨(some 16), .loadN 6 (.t 3), []⟩ <|
      .op ⟨(some 17), .mov (.t 1), []⟩ <|
      .op ⟨(some 18), .build [(.int .i64 0), (.int .i64 0), (.int .i64 0), (.int .i64 0), (.int .i64 0), (.int .i64 0), (.int .i64 0), .nilsl] [(0, 6, (.t 16)), (6, 1, (.t 17))], []⟩ <|
      .op ⟨(some 19), .box (.t 18), []⟩ <|
      .op ⟨(some 7), .mov (.t 19), []⟩ <|
      .nil)) (
    .seq (.seq (.ops (
      .op ⟨(some 20), .fieldA 3 (.t 3), []⟩ <|
      .op ⟨(some 21), .load1 (.t 20), []⟩ <|
      .op ⟨(some 22), .mov (.c (.int .i64 0)), []⟩ <|
      .nil)) (
    .block 0 (.loop [2, 7, 21, 22] [7] (root_NewTable_c1)))) (
    root_NewTable_c0))))

def root_NewTable_hs : List (List Nat × List Nat) := [([2, 7, 21, 22], [7])]

end Wm.F
end

section
/- PRINTED by my tool (wip/wm/tool/Gen.lean): a function as one of my machine. -/
namespace Wm.F
open Wm
set_option maxRecDepth 100000

def plan_Memory_c1 : ACode :=
  .seq (.ops (
    .op ⟨(some 23), .cmp .lss .i64 (.t 22) (.t 21), []⟩ <|
    .nil)) (
  .seq (.cond (.t 23) (.skip) (.exit 0)) (
  .seq (.block 1 (.seq (.ops (
    .op ⟨(some 24), .mov (.t 22), []⟩ <|
    .op ⟨(some 4), .mov (.t 24), []⟩ <|
    .nil)) (
  .ops (
    .op ⟨(some 25), .mov (.t 3), []⟩ <|
    .op ⟨(some 26), .loadN 6 (.t 1), []⟩ <|
    .op ⟨(some 27), .mov (.t 4), []⟩ <|
    .op ⟨(some 28), .call 293 [(.t 26), (.t 27)], []⟩ <|
    .op ⟨(some 29), .mov (.t 4), []⟩ <|
    .op ⟨(some 30), .arith .add .i64 (.t 29) (.c (.int .i64 2)), []⟩ <|
    .op ⟨(some 31), .conv .u64 (.t 30), []⟩ <|
    .op ⟨(some 32), .indexA 1 (.t 25) (.t 28), []⟩ <|
    .op ⟨none, .store 1 (.t 32) (.t 31), []⟩ <|
    .nil)))) (
  .ops (
    .op ⟨(some 33), .arith .add .i64 (.t 22) (.c (.int .i64 1)), []⟩ <|
    .op ⟨(some 22), .mov (.t 33), []⟩ <|
    .nil))))

def plan_Memory_c0 : ACode :=
  .seq (.ops (
    .op ⟨(some 34), .mov (.t 3), []⟩ <|
    .op ⟨(some 35), .call 198 [(.t 34)], []⟩ <|
    .op ⟨(some 2), .mov (.t 35), []⟩ <|
    .nil)) (
  .ret)

/-- 213: withy/plan.Memory -/
def plan_Memory : AFunc where
  closed := false
  nparams := 1
  ntmps := 36
  results := [.tmp 2]
  body := .seq (.ops (
      .op ⟨(some 1), .box (.t 0), []⟩ <|
      .op ⟨(some 2), .mov (.c .nilp), []⟩ <|
      .nil)) (
    .seq (.seq (.ops (
      .op ⟨(some 5), .loadN 6 (.t 1), []⟩ <|
      .op ⟨(some 6), .call 263 [(.t 5)], []⟩ <|
      .op ⟨(some 7), .not (.t 6), []⟩ <|
      .nil)) (
    .cond (.t 7) (.seq (.ops (
        .op ⟨(some 2), .mov (.c .nilp), []⟩ <|
        .nil)) (
      .ret)) (.skip))) (
    .seq (.ops (
      .op ⟨(some 8), .loadN 6 (.t 1), []⟩ <|
      .op ⟨(some 9), .call 264 [(.t 8)], []⟩ <|
      .op ⟨(some 10), .mkSl 1 8 [(.int .u64 0)] (.t 9) (.t 9), []⟩ <|
      .op ⟨(some 3), .mov (.t 10), []⟩ <|
      .nil)) (
    .seq (.ops (
      .op ⟨(some 11), .mov (.t 3), []⟩ <|
      .op ⟨(some 12), .indexA 1 (.t 11) (.c (.int .i64 0)), []⟩ <|
      .op ⟨none, .store 1 (.t 12) (.c (.int .u64 1)), []⟩ <|
      .nil)) (
    .seq (.ops (
      .op ⟨(some 14), .mov (.t 3), []⟩ <|
      .op ⟨(some 15), .call 350 [(.c (.int .u64 0)), (.c (.int .i64 0))], []⟩ <|
      .op ⟨(some 13), .mov (.t 15), []⟩ <|
      .op ⟨(some 16), .extract (.t 13) 0, []⟩ <|
      .op ⟨(some 17), .extract (.t 13) 1, []⟩ <|
      .op ⟨(some 18), .indexA 1 (.t 14) (.c (.int .i64 3)), []⟩ <|
      .op ⟨none, .store 1 (.t 18) (.t 16), []⟩ <|
      .nil)) (
    .seq (.seq (.ops (
      .op ⟨(some 19), .fieldA 0 (.t 1), []⟩ <|
      .op ⟨(some 20), .load1 (.t 19), []⟩ <|
      .op ⟨(some 21), .arith .sub .i64 (.t 20) (.c (.int .i64 1)), []⟩ <|
      .op ⟨(some 22), .mov (.c (.int .i64 0)), []⟩ <|
      .nil)) (
    .block 0 (.loop [1, 3, 21, 22] [3] (plan_Memory_c1)))) (
    plan_Memory_c0))))))

def plan_Memory_hs : List (List Nat × List Nat) := [([1, 3, 21, 22], [3])]

end Wm.F
end

section
/- PRINTED by my tool (wip/wm/tool/Gen.lean): a function as one of my machine. -/
namespace Wm.F
open Wm
set_option maxRecDepth 100000

def client_Client_knows_c14 : ACode :=
  .ops (
    .op ⟨(some 117), .mov (.t 3), []⟩ <|
    .op ⟨(some 118), .cmp .eql .i64 (.t 117) (.c (.int .i64 8)), []⟩ <|
    .op ⟨(some 119), .mov (.t 118), []⟩ <|
    .grd 119 true [⟨(some 120), .mov (.t 0), []⟩,
        ⟨(some 121), .nilc (.t 120), []⟩,
        ⟨(some 122), .fieldA 11 (.t 121), []⟩,
        ⟨(some 123), .load1 (.t 122), []⟩,
        ⟨(some 124), .cmp .neq .u64 (.t 123) (.c (.int .u64 0)), []⟩] <|
    .op ⟨(some 125), .pick (.t 119) (.t 124) (.c (.bool false)), []⟩ <|
    .op ⟨(some 116), .mov (.t 125), []⟩ <|
    .nil)

def client_Client_knows_c13 : ACode :=
  .cond (.t 116) (.ops (
      .op ⟨(some 126), .mov (.t 0), []⟩ <|
      .op ⟨(some 127), .call 419 [(.t 126), (.c (.int .i64 7))], []⟩ <|
      .nil)) (.seq (.ops (
      .op ⟨(some 129), .mov (.t 3), []⟩ <|
      .op ⟨(some 130), .cmp .eql .i64 (.t 129) (.c (.int .i64 7)), []⟩ <|
      .op ⟨(some 128), .mov (.t 130), []⟩ <|
      .nil)) (
    .cond (.t 128) (.ops (
        .op ⟨(some 131), .mov (.t 0), []⟩ <|
        .op ⟨(some 132), .mov (.t 0), []⟩ <|
        .op ⟨(some 133), .nilc (.t 132), []⟩ <|
        .op ⟨(some 134), .fieldA 27 (.t 133), []⟩ <|
        .op ⟨(some 135), .load1 (.t 134), []⟩ <|
        .op ⟨(some 136), .mov (.t 0), []⟩ <|
        .op ⟨(some 137), .nilc (.t 136), []⟩ <|
        .op ⟨(some 138), .fieldA 28 (.t 137), []⟩ <|
        .op ⟨(some 139), .load1 (.t 138), []⟩ <|
        .op ⟨(some 140), .cmp .eql .i64 (.t 135) (.t 139), []⟩ <|
        .op ⟨(some 141), .build [(.int .i64 0), (.int .u64 0), (.bool false)] [(2, 1, (.t 140))], []⟩ <|
        .op ⟨(some 142), .call 422 [(.t 131), (.t 141)], []⟩ <|
        .nil)) (.seq (.ops (
        .op ⟨(some 2), .mov (.c (.bool false)), []⟩ <|
        .nil)) (
      .ret))))

def client_Client_knows_c12 : ACode :=
  .ops (
    .op ⟨(some 102), .mov (.t 3), []⟩ <|
    .op ⟨(some 103), .cmp .neq .i64 (.t 102) (.c (.int .i64 1)), []⟩ <|
    .op ⟨(some 104), .mov (.t 103), []⟩ <|
    .grd 104 true [⟨(some 105), .mov (.t 3), []⟩,
        ⟨(some 106), .call 82 [(.t 105)], []⟩,
        ⟨(some 107), .not (.t 106), []⟩] <|
    .op ⟨(some 108), .pick (.t 104) (.t 107) (.c (.bool false)), []⟩ <|
    .op ⟨(some 109), .mov (.t 108), []⟩ <|
    .grd 109 true [⟨(some 110), .mov (.t 0), []⟩,
        ⟨(some 111), .call 421 [(.t 110)], []⟩,
        ⟨(some 112), .not (.t 111), []⟩] <|
    .op ⟨(some 113), .pick (.t 109) (.t 112) (.c (.bool false)), []⟩ <|
    .op ⟨(some 101), .mov (.t 113), []⟩ <|
    .nil)

def client_Client_knows_c11 : ACode :=
  .cond (.t 101) (.ops (
      .op ⟨(some 114), .mov (.t 0), []⟩ <|
      .op ⟨(some 115), .call 419 [(.t 114), (.c (.int .i64 2))], []⟩ <|
      .nil)) (.seq (.join [0, 3] [0, 3, 116] (client_Client_knows_c14)) (
    client_Client_knows_c13))

def client_Client_knows_c10 : ACode :=
  .ops (
    .op ⟨(some 85), .mov (.t 3), []⟩ <|
    .op ⟨(some 86), .cmp .eql .i64 (.t 85) (.c (.int .i64 1)), []⟩ <|
    .op ⟨(some 87), .mov (.t 86), []⟩ <|
    .grd 87 false [⟨(some 88), .mov (.t 3), []⟩,
        ⟨(some 89), .cmp .eql .i64 (.t 88) (.c (.int .i64 9)), []⟩] <|
    .op ⟨(some 90), .pick (.t 87) (.c (.bool true)) (.t 89), []⟩ <|
    .op ⟨(some 91), .mov (.t 90), []⟩ <|
    .grd 91 true [⟨(some 92), .mov (.t 0), []⟩,
        ⟨(some 93), .nilc (.t 92), []⟩,
        ⟨(some 94), .fieldA 8 (.t 93), []⟩,
        ⟨(some 95), .load1 (.t 94), []⟩,
        ⟨(some 96), .call 420 [(.t 95)], []⟩,
        ⟨(some 97), .not (.t 96), []⟩] <|
    .op ⟨(some 98), .pick (.t 91) (.t 97) (.c (.bool false)), []⟩ <|
    .op ⟨(some 84), .mov (.t 98), []⟩ <|
    .nil)

def client_Client_knows_c9 : ACode :=
  .cond (.t 84) (.ops (
      .op ⟨(some 99), .mov (.t 0), []⟩ <|
      .op ⟨(some 100), .call 419 [(.t 99), (.c (.int .i64 5))], []⟩ <|
      .nil)) (.seq (.join [0, 3] [0, 3, 101] (client_Client_knows_c12)) (
    client_Client_knows_c11))

def client_Client_knows_c8 : ACode :=
  .ops (
    .op ⟨(some 64), .mov (.t 3), []⟩ <|
    .op ⟨(some 65), .call 82 [(.t 64)], []⟩ <|
    .op ⟨(some 66), .mov (.t 65), []⟩ <|
    .grd 66 true [⟨(some 67), .mov (.t 4), []⟩,
        ⟨(some 68), .not (.t 67), []⟩,
        ⟨(some 69), .mov (.t 68), []⟩] <|
    .grd 69 false [⟨(some 70), .mov (.t 3), []⟩,
        ⟨(some 71), .cmp .eql .i64 (.t 70) (.c (.int .i64 9)), []⟩,
        ⟨(some 72), .mov (.t 71), []⟩] <|
    .grd 72 true [⟨(some 73), .mov (.t 0), []⟩,
        ⟨(some 74), .nilc (.t 73), []⟩,
        ⟨(some 75), .fieldA 9 (.t 74), []⟩,
        ⟨(some 76), .load1 (.t 75), []⟩,
        ⟨(some 77), .call 171 [(.t 76)], []⟩,
        ⟨(some 78), .cmp .eql .i64 (.t 77) (.c (.int .i64 0)), []⟩] <|
    .grd 69 false [⟨(some 79), .pick (.t 72) (.t 78) (.c (.bool false)), []⟩] <|
    .grd 66 true [⟨(some 80), .pick (.t 69) (.c (.bool true)) (.t 79), []⟩] <|
    .op ⟨(some 81), .pick (.t 66) (.t 80) (.c (.bool false)), []⟩ <|
    .op ⟨(some 63), .mov (.t 81), []⟩ <|
    .nil)

def client_Client_knows_c7 : ACode :=
  .cond (.t 63) (.ops (
      .op ⟨(some 82), .mov (.t 0), []⟩ <|
      .op ⟨(some 83), .call 419 [(.t 82), (.c (.int .i64 6))], []⟩ <|
      .nil)) (.seq (.join [0, 3] [0, 3, 84] (client_Client_knows_c10)) (
    client_Client_knows_c9))

def client_Client_knows_c6 : ACode :=
  .ops (
    .op ⟨(some 38), .mov (.t 3), []⟩ <|
    .op ⟨(some 39), .cmp .eql .i64 (.t 38) (.c (.int .i64 1)), []⟩ <|
    .op ⟨(some 40), .mov (.t 39), []⟩ <|
    .grd 40 true [⟨(some 41), .mov (.t 0), []⟩,
        ⟨(some 42), .nilc (.t 41), []⟩,
        ⟨(some 43), .fieldA 13 (.t 42), []⟩,
        ⟨(some 44), .fieldA 1 (.t 43), []⟩,
        ⟨(some 45), .load1 (.t 44), []⟩,
        ⟨(some 46), .cmp .lss .i64 (.t 45) (.c (.int .i64 0)), []⟩,
        ⟨(some 47), .mov (.t 46), []⟩] <|
    .grd 47 false [⟨(some 48), .mov (.t 0), []⟩,
        ⟨(some 49), .nilc (.t 48), []⟩,
        ⟨(some 50), .fieldA 13 (.t 49), []⟩,
        ⟨(some 51), .fieldA 1 (.t 50), []⟩,
        ⟨(some 52), .load1 (.t 51), []⟩,
        ⟨(some 53), .mov (.t 0), []⟩,
        ⟨(some 54), .nilc (.t 53), []⟩,
        ⟨(some 55), .fieldA 0 (.t 54), []⟩,
        ⟨(some 56), .fieldA 1 (.t 55), []⟩,
        ⟨(some 57), .load1 (.t 56), []⟩,
        ⟨(some 58), .cmp .gtr .i64 (.t 52) (.t 57), []⟩] <|
    .grd 40 true [⟨(some 59), .pick (.t 47) (.c (.bool true)) (.t 58), []⟩] <|
    .op ⟨(some 60), .pick (.t 40) (.t 59) (.c (.bool false)), []⟩ <|
    .op ⟨(some 37), .mov (.t 60), []⟩ <|
    .nil)

def client_Client_knows_c5 : ACode :=
  .cond (.t 37) (.ops (
      .op ⟨(some 61), .mov (.t 0), []⟩ <|
      .op ⟨(some 62), .call 419 [(.t 61), (.c (.int .i64 1))], []⟩ <|
      .nil)) (.seq (.join [0, 3, 4] [0, 3, 63] (client_Client_knows_c8)) (
    client_Client_knows_c7))

def client_Client_knows_c4 : ACode :=
  .ops (
    .op ⟨(some 29), .mov (.t 3), []⟩ <|
    .op ⟨(some 30), .cmp .lss .i64 (.t 29) (.c (.int .i64 1)), []⟩ <|
    .op ⟨(some 31), .mov (.t 30), []⟩ <|
    .grd 31 false [⟨(some 32), .mov (.t 3), []⟩,
        ⟨(some 33), .cmp .gtr .i64 (.t 32) (.c (.int .i64 10)), []⟩] <|
    .op ⟨(some 34), .pick (.t 31) (.c (.bool true)) (.t 33), []⟩ <|
    .op ⟨(some 28), .mov (.t 34), []⟩ <|
    .nil)

def client_Client_knows_c3 : ACode :=
  .cond (.t 28) (.ops (
      .op ⟨(some 35), .mov (.t 0), []⟩ <|
      .op ⟨(some 36), .call 419 [(.t 35), (.c (.int .i64 8))], []⟩ <|
      .nil)) (.seq (.join [0, 3, 4] [0, 3, 4, 37] (client_Client_knows_c6)) (
    client_Client_knows_c5))

def client_Client_knows_c2 : ACode :=
  .seq (.ops (
    .op ⟨(some 2), .mov (.c (.bool true)), []⟩ <|
    .nil)) (
  .ret)

def client_Client_knows_c1 : ACode :=
  .ops (
    .op ⟨(some 10), .mov (.t 0), []⟩ <|
    .op ⟨(some 11), .nilc (.t 10), []⟩ <|
    .op ⟨(some 12), .fieldA 13 (.t 11), []⟩ <|
    .op ⟨(some 13), .fieldA 2 (.t 12), []⟩ <|
    .op ⟨(some 14), .load1 (.t 13), []⟩ <|
    .op ⟨(some 15), .cmp .neq .u64 (.t 14) (.c (.int .u64 0)), []⟩ <|
    .op ⟨(some 16), .mov (.t 15), []⟩ <|
    .grd 16 true [⟨(some 17), .mov (.t 0), []⟩,
        ⟨(some 18), .nilc (.t 17), []⟩,
        ⟨(some 19), .fieldA 13 (.t 18), []⟩,
        ⟨(some 20), .fieldA 2 (.t 19), []⟩,
        ⟨(some 21), .load1 (.t 20), []⟩,
        ⟨(some 22), .mov (.t 0), []⟩,
        ⟨(some 23), .nilc (.t 22), []⟩,
        ⟨(some 24), .fieldA 11 (.t 23), []⟩,
        ⟨(some 25), .load1 (.t 24), []⟩,
        ⟨(some 26), .cmp .eql .u64 (.t 21) (.t 25), []⟩] <|
    .op ⟨(some 27), .pick (.t 16) (.t 26) (.c (.bool false)), []⟩ <|
    .op ⟨(some 4), .mov (.t 27), []⟩ <|
    .nil)

def client_Client_knows_c0 : ACode :=
  .seq (.block 0 (.seq (.join [0, 3, 4] [0, 3, 4, 28] (client_Client_knows_c4)) (
  client_Client_knows_c3))) (
  client_Client_knows_c2)

/-- 356: (*withy/client.Client).knows -/
def client_Client_knows : AFunc where
  closed := false
  nparams := 1
  ntmps := 143
  results := [.tmp 2]
  body := .seq (.ops (
      .op ⟨(some 2), .mov (.c (.bool false)), []⟩ <|
      .nil)) (
    .seq (.ops (
      .op ⟨(some 5), .mov (.t 0), []⟩ <|
      .op ⟨(some 6), .nilc (.t 5), []⟩ <|
      .op ⟨(some 7), .fieldA 13 (.t 6), []⟩ <|
      .op ⟨(some 8), .fieldA 0 (.t 7), []⟩ <|
      .op ⟨(some 9), .load1 (.t 8), []⟩ <|
      .op ⟨(some 3), .mov (.t 9), []⟩ <|
      .nil)) (
    .seq (.join [0, 3] [0, 3, 4] (client_Client_knows_c1)) (
    client_Client_knows_c0)))

def client_Client_knows_hs : List (List Nat × List Nat) := [([1000002, 0, 3], [0, 3, 4]), ([1000001, 0, 3, 4], [0, 3, 4, 28]), ([1000000, 0, 3, 4], [0, 3, 4, 37]), ([1000000, 0, 3, 4], [0, 3, 63]), ([1000000, 0, 3], [0, 3, 84]), ([1000000, 0, 3], [0, 3, 101]), ([1000000, 0, 3], [0, 3, 116])]

end Wm.F
end

section
/- PRINTED by my tool (wip/wm/tool/Gen.lean): a function as one of my machine. -/
namespace Wm.F
open Wm
set_option maxRecDepth 100000

/-- 357: withy/epoch.NewPin -/
def epoch_NewPin : AFunc where
  closed := false
  nparams := 2
  ntmps := 14
  results := [.tmp 4]
  body := .seq (.ops (
      .op ⟨(some 2), .box (.t 0), []⟩ <|
      .op ⟨(some 4), .mov (.c .nilp), []⟩ <|
      .nil)) (
    .seq (.ops (
      .op ⟨(some 6), .loadN 6 (.t 2), []⟩ <|
      .op ⟨(some 7), .mov (.t 1), []⟩ <|
      .op ⟨(some 8), .call 416 [(.t 6), (.t 7)], []⟩ <|
      .op ⟨(some 5), .mov (.t 8), []⟩ <|
      .nil)) (
    .seq (.seq (.ops (
      .op ⟨(some 9), .mov (.t 5), []⟩ <|
      .op ⟨(some 10), .cmp .lss .i64 (.t 9) (.c (.int .i64 0)), []⟩ <|
      .nil)) (
    .cond (.t 10) (.seq (.ops (
        .op ⟨(some 4), .mov (.c .nilp), []⟩ <|
        .nil)) (
      .ret)) (.skip))) (
    .seq (.ops (
      .op ⟨(some 11), .mov (.t 5), []⟩ <|
      .op ⟨(some 12), .build [(.int .u64 0), (.int .i64 0), (.int .i64 0)] [(1, 1, (.t 11))], []⟩ <|
      .op ⟨(some 13), .box (.t 12), []⟩ <|
      .op ⟨(some 4), .mov (.t 13), []⟩ <|
      .nil)) (
    .ret))))

def epoch_NewPin_hs : List (List Nat × List Nat) := []

end Wm.F
end

section
/- PRINTED by my tool (wip/wm/tool/Gen.lean): a function as one of my machine. -/
namespace Wm.F
open Wm
set_option maxRecDepth 100000

/-- 358: (*withy/client.Client).next -/
def client_Client_next : AFunc where
  closed := false
  nparams := 1
  ntmps := 178
  results := []
  body := .seq (.ops (
      .op ⟨(some 2), .mov (.t 0), []⟩ <|
      .op ⟨(some 3), .nilc (.t 2), []⟩ <|
      .op ⟨(some 4), .fieldA 24 (.t 3), []⟩ <|
      .op ⟨(some 5), .load1 (.t 4), []⟩ <|
      .nil)) (
    .block 0 (.seq (.ops (
      .op ⟨(some 9), .cmp .eql .i64 (.t 5) (.c (.int .i64 1)), []⟩ <|
      .op ⟨(some 8), .mov (.t 9), []⟩ <|
      .nil)) (
    .cond (.t 8) (.seq (.ops (
        .op ⟨(some 10), .mov (.t 0), []⟩ <|
        .op ⟨(some 11), .mov (.t 0), []⟩ <|
        .op ⟨(some 12), .nilc (.t 11), []⟩ <|
        .op ⟨(some 13), .fieldA 31 (.t 12), []⟩ <|
        .op ⟨(some 14), .load1 (.t 13), []⟩ <|
        .op ⟨(some 15), .nilc (.t 14), []⟩ <|
        .op ⟨(some 16), .fieldA 0 (.t 15), []⟩ <|
        .op ⟨(some 17), .load1 (.t 16), []⟩ <|
        .op ⟨(some 18), .nilc (.t 10), []⟩ <|
        .op ⟨(some 19), .fieldA 26 (.t 18), []⟩ <|
        .op ⟨none, .store 1 (.t 19) (.t 17), []⟩ <|
        .nil)) (
      .ops (
        .op ⟨(some 20), .mov (.t 0), []⟩ <|
        .op ⟨(some 21), .call 423 [(.t 20)], []⟩ <|
        .nil))) (.seq (.ops (
        .op ⟨(some 23), .cmp .eql .i64 (.t 5) (.c (.int .i64 2)), []⟩ <|
        .op ⟨(some 22), .mov (.t 23), []⟩ <|
        .nil)) (
      .cond (.t 22) (.ops (
          .op ⟨(some 24), .mov (.t 0), []⟩ <|
          .op ⟨(some 25), .call 424 [(.t 24)], []⟩ <|
          .nil)) (.seq (.ops (
          .op ⟨(some 27), .cmp .eql .i64 (.t 5) (.c (.int .i64 3)), []⟩ <|
          .op ⟨(some 26), .mov (.t 27), []⟩ <|
          .nil)) (
        .cond (.t 26) (.ops (
            .op ⟨(some 28), .mov (.t 0), []⟩ <|
            .op ⟨(some 29), .call 425 [(.t 28)], []⟩ <|
            .nil)) (.seq (.ops (
            .op ⟨(some 31), .cmp .eql .i64 (.t 5) (.c (.int .i64 4)), []⟩ <|
            .op ⟨(some 30), .mov (.t 31), []⟩ <|
            .nil)) (
          .cond (.t 30) (.ops (
              .op ⟨(some 32), .mov (.t 0), []⟩ <|
              .op ⟨(some 33), .call 426 [(.t 32)], []⟩ <|
              .nil)) (.seq (.ops (
              .op ⟨(some 35), .cmp .eql .i64 (.t 5) (.c (.int .i64 5)), []⟩ <|
              .op ⟨(some 34), .mov (.t 35), []⟩ <|
              .nil)) (
            .cond (.t 34) (.seq (.ops (
                .op ⟨(some 36), .mov (.t 0), []⟩ <|
                .op ⟨(some 37), .mov (.t 0), []⟩ <|
                .op ⟨(some 38), .nilc (.t 37), []⟩ <|
                .op ⟨(some 39), .fieldA 35 (.t 38), []⟩ <|
                .op ⟨(some 40), .load1 (.t 39), []⟩ <|
                .op ⟨(some 41), .nilc (.t 40), []⟩ <|
                .op ⟨(some 42), .fieldA 0 (.t 41), []⟩ <|
                .op ⟨(some 43), .load1 (.t 42), []⟩ <|
                .op ⟨(some 44), .mov (.t 43), []⟩ <|
                .grd 44 true [⟨(some 45), .mov (.t 0), []⟩,
                    ⟨(some 46), .nilc (.t 45), []⟩,
                    ⟨(some 47), .fieldA 13 (.t 46), []⟩,
                    ⟨(some 48), .fieldA 0 (.t 47), []⟩,
                    ⟨(some 49), .load1 (.t 48), []⟩,
                    ⟨(some 50), .cmp .eql .i64 (.t 49) (.c (.int .i64 5)), []⟩] <|
                .op ⟨(some 51), .pick (.t 44) (.t 50) (.c (.bool false)), []⟩ <|
                .op ⟨(some 52), .build [(.int .i64 0), (.int .u64 0), (.bool false)] [(2, 1, (.t 51))], []⟩ <|
                .op ⟨(some 53), .nilc (.t 36), []⟩ <|
                .op ⟨(some 54), .fieldA 18 (.t 53), []⟩ <|
                .op ⟨none, .store 3 (.t 54) (.t 52), []⟩ <|
                .nil)) (
              .seq (.ops (
                .op ⟨(some 55), .mov (.t 0), []⟩ <|
                .op ⟨(some 56), .mov (.t 0), []⟩ <|
                .op ⟨(some 57), .mov (.t 0), []⟩ <|
                .op ⟨(some 58), .nilc (.t 57), []⟩ <|
                .op ⟨(some 59), .fieldA 35 (.t 58), []⟩ <|
                .op ⟨(some 60), .load1 (.t 59), []⟩ <|
                .op ⟨(some 61), .nilc (.t 60), []⟩ <|
                .op ⟨(some 62), .fieldA 1 (.t 61), []⟩ <|
                .op ⟨(some 63), .load1 (.t 62), []⟩ <|
                .op ⟨(some 64), .mov (.t 0), []⟩ <|
                .op ⟨(some 65), .nilc (.t 64), []⟩ <|
                .op ⟨(some 66), .fieldA 35 (.t 65), []⟩ <|
                .op ⟨(some 67), .load1 (.t 66), []⟩ <|
                .op ⟨(some 68), .nilc (.t 67), []⟩ <|
                .op ⟨(some 69), .fieldA 0 (.t 68), []⟩ <|
                .op ⟨(some 70), .load1 (.t 69), []⟩ <|
                .op ⟨(some 71), .not (.t 70), []⟩ <|
                .op ⟨(some 72), .nilc (.t 55), []⟩ <|
                .op ⟨(some 73), .fieldA 21 (.t 72), []⟩ <|
                .op ⟨none, .store 1 (.t 73) (.t 63), []⟩ <|
                .op ⟨(some 74), .nilc (.t 56), []⟩ <|
                .op ⟨(some 75), .fieldA 22 (.t 74), []⟩ <|
                .op ⟨none, .store 1 (.t 75) (.t 71), []⟩ <|
                .nil)) (
              .ops (
                .op ⟨(some 76), .mov (.t 0), []⟩ <|
                .op ⟨(some 77), .call 427 [(.t 76)], []⟩ <|
                .nil)))) (.seq (.ops (
                .op ⟨(some 79), .cmp .eql .i64 (.t 5) (.c (.int .i64 6)), []⟩ <|
                .op ⟨(some 78), .mov (.t 79), []⟩ <|
                .nil)) (
              .cond (.t 78) (.ops (
                  .op ⟨(some 80), .mov (.t 0), []⟩ <|
                  .op ⟨(some 81), .call 428 [(.t 80)], []⟩ <|
                  .nil)) (.seq (.ops (
                  .op ⟨(some 83), .cmp .eql .i64 (.t 5) (.c (.int .i64 7)), []⟩ <|
                  .op ⟨(some 82), .mov (.t 83), []⟩ <|
                  .nil)) (
                .cond (.t 82) (.seq (.ops (
                    .op ⟨(some 84), .mov (.t 0), []⟩ <|
                    .op ⟨(some 85), .mov (.t 0), []⟩ <|
                    .op ⟨(some 86), .nilc (.t 85), []⟩ <|
                    .op ⟨(some 87), .fieldA 0 (.t 86), []⟩ <|
                    .op ⟨(some 88), .loadN 6 (.t 87), []⟩ <|
                    .op ⟨(some 89), .mov (.t 0), []⟩ <|
                    .op ⟨(some 90), .nilc (.t 89), []⟩ <|
                    .op ⟨(some 91), .fieldA 6 (.t 90), []⟩ <|
                    .op ⟨(some 92), .load1 (.t 91), []⟩ <|
                    .op ⟨(some 94), .mov (.t 0), []⟩ <|
                    .op ⟨(some 95), .nilc (.t 94), []⟩ <|
                    .op ⟨(some 96), .fieldA 27 (.t 95), []⟩ <|
                    .op ⟨(some 97), .load1 (.t 96), []⟩ <|
                    .op ⟨(some 98), .arith .add .i64 (.t 97) (.c (.int .i64 1)), []⟩ <|
                    .op ⟨(some 99), .conv .u64 (.t 98), []⟩ <|
                    .op ⟨(some 93), .call 321 [(.t 88), (.t 92)], [{ g := none, op := .load1 (.t 96), d := 97 }]⟩ <|
                    .op ⟨(some 100), .call 429 [(.t 84), (.t 93), (.t 99)], []⟩ <|
                    .nil)) (
                  .ops (
                    .op ⟨(some 101), .mov (.t 0), []⟩ <|
                    .op ⟨(some 102), .nilc (.t 101), []⟩ <|
                    .op ⟨(some 103), .fieldA 24 (.t 102), []⟩ <|
                    .op ⟨none, .store 1 (.t 103) (.c (.int .i64 8)), []⟩ <|
                    .nil))) (.seq (.ops (
                    .op ⟨(some 105), .cmp .eql .i64 (.t 5) (.c (.int .i64 8)), []⟩ <|
                    .op ⟨(some 104), .mov (.t 105), []⟩ <|
                    .nil)) (
                  .cond (.t 104) (.seq (.ops (
                      .op ⟨(some 106), .mov (.t 0), []⟩ <|
                      .op ⟨(some 107), .mov (.t 0), []⟩ <|
                      .op ⟨(some 108), .nilc (.t 107), []⟩ <|
                      .op ⟨(some 109), .fieldA 0 (.t 108), []⟩ <|
                      .op ⟨(some 110), .loadN 6 (.t 109), []⟩ <|
                      .op ⟨(some 111), .mov (.t 0), []⟩ <|
                      .op ⟨(some 112), .nilc (.t 111), []⟩ <|
                      .op ⟨(some 113), .fieldA 7 (.t 112), []⟩ <|
                      .op ⟨(some 114), .load1 (.t 113), []⟩ <|
                      .op ⟨(some 115), .call 144 [(.t 110), (.t 114)], []⟩ <|
                      .op ⟨(some 116), .nilc (.t 106), []⟩ <|
                      .op ⟨(some 117), .fieldA 36 (.t 116), []⟩ <|
                      .op ⟨none, .store 1 (.t 117) (.t 115), []⟩ <|
                      .nil)) (
                    .ops (
                      .op ⟨(some 118), .mov (.t 0), []⟩ <|
                      .op ⟨(some 119), .mov (.t 0), []⟩ <|
                      .op ⟨(some 120), .mov (.t 0), []⟩ <|
                      .op ⟨(some 121), .nilc (.t 120), []⟩ <|
                      .op ⟨(some 122), .fieldA 36 (.t 121), []⟩ <|
                      .op ⟨(some 123), .load1 (.t 122), []⟩ <|
                      .op ⟨(some 124), .mkIfc 144 (.t 123), []⟩ <|
                      .op ⟨(some 125), .nilc (.t 118), []⟩ <|
                      .op ⟨(some 126), .fieldA 25 (.t 125), []⟩ <|
                      .op ⟨none, .store 1 (.t 126) (.t 124), []⟩ <|
                      .op ⟨(some 127), .nilc (.t 119), []⟩ <|
                      .op ⟨(some 128), .fieldA 24 (.t 127), []⟩ <|
                      .op ⟨none, .store 1 (.t 128) (.c (.int .i64 9)), []⟩ <|
                      .nil))) (.seq (.ops (
                      .op ⟨(some 130), .cmp .eql .i64 (.t 5) (.c (.int .i64 9)), []⟩ <|
                      .op ⟨(some 129), .mov (.t 130), []⟩ <|
                      .nil)) (
                    .cond (.t 129) (.seq (.ops (
                        .op ⟨(some 131), .mov (.t 0), []⟩ <|
                        .op ⟨(some 132), .mov (.t 0), []⟩ <|
                        .op ⟨(some 133), .nilc (.t 132), []⟩ <|
                        .op ⟨(some 134), .fieldA 0 (.t 133), []⟩ <|
                        .op ⟨(some 135), .loadN 6 (.t 134), []⟩ <|
                        .op ⟨(some 136), .mov (.t 0), []⟩ <|
                        .op ⟨(some 137), .nilc (.t 136), []⟩ <|
                        .op ⟨(some 138), .fieldA 6 (.t 137), []⟩ <|
                        .op ⟨(some 139), .load1 (.t 138), []⟩ <|
                        .op ⟨(some 141), .mov (.t 0), []⟩ <|
                        .op ⟨(some 142), .nilc (.t 141), []⟩ <|
                        .op ⟨(some 143), .fieldA 36 (.t 142), []⟩ <|
                        .op ⟨(some 144), .load1 (.t 143), []⟩ <|
                        .op ⟨(some 145), .nilc (.t 144), []⟩ <|
                        .op ⟨(some 146), .fieldA 0 (.t 145), []⟩ <|
                        .op ⟨(some 147), .load1 (.t 146), []⟩ <|
                        .op ⟨(some 148), .arith .add .u64 (.t 147) (.c (.int .u64 2)), []⟩ <|
                        .op ⟨(some 140), .call 393 [(.t 135), (.t 139)], [{ g := none, op := .load1 (.t 146), d := 147 }, { g := none, op := .load1 (.t 143), d := 144 }]⟩ <|
                        .op ⟨(some 149), .call 429 [(.t 131), (.t 140), (.t 148)], []⟩ <|
                        .nil)) (
                      .ops (
                        .op ⟨(some 150), .mov (.t 0), []⟩ <|
                        .op ⟨(some 151), .nilc (.t 150), []⟩ <|
                        .op ⟨(some 152), .fieldA 24 (.t 151), []⟩ <|
                        .op ⟨none, .store 1 (.t 152) (.c (.int .i64 10)), []⟩ <|
                        .nil))) (.seq (.ops (
                        .op ⟨(some 154), .cmp .eql .i64 (.t 5) (.c (.int .i64 10)), []⟩ <|
                        .op ⟨(some 153), .mov (.t 154), []⟩ <|
                        .nil)) (
                      .cond (.t 153) (.ops (
                          .op ⟨(some 155), .mov (.t 0), []⟩ <|
                          .op ⟨(some 156), .call 430 [(.t 155)], []⟩ <|
                          .nil)) (.seq (.ops (
                          .op ⟨(some 158), .cmp .eql .i64 (.t 5) (.c (.int .i64 11)), []⟩ <|
                          .op ⟨(some 157), .mov (.t 158), []⟩ <|
                          .nil)) (
                        .cond (.t 157) (.seq (.ops (
                            .op ⟨(some 159), .mov (.t 0), []⟩ <|
                            .op ⟨(some 160), .mov (.t 0), []⟩ <|
                            .op ⟨(some 161), .nilc (.t 160), []⟩ <|
                            .op ⟨(some 162), .fieldA 0 (.t 161), []⟩ <|
                            .op ⟨(some 163), .loadN 6 (.t 162), []⟩ <|
                            .op ⟨(some 164), .mov (.t 0), []⟩ <|
                            .op ⟨(some 165), .nilc (.t 164), []⟩ <|
                            .op ⟨(some 166), .fieldA 6 (.t 165), []⟩ <|
                            .op ⟨(some 167), .load1 (.t 166), []⟩ <|
                            .op ⟨(some 168), .call 393 [(.t 163), (.t 167)], []⟩ <|
                            .op ⟨(some 169), .call 429 [(.t 159), (.t 168), (.c (.int .u64 0))], []⟩ <|
                            .nil)) (
                          .ops (
                            .op ⟨(some 170), .mov (.t 0), []⟩ <|
                            .op ⟨(some 171), .nilc (.t 170), []⟩ <|
                            .op ⟨(some 172), .fieldA 24 (.t 171), []⟩ <|
                            .op ⟨none, .store 1 (.t 172) (.c (.int .i64 19)), []⟩ <|
                            .nil))) (.seq (.ops (
                            .op ⟨(some 174), .cmp .eql .i64 (.t 5) (.c (.int .i64 12)), []⟩ <|
                            .op ⟨(some 173), .mov (.t 174), []⟩ <|
                            .nil)) (
                          .cond (.t 173) (.ops (
                              .op ⟨(some 175), .mov (.t 0), []⟩ <|
                              .op ⟨(some 176), .nilc (.t 175), []⟩ <|
                              .op ⟨(some 177), .fieldA 24 (.t 176), []⟩ <|
                              .op ⟨none, .store 1 (.t 177) (.c (.int .i64 13)), []⟩ <|
                              .nil)) (.ops (
                              .op ⟨(some 6), .mov (.t 0), []⟩ <|
                              .op ⟨(some 7), .call 431 [(.t 6)], []⟩ <|
                              .nil)))))))))))))))))))))))))))

def client_Client_next_hs : List (List Nat × List Nat) := []

end Wm.F
end

section
/- PRINTED by my tool (wip/wm/tool/Gen.lean): a function as one of my machine. -/
namespace Wm.F
open Wm
set_option maxRecDepth 100000

/-- 552: (*withy/epoch.Pin).Step -/
def epoch_Pin_Step : AFunc where
  closed := false
  nparams := 2
  ntmps := 63
  results := [.tmp 4]
  body := .seq (.ops (
      .op ⟨(some 4), .mov (.c (.bool false)), []⟩ <|
      .nil)) (
    .seq (.seq (.ops (
      .op ⟨(some 6), .mov (.t 0), []⟩ <|
      .op ⟨(some 7), .eq false .ptr (.t 6) (.c .nilp), []⟩ <|
      .nil)) (
    .cond (.t 7) (.seq (.ops (
        .op ⟨(some 4), .mov (.c (.bool true)), []⟩ <|
        .nil)) (
      .ret)) (.skip))) (
    .seq (.seq (.ops (
      .op ⟨(some 8), .mov (.t 0), []⟩ <|
      .op ⟨(some 9), .nilc (.t 8), []⟩ <|
      .op ⟨(some 10), .fieldA 2 (.t 9), []⟩ <|
      .op ⟨(some 11), .load1 (.t 10), []⟩ <|
      .nil)) (
    .block 0 (.seq (.ops (
      .op ⟨(some 13), .cmp .eql .i64 (.t 11) (.c (.int .i64 0)), []⟩ <|
      .op ⟨(some 12), .mov (.t 13), []⟩ <|
      .nil)) (
    .cond (.t 12) (.seq (.ops (
        .op ⟨(some 14), .mov (.t 0), []⟩ <|
        .op ⟨(some 15), .mov (.t 1), []⟩ <|
        .op ⟨(some 16), .call 266 [(.t 15), (.c (.int .i64 1))], []⟩ <|
        .op ⟨(some 17), .nilc (.t 14), []⟩ <|
        .op ⟨(some 18), .fieldA 0 (.t 17), []⟩ <|
        .op ⟨none, .store 1 (.t 18) (.t 16), []⟩ <|
        .nil)) (
      .ops (
        .op ⟨(some 19), .mov (.t 0), []⟩ <|
        .op ⟨(some 20), .nilc (.t 19), []⟩ <|
        .op ⟨(some 21), .fieldA 2 (.t 20), []⟩ <|
        .op ⟨none, .store 1 (.t 21) (.c (.int .i64 1)), []⟩ <|
        .nil))) (.seq (.ops (
        .op ⟨(some 23), .cmp .eql .i64 (.t 11) (.c (.int .i64 1)), []⟩ <|
        .op ⟨(some 22), .mov (.t 23), []⟩ <|
        .nil)) (
      .cond (.t 22) (.seq (.ops (
          .op ⟨(some 24), .mov (.t 1), []⟩ <|
          .op ⟨(some 25), .mov (.t 0), []⟩ <|
          .op ⟨(some 26), .nilc (.t 25), []⟩ <|
          .op ⟨(some 27), .fieldA 1 (.t 26), []⟩ <|
          .op ⟨(some 28), .load1 (.t 27), []⟩ <|
          .op ⟨(some 29), .mov (.t 0), []⟩ <|
          .op ⟨(some 30), .nilc (.t 29), []⟩ <|
          .op ⟨(some 31), .fieldA 0 (.t 30), []⟩ <|
          .op ⟨(some 32), .load1 (.t 31), []⟩ <|
          .op ⟨(some 33), .call 417 [(.t 32)], [{ g := none, op := .load1 (.t 27), d := 28 }]⟩ <|
          .op ⟨(some 34), .call 203 [(.t 24), (.t 28), (.t 33)], []⟩ <|
          .nil)) (
        .ops (
          .op ⟨(some 35), .mov (.t 0), []⟩ <|
          .op ⟨(some 36), .nilc (.t 35), []⟩ <|
          .op ⟨(some 37), .fieldA 2 (.t 36), []⟩ <|
          .op ⟨none, .store 1 (.t 37) (.c (.int .i64 2)), []⟩ <|
          .nil))) (.seq (.ops (
          .op ⟨(some 39), .cmp .eql .i64 (.t 11) (.c (.int .i64 2)), []⟩ <|
          .op ⟨(some 38), .mov (.t 39), []⟩ <|
          .nil)) (
        .cond (.t 38) (.seq (.ops (
            .op ⟨(some 40), .mov (.t 0), []⟩ <|
            .op ⟨(some 41), .nilc (.t 40), []⟩ <|
            .op ⟨(some 42), .fieldA 2 (.t 41), []⟩ <|
            .op ⟨none, .store 1 (.t 42) (.c (.int .i64 3)), []⟩ <|
            .nil)) (
          .seq (.ops (
            .op ⟨(some 43), .mov (.t 1), []⟩ <|
            .op ⟨(some 44), .call 266 [(.t 43), (.c (.int .i64 1))], []⟩ <|
            .op ⟨(some 5), .mov (.t 44), []⟩ <|
            .nil)) (
          .seq (.ops (
            .op ⟨(some 45), .mov (.t 5), []⟩ <|
            .op ⟨(some 46), .mov (.t 0), []⟩ <|
            .op ⟨(some 47), .nilc (.t 46), []⟩ <|
            .op ⟨(some 48), .fieldA 0 (.t 47), []⟩ <|
            .op ⟨(some 49), .load1 (.t 48), []⟩ <|
            .op ⟨(some 50), .cmp .neq .u64 (.t 45) (.t 49), []⟩ <|
            .nil)) (
          .cond (.t 50) (.ops (
              .op ⟨(some 51), .mov (.t 0), []⟩ <|
              .op ⟨(some 52), .mov (.t 0), []⟩ <|
              .op ⟨(some 53), .mov (.t 5), []⟩ <|
              .op ⟨(some 54), .nilc (.t 51), []⟩ <|
              .op ⟨(some 55), .fieldA 0 (.t 54), []⟩ <|
              .op ⟨none, .store 1 (.t 55) (.t 53), []⟩ <|
              .op ⟨(some 56), .nilc (.t 52), []⟩ <|
              .op ⟨(some 57), .fieldA 2 (.t 56), []⟩ <|
              .op ⟨none, .store 1 (.t 57) (.c (.int .i64 1)), []⟩ <|
              .nil)) (.skip))))) (.skip))))))))) (
    .seq (.ops (
      .op ⟨(some 58), .mov (.t 0), []⟩ <|
      .op ⟨(some 59), .nilc (.t 58), []⟩ <|
      .op ⟨(some 60), .fieldA 2 (.t 59), []⟩ <|
      .op ⟨(some 61), .load1 (.t 60), []⟩ <|
      .op ⟨(some 62), .cmp .eql .i64 (.t 61) (.c (.int .i64 3)), []⟩ <|
      .op ⟨(some 4), .mov (.t 62), []⟩ <|
      .nil)) (
    .ret))))

def epoch_Pin_Step_hs : List (List Nat × List Nat) := []

end Wm.F
end

section
/- PRINTED by my tool (wip/wm/tool/Gen.lean): a function as one of my machine. -/
namespace Wm.F
open Wm
set_option maxRecDepth 100000

/-- 359: (*withy/root.Table).Find -/
def root_Table_Find : AFunc where
  closed := false
  nparams := 2
  ntmps := 73
  results := [.tmp 4, .tmp 5, .tmp 6]
  body := .seq (.ops (
      .op ⟨(some 4), .mov (.c (.int .i64 0)), []⟩ <|
      .op ⟨(some 5), .mov (.c (.int .i64 0)), []⟩ <|
      .op ⟨(some 6), .mov (.c (.bool false)), []⟩ <|
      .nil)) (
    .seq (.ops (
      .op ⟨(some 12), .mov (.t 1), []⟩ <|
      .op ⟨(some 13), .call 432 [(.t 12)], []⟩ <|
      .op ⟨(some 11), .mov (.t 13), []⟩ <|
      .op ⟨(some 14), .extract (.t 11) 0, []⟩ <|
      .op ⟨(some 15), .extract (.t 11) 1, []⟩ <|
      .op ⟨(some 16), .extract (.t 11) 2, []⟩ <|
      .op ⟨(some 17), .extract (.t 11) 3, []⟩ <|
      .op ⟨(some 7), .mov (.t 14), []⟩ <|
      .op ⟨(some 8), .mov (.t 15), []⟩ <|
      .op ⟨(some 9), .mov (.t 16), []⟩ <|
      .op ⟨(some 10), .mov (.t 17), []⟩ <|
      .nil)) (
    .seq (.seq (.ops (
      .op ⟨(some 18), .mov (.t 0), []⟩ <|
      .op ⟨(some 19), .eq false .ptr (.t 18) (.c .nilp), []⟩ <|
      .op ⟨(some 20), .mov (.t 19), []⟩ <|
      .grd 20 false [⟨(some 21), .mov (.t 10), []⟩,
          ⟨(some 22), .not (.t 21), []⟩] <|
      .op ⟨(some 23), .pick (.t 20) (.c (.bool true)) (.t 22), []⟩ <|
      .op ⟨(some 24), .mov (.t 23), []⟩ <|
      .grd 24 false [⟨(some 25), .mov (.t 7), []⟩,
          ⟨(some 26), .mov (.t 0), []⟩,
          ⟨(some 27), .nilc (.t 26), []⟩,
          ⟨(some 28), .fieldA 6 (.t 27), []⟩,
          ⟨(some 29), .load1 (.t 28), []⟩,
          ⟨(some 30), .cmp .neq .i64 (.t 25) (.t 29), []⟩] <|
      .op ⟨(some 31), .pick (.t 24) (.c (.bool true)) (.t 30), []⟩ <|
      .op ⟨(some 32), .mov (.t 31), []⟩ <|
      .grd 32 false [⟨(some 33), .mov (.t 8), []⟩,
          ⟨(some 34), .mov (.t 0), []⟩,
          ⟨(some 35), .nilc (.t 34), []⟩,
          ⟨(some 36), .fieldA 7 (.t 35), []⟩,
          ⟨(some 37), .load1 (.t 36), []⟩,
          ⟨(some 38), .lenSl (.t 37), []⟩,
          ⟨(some 39), .cmp .geq .i64 (.t 33) (.t 38), []⟩] <|
      .op ⟨(some 40), .pick (.t 32) (.c (.bool true)) (.t 39), []⟩ <|
      .op ⟨(some 41), .mov (.t 40), []⟩ <|
      .grd 41 false [⟨(some 42), .mov (.t 0), []⟩,
          ⟨(some 43), .nilc (.t 42), []⟩,
          ⟨(some 44), .fieldA 7 (.t 43), []⟩,
          ⟨(some 45), .load1 (.t 44), []⟩,
          ⟨(some 46), .mov (.t 8), []⟩,
          ⟨(some 47), .indexA 2 (.t 45) (.t 46), []⟩,
          ⟨(some 48), .fieldA 0 (.t 47), []⟩,
          ⟨(some 49), .load1 (.t 48), []⟩,
          ⟨(some 50), .mov (.t 9), []⟩,
          ⟨(some 51), .cmp .neq .u64 (.t 49) (.t 50), []⟩] <|
      .op ⟨(some 52), .pick (.t 41) (.c (.bool true)) (.t 51), []⟩ <|
      .op ⟨(some 53), .mov (.t 52), []⟩ <|
      .grd 53 false [⟨(some 54), .mov (.t 0), []⟩,
          ⟨(some 55), .nilc (.t 54), []⟩,
          ⟨(some 56), .fieldA 7 (.t 55), []⟩,
          ⟨(some 57), .load1 (.t 56), []⟩,
          ⟨(some 58), .mov (.t 8), []⟩,
          ⟨(some 59), .indexA 2 (.t 57) (.t 58), []⟩,
          ⟨(some 60), .fieldA 1 (.t 59), []⟩,
          ⟨(some 61), .load1 (.t 60), []⟩,
          ⟨(some 62), .cmp .lss .i64 (.t 61) (.c (.int .i64 0)), []⟩] <|
      .op ⟨(some 63), .pick (.t 53) (.c (.bool true)) (.t 62), []⟩ <|
      .nil)) (
    .cond (.t 63) (.seq (.ops (
        .op ⟨(some 4), .mov (.c (.int .i64 0)), []⟩ <|
        .op ⟨(some 5), .mov (.c (.int .i64 0)), []⟩ <|
        .op ⟨(some 6), .mov (.c (.bool false)), []⟩ <|
        .nil)) (
      .ret)) (.skip))) (
    .seq (.ops (
      .op ⟨(some 64), .mov (.t 8), []⟩ <|
      .op ⟨(some 65), .mov (.t 0), []⟩ <|
      .op ⟨(some 66), .nilc (.t 65), []⟩ <|
      .op ⟨(some 67), .fieldA 7 (.t 66), []⟩ <|
      .op ⟨(some 68), .load1 (.t 67), []⟩ <|
      .op ⟨(some 69), .mov (.t 8), []⟩ <|
      .op ⟨(some 70), .indexA 2 (.t 68) (.t 69), []⟩ <|
      .op ⟨(some 71), .fieldA 1 (.t 70), []⟩ <|
      .op ⟨(some 72), .load1 (.t 71), []⟩ <|
      .op ⟨(some 4), .mov (.t 64), []⟩ <|
      .op ⟨(some 5), .mov (.t 72), []⟩ <|
      .op ⟨(some 6), .mov (.c (.bool true)), []⟩ <|
      .nil)) (
    .ret))))

def root_Table_Find_hs : List (List Nat × List Nat) := []

end Wm.F
end

section
/- PRINTED by my tool (wip/wm/tool/Gen.lean): a function as one of my machine. -/
namespace Wm.F
open Wm
set_option maxRecDepth 100000

/-- 416: withy/plan.Pin -/
def plan_Pin : AFunc where
  closed := true
  nparams := 2
  ntmps := 8
  results := [.tmp 4]
  body := .seq (.ops (
      .op ⟨(some 2), .box (.t 0), []⟩ <|
      .op ⟨(some 4), .mov (.c (.int .i64 0)), []⟩ <|
      .nil)) (
    .seq (.ops (
      .op ⟨(some 5), .loadN 6 (.t 2), []⟩ <|
      .op ⟨(some 6), .mov (.t 1), []⟩ <|
      .op ⟨(some 7), .call 397 [(.t 5), (.t 6), (.c (.int .i64 0)), (.c (.int .i64 1)), (.c (.int .i64 0))], []⟩ <|
      .op ⟨(some 4), .mov (.t 7), []⟩ <|
      .nil)) (
    .ret))

def plan_Pin_hs : List (List Nat × List Nat) := []

end Wm.F
end

section
/- PRINTED by my tool (wip/wm/tool/Gen.lean): a function as one of my machine. -/
namespace Wm.F
open Wm
set_option maxRecDepth 100000

/-- 198: withy/mem.Of -/
def mem_Of : AFunc where
  closed := false
  nparams := 1
  ntmps := 10
  results := [.tmp 2]
  body := .seq (.ops (
      .op ⟨(some 2), .mov (.c .nilp), []⟩ <|
      .nil)) (
    .seq (.seq (.ops (
      .op ⟨(some 3), .mov (.t 0), []⟩ <|
      .op ⟨(some 4), .lenSl (.t 3), []⟩ <|
      .op ⟨(some 5), .cmp .gtr .i64 (.t 4) (.c (.int .i64 65536)), []⟩ <|
      .nil)) (
    .cond (.t 5) (.seq (.ops (
        .op ⟨(some 2), .mov (.c .nilp), []⟩ <|
        .nil)) (
      .ret)) (.skip))) (
    .seq (.ops (
      .op ⟨(some 6), .mov (.t 0), []⟩ <|
      .op ⟨(some 7), .call 271 [(.t 6)], []⟩ <|
      .op ⟨(some 8), .build [.nilsl, (.int .i64 0), (.int .i64 0), (.int .i64 0), (.int .u64 0), (.int .u64 0)] [(0, 1, (.t 7))], []⟩ <|
      .op ⟨(some 9), .box (.t 8), []⟩ <|
      .op ⟨(some 2), .mov (.t 9), []⟩ <|
      .nil)) (
    .ret)))

def mem_Of_hs : List (List Nat × List Nat) := []

end Wm.F
end

section
/- PRINTED by my tool (wip/wm/tool/Gen.lean): a function as one of my machine. -/
namespace Wm.F
open Wm
set_option maxRecDepth 100000

/-- 263: withy/plan.Right -/
def plan_Right : AFunc where
  closed := true
  nparams := 1
  ntmps := 31
  results := [.tmp 2]
  body := .seq (.ops (
      .op ⟨(some 1), .box (.t 0), []⟩ <|
      .op ⟨(some 2), .mov (.c (.bool false)), []⟩ <|
      .nil)) (
    .seq (.ops (
      .op ⟨(some 3), .fieldA 0 (.t 1), []⟩ <|
      .op ⟨(some 4), .load1 (.t 3), []⟩ <|
      .op ⟨(some 5), .call 376 [(.t 4), (.c (.int .i64 1)), (.c (.int .i64 64))], []⟩ <|
      .op ⟨(some 6), .mov (.t 5), []⟩ <|
      .grd 6 true [⟨(some 7), .fieldA 1 (.t 1), []⟩,
          ⟨(some 8), .load1 (.t 7), []⟩,
          ⟨(some 9), .call 376 [(.t 8), (.c (.int .i64 0)), (.c (.int .i64 8))], []⟩] <|
      .op ⟨(some 10), .pick (.t 6) (.t 9) (.c (.bool false)), []⟩ <|
      .op ⟨(some 11), .mov (.t 10), []⟩ <|
      .grd 11 true [⟨(some 12), .fieldA 2 (.t 1), []⟩,
          ⟨(some 13), .load1 (.t 12), []⟩,
          ⟨(some 14), .call 376 [(.t 13), (.c (.int .i64 1)), (.c (.int .i64 8))], []⟩] <|
      .op ⟨(some 15), .pick (.t 11) (.t 14) (.c (.bool false)), []⟩ <|
      .op ⟨(some 16), .mov (.t 15), []⟩ <|
      .grd 16 true [⟨(some 17), .fieldA 3 (.t 1), []⟩,
          ⟨(some 18), .load1 (.t 17), []⟩,
          ⟨(some 19), .call 376 [(.t 18), (.c (.int .i64 1)), (.c (.int .i64 16))], []⟩] <|
      .op ⟨(some 20), .pick (.t 16) (.t 19) (.c (.bool false)), []⟩ <|
      .op ⟨(some 21), .mov (.t 20), []⟩ <|
      .grd 21 true [⟨(some 22), .fieldA 4 (.t 1), []⟩,
          ⟨(some 23), .load1 (.t 22), []⟩,
          ⟨(some 24), .call 376 [(.t 23), (.c (.int .i64 1)), (.c (.int .i64 1048576))], []⟩] <|
      .op ⟨(some 25), .pick (.t 21) (.t 24) (.c (.bool false)), []⟩ <|
      .op ⟨(some 26), .mov (.t 25), []⟩ <|
      .grd 26 true [⟨(some 27), .fieldA 5 (.t 1), []⟩,
          ⟨(some 28), .load1 (.t 27), []⟩,
          ⟨(some 29), .call 376 [(.t 28), (.c (.int .i64 0)), (.c (.int .i64 64))], []⟩] <|
      .op ⟨(some 30), .pick (.t 26) (.t 29) (.c (.bool false)), []⟩ <|
      .op ⟨(some 2), .mov (.t 30), []⟩ <|
      .nil)) (
    .ret))

def plan_Right_hs : List (List Nat × List Nat) := []

end Wm.F
end

section
/- PRINTED by my tool (wip/wm/tool/Gen.lean): a function as one of my machine. -/
namespace Wm.F
open Wm
set_option maxRecDepth 100000

/-- 264: withy/plan.Size -/
def plan_Size : AFunc where
  closed := true
  nparams := 1
  ntmps := 14
  results := [.tmp 2]
  body := .seq (.ops (
      .op ⟨(some 1), .box (.t 0), []⟩ <|
      .op ⟨(some 2), .mov (.c (.int .i64 0)), []⟩ <|
      .nil)) (
    .seq (.seq (.ops (
      .op ⟨(some 3), .loadN 6 (.t 1), []⟩ <|
      .op ⟨(some 4), .call 263 [(.t 3)], []⟩ <|
      .op ⟨(some 5), .not (.t 4), []⟩ <|
      .nil)) (
    .cond (.t 5) (.seq (.ops (
        .op ⟨(some 2), .mov (.c (.int .i64 0)), []⟩ <|
        .nil)) (
      .ret)) (.skip))) (
    .seq (.ops (
      .op ⟨(some 6), .loadN 6 (.t 1), []⟩ <|
      .op ⟨(some 8), .fieldA 0 (.t 1), []⟩ <|
      .op ⟨(some 9), .load1 (.t 8), []⟩ <|
      .op ⟨(some 10), .loadN 6 (.t 1), []⟩ <|
      .op ⟨(some 7), .call 377 [(.t 6)], [{ g := none, op := .loadN 6 (.t 1), d := 10 }, { g := none, op := .load1 (.t 8), d := 9 }]⟩ <|
      .op ⟨(some 11), .call 378 [(.t 10)], [{ g := none, op := .load1 (.t 8), d := 9 }]⟩ <|
      .op ⟨(some 12), .arith .mul .i64 (.t 9) (.t 11), []⟩ <|
      .op ⟨(some 13), .arith .add .i64 (.t 7) (.t 12), []⟩ <|
      .op ⟨(some 2), .mov (.t 13), []⟩ <|
      .nil)) (
    .ret)))

def plan_Size_hs : List (List Nat × List Nat) := []

end Wm.F
end

section
/- PRINTED by my tool (wip/wm/tool/Gen.lean): a function as one of my machine. -/
namespace Wm.F
open Wm
set_option maxRecDepth 100000

/-- 293: withy/plan.Link -/
def plan_Link : AFunc where
  closed := true
  nparams := 2
  ntmps := 8
  results := [.tmp 4]
  body := .seq (.ops (
      .op ⟨(some 2), .box (.t 0), []⟩ <|
      .op ⟨(some 4), .mov (.c (.int .i64 0)), []⟩ <|
      .nil)) (
    .seq (.ops (
      .op ⟨(some 5), .loadN 6 (.t 2), []⟩ <|
      .op ⟨(some 6), .mov (.t 1), []⟩ <|
      .op ⟨(some 7), .call 375 [(.t 5), (.t 6), (.c (.int .i64 1))], []⟩ <|
      .op ⟨(some 4), .mov (.t 7), []⟩ <|
      .nil)) (
    .ret))

def plan_Link_hs : List (List Nat × List Nat) := []

end Wm.F
end

section
/- PRINTED by my tool (wip/wm/tool/Gen.lean): a function as one of my machine. -/
namespace Wm.F
open Wm
set_option maxRecDepth 100000

/-- 350: withy/tag.Top -/
def tag_Top : AFunc where
  closed := true
  nparams := 2
  ntmps := 11
  results := [.tmp 4, .tmp 5]
  body := .seq (.ops (
      .op ⟨(some 4), .mov (.c (.int .u64 0)), []⟩ <|
      .op ⟨(some 5), .mov (.c (.bool false)), []⟩ <|
      .nil)) (
    .seq (.ops (
      .op ⟨(some 6), .mov (.t 0), []⟩ <|
      .op ⟨(some 7), .mov (.t 1), []⟩ <|
      .op ⟨(some 8), .call 414 [(.t 6), (.t 7), (.c (.int .i64 16))], []⟩ <|
      .op ⟨(some 9), .extract (.t 8) 0, []⟩ <|
      .op ⟨(some 10), .extract (.t 8) 1, []⟩ <|
      .op ⟨(some 4), .mov (.t 9), []⟩ <|
      .op ⟨(some 5), .mov (.t 10), []⟩ <|
      .nil)) (
    .ret))

def tag_Top_hs : List (List Nat × List Nat) := []

end Wm.F
end

section
/- PRINTED by my tool (wip/wm/tool/Gen.lean): a function as one of my machine. -/
namespace Wm.F
open Wm
set_option maxRecDepth 100000

/-- 82: withy/op.Walk -/
def op_Walk : AFunc where
  closed := true
  nparams := 1
  ntmps := 9
  results := [.tmp 2]
  body := .seq (.ops (
      .op ⟨(some 2), .mov (.c (.bool false)), []⟩ <|
      .nil)) (
    .seq (.ops (
      .op ⟨(some 3), .mov (.t 0), []⟩ <|
      .op ⟨(some 4), .cmp .eql .i64 (.t 3) (.c (.int .i64 9)), []⟩ <|
      .op ⟨(some 5), .mov (.t 4), []⟩ <|
      .grd 5 false [⟨(some 6), .mov (.t 0), []⟩,
          ⟨(some 7), .cmp .eql .i64 (.t 6) (.c (.int .i64 10)), []⟩] <|
      .op ⟨(some 8), .pick (.t 5) (.c (.bool true)) (.t 7), []⟩ <|
      .op ⟨(some 2), .mov (.t 8), []⟩ <|
      .nil)) (
    .ret))

def op_Walk_hs : List (List Nat × List Nat) := []

end Wm.F
end

section
/- PRINTED by my tool (wip/wm/tool/Gen.lean): a function as one of my machine. -/
namespace Wm.F
open Wm
set_option maxRecDepth 100000

/-- 171: (*withy/iter.Walk).Left -/
def iter_Walk_Left : AFunc where
  closed := false
  nparams := 1
  ntmps := 10
  results := [.tmp 2]
  body := .seq (.ops (
      .op ⟨(some 2), .mov (.c (.int .i64 0)), []⟩ <|
      .nil)) (
    .seq (.seq (.ops (
      .op ⟨(some 3), .mov (.t 0), []⟩ <|
      .op ⟨(some 4), .eq false .ptr (.t 3) (.c .nilp), []⟩ <|
      .nil)) (
    .cond (.t 4) (.seq (.ops (
        .op ⟨(some 2), .mov (.c (.int .i64 0)), []⟩ <|
        .nil)) (
      .ret)) (.skip))) (
    .seq (.ops (
      .op ⟨(some 5), .mov (.t 0), []⟩ <|
      .op ⟨(some 6), .nilc (.t 5), []⟩ <|
      .op ⟨(some 7), .fieldA 8 (.t 6), []⟩ <|
      .op ⟨(some 8), .load1 (.t 7), []⟩ <|
      .op ⟨(some 9), .lenSl (.t 8), []⟩ <|
      .op ⟨(some 2), .mov (.t 9), []⟩ <|
      .nil)) (
    .ret)))

def iter_Walk_Left_hs : List (List Nat × List Nat) := []

end Wm.F
end

section
/- PRINTED by my tool (wip/wm/tool/Gen.lean): a function as one of my machine. -/
namespace Wm.F
open Wm
set_option maxRecDepth 100000

/-- 419: (*withy/client.Client).fails -/
def client_Client_fails : AFunc where
  closed := false
  nparams := 2
  ntmps := 8
  results := []
  body := .ops (
      .op ⟨(some 4), .mov (.t 0), []⟩ <|
      .op ⟨(some 5), .mov (.t 1), []⟩ <|
      .op ⟨(some 6), .build [(.int .i64 0), (.int .u64 0), (.bool false)] [(0, 1, (.t 5))], []⟩ <|
      .op ⟨(some 7), .call 422 [(.t 4), (.t 6)], []⟩ <|
      .nil)

def client_Client_fails_hs : List (List Nat × List Nat) := []

end Wm.F
end

section
/- PRINTED by my tool (wip/wm/tool/Gen.lean): a function as one of my machine. -/
namespace Wm.F
open Wm
set_option maxRecDepth 100000

/-- 420: (*withy/root.Table).Room -/
def root_Table_Room : AFunc where
  closed := false
  nparams := 1
  ntmps := 6
  results := [.tmp 2]
  body := .seq (.ops (
      .op ⟨(some 2), .mov (.c (.bool false)), []⟩ <|
      .nil)) (
    .seq (.ops (
      .op ⟨(some 3), .mov (.t 0), []⟩ <|
      .op ⟨(some 4), .call 463 [(.t 3)], []⟩ <|
      .op ⟨(some 5), .cmp .geq .i64 (.t 4) (.c (.int .i64 0)), []⟩ <|
      .op ⟨(some 2), .mov (.t 5), []⟩ <|
      .nil)) (
    .ret))

def root_Table_Room_hs : List (List Nat × List Nat) := []

end Wm.F
end

section
/- PRINTED by my tool (wip/wm/tool/Gen.lean): a function as one of my machine. -/
namespace Wm.F
open Wm
set_option maxRecDepth 100000

/-- 421: (*withy/client.Client).held -/
def client_Client_held : AFunc where
  closed := false
  nparams := 1
  ntmps := 95
  results := [.tmp 2]
  body := .seq (.ops (
      .op ⟨(some 2), .mov (.c (.bool false)), []⟩ <|
      .nil)) (
    .seq (.ops (
      .op ⟨(some 3), .mov (.t 0), []⟩ <|
      .op ⟨(some 4), .mov (.t 0), []⟩ <|
      .op ⟨(some 5), .mov (.t 0), []⟩ <|
      .op ⟨(some 6), .mov (.t 0), []⟩ <|
      .op ⟨(some 7), .mov (.t 0), []⟩ <|
      .op ⟨(some 8), .nilc (.t 7), []⟩ <|
      .op ⟨(some 9), .fieldA 13 (.t 8), []⟩ <|
      .op ⟨(some 10), .fieldA 2 (.t 9), []⟩ <|
      .op ⟨(some 11), .load1 (.t 10), []⟩ <|
      .op ⟨(some 13), .mov (.t 0), []⟩ <|
      .op ⟨(some 14), .mov (.t 0), []⟩ <|
      .op ⟨(some 15), .nilc (.t 14), []⟩ <|
      .op ⟨(some 16), .fieldA 13 (.t 15), []⟩ <|
      .op ⟨(some 17), .fieldA 3 (.t 16), []⟩ <|
      .op ⟨(some 18), .load1 (.t 17), []⟩ <|
      .op ⟨(some 20), .mov (.t 0), []⟩ <|
      .op ⟨(some 21), .mov (.t 0), []⟩ <|
      .op ⟨(some 22), .nilc (.t 21), []⟩ <|
      .op ⟨(some 23), .fieldA 13 (.t 22), []⟩ <|
      .op ⟨(some 24), .fieldA 4 (.t 23), []⟩ <|
      .op ⟨(some 25), .load1 (.t 24), []⟩ <|
      .op ⟨(some 12), .call 226 [(.t 6), (.t 11)], [{ g := none, op := .load1 (.t 24), d := 25 }, { g := none, op := .load1 (.t 17), d := 18 }]⟩ <|
      .op ⟨(some 19), .call 226 [(.t 13), (.t 18)], [{ g := none, op := .load1 (.t 24), d := 25 }]⟩ <|
      .op ⟨(some 26), .call 226 [(.t 20), (.t 25)], []⟩ <|
      .op ⟨(some 27), .nilc (.t 3), []⟩ <|
      .op ⟨(some 28), .fieldA 27 (.t 27), []⟩ <|
      .op ⟨none, .store 1 (.t 28) (.t 12), []⟩ <|
      .op ⟨(some 29), .nilc (.t 4), []⟩ <|
      .op ⟨(some 30), .fieldA 28 (.t 29), []⟩ <|
      .op ⟨none, .store 1 (.t 30) (.t 19), []⟩ <|
      .op ⟨(some 31), .nilc (.t 5), []⟩ <|
      .op ⟨(some 32), .fieldA 29 (.t 31), []⟩ <|
      .op ⟨none, .store 1 (.t 32) (.t 26), []⟩ <|
      .nil)) (
    .seq (.seq (.ops (
      .op ⟨(some 33), .mov (.t 0), []⟩ <|
      .op ⟨(some 34), .nilc (.t 33), []⟩ <|
      .op ⟨(some 35), .fieldA 13 (.t 34), []⟩ <|
      .op ⟨(some 36), .fieldA 0 (.t 35), []⟩ <|
      .op ⟨(some 37), .load1 (.t 36), []⟩ <|
      .nil)) (
    .block 0 (.seq (.seq (.ops (
      .op ⟨(some 39), .cmp .eql .i64 (.t 37) (.c (.int .i64 3)), []⟩ <|
      .op ⟨(some 38), .mov (.t 39), []⟩ <|
      .nil)) (
    .cond (.t 38) (.skip) (.ops (
        .op ⟨(some 40), .cmp .eql .i64 (.t 37) (.c (.int .i64 7)), []⟩ <|
        .op ⟨(some 38), .mov (.t 40), []⟩ <|
        .nil)))) (
    .cond (.t 38) (.seq (.ops (
        .op ⟨(some 41), .mov (.t 0), []⟩ <|
        .op ⟨(some 42), .nilc (.t 41), []⟩ <|
        .op ⟨(some 43), .fieldA 27 (.t 42), []⟩ <|
        .op ⟨(some 44), .load1 (.t 43), []⟩ <|
        .op ⟨(some 45), .cmp .geq .i64 (.t 44) (.c (.int .i64 0)), []⟩ <|
        .op ⟨(some 46), .mov (.t 45), []⟩ <|
        .grd 46 true [⟨(some 47), .mov (.t 0), []⟩,
            ⟨(some 48), .nilc (.t 47), []⟩,
            ⟨(some 49), .fieldA 28 (.t 48), []⟩,
            ⟨(some 50), .load1 (.t 49), []⟩,
            ⟨(some 51), .cmp .geq .i64 (.t 50) (.c (.int .i64 0)), []⟩] <|
        .op ⟨(some 52), .pick (.t 46) (.t 51) (.c (.bool false)), []⟩ <|
        .op ⟨(some 2), .mov (.t 52), []⟩ <|
        .nil)) (
      .ret)) (.seq (.ops (
        .op ⟨(some 54), .cmp .eql .i64 (.t 37) (.c (.int .i64 5)), []⟩ <|
        .op ⟨(some 53), .mov (.t 54), []⟩ <|
        .nil)) (
      .cond (.t 53) (.seq (.ops (
          .op ⟨(some 55), .mov (.t 0), []⟩ <|
          .op ⟨(some 56), .nilc (.t 55), []⟩ <|
          .op ⟨(some 57), .fieldA 27 (.t 56), []⟩ <|
          .op ⟨(some 58), .load1 (.t 57), []⟩ <|
          .op ⟨(some 59), .cmp .geq .i64 (.t 58) (.c (.int .i64 0)), []⟩ <|
          .op ⟨(some 60), .mov (.t 59), []⟩ <|
          .grd 60 true [⟨(some 61), .mov (.t 0), []⟩,
              ⟨(some 62), .nilc (.t 61), []⟩,
              ⟨(some 63), .fieldA 13 (.t 62), []⟩,
              ⟨(some 64), .fieldA 3 (.t 63), []⟩,
              ⟨(some 65), .load1 (.t 64), []⟩,
              ⟨(some 66), .cmp .eql .u64 (.t 65) (.c (.int .u64 0)), []⟩,
              ⟨(some 67), .mov (.t 66), []⟩] <|
          .grd 67 false [⟨(some 68), .mov (.t 0), []⟩,
              ⟨(some 69), .nilc (.t 68), []⟩,
              ⟨(some 70), .fieldA 28 (.t 69), []⟩,
              ⟨(some 71), .load1 (.t 70), []⟩,
              ⟨(some 72), .cmp .geq .i64 (.t 71) (.c (.int .i64 0)), []⟩] <|
          .grd 60 true [⟨(some 73), .pick (.t 67) (.c (.bool true)) (.t 72), []⟩] <|
          .op ⟨(some 74), .pick (.t 60) (.t 73) (.c (.bool false)), []⟩ <|
          .op ⟨(some 75), .mov (.t 74), []⟩ <|
          .grd 75 true [⟨(some 76), .mov (.t 0), []⟩,
              ⟨(some 77), .nilc (.t 76), []⟩,
              ⟨(some 78), .fieldA 13 (.t 77), []⟩,
              ⟨(some 79), .fieldA 4 (.t 78), []⟩,
              ⟨(some 80), .load1 (.t 79), []⟩,
              ⟨(some 81), .cmp .eql .u64 (.t 80) (.c (.int .u64 0)), []⟩,
              ⟨(some 82), .mov (.t 81), []⟩] <|
          .grd 82 false [⟨(some 83), .mov (.t 0), []⟩,
              ⟨(some 84), .nilc (.t 83), []⟩,
              ⟨(some 85), .fieldA 29 (.t 84), []⟩,
              ⟨(some 86), .load1 (.t 85), []⟩,
              ⟨(some 87), .cmp .geq .i64 (.t 86) (.c (.int .i64 0)), []⟩] <|
          .grd 75 true [⟨(some 88), .pick (.t 82) (.c (.bool true)) (.t 87), []⟩] <|
          .op ⟨(some 89), .pick (.t 75) (.t 88) (.c (.bool false)), []⟩ <|
          .op ⟨(some 2), .mov (.t 89), []⟩ <|
          .nil)) (
        .ret)) (.skip))))))) (
    .seq (.ops (
      .op ⟨(some 90), .mov (.t 0), []⟩ <|
      .op ⟨(some 91), .nilc (.t 90), []⟩ <|
      .op ⟨(some 92), .fieldA 27 (.t 91), []⟩ <|
      .op ⟨(some 93), .load1 (.t 92), []⟩ <|
      .op ⟨(some 94), .cmp .geq .i64 (.t 93) (.c (.int .i64 0)), []⟩ <|
      .op ⟨(some 2), .mov (.t 94), []⟩ <|
      .nil)) (
    .ret))))

def client_Client_held_hs : List (List Nat × List Nat) := []

end Wm.F
end

section
/- PRINTED by my tool (wip/wm/tool/Gen.lean): a function as one of my machine. -/
namespace Wm.F
open Wm
set_option maxRecDepth 100000

/-- 422: (*withy/client.Client).says -/
def client_Client_says : AFunc where
  closed := false
  nparams := 2
  ntmps := 21
  results := []
  body := .seq (.ops (
      .op ⟨(some 3), .box (.t 1), []⟩ <|
      .nil)) (
    .ops (
      .op ⟨(some 4), .mov (.t 0), []⟩ <|
      .op ⟨(some 5), .mov (.t 0), []⟩ <|
      .op ⟨(some 6), .mov (.t 0), []⟩ <|
      .op ⟨(some 7), .loadN 3 (.t 3), []⟩ <|
      .op ⟨(some 8), .mov (.t 0), []⟩ <|
      .op ⟨(some 9), .nilc (.t 8), []⟩ <|
      .op ⟨(some 10), .fieldA 7 (.t 9), []⟩ <|
      .op ⟨(some 11), .load1 (.t 10), []⟩ <|
      .op ⟨(some 12), .nilc (.t 11), []⟩ <|
      .op ⟨(some 13), .fieldA 0 (.t 12), []⟩ <|
      .op ⟨(some 14), .load1 (.t 13), []⟩ <|
      .op ⟨(some 15), .nilc (.t 4), []⟩ <|
      .op ⟨(some 16), .fieldA 18 (.t 15), []⟩ <|
      .op ⟨none, .store 3 (.t 16) (.t 7), []⟩ <|
      .op ⟨(some 17), .nilc (.t 5), []⟩ <|
      .op ⟨(some 18), .fieldA 21 (.t 17), []⟩ <|
      .op ⟨none, .store 1 (.t 18) (.t 14), []⟩ <|
      .op ⟨(some 19), .nilc (.t 6), []⟩ <|
      .op ⟨(some 20), .fieldA 22 (.t 19), []⟩ <|
      .op ⟨none, .store 1 (.t 20) (.c (.bool true)), []⟩ <|
      .nil))

def client_Client_says_hs : List (List Nat × List Nat) := []

end Wm.F
end

section
/- PRINTED by my tool (wip/wm/tool/Gen.lean): a function as one of my machine. -/
namespace Wm.F
open Wm
set_option maxRecDepth 100000

/-- 144: withy/field.NewTurn -/
def field_NewTurn : AFunc where
  closed := false
  nparams := 2
  ntmps := 15
  results := [.tmp 4]
  body := .seq (.ops (
      .op ⟨(some 2), .box (.t 0), []⟩ <|
      .op ⟨(some 4), .mov (.c .nilp), []⟩ <|
      .nil)) (
    .seq (.seq (.ops (
      .op ⟨(some 5), .loadN 6 (.t 2), []⟩ <|
      .op ⟨(some 6), .call 263 [(.t 5)], []⟩ <|
      .op ⟨(some 7), .not (.t 6), []⟩ <|
      .op ⟨(some 8), .mov (.t 7), []⟩ <|
      .grd 8 false [⟨(some 9), .mov (.t 1), []⟩,
          ⟨(some 10), .eq false .ptr (.t 9) (.c .nilp), []⟩] <|
      .op ⟨(some 11), .pick (.t 8) (.c (.bool true)) (.t 10), []⟩ <|
      .nil)) (
    .cond (.t 11) (.seq (.ops (
        .op ⟨(some 4), .mov (.c .nilp), []⟩ <|
        .nil)) (
      .ret)) (.skip))) (
    .seq (.ops (
      .op ⟨(some 12), .mov (.t 1), []⟩ <|
      .op ⟨(some 13), .build [(.int .u64 0), (.int .i64 0), .nilp, (.int .i64 0)] [(2, 1, (.t 12))], []⟩ <|
      .op ⟨(some 14), .box (.t 13), []⟩ <|
      .op ⟨(some 4), .mov (.t 14), []⟩ <|
      .nil)) (
    .ret)))

def field_NewTurn_hs : List (List Nat × List Nat) := []

end Wm.F
end

section
/- PRINTED by my tool (wip/wm/tool/Gen.lean): a function as one of my machine. -/
namespace Wm.F
open Wm
set_option maxRecDepth 100000

/-- 321: withy/plan.Start -/
def plan_Start : AFunc where
  closed := true
  nparams := 2
  ntmps := 11
  results := [.tmp 4]
  body := .seq (.ops (
      .op ⟨(some 2), .box (.t 0), []⟩ <|
      .op ⟨(some 4), .mov (.c (.int .i64 0)), []⟩ <|
      .nil)) (
    .seq (.ops (
      .op ⟨(some 5), .loadN 6 (.t 2), []⟩ <|
      .op ⟨(some 6), .mov (.t 1), []⟩ <|
      .op ⟨(some 7), .fieldA 3 (.t 2), []⟩ <|
      .op ⟨(some 8), .load1 (.t 7), []⟩ <|
      .op ⟨(some 9), .arith .add .i64 (.c (.int .i64 1)) (.t 8), []⟩ <|
      .op ⟨(some 10), .call 397 [(.t 5), (.t 6), (.t 9), (.c (.int .i64 2)), (.c (.int .i64 1))], []⟩ <|
      .op ⟨(some 4), .mov (.t 10), []⟩ <|
      .nil)) (
    .ret))

def plan_Start_hs : List (List Nat × List Nat) := []

end Wm.F
end

section
/- PRINTED by my tool (wip/wm/tool/Gen.lean): a function as one of my machine. -/
namespace Wm.F
open Wm
set_option maxRecDepth 100000

/-- 393: withy/plan.View -/
def plan_View : AFunc where
  closed := true
  nparams := 2
  ntmps := 11
  results := [.tmp 4]
  body := .seq (.ops (
      .op ⟨(some 2), .box (.t 0), []⟩ <|
      .op ⟨(some 4), .mov (.c (.int .i64 0)), []⟩ <|
      .nil)) (
    .seq (.ops (
      .op ⟨(some 5), .loadN 6 (.t 2), []⟩ <|
      .op ⟨(some 6), .mov (.t 1), []⟩ <|
      .op ⟨(some 7), .fieldA 3 (.t 2), []⟩ <|
      .op ⟨(some 8), .load1 (.t 7), []⟩ <|
      .op ⟨(some 9), .arith .add .i64 (.c (.int .i64 1)) (.t 8), []⟩ <|
      .op ⟨(some 10), .call 397 [(.t 5), (.t 6), (.t 9), (.c (.int .i64 2)), (.c (.int .i64 0))], []⟩ <|
      .op ⟨(some 4), .mov (.t 10), []⟩ <|
      .nil)) (
    .ret))

def plan_View_hs : List (List Nat × List Nat) := []

end Wm.F
end

section
/- PRINTED by my tool (wip/wm/tool/Gen.lean): a function as one of my machine. -/
namespace Wm.F
open Wm
set_option maxRecDepth 100000

/-- 423: (*withy/client.Client).first -/
def client_Client_first : AFunc where
  closed := false
  nparams := 1
  ntmps := 96
  results := []
  body := .seq (.ops (
      .op ⟨(some 2), .mov (.t 0), []⟩ <|
      .op ⟨(some 3), .nilc (.t 2), []⟩ <|
      .op ⟨(some 4), .fieldA 13 (.t 3), []⟩ <|
      .op ⟨(some 5), .fieldA 0 (.t 4), []⟩ <|
      .op ⟨(some 6), .load1 (.t 5), []⟩ <|
      .nil)) (
    .block 0 (.seq (.ops (
      .op ⟨(some 22), .cmp .eql .i64 (.t 6) (.c (.int .i64 1)), []⟩ <|
      .op ⟨(some 21), .mov (.t 22), []⟩ <|
      .nil)) (
    .cond (.t 21) (.seq (.ops (
        .op ⟨(some 23), .mov (.t 0), []⟩ <|
        .op ⟨(some 24), .mov (.t 0), []⟩ <|
        .op ⟨(some 25), .nilc (.t 24), []⟩ <|
        .op ⟨(some 26), .fieldA 0 (.t 25), []⟩ <|
        .op ⟨(some 27), .loadN 6 (.t 26), []⟩ <|
        .op ⟨(some 28), .mov (.t 0), []⟩ <|
        .op ⟨(some 29), .nilc (.t 28), []⟩ <|
        .op ⟨(some 30), .fieldA 13 (.t 29), []⟩ <|
        .op ⟨(some 31), .fieldA 1 (.t 30), []⟩ <|
        .op ⟨(some 32), .load1 (.t 31), []⟩ <|
        .op ⟨(some 33), .mov (.t 0), []⟩ <|
        .op ⟨(some 34), .nilc (.t 33), []⟩ <|
        .op ⟨(some 35), .fieldA 26 (.t 34), []⟩ <|
        .op ⟨(some 36), .load1 (.t 35), []⟩ <|
        .op ⟨(some 37), .call 464 [(.t 27), (.c (.int .i64 1)), (.t 32), (.t 36), (.c .nilsl)], []⟩ <|
        .op ⟨(some 38), .nilc (.t 23), []⟩ <|
        .op ⟨(some 39), .fieldA 33 (.t 38), []⟩ <|
        .op ⟨none, .store 1 (.t 39) (.t 37), []⟩ <|
        .nil)) (
      .ops (
        .op ⟨(some 40), .mov (.t 0), []⟩ <|
        .op ⟨(some 41), .mov (.t 0), []⟩ <|
        .op ⟨(some 42), .mov (.t 0), []⟩ <|
        .op ⟨(some 43), .nilc (.t 42), []⟩ <|
        .op ⟨(some 44), .fieldA 33 (.t 43), []⟩ <|
        .op ⟨(some 45), .load1 (.t 44), []⟩ <|
        .op ⟨(some 46), .mkIfc 389 (.t 45), []⟩ <|
        .op ⟨(some 47), .nilc (.t 40), []⟩ <|
        .op ⟨(some 48), .fieldA 25 (.t 47), []⟩ <|
        .op ⟨none, .store 1 (.t 48) (.t 46), []⟩ <|
        .op ⟨(some 49), .nilc (.t 41), []⟩ <|
        .op ⟨(some 50), .fieldA 24 (.t 49), []⟩ <|
        .op ⟨none, .store 1 (.t 50) (.c (.int .i64 4)), []⟩ <|
        .nil))) (.seq (.ops (
        .op ⟨(some 52), .cmp .eql .i64 (.t 6) (.c (.int .i64 6)), []⟩ <|
        .op ⟨(some 51), .mov (.t 52), []⟩ <|
        .nil)) (
      .cond (.t 51) (.ops (
          .op ⟨(some 53), .mov (.t 0), []⟩ <|
          .op ⟨(some 54), .mov (.t 0), []⟩ <|
          .op ⟨(some 55), .nilc (.t 54), []⟩ <|
          .op ⟨(some 56), .fieldA 27 (.t 55), []⟩ <|
          .op ⟨(some 57), .load1 (.t 56), []⟩ <|
          .op ⟨(some 58), .call 465 [(.t 53), (.t 57)], []⟩ <|
          .nil)) (.seq (.ops (
          .op ⟨(some 60), .cmp .eql .i64 (.t 6) (.c (.int .i64 8)), []⟩ <|
          .op ⟨(some 59), .mov (.t 60), []⟩ <|
          .nil)) (
        .cond (.t 59) (.seq (.ops (
            .op ⟨(some 61), .mov (.t 0), []⟩ <|
            .op ⟨(some 62), .mov (.t 0), []⟩ <|
            .op ⟨(some 63), .nilc (.t 62), []⟩ <|
            .op ⟨(some 64), .fieldA 0 (.t 63), []⟩ <|
            .op ⟨(some 65), .loadN 6 (.t 64), []⟩ <|
            .op ⟨(some 66), .mov (.t 0), []⟩ <|
            .op ⟨(some 67), .nilc (.t 66), []⟩ <|
            .op ⟨(some 68), .fieldA 6 (.t 67), []⟩ <|
            .op ⟨(some 69), .load1 (.t 68), []⟩ <|
            .op ⟨(some 70), .call 393 [(.t 65), (.t 69)], []⟩ <|
            .op ⟨(some 71), .call 429 [(.t 61), (.t 70), (.c (.int .u64 1))], []⟩ <|
            .nil)) (
          .ops (
            .op ⟨(some 72), .mov (.t 0), []⟩ <|
            .op ⟨(some 73), .nilc (.t 72), []⟩ <|
            .op ⟨(some 74), .fieldA 24 (.t 73), []⟩ <|
            .op ⟨none, .store 1 (.t 74) (.c (.int .i64 7)), []⟩ <|
            .nil))) (.seq (.ops (
            .op ⟨(some 76), .cmp .eql .i64 (.t 6) (.c (.int .i64 9)), []⟩ <|
            .op ⟨(some 75), .mov (.t 76), []⟩ <|
            .nil)) (
          .cond (.t 75) (.ops (
              .op ⟨(some 77), .mov (.t 0), []⟩ <|
              .op ⟨(some 78), .mov (.t 0), []⟩ <|
              .op ⟨(some 79), .mov (.t 0), []⟩ <|
              .op ⟨(some 80), .nilc (.t 79), []⟩ <|
              .op ⟨(some 81), .fieldA 9 (.t 80), []⟩ <|
              .op ⟨(some 82), .load1 (.t 81), []⟩ <|
              .op ⟨(some 83), .mkIfc 181 (.t 82), []⟩ <|
              .op ⟨(some 84), .nilc (.t 77), []⟩ <|
              .op ⟨(some 85), .fieldA 25 (.t 84), []⟩ <|
              .op ⟨none, .store 1 (.t 85) (.t 83), []⟩ <|
              .op ⟨(some 86), .nilc (.t 78), []⟩ <|
              .op ⟨(some 87), .fieldA 24 (.t 86), []⟩ <|
              .op ⟨none, .store 1 (.t 87) (.c (.int .i64 20)), []⟩ <|
              .nil)) (.seq (.ops (
              .op ⟨(some 89), .cmp .eql .i64 (.t 6) (.c (.int .i64 10)), []⟩ <|
              .op ⟨(some 88), .mov (.t 89), []⟩ <|
              .nil)) (
            .cond (.t 88) (.ops (
                .op ⟨(some 90), .mov (.t 0), []⟩ <|
                .op ⟨(some 91), .mov (.t 0), []⟩ <|
                .op ⟨(some 92), .nilc (.t 91), []⟩ <|
                .op ⟨(some 93), .fieldA 10 (.t 92), []⟩ <|
                .op ⟨(some 94), .load1 (.t 93), []⟩ <|
                .op ⟨(some 95), .call 465 [(.t 90), (.t 94)], []⟩ <|
                .nil)) (.seq (.ops (
                .op ⟨(some 7), .mov (.t 0), []⟩ <|
                .op ⟨(some 8), .mov (.t 0), []⟩ <|
                .op ⟨(some 9), .nilc (.t 8), []⟩ <|
                .op ⟨(some 10), .fieldA 0 (.t 9), []⟩ <|
                .op ⟨(some 11), .loadN 6 (.t 10), []⟩ <|
                .op ⟨(some 12), .mov (.t 0), []⟩ <|
                .op ⟨(some 13), .nilc (.t 12), []⟩ <|
                .op ⟨(some 14), .fieldA 27 (.t 13), []⟩ <|
                .op ⟨(some 15), .load1 (.t 14), []⟩ <|
                .op ⟨(some 16), .call 261 [(.t 11), (.t 15)], []⟩ <|
                .op ⟨(some 17), .call 466 [(.t 7), (.t 16)], []⟩ <|
                .nil)) (
              .ops (
                .op ⟨(some 18), .mov (.t 0), []⟩ <|
                .op ⟨(some 19), .nilc (.t 18), []⟩ <|
                .op ⟨(some 20), .fieldA 24 (.t 19), []⟩ <|
                .op ⟨none, .store 1 (.t 20) (.c (.int .i64 2)), []⟩ <|
                .nil))))))))))))))

def client_Client_first_hs : List (List Nat × List Nat) := []

end Wm.F
end

section
/- PRINTED by my tool (wip/wm/tool/Gen.lean): a function as one of my machine. -/
namespace Wm.F
open Wm
set_option maxRecDepth 100000

/-- 424: (*withy/client.Client).field -/
def client_Client_field : AFunc where
  closed := false
  nparams := 1
  ntmps := 85
  results := []
  body := .seq (.ops (
      .op ⟨(some 5), .mov (.t 0), []⟩ <|
      .op ⟨(some 6), .nilc (.t 5), []⟩ <|
      .op ⟨(some 7), .fieldA 32 (.t 6), []⟩ <|
      .op ⟨(some 8), .load1 (.t 7), []⟩ <|
      .op ⟨(some 9), .nilc (.t 8), []⟩ <|
      .op ⟨(some 10), .fieldA 1 (.t 9), []⟩ <|
      .op ⟨(some 11), .load1 (.t 10), []⟩ <|
      .op ⟨(some 12), .call 265 [(.t 11)], []⟩ <|
      .op ⟨(some 4), .mov (.t 12), []⟩ <|
      .op ⟨(some 13), .extract (.t 4) 0, []⟩ <|
      .op ⟨(some 14), .extract (.t 4) 1, []⟩ <|
      .op ⟨(some 2), .alloc [(.int .i64 0), (.int .i64 0), (.bool false), (.int .i64 0), (.int .i64 0), (.int .i64 0)], []⟩ <|
      .op ⟨none, .store 6 (.t 2) (.t 13), []⟩ <|
      .op ⟨(some 3), .mov (.t 14), []⟩ <|
      .nil)) (
    .block 0 (.seq (.ops (
      .op ⟨(some 18), .mov (.t 0), []⟩ <|
      .op ⟨(some 19), .nilc (.t 18), []⟩ <|
      .op ⟨(some 20), .fieldA 13 (.t 19), []⟩ <|
      .op ⟨(some 21), .fieldA 1 (.t 20), []⟩ <|
      .op ⟨(some 22), .load1 (.t 21), []⟩ <|
      .op ⟨(some 23), .cmp .lss .i64 (.t 22) (.c (.int .i64 0)), []⟩ <|
      .op ⟨(some 24), .mov (.t 23), []⟩ <|
      .grd 24 false [⟨(some 25), .mov (.t 0), []⟩,
          ⟨(some 26), .nilc (.t 25), []⟩,
          ⟨(some 27), .fieldA 13 (.t 26), []⟩,
          ⟨(some 28), .fieldA 1 (.t 27), []⟩,
          ⟨(some 29), .load1 (.t 28), []⟩,
          ⟨(some 30), .fieldA 3 (.t 2), []⟩,
          ⟨(some 31), .load1 (.t 30), []⟩,
          ⟨(some 32), .cmp .geq .i64 (.t 29) (.t 31), []⟩] <|
      .op ⟨(some 33), .pick (.t 24) (.c (.bool true)) (.t 32), []⟩ <|
      .op ⟨(some 17), .mov (.t 33), []⟩ <|
      .nil)) (
    .cond (.t 17) (.seq (.ops (
        .op ⟨(some 34), .mov (.t 0), []⟩ <|
        .op ⟨(some 35), .call 419 [(.t 34), (.c (.int .i64 3))], []⟩ <|
        .nil)) (
      .ops (
        .op ⟨(some 36), .mov (.t 0), []⟩ <|
        .op ⟨(some 37), .call 427 [(.t 36)], []⟩ <|
        .nil))) (.seq (.ops (
        .op ⟨(some 39), .mov (.t 0), []⟩ <|
        .op ⟨(some 40), .nilc (.t 39), []⟩ <|
        .op ⟨(some 41), .fieldA 13 (.t 40), []⟩ <|
        .op ⟨(some 42), .fieldA 0 (.t 41), []⟩ <|
        .op ⟨(some 43), .load1 (.t 42), []⟩ <|
        .op ⟨(some 44), .cmp .eql .i64 (.t 43) (.c (.int .i64 2)), []⟩ <|
        .op ⟨(some 45), .mov (.t 44), []⟩ <|
        .grd 45 false [⟨(some 46), .mov (.t 0), []⟩,
            ⟨(some 47), .nilc (.t 46), []⟩,
            ⟨(some 48), .fieldA 13 (.t 47), []⟩,
            ⟨(some 49), .fieldA 0 (.t 48), []⟩,
            ⟨(some 50), .load1 (.t 49), []⟩,
            ⟨(some 51), .cmp .eql .i64 (.t 50) (.c (.int .i64 5)), []⟩] <|
        .op ⟨(some 52), .pick (.t 45) (.c (.bool true)) (.t 51), []⟩ <|
        .op ⟨(some 38), .mov (.t 52), []⟩ <|
        .nil)) (
      .cond (.t 38) (.seq (.ops (
          .op ⟨(some 53), .mov (.t 0), []⟩ <|
          .op ⟨(some 54), .mov (.t 0), []⟩ <|
          .op ⟨(some 55), .nilc (.t 54), []⟩ <|
          .op ⟨(some 56), .fieldA 0 (.t 55), []⟩ <|
          .op ⟨(some 57), .loadN 6 (.t 56), []⟩ <|
          .op ⟨(some 58), .mov (.t 0), []⟩ <|
          .op ⟨(some 59), .nilc (.t 58), []⟩ <|
          .op ⟨(some 60), .fieldA 27 (.t 59), []⟩ <|
          .op ⟨(some 61), .load1 (.t 60), []⟩ <|
          .op ⟨(some 62), .mov (.t 0), []⟩ <|
          .op ⟨(some 63), .nilc (.t 62), []⟩ <|
          .op ⟨(some 64), .fieldA 13 (.t 63), []⟩ <|
          .op ⟨(some 65), .fieldA 1 (.t 64), []⟩ <|
          .op ⟨(some 66), .load1 (.t 65), []⟩ <|
          .op ⟨(some 67), .mov (.t 0), []⟩ <|
          .op ⟨(some 68), .nilc (.t 67), []⟩ <|
          .op ⟨(some 69), .fieldA 7 (.t 68), []⟩ <|
          .op ⟨(some 70), .load1 (.t 69), []⟩ <|
          .op ⟨(some 71), .call 127 [(.t 57), (.t 61), (.t 66), (.t 70)], []⟩ <|
          .op ⟨(some 72), .nilc (.t 53), []⟩ <|
          .op ⟨(some 73), .fieldA 34 (.t 72), []⟩ <|
          .op ⟨none, .store 1 (.t 73) (.t 71), []⟩ <|
          .nil)) (
        .ops (
          .op ⟨(some 74), .mov (.t 0), []⟩ <|
          .op ⟨(some 75), .mov (.t 0), []⟩ <|
          .op ⟨(some 76), .mov (.t 0), []⟩ <|
          .op ⟨(some 77), .nilc (.t 76), []⟩ <|
          .op ⟨(some 78), .fieldA 34 (.t 77), []⟩ <|
          .op ⟨(some 79), .load1 (.t 78), []⟩ <|
          .op ⟨(some 80), .mkIfc 115 (.t 79), []⟩ <|
          .op ⟨(some 81), .nilc (.t 74), []⟩ <|
          .op ⟨(some 82), .fieldA 25 (.t 81), []⟩ <|
          .op ⟨none, .store 1 (.t 82) (.t 80), []⟩ <|
          .op ⟨(some 83), .nilc (.t 75), []⟩ <|
          .op ⟨(some 84), .fieldA 24 (.t 83), []⟩ <|
          .op ⟨none, .store 1 (.t 84) (.c (.int .i64 3)), []⟩ <|
          .nil))) (.ops (
          .op ⟨(some 15), .mov (.t 0), []⟩ <|
          .op ⟨(some 16), .call 467 [(.t 15)], []⟩ <|
          .nil)))))))

def client_Client_field_hs : List (List Nat × List Nat) := []

end Wm.F
end

section
/- PRINTED by my tool (wip/wm/tool/Gen.lean): a function as one of my machine. -/
namespace Wm.F
open Wm
set_option maxRecDepth 100000

/-- 425: (*withy/client.Client).told -/
def client_Client_told : AFunc where
  closed := false
  nparams := 1
  ntmps := 90
  results := []
  body := .seq (.ops (
      .op ⟨(some 2), .mov (.t 0), []⟩ <|
      .op ⟨(some 3), .mov (.t 0), []⟩ <|
      .op ⟨(some 4), .mov (.t 0), []⟩ <|
      .op ⟨(some 5), .build [(.int .i64 0), (.int .u64 0), (.bool false)] [], []⟩ <|
      .op ⟨(some 6), .mov (.t 0), []⟩ <|
      .op ⟨(some 7), .nilc (.t 6), []⟩ <|
      .op ⟨(some 8), .fieldA 34 (.t 7), []⟩ <|
      .op ⟨(some 9), .load1 (.t 8), []⟩ <|
      .op ⟨(some 10), .nilc (.t 9), []⟩ <|
      .op ⟨(some 11), .fieldA 2 (.t 10), []⟩ <|
      .op ⟨(some 12), .load1 (.t 11), []⟩ <|
      .op ⟨(some 13), .nilc (.t 2), []⟩ <|
      .op ⟨(some 14), .fieldA 18 (.t 13), []⟩ <|
      .op ⟨none, .store 3 (.t 14) (.t 5), []⟩ <|
      .op ⟨(some 15), .nilc (.t 3), []⟩ <|
      .op ⟨(some 16), .fieldA 21 (.t 15), []⟩ <|
      .op ⟨none, .store 1 (.t 16) (.t 12), []⟩ <|
      .op ⟨(some 17), .nilc (.t 4), []⟩ <|
      .op ⟨(some 18), .fieldA 22 (.t 17), []⟩ <|
      .op ⟨none, .store 1 (.t 18) (.c (.bool true)), []⟩ <|
      .nil)) (
    .block 0 (.seq (.ops (
      .op ⟨(some 36), .mov (.t 0), []⟩ <|
      .op ⟨(some 37), .nilc (.t 36), []⟩ <|
      .op ⟨(some 38), .fieldA 13 (.t 37), []⟩ <|
      .op ⟨(some 39), .fieldA 0 (.t 38), []⟩ <|
      .op ⟨(some 40), .load1 (.t 39), []⟩ <|
      .op ⟨(some 41), .cmp .eql .i64 (.t 40) (.c (.int .i64 5)), []⟩ <|
      .op ⟨(some 42), .mov (.t 41), []⟩ <|
      .grd 42 true [⟨(some 43), .mov (.t 0), []⟩,
          ⟨(some 44), .nilc (.t 43), []⟩,
          ⟨(some 45), .fieldA 34 (.t 44), []⟩,
          ⟨(some 46), .load1 (.t 45), []⟩,
          ⟨(some 47), .nilc (.t 46), []⟩,
          ⟨(some 48), .fieldA 1 (.t 47), []⟩,
          ⟨(some 49), .load1 (.t 48), []⟩,
          ⟨(some 50), .mov (.t 0), []⟩,
          ⟨(some 51), .nilc (.t 50), []⟩,
          ⟨(some 52), .fieldA 29 (.t 51), []⟩,
          ⟨(some 53), .load1 (.t 52), []⟩,
          ⟨(some 54), .cmp .eql .i64 (.t 49) (.t 53), []⟩] <|
      .op ⟨(some 55), .pick (.t 42) (.t 54) (.c (.bool false)), []⟩ <|
      .op ⟨(some 35), .mov (.t 55), []⟩ <|
      .nil)) (
    .cond (.t 35) (.ops (
        .op ⟨(some 56), .mov (.t 0), []⟩ <|
        .op ⟨(some 57), .call 467 [(.t 56)], []⟩ <|
        .nil)) (.seq (.ops (
        .op ⟨(some 59), .mov (.t 0), []⟩ <|
        .op ⟨(some 60), .nilc (.t 59), []⟩ <|
        .op ⟨(some 61), .fieldA 13 (.t 60), []⟩ <|
        .op ⟨(some 62), .fieldA 0 (.t 61), []⟩ <|
        .op ⟨(some 63), .load1 (.t 62), []⟩ <|
        .op ⟨(some 64), .cmp .eql .i64 (.t 63) (.c (.int .i64 5)), []⟩ <|
        .op ⟨(some 65), .mov (.t 64), []⟩ <|
        .grd 65 false [⟨(some 66), .mov (.t 0), []⟩,
            ⟨(some 67), .nilc (.t 66), []⟩,
            ⟨(some 68), .fieldA 34 (.t 67), []⟩,
            ⟨(some 69), .load1 (.t 68), []⟩,
            ⟨(some 70), .nilc (.t 69), []⟩,
            ⟨(some 71), .fieldA 1 (.t 70), []⟩,
            ⟨(some 72), .load1 (.t 71), []⟩,
            ⟨(some 73), .cmp .lss .i64 (.t 72) (.c (.int .i64 0)), []⟩] <|
        .op ⟨(some 74), .pick (.t 65) (.c (.bool true)) (.t 73), []⟩ <|
        .op ⟨(some 58), .mov (.t 74), []⟩ <|
        .nil)) (
      .cond (.t 58) (.ops (
          .op ⟨(some 75), .mov (.t 0), []⟩ <|
          .op ⟨(some 76), .call 427 [(.t 75)], []⟩ <|
          .nil)) (.seq (.ops (
          .op ⟨(some 78), .mov (.t 0), []⟩ <|
          .op ⟨(some 79), .nilc (.t 78), []⟩ <|
          .op ⟨(some 80), .fieldA 8 (.t 79), []⟩ <|
          .op ⟨(some 81), .load1 (.t 80), []⟩ <|
          .op ⟨(some 82), .call 420 [(.t 81)], []⟩ <|
          .op ⟨(some 83), .not (.t 82), []⟩ <|
          .op ⟨(some 77), .mov (.t 83), []⟩ <|
          .nil)) (
        .cond (.t 77) (.seq (.ops (
            .op ⟨(some 84), .mov (.t 0), []⟩ <|
            .op ⟨(some 85), .nilc (.t 84), []⟩ <|
            .op ⟨(some 86), .fieldA 18 (.t 85), []⟩ <|
            .op ⟨(some 87), .fieldA 0 (.t 86), []⟩ <|
            .op ⟨none, .store 1 (.t 87) (.c (.int .i64 5)), []⟩ <|
            .nil)) (
          .ops (
            .op ⟨(some 88), .mov (.t 0), []⟩ <|
            .op ⟨(some 89), .call 427 [(.t 88)], []⟩ <|
            .nil))) (.seq (.ops (
            .op ⟨(some 19), .mov (.t 0), []⟩ <|
            .op ⟨(some 20), .mov (.t 0), []⟩ <|
            .op ⟨(some 21), .mov (.t 0), []⟩ <|
            .op ⟨(some 22), .nilc (.t 21), []⟩ <|
            .op ⟨(some 23), .fieldA 34 (.t 22), []⟩ <|
            .op ⟨(some 24), .load1 (.t 23), []⟩ <|
            .op ⟨(some 25), .nilc (.t 24), []⟩ <|
            .op ⟨(some 26), .fieldA 1 (.t 25), []⟩ <|
            .op ⟨(some 27), .load1 (.t 26), []⟩ <|
            .op ⟨(some 28), .call 468 [(.t 20), (.t 27)], []⟩ <|
            .op ⟨(some 29), .nilc (.t 19), []⟩ <|
            .op ⟨(some 30), .fieldA 18 (.t 29), []⟩ <|
            .op ⟨(some 31), .fieldA 1 (.t 30), []⟩ <|
            .op ⟨none, .store 1 (.t 31) (.t 28), []⟩ <|
            .nil)) (
          .ops (
            .op ⟨(some 32), .mov (.t 0), []⟩ <|
            .op ⟨(some 33), .nilc (.t 32), []⟩ <|
            .op ⟨(some 34), .fieldA 24 (.t 33), []⟩ <|
            .op ⟨none, .store 1 (.t 34) (.c (.int .i64 19)), []⟩ <|
            .nil))))))))))

def client_Client_told_hs : List (List Nat × List Nat) := []

end Wm.F
end

section
/- PRINTED by my tool (wip/wm/tool/Gen.lean): a function as one of my machine. -/
namespace Wm.F
open Wm
set_option maxRecDepth 100000

/-- 426: (*withy/client.Client).had -/
def client_Client_had : AFunc where
  closed := false
  nparams := 1
  ntmps := 114
  results := []
  body := .block 0 (.seq (.ops (
      .op ⟨(some 58), .mov (.t 0), []⟩ <|
      .op ⟨(some 59), .nilc (.t 58), []⟩ <|
      .op ⟨(some 60), .fieldA 33 (.t 59), []⟩ <|
      .op ⟨(some 61), .load1 (.t 60), []⟩ <|
      .op ⟨(some 62), .nilc (.t 61), []⟩ <|
      .op ⟨(some 63), .fieldA 1 (.t 62), []⟩ <|
      .op ⟨(some 64), .load1 (.t 63), []⟩ <|
      .op ⟨(some 65), .mov (.t 64), []⟩ <|
      .grd 65 true [⟨(some 66), .mov (.t 0), []⟩,
          ⟨(some 67), .nilc (.t 66), []⟩,
          ⟨(some 68), .fieldA 13 (.t 67), []⟩,
          ⟨(some 69), .fieldA 0 (.t 68), []⟩,
          ⟨(some 70), .load1 (.t 69), []⟩,
          ⟨(some 71), .cmp .eql .i64 (.t 70) (.c (.int .i64 5)), []⟩] <|
      .op ⟨(some 72), .pick (.t 65) (.t 71) (.c (.bool false)), []⟩ <|
      .op ⟨(some 57), .mov (.t 72), []⟩ <|
      .nil)) (
    .cond (.t 57) (.seq (.ops (
        .op ⟨(some 73), .mov (.t 0), []⟩ <|
        .op ⟨(some 74), .build [(.int .i64 0), (.int .u64 0), (.bool false)] [(0, 1, (.c (.int .i64 4)))], []⟩ <|
        .op ⟨(some 75), .nilc (.t 73), []⟩ <|
        .op ⟨(some 76), .fieldA 18 (.t 75), []⟩ <|
        .op ⟨none, .store 3 (.t 76) (.t 74), []⟩ <|
        .nil)) (
      .ops (
        .op ⟨(some 77), .mov (.t 0), []⟩ <|
        .op ⟨(some 78), .call 427 [(.t 77)], []⟩ <|
        .nil))) (.seq (.ops (
        .op ⟨(some 80), .mov (.t 0), []⟩ <|
        .op ⟨(some 81), .nilc (.t 80), []⟩ <|
        .op ⟨(some 82), .fieldA 33 (.t 81), []⟩ <|
        .op ⟨(some 83), .load1 (.t 82), []⟩ <|
        .op ⟨(some 84), .nilc (.t 83), []⟩ <|
        .op ⟨(some 85), .fieldA 1 (.t 84), []⟩ <|
        .op ⟨(some 86), .load1 (.t 85), []⟩ <|
        .op ⟨(some 79), .mov (.t 86), []⟩ <|
        .nil)) (
      .cond (.t 79) (.seq (.ops (
          .op ⟨(some 87), .mov (.t 0), []⟩ <|
          .op ⟨(some 88), .call 419 [(.t 87), (.c (.int .i64 4))], []⟩ <|
          .nil)) (
        .ops (
          .op ⟨(some 89), .mov (.t 0), []⟩ <|
          .op ⟨(some 90), .call 427 [(.t 89)], []⟩ <|
          .nil))) (.seq (.ops (
          .op ⟨(some 92), .mov (.t 0), []⟩ <|
          .op ⟨(some 93), .nilc (.t 92), []⟩ <|
          .op ⟨(some 94), .fieldA 13 (.t 93), []⟩ <|
          .op ⟨(some 95), .fieldA 0 (.t 94), []⟩ <|
          .op ⟨(some 96), .load1 (.t 95), []⟩ <|
          .op ⟨(some 97), .cmp .eql .i64 (.t 96) (.c (.int .i64 1)), []⟩ <|
          .op ⟨(some 91), .mov (.t 97), []⟩ <|
          .nil)) (
        .cond (.t 91) (.seq (.ops (
            .op ⟨(some 98), .mov (.t 0), []⟩ <|
            .op ⟨(some 99), .mov (.t 0), []⟩ <|
            .op ⟨(some 100), .mov (.t 0), []⟩ <|
            .op ⟨(some 101), .nilc (.t 100), []⟩ <|
            .op ⟨(some 102), .fieldA 33 (.t 101), []⟩ <|
            .op ⟨(some 103), .load1 (.t 102), []⟩ <|
            .op ⟨(some 104), .nilc (.t 103), []⟩ <|
            .op ⟨(some 105), .fieldA 0 (.t 104), []⟩ <|
            .op ⟨(some 106), .load1 (.t 105), []⟩ <|
            .op ⟨(some 107), .call 468 [(.t 99), (.t 106)], []⟩ <|
            .op ⟨(some 108), .build [(.int .i64 0), (.int .u64 0), (.bool false)] [(1, 1, (.t 107))], []⟩ <|
            .op ⟨(some 109), .nilc (.t 98), []⟩ <|
            .op ⟨(some 110), .fieldA 18 (.t 109), []⟩ <|
            .op ⟨none, .store 3 (.t 110) (.t 108), []⟩ <|
            .nil)) (
          .ops (
            .op ⟨(some 111), .mov (.t 0), []⟩ <|
            .op ⟨(some 112), .nilc (.t 111), []⟩ <|
            .op ⟨(some 113), .fieldA 24 (.t 112), []⟩ <|
            .op ⟨none, .store 1 (.t 113) (.c (.int .i64 19)), []⟩ <|
            .nil))) (.seq (.ops (
            .op ⟨(some 2), .mov (.c (.int .i64 (-2))), []⟩ <|
            .nil)) (
          .seq (.seq (.ops (
            .op ⟨(some 3), .mov (.t 0), []⟩ <|
            .op ⟨(some 4), .nilc (.t 3), []⟩ <|
            .op ⟨(some 5), .fieldA 13 (.t 4), []⟩ <|
            .op ⟨(some 6), .fieldA 0 (.t 5), []⟩ <|
            .op ⟨(some 7), .load1 (.t 6), []⟩ <|
            .op ⟨(some 8), .cmp .eql .i64 (.t 7) (.c (.int .i64 5)), []⟩ <|
            .nil)) (
          .cond (.t 8) (.ops (
              .op ⟨(some 9), .mov (.t 0), []⟩ <|
              .op ⟨(some 10), .nilc (.t 9), []⟩ <|
              .op ⟨(some 11), .fieldA 29 (.t 10), []⟩ <|
              .op ⟨(some 12), .load1 (.t 11), []⟩ <|
              .op ⟨(some 2), .mov (.t 12), []⟩ <|
              .nil)) (.skip))) (
          .seq (.ops (
            .op ⟨(some 13), .mov (.t 0), []⟩ <|
            .op ⟨(some 14), .mov (.t 0), []⟩ <|
            .op ⟨(some 15), .nilc (.t 14), []⟩ <|
            .op ⟨(some 16), .fieldA 0 (.t 15), []⟩ <|
            .op ⟨(some 17), .loadN 6 (.t 16), []⟩ <|
            .op ⟨(some 18), .mov (.t 0), []⟩ <|
            .op ⟨(some 19), .nilc (.t 18), []⟩ <|
            .op ⟨(some 20), .fieldA 27 (.t 19), []⟩ <|
            .op ⟨(some 21), .load1 (.t 20), []⟩ <|
            .op ⟨(some 22), .mov (.t 0), []⟩ <|
            .op ⟨(some 23), .nilc (.t 22), []⟩ <|
            .op ⟨(some 24), .fieldA 13 (.t 23), []⟩ <|
            .op ⟨(some 25), .fieldA 1 (.t 24), []⟩ <|
            .op ⟨(some 26), .load1 (.t 25), []⟩ <|
            .op ⟨(some 27), .mov (.t 0), []⟩ <|
            .op ⟨(some 28), .nilc (.t 27), []⟩ <|
            .op ⟨(some 29), .fieldA 33 (.t 28), []⟩ <|
            .op ⟨(some 30), .load1 (.t 29), []⟩ <|
            .op ⟨(some 31), .nilc (.t 30), []⟩ <|
            .op ⟨(some 32), .fieldA 0 (.t 31), []⟩ <|
            .op ⟨(some 33), .load1 (.t 32), []⟩ <|
            .op ⟨(some 34), .mov (.t 2), []⟩ <|
            .op ⟨(some 35), .mov (.t 0), []⟩ <|
            .op ⟨(some 36), .nilc (.t 35), []⟩ <|
            .op ⟨(some 37), .fieldA 26 (.t 36), []⟩ <|
            .op ⟨(some 38), .load1 (.t 37), []⟩ <|
            .op ⟨(some 39), .mov (.t 0), []⟩ <|
            .op ⟨(some 40), .nilc (.t 39), []⟩ <|
            .op ⟨(some 41), .fieldA 7 (.t 40), []⟩ <|
            .op ⟨(some 42), .load1 (.t 41), []⟩ <|
            .op ⟨(some 43), .call 132 [(.t 17), (.t 21), (.t 26), (.t 33), (.t 34), (.t 38), (.t 42)], []⟩ <|
            .op ⟨(some 44), .nilc (.t 13), []⟩ <|
            .op ⟨(some 45), .fieldA 35 (.t 44), []⟩ <|
            .op ⟨none, .store 1 (.t 45) (.t 43), []⟩ <|
            .nil)) (
          .ops (
            .op ⟨(some 46), .mov (.t 0), []⟩ <|
            .op ⟨(some 47), .mov (.t 0), []⟩ <|
            .op ⟨(some 48), .mov (.t 0), []⟩ <|
            .op ⟨(some 49), .nilc (.t 48), []⟩ <|
            .op ⟨(some 50), .fieldA 35 (.t 49), []⟩ <|
            .op ⟨(some 51), .load1 (.t 50), []⟩ <|
            .op ⟨(some 52), .mkIfc 126 (.t 51), []⟩ <|
            .op ⟨(some 53), .nilc (.t 46), []⟩ <|
            .op ⟨(some 54), .fieldA 25 (.t 53), []⟩ <|
            .op ⟨none, .store 1 (.t 54) (.t 52), []⟩ <|
            .op ⟨(some 55), .nilc (.t 47), []⟩ <|
            .op ⟨(some 56), .fieldA 24 (.t 55), []⟩ <|
            .op ⟨none, .store 1 (.t 56) (.c (.int .i64 5)), []⟩ <|
            .nil)))))))))))

def client_Client_had_hs : List (List Nat × List Nat) := []

end Wm.F
end

section
/- PRINTED by my tool (wip/wm/tool/Gen.lean): a function as one of my machine. -/
namespace Wm.F
open Wm
set_option maxRecDepth 100000

/-- 427: (*withy/client.Client).leave -/
def client_Client_leave : AFunc where
  closed := false
  nparams := 1
  ntmps := 18
  results := []
  body := .ops (
      .op ⟨(some 2), .mov (.t 0), []⟩ <|
      .op ⟨(some 3), .mov (.t 0), []⟩ <|
      .op ⟨(some 4), .mov (.t 0), []⟩ <|
      .op ⟨(some 5), .nilc (.t 4), []⟩ <|
      .op ⟨(some 6), .fieldA 0 (.t 5), []⟩ <|
      .op ⟨(some 7), .loadN 6 (.t 6), []⟩ <|
      .op ⟨(some 8), .mov (.t 0), []⟩ <|
      .op ⟨(some 9), .nilc (.t 8), []⟩ <|
      .op ⟨(some 10), .fieldA 6 (.t 9), []⟩ <|
      .op ⟨(some 11), .load1 (.t 10), []⟩ <|
      .op ⟨(some 12), .call 469 [(.t 7), (.t 11)], []⟩ <|
      .op ⟨(some 13), .mkIfc 484 (.t 12), []⟩ <|
      .op ⟨(some 14), .nilc (.t 2), []⟩ <|
      .op ⟨(some 15), .fieldA 25 (.t 14), []⟩ <|
      .op ⟨none, .store 1 (.t 15) (.t 13), []⟩ <|
      .op ⟨(some 16), .nilc (.t 3), []⟩ <|
      .op ⟨(some 17), .fieldA 24 (.t 16), []⟩ <|
      .op ⟨none, .store 1 (.t 17) (.c (.int .i64 12)), []⟩ <|
      .nil)

def client_Client_leave_hs : List (List Nat × List Nat) := []

end Wm.F
end

section
/- PRINTED by my tool (wip/wm/tool/Gen.lean): a function as one of my machine. -/
namespace Wm.F
open Wm
set_option maxRecDepth 100000

/-- 428: (*withy/client.Client).drop -/
def client_Client_drop : AFunc where
  closed := false
  nparams := 1
  ntmps := 70
  results := []
  body := .seq (.seq (.ops (
      .op ⟨(some 5), .mov (.t 0), []⟩ <|
      .op ⟨(some 6), .nilc (.t 5), []⟩ <|
      .op ⟨(some 7), .fieldA 13 (.t 6), []⟩ <|
      .op ⟨(some 8), .fieldA 0 (.t 7), []⟩ <|
      .op ⟨(some 9), .load1 (.t 8), []⟩ <|
      .op ⟨(some 10), .cmp .eql .i64 (.t 9) (.c (.int .i64 10)), []⟩ <|
      .nil)) (
    .cond (.t 10) (.seq (.ops (
        .op ⟨(some 11), .mov (.t 0), []⟩ <|
        .op ⟨(some 12), .mov (.t 0), []⟩ <|
        .op ⟨(some 13), .nilc (.t 12), []⟩ <|
        .op ⟨(some 14), .fieldA 0 (.t 13), []⟩ <|
        .op ⟨(some 15), .loadN 6 (.t 14), []⟩ <|
        .op ⟨(some 16), .mov (.t 0), []⟩ <|
        .op ⟨(some 17), .nilc (.t 16), []⟩ <|
        .op ⟨(some 18), .fieldA 6 (.t 17), []⟩ <|
        .op ⟨(some 19), .load1 (.t 18), []⟩ <|
        .op ⟨(some 20), .call 321 [(.t 15), (.t 19)], []⟩ <|
        .op ⟨(some 21), .call 429 [(.t 11), (.t 20), (.c (.int .u64 0))], []⟩ <|
        .nil)) (
      .seq (.ops (
        .op ⟨(some 22), .mov (.t 0), []⟩ <|
        .op ⟨(some 23), .nilc (.t 22), []⟩ <|
        .op ⟨(some 24), .fieldA 24 (.t 23), []⟩ <|
        .op ⟨none, .store 1 (.t 24) (.c (.int .i64 11)), []⟩ <|
        .nil)) (
      .ret))) (.skip))) (
    .seq (.ops (
      .op ⟨(some 26), .mov (.t 0), []⟩ <|
      .op ⟨(some 27), .nilc (.t 26), []⟩ <|
      .op ⟨(some 28), .fieldA 8 (.t 27), []⟩ <|
      .op ⟨(some 29), .load1 (.t 28), []⟩ <|
      .op ⟨(some 30), .mov (.t 0), []⟩ <|
      .op ⟨(some 31), .nilc (.t 30), []⟩ <|
      .op ⟨(some 32), .fieldA 13 (.t 31), []⟩ <|
      .op ⟨(some 33), .fieldA 2 (.t 32), []⟩ <|
      .op ⟨(some 34), .load1 (.t 33), []⟩ <|
      .op ⟨(some 35), .call 359 [(.t 29), (.t 34)], []⟩ <|
      .op ⟨(some 25), .mov (.t 35), []⟩ <|
      .op ⟨(some 36), .extract (.t 25) 0, []⟩ <|
      .op ⟨(some 37), .extract (.t 25) 1, []⟩ <|
      .op ⟨(some 38), .extract (.t 25) 2, []⟩ <|
      .op ⟨(some 2), .mov (.t 36), []⟩ <|
      .op ⟨(some 3), .mov (.t 37), []⟩ <|
      .op ⟨(some 4), .mov (.t 38), []⟩ <|
      .nil)) (
    .seq (.ops (
      .op ⟨(some 39), .mov (.t 0), []⟩ <|
      .op ⟨(some 40), .nilc (.t 39), []⟩ <|
      .op ⟨(some 41), .fieldA 8 (.t 40), []⟩ <|
      .op ⟨(some 42), .load1 (.t 41), []⟩ <|
      .op ⟨(some 43), .mov (.t 2), []⟩ <|
      .op ⟨(some 44), .call 470 [(.t 42), (.t 43)], []⟩ <|
      .nil)) (
    .seq (.ops (
      .op ⟨(some 45), .mov (.t 0), []⟩ <|
      .op ⟨(some 46), .mov (.t 0), []⟩ <|
      .op ⟨(some 47), .nilc (.t 46), []⟩ <|
      .op ⟨(some 48), .fieldA 0 (.t 47), []⟩ <|
      .op ⟨(some 49), .loadN 6 (.t 48), []⟩ <|
      .op ⟨(some 50), .mov (.t 0), []⟩ <|
      .op ⟨(some 51), .nilc (.t 50), []⟩ <|
      .op ⟨(some 52), .fieldA 6 (.t 51), []⟩ <|
      .op ⟨(some 53), .load1 (.t 52), []⟩ <|
      .op ⟨(some 54), .mov (.t 2), []⟩ <|
      .op ⟨(some 56), .mov (.t 0), []⟩ <|
      .op ⟨(some 57), .nilc (.t 56), []⟩ <|
      .op ⟨(some 58), .fieldA 8 (.t 57), []⟩ <|
      .op ⟨(some 59), .load1 (.t 58), []⟩ <|
      .op ⟨(some 60), .mov (.t 2), []⟩ <|
      .op ⟨(some 55), .call 319 [(.t 49), (.t 53), (.t 54)], [{ g := none, op := .load1 (.t 58), d := 59 }]⟩ <|
      .op ⟨(some 61), .call 471 [(.t 59), (.t 60)], []⟩ <|
      .op ⟨(some 62), .call 429 [(.t 45), (.t 55), (.t 61)], []⟩ <|
      .nil)) (
    .ops (
      .op ⟨(some 63), .mov (.t 0), []⟩ <|
      .op ⟨(some 64), .mov (.t 0), []⟩ <|
      .op ⟨(some 65), .build [(.int .i64 0), (.int .u64 0), (.bool false)] [], []⟩ <|
      .op ⟨(some 66), .nilc (.t 63), []⟩ <|
      .op ⟨(some 67), .fieldA 18 (.t 66), []⟩ <|
      .op ⟨none, .store 3 (.t 67) (.t 65), []⟩ <|
      .op ⟨(some 68), .nilc (.t 64), []⟩ <|
      .op ⟨(some 69), .fieldA 24 (.t 68), []⟩ <|
      .op ⟨none, .store 1 (.t 69) (.c (.int .i64 19)), []⟩ <|
      .nil)))))

def client_Client_drop_hs : List (List Nat × List Nat) := []

end Wm.F
end

section
/- PRINTED by my tool (wip/wm/tool/Gen.lean): a function as one of my machine. -/
namespace Wm.F
open Wm
set_option maxRecDepth 100000

/-- 429: (*withy/client.Client).store -/
def client_Client_store : AFunc where
  closed := false
  nparams := 3
  ntmps := 14
  results := []
  body := .ops (
      .op ⟨(some 6), .mov (.t 0), []⟩ <|
      .op ⟨(some 7), .mov (.t 1), []⟩ <|
      .op ⟨(some 8), .mov (.t 2), []⟩ <|
      .op ⟨(some 9), .build [(.int .i64 0), (.int .u64 0), (.bool false), (.bool false)] [(0, 1, (.t 7)), (1, 1, (.t 8)), (2, 1, (.c (.bool true)))], []⟩ <|
      .op ⟨(some 10), .box (.t 9), []⟩ <|
      .op ⟨(some 11), .mkIfc 388 (.t 10), []⟩ <|
      .op ⟨(some 12), .nilc (.t 6), []⟩ <|
      .op ⟨(some 13), .fieldA 25 (.t 12), []⟩ <|
      .op ⟨none, .store 1 (.t 13) (.t 11), []⟩ <|
      .nil)

def client_Client_store_hs : List (List Nat × List Nat) := []

end Wm.F
end

section
/- PRINTED by my tool (wip/wm/tool/Gen.lean): a function as one of my machine. -/
namespace Wm.F
open Wm
set_option maxRecDepth 100000

/-- 430: (*withy/client.Client).open -/
def client_Client_open : AFunc where
  closed := false
  nparams := 1
  ntmps := 77
  results := []
  body := .seq (.ops (
      .op ⟨(some 4), .mov (.t 0), []⟩ <|
      .op ⟨(some 5), .nilc (.t 4), []⟩ <|
      .op ⟨(some 6), .fieldA 12 (.t 5), []⟩ <|
      .op ⟨(some 7), .load1 (.t 6), []⟩ <|
      .op ⟨(some 8), .arith .add .u64 (.t 7) (.c (.int .u64 1)), []⟩ <|
      .op ⟨(some 9), .nilc (.t 4), []⟩ <|
      .op ⟨(some 10), .fieldA 12 (.t 9), []⟩ <|
      .op ⟨none, .store 1 (.t 10) (.t 8), []⟩ <|
      .nil)) (
    .seq (.ops (
      .op ⟨(some 12), .mov (.t 0), []⟩ <|
      .op ⟨(some 13), .nilc (.t 12), []⟩ <|
      .op ⟨(some 14), .fieldA 6 (.t 13), []⟩ <|
      .op ⟨(some 15), .load1 (.t 14), []⟩ <|
      .op ⟨(some 16), .mov (.t 0), []⟩ <|
      .op ⟨(some 17), .nilc (.t 16), []⟩ <|
      .op ⟨(some 18), .fieldA 12 (.t 17), []⟩ <|
      .op ⟨(some 19), .load1 (.t 18), []⟩ <|
      .op ⟨(some 20), .call 472 [(.t 15), (.c (.int .i64 255)), (.t 19)], []⟩ <|
      .op ⟨(some 11), .mov (.t 20), []⟩ <|
      .op ⟨(some 21), .extract (.t 11) 0, []⟩ <|
      .op ⟨(some 22), .extract (.t 11) 1, []⟩ <|
      .op ⟨(some 2), .mov (.t 21), []⟩ <|
      .op ⟨(some 3), .mov (.t 22), []⟩ <|
      .nil)) (
    .seq (.ops (
      .op ⟨(some 23), .mov (.t 0), []⟩ <|
      .op ⟨(some 24), .mov (.t 0), []⟩ <|
      .op ⟨(some 25), .mov (.t 2), []⟩ <|
      .op ⟨(some 26), .mov (.t 0), []⟩ <|
      .op ⟨(some 27), .nilc (.t 26), []⟩ <|
      .op ⟨(some 28), .fieldA 27 (.t 27), []⟩ <|
      .op ⟨(some 29), .load1 (.t 28), []⟩ <|
      .op ⟨(some 30), .nilc (.t 23), []⟩ <|
      .op ⟨(some 31), .fieldA 11 (.t 30), []⟩ <|
      .op ⟨none, .store 1 (.t 31) (.t 25), []⟩ <|
      .op ⟨(some 32), .nilc (.t 24), []⟩ <|
      .op ⟨(some 33), .fieldA 10 (.t 32), []⟩ <|
      .op ⟨none, .store 1 (.t 33) (.t 29), []⟩ <|
      .nil)) (
    .seq (.ops (
      .op ⟨(some 34), .mov (.t 0), []⟩ <|
      .op ⟨(some 35), .mov (.t 0), []⟩ <|
      .op ⟨(some 36), .nilc (.t 35), []⟩ <|
      .op ⟨(some 37), .fieldA 0 (.t 36), []⟩ <|
      .op ⟨(some 38), .loadN 6 (.t 37), []⟩ <|
      .op ⟨(some 39), .mov (.t 0), []⟩ <|
      .op ⟨(some 40), .nilc (.t 39), []⟩ <|
      .op ⟨(some 41), .fieldA 27 (.t 40), []⟩ <|
      .op ⟨(some 42), .load1 (.t 41), []⟩ <|
      .op ⟨(some 43), .mov (.t 0), []⟩ <|
      .op ⟨(some 44), .nilc (.t 43), []⟩ <|
      .op ⟨(some 45), .fieldA 36 (.t 44), []⟩ <|
      .op ⟨(some 46), .load1 (.t 45), []⟩ <|
      .op ⟨(some 47), .nilc (.t 46), []⟩ <|
      .op ⟨(some 48), .fieldA 0 (.t 47), []⟩ <|
      .op ⟨(some 49), .load1 (.t 48), []⟩ <|
      .op ⟨(some 50), .mov (.t 0), []⟩ <|
      .op ⟨(some 51), .nilc (.t 50), []⟩ <|
      .op ⟨(some 52), .fieldA 7 (.t 51), []⟩ <|
      .op ⟨(some 53), .load1 (.t 52), []⟩ <|
      .op ⟨(some 54), .call 167 [(.t 38), (.t 42), (.t 49), (.t 53)], []⟩ <|
      .op ⟨(some 55), .nilc (.t 34), []⟩ <|
      .op ⟨(some 56), .fieldA 9 (.t 55), []⟩ <|
      .op ⟨none, .store 1 (.t 56) (.t 54), []⟩ <|
      .nil)) (
    .seq (.ops (
      .op ⟨(some 57), .mov (.t 0), []⟩ <|
      .op ⟨(some 58), .mov (.t 0), []⟩ <|
      .op ⟨(some 59), .mov (.t 0), []⟩ <|
      .op ⟨(some 60), .mov (.t 2), []⟩ <|
      .op ⟨(some 61), .build [(.int .i64 0), (.int .u64 0), (.bool false)] [(1, 1, (.t 60))], []⟩ <|
      .op ⟨(some 62), .mov (.t 0), []⟩ <|
      .op ⟨(some 63), .nilc (.t 62), []⟩ <|
      .op ⟨(some 64), .fieldA 36 (.t 63), []⟩ <|
      .op ⟨(some 65), .load1 (.t 64), []⟩ <|
      .op ⟨(some 66), .nilc (.t 65), []⟩ <|
      .op ⟨(some 67), .fieldA 1 (.t 66), []⟩ <|
      .op ⟨(some 68), .load1 (.t 67), []⟩ <|
      .op ⟨(some 69), .nilc (.t 57), []⟩ <|
      .op ⟨(some 70), .fieldA 18 (.t 69), []⟩ <|
      .op ⟨none, .store 3 (.t 70) (.t 61), []⟩ <|
      .op ⟨(some 71), .nilc (.t 58), []⟩ <|
      .op ⟨(some 72), .fieldA 21 (.t 71), []⟩ <|
      .op ⟨none, .store 1 (.t 72) (.t 68), []⟩ <|
      .op ⟨(some 73), .nilc (.t 59), []⟩ <|
      .op ⟨(some 74), .fieldA 22 (.t 73), []⟩ <|
      .op ⟨none, .store 1 (.t 74) (.c (.bool true)), []⟩ <|
      .nil)) (
    .ops (
      .op ⟨(some 75), .mov (.t 0), []⟩ <|
      .op ⟨(some 76), .call 427 [(.t 75)], []⟩ <|
      .nil))))))

def client_Client_open_hs : List (List Nat × List Nat) := []

end Wm.F
end

section
/- PRINTED by my tool (wip/wm/tool/Gen.lean): a function as one of my machine. -/
namespace Wm.F
open Wm
set_option maxRecDepth 100000

/-- 431: (*withy/client.Client).last -/
def client_Client_last : AFunc where
  closed := false
  nparams := 1
  ntmps := 46
  results := []
  body := .seq (.seq (.ops (
      .op ⟨(some 2), .mov (.t 0), []⟩ <|
      .op ⟨(some 3), .nilc (.t 2), []⟩ <|
      .op ⟨(some 4), .fieldA 24 (.t 3), []⟩ <|
      .op ⟨(some 5), .load1 (.t 4), []⟩ <|
      .op ⟨(some 6), .cmp .eql .i64 (.t 5) (.c (.int .i64 20)), []⟩ <|
      .nil)) (
    .cond (.t 6) (.seq (.ops (
        .op ⟨(some 7), .mov (.t 0), []⟩ <|
        .op ⟨(some 8), .nilc (.t 7), []⟩ <|
        .op ⟨(some 9), .fieldA 24 (.t 8), []⟩ <|
        .op ⟨none, .store 1 (.t 9) (.c (.int .i64 19)), []⟩ <|
        .nil)) (
      .seq (.ops (
        .op ⟨(some 10), .mov (.t 0), []⟩ <|
        .op ⟨(some 11), .mov (.t 0), []⟩ <|
        .op ⟨(some 12), .mov (.t 0), []⟩ <|
        .op ⟨(some 13), .nilc (.t 12), []⟩ <|
        .op ⟨(some 14), .fieldA 9 (.t 13), []⟩ <|
        .op ⟨(some 15), .load1 (.t 14), []⟩ <|
        .op ⟨(some 16), .call 177 [(.t 15)], []⟩ <|
        .op ⟨(some 17), .call 468 [(.t 11), (.t 16)], []⟩ <|
        .op ⟨(some 18), .build [(.int .i64 0), (.int .u64 0), (.bool false)] [(1, 1, (.t 17))], []⟩ <|
        .op ⟨(some 19), .call 422 [(.t 10), (.t 18)], []⟩ <|
        .nil)) (
      .ret))) (.skip))) (
    .seq (.seq (.ops (
      .op ⟨(some 20), .mov (.t 0), []⟩ <|
      .op ⟨(some 21), .nilc (.t 20), []⟩ <|
      .op ⟨(some 22), .fieldA 13 (.t 21), []⟩ <|
      .op ⟨(some 23), .fieldA 0 (.t 22), []⟩ <|
      .op ⟨(some 24), .load1 (.t 23), []⟩ <|
      .nil)) (
    .block 0 (.seq (.ops (
      .op ⟨(some 32), .cmp .eql .i64 (.t 24) (.c (.int .i64 2)), []⟩ <|
      .op ⟨(some 31), .mov (.t 32), []⟩ <|
      .nil)) (
    .cond (.t 31) (.skip) (.seq (.ops (
        .op ⟨(some 34), .cmp .eql .i64 (.t 24) (.c (.int .i64 10)), []⟩ <|
        .op ⟨(some 33), .mov (.t 34), []⟩ <|
        .nil)) (
      .cond (.t 33) (.seq (.ops (
          .op ⟨(some 35), .mov (.t 0), []⟩ <|
          .op ⟨(some 36), .mov (.t 0), []⟩ <|
          .op ⟨(some 37), .nilc (.t 35), []⟩ <|
          .op ⟨(some 38), .fieldA 11 (.t 37), []⟩ <|
          .op ⟨none, .store 1 (.t 38) (.c (.int .u64 0)), []⟩ <|
          .op ⟨(some 39), .nilc (.t 36), []⟩ <|
          .op ⟨(some 40), .fieldA 9 (.t 39), []⟩ <|
          .op ⟨none, .store 1 (.t 40) (.c .nilp), []⟩ <|
          .nil)) (
        .ops (
          .op ⟨(some 41), .mov (.t 0), []⟩ <|
          .op ⟨(some 42), .build [(.int .i64 0), (.int .u64 0), (.bool false)] [], []⟩ <|
          .op ⟨(some 43), .call 422 [(.t 41), (.t 42)], []⟩ <|
          .nil))) (.ops (
          .op ⟨(some 25), .mov (.t 0), []⟩ <|
          .op ⟨(some 26), .mov (.t 0), []⟩ <|
          .op ⟨(some 27), .nilc (.t 26), []⟩ <|
          .op ⟨(some 28), .fieldA 18 (.t 27), []⟩ <|
          .op ⟨(some 29), .loadN 3 (.t 28), []⟩ <|
          .op ⟨(some 30), .call 422 [(.t 25), (.t 29)], []⟩ <|
          .nil)))))))) (
    .ops (
      .op ⟨(some 44), .mov (.t 0), []⟩ <|
      .op ⟨(some 45), .call 427 [(.t 44)], []⟩ <|
      .nil)))

def client_Client_last_hs : List (List Nat × List Nat) := []

end Wm.F
end

section
/- PRINTED by my tool (wip/wm/tool/Gen.lean): a function as one of my machine. -/
namespace Wm.F
open Wm
set_option maxRecDepth 100000

/-- 145: (*withy/field.Turn).Step -/
def field_Turn_Step : AFunc where
  closed := false
  nparams := 2
  ntmps := 72
  results := [.tmp 4]
  body := .seq (.ops (
      .op ⟨(some 4), .mov (.c (.bool false)), []⟩ <|
      .nil)) (
    .seq (.seq (.ops (
      .op ⟨(some 5), .mov (.t 0), []⟩ <|
      .op ⟨(some 6), .eq false .ptr (.t 5) (.c .nilp), []⟩ <|
      .nil)) (
    .cond (.t 6) (.seq (.ops (
        .op ⟨(some 4), .mov (.c (.bool true)), []⟩ <|
        .nil)) (
      .ret)) (.skip))) (
    .seq (.seq (.ops (
      .op ⟨(some 7), .mov (.t 0), []⟩ <|
      .op ⟨(some 8), .nilc (.t 7), []⟩ <|
      .op ⟨(some 9), .fieldA 3 (.t 8), []⟩ <|
      .op ⟨(some 10), .load1 (.t 9), []⟩ <|
      .nil)) (
    .block 0 (.seq (.ops (
      .op ⟨(some 12), .cmp .eql .i64 (.t 10) (.c (.int .i64 0)), []⟩ <|
      .op ⟨(some 11), .mov (.t 12), []⟩ <|
      .nil)) (
    .cond (.t 11) (.seq (.ops (
        .op ⟨(some 13), .mov (.t 0), []⟩ <|
        .op ⟨(some 14), .mov (.t 1), []⟩ <|
        .op ⟨(some 15), .call 266 [(.t 14), (.c (.int .i64 0))], []⟩ <|
        .op ⟨(some 16), .nilc (.t 13), []⟩ <|
        .op ⟨(some 17), .fieldA 0 (.t 16), []⟩ <|
        .op ⟨none, .store 1 (.t 17) (.t 15), []⟩ <|
        .nil)) (
      .ops (
        .op ⟨(some 18), .mov (.t 0), []⟩ <|
        .op ⟨(some 19), .nilc (.t 18), []⟩ <|
        .op ⟨(some 20), .fieldA 3 (.t 19), []⟩ <|
        .op ⟨none, .store 1 (.t 20) (.c (.int .i64 1)), []⟩ <|
        .nil))) (.seq (.ops (
        .op ⟨(some 22), .cmp .eql .i64 (.t 10) (.c (.int .i64 1)), []⟩ <|
        .op ⟨(some 21), .mov (.t 22), []⟩ <|
        .nil)) (
      .cond (.t 21) (.seq (.seq (.ops (
          .op ⟨(some 23), .mov (.t 1), []⟩ <|
          .op ⟨(some 24), .mov (.t 0), []⟩ <|
          .op ⟨(some 25), .nilc (.t 24), []⟩ <|
          .op ⟨(some 26), .fieldA 0 (.t 25), []⟩ <|
          .op ⟨(some 27), .load1 (.t 26), []⟩ <|
          .op ⟨(some 28), .mov (.t 0), []⟩ <|
          .op ⟨(some 29), .nilc (.t 28), []⟩ <|
          .op ⟨(some 30), .fieldA 0 (.t 29), []⟩ <|
          .op ⟨(some 31), .load1 (.t 30), []⟩ <|
          .op ⟨(some 32), .arith .add .u64 (.t 31) (.c (.int .u64 1)), []⟩ <|
          .op ⟨(some 33), .call 269 [(.t 23), (.c (.int .i64 0)), (.t 27), (.t 32)], []⟩ <|
          .nil)) (
        .cond (.t 33) (.ops (
            .op ⟨(some 34), .mov (.t 0), []⟩ <|
            .op ⟨(some 35), .nilc (.t 34), []⟩ <|
            .op ⟨(some 36), .fieldA 2 (.t 35), []⟩ <|
            .op ⟨(some 37), .load1 (.t 36), []⟩ <|
            .op ⟨(some 38), .nilc (.t 37), []⟩ <|
            .op ⟨(some 39), .fieldA 2 (.t 38), []⟩ <|
            .op ⟨(some 40), .load1 (.t 39), []⟩ <|
            .op ⟨(some 41), .mov (.t 0), []⟩ <|
            .op ⟨(some 42), .nilc (.t 41), []⟩ <|
            .op ⟨(some 43), .fieldA 0 (.t 42), []⟩ <|
            .op ⟨(some 44), .load1 (.t 43), []⟩ <|
            .op ⟨(some 45), .mov (.t 0), []⟩ <|
            .op ⟨(some 46), .nilc (.t 45), []⟩ <|
            .op ⟨(some 47), .fieldA 2 (.t 46), []⟩ <|
            .op ⟨(some 48), .load1 (.t 47), []⟩ <|
            .op ⟨(some 49), .nilc (.t 48), []⟩ <|
            .op ⟨(some 50), .fieldA 0 (.t 49), []⟩ <|
            .op ⟨(some 51), .load1 (.t 50), []⟩ <|
            .op ⟨none, .mapSet .int (.t 40) (.t 44) (.t 51), []⟩ <|
            .nil)) (.skip))) (
        .seq (.ops (
          .op ⟨(some 52), .mov (.t 0), []⟩ <|
          .op ⟨(some 53), .mov (.t 0), []⟩ <|
          .op ⟨(some 54), .nilc (.t 53), []⟩ <|
          .op ⟨(some 55), .fieldA 2 (.t 54), []⟩ <|
          .op ⟨(some 56), .load1 (.t 55), []⟩ <|
          .op ⟨(some 57), .mov (.t 0), []⟩ <|
          .op ⟨(some 58), .nilc (.t 57), []⟩ <|
          .op ⟨(some 59), .fieldA 0 (.t 58), []⟩ <|
          .op ⟨(some 60), .load1 (.t 59), []⟩ <|
          .op ⟨(some 61), .call 153 [(.t 56), (.t 60)], []⟩ <|
          .op ⟨(some 62), .nilc (.t 52), []⟩ <|
          .op ⟨(some 63), .fieldA 1 (.t 62), []⟩ <|
          .op ⟨none, .store 1 (.t 63) (.t 61), []⟩ <|
          .nil)) (
        .ops (
          .op ⟨(some 64), .mov (.t 0), []⟩ <|
          .op ⟨(some 65), .nilc (.t 64), []⟩ <|
          .op ⟨(some 66), .fieldA 3 (.t 65), []⟩ <|
          .op ⟨none, .store 1 (.t 66) (.c (.int .i64 2)), []⟩ <|
          .nil)))) (.skip))))))) (
    .seq (.ops (
      .op ⟨(some 67), .mov (.t 0), []⟩ <|
      .op ⟨(some 68), .nilc (.t 67), []⟩ <|
      .op ⟨(some 69), .fieldA 3 (.t 68), []⟩ <|
      .op ⟨(some 70), .load1 (.t 69), []⟩ <|
      .op ⟨(some 71), .cmp .eql .i64 (.t 70) (.c (.int .i64 2)), []⟩ <|
      .op ⟨(some 4), .mov (.t 71), []⟩ <|
      .nil)) (
    .ret))))

def field_Turn_Step_hs : List (List Nat × List Nat) := []

end Wm.F
end

section
/- PRINTED by my tool (wip/wm/tool/Gen.lean): a function as one of my machine. -/
namespace Wm.F
open Wm
set_option maxRecDepth 100000

/-- 203: (*withy/mem.Mem).Store -/
def mem_Mem_Store : AFunc where
  closed := false
  nparams := 3
  ntmps := 15
  results := [.tmp 6]
  body := .seq (.ops (
      .op ⟨(some 6), .mov (.c (.bool false)), []⟩ <|
      .nil)) (
    .seq (.seq (.ops (
      .op ⟨(some 7), .mov (.t 0), []⟩ <|
      .op ⟨(some 8), .mov (.t 1), []⟩ <|
      .op ⟨(some 9), .call 346 [(.t 7), (.t 8)], []⟩ <|
      .op ⟨(some 10), .not (.t 9), []⟩ <|
      .nil)) (
    .cond (.t 10) (.seq (.ops (
        .op ⟨(some 6), .mov (.c (.bool false)), []⟩ <|
        .nil)) (
      .ret)) (.skip))) (
    .seq (.ops (
      .op ⟨(some 11), .mov (.t 0), []⟩ <|
      .op ⟨(some 12), .mov (.t 1), []⟩ <|
      .op ⟨(some 13), .mov (.t 2), []⟩ <|
      .op ⟨(some 14), .call 347 [(.t 11), (.c (.int .i64 2)), (.t 12), (.t 13)], []⟩ <|
      .nil)) (
    .seq (.ops (
      .op ⟨(some 6), .mov (.c (.bool true)), []⟩ <|
      .nil)) (
    .ret))))

def mem_Mem_Store_hs : List (List Nat × List Nat) := []

end Wm.F
end

section
/- PRINTED by my tool (wip/wm/tool/Gen.lean): a function as one of my machine. -/
namespace Wm.F
open Wm
set_option maxRecDepth 100000

/-- 266: (*withy/mem.Mem).Load -/
def mem_Mem_Load : AFunc where
  closed := false
  nparams := 2
  ntmps := 26
  results := [.tmp 4]
  body := .seq (.ops (
      .op ⟨(some 4), .mov (.c (.int .u64 0)), []⟩ <|
      .nil)) (
    .seq (.seq (.ops (
      .op ⟨(some 5), .mov (.t 0), []⟩ <|
      .op ⟨(some 6), .mov (.t 1), []⟩ <|
      .op ⟨(some 7), .call 346 [(.t 5), (.t 6)], []⟩ <|
      .op ⟨(some 8), .not (.t 7), []⟩ <|
      .nil)) (
    .cond (.t 8) (.seq (.ops (
        .op ⟨(some 4), .mov (.c (.int .u64 0)), []⟩ <|
        .nil)) (
      .ret)) (.skip))) (
    .seq (.ops (
      .op ⟨(some 9), .mov (.t 0), []⟩ <|
      .op ⟨(some 10), .mov (.t 1), []⟩ <|
      .op ⟨(some 11), .mov (.t 0), []⟩ <|
      .op ⟨(some 12), .nilc (.t 11), []⟩ <|
      .op ⟨(some 13), .fieldA 0 (.t 12), []⟩ <|
      .op ⟨(some 14), .load1 (.t 13), []⟩ <|
      .op ⟨(some 15), .mov (.t 1), []⟩ <|
      .op ⟨(some 16), .indexA 1 (.t 14) (.t 15), []⟩ <|
      .op ⟨(some 17), .load1 (.t 16), []⟩ <|
      .op ⟨(some 18), .call 347 [(.t 9), (.c (.int .i64 1)), (.t 10), (.t 17)], []⟩ <|
      .nil)) (
    .seq (.ops (
      .op ⟨(some 19), .mov (.t 0), []⟩ <|
      .op ⟨(some 20), .nilc (.t 19), []⟩ <|
      .op ⟨(some 21), .fieldA 0 (.t 20), []⟩ <|
      .op ⟨(some 22), .load1 (.t 21), []⟩ <|
      .op ⟨(some 23), .mov (.t 1), []⟩ <|
      .op ⟨(some 24), .indexA 1 (.t 22) (.t 23), []⟩ <|
      .op ⟨(some 25), .load1 (.t 24), []⟩ <|
      .op ⟨(some 4), .mov (.t 25), []⟩ <|
      .nil)) (
    .ret))))

def mem_Mem_Load_hs : List (List Nat × List Nat) := []

end Wm.F
end

section
/- PRINTED by my tool (wip/wm/tool/Gen.lean): a function as one of my machine. -/
namespace Wm.F
open Wm
set_option maxRecDepth 100000

/-- 417: withy/epoch.pinned -/
def epoch_pinned : AFunc where
  closed := true
  nparams := 1
  ntmps := 6
  results := [.tmp 2]
  body := .seq (.ops (
      .op ⟨(some 2), .mov (.c (.int .u64 0)), []⟩ <|
      .nil)) (
    .seq (.ops (
      .op ⟨(some 3), .mov (.t 0), []⟩ <|
      .op ⟨(some 4), .arith .mul .u64 (.c (.int .u64 2)) (.t 3), []⟩ <|
      .op ⟨(some 5), .arith .add .u64 (.t 4) (.c (.int .u64 1)), []⟩ <|
      .op ⟨(some 2), .mov (.t 5), []⟩ <|
      .nil)) (
    .ret))

def epoch_pinned_hs : List (List Nat × List Nat) := []

end Wm.F
end

section
/- PRINTED by my tool (wip/wm/tool/Gen.lean): a function as one of my machine. -/
namespace Wm.F
open Wm
set_option maxRecDepth 100000

/-- 432: withy/tag.HandleParts -/
def tag_HandleParts : AFunc where
  closed := true
  nparams := 1
  ntmps := 51
  results := [.tmp 2, .tmp 3, .tmp 4, .tmp 5]
  body := .seq (.ops (
      .op ⟨(some 2), .mov (.c (.int .i64 0)), []⟩ <|
      .op ⟨(some 3), .mov (.c (.int .i64 0)), []⟩ <|
      .op ⟨(some 4), .mov (.c (.int .u64 0)), []⟩ <|
      .op ⟨(some 5), .mov (.c (.bool false)), []⟩ <|
      .nil)) (
    .seq (.ops (
      .op ⟨(some 14), .mov (.t 0), []⟩ <|
      .op ⟨(some 15), .buildSl 1 4 [(.int .i64 0)] [(0, 1, (.c (.int .i64 32))), (1, 1, (.c (.int .i64 16))), (2, 1, (.c (.int .i64 8))), (3, 1, (.c (.int .i64 8)))], []⟩ <|
      .op ⟨(some 16), .call 379 [(.t 14), (.t 15)], []⟩ <|
      .op ⟨(some 13), .mov (.t 16), []⟩ <|
      .op ⟨(some 17), .extract (.t 13) 0, []⟩ <|
      .op ⟨(some 18), .extract (.t 13) 1, []⟩ <|
      .op ⟨(some 6), .mov (.t 17), []⟩ <|
      .op ⟨(some 7), .mov (.t 18), []⟩ <|
      .nil)) (
    .seq (.seq (.ops (
      .op ⟨(some 19), .mov (.t 6), []⟩ <|
      .op ⟨(some 20), .lenSl (.t 19), []⟩ <|
      .op ⟨(some 21), .cmp .lss .i64 (.t 20) (.c (.int .i64 4)), []⟩ <|
      .nil)) (
    .cond (.t 21) (.seq (.ops (
        .op ⟨(some 2), .mov (.c (.int .i64 0)), []⟩ <|
        .op ⟨(some 3), .mov (.c (.int .i64 0)), []⟩ <|
        .op ⟨(some 4), .mov (.c (.int .u64 0)), []⟩ <|
        .op ⟨(some 5), .mov (.c (.bool false)), []⟩ <|
        .nil)) (
      .ret)) (.skip))) (
    .seq (.ops (
      .op ⟨(some 22), .mov (.t 6), []⟩ <|
      .op ⟨(some 23), .indexA 1 (.t 22) (.c (.int .i64 3)), []⟩ <|
      .op ⟨(some 24), .load1 (.t 23), []⟩ <|
      .op ⟨(some 25), .conv .i64 (.t 24), []⟩ <|
      .op ⟨(some 26), .arith .sub .i64 (.t 25) (.c (.int .i64 1)), []⟩ <|
      .op ⟨(some 27), .mov (.t 6), []⟩ <|
      .op ⟨(some 28), .indexA 1 (.t 27) (.c (.int .i64 2)), []⟩ <|
      .op ⟨(some 29), .load1 (.t 28), []⟩ <|
      .op ⟨(some 30), .conv .i64 (.t 29), []⟩ <|
      .op ⟨(some 31), .mov (.t 6), []⟩ <|
      .op ⟨(some 32), .indexA 1 (.t 31) (.c (.int .i64 0)), []⟩ <|
      .op ⟨(some 33), .load1 (.t 32), []⟩ <|
      .op ⟨(some 8), .mov (.t 26), []⟩ <|
      .op ⟨(some 9), .mov (.t 30), []⟩ <|
      .op ⟨(some 10), .mov (.t 33), []⟩ <|
      .nil)) (
    .seq (.seq (.ops (
      .op ⟨(some 35), .mov (.t 8), []⟩ <|
      .op ⟨(some 36), .mov (.t 9), []⟩ <|
      .op ⟨(some 37), .mov (.t 10), []⟩ <|
      .op ⟨(some 38), .call 472 [(.t 35), (.t 36), (.t 37)], []⟩ <|
      .op ⟨(some 34), .mov (.t 38), []⟩ <|
      .op ⟨(some 39), .extract (.t 34) 0, []⟩ <|
      .op ⟨(some 40), .extract (.t 34) 1, []⟩ <|
      .op ⟨(some 11), .mov (.t 39), []⟩ <|
      .op ⟨(some 12), .mov (.t 40), []⟩ <|
      .nil)) (
    .seq (.ops (
      .op ⟨(some 41), .mov (.t 12), []⟩ <|
      .op ⟨(some 42), .not (.t 41), []⟩ <|
      .op ⟨(some 43), .mov (.t 42), []⟩ <|
      .grd 43 false [⟨(some 44), .mov (.t 11), []⟩,
          ⟨(some 45), .mov (.t 0), []⟩,
          ⟨(some 46), .cmp .neq .u64 (.t 44) (.t 45), []⟩] <|
      .op ⟨(some 47), .pick (.t 43) (.c (.bool true)) (.t 46), []⟩ <|
      .nil)) (
    .cond (.t 47) (.seq (.ops (
        .op ⟨(some 2), .mov (.c (.int .i64 0)), []⟩ <|
        .op ⟨(some 3), .mov (.c (.int .i64 0)), []⟩ <|
        .op ⟨(some 4), .mov (.c (.int .u64 0)), []⟩ <|
        .op ⟨(some 5), .mov (.c (.bool false)), []⟩ <|
        .nil)) (
      .ret)) (.skip)))) (
    .seq (.ops (
      .op ⟨(some 48), .mov (.t 8), []⟩ <|
      .op ⟨(some 49), .mov (.t 9), []⟩ <|
      .op ⟨(some 50), .mov (.t 10), []⟩ <|
      .op ⟨(some 2), .mov (.t 48), []⟩ <|
      .op ⟨(some 3), .mov (.t 49), []⟩ <|
      .op ⟨(some 4), .mov (.t 50), []⟩ <|
      .op ⟨(some 5), .mov (.c (.bool true)), []⟩ <|
      .nil)) (
    .ret))))))

def tag_HandleParts_hs : List (List Nat × List Nat) := []

end Wm.F
end

section
/- PRINTED by my tool (wip/wm/tool/Gen.lean): a function as one of my machine. -/
namespace Wm.F
open Wm
set_option maxRecDepth 100000

/-- 397: withy/plan.place -/
def plan_place : AFunc where
  closed := true
  nparams := 5
  ntmps := 40
  results := [.tmp 10]
  body := .seq (.ops (
      .op ⟨(some 5), .box (.t 0), []⟩ <|
      .op ⟨(some 10), .mov (.c (.int .i64 0)), []⟩ <|
      .nil)) (
    .seq (.seq (.ops (
      .op ⟨(some 11), .loadN 6 (.t 5), []⟩ <|
      .op ⟨(some 12), .call 263 [(.t 11)], []⟩ <|
      .op ⟨(some 13), .not (.t 12), []⟩ <|
      .op ⟨(some 14), .mov (.t 13), []⟩ <|
      .grd 14 false [⟨(some 15), .mov (.t 1), []⟩,
          ⟨(some 16), .fieldA 2 (.t 5), []⟩,
          ⟨(some 17), .load1 (.t 16), []⟩,
          ⟨(some 18), .arith .sub .i64 (.t 17) (.c (.int .i64 1)), []⟩,
          ⟨(some 19), .call 376 [(.t 15), (.c (.int .i64 0)), (.t 18)], []⟩,
          ⟨(some 20), .not (.t 19), []⟩] <|
      .op ⟨(some 21), .pick (.t 14) (.c (.bool true)) (.t 20), []⟩ <|
      .op ⟨(some 22), .mov (.t 21), []⟩ <|
      .grd 22 false [⟨(some 23), .mov (.t 4), []⟩,
          ⟨(some 24), .mov (.t 3), []⟩,
          ⟨(some 25), .arith .sub .i64 (.t 24) (.c (.int .i64 1)), []⟩,
          ⟨(some 26), .call 376 [(.t 23), (.c (.int .i64 0)), (.t 25)], []⟩,
          ⟨(some 27), .not (.t 26), []⟩] <|
      .op ⟨(some 28), .pick (.t 22) (.c (.bool true)) (.t 27), []⟩ <|
      .nil)) (
    .cond (.t 28) (.seq (.ops (
        .op ⟨(some 10), .mov (.c (.int .i64 (-1))), []⟩ <|
        .nil)) (
      .ret)) (.skip))) (
    .seq (.ops (
      .op ⟨(some 29), .mov (.t 2), []⟩ <|
      .op ⟨(some 30), .fieldA 2 (.t 5), []⟩ <|
      .op ⟨(some 31), .load1 (.t 30), []⟩ <|
      .op ⟨(some 32), .arith .mul .i64 (.t 29) (.t 31), []⟩ <|
      .op ⟨(some 33), .arith .add .i64 (.c (.int .i64 4)) (.t 32), []⟩ <|
      .op ⟨(some 34), .mov (.t 1), []⟩ <|
      .op ⟨(some 35), .mov (.t 3), []⟩ <|
      .op ⟨(some 36), .arith .mul .i64 (.t 34) (.t 35), []⟩ <|
      .op ⟨(some 37), .arith .add .i64 (.t 33) (.t 36), []⟩ <|
      .op ⟨(some 38), .mov (.t 4), []⟩ <|
      .op ⟨(some 39), .arith .add .i64 (.t 37) (.t 38), []⟩ <|
      .op ⟨(some 10), .mov (.t 39), []⟩ <|
      .nil)) (
    .ret)))

def plan_place_hs : List (List Nat × List Nat) := []

end Wm.F
end

section
/- PRINTED by my tool (wip/wm/tool/Gen.lean): a function as one of my machine. -/
namespace Wm.F
open Wm
set_option maxRecDepth 100000

/-- 271: slices.Clone[[]uint64,uint64] -/
def slices_Clone___uint64_uint64_ : AFunc where
  closed := false
  nparams := 1
  ntmps := 8
  results := [.tmp 2]
  body := .seq (.ops (
      .op ⟨(some 2), .mov (.c .nilsl), []⟩ <|
      .nil)) (
    .seq (.seq (.ops (
      .op ⟨(some 3), .mov (.t 0), []⟩ <|
      .op ⟨(some 4), .eq false .sl (.t 3) (.c .nilsl), []⟩ <|
      .nil)) (
    .cond (.t 4) (.seq (.ops (
        .op ⟨(some 2), .mov (.c .nilsl), []⟩ <|
        .nil)) (
      .ret)) (.skip))) (
    .seq (.ops (
      .op ⟨(some 5), .buildSl 1 0 [(.int .u64 0)] [], []⟩ <|
      .op ⟨(some 6), .mov (.t 0), []⟩ <|
      .op ⟨(some 7), .append 1 8 (.t 5) (.t 6), []⟩ <|
      .op ⟨(some 2), .mov (.t 7), []⟩ <|
      .nil)) (
    .ret)))

def slices_Clone___uint64_uint64__hs : List (List Nat × List Nat) := []

end Wm.F
end

section
/- PRINTED by my tool (wip/wm/tool/Gen.lean): a function as one of my machine. -/
namespace Wm.F
open Wm
set_option maxRecDepth 100000

/-- 376: withy/plan.between -/
def plan_between : AFunc where
  closed := true
  nparams := 3
  ntmps := 15
  results := [.tmp 6]
  body := .seq (.ops (
      .op ⟨(some 6), .mov (.c (.bool false)), []⟩ <|
      .nil)) (
    .seq (.ops (
      .op ⟨(some 7), .mov (.t 0), []⟩ <|
      .op ⟨(some 8), .mov (.t 1), []⟩ <|
      .op ⟨(some 9), .cmp .geq .i64 (.t 7) (.t 8), []⟩ <|
      .op ⟨(some 10), .mov (.t 9), []⟩ <|
      .grd 10 true [⟨(some 11), .mov (.t 0), []⟩,
          ⟨(some 12), .mov (.t 2), []⟩,
          ⟨(some 13), .cmp .leq .i64 (.t 11) (.t 12), []⟩] <|
      .op ⟨(some 14), .pick (.t 10) (.t 13) (.c (.bool false)), []⟩ <|
      .op ⟨(some 6), .mov (.t 14), []⟩ <|
      .nil)) (
    .ret))

def plan_between_hs : List (List Nat × List Nat) := []

end Wm.F
end

section
/- PRINTED by my tool (wip/wm/tool/Gen.lean): a function as one of my machine. -/
namespace Wm.F
open Wm
set_option maxRecDepth 100000

/-- 377: withy/plan.slots -/
def plan_slots : AFunc where
  closed := true
  nparams := 1
  ntmps := 11
  results := [.tmp 2]
  body := .seq (.ops (
      .op ⟨(some 1), .box (.t 0), []⟩ <|
      .op ⟨(some 2), .mov (.c (.int .i64 0)), []⟩ <|
      .nil)) (
    .seq (.ops (
      .op ⟨(some 3), .fieldA 2 (.t 1), []⟩ <|
      .op ⟨(some 4), .load1 (.t 3), []⟩ <|
      .op ⟨(some 5), .fieldA 3 (.t 1), []⟩ <|
      .op ⟨(some 6), .load1 (.t 5), []⟩ <|
      .op ⟨(some 7), .arith .add .i64 (.c (.int .i64 1)) (.t 6), []⟩ <|
      .op ⟨(some 8), .arith .add .i64 (.t 7) (.c (.int .i64 2)), []⟩ <|
      .op ⟨(some 9), .arith .mul .i64 (.t 4) (.t 8), []⟩ <|
      .op ⟨(some 10), .arith .add .i64 (.c (.int .i64 4)) (.t 9), []⟩ <|
      .op ⟨(some 2), .mov (.t 10), []⟩ <|
      .nil)) (
    .ret))

def plan_slots_hs : List (List Nat × List Nat) := []

end Wm.F
end

section
/- PRINTED by my tool (wip/wm/tool/Gen.lean): a function as one of my machine. -/
namespace Wm.F
open Wm
set_option maxRecDepth 100000

/-- 378: withy/plan.room -/
def plan_room : AFunc where
  closed := true
  nparams := 1
  ntmps := 7
  results := [.tmp 2]
  body := .seq (.ops (
      .op ⟨(some 1), .box (.t 0), []⟩ <|
      .op ⟨(some 2), .mov (.c (.int .i64 0)), []⟩ <|
      .nil)) (
    .seq (.ops (
      .op ⟨(some 3), .fieldA 1 (.t 1), []⟩ <|
      .op ⟨(some 4), .load1 (.t 3), []⟩ <|
      .op ⟨(some 5), .minmax true .i64 (.t 4) (.c (.int .i64 3)), []⟩ <|
      .op ⟨(some 6), .arith .add .i64 (.c (.int .i64 2)) (.t 5), []⟩ <|
      .op ⟨(some 2), .mov (.t 6), []⟩ <|
      .nil)) (
    .ret))

def plan_room_hs : List (List Nat × List Nat) := []

end Wm.F
end

section
/- PRINTED by my tool (wip/wm/tool/Gen.lean): a function as one of my machine. -/
namespace Wm.F
open Wm
set_option maxRecDepth 100000

/-- 375: withy/plan.within -/
def plan_within : AFunc where
  closed := true
  nparams := 3
  ntmps := 35
  results := [.tmp 6]
  body := .seq (.ops (
      .op ⟨(some 3), .box (.t 0), []⟩ <|
      .op ⟨(some 6), .mov (.c (.int .i64 0)), []⟩ <|
      .nil)) (
    .seq (.seq (.ops (
      .op ⟨(some 7), .loadN 6 (.t 3), []⟩ <|
      .op ⟨(some 8), .call 263 [(.t 7)], []⟩ <|
      .op ⟨(some 9), .not (.t 8), []⟩ <|
      .op ⟨(some 10), .mov (.t 9), []⟩ <|
      .grd 10 false [⟨(some 11), .mov (.t 1), []⟩,
          ⟨(some 12), .fieldA 0 (.t 3), []⟩,
          ⟨(some 13), .load1 (.t 12), []⟩,
          ⟨(some 14), .arith .sub .i64 (.t 13) (.c (.int .i64 1)), []⟩,
          ⟨(some 15), .call 376 [(.t 11), (.c (.int .i64 0)), (.t 14)], []⟩,
          ⟨(some 16), .not (.t 15), []⟩] <|
      .op ⟨(some 17), .pick (.t 10) (.c (.bool true)) (.t 16), []⟩ <|
      .op ⟨(some 18), .mov (.t 17), []⟩ <|
      .grd 18 false [⟨(some 19), .mov (.t 2), []⟩,
          ⟨(some 20), .loadN 6 (.t 3), []⟩,
          ⟨(some 21), .call 378 [(.t 20)], []⟩,
          ⟨(some 22), .arith .sub .i64 (.t 21) (.c (.int .i64 1)), []⟩,
          ⟨(some 23), .call 376 [(.t 19), (.c (.int .i64 0)), (.t 22)], []⟩,
          ⟨(some 24), .not (.t 23), []⟩] <|
      .op ⟨(some 25), .pick (.t 18) (.c (.bool true)) (.t 24), []⟩ <|
      .nil)) (
    .cond (.t 25) (.seq (.ops (
        .op ⟨(some 6), .mov (.c (.int .i64 (-1))), []⟩ <|
        .nil)) (
      .ret)) (.skip))) (
    .seq (.ops (
      .op ⟨(some 26), .loadN 6 (.t 3), []⟩ <|
      .op ⟨(some 28), .mov (.t 1), []⟩ <|
      .op ⟨(some 29), .loadN 6 (.t 3), []⟩ <|
      .op ⟨(some 33), .mov (.t 2), []⟩ <|
      .op ⟨(some 27), .call 377 [(.t 26)], [{ g := none, op := .loadN 6 (.t 3), d := 29 }]⟩ <|
      .op ⟨(some 30), .call 378 [(.t 29)], []⟩ <|
      .op ⟨(some 31), .arith .mul .i64 (.t 28) (.t 30), []⟩ <|
      .op ⟨(some 32), .arith .add .i64 (.t 27) (.t 31), []⟩ <|
      .op ⟨(some 34), .arith .add .i64 (.t 32) (.t 33), []⟩ <|
      .op ⟨(some 6), .mov (.t 34), []⟩ <|
      .nil)) (
    .ret)))

def plan_within_hs : List (List Nat × List Nat) := []

end Wm.F
end

section
/- PRINTED by my tool (wip/wm/tool/Gen.lean): a function as one of my machine. -/
namespace Wm.F
open Wm
set_option maxRecDepth 100000

/-- 414: withy/tag.tagged -/
def tag_tagged : AFunc where
  closed := true
  nparams := 3
  ntmps := 24
  results := [.tmp 6, .tmp 7]
  body := .seq (.ops (
      .op ⟨(some 6), .mov (.c (.int .u64 0)), []⟩ <|
      .op ⟨(some 7), .mov (.c (.bool false)), []⟩ <|
      .nil)) (
    .seq (.seq (.ops (
      .op ⟨(some 8), .mov (.t 1), []⟩ <|
      .op ⟨(some 9), .call 462 [(.t 8)], []⟩ <|
      .op ⟨(some 10), .not (.t 9), []⟩ <|
      .nil)) (
    .cond (.t 10) (.seq (.ops (
        .op ⟨(some 6), .mov (.c (.int .u64 0)), []⟩ <|
        .op ⟨(some 7), .mov (.c (.bool false)), []⟩ <|
        .nil)) (
      .ret)) (.skip))) (
    .seq (.ops (
      .op ⟨(some 11), .mov (.t 2), []⟩ <|
      .op ⟨(some 12), .mov (.t 1), []⟩ <|
      .op ⟨(some 13), .arith .add .i64 (.t 12) (.c (.int .i64 1)), []⟩ <|
      .op ⟨(some 14), .conv .u64 (.t 13), []⟩ <|
      .op ⟨(some 15), .build [(.int .i64 0), (.int .u64 0)] [(0, 1, (.t 11)), (1, 1, (.t 14))], []⟩ <|
      .op ⟨(some 16), .mov (.t 2), []⟩ <|
      .op ⟨(some 17), .arith .sub .i64 (.c (.int .i64 64)) (.t 16), []⟩ <|
      .op ⟨(some 18), .mov (.t 0), []⟩ <|
      .op ⟨(some 19), .build [(.int .i64 0), (.int .u64 0)] [(0, 1, (.t 17)), (1, 1, (.t 18))], []⟩ <|
      .op ⟨(some 20), .buildSl 2 2 [(.int .i64 0), (.int .u64 0)] [(0, 2, (.t 15)), (2, 2, (.t 19))], []⟩ <|
      .op ⟨(some 21), .call 443 [(.t 20)], []⟩ <|
      .op ⟨(some 22), .extract (.t 21) 0, []⟩ <|
      .op ⟨(some 23), .extract (.t 21) 1, []⟩ <|
      .op ⟨(some 6), .mov (.t 22), []⟩ <|
      .op ⟨(some 7), .mov (.t 23), []⟩ <|
      .nil)) (
    .ret)))

def tag_tagged_hs : List (List Nat × List Nat) := []

end Wm.F
end

section
/- PRINTED by my tool (wip/wm/tool/Gen.lean): a function as one of my machine. -/
namespace Wm.F
open Wm
set_option maxRecDepth 100000

def root_Table_free_c1 : ACode :=
  .seq (.ops (
    .op ⟨(some 13), .cmp .lss .i64 (.t 12) (.t 11), []⟩ <|
    .nil)) (
  .seq (.cond (.t 13) (.skip) (.exit 0)) (
  .seq (.block 1 (.seq (.ops (
    .op ⟨(some 14), .mov (.t 12), []⟩ <|
    .op ⟨(some 15), .indexA 2 (.t 10) (.t 12), []⟩ <|
    .op ⟨(some 16), .loadN 2 (.t 15), []⟩ <|
    .op ⟨(some 4), .alloc [(.int .u64 0), (.int .i64 0)], []⟩ <|
    .op ⟨(some 3), .mov (.t 14), []⟩ <|
    .op ⟨none, .store 2 (.t 4) (.t 16), []⟩ <|
    .nil)) (
  .seq (.ops (
    .op ⟨(some 17), .fieldA 1 (.t 4), []⟩ <|
    .op ⟨(some 18), .load1 (.t 17), []⟩ <|
    .op ⟨(some 19), .cmp .lss .i64 (.t 18) (.c (.int .i64 0)), []⟩ <|
    .op ⟨(some 20), .mov (.t 19), []⟩ <|
    .grd 20 true [⟨(some 21), .fieldA 0 (.t 4), []⟩,
        ⟨(some 22), .load1 (.t 21), []⟩,
        ⟨(some 23), .cmp .lss .u64 (.t 22) (.c (.int .u64 4294967295)), []⟩] <|
    .op ⟨(some 24), .pick (.t 20) (.t 23) (.c (.bool false)), []⟩ <|
    .nil)) (
  .cond (.t 24) (.seq (.ops (
      .op ⟨(some 25), .mov (.t 3), []⟩ <|
      .op ⟨(some 2), .mov (.t 25), []⟩ <|
      .nil)) (
    .ret)) (.skip))))) (
  .ops (
    .op ⟨(some 26), .arith .add .i64 (.t 12) (.c (.int .i64 1)), []⟩ <|
    .op ⟨(some 12), .mov (.t 26), []⟩ <|
    .nil))))

def root_Table_free_c0 : ACode :=
  .seq (.ops (
    .op ⟨(some 2), .mov (.c (.int .i64 (-1))), []⟩ <|
    .nil)) (
  .ret)

/-- 463: (*withy/root.Table).free -/
def root_Table_free : AFunc where
  closed := false
  nparams := 1
  ntmps := 27
  results := [.tmp 2]
  body := .seq (.ops (
      .op ⟨(some 2), .mov (.c (.int .i64 0)), []⟩ <|
      .nil)) (
    .seq (.seq (.ops (
      .op ⟨(some 5), .mov (.t 0), []⟩ <|
      .op ⟨(some 6), .eq true .ptr (.t 5) (.c .nilp), []⟩ <|
      .nil)) (
    .cond (.t 6) (.seq (.ops (
        .op ⟨(some 7), .mov (.t 0), []⟩ <|
        .op ⟨(some 8), .nilc (.t 7), []⟩ <|
        .op ⟨(some 9), .fieldA 7 (.t 8), []⟩ <|
        .op ⟨(some 10), .load1 (.t 9), []⟩ <|
        .op ⟨(some 11), .lenSl (.t 10), []⟩ <|
        .op ⟨(some 12), .mov (.c (.int .i64 0)), []⟩ <|
        .nil)) (
      .block 0 (.loop [10, 11, 12] [2] (root_Table_free_c1)))) (.skip))) (
    root_Table_free_c0))

def root_Table_free_hs : List (List Nat × List Nat) := [([10, 11, 12], [2])]

end Wm.F
end

section
/- PRINTED by my tool (wip/wm/tool/Gen.lean): a function as one of my machine. -/
namespace Wm.F
open Wm
set_option maxRecDepth 100000

/-- 261: withy/plan.Header -/
def plan_Header : AFunc where
  closed := true
  nparams := 2
  ntmps := 8
  results := [.tmp 4]
  body := .seq (.ops (
      .op ⟨(some 2), .box (.t 0), []⟩ <|
      .op ⟨(some 4), .mov (.c (.int .i64 0)), []⟩ <|
      .nil)) (
    .seq (.ops (
      .op ⟨(some 5), .loadN 6 (.t 2), []⟩ <|
      .op ⟨(some 6), .mov (.t 1), []⟩ <|
      .op ⟨(some 7), .call 375 [(.t 5), (.t 6), (.c (.int .i64 0))], []⟩ <|
      .op ⟨(some 4), .mov (.t 7), []⟩ <|
      .nil)) (
    .ret))

def plan_Header_hs : List (List Nat × List Nat) := []

end Wm.F
end

section
/- PRINTED by my tool (wip/wm/tool/Gen.lean): a function as one of my machine. -/
namespace Wm.F
open Wm
set_option maxRecDepth 100000

def arena_NewMake_c1 : ACode :=
  .seq (.seq (.ops (
    .op ⟨(some 46), .loadN 6 (.t 5), []⟩ <|
    .op ⟨(some 47), .mov (.t 11), []⟩ <|
    .op ⟨(some 48), .call 305 [(.t 46), (.c (.int .i64 0)), (.t 47)], []⟩ <|
    .op ⟨(some 49), .cmp .geq .i64 (.t 48) (.c (.int .i64 0)), []⟩ <|
    .nil)) (
  .cond (.t 49) (.skip) (.exit 1))) (
  .block 2 (.ops (
    .op ⟨(some 50), .mov (.t 11), []⟩ <|
    .op ⟨(some 51), .arith .add .i64 (.t 50) (.c (.int .i64 1)), []⟩ <|
    .op ⟨(some 11), .mov (.t 51), []⟩ <|
    .nil)))

def arena_NewMake_c0 : ACode :=
  .seq (.seq (.ops (
    .op ⟨(some 52), .mov (.t 4), []⟩ <|
    .op ⟨(some 53), .lenSl (.t 52), []⟩ <|
    .op ⟨(some 54), .mov (.t 11), []⟩ <|
    .op ⟨(some 55), .cmp .gtr .i64 (.t 53) (.t 54), []⟩ <|
    .nil)) (
  .cond (.t 55) (.seq (.ops (
      .op ⟨(some 10), .mov (.c .nilp), []⟩ <|
      .nil)) (
    .ret)) (.skip))) (
  .seq (.ops (
    .op ⟨(some 56), .mov (.t 11), []⟩ <|
    .op ⟨(some 57), .mkSl 1 8 [(.int .u64 0)] (.t 56) (.t 56), []⟩ <|
    .op ⟨(some 12), .mov (.t 57), []⟩ <|
    .nil)) (
  .seq (.ops (
    .op ⟨(some 58), .mov (.t 12), []⟩ <|
    .op ⟨(some 59), .mov (.t 4), []⟩ <|
    .op ⟨(some 60), .copy 1 (.t 58) (.t 59), []⟩ <|
    .nil)) (
  .seq (.ops (
    .op ⟨(some 61), .loadN 6 (.t 5), []⟩ <|
    .op ⟨(some 62), .mov (.t 1), []⟩ <|
    .op ⟨(some 63), .mov (.t 2), []⟩ <|
    .op ⟨(some 64), .mov (.t 3), []⟩ <|
    .op ⟨(some 65), .mov (.t 12), []⟩ <|
    .op ⟨(some 66), .loadN 6 (.t 5), []⟩ <|
    .op ⟨(some 67), .call 493 [(.t 66)], [{ g := none, op := .loadN 6 (.t 5), d := 61 }]⟩ <|
    .op ⟨(some 68), .build [(.int .i64 0), (.bool false), (.int .i64 0), (.int .i64 0), (.int .i64 0), (.int .i64 0), (.int .i64 0), (.int .i64 0), (.int .i64 0), (.int .i64 0), (.int .u64 0), .nilsl, .nilp, (.int .i64 0), (.int .i64 0), (.int .i64 0)] [(0, 1, (.c (.int .i64 (-1)))), (2, 6, (.t 61)), (8, 1, (.t 62)), (9, 1, (.t 63)), (10, 1, (.t 64)), (11, 1, (.t 65)), (12, 1, (.t 67))], []⟩ <|
    .op ⟨(some 69), .box (.t 68), []⟩ <|
    .op ⟨(some 10), .mov (.t 69), []⟩ <|
    .nil)) (
  .ret))))

/-- 464: withy/arena.NewMake -/
def arena_NewMake : AFunc where
  closed := false
  nparams := 5
  ntmps := 70
  results := [.tmp 10]
  body := .seq (.ops (
      .op ⟨(some 5), .box (.t 0), []⟩ <|
      .op ⟨(some 10), .mov (.c .nilp), []⟩ <|
      .nil)) (
    .seq (.block 0 (.seq (.ops (
      .op ⟨(some 14), .loadN 6 (.t 5), []⟩ <|
      .op ⟨(some 15), .call 263 [(.t 14)], []⟩ <|
      .op ⟨(some 16), .not (.t 15), []⟩ <|
      .op ⟨(some 17), .mov (.t 16), []⟩ <|
      .grd 17 false [⟨(some 18), .mov (.t 2), []⟩,
          ⟨(some 19), .cmp .lss .i64 (.t 18) (.c (.int .i64 0)), []⟩] <|
      .op ⟨(some 20), .pick (.t 17) (.c (.bool true)) (.t 19), []⟩ <|
      .op ⟨(some 13), .mov (.t 20), []⟩ <|
      .nil)) (
    .cond (.t 13) (.seq (.ops (
        .op ⟨(some 10), .mov (.c .nilp), []⟩ <|
        .nil)) (
      .ret)) (.seq (.ops (
        .op ⟨(some 22), .mov (.t 1), []⟩ <|
        .op ⟨(some 23), .cmp .eql .i64 (.t 22) (.c (.int .i64 1)), []⟩ <|
        .op ⟨(some 24), .mov (.t 23), []⟩ <|
        .grd 24 true [⟨(some 25), .mov (.t 2), []⟩,
            ⟨(some 26), .fieldA 1 (.t 5), []⟩,
            ⟨(some 27), .load1 (.t 26), []⟩,
            ⟨(some 28), .cmp .gtr .i64 (.t 25) (.t 27), []⟩] <|
        .op ⟨(some 29), .pick (.t 24) (.t 28) (.c (.bool false)), []⟩ <|
        .op ⟨(some 30), .mov (.t 29), []⟩ <|
        .grd 30 false [⟨(some 31), .mov (.t 1), []⟩,
            ⟨(some 32), .cmp .eql .i64 (.t 31) (.c (.int .i64 2)), []⟩,
            ⟨(some 33), .mov (.t 32), []⟩] <|
        .grd 33 true [⟨(some 34), .mov (.t 2), []⟩,
            ⟨(some 35), .cmp .gtr .i64 (.t 34) (.c (.int .i64 0)), []⟩] <|
        .grd 30 false [⟨(some 36), .pick (.t 33) (.t 35) (.c (.bool false)), []⟩] <|
        .op ⟨(some 37), .pick (.t 30) (.c (.bool true)) (.t 36), []⟩ <|
        .op ⟨(some 38), .mov (.t 37), []⟩ <|
        .grd 38 false [⟨(some 39), .mov (.t 1), []⟩,
            ⟨(some 40), .cmp .neq .i64 (.t 39) (.c (.int .i64 1)), []⟩,
            ⟨(some 41), .mov (.t 40), []⟩] <|
        .grd 41 true [⟨(some 42), .mov (.t 1), []⟩,
            ⟨(some 43), .cmp .neq .i64 (.t 42) (.c (.int .i64 2)), []⟩] <|
        .grd 38 false [⟨(some 44), .pick (.t 41) (.t 43) (.c (.bool false)), []⟩] <|
        .op ⟨(some 45), .pick (.t 38) (.c (.bool true)) (.t 44), []⟩ <|
        .op ⟨(some 21), .mov (.t 45), []⟩ <|
        .nil)) (
      .cond (.t 21) (.seq (.ops (
          .op ⟨(some 10), .mov (.c .nilp), []⟩ <|
          .nil)) (
        .ret)) (.skip)))))) (
    .seq (.ops (
      .op ⟨(some 11), .mov (.c (.int .i64 0)), []⟩ <|
      .nil)) (
    .seq (.block 1 (.loop [1, 2, 3, 4, 5, 11] [1, 2, 3, 4, 5, 11] (arena_NewMake_c1))) (
    arena_NewMake_c0))))

def arena_NewMake_hs : List (List Nat × List Nat) := [([1, 2, 3, 4, 5, 11], [1, 2, 3, 4, 5, 11])]

end Wm.F
end

section
/- PRINTED by my tool (wip/wm/tool/Gen.lean): a function as one of my machine. -/
namespace Wm.F
open Wm
set_option maxRecDepth 100000

/-- 465: (*withy/client.Client).shade -/
def client_Client_shade : AFunc where
  closed := false
  nparams := 2
  ntmps := 25
  results := []
  body := .seq (.ops (
      .op ⟨(some 4), .mov (.t 0), []⟩ <|
      .op ⟨(some 5), .nilc (.t 4), []⟩ <|
      .op ⟨(some 6), .fieldA 24 (.t 5), []⟩ <|
      .op ⟨none, .store 1 (.t 6) (.c (.int .i64 6)), []⟩ <|
      .nil)) (
    .seq (.seq (.ops (
      .op ⟨(some 7), .mov (.t 0), []⟩ <|
      .op ⟨(some 8), .call 494 [(.t 7)], []⟩ <|
      .nil)) (
    .cond (.t 8) (.seq (.ops (
        .op ⟨(some 9), .mov (.t 0), []⟩ <|
        .op ⟨(some 10), .mov (.t 0), []⟩ <|
        .op ⟨(some 11), .nilc (.t 10), []⟩ <|
        .op ⟨(some 12), .fieldA 0 (.t 11), []⟩ <|
        .op ⟨(some 13), .loadN 6 (.t 12), []⟩ <|
        .op ⟨(some 14), .mov (.t 1), []⟩ <|
        .op ⟨(some 15), .mov (.t 0), []⟩ <|
        .op ⟨(some 16), .nilc (.t 15), []⟩ <|
        .op ⟨(some 17), .fieldA 26 (.t 16), []⟩ <|
        .op ⟨(some 18), .load1 (.t 17), []⟩ <|
        .op ⟨(some 19), .call 90 [(.t 13), (.t 14), (.t 18)], []⟩ <|
        .op ⟨(some 20), .mkIfc 47 (.t 19), []⟩ <|
        .op ⟨(some 21), .nilc (.t 9), []⟩ <|
        .op ⟨(some 22), .fieldA 25 (.t 21), []⟩ <|
        .op ⟨none, .store 1 (.t 22) (.t 20), []⟩ <|
        .nil)) (
      .ret)) (.skip))) (
    .ops (
      .op ⟨(some 23), .mov (.t 0), []⟩ <|
      .op ⟨(some 24), .call 428 [(.t 23)], []⟩ <|
      .nil)))

def client_Client_shade_hs : List (List Nat × List Nat) := []

end Wm.F
end

section
/- PRINTED by my tool (wip/wm/tool/Gen.lean): a function as one of my machine. -/
namespace Wm.F
open Wm
set_option maxRecDepth 100000

/-- 466: (*withy/client.Client).load -/
def client_Client_load : AFunc where
  closed := false
  nparams := 2
  ntmps := 18
  results := []
  body := .seq (.ops (
      .op ⟨(some 4), .mov (.t 0), []⟩ <|
      .op ⟨(some 5), .mov (.t 1), []⟩ <|
      .op ⟨(some 6), .build [(.int .i64 0), (.int .u64 0), (.bool false), (.bool false)] [(0, 1, (.t 5))], []⟩ <|
      .op ⟨(some 7), .box (.t 6), []⟩ <|
      .op ⟨(some 8), .nilc (.t 4), []⟩ <|
      .op ⟨(some 9), .fieldA 32 (.t 8), []⟩ <|
      .op ⟨none, .store 1 (.t 9) (.t 7), []⟩ <|
      .nil)) (
    .ops (
      .op ⟨(some 10), .mov (.t 0), []⟩ <|
      .op ⟨(some 11), .mov (.t 0), []⟩ <|
      .op ⟨(some 12), .nilc (.t 11), []⟩ <|
      .op ⟨(some 13), .fieldA 32 (.t 12), []⟩ <|
      .op ⟨(some 14), .load1 (.t 13), []⟩ <|
      .op ⟨(some 15), .mkIfc 388 (.t 14), []⟩ <|
      .op ⟨(some 16), .nilc (.t 10), []⟩ <|
      .op ⟨(some 17), .fieldA 25 (.t 16), []⟩ <|
      .op ⟨none, .store 1 (.t 17) (.t 15), []⟩ <|
      .nil))

def client_Client_load_hs : List (List Nat × List Nat) := []

end Wm.F
end

section
/- PRINTED by my tool (wip/wm/tool/Gen.lean): a function as one of my machine. -/
namespace Wm.F
open Wm
set_option maxRecDepth 100000

/-- 176: (*withy/iter.Walk).Step -/
def iter_Walk_Step : AFunc where
  closed := false
  nparams := 2
  ntmps := 105
  results := [.tmp 4]
  body := .seq (.ops (
      .op ⟨(some 4), .mov (.c (.bool false)), []⟩ <|
      .nil)) (
    .seq (.seq (.ops (
      .op ⟨(some 8), .mov (.t 0), []⟩ <|
      .op ⟨(some 9), .call 171 [(.t 8)], []⟩ <|
      .op ⟨(some 10), .cmp .eql .i64 (.t 9) (.c (.int .i64 0)), []⟩ <|
      .nil)) (
    .cond (.t 10) (.seq (.ops (
        .op ⟨(some 4), .mov (.c (.bool true)), []⟩ <|
        .nil)) (
      .ret)) (.skip))) (
    .seq (.seq (.ops (
      .op ⟨(some 11), .mov (.t 0), []⟩ <|
      .op ⟨(some 12), .nilc (.t 11), []⟩ <|
      .op ⟨(some 13), .fieldA 13 (.t 12), []⟩ <|
      .op ⟨(some 14), .load1 (.t 13), []⟩ <|
      .nil)) (
    .block 0 (.seq (.ops (
      .op ⟨(some 16), .cmp .eql .i64 (.t 14) (.c (.int .i64 0)), []⟩ <|
      .op ⟨(some 15), .mov (.t 16), []⟩ <|
      .nil)) (
    .cond (.t 15) (.seq (.ops (
        .op ⟨(some 18), .mov (.t 1), []⟩ <|
        .op ⟨(some 19), .mov (.t 0), []⟩ <|
        .op ⟨(some 20), .nilc (.t 19), []⟩ <|
        .op ⟨(some 21), .fieldA 0 (.t 20), []⟩ <|
        .op ⟨(some 22), .loadN 6 (.t 21), []⟩ <|
        .op ⟨(some 23), .mov (.t 0), []⟩ <|
        .op ⟨(some 24), .nilc (.t 23), []⟩ <|
        .op ⟨(some 25), .fieldA 8 (.t 24), []⟩ <|
        .op ⟨(some 26), .load1 (.t 25), []⟩ <|
        .op ⟨(some 27), .indexA 1 (.t 26) (.c (.int .i64 0)), []⟩ <|
        .op ⟨(some 28), .load1 (.t 27), []⟩ <|
        .op ⟨(some 29), .call 261 [(.t 22), (.t 28)], []⟩ <|
        .op ⟨(some 30), .call 266 [(.t 18), (.t 29)], []⟩ <|
        .op ⟨(some 31), .call 265 [(.t 30)], []⟩ <|
        .op ⟨(some 17), .mov (.t 31), []⟩ <|
        .op ⟨(some 32), .extract (.t 17) 0, []⟩ <|
        .op ⟨(some 33), .extract (.t 17) 1, []⟩ <|
        .op ⟨(some 5), .alloc [(.int .i64 0), (.int .i64 0), (.bool false), (.int .i64 0), (.int .i64 0), (.int .i64 0)], []⟩ <|
        .op ⟨none, .store 6 (.t 5) (.t 32), []⟩ <|
        .op ⟨(some 6), .mov (.t 33), []⟩ <|
        .nil)) (
      .seq (.ops (
        .op ⟨(some 34), .mov (.t 0), []⟩ <|
        .op ⟨(some 35), .mov (.t 0), []⟩ <|
        .op ⟨(some 36), .fieldA 3 (.t 5), []⟩ <|
        .op ⟨(some 37), .load1 (.t 36), []⟩ <|
        .op ⟨(some 38), .nilc (.t 34), []⟩ <|
        .op ⟨(some 39), .fieldA 11 (.t 38), []⟩ <|
        .op ⟨none, .store 1 (.t 39) (.t 37), []⟩ <|
        .op ⟨(some 40), .nilc (.t 35), []⟩ <|
        .op ⟨(some 41), .fieldA 12 (.t 40), []⟩ <|
        .op ⟨none, .store 1 (.t 41) (.c (.int .i64 0)), []⟩ <|
        .nil)) (
      .ops (
        .op ⟨(some 42), .mov (.t 0), []⟩ <|
        .op ⟨(some 43), .call 330 [(.t 42)], []⟩ <|
        .nil)))) (.seq (.ops (
        .op ⟨(some 45), .cmp .eql .i64 (.t 14) (.c (.int .i64 1)), []⟩ <|
        .op ⟨(some 44), .mov (.t 45), []⟩ <|
        .nil)) (
      .cond (.t 44) (.seq (.seq (.ops (
          .op ⟨(some 46), .mov (.t 0), []⟩ <|
          .op ⟨(some 47), .nilc (.t 46), []⟩ <|
          .op ⟨(some 48), .fieldA 10 (.t 47), []⟩ <|
          .op ⟨(some 49), .load1 (.t 48), []⟩ <|
          .op ⟨(some 50), .mov (.t 1), []⟩ <|
          .op ⟨(some 51), .call 147 [(.t 49), (.t 50)], []⟩ <|
          .op ⟨(some 52), .not (.t 51), []⟩ <|
          .nil)) (
        .cond (.t 52) (.exit 0) (.skip))) (
        .seq (.seq (.ops (
          .op ⟨(some 53), .mov (.t 0), []⟩ <|
          .op ⟨(some 54), .nilc (.t 53), []⟩ <|
          .op ⟨(some 55), .fieldA 10 (.t 54), []⟩ <|
          .op ⟨(some 56), .load1 (.t 55), []⟩ <|
          .op ⟨(some 57), .nilc (.t 56), []⟩ <|
          .op ⟨(some 58), .fieldA 0 (.t 57), []⟩ <|
          .op ⟨(some 59), .load1 (.t 58), []⟩ <|
          .op ⟨(some 7), .mov (.t 59), []⟩ <|
          .nil)) (
        .seq (.ops (
          .op ⟨(some 60), .mov (.t 7), []⟩ <|
          .op ⟨(some 61), .cmp .geq .i64 (.t 60) (.c (.int .i64 0)), []⟩ <|
          .op ⟨(some 62), .mov (.t 61), []⟩ <|
          .grd 62 true [⟨(some 63), .mov (.t 0), []⟩,
              ⟨(some 64), .nilc (.t 63), []⟩,
              ⟨(some 65), .fieldA 9 (.t 64), []⟩,
              ⟨(some 66), .load1 (.t 65), []⟩,
              ⟨(some 67), .mov (.t 7), []⟩,
              ⟨(some 68), .call 331 [(.t 66), (.t 67)], []⟩,
              ⟨(some 69), .not (.t 68), []⟩] <|
          .op ⟨(some 70), .pick (.t 62) (.t 69) (.c (.bool false)), []⟩ <|
          .nil)) (
        .cond (.t 70) (.seq (.ops (
            .op ⟨(some 71), .mov (.t 0), []⟩ <|
            .op ⟨(some 72), .mov (.t 0), []⟩ <|
            .op ⟨(some 73), .nilc (.t 72), []⟩ <|
            .op ⟨(some 74), .fieldA 9 (.t 73), []⟩ <|
            .op ⟨(some 75), .load1 (.t 74), []⟩ <|
            .op ⟨(some 76), .mov (.t 7), []⟩ <|
            .op ⟨(some 77), .buildSl 1 1 [(.int .i64 0)] [(0, 1, (.t 76))], []⟩ <|
            .op ⟨(some 78), .append 1 8 (.t 75) (.t 77), []⟩ <|
            .op ⟨(some 79), .nilc (.t 71), []⟩ <|
            .op ⟨(some 80), .fieldA 9 (.t 79), []⟩ <|
            .op ⟨none, .store 1 (.t 80) (.t 78), []⟩ <|
            .nil)) (
          .ops (
            .op ⟨(some 81), .mov (.t 0), []⟩ <|
            .op ⟨(some 82), .mov (.t 0), []⟩ <|
            .op ⟨(some 83), .nilc (.t 82), []⟩ <|
            .op ⟨(some 84), .fieldA 8 (.t 83), []⟩ <|
            .op ⟨(some 85), .load1 (.t 84), []⟩ <|
            .op ⟨(some 86), .mov (.t 7), []⟩ <|
            .op ⟨(some 87), .buildSl 1 1 [(.int .i64 0)] [(0, 1, (.t 86))], []⟩ <|
            .op ⟨(some 88), .append 1 8 (.t 85) (.t 87), []⟩ <|
            .op ⟨(some 89), .nilc (.t 81), []⟩ <|
            .op ⟨(some 90), .fieldA 8 (.t 89), []⟩ <|
            .op ⟨none, .store 1 (.t 90) (.t 88), []⟩ <|
            .nil))) (.skip)))) (
        .seq (.ops (
          .op ⟨(some 91), .mov (.t 0), []⟩ <|
          .op ⟨(some 92), .nilc (.t 91), []⟩ <|
          .op ⟨(some 93), .fieldA 12 (.t 92), []⟩ <|
          .op ⟨(some 94), .load1 (.t 93), []⟩ <|
          .op ⟨(some 95), .arith .add .i64 (.t 94) (.c (.int .i64 1)), []⟩ <|
          .op ⟨(some 96), .nilc (.t 91), []⟩ <|
          .op ⟨(some 97), .fieldA 12 (.t 96), []⟩ <|
          .op ⟨none, .store 1 (.t 97) (.t 95), []⟩ <|
          .nil)) (
        .ops (
          .op ⟨(some 98), .mov (.t 0), []⟩ <|
          .op ⟨(some 99), .call 330 [(.t 98)], []⟩ <|
          .nil))))) (.skip))))))) (
    .seq (.ops (
      .op ⟨(some 100), .mov (.t 0), []⟩ <|
      .op ⟨(some 101), .nilc (.t 100), []⟩ <|
      .op ⟨(some 102), .fieldA 13 (.t 101), []⟩ <|
      .op ⟨(some 103), .load1 (.t 102), []⟩ <|
      .op ⟨(some 104), .cmp .eql .i64 (.t 103) (.c (.int .i64 2)), []⟩ <|
      .op ⟨(some 4), .mov (.t 104), []⟩ <|
      .nil)) (
    .ret))))

def iter_Walk_Step_hs : List (List Nat × List Nat) := []

end Wm.F
end

section
/- PRINTED by my tool (wip/wm/tool/Gen.lean): a function as one of my machine. -/
namespace Wm.F
open Wm
set_option maxRecDepth 100000

/-- 554: (*withy/arena.Make).Step -/
def arena_Make_Step : AFunc where
  closed := false
  nparams := 2
  ntmps := 157
  results := [.tmp 4]
  body := .seq (.ops (
      .op ⟨(some 4), .mov (.c (.bool false)), []⟩ <|
      .nil)) (
    .seq (.seq (.ops (
      .op ⟨(some 10), .mov (.t 0), []⟩ <|
      .op ⟨(some 11), .eq false .ptr (.t 10) (.c .nilp), []⟩ <|
      .nil)) (
    .cond (.t 11) (.seq (.ops (
        .op ⟨(some 4), .mov (.c (.bool true)), []⟩ <|
        .nil)) (
      .ret)) (.skip))) (
    .seq (.ops (
      .op ⟨(some 12), .mov (.t 0), []⟩ <|
      .op ⟨(some 13), .nilc (.t 12), []⟩ <|
      .op ⟨(some 14), .fieldA 12 (.t 13), []⟩ <|
      .op ⟨(some 15), .load1 (.t 14), []⟩ <|
      .op ⟨(some 16), .nilc (.t 15), []⟩ <|
      .op ⟨(some 17), .fieldA 0 (.t 16), []⟩ <|
      .op ⟨(some 18), .load1 (.t 17), []⟩ <|
      .op ⟨(some 5), .mov (.t 18), []⟩ <|
      .nil)) (
    .seq (.seq (.ops (
      .op ⟨(some 19), .mov (.t 0), []⟩ <|
      .op ⟨(some 20), .nilc (.t 19), []⟩ <|
      .op ⟨(some 21), .fieldA 15 (.t 20), []⟩ <|
      .op ⟨(some 22), .load1 (.t 21), []⟩ <|
      .nil)) (
    .block 0 (.seq (.ops (
      .op ⟨(some 24), .cmp .eql .i64 (.t 22) (.c (.int .i64 0)), []⟩ <|
      .op ⟨(some 23), .mov (.t 24), []⟩ <|
      .nil)) (
    .cond (.t 23) (.seq (.seq (.ops (
        .op ⟨(some 25), .mov (.t 0), []⟩ <|
        .op ⟨(some 26), .nilc (.t 25), []⟩ <|
        .op ⟨(some 27), .fieldA 12 (.t 26), []⟩ <|
        .op ⟨(some 28), .load1 (.t 27), []⟩ <|
        .op ⟨(some 29), .mov (.t 1), []⟩ <|
        .op ⟨(some 30), .call 555 [(.t 28), (.t 29)], []⟩ <|
        .op ⟨(some 31), .not (.t 30), []⟩ <|
        .nil)) (
      .cond (.t 31) (.exit 0) (.skip))) (
      .seq (.ops (
        .op ⟨(some 32), .mov (.t 0), []⟩ <|
        .op ⟨(some 33), .nilc (.t 32), []⟩ <|
        .op ⟨(some 34), .fieldA 15 (.t 33), []⟩ <|
        .op ⟨none, .store 1 (.t 34) (.c (.int .i64 1)), []⟩ <|
        .nil)) (
      .seq (.ops (
        .op ⟨(some 35), .mov (.t 0), []⟩ <|
        .op ⟨(some 36), .nilc (.t 35), []⟩ <|
        .op ⟨(some 37), .fieldA 12 (.t 36), []⟩ <|
        .op ⟨(some 38), .load1 (.t 37), []⟩ <|
        .op ⟨(some 39), .nilc (.t 38), []⟩ <|
        .op ⟨(some 40), .fieldA 1 (.t 39), []⟩ <|
        .op ⟨(some 41), .load1 (.t 40), []⟩ <|
        .nil)) (
      .cond (.t 41) (.ops (
          .op ⟨(some 42), .mov (.t 0), []⟩ <|
          .op ⟨(some 43), .mov (.t 0), []⟩ <|
          .op ⟨(some 44), .nilc (.t 42), []⟩ <|
          .op ⟨(some 45), .fieldA 1 (.t 44), []⟩ <|
          .op ⟨none, .store 1 (.t 45) (.c (.bool true)), []⟩ <|
          .op ⟨(some 46), .nilc (.t 43), []⟩ <|
          .op ⟨(some 47), .fieldA 15 (.t 46), []⟩ <|
          .op ⟨none, .store 1 (.t 47) (.c (.int .i64 5)), []⟩ <|
          .nil)) (.skip))))) (.seq (.ops (
        .op ⟨(some 49), .cmp .eql .i64 (.t 22) (.c (.int .i64 1)), []⟩ <|
        .op ⟨(some 48), .mov (.t 49), []⟩ <|
        .nil)) (
      .cond (.t 48) (.seq (.ops (
          .op ⟨(some 51), .mov (.t 1), []⟩ <|
          .op ⟨(some 52), .mov (.t 0), []⟩ <|
          .op ⟨(some 53), .nilc (.t 52), []⟩ <|
          .op ⟨(some 54), .fieldA 2 (.t 53), []⟩ <|
          .op ⟨(some 55), .loadN 6 (.t 54), []⟩ <|
          .op ⟨(some 56), .mov (.t 5), []⟩ <|
          .op ⟨(some 57), .call 261 [(.t 55), (.t 56)], []⟩ <|
          .op ⟨(some 58), .call 266 [(.t 51), (.t 57)], []⟩ <|
          .op ⟨(some 59), .call 265 [(.t 58)], []⟩ <|
          .op ⟨(some 50), .mov (.t 59), []⟩ <|
          .op ⟨(some 60), .extract (.t 50) 0, []⟩ <|
          .op ⟨(some 61), .extract (.t 50) 1, []⟩ <|
          .op ⟨(some 6), .alloc [(.int .i64 0), (.int .i64 0), (.bool false), (.int .i64 0), (.int .i64 0), (.int .i64 0)], []⟩ <|
          .op ⟨none, .store 6 (.t 6) (.t 60), []⟩ <|
          .op ⟨(some 7), .mov (.t 61), []⟩ <|
          .nil)) (
        .ops (
          .op ⟨(some 62), .mov (.t 0), []⟩ <|
          .op ⟨(some 63), .mov (.t 0), []⟩ <|
          .op ⟨(some 64), .fieldA 4 (.t 6), []⟩ <|
          .op ⟨(some 65), .load1 (.t 64), []⟩ <|
          .op ⟨(some 66), .nilc (.t 62), []⟩ <|
          .op ⟨(some 67), .fieldA 13 (.t 66), []⟩ <|
          .op ⟨none, .store 1 (.t 67) (.t 65), []⟩ <|
          .op ⟨(some 68), .nilc (.t 63), []⟩ <|
          .op ⟨(some 69), .fieldA 15 (.t 68), []⟩ <|
          .op ⟨none, .store 1 (.t 69) (.c (.int .i64 2)), []⟩ <|
          .nil))) (.seq (.ops (
          .op ⟨(some 71), .cmp .eql .i64 (.t 22) (.c (.int .i64 2)), []⟩ <|
          .op ⟨(some 70), .mov (.t 71), []⟩ <|
          .nil)) (
        .cond (.t 70) (.seq (.ops (
            .op ⟨(some 72), .mov (.t 1), []⟩ <|
            .op ⟨(some 73), .mov (.t 0), []⟩ <|
            .op ⟨(some 74), .nilc (.t 73), []⟩ <|
            .op ⟨(some 75), .fieldA 2 (.t 74), []⟩ <|
            .op ⟨(some 76), .loadN 6 (.t 75), []⟩ <|
            .op ⟨(some 77), .mov (.t 5), []⟩ <|
            .op ⟨(some 78), .mov (.t 0), []⟩ <|
            .op ⟨(some 79), .nilc (.t 78), []⟩ <|
            .op ⟨(some 80), .fieldA 14 (.t 79), []⟩ <|
            .op ⟨(some 81), .load1 (.t 80), []⟩ <|
            .op ⟨(some 83), .mov (.t 0), []⟩ <|
            .op ⟨(some 84), .nilc (.t 83), []⟩ <|
            .op ⟨(some 85), .fieldA 11 (.t 84), []⟩ <|
            .op ⟨(some 86), .load1 (.t 85), []⟩ <|
            .op ⟨(some 87), .mov (.t 0), []⟩ <|
            .op ⟨(some 88), .nilc (.t 87), []⟩ <|
            .op ⟨(some 89), .fieldA 14 (.t 88), []⟩ <|
            .op ⟨(some 90), .load1 (.t 89), []⟩ <|
            .op ⟨(some 91), .indexA 1 (.t 86) (.t 90), []⟩ <|
            .op ⟨(some 92), .load1 (.t 91), []⟩ <|
            .op ⟨(some 82), .call 305 [(.t 76), (.t 77), (.t 81)], [{ g := none, op := .load1 (.t 91), d := 92 }, { g := none, op := .load1 (.t 89), d := 90 }, { g := none, op := .load1 (.t 85), d := 86 }]⟩ <|
            .op ⟨(some 93), .call 203 [(.t 72), (.t 82), (.t 92)], []⟩ <|
            .nil)) (
          .seq (.ops (
            .op ⟨(some 94), .mov (.t 0), []⟩ <|
            .op ⟨(some 95), .nilc (.t 94), []⟩ <|
            .op ⟨(some 96), .fieldA 14 (.t 95), []⟩ <|
            .op ⟨(some 97), .load1 (.t 96), []⟩ <|
            .op ⟨(some 98), .arith .add .i64 (.t 97) (.c (.int .i64 1)), []⟩ <|
            .op ⟨(some 99), .nilc (.t 94), []⟩ <|
            .op ⟨(some 100), .fieldA 14 (.t 99), []⟩ <|
            .op ⟨none, .store 1 (.t 100) (.t 98), []⟩ <|
            .nil)) (
          .seq (.ops (
            .op ⟨(some 101), .mov (.t 0), []⟩ <|
            .op ⟨(some 102), .nilc (.t 101), []⟩ <|
            .op ⟨(some 103), .fieldA 14 (.t 102), []⟩ <|
            .op ⟨(some 104), .load1 (.t 103), []⟩ <|
            .op ⟨(some 105), .mov (.t 0), []⟩ <|
            .op ⟨(some 106), .nilc (.t 105), []⟩ <|
            .op ⟨(some 107), .fieldA 11 (.t 106), []⟩ <|
            .op ⟨(some 108), .load1 (.t 107), []⟩ <|
            .op ⟨(some 109), .lenSl (.t 108), []⟩ <|
            .op ⟨(some 110), .cmp .eql .i64 (.t 104) (.t 109), []⟩ <|
            .nil)) (
          .cond (.t 110) (.ops (
              .op ⟨(some 111), .mov (.t 0), []⟩ <|
              .op ⟨(some 112), .nilc (.t 111), []⟩ <|
              .op ⟨(some 113), .fieldA 15 (.t 112), []⟩ <|
              .op ⟨none, .store 1 (.t 113) (.c (.int .i64 3)), []⟩ <|
              .nil)) (.skip))))) (.seq (.ops (
            .op ⟨(some 115), .cmp .eql .i64 (.t 22) (.c (.int .i64 3)), []⟩ <|
            .op ⟨(some 114), .mov (.t 115), []⟩ <|
            .nil)) (
          .cond (.t 114) (.seq (.ops (
              .op ⟨(some 117), .mov (.t 0), []⟩ <|
              .op ⟨(some 118), .nilc (.t 117), []⟩ <|
              .op ⟨(some 119), .fieldA 8 (.t 118), []⟩ <|
              .op ⟨(some 120), .load1 (.t 119), []⟩ <|
              .op ⟨(some 121), .mov (.t 0), []⟩ <|
              .op ⟨(some 122), .nilc (.t 121), []⟩ <|
              .op ⟨(some 123), .fieldA 9 (.t 122), []⟩ <|
              .op ⟨(some 124), .load1 (.t 123), []⟩ <|
              .op ⟨(some 125), .mov (.t 0), []⟩ <|
              .op ⟨(some 126), .nilc (.t 125), []⟩ <|
              .op ⟨(some 127), .fieldA 13 (.t 126), []⟩ <|
              .op ⟨(some 128), .load1 (.t 127), []⟩ <|
              .op ⟨(some 129), .mov (.t 0), []⟩ <|
              .op ⟨(some 130), .nilc (.t 129), []⟩ <|
              .op ⟨(some 131), .fieldA 10 (.t 130), []⟩ <|
              .op ⟨(some 132), .load1 (.t 131), []⟩ <|
              .op ⟨(some 133), .call 556 [(.t 120), (.t 124), (.t 128), (.t 132)], []⟩ <|
              .op ⟨(some 116), .mov (.t 133), []⟩ <|
              .op ⟨(some 134), .extract (.t 116) 0, []⟩ <|
              .op ⟨(some 135), .extract (.t 116) 1, []⟩ <|
              .op ⟨(some 8), .mov (.t 134), []⟩ <|
              .op ⟨(some 9), .mov (.t 135), []⟩ <|
              .nil)) (
            .seq (.ops (
              .op ⟨(some 136), .mov (.t 1), []⟩ <|
              .op ⟨(some 137), .mov (.t 0), []⟩ <|
              .op ⟨(some 138), .nilc (.t 137), []⟩ <|
              .op ⟨(some 139), .fieldA 2 (.t 138), []⟩ <|
              .op ⟨(some 140), .loadN 6 (.t 139), []⟩ <|
              .op ⟨(some 141), .mov (.t 5), []⟩ <|
              .op ⟨(some 142), .call 261 [(.t 140), (.t 141)], []⟩ <|
              .op ⟨(some 143), .mov (.t 8), []⟩ <|
              .op ⟨(some 144), .call 203 [(.t 136), (.t 142), (.t 143)], []⟩ <|
              .nil)) (
            .ops (
              .op ⟨(some 145), .mov (.t 0), []⟩ <|
              .op ⟨(some 146), .mov (.t 0), []⟩ <|
              .op ⟨(some 147), .mov (.t 5), []⟩ <|
              .op ⟨(some 148), .nilc (.t 145), []⟩ <|
              .op ⟨(some 149), .fieldA 0 (.t 148), []⟩ <|
              .op ⟨none, .store 1 (.t 149) (.t 147), []⟩ <|
              .op ⟨(some 150), .nilc (.t 146), []⟩ <|
              .op ⟨(some 151), .fieldA 15 (.t 150), []⟩ <|
              .op ⟨none, .store 1 (.t 151) (.c (.int .i64 5)), []⟩ <|
              .nil)))) (.skip))))))))))) (
    .seq (.ops (
      .op ⟨(some 152), .mov (.t 0), []⟩ <|
      .op ⟨(some 153), .nilc (.t 152), []⟩ <|
      .op ⟨(some 154), .fieldA 15 (.t 153), []⟩ <|
      .op ⟨(some 155), .load1 (.t 154), []⟩ <|
      .op ⟨(some 156), .cmp .eql .i64 (.t 155) (.c (.int .i64 5)), []⟩ <|
      .op ⟨(some 4), .mov (.t 156), []⟩ <|
      .nil)) (
    .ret)))))

def arena_Make_Step_hs : List (List Nat × List Nat) := []

end Wm.F
end

section
/- PRINTED by my tool (wip/wm/tool/Gen.lean): a function as one of my machine. -/
namespace Wm.F
open Wm
set_option maxRecDepth 100000

/-- 127: withy/field.NewRead -/
def field_NewRead : AFunc where
  closed := false
  nparams := 4
  ntmps := 20
  results := [.tmp 8]
  body := .seq (.ops (
      .op ⟨(some 4), .box (.t 0), []⟩ <|
      .op ⟨(some 8), .mov (.c .nilp), []⟩ <|
      .nil)) (
    .seq (.ops (
      .op ⟨(some 10), .loadN 6 (.t 4), []⟩ <|
      .op ⟨(some 11), .mov (.t 1), []⟩ <|
      .op ⟨(some 12), .mov (.t 2), []⟩ <|
      .op ⟨(some 13), .mov (.t 3), []⟩ <|
      .op ⟨(some 14), .call 302 [(.t 10), (.t 11), (.t 12), (.t 13)], []⟩ <|
      .op ⟨(some 9), .mov (.t 14), []⟩ <|
      .nil)) (
    .seq (.seq (.ops (
      .op ⟨(some 15), .mov (.t 9), []⟩ <|
      .op ⟨(some 16), .eq false .ptr (.t 15) (.c .nilp), []⟩ <|
      .nil)) (
    .cond (.t 16) (.seq (.ops (
        .op ⟨(some 8), .mov (.c .nilp), []⟩ <|
        .nil)) (
      .ret)) (.skip))) (
    .seq (.ops (
      .op ⟨(some 17), .mov (.t 9), []⟩ <|
      .op ⟨(some 18), .build [(.int .i64 0), (.int .i64 0), (.int .i64 0), .nilp, (.int .i64 0)] [(0, 1, (.c (.int .i64 (-1)))), (1, 1, (.c (.int .i64 (-1)))), (3, 1, (.t 17))], []⟩ <|
      .op ⟨(some 19), .box (.t 18), []⟩ <|
      .op ⟨(some 8), .mov (.t 19), []⟩ <|
      .nil)) (
    .ret))))

def field_NewRead_hs : List (List Nat × List Nat) := []

end Wm.F
end

section
/- PRINTED by my tool (wip/wm/tool/Gen.lean): a function as one of my machine. -/
namespace Wm.F
open Wm
set_option maxRecDepth 100000

/-- 265: withy/head.Unpack -/
def head_Unpack : AFunc where
  closed := true
  nparams := 1
  ntmps := 53
  results := [.cell true 6 2, .tmp 3]
  body := .seq (.ops (
      .op ⟨(some 2), .alloc [(.int .i64 0), (.int .i64 0), (.bool false), (.int .i64 0), (.int .i64 0), (.int .i64 0)], []⟩ <|
      .op ⟨(some 3), .mov (.c (.bool false)), []⟩ <|
      .nil)) (
    .seq (.ops (
      .op ⟨(some 7), .mov (.t 0), []⟩ <|
      .op ⟨(some 8), .buildSl 1 7 [(.int .i64 0)] [(0, 1, (.c (.int .i64 3))), (1, 1, (.c (.int .i64 1))), (2, 1, (.c (.int .i64 1))), (3, 1, (.c (.int .i64 4))), (4, 1, (.c (.int .i64 7))), (5, 1, (.c (.int .i64 32))), (6, 1, (.c (.int .i64 16)))], []⟩ <|
      .op ⟨(some 9), .call 379 [(.t 7), (.t 8)], []⟩ <|
      .op ⟨(some 6), .mov (.t 9), []⟩ <|
      .op ⟨(some 10), .extract (.t 6) 0, []⟩ <|
      .op ⟨(some 11), .extract (.t 6) 1, []⟩ <|
      .op ⟨(some 4), .mov (.t 10), []⟩ <|
      .op ⟨(some 5), .mov (.t 11), []⟩ <|
      .nil)) (
    .seq (.seq (.ops (
      .op ⟨(some 12), .mov (.t 4), []⟩ <|
      .op ⟨(some 13), .lenSl (.t 12), []⟩ <|
      .op ⟨(some 14), .cmp .lss .i64 (.t 13) (.c (.int .i64 7)), []⟩ <|
      .op ⟨(some 15), .mov (.t 14), []⟩ <|
      .grd 15 false [⟨(some 16), .mov (.t 4), []⟩,
          ⟨(some 17), .indexA 1 (.t 16) (.c (.int .i64 0)), []⟩,
          ⟨(some 18), .load1 (.t 17), []⟩,
          ⟨(some 19), .cmp .gtr .u64 (.t 18) (.c (.int .u64 4)), []⟩] <|
      .op ⟨(some 20), .pick (.t 15) (.c (.bool true)) (.t 19), []⟩ <|
      .op ⟨(some 21), .mov (.t 20), []⟩ <|
      .grd 21 false [⟨(some 22), .mov (.t 4), []⟩,
          ⟨(some 23), .indexA 1 (.t 22) (.c (.int .i64 4)), []⟩,
          ⟨(some 24), .load1 (.t 23), []⟩,
          ⟨(some 25), .cmp .neq .u64 (.t 24) (.c (.int .u64 0)), []⟩] <|
      .op ⟨(some 26), .pick (.t 21) (.c (.bool true)) (.t 25), []⟩ <|
      .nil)) (
    .cond (.t 26) (.seq (.ops (
        .op ⟨(some 27), .build [(.int .i64 0), (.int .i64 0), (.bool false), (.int .i64 0), (.int .i64 0), (.int .i64 0)] [], []⟩ <|
        .op ⟨none, .store 6 (.t 2) (.t 27), []⟩ <|
        .op ⟨(some 3), .mov (.c (.bool false)), []⟩ <|
        .nil)) (
      .ret)) (.skip))) (
    .seq (.ops (
      .op ⟨(some 28), .mov (.t 4), []⟩ <|
      .op ⟨(some 29), .indexA 1 (.t 28) (.c (.int .i64 0)), []⟩ <|
      .op ⟨(some 30), .load1 (.t 29), []⟩ <|
      .op ⟨(some 31), .conv .i64 (.t 30), []⟩ <|
      .op ⟨(some 32), .mov (.t 4), []⟩ <|
      .op ⟨(some 33), .indexA 1 (.t 32) (.c (.int .i64 1)), []⟩ <|
      .op ⟨(some 34), .load1 (.t 33), []⟩ <|
      .op ⟨(some 35), .conv .i64 (.t 34), []⟩ <|
      .op ⟨(some 36), .mov (.t 4), []⟩ <|
      .op ⟨(some 37), .indexA 1 (.t 36) (.c (.int .i64 2)), []⟩ <|
      .op ⟨(some 38), .load1 (.t 37), []⟩ <|
      .op ⟨(some 39), .cmp .eql .u64 (.t 38) (.c (.int .u64 1)), []⟩ <|
      .op ⟨(some 40), .mov (.t 4), []⟩ <|
      .op ⟨(some 41), .indexA 1 (.t 40) (.c (.int .i64 3)), []⟩ <|
      .op ⟨(some 42), .load1 (.t 41), []⟩ <|
      .op ⟨(some 43), .conv .i64 (.t 42), []⟩ <|
      .op ⟨(some 44), .mov (.t 4), []⟩ <|
      .op ⟨(some 45), .indexA 1 (.t 44) (.c (.int .i64 5)), []⟩ <|
      .op ⟨(some 46), .load1 (.t 45), []⟩ <|
      .op ⟨(some 47), .conv .i64 (.t 46), []⟩ <|
      .op ⟨(some 48), .mov (.t 4), []⟩ <|
      .op ⟨(some 49), .indexA 1 (.t 48) (.c (.int .i64 6)), []⟩ <|
      .op ⟨(some 50), .load1 (.t 49), []⟩ <|
      .op ⟨(some 51), .conv .i64 (.t 50), []⟩ <|
      .op ⟨(some 52), .build [(.int .i64 0), (.int .i64 0), (.bool false), (.int .i64 0), (.int .i64 0), (.int .i64 0)] [(0, 1, (.t 31)), (1, 1, (.t 35)), (2, 1, (.t 39)), (3, 1, (.t 43)), (4, 1, (.t 47)), (5, 1, (.t 51))], []⟩ <|
      .op ⟨none, .store 6 (.t 2) (.t 52), []⟩ <|
      .op ⟨(some 3), .mov (.c (.bool true)), []⟩ <|
      .nil)) (
    .ret))))

def head_Unpack_hs : List (List Nat × List Nat) := []

end Wm.F
end

section
/- PRINTED by my tool (wip/wm/tool/Gen.lean): a function as one of my machine. -/
namespace Wm.F
open Wm
set_option maxRecDepth 100000

/-- 467: (*withy/client.Client).record -/
def client_Client_record : AFunc where
  closed := false
  nparams := 1
  ntmps := 40
  results := []
  body := .seq (.ops (
      .op ⟨(some 3), .mov (.t 0), []⟩ <|
      .op ⟨(some 4), .nilc (.t 3), []⟩ <|
      .op ⟨(some 5), .fieldA 28 (.t 4), []⟩ <|
      .op ⟨(some 6), .load1 (.t 5), []⟩ <|
      .op ⟨(some 2), .mov (.t 6), []⟩ <|
      .nil)) (
    .seq (.seq (.ops (
      .op ⟨(some 7), .mov (.t 0), []⟩ <|
      .op ⟨(some 8), .nilc (.t 7), []⟩ <|
      .op ⟨(some 9), .fieldA 13 (.t 8), []⟩ <|
      .op ⟨(some 10), .fieldA 0 (.t 9), []⟩ <|
      .op ⟨(some 11), .load1 (.t 10), []⟩ <|
      .op ⟨(some 12), .cmp .eql .i64 (.t 11) (.c (.int .i64 4)), []⟩ <|
      .nil)) (
    .cond (.t 12) (.ops (
        .op ⟨(some 2), .mov (.c (.int .i64 (-1))), []⟩ <|
        .nil)) (.skip))) (
    .seq (.ops (
      .op ⟨(some 13), .mov (.t 0), []⟩ <|
      .op ⟨(some 14), .mov (.t 0), []⟩ <|
      .op ⟨(some 15), .nilc (.t 14), []⟩ <|
      .op ⟨(some 16), .fieldA 0 (.t 15), []⟩ <|
      .op ⟨(some 17), .loadN 6 (.t 16), []⟩ <|
      .op ⟨(some 18), .mov (.t 0), []⟩ <|
      .op ⟨(some 19), .nilc (.t 18), []⟩ <|
      .op ⟨(some 20), .fieldA 26 (.t 19), []⟩ <|
      .op ⟨(some 21), .load1 (.t 20), []⟩ <|
      .op ⟨(some 22), .mov (.t 2), []⟩ <|
      .op ⟨(some 23), .arith .add .i64 (.t 22) (.c (.int .i64 1)), []⟩ <|
      .op ⟨(some 24), .conv .u64 (.t 23), []⟩ <|
      .op ⟨(some 25), .buildSl 1 1 [(.int .u64 0)] [(0, 1, (.t 24))], []⟩ <|
      .op ⟨(some 26), .call 464 [(.t 17), (.c (.int .i64 2)), (.c (.int .i64 0)), (.t 21), (.t 25)], []⟩ <|
      .op ⟨(some 27), .nilc (.t 13), []⟩ <|
      .op ⟨(some 28), .fieldA 33 (.t 27), []⟩ <|
      .op ⟨none, .store 1 (.t 28) (.t 26), []⟩ <|
      .nil)) (
    .ops (
      .op ⟨(some 29), .mov (.t 0), []⟩ <|
      .op ⟨(some 30), .mov (.t 0), []⟩ <|
      .op ⟨(some 31), .mov (.t 0), []⟩ <|
      .op ⟨(some 32), .nilc (.t 31), []⟩ <|
      .op ⟨(some 33), .fieldA 33 (.t 32), []⟩ <|
      .op ⟨(some 34), .load1 (.t 33), []⟩ <|
      .op ⟨(some 35), .mkIfc 389 (.t 34), []⟩ <|
      .op ⟨(some 36), .nilc (.t 29), []⟩ <|
      .op ⟨(some 37), .fieldA 25 (.t 36), []⟩ <|
      .op ⟨none, .store 1 (.t 37) (.t 35), []⟩ <|
      .op ⟨(some 38), .nilc (.t 30), []⟩ <|
      .op ⟨(some 39), .fieldA 24 (.t 38), []⟩ <|
      .op ⟨none, .store 1 (.t 39) (.c (.int .i64 4)), []⟩ <|
      .nil))))

def client_Client_record_hs : List (List Nat × List Nat) := []

end Wm.F
end

section
/- PRINTED by my tool (wip/wm/tool/Gen.lean): a function as one of my machine. -/
namespace Wm.F
open Wm
set_option maxRecDepth 100000

/-- 128: (*withy/field.Read).Step -/
def field_Read_Step : AFunc where
  closed := false
  nparams := 2
  ntmps := 93
  results := [.tmp 4]
  body := .seq (.ops (
      .op ⟨(some 4), .mov (.c (.bool false)), []⟩ <|
      .nil)) (
    .seq (.seq (.ops (
      .op ⟨(some 5), .mov (.t 0), []⟩ <|
      .op ⟨(some 6), .eq false .ptr (.t 5) (.c .nilp), []⟩ <|
      .nil)) (
    .cond (.t 6) (.seq (.ops (
        .op ⟨(some 4), .mov (.c (.bool true)), []⟩ <|
        .nil)) (
      .ret)) (.skip))) (
    .seq (.seq (.ops (
      .op ⟨(some 7), .mov (.t 0), []⟩ <|
      .op ⟨(some 8), .nilc (.t 7), []⟩ <|
      .op ⟨(some 9), .fieldA 4 (.t 8), []⟩ <|
      .op ⟨(some 10), .load1 (.t 9), []⟩ <|
      .nil)) (
    .block 0 (.seq (.ops (
      .op ⟨(some 12), .cmp .eql .i64 (.t 10) (.c (.int .i64 0)), []⟩ <|
      .op ⟨(some 11), .mov (.t 12), []⟩ <|
      .nil)) (
    .cond (.t 11) (.seq (.ops (
        .op ⟨(some 13), .mov (.t 0), []⟩ <|
        .op ⟨(some 14), .nilc (.t 13), []⟩ <|
        .op ⟨(some 15), .fieldA 3 (.t 14), []⟩ <|
        .op ⟨(some 16), .load1 (.t 15), []⟩ <|
        .op ⟨(some 17), .mov (.t 1), []⟩ <|
        .op ⟨(some 18), .call 303 [(.t 16), (.t 17)], []⟩ <|
        .nil)) (
      .cond (.t 18) (.seq (.ops (
          .op ⟨(some 19), .mov (.t 0), []⟩ <|
          .op ⟨(some 20), .mov (.t 0), []⟩ <|
          .op ⟨(some 21), .mov (.t 0), []⟩ <|
          .op ⟨(some 22), .nilc (.t 21), []⟩ <|
          .op ⟨(some 23), .fieldA 3 (.t 22), []⟩ <|
          .op ⟨(some 24), .load1 (.t 23), []⟩ <|
          .op ⟨(some 25), .nilc (.t 24), []⟩ <|
          .op ⟨(some 26), .fieldA 8 (.t 25), []⟩ <|
          .op ⟨(some 27), .load1 (.t 26), []⟩ <|
          .op ⟨(some 28), .mov (.t 0), []⟩ <|
          .op ⟨(some 29), .nilc (.t 28), []⟩ <|
          .op ⟨(some 30), .fieldA 3 (.t 29), []⟩ <|
          .op ⟨(some 31), .load1 (.t 30), []⟩ <|
          .op ⟨(some 32), .nilc (.t 31), []⟩ <|
          .op ⟨(some 33), .fieldA 9 (.t 32), []⟩ <|
          .op ⟨(some 34), .load1 (.t 33), []⟩ <|
          .op ⟨(some 35), .nilc (.t 19), []⟩ <|
          .op ⟨(some 36), .fieldA 0 (.t 35), []⟩ <|
          .op ⟨none, .store 1 (.t 36) (.t 27), []⟩ <|
          .op ⟨(some 37), .nilc (.t 20), []⟩ <|
          .op ⟨(some 38), .fieldA 2 (.t 37), []⟩ <|
          .op ⟨none, .store 1 (.t 38) (.t 34), []⟩ <|
          .nil)) (
        .seq (.ops (
          .op ⟨(some 39), .mov (.t 0), []⟩ <|
          .op ⟨(some 40), .nilc (.t 39), []⟩ <|
          .op ⟨(some 41), .fieldA 4 (.t 40), []⟩ <|
          .op ⟨none, .store 1 (.t 41) (.c (.int .i64 1)), []⟩ <|
          .nil)) (
        .seq (.ops (
          .op ⟨(some 42), .mov (.t 0), []⟩ <|
          .op ⟨(some 43), .nilc (.t 42), []⟩ <|
          .op ⟨(some 44), .fieldA 0 (.t 43), []⟩ <|
          .op ⟨(some 45), .load1 (.t 44), []⟩ <|
          .op ⟨(some 46), .cmp .lss .i64 (.t 45) (.c (.int .i64 0)), []⟩ <|
          .nil)) (
        .cond (.t 46) (.ops (
            .op ⟨(some 47), .mov (.t 0), []⟩ <|
            .op ⟨(some 48), .nilc (.t 47), []⟩ <|
            .op ⟨(some 49), .fieldA 4 (.t 48), []⟩ <|
            .op ⟨none, .store 1 (.t 49) (.c (.int .i64 2)), []⟩ <|
            .nil)) (.skip))))) (.skip))) (.seq (.ops (
        .op ⟨(some 51), .cmp .eql .i64 (.t 10) (.c (.int .i64 1)), []⟩ <|
        .op ⟨(some 50), .mov (.t 51), []⟩ <|
        .nil)) (
      .cond (.t 50) (.seq (.ops (
          .op ⟨(some 52), .mov (.t 0), []⟩ <|
          .op ⟨(some 53), .mov (.t 0), []⟩ <|
          .op ⟨(some 54), .mov (.t 0), []⟩ <|
          .op ⟨(some 55), .nilc (.t 54), []⟩ <|
          .op ⟨(some 56), .fieldA 3 (.t 55), []⟩ <|
          .op ⟨(some 57), .load1 (.t 56), []⟩ <|
          .op ⟨(some 58), .nilc (.t 57), []⟩ <|
          .op ⟨(some 59), .fieldA 0 (.t 58), []⟩ <|
          .op ⟨(some 60), .loadN 6 (.t 59), []⟩ <|
          .op ⟨(some 61), .mov (.t 1), []⟩ <|
          .op ⟨(some 62), .mov (.t 0), []⟩ <|
          .op ⟨(some 63), .nilc (.t 62), []⟩ <|
          .op ⟨(some 64), .fieldA 3 (.t 63), []⟩ <|
          .op ⟨(some 65), .load1 (.t 64), []⟩ <|
          .op ⟨(some 66), .nilc (.t 65), []⟩ <|
          .op ⟨(some 67), .fieldA 0 (.t 66), []⟩ <|
          .op ⟨(some 68), .loadN 6 (.t 67), []⟩ <|
          .op ⟨(some 69), .mov (.t 0), []⟩ <|
          .op ⟨(some 70), .nilc (.t 69), []⟩ <|
          .op ⟨(some 71), .fieldA 0 (.t 70), []⟩ <|
          .op ⟨(some 72), .load1 (.t 71), []⟩ <|
          .op ⟨(some 76), .mov (.t 0), []⟩ <|
          .op ⟨(some 77), .nilc (.t 76), []⟩ <|
          .op ⟨(some 78), .fieldA 3 (.t 77), []⟩ <|
          .op ⟨(some 79), .load1 (.t 78), []⟩ <|
          .op ⟨(some 73), .call 305 [(.t 68), (.t 72), (.c (.int .i64 0))], [{ g := none, op := .load1 (.t 78), d := 79 }, { g := none, op := .loadN 6 (.t 59), d := 60 }, { g := none, op := .load1 (.t 56), d := 57 }]⟩ <|
          .op ⟨(some 74), .call 266 [(.t 61), (.t 73)], [{ g := none, op := .load1 (.t 78), d := 79 }, { g := none, op := .loadN 6 (.t 59), d := 60 }, { g := none, op := .load1 (.t 56), d := 57 }]⟩ <|
          .op ⟨(some 75), .call 304 [(.t 60), (.t 74)], [{ g := none, op := .load1 (.t 78), d := 79 }]⟩ <|
          .op ⟨(some 80), .call 306 [(.t 79)], []⟩ <|
          .op ⟨(some 81), .nilc (.t 52), []⟩ <|
          .op ⟨(some 82), .fieldA 1 (.t 81), []⟩ <|
          .op ⟨none, .store 1 (.t 82) (.t 75), []⟩ <|
          .op ⟨(some 83), .nilc (.t 53), []⟩ <|
          .op ⟨(some 84), .fieldA 2 (.t 83), []⟩ <|
          .op ⟨none, .store 1 (.t 84) (.t 80), []⟩ <|
          .nil)) (
        .ops (
          .op ⟨(some 85), .mov (.t 0), []⟩ <|
          .op ⟨(some 86), .nilc (.t 85), []⟩ <|
          .op ⟨(some 87), .fieldA 4 (.t 86), []⟩ <|
          .op ⟨none, .store 1 (.t 87) (.c (.int .i64 2)), []⟩ <|
          .nil))) (.skip))))))) (
    .seq (.ops (
      .op ⟨(some 88), .mov (.t 0), []⟩ <|
      .op ⟨(some 89), .nilc (.t 88), []⟩ <|
      .op ⟨(some 90), .fieldA 4 (.t 89), []⟩ <|
      .op ⟨(some 91), .load1 (.t 90), []⟩ <|
      .op ⟨(some 92), .cmp .eql .i64 (.t 91) (.c (.int .i64 2)), []⟩ <|
      .op ⟨(some 4), .mov (.t 92), []⟩ <|
      .nil)) (
    .ret))))

def field_Read_Step_hs : List (List Nat × List Nat) := []

end Wm.F
end

section
/- PRINTED by my tool (wip/wm/tool/Gen.lean): a function as one of my machine. -/
namespace Wm.F
open Wm
set_option maxRecDepth 100000

/-- 468: (*withy/client.Client).take -/
def client_Client_take : AFunc where
  closed := false
  nparams := 2
  ntmps := 37
  results := [.tmp 4]
  body := .seq (.ops (
      .op ⟨(some 4), .mov (.c (.int .u64 0)), []⟩ <|
      .nil)) (
    .seq (.ops (
      .op ⟨(some 9), .mov (.t 0), []⟩ <|
      .op ⟨(some 10), .nilc (.t 9), []⟩ <|
      .op ⟨(some 11), .fieldA 8 (.t 10), []⟩ <|
      .op ⟨(some 12), .load1 (.t 11), []⟩ <|
      .op ⟨(some 13), .mov (.t 1), []⟩ <|
      .op ⟨(some 14), .call 495 [(.t 12), (.t 13)], []⟩ <|
      .op ⟨(some 8), .mov (.t 14), []⟩ <|
      .op ⟨(some 15), .extract (.t 8) 0, []⟩ <|
      .op ⟨(some 16), .extract (.t 8) 1, []⟩ <|
      .op ⟨(some 17), .extract (.t 8) 2, []⟩ <|
      .op ⟨(some 5), .mov (.t 15), []⟩ <|
      .op ⟨(some 6), .mov (.t 16), []⟩ <|
      .op ⟨(some 7), .mov (.t 17), []⟩ <|
      .nil)) (
    .seq (.ops (
      .op ⟨(some 18), .mov (.t 0), []⟩ <|
      .op ⟨(some 19), .mov (.t 0), []⟩ <|
      .op ⟨(some 20), .nilc (.t 19), []⟩ <|
      .op ⟨(some 21), .fieldA 0 (.t 20), []⟩ <|
      .op ⟨(some 22), .loadN 6 (.t 21), []⟩ <|
      .op ⟨(some 23), .mov (.t 0), []⟩ <|
      .op ⟨(some 24), .nilc (.t 23), []⟩ <|
      .op ⟨(some 25), .fieldA 6 (.t 24), []⟩ <|
      .op ⟨(some 26), .load1 (.t 25), []⟩ <|
      .op ⟨(some 27), .mov (.t 5), []⟩ <|
      .op ⟨(some 29), .mov (.t 0), []⟩ <|
      .op ⟨(some 30), .nilc (.t 29), []⟩ <|
      .op ⟨(some 31), .fieldA 8 (.t 30), []⟩ <|
      .op ⟨(some 32), .load1 (.t 31), []⟩ <|
      .op ⟨(some 33), .mov (.t 5), []⟩ <|
      .op ⟨(some 28), .call 319 [(.t 22), (.t 26), (.t 27)], [{ g := none, op := .load1 (.t 31), d := 32 }]⟩ <|
      .op ⟨(some 34), .call 471 [(.t 32), (.t 33)], []⟩ <|
      .op ⟨(some 35), .call 429 [(.t 18), (.t 28), (.t 34)], []⟩ <|
      .nil)) (
    .seq (.ops (
      .op ⟨(some 36), .mov (.t 6), []⟩ <|
      .op ⟨(some 4), .mov (.t 36), []⟩ <|
      .nil)) (
    .ret))))

def client_Client_take_hs : List (List Nat × List Nat) := []

end Wm.F
end

section
/- PRINTED by my tool (wip/wm/tool/Gen.lean): a function as one of my machine. -/
namespace Wm.F
open Wm
set_option maxRecDepth 100000

/-- 132: withy/field.NewLay -/
def field_NewLay : AFunc where
  closed := false
  nparams := 7
  ntmps := 35
  results := [.tmp 14]
  body := .seq (.ops (
      .op ⟨(some 7), .box (.t 0), []⟩ <|
      .op ⟨(some 14), .mov (.c .nilp), []⟩ <|
      .nil)) (
    .seq (.ops (
      .op ⟨(some 16), .loadN 6 (.t 7), []⟩ <|
      .op ⟨(some 17), .mov (.t 1), []⟩ <|
      .op ⟨(some 18), .mov (.t 2), []⟩ <|
      .op ⟨(some 19), .mov (.t 6), []⟩ <|
      .op ⟨(some 20), .call 302 [(.t 16), (.t 17), (.t 18), (.t 19)], []⟩ <|
      .op ⟨(some 15), .mov (.t 20), []⟩ <|
      .nil)) (
    .seq (.seq (.ops (
      .op ⟨(some 21), .mov (.t 15), []⟩ <|
      .op ⟨(some 22), .eq false .ptr (.t 21) (.c .nilp), []⟩ <|
      .op ⟨(some 23), .mov (.t 22), []⟩ <|
      .grd 23 false [⟨(some 24), .loadN 6 (.t 7), []⟩,
          ⟨(some 25), .mov (.t 3), []⟩,
          ⟨(some 26), .call 261 [(.t 24), (.t 25)], []⟩,
          ⟨(some 27), .cmp .lss .i64 (.t 26) (.c (.int .i64 0)), []⟩] <|
      .op ⟨(some 28), .pick (.t 23) (.c (.bool true)) (.t 27), []⟩ <|
      .nil)) (
    .cond (.t 28) (.seq (.ops (
        .op ⟨(some 14), .mov (.c .nilp), []⟩ <|
        .nil)) (
      .ret)) (.skip))) (
    .seq (.ops (
      .op ⟨(some 29), .mov (.t 15), []⟩ <|
      .op ⟨(some 30), .mov (.t 3), []⟩ <|
      .op ⟨(some 31), .mov (.t 4), []⟩ <|
      .op ⟨(some 32), .mov (.t 5), []⟩ <|
      .op ⟨(some 33), .build [(.bool false), (.int .i64 0), .nilp, (.int .i64 0), (.int .i64 0), (.int .u64 0), .nilp, .nilp, (.int .i64 0)] [(2, 1, (.t 29)), (3, 1, (.t 30)), (4, 1, (.t 31)), (5, 1, (.t 32))], []⟩ <|
      .op ⟨(some 34), .box (.t 33), []⟩ <|
      .op ⟨(some 14), .mov (.t 34), []⟩ <|
      .nil)) (
    .ret))))

def field_NewLay_hs : List (List Nat × List Nat) := []

end Wm.F
end

section
/- PRINTED by my tool (wip/wm/tool/Gen.lean): a function as one of my machine. -/
namespace Wm.F
open Wm
set_option maxRecDepth 100000

/-- 133: (*withy/field.Lay).Step -/
def field_Lay_Step : AFunc where
  closed := false
  nparams := 2
  ntmps := 250
  results := [.tmp 4]
  body := .seq (.ops (
      .op ⟨(some 4), .mov (.c (.bool false)), []⟩ <|
      .nil)) (
    .seq (.seq (.ops (
      .op ⟨(some 6), .mov (.t 0), []⟩ <|
      .op ⟨(some 7), .eq false .ptr (.t 6) (.c .nilp), []⟩ <|
      .nil)) (
    .cond (.t 7) (.seq (.ops (
        .op ⟨(some 4), .mov (.c (.bool true)), []⟩ <|
        .nil)) (
      .ret)) (.skip))) (
    .seq (.ops (
      .op ⟨(some 8), .mov (.t 0), []⟩ <|
      .op ⟨(some 9), .nilc (.t 8), []⟩ <|
      .op ⟨(some 10), .fieldA 2 (.t 9), []⟩ <|
      .op ⟨(some 11), .load1 (.t 10), []⟩ <|
      .op ⟨(some 12), .nilc (.t 11), []⟩ <|
      .op ⟨(some 13), .fieldA 0 (.t 12), []⟩ <|
      .op ⟨(some 14), .loadN 6 (.t 13), []⟩ <|
      .op ⟨(some 5), .alloc [(.int .i64 0), (.int .i64 0), (.int .i64 0), (.int .i64 0), (.int .i64 0), (.int .i64 0)], []⟩ <|
      .op ⟨none, .store 6 (.t 5) (.t 14), []⟩ <|
      .nil)) (
    .seq (.seq (.ops (
      .op ⟨(some 15), .mov (.t 0), []⟩ <|
      .op ⟨(some 16), .nilc (.t 15), []⟩ <|
      .op ⟨(some 17), .fieldA 8 (.t 16), []⟩ <|
      .op ⟨(some 18), .load1 (.t 17), []⟩ <|
      .nil)) (
    .block 0 (.seq (.ops (
      .op ⟨(some 20), .cmp .eql .i64 (.t 18) (.c (.int .i64 0)), []⟩ <|
      .op ⟨(some 19), .mov (.t 20), []⟩ <|
      .nil)) (
    .cond (.t 19) (.seq (.seq (.ops (
        .op ⟨(some 21), .mov (.t 0), []⟩ <|
        .op ⟨(some 22), .nilc (.t 21), []⟩ <|
        .op ⟨(some 23), .fieldA 2 (.t 22), []⟩ <|
        .op ⟨(some 24), .load1 (.t 23), []⟩ <|
        .op ⟨(some 25), .mov (.t 1), []⟩ <|
        .op ⟨(some 26), .call 303 [(.t 24), (.t 25)], []⟩ <|
        .op ⟨(some 27), .not (.t 26), []⟩ <|
        .nil)) (
      .cond (.t 27) (.exit 0) (.skip))) (
      .seq (.ops (
        .op ⟨(some 28), .mov (.t 0), []⟩ <|
        .op ⟨(some 29), .nilc (.t 28), []⟩ <|
        .op ⟨(some 30), .fieldA 8 (.t 29), []⟩ <|
        .op ⟨none, .store 1 (.t 30) (.c (.int .i64 2)), []⟩ <|
        .nil)) (
      .seq (.ops (
        .op ⟨(some 31), .mov (.t 0), []⟩ <|
        .op ⟨(some 32), .nilc (.t 31), []⟩ <|
        .op ⟨(some 33), .fieldA 4 (.t 32), []⟩ <|
        .op ⟨(some 34), .load1 (.t 33), []⟩ <|
        .op ⟨(some 35), .cmp .geq .i64 (.t 34) (.c (.int .i64 (-1))), []⟩ <|
        .op ⟨(some 36), .mov (.t 35), []⟩ <|
        .grd 36 true [⟨(some 37), .mov (.t 0), []⟩,
            ⟨(some 38), .nilc (.t 37), []⟩,
            ⟨(some 39), .fieldA 2 (.t 38), []⟩,
            ⟨(some 40), .load1 (.t 39), []⟩,
            ⟨(some 41), .nilc (.t 40), []⟩,
            ⟨(some 42), .fieldA 8 (.t 41), []⟩,
            ⟨(some 43), .load1 (.t 42), []⟩,
            ⟨(some 44), .cmp .geq .i64 (.t 43) (.c (.int .i64 0)), []⟩] <|
        .op ⟨(some 45), .pick (.t 36) (.t 44) (.c (.bool false)), []⟩ <|
        .nil)) (
      .cond (.t 45) (.ops (
          .op ⟨(some 46), .mov (.t 0), []⟩ <|
          .op ⟨(some 47), .nilc (.t 46), []⟩ <|
          .op ⟨(some 48), .fieldA 8 (.t 47), []⟩ <|
          .op ⟨none, .store 1 (.t 48) (.c (.int .i64 1)), []⟩ <|
          .nil)) (.seq (.ops (
          .op ⟨(some 49), .mov (.t 0), []⟩ <|
          .op ⟨(some 50), .nilc (.t 49), []⟩ <|
          .op ⟨(some 51), .fieldA 4 (.t 50), []⟩ <|
          .op ⟨(some 52), .load1 (.t 51), []⟩ <|
          .op ⟨(some 53), .cmp .geq .i64 (.t 52) (.c (.int .i64 0)), []⟩ <|
          .nil)) (
        .cond (.t 53) (.ops (
            .op ⟨(some 54), .mov (.t 0), []⟩ <|
            .op ⟨(some 55), .call 307 [(.t 54)], []⟩ <|
            .nil)) (.skip))))))) (.seq (.ops (
        .op ⟨(some 57), .cmp .eql .i64 (.t 18) (.c (.int .i64 1)), []⟩ <|
        .op ⟨(some 56), .mov (.t 57), []⟩ <|
        .nil)) (
      .cond (.t 56) (.seq (.ops (
          .op ⟨(some 58), .mov (.t 0), []⟩ <|
          .op ⟨(some 59), .nilc (.t 58), []⟩ <|
          .op ⟨(some 60), .fieldA 8 (.t 59), []⟩ <|
          .op ⟨none, .store 1 (.t 60) (.c (.int .i64 2)), []⟩ <|
          .nil)) (
        .seq (.ops (
          .op ⟨(some 61), .loadN 6 (.t 5), []⟩ <|
          .op ⟨(some 62), .mov (.t 1), []⟩ <|
          .op ⟨(some 63), .loadN 6 (.t 5), []⟩ <|
          .op ⟨(some 64), .mov (.t 0), []⟩ <|
          .op ⟨(some 65), .nilc (.t 64), []⟩ <|
          .op ⟨(some 66), .fieldA 2 (.t 65), []⟩ <|
          .op ⟨(some 67), .load1 (.t 66), []⟩ <|
          .op ⟨(some 68), .nilc (.t 67), []⟩ <|
          .op ⟨(some 69), .fieldA 8 (.t 68), []⟩ <|
          .op ⟨(some 70), .load1 (.t 69), []⟩ <|
          .op ⟨(some 74), .mov (.t 0), []⟩ <|
          .op ⟨(some 75), .nilc (.t 74), []⟩ <|
          .op ⟨(some 76), .fieldA 4 (.t 75), []⟩ <|
          .op ⟨(some 77), .load1 (.t 76), []⟩ <|
          .op ⟨(some 71), .call 305 [(.t 63), (.t 70), (.c (.int .i64 0))], [{ g := none, op := .load1 (.t 76), d := 77 }, { g := none, op := .loadN 6 (.t 5), d := 61 }]⟩ <|
          .op ⟨(some 72), .call 266 [(.t 62), (.t 71)], [{ g := none, op := .load1 (.t 76), d := 77 }, { g := none, op := .loadN 6 (.t 5), d := 61 }]⟩ <|
          .op ⟨(some 73), .call 304 [(.t 61), (.t 72)], [{ g := none, op := .load1 (.t 76), d := 77 }]⟩ <|
          .op ⟨(some 78), .cmp .neq .i64 (.t 73) (.t 77), []⟩ <|
          .nil)) (
        .cond (.t 78) (.ops (
            .op ⟨(some 79), .mov (.t 0), []⟩ <|
            .op ⟨(some 80), .call 307 [(.t 79)], []⟩ <|
            .nil)) (.skip)))) (.seq (.ops (
          .op ⟨(some 82), .cmp .eql .i64 (.t 18) (.c (.int .i64 2)), []⟩ <|
          .op ⟨(some 81), .mov (.t 82), []⟩ <|
          .nil)) (
        .cond (.t 81) (.seq (.ops (
            .op ⟨(some 83), .mov (.t 1), []⟩ <|
            .op ⟨(some 84), .loadN 6 (.t 5), []⟩ <|
            .op ⟨(some 85), .mov (.t 0), []⟩ <|
            .op ⟨(some 86), .nilc (.t 85), []⟩ <|
            .op ⟨(some 87), .fieldA 3 (.t 86), []⟩ <|
            .op ⟨(some 88), .load1 (.t 87), []⟩ <|
            .op ⟨(some 90), .mov (.t 0), []⟩ <|
            .op ⟨(some 91), .nilc (.t 90), []⟩ <|
            .op ⟨(some 92), .fieldA 2 (.t 91), []⟩ <|
            .op ⟨(some 93), .load1 (.t 92), []⟩ <|
            .op ⟨(some 94), .nilc (.t 93), []⟩ <|
            .op ⟨(some 95), .fieldA 8 (.t 94), []⟩ <|
            .op ⟨(some 96), .load1 (.t 95), []⟩ <|
            .op ⟨(some 97), .arith .add .i64 (.t 96) (.c (.int .i64 1)), []⟩ <|
            .op ⟨(some 98), .conv .u64 (.t 97), []⟩ <|
            .op ⟨(some 89), .call 305 [(.t 84), (.t 88), (.c (.int .i64 2))], [{ g := none, op := .load1 (.t 95), d := 96 }, { g := none, op := .load1 (.t 92), d := 93 }]⟩ <|
            .op ⟨(some 99), .call 203 [(.t 83), (.t 89), (.t 98)], []⟩ <|
            .nil)) (
          .seq (.ops (
            .op ⟨(some 100), .mov (.t 0), []⟩ <|
            .op ⟨(some 101), .nilc (.t 100), []⟩ <|
            .op ⟨(some 102), .fieldA 8 (.t 101), []⟩ <|
            .op ⟨none, .store 1 (.t 102) (.c (.int .i64 4)), []⟩ <|
            .nil)) (
          .seq (.ops (
            .op ⟨(some 103), .mov (.t 0), []⟩ <|
            .op ⟨(some 104), .nilc (.t 103), []⟩ <|
            .op ⟨(some 105), .fieldA 2 (.t 104), []⟩ <|
            .op ⟨(some 106), .load1 (.t 105), []⟩ <|
            .op ⟨(some 107), .nilc (.t 106), []⟩ <|
            .op ⟨(some 108), .fieldA 8 (.t 107), []⟩ <|
            .op ⟨(some 109), .load1 (.t 108), []⟩ <|
            .op ⟨(some 110), .cmp .geq .i64 (.t 109) (.c (.int .i64 0)), []⟩ <|
            .op ⟨(some 111), .mov (.t 110), []⟩ <|
            .grd 111 true [⟨(some 112), .mov (.t 0), []⟩,
                ⟨(some 113), .nilc (.t 112), []⟩,
                ⟨(some 114), .fieldA 5 (.t 113), []⟩,
                ⟨(some 115), .load1 (.t 114), []⟩,
                ⟨(some 116), .call 308 [(.t 115)], []⟩] <|
            .op ⟨(some 117), .pick (.t 111) (.t 116) (.c (.bool false)), []⟩ <|
            .nil)) (
          .cond (.t 117) (.ops (
              .op ⟨(some 118), .mov (.t 0), []⟩ <|
              .op ⟨(some 119), .mov (.t 0), []⟩ <|
              .op ⟨(some 120), .loadN 6 (.t 5), []⟩ <|
              .op ⟨(some 121), .mov (.t 0), []⟩ <|
              .op ⟨(some 122), .nilc (.t 121), []⟩ <|
              .op ⟨(some 123), .fieldA 2 (.t 122), []⟩ <|
              .op ⟨(some 124), .load1 (.t 123), []⟩ <|
              .op ⟨(some 125), .nilc (.t 124), []⟩ <|
              .op ⟨(some 126), .fieldA 8 (.t 125), []⟩ <|
              .op ⟨(some 127), .load1 (.t 126), []⟩ <|
              .op ⟨(some 128), .mov (.t 0), []⟩ <|
              .op ⟨(some 129), .nilc (.t 128), []⟩ <|
              .op ⟨(some 130), .fieldA 5 (.t 129), []⟩ <|
              .op ⟨(some 131), .load1 (.t 130), []⟩ <|
              .op ⟨(some 132), .call 90 [(.t 120), (.t 127), (.t 131)], []⟩ <|
              .op ⟨(some 133), .nilc (.t 118), []⟩ <|
              .op ⟨(some 134), .fieldA 6 (.t 133), []⟩ <|
              .op ⟨none, .store 1 (.t 134) (.t 132), []⟩ <|
              .op ⟨(some 135), .nilc (.t 119), []⟩ <|
              .op ⟨(some 136), .fieldA 8 (.t 135), []⟩ <|
              .op ⟨none, .store 1 (.t 136) (.c (.int .i64 3)), []⟩ <|
              .nil)) (.skip))))) (.seq (.ops (
            .op ⟨(some 138), .cmp .eql .i64 (.t 18) (.c (.int .i64 3)), []⟩ <|
            .op ⟨(some 137), .mov (.t 138), []⟩ <|
            .nil)) (
          .cond (.t 137) (.seq (.ops (
              .op ⟨(some 139), .mov (.t 0), []⟩ <|
              .op ⟨(some 140), .nilc (.t 139), []⟩ <|
              .op ⟨(some 141), .fieldA 6 (.t 140), []⟩ <|
              .op ⟨(some 142), .load1 (.t 141), []⟩ <|
              .op ⟨(some 143), .mov (.t 1), []⟩ <|
              .op ⟨(some 144), .call 91 [(.t 142), (.t 143)], []⟩ <|
              .nil)) (
            .cond (.t 144) (.ops (
                .op ⟨(some 145), .mov (.t 0), []⟩ <|
                .op ⟨(some 146), .nilc (.t 145), []⟩ <|
                .op ⟨(some 147), .fieldA 8 (.t 146), []⟩ <|
                .op ⟨none, .store 1 (.t 147) (.c (.int .i64 4)), []⟩ <|
                .nil)) (.skip))) (.seq (.ops (
              .op ⟨(some 149), .cmp .eql .i64 (.t 18) (.c (.int .i64 4)), []⟩ <|
              .op ⟨(some 148), .mov (.t 149), []⟩ <|
              .nil)) (
            .cond (.t 148) (.seq (.ops (
                .op ⟨(some 150), .mov (.t 1), []⟩ <|
                .op ⟨(some 151), .mov (.t 0), []⟩ <|
                .op ⟨(some 152), .nilc (.t 151), []⟩ <|
                .op ⟨(some 153), .fieldA 2 (.t 152), []⟩ <|
                .op ⟨(some 154), .load1 (.t 153), []⟩ <|
                .op ⟨(some 155), .nilc (.t 154), []⟩ <|
                .op ⟨(some 156), .fieldA 7 (.t 155), []⟩ <|
                .op ⟨(some 157), .load1 (.t 156), []⟩ <|
                .op ⟨(some 158), .mov (.t 0), []⟩ <|
                .op ⟨(some 159), .nilc (.t 158), []⟩ <|
                .op ⟨(some 160), .fieldA 2 (.t 159), []⟩ <|
                .op ⟨(some 161), .load1 (.t 160), []⟩ <|
                .op ⟨(some 162), .nilc (.t 161), []⟩ <|
                .op ⟨(some 163), .fieldA 8 (.t 162), []⟩ <|
                .op ⟨(some 164), .load1 (.t 163), []⟩ <|
                .op ⟨(some 165), .arith .add .i64 (.t 164) (.c (.int .i64 1)), []⟩ <|
                .op ⟨(some 166), .conv .u64 (.t 165), []⟩ <|
                .op ⟨(some 167), .mov (.t 0), []⟩ <|
                .op ⟨(some 168), .nilc (.t 167), []⟩ <|
                .op ⟨(some 169), .fieldA 3 (.t 168), []⟩ <|
                .op ⟨(some 170), .load1 (.t 169), []⟩ <|
                .op ⟨(some 171), .arith .add .i64 (.t 170) (.c (.int .i64 1)), []⟩ <|
                .op ⟨(some 172), .conv .u64 (.t 171), []⟩ <|
                .op ⟨(some 173), .call 269 [(.t 150), (.t 157), (.t 166), (.t 172)], []⟩ <|
                .nil)) (
              .cond (.t 173) (.ops (
                  .op ⟨(some 174), .mov (.t 0), []⟩ <|
                  .op ⟨(some 175), .mov (.t 0), []⟩ <|
                  .op ⟨(some 176), .loadN 6 (.t 5), []⟩ <|
                  .op ⟨(some 177), .mov (.t 0), []⟩ <|
                  .op ⟨(some 178), .nilc (.t 177), []⟩ <|
                  .op ⟨(some 179), .fieldA 3 (.t 178), []⟩ <|
                  .op ⟨(some 180), .load1 (.t 179), []⟩ <|
                  .op ⟨(some 181), .mov (.t 0), []⟩ <|
                  .op ⟨(some 182), .nilc (.t 181), []⟩ <|
                  .op ⟨(some 183), .fieldA 2 (.t 182), []⟩ <|
                  .op ⟨(some 184), .load1 (.t 183), []⟩ <|
                  .op ⟨(some 185), .nilc (.t 184), []⟩ <|
                  .op ⟨(some 186), .fieldA 6 (.t 185), []⟩ <|
                  .op ⟨(some 187), .load1 (.t 186), []⟩ <|
                  .op ⟨(some 188), .call 151 [(.t 176), (.t 180), (.t 187)], []⟩ <|
                  .op ⟨(some 189), .nilc (.t 174), []⟩ <|
                  .op ⟨(some 190), .fieldA 7 (.t 189), []⟩ <|
                  .op ⟨none, .store 1 (.t 190) (.t 188), []⟩ <|
                  .op ⟨(some 191), .nilc (.t 175), []⟩ <|
                  .op ⟨(some 192), .fieldA 8 (.t 191), []⟩ <|
                  .op ⟨none, .store 1 (.t 192) (.c (.int .i64 5)), []⟩ <|
                  .nil)) (.ops (
                  .op ⟨(some 193), .mov (.t 0), []⟩ <|
                  .op ⟨(some 194), .mov (.t 0), []⟩ <|
                  .op ⟨(some 195), .loadN 6 (.t 5), []⟩ <|
                  .op ⟨(some 196), .mov (.t 0), []⟩ <|
                  .op ⟨(some 197), .nilc (.t 196), []⟩ <|
                  .op ⟨(some 198), .fieldA 2 (.t 197), []⟩ <|
                  .op ⟨(some 199), .load1 (.t 198), []⟩ <|
                  .op ⟨(some 200), .nilc (.t 199), []⟩ <|
                  .op ⟨(some 201), .fieldA 6 (.t 200), []⟩ <|
                  .op ⟨(some 202), .load1 (.t 201), []⟩ <|
                  .op ⟨(some 203), .mov (.t 0), []⟩ <|
                  .op ⟨(some 204), .nilc (.t 203), []⟩ <|
                  .op ⟨(some 205), .fieldA 2 (.t 204), []⟩ <|
                  .op ⟨(some 206), .load1 (.t 205), []⟩ <|
                  .op ⟨(some 207), .nilc (.t 206), []⟩ <|
                  .op ⟨(some 208), .fieldA 7 (.t 207), []⟩ <|
                  .op ⟨(some 209), .load1 (.t 208), []⟩ <|
                  .op ⟨(some 210), .build [(.int .i64 0), (.int .i64 0), (.int .i64 0), (.int .i64 0), (.int .i64 0), (.int .i64 0), .nilp, (.int .i64 0), (.int .i64 0), (.int .i64 0), .nilp, (.int .i64 0)] [(0, 6, (.t 195)), (6, 1, (.t 202)), (7, 1, (.t 209))], []⟩ <|
                  .op ⟨(some 211), .box (.t 210), []⟩ <|
                  .op ⟨(some 212), .nilc (.t 193), []⟩ <|
                  .op ⟨(some 213), .fieldA 2 (.t 212), []⟩ <|
                  .op ⟨none, .store 1 (.t 213) (.t 211), []⟩ <|
                  .op ⟨(some 214), .nilc (.t 194), []⟩ <|
                  .op ⟨(some 215), .fieldA 8 (.t 214), []⟩ <|
                  .op ⟨none, .store 1 (.t 215) (.c (.int .i64 0)), []⟩ <|
                  .nil)))) (.seq (.ops (
                .op ⟨(some 217), .cmp .eql .i64 (.t 18) (.c (.int .i64 5)), []⟩ <|
                .op ⟨(some 216), .mov (.t 217), []⟩ <|
                .nil)) (
              .cond (.t 216) (.seq (.ops (
                  .op ⟨(some 218), .mov (.t 0), []⟩ <|
                  .op ⟨(some 219), .nilc (.t 218), []⟩ <|
                  .op ⟨(some 220), .fieldA 7 (.t 219), []⟩ <|
                  .op ⟨(some 221), .load1 (.t 220), []⟩ <|
                  .op ⟨(some 222), .mov (.t 1), []⟩ <|
                  .op ⟨(some 223), .call 150 [(.t 221), (.t 222)], []⟩ <|
                  .nil)) (
                .cond (.t 223) (.ops (
                    .op ⟨(some 224), .mov (.t 0), []⟩ <|
                    .op ⟨(some 225), .mov (.t 0), []⟩ <|
                    .op ⟨(some 226), .mov (.t 0), []⟩ <|
                    .op ⟨(some 227), .mov (.t 0), []⟩ <|
                    .op ⟨(some 228), .nilc (.t 227), []⟩ <|
                    .op ⟨(some 229), .fieldA 2 (.t 228), []⟩ <|
                    .op ⟨(some 230), .load1 (.t 229), []⟩ <|
                    .op ⟨(some 231), .nilc (.t 230), []⟩ <|
                    .op ⟨(some 232), .fieldA 6 (.t 231), []⟩ <|
                    .op ⟨(some 233), .load1 (.t 232), []⟩ <|
                    .op ⟨(some 234), .mov (.t 0), []⟩ <|
                    .op ⟨(some 235), .nilc (.t 234), []⟩ <|
                    .op ⟨(some 236), .fieldA 3 (.t 235), []⟩ <|
                    .op ⟨(some 237), .load1 (.t 236), []⟩ <|
                    .op ⟨(some 238), .call 152 [(.t 233), (.t 237)], []⟩ <|
                    .op ⟨(some 239), .nilc (.t 224), []⟩ <|
                    .op ⟨(some 240), .fieldA 0 (.t 239), []⟩ <|
                    .op ⟨none, .store 1 (.t 240) (.c (.bool true)), []⟩ <|
                    .op ⟨(some 241), .nilc (.t 225), []⟩ <|
                    .op ⟨(some 242), .fieldA 1 (.t 241), []⟩ <|
                    .op ⟨none, .store 1 (.t 242) (.t 238), []⟩ <|
                    .op ⟨(some 243), .nilc (.t 226), []⟩ <|
                    .op ⟨(some 244), .fieldA 8 (.t 243), []⟩ <|
                    .op ⟨none, .store 1 (.t 244) (.c (.int .i64 6)), []⟩ <|
                    .nil)) (.skip))) (.skip))))))))))))))) (
    .seq (.ops (
      .op ⟨(some 245), .mov (.t 0), []⟩ <|
      .op ⟨(some 246), .nilc (.t 245), []⟩ <|
      .op ⟨(some 247), .fieldA 8 (.t 246), []⟩ <|
      .op ⟨(some 248), .load1 (.t 247), []⟩ <|
      .op ⟨(some 249), .cmp .eql .i64 (.t 248) (.c (.int .i64 6)), []⟩ <|
      .op ⟨(some 4), .mov (.t 249), []⟩ <|
      .nil)) (
    .ret)))))

def field_Lay_Step_hs : List (List Nat × List Nat) := []

end Wm.F
end

section
/- PRINTED by my tool (wip/wm/tool/Gen.lean): a function as one of my machine. -/
namespace Wm.F
open Wm
set_option maxRecDepth 100000

/-- 469: withy/epoch.NewLeave -/
def epoch_NewLeave : AFunc where
  closed := false
  nparams := 2
  ntmps := 14
  results := [.tmp 4]
  body := .seq (.ops (
      .op ⟨(some 2), .box (.t 0), []⟩ <|
      .op ⟨(some 4), .mov (.c .nilp), []⟩ <|
      .nil)) (
    .seq (.ops (
      .op ⟨(some 6), .loadN 6 (.t 2), []⟩ <|
      .op ⟨(some 7), .mov (.t 1), []⟩ <|
      .op ⟨(some 8), .call 416 [(.t 6), (.t 7)], []⟩ <|
      .op ⟨(some 5), .mov (.t 8), []⟩ <|
      .nil)) (
    .seq (.seq (.ops (
      .op ⟨(some 9), .mov (.t 5), []⟩ <|
      .op ⟨(some 10), .cmp .lss .i64 (.t 9) (.c (.int .i64 0)), []⟩ <|
      .nil)) (
    .cond (.t 10) (.seq (.ops (
        .op ⟨(some 4), .mov (.c .nilp), []⟩ <|
        .nil)) (
      .ret)) (.skip))) (
    .seq (.ops (
      .op ⟨(some 11), .mov (.t 5), []⟩ <|
      .op ⟨(some 12), .build [(.int .i64 0), (.bool false)] [(0, 1, (.t 11))], []⟩ <|
      .op ⟨(some 13), .box (.t 12), []⟩ <|
      .op ⟨(some 4), .mov (.t 13), []⟩ <|
      .nil)) (
    .ret))))

def epoch_NewLeave_hs : List (List Nat × List Nat) := []

end Wm.F
end

section
/- PRINTED by my tool (wip/wm/tool/Gen.lean): a function as one of my machine. -/
namespace Wm.F
open Wm
set_option maxRecDepth 100000

/-- 559: (*withy/epoch.Leave).Step -/
def epoch_Leave_Step : AFunc where
  closed := false
  nparams := 2
  ntmps := 23
  results := [.tmp 4]
  body := .seq (.ops (
      .op ⟨(some 4), .mov (.c (.bool false)), []⟩ <|
      .nil)) (
    .seq (.seq (.ops (
      .op ⟨(some 5), .mov (.t 0), []⟩ <|
      .op ⟨(some 6), .eq true .ptr (.t 5) (.c .nilp), []⟩ <|
      .op ⟨(some 7), .mov (.t 6), []⟩ <|
      .grd 7 true [⟨(some 8), .mov (.t 0), []⟩,
          ⟨(some 9), .nilc (.t 8), []⟩,
          ⟨(some 10), .fieldA 1 (.t 9), []⟩,
          ⟨(some 11), .load1 (.t 10), []⟩,
          ⟨(some 12), .not (.t 11), []⟩] <|
      .op ⟨(some 13), .pick (.t 7) (.t 12) (.c (.bool false)), []⟩ <|
      .nil)) (
    .cond (.t 13) (.seq (.ops (
        .op ⟨(some 14), .mov (.t 1), []⟩ <|
        .op ⟨(some 15), .mov (.t 0), []⟩ <|
        .op ⟨(some 16), .nilc (.t 15), []⟩ <|
        .op ⟨(some 17), .fieldA 0 (.t 16), []⟩ <|
        .op ⟨(some 18), .load1 (.t 17), []⟩ <|
        .op ⟨(some 19), .call 203 [(.t 14), (.t 18), (.c (.int .u64 0))], []⟩ <|
        .nil)) (
      .ops (
        .op ⟨(some 20), .mov (.t 0), []⟩ <|
        .op ⟨(some 21), .nilc (.t 20), []⟩ <|
        .op ⟨(some 22), .fieldA 1 (.t 21), []⟩ <|
        .op ⟨none, .store 1 (.t 22) (.c (.bool true)), []⟩ <|
        .nil))) (.skip))) (
    .seq (.ops (
      .op ⟨(some 4), .mov (.c (.bool true)), []⟩ <|
      .nil)) (
    .ret)))

def epoch_Leave_Step_hs : List (List Nat × List Nat) := []

end Wm.F
end

section
/- PRINTED by my tool (wip/wm/tool/Gen.lean): a function as one of my machine. -/
namespace Wm.F
open Wm
set_option maxRecDepth 100000

/-- 319: withy/plan.Entry -/
def plan_Entry : AFunc where
  closed := true
  nparams := 3
  ntmps := 13
  results := [.tmp 6]
  body := .seq (.ops (
      .op ⟨(some 3), .box (.t 0), []⟩ <|
      .op ⟨(some 6), .mov (.c (.int .i64 0)), []⟩ <|
      .nil)) (
    .seq (.ops (
      .op ⟨(some 7), .loadN 6 (.t 3), []⟩ <|
      .op ⟨(some 8), .mov (.t 1), []⟩ <|
      .op ⟨(some 9), .fieldA 3 (.t 3), []⟩ <|
      .op ⟨(some 10), .load1 (.t 9), []⟩ <|
      .op ⟨(some 11), .mov (.t 2), []⟩ <|
      .op ⟨(some 12), .call 397 [(.t 7), (.t 8), (.c (.int .i64 1)), (.t 10), (.t 11)], []⟩ <|
      .op ⟨(some 6), .mov (.t 12), []⟩ <|
      .nil)) (
    .ret))

def plan_Entry_hs : List (List Nat × List Nat) := []

end Wm.F
end

section
/- PRINTED by my tool (wip/wm/tool/Gen.lean): a function as one of my machine. -/
namespace Wm.F
open Wm
set_option maxRecDepth 100000

/-- 470: (*withy/root.Table).Drop -/
def root_Table_Drop : AFunc where
  closed := false
  nparams := 2
  ntmps := 38
  results := [.tmp 4]
  body := .seq (.ops (
      .op ⟨(some 4), .mov (.c (.bool false)), []⟩ <|
      .nil)) (
    .seq (.seq (.ops (
      .op ⟨(some 5), .mov (.t 0), []⟩ <|
      .op ⟨(some 6), .eq false .ptr (.t 5) (.c .nilp), []⟩ <|
      .op ⟨(some 7), .mov (.t 6), []⟩ <|
      .grd 7 false [⟨(some 8), .mov (.t 1), []⟩,
          ⟨(some 9), .cmp .lss .i64 (.t 8) (.c (.int .i64 0)), []⟩] <|
      .op ⟨(some 10), .pick (.t 7) (.c (.bool true)) (.t 9), []⟩ <|
      .op ⟨(some 11), .mov (.t 10), []⟩ <|
      .grd 11 false [⟨(some 12), .mov (.t 1), []⟩,
          ⟨(some 13), .mov (.t 0), []⟩,
          ⟨(some 14), .nilc (.t 13), []⟩,
          ⟨(some 15), .fieldA 7 (.t 14), []⟩,
          ⟨(some 16), .load1 (.t 15), []⟩,
          ⟨(some 17), .lenSl (.t 16), []⟩,
          ⟨(some 18), .cmp .geq .i64 (.t 12) (.t 17), []⟩] <|
      .op ⟨(some 19), .pick (.t 11) (.c (.bool true)) (.t 18), []⟩ <|
      .op ⟨(some 20), .mov (.t 19), []⟩ <|
      .grd 20 false [⟨(some 21), .mov (.t 0), []⟩,
          ⟨(some 22), .nilc (.t 21), []⟩,
          ⟨(some 23), .fieldA 7 (.t 22), []⟩,
          ⟨(some 24), .load1 (.t 23), []⟩,
          ⟨(some 25), .mov (.t 1), []⟩,
          ⟨(some 26), .indexA 2 (.t 24) (.t 25), []⟩,
          ⟨(some 27), .fieldA 1 (.t 26), []⟩,
          ⟨(some 28), .load1 (.t 27), []⟩,
          ⟨(some 29), .cmp .lss .i64 (.t 28) (.c (.int .i64 0)), []⟩] <|
      .op ⟨(some 30), .pick (.t 20) (.c (.bool true)) (.t 29), []⟩ <|
      .nil)) (
    .cond (.t 30) (.seq (.ops (
        .op ⟨(some 4), .mov (.c (.bool false)), []⟩ <|
        .nil)) (
      .ret)) (.skip))) (
    .seq (.ops (
      .op ⟨(some 31), .mov (.t 0), []⟩ <|
      .op ⟨(some 32), .nilc (.t 31), []⟩ <|
      .op ⟨(some 33), .fieldA 7 (.t 32), []⟩ <|
      .op ⟨(some 34), .load1 (.t 33), []⟩ <|
      .op ⟨(some 35), .mov (.t 1), []⟩ <|
      .op ⟨(some 36), .indexA 2 (.t 34) (.t 35), []⟩ <|
      .op ⟨(some 37), .fieldA 1 (.t 36), []⟩ <|
      .op ⟨none, .store 1 (.t 37) (.c (.int .i64 (-1))), []⟩ <|
      .nil)) (
    .seq (.ops (
      .op ⟨(some 4), .mov (.c (.bool true)), []⟩ <|
      .nil)) (
    .ret))))

def root_Table_Drop_hs : List (List Nat × List Nat) := []

end Wm.F
end

section
/- PRINTED by my tool (wip/wm/tool/Gen.lean): a function as one of my machine. -/
namespace Wm.F
open Wm
set_option maxRecDepth 100000

/-- 471: (*withy/root.Table).Word -/
def root_Table_Word : AFunc where
  closed := false
  nparams := 2
  ntmps := 43
  results := [.tmp 4]
  body := .seq (.ops (
      .op ⟨(some 4), .mov (.c (.int .u64 0)), []⟩ <|
      .nil)) (
    .seq (.seq (.ops (
      .op ⟨(some 7), .mov (.t 0), []⟩ <|
      .op ⟨(some 8), .eq false .ptr (.t 7) (.c .nilp), []⟩ <|
      .op ⟨(some 9), .mov (.t 8), []⟩ <|
      .grd 9 false [⟨(some 10), .mov (.t 1), []⟩,
          ⟨(some 11), .cmp .lss .i64 (.t 10) (.c (.int .i64 0)), []⟩] <|
      .op ⟨(some 12), .pick (.t 9) (.c (.bool true)) (.t 11), []⟩ <|
      .op ⟨(some 13), .mov (.t 12), []⟩ <|
      .grd 13 false [⟨(some 14), .mov (.t 1), []⟩,
          ⟨(some 15), .mov (.t 0), []⟩,
          ⟨(some 16), .nilc (.t 15), []⟩,
          ⟨(some 17), .fieldA 7 (.t 16), []⟩,
          ⟨(some 18), .load1 (.t 17), []⟩,
          ⟨(some 19), .lenSl (.t 18), []⟩,
          ⟨(some 20), .cmp .geq .i64 (.t 14) (.t 19), []⟩] <|
      .op ⟨(some 21), .pick (.t 13) (.c (.bool true)) (.t 20), []⟩ <|
      .nil)) (
    .cond (.t 21) (.seq (.ops (
        .op ⟨(some 4), .mov (.c (.int .u64 0)), []⟩ <|
        .nil)) (
      .ret)) (.skip))) (
    .seq (.ops (
      .op ⟨(some 23), .mov (.t 0), []⟩ <|
      .op ⟨(some 24), .nilc (.t 23), []⟩ <|
      .op ⟨(some 25), .fieldA 7 (.t 24), []⟩ <|
      .op ⟨(some 26), .load1 (.t 25), []⟩ <|
      .op ⟨(some 27), .mov (.t 1), []⟩ <|
      .op ⟨(some 28), .indexA 2 (.t 26) (.t 27), []⟩ <|
      .op ⟨(some 29), .fieldA 0 (.t 28), []⟩ <|
      .op ⟨(some 30), .load1 (.t 29), []⟩ <|
      .op ⟨(some 31), .mov (.t 0), []⟩ <|
      .op ⟨(some 32), .nilc (.t 31), []⟩ <|
      .op ⟨(some 33), .fieldA 7 (.t 32), []⟩ <|
      .op ⟨(some 34), .load1 (.t 33), []⟩ <|
      .op ⟨(some 35), .mov (.t 1), []⟩ <|
      .op ⟨(some 36), .indexA 2 (.t 34) (.t 35), []⟩ <|
      .op ⟨(some 37), .fieldA 1 (.t 36), []⟩ <|
      .op ⟨(some 38), .load1 (.t 37), []⟩ <|
      .op ⟨(some 39), .call 496 [(.t 30), (.t 38)], []⟩ <|
      .op ⟨(some 22), .mov (.t 39), []⟩ <|
      .op ⟨(some 40), .extract (.t 22) 0, []⟩ <|
      .op ⟨(some 41), .extract (.t 22) 1, []⟩ <|
      .op ⟨(some 5), .mov (.t 40), []⟩ <|
      .op ⟨(some 6), .mov (.t 41), []⟩ <|
      .nil)) (
    .seq (.ops (
      .op ⟨(some 42), .mov (.t 5), []⟩ <|
      .op ⟨(some 4), .mov (.t 42), []⟩ <|
      .nil)) (
    .ret))))

def root_Table_Word_hs : List (List Nat × List Nat) := []

end Wm.F
end

section
/- PRINTED by my tool (wip/wm/tool/Gen.lean): a function as one of my machine. -/
namespace Wm.F
open Wm
set_option maxRecDepth 100000

/-- 553: (*withy/client.word).Step -/
def client_word_Step : AFunc where
  closed := false
  nparams := 2
  ntmps := 36
  results := [.tmp 4]
  body := .seq (.ops (
      .op ⟨(some 4), .mov (.c (.bool false)), []⟩ <|
      .nil)) (
    .seq (.seq (.ops (
      .op ⟨(some 5), .mov (.t 0), []⟩ <|
      .op ⟨(some 6), .nilc (.t 5), []⟩ <|
      .op ⟨(some 7), .fieldA 3 (.t 6), []⟩ <|
      .op ⟨(some 8), .load1 (.t 7), []⟩ <|
      .op ⟨(some 9), .not (.t 8), []⟩ <|
      .nil)) (
    .cond (.t 9) (.seq (.seq (.ops (
        .op ⟨(some 10), .mov (.t 0), []⟩ <|
        .op ⟨(some 11), .nilc (.t 10), []⟩ <|
        .op ⟨(some 12), .fieldA 2 (.t 11), []⟩ <|
        .op ⟨(some 13), .load1 (.t 12), []⟩ <|
        .nil)) (
      .cond (.t 13) (.ops (
          .op ⟨(some 14), .mov (.t 1), []⟩ <|
          .op ⟨(some 15), .mov (.t 0), []⟩ <|
          .op ⟨(some 16), .nilc (.t 15), []⟩ <|
          .op ⟨(some 17), .fieldA 0 (.t 16), []⟩ <|
          .op ⟨(some 18), .load1 (.t 17), []⟩ <|
          .op ⟨(some 19), .mov (.t 0), []⟩ <|
          .op ⟨(some 20), .nilc (.t 19), []⟩ <|
          .op ⟨(some 21), .fieldA 1 (.t 20), []⟩ <|
          .op ⟨(some 22), .load1 (.t 21), []⟩ <|
          .op ⟨(some 23), .call 203 [(.t 14), (.t 18), (.t 22)], []⟩ <|
          .nil)) (.ops (
          .op ⟨(some 24), .mov (.t 0), []⟩ <|
          .op ⟨(some 25), .mov (.t 1), []⟩ <|
          .op ⟨(some 26), .mov (.t 0), []⟩ <|
          .op ⟨(some 27), .nilc (.t 26), []⟩ <|
          .op ⟨(some 28), .fieldA 0 (.t 27), []⟩ <|
          .op ⟨(some 29), .load1 (.t 28), []⟩ <|
          .op ⟨(some 30), .call 266 [(.t 25), (.t 29)], []⟩ <|
          .op ⟨(some 31), .nilc (.t 24), []⟩ <|
          .op ⟨(some 32), .fieldA 1 (.t 31), []⟩ <|
          .op ⟨none, .store 1 (.t 32) (.t 30), []⟩ <|
          .nil)))) (
      .ops (
        .op ⟨(some 33), .mov (.t 0), []⟩ <|
        .op ⟨(some 34), .nilc (.t 33), []⟩ <|
        .op ⟨(some 35), .fieldA 3 (.t 34), []⟩ <|
        .op ⟨none, .store 1 (.t 35) (.c (.bool true)), []⟩ <|
        .nil))) (.skip))) (
    .seq (.ops (
      .op ⟨(some 4), .mov (.c (.bool true)), []⟩ <|
      .nil)) (
    .ret)))

def client_word_Step_hs : List (List Nat × List Nat) := []

end Wm.F
end

section
/- PRINTED by my tool (wip/wm/tool/Gen.lean): a function as one of my machine. -/
namespace Wm.F
open Wm
set_option maxRecDepth 100000

/-- 167: withy/iter.NewWalk -/
def iter_NewWalk : AFunc where
  closed := false
  nparams := 4
  ntmps := 26
  results := [.tmp 8]
  body := .seq (.ops (
      .op ⟨(some 4), .box (.t 0), []⟩ <|
      .op ⟨(some 8), .mov (.c .nilp), []⟩ <|
      .nil)) (
    .seq (.seq (.ops (
      .op ⟨(some 9), .loadN 6 (.t 4), []⟩ <|
      .op ⟨(some 10), .mov (.t 1), []⟩ <|
      .op ⟨(some 11), .call 261 [(.t 9), (.t 10)], []⟩ <|
      .op ⟨(some 12), .cmp .lss .i64 (.t 11) (.c (.int .i64 0)), []⟩ <|
      .op ⟨(some 13), .mov (.t 12), []⟩ <|
      .grd 13 false [⟨(some 14), .mov (.t 3), []⟩,
          ⟨(some 15), .eq false .ptr (.t 14) (.c .nilp), []⟩] <|
      .op ⟨(some 16), .pick (.t 13) (.c (.bool true)) (.t 15), []⟩ <|
      .nil)) (
    .cond (.t 16) (.seq (.ops (
        .op ⟨(some 8), .mov (.c .nilp), []⟩ <|
        .nil)) (
      .ret)) (.skip))) (
    .seq (.ops (
      .op ⟨(some 17), .loadN 6 (.t 4), []⟩ <|
      .op ⟨(some 18), .mov (.t 2), []⟩ <|
      .op ⟨(some 19), .mov (.t 3), []⟩ <|
      .op ⟨(some 20), .mov (.t 1), []⟩ <|
      .op ⟨(some 21), .buildSl 1 1 [(.int .i64 0)] [(0, 1, (.t 20))], []⟩ <|
      .op ⟨(some 22), .mov (.t 1), []⟩ <|
      .op ⟨(some 23), .buildSl 1 1 [(.int .i64 0)] [(0, 1, (.t 22))], []⟩ <|
      .op ⟨(some 24), .build [(.int .i64 0), (.int .i64 0), (.int .i64 0), (.int .i64 0), (.int .i64 0), (.int .i64 0), (.int .u64 0), .nilp, .nilsl, .nilsl, .nilp, (.int .i64 0), (.int .i64 0), (.int .i64 0)] [(0, 6, (.t 17)), (6, 1, (.t 18)), (7, 1, (.t 19)), (8, 1, (.t 21)), (9, 1, (.t 23))], []⟩ <|
      .op ⟨(some 25), .box (.t 24), []⟩ <|
      .op ⟨(some 8), .mov (.t 25), []⟩ <|
      .nil)) (
    .ret)))

def iter_NewWalk_hs : List (List Nat × List Nat) := []

end Wm.F
end

section
/- PRINTED by my tool (wip/wm/tool/Gen.lean): a function as one of my machine. -/
namespace Wm.F
open Wm
set_option maxRecDepth 100000

/-- 472: withy/tag.Handle -/
def tag_Handle : AFunc where
  closed := true
  nparams := 3
  ntmps := 48
  results := [.tmp 6, .tmp 7]
  body := .seq (.ops (
      .op ⟨(some 6), .mov (.c (.int .u64 0)), []⟩ <|
      .op ⟨(some 7), .mov (.c (.bool false)), []⟩ <|
      .nil)) (
    .seq (.seq (.ops (
      .op ⟨(some 8), .mov (.t 0), []⟩ <|
      .op ⟨(some 9), .cmp .lss .i64 (.t 8) (.c (.int .i64 0)), []⟩ <|
      .op ⟨(some 10), .mov (.t 9), []⟩ <|
      .grd 10 false [⟨(some 11), .mov (.t 0), []⟩,
          ⟨(some 12), .cmp .geq .i64 (.t 11) (.c (.int .i64 8)), []⟩] <|
      .op ⟨(some 13), .pick (.t 10) (.c (.bool true)) (.t 12), []⟩ <|
      .op ⟨(some 14), .mov (.t 13), []⟩ <|
      .grd 14 false [⟨(some 15), .mov (.t 1), []⟩,
          ⟨(some 16), .cmp .lss .i64 (.t 15) (.c (.int .i64 0)), []⟩] <|
      .op ⟨(some 17), .pick (.t 14) (.c (.bool true)) (.t 16), []⟩ <|
      .op ⟨(some 18), .mov (.t 17), []⟩ <|
      .grd 18 false [⟨(some 19), .mov (.t 1), []⟩,
          ⟨(some 20), .cmp .geq .i64 (.t 19) (.c (.int .i64 16)), []⟩,
          ⟨(some 21), .mov (.t 20), []⟩] <|
      .grd 21 true [⟨(some 22), .mov (.t 1), []⟩,
          ⟨(some 23), .cmp .neq .i64 (.t 22) (.c (.int .i64 255)), []⟩] <|
      .grd 18 false [⟨(some 24), .pick (.t 21) (.t 23) (.c (.bool false)), []⟩] <|
      .op ⟨(some 25), .pick (.t 18) (.c (.bool true)) (.t 24), []⟩ <|
      .op ⟨(some 26), .mov (.t 25), []⟩ <|
      .grd 26 false [⟨(some 27), .mov (.t 2), []⟩,
          ⟨(some 28), .cmp .lss .u64 (.t 27) (.c (.int .u64 1)), []⟩] <|
      .op ⟨(some 29), .pick (.t 26) (.c (.bool true)) (.t 28), []⟩ <|
      .op ⟨(some 30), .mov (.t 29), []⟩ <|
      .grd 30 false [⟨(some 31), .mov (.t 2), []⟩,
          ⟨(some 32), .cmp .gtr .u64 (.t 31) (.c (.int .u64 4294967295)), []⟩] <|
      .op ⟨(some 33), .pick (.t 30) (.c (.bool true)) (.t 32), []⟩ <|
      .nil)) (
    .cond (.t 33) (.seq (.ops (
        .op ⟨(some 6), .mov (.c (.int .u64 0)), []⟩ <|
        .op ⟨(some 7), .mov (.c (.bool false)), []⟩ <|
        .nil)) (
      .ret)) (.skip))) (
    .seq (.ops (
      .op ⟨(some 34), .mov (.t 2), []⟩ <|
      .op ⟨(some 35), .build [(.int .i64 0), (.int .u64 0)] [(0, 1, (.c (.int .i64 32))), (1, 1, (.t 34))], []⟩ <|
      .op ⟨(some 36), .build [(.int .i64 0), (.int .u64 0)] [(0, 1, (.c (.int .i64 16)))], []⟩ <|
      .op ⟨(some 37), .mov (.t 1), []⟩ <|
      .op ⟨(some 38), .conv .u64 (.t 37), []⟩ <|
      .op ⟨(some 39), .build [(.int .i64 0), (.int .u64 0)] [(0, 1, (.c (.int .i64 8))), (1, 1, (.t 38))], []⟩ <|
      .op ⟨(some 40), .mov (.t 0), []⟩ <|
      .op ⟨(some 41), .arith .add .i64 (.t 40) (.c (.int .i64 1)), []⟩ <|
      .op ⟨(some 42), .conv .u64 (.t 41), []⟩ <|
      .op ⟨(some 43), .build [(.int .i64 0), (.int .u64 0)] [(0, 1, (.c (.int .i64 8))), (1, 1, (.t 42))], []⟩ <|
      .op ⟨(some 44), .buildSl 2 4 [(.int .i64 0), (.int .u64 0)] [(0, 2, (.t 35)), (2, 2, (.t 36)), (4, 2, (.t 39)), (6, 2, (.t 43))], []⟩ <|
      .op ⟨(some 45), .call 443 [(.t 44)], []⟩ <|
      .op ⟨(some 46), .extract (.t 45) 0, []⟩ <|
      .op ⟨(some 47), .extract (.t 45) 1, []⟩ <|
      .op ⟨(some 6), .mov (.t 46), []⟩ <|
      .op ⟨(some 7), .mov (.t 47), []⟩ <|
      .nil)) (
    .ret)))

def tag_Handle_hs : List (List Nat × List Nat) := []

end Wm.F
end

section
/- PRINTED by my tool (wip/wm/tool/Gen.lean): a function as one of my machine. -/
namespace Wm.F
open Wm
set_option maxRecDepth 100000

/-- 177: (*withy/iter.Walk).Go -/
def iter_Walk_Go : AFunc where
  closed := false
  nparams := 1
  ntmps := 32
  results := [.tmp 2]
  body := .seq (.ops (
      .op ⟨(some 2), .mov (.c (.int .i64 0)), []⟩ <|
      .nil)) (
    .seq (.seq (.ops (
      .op ⟨(some 4), .mov (.t 0), []⟩ <|
      .op ⟨(some 5), .call 171 [(.t 4)], []⟩ <|
      .op ⟨(some 6), .cmp .eql .i64 (.t 5) (.c (.int .i64 0)), []⟩ <|
      .op ⟨(some 7), .mov (.t 6), []⟩ <|
      .grd 7 false [⟨(some 8), .mov (.t 0), []⟩,
          ⟨(some 9), .nilc (.t 8), []⟩,
          ⟨(some 10), .fieldA 13 (.t 9), []⟩,
          ⟨(some 11), .load1 (.t 10), []⟩,
          ⟨(some 12), .cmp .neq .i64 (.t 11) (.c (.int .i64 2)), []⟩] <|
      .op ⟨(some 13), .pick (.t 7) (.c (.bool true)) (.t 12), []⟩ <|
      .nil)) (
    .cond (.t 13) (.seq (.ops (
        .op ⟨(some 2), .mov (.c (.int .i64 (-1))), []⟩ <|
        .nil)) (
      .ret)) (.skip))) (
    .seq (.ops (
      .op ⟨(some 14), .mov (.t 0), []⟩ <|
      .op ⟨(some 15), .nilc (.t 14), []⟩ <|
      .op ⟨(some 16), .fieldA 8 (.t 15), []⟩ <|
      .op ⟨(some 17), .load1 (.t 16), []⟩ <|
      .op ⟨(some 18), .indexA 1 (.t 17) (.c (.int .i64 0)), []⟩ <|
      .op ⟨(some 19), .load1 (.t 18), []⟩ <|
      .op ⟨(some 3), .mov (.t 19), []⟩ <|
      .nil)) (
    .seq (.ops (
      .op ⟨(some 20), .mov (.t 0), []⟩ <|
      .op ⟨(some 21), .mov (.t 0), []⟩ <|
      .op ⟨(some 22), .mov (.t 0), []⟩ <|
      .op ⟨(some 23), .nilc (.t 22), []⟩ <|
      .op ⟨(some 24), .fieldA 8 (.t 23), []⟩ <|
      .op ⟨(some 25), .load1 (.t 24), []⟩ <|
      .op ⟨(some 26), .slice 1 (.t 25) (some (.c (.int .i64 1))) none none, []⟩ <|
      .op ⟨(some 27), .nilc (.t 20), []⟩ <|
      .op ⟨(some 28), .fieldA 8 (.t 27), []⟩ <|
      .op ⟨none, .store 1 (.t 28) (.t 26), []⟩ <|
      .op ⟨(some 29), .nilc (.t 21), []⟩ <|
      .op ⟨(some 30), .fieldA 13 (.t 29), []⟩ <|
      .op ⟨none, .store 1 (.t 30) (.c (.int .i64 0)), []⟩ <|
      .nil)) (
    .seq (.ops (
      .op ⟨(some 31), .mov (.t 3), []⟩ <|
      .op ⟨(some 2), .mov (.t 31), []⟩ <|
      .nil)) (
    .ret)))))

def iter_Walk_Go_hs : List (List Nat × List Nat) := []

end Wm.F
end

section
/- PRINTED by my tool (wip/wm/tool/Gen.lean): a function as one of my machine. -/
namespace Wm.F
open Wm
set_option maxRecDepth 100000

/-- 153: (*withy/field.Book).Turned -/
def field_Book_Turned : AFunc where
  closed := false
  nparams := 2
  ntmps := 20
  results := [.tmp 4]
  body := .seq (.ops (
      .op ⟨(some 4), .mov (.c (.int .i64 0)), []⟩ <|
      .nil)) (
    .seq (.seq (.ops (
      .op ⟨(some 7), .mov (.t 0), []⟩ <|
      .op ⟨(some 8), .eq true .ptr (.t 7) (.c .nilp), []⟩ <|
      .nil)) (
    .cond (.t 8) (.seq (.ops (
        .op ⟨(some 10), .mov (.t 0), []⟩ <|
        .op ⟨(some 11), .nilc (.t 10), []⟩ <|
        .op ⟨(some 12), .fieldA 2 (.t 11), []⟩ <|
        .op ⟨(some 13), .load1 (.t 12), []⟩ <|
        .op ⟨(some 14), .mov (.t 1), []⟩ <|
        .op ⟨(some 15), .lookup .int (.int .i64 0) true (.t 13) (.t 14), []⟩ <|
        .op ⟨(some 9), .mov (.t 15), []⟩ <|
        .op ⟨(some 16), .extract (.t 9) 0, []⟩ <|
        .op ⟨(some 17), .extract (.t 9) 1, []⟩ <|
        .op ⟨(some 5), .mov (.t 16), []⟩ <|
        .op ⟨(some 6), .mov (.t 17), []⟩ <|
        .nil)) (
      .seq (.ops (
        .op ⟨(some 18), .mov (.t 6), []⟩ <|
        .nil)) (
      .cond (.t 18) (.seq (.ops (
          .op ⟨(some 19), .mov (.t 5), []⟩ <|
          .op ⟨(some 4), .mov (.t 19), []⟩ <|
          .nil)) (
        .ret)) (.skip)))) (.skip))) (
    .seq (.ops (
      .op ⟨(some 4), .mov (.c (.int .i64 (-1))), []⟩ <|
      .nil)) (
    .ret)))

def field_Book_Turned_hs : List (List Nat × List Nat) := []

end Wm.F
end

section
/- PRINTED by my tool (wip/wm/tool/Gen.lean): a function as one of my machine. -/
namespace Wm.F
open Wm
set_option maxRecDepth 100000

/-- 269: (*withy/mem.Mem).Swap -/
def mem_Mem_Swap : AFunc where
  closed := false
  nparams := 4
  ntmps := 32
  results := [.tmp 8]
  body := .seq (.ops (
      .op ⟨(some 8), .mov (.c (.bool false)), []⟩ <|
      .nil)) (
    .seq (.seq (.ops (
      .op ⟨(some 10), .mov (.t 0), []⟩ <|
      .op ⟨(some 11), .mov (.t 1), []⟩ <|
      .op ⟨(some 12), .call 346 [(.t 10), (.t 11)], []⟩ <|
      .op ⟨(some 13), .not (.t 12), []⟩ <|
      .nil)) (
    .cond (.t 13) (.seq (.ops (
        .op ⟨(some 8), .mov (.c (.bool false)), []⟩ <|
        .nil)) (
      .ret)) (.skip))) (
    .seq (.ops (
      .op ⟨(some 14), .mov (.t 0), []⟩ <|
      .op ⟨(some 15), .nilc (.t 14), []⟩ <|
      .op ⟨(some 16), .fieldA 0 (.t 15), []⟩ <|
      .op ⟨(some 17), .load1 (.t 16), []⟩ <|
      .op ⟨(some 18), .mov (.t 1), []⟩ <|
      .op ⟨(some 19), .indexA 1 (.t 17) (.t 18), []⟩ <|
      .op ⟨(some 20), .load1 (.t 19), []⟩ <|
      .op ⟨(some 9), .mov (.t 20), []⟩ <|
      .nil)) (
    .seq (.seq (.ops (
      .op ⟨(some 21), .mov (.t 9), []⟩ <|
      .op ⟨(some 22), .mov (.t 2), []⟩ <|
      .op ⟨(some 23), .cmp .neq .u64 (.t 21) (.t 22), []⟩ <|
      .nil)) (
    .cond (.t 23) (.ops (
        .op ⟨(some 24), .mov (.t 9), []⟩ <|
        .op ⟨(some 3), .mov (.t 24), []⟩ <|
        .nil)) (.skip))) (
    .seq (.ops (
      .op ⟨(some 25), .mov (.t 0), []⟩ <|
      .op ⟨(some 26), .mov (.t 1), []⟩ <|
      .op ⟨(some 27), .mov (.t 3), []⟩ <|
      .op ⟨(some 28), .call 347 [(.t 25), (.c (.int .i64 3)), (.t 26), (.t 27)], []⟩ <|
      .nil)) (
    .seq (.ops (
      .op ⟨(some 29), .mov (.t 9), []⟩ <|
      .op ⟨(some 30), .mov (.t 2), []⟩ <|
      .op ⟨(some 31), .cmp .eql .u64 (.t 29) (.t 30), []⟩ <|
      .op ⟨(some 8), .mov (.t 31), []⟩ <|
      .nil)) (
    .ret))))))

def mem_Mem_Swap_hs : List (List Nat × List Nat) := []

end Wm.F
end

section
/- PRINTED by my tool (wip/wm/tool/Gen.lean): a function as one of my machine. -/
namespace Wm.F
open Wm
set_option maxRecDepth 100000

/-- 346: (*withy/mem.Mem).there -/
def mem_Mem_there : AFunc where
  closed := false
  nparams := 2
  ntmps := 13
  results := [.tmp 4]
  body := .seq (.ops (
      .op ⟨(some 4), .mov (.c (.bool false)), []⟩ <|
      .nil)) (
    .seq (.ops (
      .op ⟨(some 5), .mov (.t 1), []⟩ <|
      .op ⟨(some 6), .cmp .geq .i64 (.t 5) (.c (.int .i64 0)), []⟩ <|
      .op ⟨(some 7), .mov (.t 6), []⟩ <|
      .grd 7 true [⟨(some 8), .mov (.t 1), []⟩,
          ⟨(some 9), .mov (.t 0), []⟩,
          ⟨(some 10), .call 413 [(.t 9)], []⟩,
          ⟨(some 11), .cmp .lss .i64 (.t 8) (.t 10), []⟩] <|
      .op ⟨(some 12), .pick (.t 7) (.t 11) (.c (.bool false)), []⟩ <|
      .op ⟨(some 4), .mov (.t 12), []⟩ <|
      .nil)) (
    .ret))

def mem_Mem_there_hs : List (List Nat × List Nat) := []

end Wm.F
end

section
/- PRINTED by my tool (wip/wm/tool/Gen.lean): a function as one of my machine. -/
namespace Wm.F
open Wm
set_option maxRecDepth 100000

/-- 347: (*withy/mem.Mem).touch -/
def mem_Mem_touch : AFunc where
  closed := false
  nparams := 4
  ntmps := 36
  results := []
  body := .seq (.ops (
      .op ⟨(some 8), .mov (.t 0), []⟩ <|
      .op ⟨(some 9), .nilc (.t 8), []⟩ <|
      .op ⟨(some 10), .fieldA 1 (.t 9), []⟩ <|
      .op ⟨(some 11), .load1 (.t 10), []⟩ <|
      .op ⟨(some 12), .arith .add .i64 (.t 11) (.c (.int .i64 1)), []⟩ <|
      .op ⟨(some 13), .nilc (.t 8), []⟩ <|
      .op ⟨(some 14), .fieldA 1 (.t 13), []⟩ <|
      .op ⟨none, .store 1 (.t 14) (.t 12), []⟩ <|
      .nil)) (
    .seq (.ops (
      .op ⟨(some 15), .mov (.t 0), []⟩ <|
      .op ⟨(some 16), .mov (.t 1), []⟩ <|
      .op ⟨(some 17), .mov (.t 2), []⟩ <|
      .op ⟨(some 18), .mov (.t 0), []⟩ <|
      .op ⟨(some 19), .nilc (.t 18), []⟩ <|
      .op ⟨(some 20), .fieldA 0 (.t 19), []⟩ <|
      .op ⟨(some 21), .load1 (.t 20), []⟩ <|
      .op ⟨(some 22), .mov (.t 2), []⟩ <|
      .op ⟨(some 23), .indexA 1 (.t 21) (.t 22), []⟩ <|
      .op ⟨(some 24), .load1 (.t 23), []⟩ <|
      .op ⟨(some 25), .mov (.t 3), []⟩ <|
      .op ⟨(some 26), .build [(.int .i64 0), (.int .i64 0), (.int .u64 0), (.int .u64 0)] [(0, 1, (.t 16)), (1, 1, (.t 17)), (2, 1, (.t 24)), (3, 1, (.t 25))], []⟩ <|
      .op ⟨(some 27), .nilc (.t 15), []⟩ <|
      .op ⟨(some 28), .fieldA 2 (.t 27), []⟩ <|
      .op ⟨none, .store 4 (.t 28) (.t 26), []⟩ <|
      .nil)) (
    .ops (
      .op ⟨(some 29), .mov (.t 0), []⟩ <|
      .op ⟨(some 30), .nilc (.t 29), []⟩ <|
      .op ⟨(some 31), .fieldA 0 (.t 30), []⟩ <|
      .op ⟨(some 32), .load1 (.t 31), []⟩ <|
      .op ⟨(some 33), .mov (.t 2), []⟩ <|
      .op ⟨(some 34), .mov (.t 3), []⟩ <|
      .op ⟨(some 35), .indexA 1 (.t 32) (.t 33), []⟩ <|
      .op ⟨none, .store 1 (.t 35) (.t 34), []⟩ <|
      .nil)))

def mem_Mem_touch_hs : List (List Nat × List Nat) := []

end Wm.F
end

section
/- PRINTED by my tool (wip/wm/tool/Gen.lean): a function as one of my machine. -/
namespace Wm.F
open Wm
set_option maxRecDepth 100000

def word_Unpack_c1 : ACode :=
  .seq (.ops (
    .op ⟨(some 13), .cmp .lss .i64 (.t 12) (.t 11), []⟩ <|
    .nil)) (
  .seq (.cond (.t 13) (.skip) (.exit 0)) (
  .seq (.block 1 (.seq (.ops (
    .op ⟨(some 14), .indexA 1 (.t 10) (.t 12), []⟩ <|
    .op ⟨(some 15), .load1 (.t 14), []⟩ <|
    .op ⟨(some 9), .mov (.t 15), []⟩ <|
    .nil)) (
  .seq (.seq (.ops (
    .op ⟨(some 16), .mov (.t 7), []⟩ <|
    .op ⟨(some 17), .mov (.t 9), []⟩ <|
    .op ⟨(some 18), .call 441 [(.t 16), (.t 17)], []⟩ <|
    .op ⟨(some 19), .not (.t 18), []⟩ <|
    .nil)) (
  .cond (.t 19) (.seq (.ops (
      .op ⟨(some 4), .mov (.c .nilsl), []⟩ <|
      .op ⟨(some 5), .mov (.c (.bool false)), []⟩ <|
      .nil)) (
    .ret)) (.skip))) (
  .seq (.ops (
    .op ⟨(some 20), .mov (.t 6), []⟩ <|
    .op ⟨(some 21), .mov (.t 0), []⟩ <|
    .op ⟨(some 22), .mov (.t 7), []⟩ <|
    .op ⟨(some 23), .mov (.t 9), []⟩ <|
    .op ⟨(some 24), .call 396 [(.t 21), (.t 22), (.t 23)], []⟩ <|
    .op ⟨(some 25), .buildSl 1 1 [(.int .u64 0)] [(0, 1, (.t 24))], []⟩ <|
    .op ⟨(some 26), .append 1 8 (.t 20) (.t 25), []⟩ <|
    .op ⟨(some 6), .mov (.t 26), []⟩ <|
    .nil)) (
  .ops (
    .op ⟨(some 27), .mov (.t 7), []⟩ <|
    .op ⟨(some 28), .mov (.t 9), []⟩ <|
    .op ⟨(some 29), .arith .add .i64 (.t 27) (.t 28), []⟩ <|
    .op ⟨(some 7), .mov (.t 29), []⟩ <|
    .nil)))))) (
  .ops (
    .op ⟨(some 30), .arith .add .i64 (.t 12) (.c (.int .i64 1)), []⟩ <|
    .op ⟨(some 12), .mov (.t 30), []⟩ <|
    .nil))))

def word_Unpack_c0 : ACode :=
  .seq (.ops (
    .op ⟨(some 31), .mov (.t 6), []⟩ <|
    .op ⟨(some 4), .mov (.t 31), []⟩ <|
    .op ⟨(some 5), .mov (.c (.bool true)), []⟩ <|
    .nil)) (
  .ret)

/-- 379: withy/word.Unpack -/
def word_Unpack : AFunc where
  closed := false
  nparams := 2
  ntmps := 32
  results := [.tmp 4, .tmp 5]
  body := .seq (.ops (
      .op ⟨(some 4), .mov (.c .nilsl), []⟩ <|
      .op ⟨(some 5), .mov (.c (.bool false)), []⟩ <|
      .nil)) (
    .seq (.ops (
      .op ⟨(some 6), .mov (.c .nilsl), []⟩ <|
      .nil)) (
    .seq (.ops (
      .op ⟨(some 7), .mov (.c (.int .i64 0)), []⟩ <|
      .nil)) (
    .seq (.seq (.ops (
      .op ⟨(some 10), .mov (.t 1), []⟩ <|
      .op ⟨(some 11), .lenSl (.t 10), []⟩ <|
      .op ⟨(some 12), .mov (.c (.int .i64 0)), []⟩ <|
      .nil)) (
    .block 0 (.loop [0, 6, 7, 10, 11, 12] [4, 5, 6] (word_Unpack_c1)))) (
    word_Unpack_c0))))

def word_Unpack_hs : List (List Nat × List Nat) := [([0, 6, 7, 10, 11, 12], [4, 5, 6])]

end Wm.F
end

section
/- PRINTED by my tool (wip/wm/tool/Gen.lean): a function as one of my machine. -/
namespace Wm.F
open Wm
set_option maxRecDepth 100000

def word_Pack_c1 : ACode :=
  .seq (.ops (
    .op ⟨(some 11), .cmp .lss .i64 (.t 10) (.t 9), []⟩ <|
    .nil)) (
  .seq (.cond (.t 11) (.skip) (.exit 0)) (
  .seq (.block 1 (.seq (.ops (
    .op ⟨(some 12), .indexA 2 (.t 8) (.t 10), []⟩ <|
    .op ⟨(some 13), .loadN 2 (.t 12), []⟩ <|
    .op ⟨(some 7), .alloc [(.int .i64 0), (.int .u64 0)], []⟩ <|
    .op ⟨none, .store 2 (.t 7) (.t 13), []⟩ <|
    .nil)) (
  .seq (.seq (.ops (
    .op ⟨(some 14), .mov (.t 5), []⟩ <|
    .op ⟨(some 15), .fieldA 0 (.t 7), []⟩ <|
    .op ⟨(some 16), .load1 (.t 15), []⟩ <|
    .op ⟨(some 17), .call 441 [(.t 14), (.t 16)], []⟩ <|
    .op ⟨(some 18), .not (.t 17), []⟩ <|
    .op ⟨(some 19), .mov (.t 18), []⟩ <|
    .grd 19 false [⟨(some 20), .fieldA 1 (.t 7), []⟩,
        ⟨(some 21), .load1 (.t 20), []⟩,
        ⟨(some 22), .fieldA 0 (.t 7), []⟩,
        ⟨(some 23), .load1 (.t 22), []⟩,
        ⟨(some 24), .call 484 [(.t 21), (.t 23)], []⟩,
        ⟨(some 25), .not (.t 24), []⟩] <|
    .op ⟨(some 26), .pick (.t 19) (.c (.bool true)) (.t 25), []⟩ <|
    .nil)) (
  .cond (.t 26) (.seq (.ops (
      .op ⟨(some 2), .mov (.c (.int .u64 0)), []⟩ <|
      .op ⟨(some 3), .mov (.c (.bool false)), []⟩ <|
      .nil)) (
    .ret)) (.skip))) (
  .seq (.ops (
    .op ⟨(some 27), .mov (.t 4), []⟩ <|
    .op ⟨(some 28), .fieldA 1 (.t 7), []⟩ <|
    .op ⟨(some 29), .load1 (.t 28), []⟩ <|
    .op ⟨(some 30), .mov (.t 5), []⟩ <|
    .op ⟨(some 31), .shift true .u64 .i64 (.t 29) (.t 30), []⟩ <|
    .op ⟨(some 32), .arith .or .u64 (.t 27) (.t 31), []⟩ <|
    .op ⟨(some 4), .mov (.t 32), []⟩ <|
    .nil)) (
  .ops (
    .op ⟨(some 33), .mov (.t 5), []⟩ <|
    .op ⟨(some 34), .fieldA 0 (.t 7), []⟩ <|
    .op ⟨(some 35), .load1 (.t 34), []⟩ <|
    .op ⟨(some 36), .arith .add .i64 (.t 33) (.t 35), []⟩ <|
    .op ⟨(some 5), .mov (.t 36), []⟩ <|
    .nil)))))) (
  .ops (
    .op ⟨(some 37), .arith .add .i64 (.t 10) (.c (.int .i64 1)), []⟩ <|
    .op ⟨(some 10), .mov (.t 37), []⟩ <|
    .nil))))

def word_Pack_c0 : ACode :=
  .seq (.ops (
    .op ⟨(some 38), .mov (.t 4), []⟩ <|
    .op ⟨(some 2), .mov (.t 38), []⟩ <|
    .op ⟨(some 3), .mov (.c (.bool true)), []⟩ <|
    .nil)) (
  .ret)

/-- 443: withy/word.Pack -/
def word_Pack : AFunc where
  closed := false
  nparams := 1
  ntmps := 39
  results := [.tmp 2, .tmp 3]
  body := .seq (.ops (
      .op ⟨(some 2), .mov (.c (.int .u64 0)), []⟩ <|
      .op ⟨(some 3), .mov (.c (.bool false)), []⟩ <|
      .nil)) (
    .seq (.ops (
      .op ⟨(some 4), .mov (.c (.int .u64 0)), []⟩ <|
      .nil)) (
    .seq (.ops (
      .op ⟨(some 5), .mov (.c (.int .i64 0)), []⟩ <|
      .nil)) (
    .seq (.seq (.ops (
      .op ⟨(some 8), .mov (.t 0), []⟩ <|
      .op ⟨(some 9), .lenSl (.t 8), []⟩ <|
      .op ⟨(some 10), .mov (.c (.int .i64 0)), []⟩ <|
      .nil)) (
    .block 0 (.loop [4, 5, 8, 9, 10] [2, 3, 4] (word_Pack_c1)))) (
    word_Pack_c0))))

def word_Pack_hs : List (List Nat × List Nat) := [([4, 5, 8, 9, 10], [2, 3, 4])]

end Wm.F
end

section
/- PRINTED by my tool (wip/wm/tool/Gen.lean): a function as one of my machine. -/
namespace Wm.F
open Wm
set_option maxRecDepth 100000

/-- 462: withy/tag.slots -/
def tag_slots : AFunc where
  closed := true
  nparams := 1
  ntmps := 9
  results := [.tmp 2]
  body := .seq (.ops (
      .op ⟨(some 2), .mov (.c (.bool false)), []⟩ <|
      .nil)) (
    .seq (.ops (
      .op ⟨(some 3), .mov (.t 0), []⟩ <|
      .op ⟨(some 4), .cmp .geq .i64 (.t 3) (.c (.int .i64 (-1))), []⟩ <|
      .op ⟨(some 5), .mov (.t 4), []⟩ <|
      .grd 5 true [⟨(some 6), .mov (.t 0), []⟩,
          ⟨(some 7), .cmp .lss .i64 (.t 6) (.c (.int .i64 64)), []⟩] <|
      .op ⟨(some 8), .pick (.t 5) (.t 7) (.c (.bool false)), []⟩ <|
      .op ⟨(some 2), .mov (.t 8), []⟩ <|
      .nil)) (
    .ret))

def tag_slots_hs : List (List Nat × List Nat) := []

end Wm.F
end

section
/- PRINTED by my tool (wip/wm/tool/Gen.lean): a function as one of my machine. -/
namespace Wm.F
open Wm
set_option maxRecDepth 100000

/-- 305: withy/plan.Body -/
def plan_Body : AFunc where
  closed := true
  nparams := 3
  ntmps := 18
  results := [.tmp 6]
  body := .seq (.ops (
      .op ⟨(some 3), .box (.t 0), []⟩ <|
      .op ⟨(some 6), .mov (.c (.int .i64 0)), []⟩ <|
      .nil)) (
    .seq (.seq (.ops (
      .op ⟨(some 7), .mov (.t 2), []⟩ <|
      .op ⟨(some 8), .cmp .lss .i64 (.t 7) (.c (.int .i64 0)), []⟩ <|
      .op ⟨(some 9), .mov (.t 8), []⟩ <|
      .grd 9 false [⟨(some 10), .mov (.t 2), []⟩,
          ⟨(some 11), .cmp .gtr .i64 (.t 10) (.c (.int .i64 8)), []⟩] <|
      .op ⟨(some 12), .pick (.t 9) (.c (.bool true)) (.t 11), []⟩ <|
      .nil)) (
    .cond (.t 12) (.seq (.ops (
        .op ⟨(some 6), .mov (.c (.int .i64 (-1))), []⟩ <|
        .nil)) (
      .ret)) (.skip))) (
    .seq (.ops (
      .op ⟨(some 13), .loadN 6 (.t 3), []⟩ <|
      .op ⟨(some 14), .mov (.t 1), []⟩ <|
      .op ⟨(some 15), .mov (.t 2), []⟩ <|
      .op ⟨(some 16), .arith .add .i64 (.c (.int .i64 2)) (.t 15), []⟩ <|
      .op ⟨(some 17), .call 375 [(.t 13), (.t 14), (.t 16)], []⟩ <|
      .op ⟨(some 6), .mov (.t 17), []⟩ <|
      .nil)) (
    .ret)))

def plan_Body_hs : List (List Nat × List Nat) := []

end Wm.F
end

section
/- PRINTED by my tool (wip/wm/tool/Gen.lean): a function as one of my machine. -/
namespace Wm.F
open Wm
set_option maxRecDepth 100000

/-- 493: withy/stack.NewPop -/
def stack_NewPop : AFunc where
  closed := false
  nparams := 1
  ntmps := 9
  results := [.tmp 2]
  body := .seq (.ops (
      .op ⟨(some 1), .box (.t 0), []⟩ <|
      .op ⟨(some 2), .mov (.c .nilp), []⟩ <|
      .nil)) (
    .seq (.seq (.ops (
      .op ⟨(some 3), .loadN 6 (.t 1), []⟩ <|
      .op ⟨(some 4), .call 263 [(.t 3)], []⟩ <|
      .op ⟨(some 5), .not (.t 4), []⟩ <|
      .nil)) (
    .cond (.t 5) (.seq (.ops (
        .op ⟨(some 2), .mov (.c .nilp), []⟩ <|
        .nil)) (
      .ret)) (.skip))) (
    .seq (.ops (
      .op ⟨(some 6), .loadN 6 (.t 1), []⟩ <|
      .op ⟨(some 7), .build [(.int .i64 0), (.bool false), (.int .i64 0), (.int .i64 0), (.int .i64 0), (.int .i64 0), (.int .i64 0), (.int .i64 0), (.int .i64 0), (.int .u64 0), (.int .i64 0)] [(0, 1, (.c (.int .i64 (-1)))), (2, 6, (.t 6))], []⟩ <|
      .op ⟨(some 8), .box (.t 7), []⟩ <|
      .op ⟨(some 2), .mov (.t 8), []⟩ <|
      .nil)) (
    .ret)))

def stack_NewPop_hs : List (List Nat × List Nat) := []

end Wm.F
end

section
/- PRINTED by my tool (wip/wm/tool/Gen.lean): a function as one of my machine. -/
namespace Wm.F
open Wm
set_option maxRecDepth 100000

/-- 90: withy/shade.NewShade -/
def shade_NewShade : AFunc where
  closed := false
  nparams := 3
  ntmps := 17
  results := [.tmp 6]
  body := .seq (.ops (
      .op ⟨(some 3), .box (.t 0), []⟩ <|
      .op ⟨(some 6), .mov (.c .nilp), []⟩ <|
      .nil)) (
    .seq (.ops (
      .op ⟨(some 8), .loadN 6 (.t 3), []⟩ <|
      .op ⟨(some 9), .mov (.t 1), []⟩ <|
      .op ⟨(some 10), .call 261 [(.t 8), (.t 9)], []⟩ <|
      .op ⟨(some 7), .mov (.t 10), []⟩ <|
      .nil)) (
    .seq (.seq (.ops (
      .op ⟨(some 11), .mov (.t 7), []⟩ <|
      .op ⟨(some 12), .cmp .lss .i64 (.t 11) (.c (.int .i64 0)), []⟩ <|
      .nil)) (
    .cond (.t 12) (.seq (.ops (
        .op ⟨(some 6), .mov (.c .nilp), []⟩ <|
        .nil)) (
      .ret)) (.skip))) (
    .seq (.ops (
      .op ⟨(some 13), .mov (.t 7), []⟩ <|
      .op ⟨(some 14), .mov (.t 2), []⟩ <|
      .op ⟨(some 15), .build [(.bool false), (.int .i64 0), (.int .u64 0), (.int .i64 0), (.int .u64 0)] [(1, 1, (.t 13)), (2, 1, (.t 14))], []⟩ <|
      .op ⟨(some 16), .box (.t 15), []⟩ <|
      .op ⟨(some 6), .mov (.t 16), []⟩ <|
      .nil)) (
    .ret))))

def shade_NewShade_hs : List (List Nat × List Nat) := []

end Wm.F
end

section
/- PRINTED by my tool (wip/wm/tool/Gen.lean): a function as one of my machine. -/
namespace Wm.F
open Wm
set_option maxRecDepth 100000

/-- 494: (*withy/client.Client).barrier -/
def client_Client_barrier : AFunc where
  closed := false
  nparams := 1
  ntmps := 8
  results := [.tmp 2]
  body := .seq (.ops (
      .op ⟨(some 2), .mov (.c (.bool false)), []⟩ <|
      .nil)) (
    .seq (.ops (
      .op ⟨(some 3), .mov (.t 0), []⟩ <|
      .op ⟨(some 4), .nilc (.t 3), []⟩ <|
      .op ⟨(some 5), .fieldA 26 (.t 4), []⟩ <|
      .op ⟨(some 6), .load1 (.t 5), []⟩ <|
      .op ⟨(some 7), .call 308 [(.t 6)], []⟩ <|
      .op ⟨(some 2), .mov (.t 7), []⟩ <|
      .nil)) (
    .ret))

def client_Client_barrier_hs : List (List Nat × List Nat) := []

end Wm.F
end

section
/- PRINTED by my tool (wip/wm/tool/Gen.lean): a function as one of my machine. -/
namespace Wm.F
open Wm
set_option maxRecDepth 100000

/-- 91: (*withy/shade.Shade).Step -/
def shade_Shade_Step : AFunc where
  closed := false
  nparams := 2
  ntmps := 99
  results := [.tmp 4]
  body := .seq (.ops (
      .op ⟨(some 4), .mov (.c (.bool false)), []⟩ <|
      .nil)) (
    .seq (.seq (.ops (
      .op ⟨(some 9), .mov (.t 0), []⟩ <|
      .op ⟨(some 10), .eq false .ptr (.t 9) (.c .nilp), []⟩ <|
      .nil)) (
    .cond (.t 10) (.seq (.ops (
        .op ⟨(some 4), .mov (.c (.bool true)), []⟩ <|
        .nil)) (
      .ret)) (.skip))) (
    .seq (.seq (.ops (
      .op ⟨(some 11), .mov (.t 0), []⟩ <|
      .op ⟨(some 12), .nilc (.t 11), []⟩ <|
      .op ⟨(some 13), .fieldA 3 (.t 12), []⟩ <|
      .op ⟨(some 14), .load1 (.t 13), []⟩ <|
      .nil)) (
    .block 0 (.seq (.ops (
      .op ⟨(some 16), .cmp .eql .i64 (.t 14) (.c (.int .i64 0)), []⟩ <|
      .op ⟨(some 15), .mov (.t 16), []⟩ <|
      .nil)) (
    .cond (.t 15) (.seq (.ops (
        .op ⟨(some 17), .mov (.t 0), []⟩ <|
        .op ⟨(some 18), .mov (.t 1), []⟩ <|
        .op ⟨(some 19), .mov (.t 0), []⟩ <|
        .op ⟨(some 20), .nilc (.t 19), []⟩ <|
        .op ⟨(some 21), .fieldA 1 (.t 20), []⟩ <|
        .op ⟨(some 22), .load1 (.t 21), []⟩ <|
        .op ⟨(some 23), .call 266 [(.t 18), (.t 22)], []⟩ <|
        .op ⟨(some 24), .nilc (.t 17), []⟩ <|
        .op ⟨(some 25), .fieldA 4 (.t 24), []⟩ <|
        .op ⟨none, .store 1 (.t 25) (.t 23), []⟩ <|
        .nil)) (
      .seq (.ops (
        .op ⟨(some 26), .mov (.t 0), []⟩ <|
        .op ⟨(some 27), .nilc (.t 26), []⟩ <|
        .op ⟨(some 28), .fieldA 3 (.t 27), []⟩ <|
        .op ⟨none, .store 1 (.t 28) (.c (.int .i64 1)), []⟩ <|
        .nil)) (
      .seq (.ops (
        .op ⟨(some 30), .mov (.t 0), []⟩ <|
        .op ⟨(some 31), .nilc (.t 30), []⟩ <|
        .op ⟨(some 32), .fieldA 4 (.t 31), []⟩ <|
        .op ⟨(some 33), .load1 (.t 32), []⟩ <|
        .op ⟨(some 34), .mov (.t 0), []⟩ <|
        .op ⟨(some 35), .nilc (.t 34), []⟩ <|
        .op ⟨(some 36), .fieldA 2 (.t 35), []⟩ <|
        .op ⟨(some 37), .load1 (.t 36), []⟩ <|
        .op ⟨(some 38), .call 267 [(.t 33), (.t 37)], []⟩ <|
        .op ⟨(some 29), .mov (.t 38), []⟩ <|
        .op ⟨(some 39), .extract (.t 29) 0, []⟩ <|
        .op ⟨(some 40), .extract (.t 29) 1, []⟩ <|
        .op ⟨(some 5), .mov (.t 39), []⟩ <|
        .op ⟨(some 6), .mov (.t 40), []⟩ <|
        .nil)) (
      .seq (.ops (
        .op ⟨(some 41), .mov (.t 6), []⟩ <|
        .op ⟨(some 42), .not (.t 41), []⟩ <|
        .nil)) (
      .cond (.t 42) (.ops (
          .op ⟨(some 43), .mov (.t 0), []⟩ <|
          .op ⟨(some 44), .nilc (.t 43), []⟩ <|
          .op ⟨(some 45), .fieldA 3 (.t 44), []⟩ <|
          .op ⟨none, .store 1 (.t 45) (.c (.int .i64 4)), []⟩ <|
          .nil)) (.skip)))))) (.seq (.ops (
        .op ⟨(some 47), .cmp .eql .i64 (.t 14) (.c (.int .i64 1)), []⟩ <|
        .op ⟨(some 46), .mov (.t 47), []⟩ <|
        .nil)) (
      .cond (.t 46) (.seq (.ops (
          .op ⟨(some 48), .mov (.t 1), []⟩ <|
          .op ⟨(some 49), .call 268 [(.t 48), (.c (.int .i64 2)), (.c (.int .u64 1))], []⟩ <|
          .nil)) (
        .ops (
          .op ⟨(some 50), .mov (.t 0), []⟩ <|
          .op ⟨(some 51), .nilc (.t 50), []⟩ <|
          .op ⟨(some 52), .fieldA 3 (.t 51), []⟩ <|
          .op ⟨none, .store 1 (.t 52) (.c (.int .i64 2)), []⟩ <|
          .nil))) (.seq (.ops (
          .op ⟨(some 54), .cmp .eql .i64 (.t 14) (.c (.int .i64 2)), []⟩ <|
          .op ⟨(some 53), .mov (.t 54), []⟩ <|
          .nil)) (
        .cond (.t 53) (.seq (.ops (
            .op ⟨(some 56), .mov (.t 0), []⟩ <|
            .op ⟨(some 57), .nilc (.t 56), []⟩ <|
            .op ⟨(some 58), .fieldA 4 (.t 57), []⟩ <|
            .op ⟨(some 59), .load1 (.t 58), []⟩ <|
            .op ⟨(some 60), .mov (.t 0), []⟩ <|
            .op ⟨(some 61), .nilc (.t 60), []⟩ <|
            .op ⟨(some 62), .fieldA 2 (.t 61), []⟩ <|
            .op ⟨(some 63), .load1 (.t 62), []⟩ <|
            .op ⟨(some 64), .call 267 [(.t 59), (.t 63)], []⟩ <|
            .op ⟨(some 55), .mov (.t 64), []⟩ <|
            .op ⟨(some 65), .extract (.t 55) 0, []⟩ <|
            .op ⟨(some 66), .extract (.t 55) 1, []⟩ <|
            .op ⟨(some 7), .mov (.t 65), []⟩ <|
            .op ⟨(some 8), .mov (.t 66), []⟩ <|
            .nil)) (
          .seq (.ops (
            .op ⟨(some 67), .mov (.t 0), []⟩ <|
            .op ⟨(some 68), .nilc (.t 67), []⟩ <|
            .op ⟨(some 69), .fieldA 3 (.t 68), []⟩ <|
            .op ⟨none, .store 1 (.t 69) (.c (.int .i64 3)), []⟩ <|
            .nil)) (
          .seq (.ops (
            .op ⟨(some 70), .mov (.t 1), []⟩ <|
            .op ⟨(some 71), .mov (.t 0), []⟩ <|
            .op ⟨(some 72), .nilc (.t 71), []⟩ <|
            .op ⟨(some 73), .fieldA 1 (.t 72), []⟩ <|
            .op ⟨(some 74), .load1 (.t 73), []⟩ <|
            .op ⟨(some 75), .mov (.t 0), []⟩ <|
            .op ⟨(some 76), .nilc (.t 75), []⟩ <|
            .op ⟨(some 77), .fieldA 4 (.t 76), []⟩ <|
            .op ⟨(some 78), .load1 (.t 77), []⟩ <|
            .op ⟨(some 79), .mov (.t 7), []⟩ <|
            .op ⟨(some 80), .call 269 [(.t 70), (.t 74), (.t 78), (.t 79)], []⟩ <|
            .nil)) (
          .cond (.t 80) (.ops (
              .op ⟨(some 81), .mov (.t 0), []⟩ <|
              .op ⟨(some 82), .mov (.t 0), []⟩ <|
              .op ⟨(some 83), .nilc (.t 81), []⟩ <|
              .op ⟨(some 84), .fieldA 0 (.t 83), []⟩ <|
              .op ⟨none, .store 1 (.t 84) (.c (.bool true)), []⟩ <|
              .op ⟨(some 85), .nilc (.t 82), []⟩ <|
              .op ⟨(some 86), .fieldA 3 (.t 85), []⟩ <|
              .op ⟨none, .store 1 (.t 86) (.c (.int .i64 4)), []⟩ <|
              .nil)) (.skip))))) (.seq (.ops (
            .op ⟨(some 88), .cmp .eql .i64 (.t 14) (.c (.int .i64 3)), []⟩ <|
            .op ⟨(some 87), .mov (.t 88), []⟩ <|
            .nil)) (
          .cond (.t 87) (.seq (.ops (
              .op ⟨(some 89), .mov (.t 1), []⟩ <|
              .op ⟨(some 90), .call 268 [(.t 89), (.c (.int .i64 2)), (.c (.int .u64 18446744073709551615))], []⟩ <|
              .nil)) (
            .ops (
              .op ⟨(some 91), .mov (.t 0), []⟩ <|
              .op ⟨(some 92), .nilc (.t 91), []⟩ <|
              .op ⟨(some 93), .fieldA 3 (.t 92), []⟩ <|
              .op ⟨none, .store 1 (.t 93) (.c (.int .i64 0)), []⟩ <|
              .nil))) (.skip))))))))))) (
    .seq (.ops (
      .op ⟨(some 94), .mov (.t 0), []⟩ <|
      .op ⟨(some 95), .nilc (.t 94), []⟩ <|
      .op ⟨(some 96), .fieldA 3 (.t 95), []⟩ <|
      .op ⟨(some 97), .load1 (.t 96), []⟩ <|
      .op ⟨(some 98), .cmp .eql .i64 (.t 97) (.c (.int .i64 4)), []⟩ <|
      .op ⟨(some 4), .mov (.t 98), []⟩ <|
      .nil)) (
    .ret))))

def shade_Shade_Step_hs : List (List Nat × List Nat) := []

end Wm.F
end

