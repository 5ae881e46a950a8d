/- PRINTED by my tool: functions as those of my machine. -/
import Derived.Test.YtmhebljpahogaaaWmCore
set_option linter.all false
section
/- PRINTED by my tool (wip/wm/tool/Gen.lean): a function as one of my machine. -/
namespace Wm.F
open Wm
set_option maxRecDepth 100000

/-- 3: withy/withylaw16.OpValues -/
def withylaw16_OpValues : AFunc where
  closed := false
  nparams := 3
  ntmps := 19
  results := [.tmp 6]
  body := .seq (.ops (
      .op ⟨(some 3), .box (.t 0), []⟩ <|
      .op ⟨(some 6), .mov (.c (.bool false)), []⟩ <|
      .nil)) (
    .seq (.ops (
      .op ⟨(some 7), .loadN 3 (.t 3), []⟩ <|
      .op ⟨(some 8), .mov (.t 1), []⟩ <|
      .op ⟨(some 9), .mov (.t 2), []⟩ <|
      .op ⟨(some 11), .loadN 3 (.t 3), []⟩ <|
      .op ⟨(some 12), .mov (.t 1), []⟩ <|
      .op ⟨(some 13), .mov (.t 2), []⟩ <|
      .op ⟨(some 10), .call 78 [(.t 7), (.t 8), (.t 9)], [{ g := none, op := .loadN 3 (.t 3), d := 11 }]⟩ <|
      .op ⟨(some 14), .call 79 [(.t 11), (.t 12), (.t 13)], []⟩ <|
      .op ⟨(some 15), .cmp .eql .u64 (.t 10) (.t 14), []⟩ <|
      .op ⟨(some 16), .mov (.t 15), []⟩ <|
      .grd 16 true [⟨(some 17), .call 80 [], []⟩] <|
      .op ⟨(some 18), .pick (.t 16) (.t 17) (.c (.bool false)), []⟩ <|
      .op ⟨(some 6), .mov (.t 18), []⟩ <|
      .nil)) (
    .ret))

def withylaw16_OpValues_hs : List (List Nat × List Nat) := []

end Wm.F
end

section
/- PRINTED by my tool (wip/wm/tool/Gen.lean): a function as one of my machine. -/
namespace Wm.F
open Wm
set_option maxRecDepth 100000

/-- 4: withy/withylaw16.OpCalls -/
def withylaw16_OpCalls : AFunc where
  closed := false
  nparams := 3
  ntmps := 68
  results := [.tmp 6]
  body := .seq (.ops (
      .op ⟨(some 3), .box (.t 0), []⟩ <|
      .op ⟨(some 6), .mov (.c (.bool false)), []⟩ <|
      .nil)) (
    .seq (.ops (
      .op ⟨(some 8), .fieldA 0 (.t 3), []⟩ <|
      .op ⟨(some 9), .load1 (.t 8), []⟩ <|
      .op ⟨(some 10), .build [(.int .i64 0), (.int .i64 0), (.int .u64 0), (.int .u64 0), (.int .u64 0)] [(0, 1, (.t 9))], []⟩ <|
      .op ⟨(some 7), .alloc [(.int .i64 0), (.int .i64 0), (.int .u64 0), (.int .u64 0), (.int .u64 0)], []⟩ <|
      .op ⟨none, .store 5 (.t 7) (.t 10), []⟩ <|
      .nil)) (
    .seq (.seq (.ops (
      .op ⟨(some 11), .fieldA 0 (.t 3), []⟩ <|
      .op ⟨(some 12), .load1 (.t 11), []⟩ <|
      .op ⟨(some 13), .cmp .geq .i64 (.t 12) (.c (.int .i64 1)), []⟩ <|
      .op ⟨(some 14), .mov (.t 13), []⟩ <|
      .grd 14 true [⟨(some 15), .fieldA 0 (.t 3), []⟩,
          ⟨(some 16), .load1 (.t 15), []⟩,
          ⟨(some 17), .cmp .leq .i64 (.t 16) (.c (.int .i64 10)), []⟩] <|
      .op ⟨(some 18), .pick (.t 14) (.t 17) (.c (.bool false)), []⟩ <|
      .nil)) (
    .cond (.t 18) (.seq (.ops (
        .op ⟨(some 19), .fieldA 1 (.t 3), []⟩ <|
        .op ⟨(some 20), .load1 (.t 19), []⟩ <|
        .op ⟨(some 21), .fieldA 1 (.t 7), []⟩ <|
        .op ⟨none, .store 1 (.t 21) (.t 20), []⟩ <|
        .nil)) (
      .seq (.seq (.ops (
        .op ⟨(some 22), .fieldA 0 (.t 3), []⟩ <|
        .op ⟨(some 23), .load1 (.t 22), []⟩ <|
        .op ⟨(some 24), .cmp .gtr .i64 (.t 23) (.c (.int .i64 1)), []⟩ <|
        .nil)) (
      .cond (.t 24) (.ops (
          .op ⟨(some 25), .fieldA 2 (.t 3), []⟩ <|
          .op ⟨(some 26), .loadN 3 (.t 25), []⟩ <|
          .op ⟨(some 27), .mov (.t 1), []⟩ <|
          .op ⟨(some 28), .mov (.t 2), []⟩ <|
          .op ⟨(some 29), .call 79 [(.t 26), (.t 27), (.t 28)], []⟩ <|
          .op ⟨(some 30), .fieldA 2 (.t 7), []⟩ <|
          .op ⟨none, .store 1 (.t 30) (.t 29), []⟩ <|
          .nil)) (.skip))) (
      .seq (.seq (.ops (
        .op ⟨(some 31), .fieldA 0 (.t 3), []⟩ <|
        .op ⟨(some 32), .load1 (.t 31), []⟩ <|
        .op ⟨(some 33), .cmp .eql .i64 (.t 32) (.c (.int .i64 3)), []⟩ <|
        .op ⟨(some 34), .mov (.t 33), []⟩ <|
        .grd 34 false [⟨(some 35), .fieldA 0 (.t 3), []⟩,
            ⟨(some 36), .load1 (.t 35), []⟩,
            ⟨(some 37), .cmp .eql .i64 (.t 36) (.c (.int .i64 5)), []⟩] <|
        .op ⟨(some 38), .pick (.t 34) (.c (.bool true)) (.t 37), []⟩ <|
        .op ⟨(some 39), .mov (.t 38), []⟩ <|
        .grd 39 false [⟨(some 40), .fieldA 0 (.t 3), []⟩,
            ⟨(some 41), .load1 (.t 40), []⟩,
            ⟨(some 42), .cmp .eql .i64 (.t 41) (.c (.int .i64 7)), []⟩] <|
        .op ⟨(some 43), .pick (.t 39) (.c (.bool true)) (.t 42), []⟩ <|
        .nil)) (
      .cond (.t 43) (.ops (
          .op ⟨(some 44), .fieldA 5 (.t 3), []⟩ <|
          .op ⟨(some 45), .loadN 3 (.t 44), []⟩ <|
          .op ⟨(some 46), .mov (.t 1), []⟩ <|
          .op ⟨(some 47), .mov (.t 2), []⟩ <|
          .op ⟨(some 48), .call 79 [(.t 45), (.t 46), (.t 47)], []⟩ <|
          .op ⟨(some 49), .fieldA 3 (.t 7), []⟩ <|
          .op ⟨none, .store 1 (.t 49) (.t 48), []⟩ <|
          .nil)) (.skip))) (
      .seq (.ops (
        .op ⟨(some 50), .fieldA 0 (.t 3), []⟩ <|
        .op ⟨(some 51), .load1 (.t 50), []⟩ <|
        .op ⟨(some 52), .cmp .eql .i64 (.t 51) (.c (.int .i64 5)), []⟩ <|
        .nil)) (
      .cond (.t 52) (.ops (
          .op ⟨(some 53), .fieldA 8 (.t 3), []⟩ <|
          .op ⟨(some 54), .loadN 3 (.t 53), []⟩ <|
          .op ⟨(some 55), .mov (.t 1), []⟩ <|
          .op ⟨(some 56), .mov (.t 2), []⟩ <|
          .op ⟨(some 57), .call 79 [(.t 54), (.t 55), (.t 56)], []⟩ <|
          .op ⟨(some 58), .fieldA 4 (.t 7), []⟩ <|
          .op ⟨none, .store 1 (.t 58) (.t 57), []⟩ <|
          .nil)) (.skip)))))) (.skip))) (
    .seq (.ops (
      .op ⟨(some 59), .loadN 11 (.t 3), []⟩ <|
      .op ⟨(some 60), .mov (.t 1), []⟩ <|
      .op ⟨(some 61), .mov (.t 2), []⟩ <|
      .op ⟨(some 63), .loadN 5 (.t 7), []⟩ <|
      .op ⟨(some 62), .call 81 [(.t 59), (.t 60), (.t 61)], [{ g := none, op := .loadN 5 (.t 7), d := 63 }]⟩ <|
      .op ⟨(some 64), .eq false (.agg [(0, .int), (1, .int), (2, .int), (3, .int), (4, .int)]) (.t 62) (.t 63), []⟩ <|
      .op ⟨(some 65), .mov (.t 64), []⟩ <|
      .grd 65 true [⟨(some 66), .call 80 [], []⟩] <|
      .op ⟨(some 67), .pick (.t 65) (.t 66) (.c (.bool false)), []⟩ <|
      .op ⟨(some 6), .mov (.t 67), []⟩ <|
      .nil)) (
    .ret))))

def withylaw16_OpCalls_hs : List (List Nat × List Nat) := []

end Wm.F
end

section
/- PRINTED by my tool (wip/wm/tool/Gen.lean): a function as one of my machine. -/
namespace Wm.F
open Wm
set_option maxRecDepth 100000

/-- 6: withy/withylaw16.OpSelf -/
def withylaw16_OpSelf : AFunc where
  closed := false
  nparams := 4
  ntmps := 31
  results := [.tmp 8]
  body := .seq (.ops (
      .op ⟨(some 8), .mov (.c (.bool false)), []⟩ <|
      .nil)) (
    .seq (.seq (.ops (
      .op ⟨(some 11), .mov (.t 1), []⟩ <|
      .op ⟨(some 12), .cmp .lss .i64 (.t 11) (.c (.int .i64 0)), []⟩ <|
      .nil)) (
    .cond (.t 12) (.seq (.ops (
        .op ⟨(some 13), .call 80 [], []⟩ <|
        .op ⟨(some 8), .mov (.t 13), []⟩ <|
        .nil)) (
      .ret)) (.skip))) (
    .seq (.ops (
      .op ⟨(some 14), .mov (.t 0), []⟩ <|
      .op ⟨(some 15), .build [(.int .i64 0), (.int .i64 0), (.int .u64 0)] [(0, 1, (.t 14)), (1, 1, (.c (.int .i64 (-1))))], []⟩ <|
      .op ⟨(some 16), .mov (.t 1), []⟩ <|
      .op ⟨(some 17), .mov (.t 3), []⟩ <|
      .op ⟨(some 18), .call 78 [(.t 15), (.t 16), (.t 17)], []⟩ <|
      .op ⟨(some 9), .mov (.t 18), []⟩ <|
      .nil)) (
    .seq (.ops (
      .op ⟨(some 19), .mov (.t 0), []⟩ <|
      .op ⟨(some 20), .mov (.t 1), []⟩ <|
      .op ⟨(some 21), .build [(.int .i64 0), (.int .i64 0), (.int .u64 0)] [(0, 1, (.t 19)), (1, 1, (.t 20))], []⟩ <|
      .op ⟨(some 22), .mov (.t 2), []⟩ <|
      .op ⟨(some 23), .mov (.t 3), []⟩ <|
      .op ⟨(some 24), .call 78 [(.t 21), (.t 22), (.t 23)], []⟩ <|
      .op ⟨(some 10), .mov (.t 24), []⟩ <|
      .nil)) (
    .seq (.ops (
      .op ⟨(some 25), .mov (.t 9), []⟩ <|
      .op ⟨(some 26), .mov (.t 10), []⟩ <|
      .op ⟨(some 27), .cmp .eql .u64 (.t 25) (.t 26), []⟩ <|
      .op ⟨(some 28), .mov (.t 27), []⟩ <|
      .grd 28 true [⟨(some 29), .call 80 [], []⟩] <|
      .op ⟨(some 30), .pick (.t 28) (.t 29) (.c (.bool false)), []⟩ <|
      .op ⟨(some 8), .mov (.t 30), []⟩ <|
      .nil)) (
    .ret)))))

def withylaw16_OpSelf_hs : List (List Nat × List Nat) := []

end Wm.F
end

section
/- PRINTED by my tool (wip/wm/tool/Gen.lean): a function as one of my machine. -/
namespace Wm.F
open Wm
set_option maxRecDepth 100000

/-- 13: withy/withylaw17.ModelNew -/
def withylaw17_ModelNew : AFunc where
  closed := true
  nparams := 1
  ntmps := 12
  results := [.tmp 2]
  body := .seq (.ops (
      .op ⟨(some 1), .box (.t 0), []⟩ <|
      .op ⟨(some 2), .mov (.c (.bool false)), []⟩ <|
      .nil)) (
    .seq (.ops (
      .op ⟨(some 3), .loadN 6 (.t 1), []⟩ <|
      .op ⟨(some 6), .loadN 6 (.t 1), []⟩ <|
      .op ⟨(some 4), .call 96 [(.t 3)], [{ g := none, op := .loadN 6 (.t 1), d := 6 }]⟩ <|
      .op ⟨(some 5), .eq true .ptr (.t 4) (.c .nilp), []⟩ <|
      .op ⟨(some 7), .call 85 [(.t 6)], []⟩ <|
      .op ⟨(some 8), .eq false .bool (.t 5) (.t 7), []⟩ <|
      .op ⟨(some 9), .mov (.t 8), []⟩ <|
      .grd 9 true [⟨(some 10), .call 98 [], []⟩] <|
      .op ⟨(some 11), .pick (.t 9) (.t 10) (.c (.bool false)), []⟩ <|
      .op ⟨(some 2), .mov (.t 11), []⟩ <|
      .nil)) (
    .ret))

def withylaw17_ModelNew_hs : List (List Nat × List Nat) := []

end Wm.F
end

section
/- PRINTED by my tool (wip/wm/tool/Gen.lean): a function as one of my machine. -/
namespace Wm.F
open Wm
set_option maxRecDepth 100000

/-- 78: withy/op.Value -/
def op_Value : AFunc where
  closed := false
  nparams := 3
  ntmps := 44
  results := [.tmp 6]
  body := .seq (.ops (
      .op ⟨(some 3), .box (.t 0), []⟩ <|
      .op ⟨(some 6), .mov (.c (.int .u64 0)), []⟩ <|
      .nil)) (
    .seq (.seq (.ops (
      .op ⟨(some 8), .fieldA 0 (.t 3), []⟩ <|
      .op ⟨(some 9), .load1 (.t 8), []⟩ <|
      .op ⟨(some 10), .cmp .lss .i64 (.t 9) (.c (.int .i64 0)), []⟩ <|
      .nil)) (
    .cond (.t 10) (.seq (.ops (
        .op ⟨(some 11), .fieldA 2 (.t 3), []⟩ <|
        .op ⟨(some 12), .load1 (.t 11), []⟩ <|
        .op ⟨(some 6), .mov (.t 12), []⟩ <|
        .nil)) (
      .ret)) (.skip))) (
    .seq (.ops (
      .op ⟨(some 13), .fieldA 1 (.t 3), []⟩ <|
      .op ⟨(some 14), .load1 (.t 13), []⟩ <|
      .op ⟨(some 7), .mov (.t 14), []⟩ <|
      .nil)) (
    .seq (.seq (.ops (
      .op ⟨(some 15), .mov (.t 7), []⟩ <|
      .op ⟨(some 16), .cmp .lss .i64 (.t 15) (.c (.int .i64 0)), []⟩ <|
      .nil)) (
    .cond (.t 16) (.ops (
        .op ⟨(some 17), .mov (.t 1), []⟩ <|
        .op ⟨(some 7), .mov (.t 17), []⟩ <|
        .nil)) (.skip))) (
    .seq (.seq (.ops (
      .op ⟨(some 18), .mov (.t 7), []⟩ <|
      .op ⟨(some 19), .cmp .lss .i64 (.t 18) (.c (.int .i64 0)), []⟩ <|
      .op ⟨(some 20), .mov (.t 19), []⟩ <|
      .grd 20 false [⟨(some 21), .mov (.t 7), []⟩,
          ⟨(some 22), .mov (.t 2), []⟩,
          ⟨(some 23), .lenSl (.t 22), []⟩,
          ⟨(some 24), .cmp .geq .i64 (.t 21) (.t 23), []⟩] <|
      .op ⟨(some 25), .pick (.t 20) (.c (.bool true)) (.t 24), []⟩ <|
      .op ⟨(some 26), .mov (.t 25), []⟩ <|
      .grd 26 false [⟨(some 27), .fieldA 0 (.t 3), []⟩,
          ⟨(some 28), .load1 (.t 27), []⟩,
          ⟨(some 29), .mov (.t 2), []⟩,
          ⟨(some 30), .mov (.t 7), []⟩,
          ⟨(some 31), .indexA 1 (.t 29) (.t 30), []⟩,
          ⟨(some 32), .load1 (.t 31), []⟩,
          ⟨(some 33), .lenSl (.t 32), []⟩,
          ⟨(some 34), .cmp .geq .i64 (.t 28) (.t 33), []⟩] <|
      .op ⟨(some 35), .pick (.t 26) (.c (.bool true)) (.t 34), []⟩ <|
      .nil)) (
    .cond (.t 35) (.seq (.ops (
        .op ⟨(some 6), .mov (.c (.int .u64 0)), []⟩ <|
        .nil)) (
      .ret)) (.skip))) (
    .seq (.ops (
      .op ⟨(some 36), .mov (.t 2), []⟩ <|
      .op ⟨(some 37), .mov (.t 7), []⟩ <|
      .op ⟨(some 38), .indexA 1 (.t 36) (.t 37), []⟩ <|
      .op ⟨(some 39), .load1 (.t 38), []⟩ <|
      .op ⟨(some 40), .fieldA 0 (.t 3), []⟩ <|
      .op ⟨(some 41), .load1 (.t 40), []⟩ <|
      .op ⟨(some 42), .indexA 1 (.t 39) (.t 41), []⟩ <|
      .op ⟨(some 43), .load1 (.t 42), []⟩ <|
      .op ⟨(some 6), .mov (.t 43), []⟩ <|
      .nil)) (
    .ret))))))

def op_Value_hs : List (List Nat × List Nat) := []

end Wm.F
end

section
/- PRINTED by my tool (wip/wm/tool/Gen.lean): a function as one of my machine. -/
namespace Wm.F
open Wm
set_option maxRecDepth 100000

def withylaw16_value_c3 : ACode :=
  .seq (.seq (.ops (
    .op ⟨(some 34), .mov (.t 8), []⟩ <|
    .op ⟨(some 35), .mov (.t 2), []⟩ <|
    .op ⟨(some 36), .mov (.t 7), []⟩ <|
    .op ⟨(some 37), .indexA 1 (.t 35) (.t 36), []⟩ <|
    .op ⟨(some 38), .load1 (.t 37), []⟩ <|
    .op ⟨(some 39), .lenSl (.t 38), []⟩ <|
    .op ⟨(some 40), .cmp .lss .i64 (.t 34) (.t 39), []⟩ <|
    .nil)) (
  .cond (.t 40) (.skip) (.exit 2))) (
  .seq (.block 3 (.seq (.ops (
    .op ⟨(some 43), .mov (.t 8), []⟩ <|
    .op ⟨(some 44), .fieldA 0 (.t 3), []⟩ <|
    .op ⟨(some 45), .load1 (.t 44), []⟩ <|
    .op ⟨(some 46), .cmp .eql .i64 (.t 43) (.t 45), []⟩ <|
    .nil)) (
  .cond (.t 46) (.seq (.ops (
      .op ⟨(some 47), .mov (.t 2), []⟩ <|
      .op ⟨(some 48), .mov (.t 7), []⟩ <|
      .op ⟨(some 49), .indexA 1 (.t 47) (.t 48), []⟩ <|
      .op ⟨(some 50), .load1 (.t 49), []⟩ <|
      .op ⟨(some 51), .mov (.t 8), []⟩ <|
      .op ⟨(some 52), .indexA 1 (.t 50) (.t 51), []⟩ <|
      .op ⟨(some 53), .load1 (.t 52), []⟩ <|
      .op ⟨(some 6), .mov (.t 53), []⟩ <|
      .nil)) (
    .ret)) (.skip)))) (
  .ops (
    .op ⟨(some 41), .mov (.t 8), []⟩ <|
    .op ⟨(some 42), .arith .add .i64 (.t 41) (.c (.int .i64 1)), []⟩ <|
    .op ⟨(some 8), .mov (.t 42), []⟩ <|
    .nil)))

def withylaw16_value_c2 : ACode :=
  .ops (
    .op ⟨(some 18), .mov (.t 7), []⟩ <|
    .op ⟨(some 19), .arith .add .i64 (.t 18) (.c (.int .i64 1)), []⟩ <|
    .op ⟨(some 7), .mov (.t 19), []⟩ <|
    .nil)

def withylaw16_value_c1 : ACode :=
  .seq (.seq (.ops (
    .op ⟨(some 14), .mov (.t 7), []⟩ <|
    .op ⟨(some 15), .mov (.t 2), []⟩ <|
    .op ⟨(some 16), .lenSl (.t 15), []⟩ <|
    .op ⟨(some 17), .cmp .lss .i64 (.t 14) (.t 16), []⟩ <|
    .nil)) (
  .cond (.t 17) (.skip) (.exit 0))) (
  .seq (.block 1 (.seq (.ops (
    .op ⟨(some 20), .mov (.t 7), []⟩ <|
    .op ⟨(some 21), .fieldA 1 (.t 3), []⟩ <|
    .op ⟨(some 22), .load1 (.t 21), []⟩ <|
    .op ⟨(some 23), .cmp .eql .i64 (.t 20) (.t 22), []⟩ <|
    .op ⟨(some 24), .mov (.t 23), []⟩ <|
    .grd 24 false [⟨(some 25), .fieldA 1 (.t 3), []⟩,
        ⟨(some 26), .load1 (.t 25), []⟩,
        ⟨(some 27), .cmp .lss .i64 (.t 26) (.c (.int .i64 0)), []⟩,
        ⟨(some 28), .mov (.t 27), []⟩] <|
    .grd 28 true [⟨(some 29), .mov (.t 7), []⟩,
        ⟨(some 30), .mov (.t 1), []⟩,
        ⟨(some 31), .cmp .eql .i64 (.t 29) (.t 30), []⟩] <|
    .grd 24 false [⟨(some 32), .pick (.t 28) (.t 31) (.c (.bool false)), []⟩] <|
    .op ⟨(some 33), .pick (.t 24) (.c (.bool true)) (.t 32), []⟩ <|
    .nil)) (
  .cond (.t 33) (.seq (.ops (
      .op ⟨(some 8), .mov (.c (.int .i64 0)), []⟩ <|
      .nil)) (
    .block 2 (.loop [1, 2, 3, 7, 8] [1, 2, 3, 6, 7] (withylaw16_value_c3)))) (.skip)))) (
  withylaw16_value_c2))

def withylaw16_value_c0 : ACode :=
  .seq (.ops (
    .op ⟨(some 6), .mov (.c (.int .u64 0)), []⟩ <|
    .nil)) (
  .ret)

/-- 79: withy/withylaw16.value -/
def withylaw16_value : AFunc where
  closed := false
  nparams := 3
  ntmps := 54
  results := [.tmp 6]
  body := .seq (.ops (
      .op ⟨(some 3), .box (.t 0), []⟩ <|
      .op ⟨(some 6), .mov (.c (.int .u64 0)), []⟩ <|
      .nil)) (
    .seq (.seq (.ops (
      .op ⟨(some 9), .fieldA 0 (.t 3), []⟩ <|
      .op ⟨(some 10), .load1 (.t 9), []⟩ <|
      .op ⟨(some 11), .cmp .lss .i64 (.t 10) (.c (.int .i64 0)), []⟩ <|
      .nil)) (
    .cond (.t 11) (.seq (.ops (
        .op ⟨(some 12), .fieldA 2 (.t 3), []⟩ <|
        .op ⟨(some 13), .load1 (.t 12), []⟩ <|
        .op ⟨(some 6), .mov (.t 13), []⟩ <|
        .nil)) (
      .ret)) (.skip))) (
    .seq (.seq (.ops (
      .op ⟨(some 7), .mov (.c (.int .i64 0)), []⟩ <|
      .nil)) (
    .block 0 (.loop [1, 2, 3, 7] [6] (withylaw16_value_c1)))) (
    withylaw16_value_c0)))

def withylaw16_value_hs : List (List Nat × List Nat) := [([1, 2, 3, 7], [6]), ([1, 2, 3, 7, 8], [1, 2, 3, 6, 7])]

end Wm.F
end

section
/- PRINTED by my tool (wip/wm/tool/Gen.lean): a function as one of my machine. -/
namespace Wm.F
open Wm
set_option maxRecDepth 100000

/-- 80: withy/withylaw16.awake -/
def withylaw16_awake : AFunc where
  closed := true
  nparams := 0
  ntmps := 16
  results := [.tmp 0]
  body := .seq (.ops (
      .op ⟨(some 0), .mov (.c (.bool false)), []⟩ <|
      .nil)) (
    .seq (.ops (
      .op ⟨(some 2), .buildSl 1 2 [(.int .u64 0)] [(0, 1, (.c (.int .u64 5))), (1, 1, (.c (.int .u64 7)))], []⟩ <|
      .op ⟨(some 3), .buildSl 1 1 [.nilsl] [(0, 1, (.t 2))], []⟩ <|
      .op ⟨(some 1), .mov (.t 3), []⟩ <|
      .nil)) (
    .seq (.ops (
      .op ⟨(some 4), .build [(.int .i64 0), (.int .i64 0), (.int .u64 0)] [(0, 1, (.c (.int .i64 1))), (1, 1, (.c (.int .i64 (-1))))], []⟩ <|
      .op ⟨(some 5), .mov (.t 1), []⟩ <|
      .op ⟨(some 6), .call 78 [(.t 4), (.c (.int .i64 0)), (.t 5)], []⟩ <|
      .op ⟨(some 7), .cmp .eql .u64 (.t 6) (.c (.int .u64 7)), []⟩ <|
      .op ⟨(some 8), .mov (.t 7), []⟩ <|
      .grd 8 true [⟨(some 9), .build [(.int .i64 0), (.int .i64 0), (.int .u64 0)] [(0, 1, (.c (.int .i64 (-1)))), (2, 1, (.c (.int .u64 9)))], []⟩,
          ⟨(some 10), .build [(.int .i64 0), (.int .i64 0), (.int .u64 0)] [(0, 1, (.c (.int .i64 (-1)))), (2, 1, (.c (.int .u64 4)))], []⟩,
          ⟨(some 11), .build [(.int .i64 0), (.int .i64 0), (.int .i64 0), (.int .i64 0), (.int .u64 0), (.int .i64 0), (.int .i64 0), (.int .u64 0), (.int .i64 0), (.int .i64 0), (.int .u64 0)] [(0, 1, (.c (.int .i64 6))), (1, 1, (.c (.int .i64 3))), (2, 3, (.t 9)), (5, 3, (.t 10))], []⟩,
          ⟨(some 12), .call 81 [(.t 11), (.c (.int .i64 0)), (.c .nilsl)], []⟩,
          ⟨(some 13), .build [(.int .i64 0), (.int .i64 0), (.int .u64 0), (.int .u64 0), (.int .u64 0)] [(0, 1, (.c (.int .i64 6))), (1, 1, (.c (.int .i64 3))), (2, 1, (.c (.int .u64 9)))], []⟩,
          ⟨(some 14), .eq false (.agg [(0, .int), (1, .int), (2, .int), (3, .int), (4, .int)]) (.t 12) (.t 13), []⟩] <|
      .op ⟨(some 15), .pick (.t 8) (.t 14) (.c (.bool false)), []⟩ <|
      .op ⟨(some 0), .mov (.t 15), []⟩ <|
      .nil)) (
    .ret)))

def withylaw16_awake_hs : List (List Nat × List Nat) := []

end Wm.F
end

section
/- PRINTED by my tool (wip/wm/tool/Gen.lean): a function as one of my machine. -/
namespace Wm.F
open Wm
set_option maxRecDepth 100000

/-- 81: withy/op.Call -/
def op_Call : AFunc where
  closed := false
  nparams := 3
  ntmps := 47
  results := [.cell true 5 6]
  body := .seq (.ops (
      .op ⟨(some 3), .box (.t 0), []⟩ <|
      .op ⟨(some 6), .alloc [(.int .i64 0), (.int .i64 0), (.int .u64 0), (.int .u64 0), (.int .u64 0)], []⟩ <|
      .nil)) (
    .seq (.ops (
      .op ⟨(some 8), .fieldA 0 (.t 3), []⟩ <|
      .op ⟨(some 9), .load1 (.t 8), []⟩ <|
      .op ⟨(some 10), .build [(.int .i64 0), (.int .i64 0), (.int .u64 0), (.int .u64 0), (.int .u64 0)] [(0, 1, (.t 9))], []⟩ <|
      .op ⟨(some 7), .alloc [(.int .i64 0), (.int .i64 0), (.int .u64 0), (.int .u64 0), (.int .u64 0)], []⟩ <|
      .op ⟨none, .store 5 (.t 7) (.t 10), []⟩ <|
      .nil)) (
    .seq (.seq (.ops (
      .op ⟨(some 11), .fieldA 0 (.t 3), []⟩ <|
      .op ⟨(some 12), .load1 (.t 11), []⟩ <|
      .op ⟨(some 13), .call 260 [(.t 12)], []⟩ <|
      .nil)) (
    .cond (.t 13) (.seq (.ops (
        .op ⟨(some 14), .loadN 5 (.t 7), []⟩ <|
        .op ⟨none, .store 5 (.t 6) (.t 14), []⟩ <|
        .nil)) (
      .ret)) (.skip))) (
    .seq (.ops (
      .op ⟨(some 15), .fieldA 1 (.t 3), []⟩ <|
      .op ⟨(some 16), .load1 (.t 15), []⟩ <|
      .op ⟨(some 17), .fieldA 1 (.t 7), []⟩ <|
      .op ⟨none, .store 1 (.t 17) (.t 16), []⟩ <|
      .nil)) (
    .seq (.seq (.ops (
      .op ⟨(some 18), .fieldA 0 (.t 3), []⟩ <|
      .op ⟨(some 19), .load1 (.t 18), []⟩ <|
      .op ⟨(some 20), .cmp .neq .i64 (.t 19) (.c (.int .i64 1)), []⟩ <|
      .nil)) (
    .cond (.t 20) (.ops (
        .op ⟨(some 21), .fieldA 2 (.t 3), []⟩ <|
        .op ⟨(some 22), .loadN 3 (.t 21), []⟩ <|
        .op ⟨(some 23), .mov (.t 1), []⟩ <|
        .op ⟨(some 24), .mov (.t 2), []⟩ <|
        .op ⟨(some 25), .call 78 [(.t 22), (.t 23), (.t 24)], []⟩ <|
        .op ⟨(some 26), .fieldA 2 (.t 7), []⟩ <|
        .op ⟨none, .store 1 (.t 26) (.t 25), []⟩ <|
        .nil)) (.skip))) (
    .seq (.seq (.ops (
      .op ⟨(some 27), .fieldA 0 (.t 3), []⟩ <|
      .op ⟨(some 28), .load1 (.t 27), []⟩ <|
      .nil)) (
    .block 0 (.seq (.block 2 (.seq (.block 1 (.seq (.seq (.seq (.ops (
      .op ⟨(some 30), .cmp .eql .i64 (.t 28) (.c (.int .i64 5)), []⟩ <|
      .op ⟨(some 29), .mov (.t 30), []⟩ <|
      .nil)) (
    .cond (.t 29) (.exit 1) (.skip))) (
    .seq (.seq (.ops (
      .op ⟨(some 32), .cmp .eql .i64 (.t 28) (.c (.int .i64 3)), []⟩ <|
      .op ⟨(some 31), .mov (.t 32), []⟩ <|
      .nil)) (
    .cond (.t 31) (.skip) (.ops (
        .op ⟨(some 33), .cmp .eql .i64 (.t 28) (.c (.int .i64 7)), []⟩ <|
        .op ⟨(some 31), .mov (.t 33), []⟩ <|
        .nil)))) (
    .cond (.t 31) (.exit 2) (.skip)))) (
    .exit 0))) (
    .ops (
      .op ⟨(some 34), .fieldA 8 (.t 3), []⟩ <|
      .op ⟨(some 35), .loadN 3 (.t 34), []⟩ <|
      .op ⟨(some 36), .mov (.t 1), []⟩ <|
      .op ⟨(some 37), .mov (.t 2), []⟩ <|
      .op ⟨(some 38), .call 78 [(.t 35), (.t 36), (.t 37)], []⟩ <|
      .op ⟨(some 39), .fieldA 4 (.t 7), []⟩ <|
      .op ⟨none, .store 1 (.t 39) (.t 38), []⟩ <|
      .nil)))) (
    .seq (.ops (
      .op ⟨(some 40), .fieldA 5 (.t 3), []⟩ <|
      .op ⟨(some 41), .loadN 3 (.t 40), []⟩ <|
      .op ⟨(some 42), .mov (.t 1), []⟩ <|
      .op ⟨(some 43), .mov (.t 2), []⟩ <|
      .op ⟨(some 44), .call 78 [(.t 41), (.t 42), (.t 43)], []⟩ <|
      .op ⟨(some 45), .fieldA 3 (.t 7), []⟩ <|
      .op ⟨none, .store 1 (.t 45) (.t 44), []⟩ <|
      .nil)) (
    .exit 0))))) (
    .seq (.ops (
      .op ⟨(some 46), .loadN 5 (.t 7), []⟩ <|
      .op ⟨none, .store 5 (.t 6) (.t 46), []⟩ <|
      .nil)) (
    .ret)))))))

def op_Call_hs : List (List Nat × List Nat) := []

end Wm.F
end

section
/- PRINTED by my tool (wip/wm/tool/Gen.lean): a function as one of my machine. -/
namespace Wm.F
open Wm
set_option maxRecDepth 100000

/-- 85: withy/withyref06.Right -/
def withyref06_Right : AFunc where
  closed := true
  nparams := 1
  ntmps := 61
  results := [.tmp 2]
  body := .seq (.ops (
      .op ⟨(some 1), .box (.t 0), []⟩ <|
      .op ⟨(some 2), .mov (.c (.bool false)), []⟩ <|
      .nil)) (
    .seq (.ops (
      .op ⟨(some 3), .fieldA 0 (.t 1), []⟩ <|
      .op ⟨(some 4), .load1 (.t 3), []⟩ <|
      .op ⟨(some 5), .cmp .geq .i64 (.t 4) (.c (.int .i64 1)), []⟩ <|
      .op ⟨(some 6), .mov (.t 5), []⟩ <|
      .grd 6 true [⟨(some 7), .fieldA 0 (.t 1), []⟩,
          ⟨(some 8), .load1 (.t 7), []⟩,
          ⟨(some 9), .cmp .leq .i64 (.t 8) (.c (.int .i64 64)), []⟩] <|
      .op ⟨(some 10), .pick (.t 6) (.t 9) (.c (.bool false)), []⟩ <|
      .op ⟨(some 11), .mov (.t 10), []⟩ <|
      .grd 11 true [⟨(some 12), .fieldA 1 (.t 1), []⟩,
          ⟨(some 13), .load1 (.t 12), []⟩,
          ⟨(some 14), .cmp .geq .i64 (.t 13) (.c (.int .i64 0)), []⟩] <|
      .op ⟨(some 15), .pick (.t 11) (.t 14) (.c (.bool false)), []⟩ <|
      .op ⟨(some 16), .mov (.t 15), []⟩ <|
      .grd 16 true [⟨(some 17), .fieldA 1 (.t 1), []⟩,
          ⟨(some 18), .load1 (.t 17), []⟩,
          ⟨(some 19), .cmp .leq .i64 (.t 18) (.c (.int .i64 8)), []⟩] <|
      .op ⟨(some 20), .pick (.t 16) (.t 19) (.c (.bool false)), []⟩ <|
      .op ⟨(some 21), .mov (.t 20), []⟩ <|
      .grd 21 true [⟨(some 22), .fieldA 2 (.t 1), []⟩,
          ⟨(some 23), .load1 (.t 22), []⟩,
          ⟨(some 24), .cmp .geq .i64 (.t 23) (.c (.int .i64 1)), []⟩] <|
      .op ⟨(some 25), .pick (.t 21) (.t 24) (.c (.bool false)), []⟩ <|
      .op ⟨(some 26), .mov (.t 25), []⟩ <|
      .grd 26 true [⟨(some 27), .fieldA 2 (.t 1), []⟩,
          ⟨(some 28), .load1 (.t 27), []⟩,
          ⟨(some 29), .cmp .leq .i64 (.t 28) (.c (.int .i64 8)), []⟩] <|
      .op ⟨(some 30), .pick (.t 26) (.t 29) (.c (.bool false)), []⟩ <|
      .op ⟨(some 31), .mov (.t 30), []⟩ <|
      .grd 31 true [⟨(some 32), .fieldA 3 (.t 1), []⟩,
          ⟨(some 33), .load1 (.t 32), []⟩,
          ⟨(some 34), .cmp .geq .i64 (.t 33) (.c (.int .i64 1)), []⟩] <|
      .op ⟨(some 35), .pick (.t 31) (.t 34) (.c (.bool false)), []⟩ <|
      .op ⟨(some 36), .mov (.t 35), []⟩ <|
      .grd 36 true [⟨(some 37), .fieldA 3 (.t 1), []⟩,
          ⟨(some 38), .load1 (.t 37), []⟩,
          ⟨(some 39), .cmp .leq .i64 (.t 38) (.c (.int .i64 16)), []⟩] <|
      .op ⟨(some 40), .pick (.t 36) (.t 39) (.c (.bool false)), []⟩ <|
      .op ⟨(some 41), .mov (.t 40), []⟩ <|
      .grd 41 true [⟨(some 42), .fieldA 4 (.t 1), []⟩,
          ⟨(some 43), .load1 (.t 42), []⟩,
          ⟨(some 44), .cmp .geq .i64 (.t 43) (.c (.int .i64 1)), []⟩] <|
      .op ⟨(some 45), .pick (.t 41) (.t 44) (.c (.bool false)), []⟩ <|
      .op ⟨(some 46), .mov (.t 45), []⟩ <|
      .grd 46 true [⟨(some 47), .fieldA 4 (.t 1), []⟩,
          ⟨(some 48), .load1 (.t 47), []⟩,
          ⟨(some 49), .cmp .leq .i64 (.t 48) (.c (.int .i64 1048576)), []⟩] <|
      .op ⟨(some 50), .pick (.t 46) (.t 49) (.c (.bool false)), []⟩ <|
      .op ⟨(some 51), .mov (.t 50), []⟩ <|
      .grd 51 true [⟨(some 52), .fieldA 5 (.t 1), []⟩,
          ⟨(some 53), .load1 (.t 52), []⟩,
          ⟨(some 54), .cmp .geq .i64 (.t 53) (.c (.int .i64 0)), []⟩] <|
      .op ⟨(some 55), .pick (.t 51) (.t 54) (.c (.bool false)), []⟩ <|
      .op ⟨(some 56), .mov (.t 55), []⟩ <|
      .grd 56 true [⟨(some 57), .fieldA 5 (.t 1), []⟩,
          ⟨(some 58), .load1 (.t 57), []⟩,
          ⟨(some 59), .cmp .leq .i64 (.t 58) (.c (.int .i64 64)), []⟩] <|
      .op ⟨(some 60), .pick (.t 56) (.t 59) (.c (.bool false)), []⟩ <|
      .op ⟨(some 2), .mov (.t 60), []⟩ <|
      .nil)) (
    .ret))

def withyref06_Right_hs : List (List Nat × List Nat) := []

end Wm.F
end

section
/- PRINTED by my tool (wip/wm/tool/Gen.lean): a function as one of my machine. -/
namespace Wm.F
open Wm
set_option maxRecDepth 100000

def model_New_c1 : ACode :=
  .seq (.ops (
    .op ⟨(some 17), .cmp .lss .i64 (.t 16) (.t 15), []⟩ <|
    .nil)) (
  .seq (.cond (.t 17) (.skip) (.exit 0)) (
  .seq (.block 1 (.ops (
    .op ⟨(some 18), .mov (.t 3), []⟩ <|
    .op ⟨(some 19), .mov (.t 3), []⟩ <|
    .op ⟨(some 20), .nilc (.t 19), []⟩ <|
    .op ⟨(some 21), .fieldA 7 (.t 20), []⟩ <|
    .op ⟨(some 22), .load1 (.t 21), []⟩ <|
    .op ⟨(some 23), .mkMap, []⟩ <|
    .op ⟨(some 24), .buildSl 1 1 [.nilmap] [(0, 1, (.t 23))], []⟩ <|
    .op ⟨(some 25), .append 1 8 (.t 22) (.t 24), []⟩ <|
    .op ⟨(some 26), .nilc (.t 18), []⟩ <|
    .op ⟨(some 27), .fieldA 7 (.t 26), []⟩ <|
    .op ⟨none, .store 1 (.t 27) (.t 25), []⟩ <|
    .nil))) (
  .ops (
    .op ⟨(some 28), .arith .add .i64 (.t 16) (.c (.int .i64 1)), []⟩ <|
    .op ⟨(some 16), .mov (.t 28), []⟩ <|
    .nil))))

def model_New_c0 : ACode :=
  .seq (.ops (
    .op ⟨(some 29), .mov (.t 3), []⟩ <|
    .op ⟨(some 2), .mov (.t 29), []⟩ <|
    .nil)) (
  .ret)

/-- 96: withy/model.New -/
def model_New : AFunc where
  closed := false
  nparams := 1
  ntmps := 30
  results := [.tmp 2]
  body := .seq (.ops (
      .op ⟨(some 1), .box (.t 0), []⟩ <|
      .op ⟨(some 2), .mov (.c .nilp), []⟩ <|
      .nil)) (
    .seq (.seq (.ops (
      .op ⟨(some 4), .loadN 6 (.t 1), []⟩ <|
      .op ⟨(some 5), .call 263 [(.t 4)], []⟩ <|
      .op ⟨(some 6), .not (.t 5), []⟩ <|
      .nil)) (
    .cond (.t 6) (.seq (.ops (
        .op ⟨(some 2), .mov (.c .nilp), []⟩ <|
        .nil)) (
      .ret)) (.skip))) (
    .seq (.ops (
      .op ⟨(some 7), .loadN 6 (.t 1), []⟩ <|
      .op ⟨(some 8), .fieldA 2 (.t 1), []⟩ <|
      .op ⟨(some 9), .load1 (.t 8), []⟩ <|
      .op ⟨(some 10), .mkSl 2 32 [(.int .u64 0), .nilsl] (.t 9) (.t 9), []⟩ <|
      .op ⟨(some 11), .mkMap, []⟩ <|
      .op ⟨(some 12), .build [(.int .i64 0), (.int .i64 0), (.int .i64 0), (.int .i64 0), (.int .i64 0), (.int .i64 0), .nilsl, .nilsl, .nilsl, .nilmap] [(0, 6, (.t 7)), (8, 1, (.t 10)), (9, 1, (.t 11))], []⟩ <|
      .op ⟨(some 13), .box (.t 12), []⟩ <|
      .op ⟨(some 3), .mov (.t 13), []⟩ <|
      .nil)) (
    .seq (.seq (.ops (
      .op ⟨(some 14), .fieldA 2 (.t 1), []⟩ <|
      .op ⟨(some 15), .load1 (.t 14), []⟩ <|
      .op ⟨(some 16), .mov (.c (.int .i64 0)), []⟩ <|
      .nil)) (
    .block 0 (.loop [3, 15, 16] [3] (model_New_c1)))) (
    model_New_c0))))

def model_New_hs : List (List Nat × List Nat) := [([3, 15, 16], [3])]

end Wm.F
end

section
/- PRINTED by my tool (wip/wm/tool/Gen.lean): a function as one of my machine. -/
namespace Wm.F
open Wm
set_option maxRecDepth 100000

/-- 98: withy/withylaw17.awake -/
def withylaw17_awake : AFunc where
  closed := true
  nparams := 0
  ntmps := 69
  results := [.tmp 0]
  body := .seq (.ops (
      .op ⟨(some 0), .mov (.c (.bool false)), []⟩ <|
      .nil)) (
    .seq (.ops (
      .op ⟨(some 4), .call 97 [], []⟩ <|
      .op ⟨(some 5), .call 96 [(.t 4)], []⟩ <|
      .op ⟨(some 1), .mov (.t 5), []⟩ <|
      .nil)) (
    .seq (.ops (
      .op ⟨(some 6), .mov (.t 1), []⟩ <|
      .op ⟨(some 7), .build [(.int .i64 0), (.int .i64 0), (.int .u64 0), (.int .u64 0), (.int .u64 0)] [(0, 1, (.c (.int .i64 1))), (1, 1, (.c (.int .i64 1)))], []⟩ <|
      .op ⟨(some 8), .build [(.int .i64 0), (.int .u64 0), (.bool false)] [(1, 1, (.c (.int .u64 5)))], []⟩ <|
      .op ⟨(some 9), .call 103 [(.t 6), (.c (.int .i64 0)), (.t 7), (.t 8)], []⟩ <|
      .op ⟨(some 10), .mov (.t 9), []⟩ <|
      .grd 10 true [⟨(some 11), .mov (.t 1), []⟩,
          ⟨(some 12), .build [(.int .i64 0), (.int .i64 0), (.int .u64 0), (.int .u64 0), (.int .u64 0)] [(0, 1, (.c (.int .i64 3))), (2, 1, (.c (.int .u64 5))), (3, 1, (.c (.int .u64 5)))], []⟩,
          ⟨(some 13), .build [(.int .i64 0), (.int .u64 0), (.bool false)] [], []⟩,
          ⟨(some 14), .call 103 [(.t 11), (.c (.int .i64 0)), (.t 12), (.t 13)], []⟩] <|
      .op ⟨(some 15), .pick (.t 10) (.t 14) (.c (.bool false)), []⟩ <|
      .op ⟨(some 16), .mov (.t 15), []⟩ <|
      .grd 16 true [⟨(some 17), .mov (.t 1), []⟩,
          ⟨(some 18), .build [(.int .i64 0), (.int .i64 0), (.int .u64 0), (.int .u64 0), (.int .u64 0)] [(0, 1, (.c (.int .i64 2))), (2, 1, (.c (.int .u64 5)))], []⟩,
          ⟨(some 19), .build [(.int .i64 0), (.int .u64 0), (.bool false)] [(1, 1, (.c (.int .u64 6)))], []⟩,
          ⟨(some 20), .call 103 [(.t 17), (.c (.int .i64 0)), (.t 18), (.t 19)], []⟩] <|
      .op ⟨(some 21), .pick (.t 16) (.t 20) (.c (.bool false)), []⟩ <|
      .op ⟨(some 22), .mov (.t 21), []⟩ <|
      .grd 22 true [⟨(some 23), .mov (.t 1), []⟩,
          ⟨(some 24), .build [(.int .i64 0), (.int .i64 0), (.int .u64 0), (.int .u64 0), (.int .u64 0)] [(0, 1, (.c (.int .i64 7))), (2, 1, (.c (.int .u64 5))), (3, 1, (.c (.int .u64 6)))], []⟩,
          ⟨(some 25), .build [(.int .i64 0), (.int .u64 0), (.bool false)] [(2, 1, (.c (.bool true)))], []⟩,
          ⟨(some 26), .call 103 [(.t 23), (.c (.int .i64 0)), (.t 24), (.t 25)], []⟩] <|
      .op ⟨(some 27), .pick (.t 22) (.t 26) (.c (.bool false)), []⟩ <|
      .op ⟨(some 2), .mov (.t 27), []⟩ <|
      .nil)) (
    .seq (.ops (
      .op ⟨(some 28), .mov (.t 1), []⟩ <|
      .op ⟨(some 29), .build [(.int .i64 0), (.int .i64 0), (.int .u64 0), (.int .u64 0), (.int .u64 0)] [(0, 1, (.c (.int .i64 8))), (2, 1, (.c (.int .u64 5)))], []⟩ <|
      .op ⟨(some 30), .build [(.int .i64 0), (.int .u64 0), (.bool false)] [(1, 1, (.c (.int .u64 9)))], []⟩ <|
      .op ⟨(some 31), .call 103 [(.t 28), (.c (.int .i64 0)), (.t 29), (.t 30)], []⟩ <|
      .op ⟨(some 32), .mov (.t 31), []⟩ <|
      .grd 32 true [⟨(some 33), .mov (.t 1), []⟩,
          ⟨(some 34), .build [(.int .i64 0), (.int .i64 0), (.int .u64 0), (.int .u64 0), (.int .u64 0)] [(0, 1, (.c (.int .i64 4))), (2, 1, (.c (.int .u64 5)))], []⟩,
          ⟨(some 35), .build [(.int .i64 0), (.int .u64 0), (.bool false)] [], []⟩,
          ⟨(some 36), .call 103 [(.t 33), (.c (.int .i64 0)), (.t 34), (.t 35)], []⟩] <|
      .op ⟨(some 37), .pick (.t 32) (.t 36) (.c (.bool false)), []⟩ <|
      .op ⟨(some 38), .mov (.t 37), []⟩ <|
      .grd 38 true [⟨(some 39), .mov (.t 1), []⟩,
          ⟨(some 40), .build [(.int .i64 0), (.int .i64 0), (.int .u64 0), (.int .u64 0), (.int .u64 0)] [(0, 1, (.c (.int .i64 9))), (2, 1, (.c (.int .u64 9)))], []⟩,
          ⟨(some 41), .build [(.int .i64 0), (.int .u64 0), (.bool false)] [(1, 1, (.c (.int .u64 7)))], []⟩,
          ⟨(some 42), .call 103 [(.t 39), (.c (.int .i64 0)), (.t 40), (.t 41)], []⟩] <|
      .op ⟨(some 43), .pick (.t 38) (.t 42) (.c (.bool false)), []⟩ <|
      .op ⟨(some 44), .mov (.t 43), []⟩ <|
      .grd 44 true [⟨(some 45), .mov (.t 1), []⟩,
          ⟨(some 46), .build [(.int .i64 0), (.int .i64 0), (.int .u64 0), (.int .u64 0), (.int .u64 0)] [(0, 1, (.c (.int .i64 9))), (2, 1, (.c (.int .u64 9)))], []⟩,
          ⟨(some 47), .build [(.int .i64 0), (.int .u64 0), (.bool false)] [(0, 1, (.c (.int .i64 6)))], []⟩,
          ⟨(some 48), .call 103 [(.t 45), (.c (.int .i64 0)), (.t 46), (.t 47)], []⟩] <|
      .op ⟨(some 49), .pick (.t 44) (.t 48) (.c (.bool false)), []⟩ <|
      .op ⟨(some 3), .mov (.t 49), []⟩ <|
      .nil)) (
    .seq (.ops (
      .op ⟨(some 50), .mov (.t 2), []⟩ <|
      .op ⟨(some 51), .mov (.t 50), []⟩ <|
      .grd 51 true [⟨(some 52), .mov (.t 3), []⟩] <|
      .op ⟨(some 53), .pick (.t 51) (.t 52) (.c (.bool false)), []⟩ <|
      .op ⟨(some 54), .mov (.t 53), []⟩ <|
      .grd 54 true [⟨(some 55), .mov (.t 1), []⟩,
          ⟨(some 56), .call 105 [(.t 55), (.c (.int .i64 0))], []⟩,
          ⟨(some 57), .cmp .eql .i64 (.t 56) (.c (.int .i64 3)), []⟩] <|
      .op ⟨(some 58), .pick (.t 54) (.t 57) (.c (.bool false)), []⟩ <|
      .op ⟨(some 59), .mov (.t 58), []⟩ <|
      .grd 59 true [⟨(some 60), .mov (.t 1), []⟩,
          ⟨(some 61), .call 106 [(.t 60), (.c (.int .i64 0)), (.c (.int .u64 7))], []⟩,
          ⟨(some 62), .cmp .eql .i64 (.t 61) (.c (.int .i64 0)), []⟩] <|
      .op ⟨(some 63), .pick (.t 59) (.t 62) (.c (.bool false)), []⟩ <|
      .op ⟨(some 64), .mov (.t 63), []⟩ <|
      .grd 64 true [⟨(some 65), .mov (.t 1), []⟩,
          ⟨(some 66), .call 116 [(.t 65), (.c (.int .i64 0)), (.c (.int .i64 0))], []⟩,
          ⟨(some 67), .cmp .eql .i64 (.t 66) (.c (.int .i64 (-1))), []⟩] <|
      .op ⟨(some 68), .pick (.t 64) (.t 67) (.c (.bool false)), []⟩ <|
      .op ⟨(some 0), .mov (.t 68), []⟩ <|
      .nil)) (
    .ret)))))

def withylaw17_awake_hs : List (List Nat × List Nat) := []

end Wm.F
end

section
/- PRINTED by my tool (wip/wm/tool/Gen.lean): a function as one of my machine. -/
namespace Wm.F
open Wm
set_option maxRecDepth 100000

/-- 260: withy/op.none -/
def op_none : AFunc where
  closed := true
  nparams := 1
  ntmps := 9
  results := [.tmp 2]
  body := .seq (.ops (
      .op ⟨(some 2), .mov (.c (.bool false)), []⟩ <|
      .nil)) (
    .seq (.ops (
      .op ⟨(some 3), .mov (.t 0), []⟩ <|
      .op ⟨(some 4), .cmp .lss .i64 (.t 3) (.c (.int .i64 1)), []⟩ <|
      .op ⟨(some 5), .mov (.t 4), []⟩ <|
      .grd 5 false [⟨(some 6), .mov (.t 0), []⟩,
          ⟨(some 7), .cmp .gtr .i64 (.t 6) (.c (.int .i64 10)), []⟩] <|
      .op ⟨(some 8), .pick (.t 5) (.c (.bool true)) (.t 7), []⟩ <|
      .op ⟨(some 2), .mov (.t 8), []⟩ <|
      .nil)) (
    .ret))

def op_none_hs : List (List Nat × List Nat) := []

end Wm.F
end

section
/- PRINTED by my tool (wip/wm/tool/Gen.lean): a function as one of my machine. -/
namespace Wm.F
open Wm
set_option maxRecDepth 100000

/-- 263: withy/plan.Right -/
def plan_Right : AFunc where
  closed := true
  nparams := 1
  ntmps := 31
  results := [.tmp 2]
  body := .seq (.ops (
      .op ⟨(some 1), .box (.t 0), []⟩ <|
      .op ⟨(some 2), .mov (.c (.bool false)), []⟩ <|
      .nil)) (
    .seq (.ops (
      .op ⟨(some 3), .fieldA 0 (.t 1), []⟩ <|
      .op ⟨(some 4), .load1 (.t 3), []⟩ <|
      .op ⟨(some 5), .call 376 [(.t 4), (.c (.int .i64 1)), (.c (.int .i64 64))], []⟩ <|
      .op ⟨(some 6), .mov (.t 5), []⟩ <|
      .grd 6 true [⟨(some 7), .fieldA 1 (.t 1), []⟩,
          ⟨(some 8), .load1 (.t 7), []⟩,
          ⟨(some 9), .call 376 [(.t 8), (.c (.int .i64 0)), (.c (.int .i64 8))], []⟩] <|
      .op ⟨(some 10), .pick (.t 6) (.t 9) (.c (.bool false)), []⟩ <|
      .op ⟨(some 11), .mov (.t 10), []⟩ <|
      .grd 11 true [⟨(some 12), .fieldA 2 (.t 1), []⟩,
          ⟨(some 13), .load1 (.t 12), []⟩,
          ⟨(some 14), .call 376 [(.t 13), (.c (.int .i64 1)), (.c (.int .i64 8))], []⟩] <|
      .op ⟨(some 15), .pick (.t 11) (.t 14) (.c (.bool false)), []⟩ <|
      .op ⟨(some 16), .mov (.t 15), []⟩ <|
      .grd 16 true [⟨(some 17), .fieldA 3 (.t 1), []⟩,
          ⟨(some 18), .load1 (.t 17), []⟩,
          ⟨(some 19), .call 376 [(.t 18), (.c (.int .i64 1)), (.c (.int .i64 16))], []⟩] <|
      .op ⟨(some 20), .pick (.t 16) (.t 19) (.c (.bool false)), []⟩ <|
      .op ⟨(some 21), .mov (.t 20), []⟩ <|
      .grd 21 true [⟨(some 22), .fieldA 4 (.t 1), []⟩,
          ⟨(some 23), .load1 (.t 22), []⟩,
          ⟨(some 24), .call 376 [(.t 23), (.c (.int .i64 1)), (.c (.int .i64 1048576))], []⟩] <|
      .op ⟨(some 25), .pick (.t 21) (.t 24) (.c (.bool false)), []⟩ <|
      .op ⟨(some 26), .mov (.t 25), []⟩ <|
      .grd 26 true [⟨(some 27), .fieldA 5 (.t 1), []⟩,
          ⟨(some 28), .load1 (.t 27), []⟩,
          ⟨(some 29), .call 376 [(.t 28), (.c (.int .i64 0)), (.c (.int .i64 64))], []⟩] <|
      .op ⟨(some 30), .pick (.t 26) (.t 29) (.c (.bool false)), []⟩ <|
      .op ⟨(some 2), .mov (.t 30), []⟩ <|
      .nil)) (
    .ret))

def plan_Right_hs : List (List Nat × List Nat) := []

end Wm.F
end

section
/- PRINTED by my tool (wip/wm/tool/Gen.lean): a function as one of my machine. -/
namespace Wm.F
open Wm
set_option maxRecDepth 100000

/-- 97: withy/withylaw17.config -/
def withylaw17_config : AFunc where
  closed := true
  nparams := 0
  ntmps := 2
  results := [.cell true 6 0]
  body := .seq (.ops (
      .op ⟨(some 0), .alloc [(.int .i64 0), (.int .i64 0), (.int .i64 0), (.int .i64 0), (.int .i64 0), (.int .i64 0)], []⟩ <|
      .nil)) (
    .seq (.ops (
      .op ⟨(some 1), .build [(.int .i64 0), (.int .i64 0), (.int .i64 0), (.int .i64 0), (.int .i64 0), (.int .i64 0)] [(0, 1, (.c (.int .i64 4))), (1, 1, (.c (.int .i64 2))), (2, 1, (.c (.int .i64 2))), (3, 1, (.c (.int .i64 3))), (4, 1, (.c (.int .i64 9)))], []⟩ <|
      .op ⟨none, .store 6 (.t 0) (.t 1), []⟩ <|
      .nil)) (
    .ret))

def withylaw17_config_hs : List (List Nat × List Nat) := []

end Wm.F
end

section
/- PRINTED by my tool (wip/wm/tool/Gen.lean): a function as one of my machine. -/
namespace Wm.F
open Wm
set_option maxRecDepth 100000

/-- 103: (*withy/model.Model).Does -/
def model_Model_Does : AFunc where
  closed := false
  nparams := 4
  ntmps := 85
  results := [.tmp 8]
  body := .seq (.ops (
      .op ⟨(some 6), .box (.t 2), []⟩ <|
      .op ⟨(some 7), .box (.t 3), []⟩ <|
      .op ⟨(some 8), .mov (.c (.bool false)), []⟩ <|
      .nil)) (
    .seq (.seq (.ops (
      .op ⟨(some 11), .mov (.t 0), []⟩ <|
      .op ⟨(some 12), .mov (.t 1), []⟩ <|
      .op ⟨(some 13), .call 279 [(.t 11), (.t 12)], []⟩ <|
      .op ⟨(some 14), .not (.t 13), []⟩ <|
      .nil)) (
    .cond (.t 14) (.seq (.ops (
        .op ⟨(some 8), .mov (.c (.bool false)), []⟩ <|
        .nil)) (
      .ret)) (.skip))) (
    .seq (.ops (
      .op ⟨(some 9), .mov (.c (.int .i64 0)), []⟩ <|
      .nil)) (
    .seq (.ops (
      .op ⟨(some 10), .mov (.c (.bool false)), []⟩ <|
      .nil)) (
    .seq (.block 0 (.seq (.ops (
      .op ⟨(some 23), .fieldA 0 (.t 6), []⟩ <|
      .op ⟨(some 24), .load1 (.t 23), []⟩ <|
      .op ⟨(some 25), .cmp .lss .i64 (.t 24) (.c (.int .i64 1)), []⟩ <|
      .op ⟨(some 26), .mov (.t 25), []⟩ <|
      .grd 26 false [⟨(some 27), .fieldA 0 (.t 6), []⟩,
          ⟨(some 28), .load1 (.t 27), []⟩,
          ⟨(some 29), .cmp .gtr .i64 (.t 28) (.c (.int .i64 10)), []⟩] <|
      .op ⟨(some 30), .pick (.t 26) (.c (.bool true)) (.t 29), []⟩ <|
      .op ⟨(some 22), .mov (.t 30), []⟩ <|
      .nil)) (
    .cond (.t 22) (.ops (
        .op ⟨(some 9), .mov (.c (.int .i64 8)), []⟩ <|
        .nil)) (.seq (.ops (
        .op ⟨(some 32), .fieldA 0 (.t 6), []⟩ <|
        .op ⟨(some 33), .load1 (.t 32), []⟩ <|
        .op ⟨(some 34), .cmp .eql .i64 (.t 33) (.c (.int .i64 1)), []⟩ <|
        .op ⟨(some 31), .mov (.t 34), []⟩ <|
        .nil)) (
      .cond (.t 31) (.ops (
          .op ⟨(some 35), .mov (.t 0), []⟩ <|
          .op ⟨(some 36), .mov (.t 1), []⟩ <|
          .op ⟨(some 37), .loadN 5 (.t 6), []⟩ <|
          .op ⟨(some 38), .call 280 [(.t 35), (.t 36), (.t 37)], []⟩ <|
          .op ⟨(some 9), .mov (.t 38), []⟩ <|
          .op ⟨(some 10), .mov (.c (.bool true)), []⟩ <|
          .nil)) (.seq (.ops (
          .op ⟨(some 40), .fieldA 0 (.t 6), []⟩ <|
          .op ⟨(some 41), .load1 (.t 40), []⟩ <|
          .op ⟨(some 42), .call 82 [(.t 41)], []⟩ <|
          .op ⟨(some 39), .mov (.t 42), []⟩ <|
          .nil)) (
        .cond (.t 39) (.ops (
            .op ⟨(some 43), .mov (.t 0), []⟩ <|
            .op ⟨(some 44), .mov (.t 1), []⟩ <|
            .op ⟨(some 45), .loadN 5 (.t 6), []⟩ <|
            .op ⟨(some 46), .call 281 [(.t 43), (.t 44), (.t 45)], []⟩ <|
            .op ⟨(some 9), .mov (.t 46), []⟩ <|
            .nil)) (.ops (
            .op ⟨(some 15), .mov (.t 0), []⟩ <|
            .op ⟨(some 16), .mov (.t 1), []⟩ <|
            .op ⟨(some 17), .loadN 5 (.t 6), []⟩ <|
            .op ⟨(some 19), .fieldA 0 (.t 6), []⟩ <|
            .op ⟨(some 20), .load1 (.t 19), []⟩ <|
            .op ⟨(some 18), .call 282 [(.t 15), (.t 16), (.t 17)], [{ g := none, op := .load1 (.t 19), d := 20 }]⟩ <|
            .op ⟨(some 21), .call 83 [(.t 20)], []⟩ <|
            .op ⟨(some 9), .mov (.t 18), []⟩ <|
            .op ⟨(some 10), .mov (.t 21), []⟩ <|
            .nil))))))))) (
    .seq (.seq (.ops (
      .op ⟨(some 47), .mov (.t 9), []⟩ <|
      .op ⟨(some 48), .cmp .neq .i64 (.t 47) (.c (.int .i64 0)), []⟩ <|
      .nil)) (
    .cond (.t 48) (.seq (.ops (
        .op ⟨(some 49), .loadN 3 (.t 7), []⟩ <|
        .op ⟨(some 50), .mov (.t 9), []⟩ <|
        .op ⟨(some 51), .build [(.int .i64 0), (.int .u64 0), (.bool false)] [(0, 1, (.t 50))], []⟩ <|
        .op ⟨(some 52), .eq false (.agg [(0, .int), (1, .int), (2, .bool)]) (.t 49) (.t 51), []⟩ <|
        .op ⟨(some 8), .mov (.t 52), []⟩ <|
        .nil)) (
      .ret)) (.skip))) (
    .seq (.seq (.ops (
      .op ⟨(some 53), .fieldA 0 (.t 7), []⟩ <|
      .op ⟨(some 54), .load1 (.t 53), []⟩ <|
      .op ⟨(some 55), .cmp .eql .i64 (.t 54) (.c (.int .i64 4)), []⟩ <|
      .nil)) (
    .cond (.t 55) (.seq (.ops (
        .op ⟨(some 56), .mov (.t 10), []⟩ <|
        .op ⟨(some 57), .mov (.t 56), []⟩ <|
        .grd 57 true [⟨(some 58), .loadN 3 (.t 7), []⟩,
            ⟨(some 59), .build [(.int .i64 0), (.int .u64 0), (.bool false)] [(0, 1, (.c (.int .i64 4)))], []⟩,
            ⟨(some 60), .eq false (.agg [(0, .int), (1, .int), (2, .bool)]) (.t 58) (.t 59), []⟩] <|
        .op ⟨(some 61), .pick (.t 57) (.t 60) (.c (.bool false)), []⟩ <|
        .op ⟨(some 62), .mov (.t 61), []⟩ <|
        .grd 62 true [⟨(some 63), .fieldA 0 (.t 6), []⟩,
            ⟨(some 64), .load1 (.t 63), []⟩,
            ⟨(some 65), .cmp .eql .i64 (.t 64) (.c (.int .i64 5)), []⟩,
            ⟨(some 66), .mov (.t 65), []⟩] <|
        .grd 66 true [⟨(some 67), .mov (.t 0), []⟩,
            ⟨(some 68), .mov (.t 1), []⟩,
            ⟨(some 69), .loadN 5 (.t 6), []⟩,
            ⟨(some 70), .call 283 [(.t 67), (.t 68), (.t 69)], []⟩,
            ⟨(some 71), .not (.t 70), []⟩] <|
        .grd 62 true [⟨(some 72), .pick (.t 66) (.t 71) (.c (.bool false)), []⟩,
            ⟨(some 73), .not (.t 72), []⟩] <|
        .op ⟨(some 74), .pick (.t 62) (.t 73) (.c (.bool false)), []⟩ <|
        .op ⟨(some 8), .mov (.t 74), []⟩ <|
        .nil)) (
      .ret)) (.skip))) (
    .seq (.ops (
      .op ⟨(some 75), .fieldA 0 (.t 7), []⟩ <|
      .op ⟨(some 76), .load1 (.t 75), []⟩ <|
      .op ⟨(some 77), .cmp .eql .i64 (.t 76) (.c (.int .i64 0)), []⟩ <|
      .op ⟨(some 78), .mov (.t 77), []⟩ <|
      .grd 78 true [⟨(some 79), .mov (.t 0), []⟩,
          ⟨(some 80), .mov (.t 1), []⟩,
          ⟨(some 81), .loadN 5 (.t 6), []⟩,
          ⟨(some 82), .loadN 3 (.t 7), []⟩,
          ⟨(some 83), .call 284 [(.t 79), (.t 80), (.t 81), (.t 82)], []⟩] <|
      .op ⟨(some 84), .pick (.t 78) (.t 83) (.c (.bool false)), []⟩ <|
      .op ⟨(some 8), .mov (.t 84), []⟩ <|
      .nil)) (
    .ret))))))))

def model_Model_Does_hs : List (List Nat × List Nat) := []

end Wm.F
end

section
/- PRINTED by my tool (wip/wm/tool/Gen.lean): a function as one of my machine. -/
namespace Wm.F
open Wm
set_option maxRecDepth 100000

/-- 105: (*withy/model.Model).Held -/
def model_Model_Held : AFunc where
  closed := false
  nparams := 2
  ntmps := 17
  results := [.tmp 4]
  body := .seq (.ops (
      .op ⟨(some 4), .mov (.c (.int .i64 0)), []⟩ <|
      .nil)) (
    .seq (.seq (.ops (
      .op ⟨(some 5), .mov (.t 0), []⟩ <|
      .op ⟨(some 6), .mov (.t 1), []⟩ <|
      .op ⟨(some 7), .call 279 [(.t 5), (.t 6)], []⟩ <|
      .op ⟨(some 8), .not (.t 7), []⟩ <|
      .nil)) (
    .cond (.t 8) (.seq (.ops (
        .op ⟨(some 4), .mov (.c (.int .i64 0)), []⟩ <|
        .nil)) (
      .ret)) (.skip))) (
    .seq (.ops (
      .op ⟨(some 9), .mov (.t 0), []⟩ <|
      .op ⟨(some 10), .nilc (.t 9), []⟩ <|
      .op ⟨(some 11), .fieldA 7 (.t 10), []⟩ <|
      .op ⟨(some 12), .load1 (.t 11), []⟩ <|
      .op ⟨(some 13), .mov (.t 1), []⟩ <|
      .op ⟨(some 14), .indexA 1 (.t 12) (.t 13), []⟩ <|
      .op ⟨(some 15), .load1 (.t 14), []⟩ <|
      .op ⟨(some 16), .lenMap (.t 15), []⟩ <|
      .op ⟨(some 4), .mov (.t 16), []⟩ <|
      .nil)) (
    .ret)))

def model_Model_Held_hs : List (List Nat × List Nat) := []

end Wm.F
end

section
/- PRINTED by my tool (wip/wm/tool/Gen.lean): a function as one of my machine. -/
namespace Wm.F
open Wm
set_option maxRecDepth 100000

/-- 106: (*withy/model.Model).Node -/
def model_Model_Node : AFunc where
  closed := false
  nparams := 3
  ntmps := 26
  results := [.tmp 6]
  body := .seq (.ops (
      .op ⟨(some 6), .mov (.c (.int .i64 0)), []⟩ <|
      .nil)) (
    .seq (.seq (.ops (
      .op ⟨(some 9), .mov (.t 0), []⟩ <|
      .op ⟨(some 10), .mov (.t 1), []⟩ <|
      .op ⟨(some 11), .call 279 [(.t 9), (.t 10)], []⟩ <|
      .nil)) (
    .cond (.t 11) (.seq (.ops (
        .op ⟨(some 13), .mov (.t 0), []⟩ <|
        .op ⟨(some 14), .nilc (.t 13), []⟩ <|
        .op ⟨(some 15), .fieldA 7 (.t 14), []⟩ <|
        .op ⟨(some 16), .load1 (.t 15), []⟩ <|
        .op ⟨(some 17), .mov (.t 1), []⟩ <|
        .op ⟨(some 18), .indexA 1 (.t 16) (.t 17), []⟩ <|
        .op ⟨(some 19), .load1 (.t 18), []⟩ <|
        .op ⟨(some 20), .mov (.t 2), []⟩ <|
        .op ⟨(some 21), .lookup .int (.int .i64 0) true (.t 19) (.t 20), []⟩ <|
        .op ⟨(some 12), .mov (.t 21), []⟩ <|
        .op ⟨(some 22), .extract (.t 12) 0, []⟩ <|
        .op ⟨(some 23), .extract (.t 12) 1, []⟩ <|
        .op ⟨(some 7), .mov (.t 22), []⟩ <|
        .op ⟨(some 8), .mov (.t 23), []⟩ <|
        .nil)) (
      .seq (.ops (
        .op ⟨(some 24), .mov (.t 8), []⟩ <|
        .nil)) (
      .cond (.t 24) (.seq (.ops (
          .op ⟨(some 25), .mov (.t 7), []⟩ <|
          .op ⟨(some 6), .mov (.t 25), []⟩ <|
          .nil)) (
        .ret)) (.skip)))) (.skip))) (
    .seq (.ops (
      .op ⟨(some 6), .mov (.c (.int .i64 (-1))), []⟩ <|
      .nil)) (
    .ret)))

def model_Model_Node_hs : List (List Nat × List Nat) := []

end Wm.F
end

section
/- PRINTED by my tool (wip/wm/tool/Gen.lean): a function as one of my machine. -/
namespace Wm.F
open Wm
set_option maxRecDepth 100000

/-- 116: (*withy/model.Model).Field -/
def model_Model_Field : AFunc where
  closed := false
  nparams := 3
  ntmps := 48
  results := [.tmp 6]
  body := .seq (.ops (
      .op ⟨(some 6), .mov (.c (.int .i64 0)), []⟩ <|
      .nil)) (
    .seq (.seq (.ops (
      .op ⟨(some 7), .mov (.t 0), []⟩ <|
      .op ⟨(some 8), .eq false .ptr (.t 7) (.c .nilp), []⟩ <|
      .op ⟨(some 9), .mov (.t 8), []⟩ <|
      .grd 9 false [⟨(some 10), .mov (.t 1), []⟩,
          ⟨(some 11), .cmp .lss .i64 (.t 10) (.c (.int .i64 0)), []⟩] <|
      .op ⟨(some 12), .pick (.t 9) (.c (.bool true)) (.t 11), []⟩ <|
      .op ⟨(some 13), .mov (.t 12), []⟩ <|
      .grd 13 false [⟨(some 14), .mov (.t 1), []⟩,
          ⟨(some 15), .mov (.t 0), []⟩,
          ⟨(some 16), .nilc (.t 15), []⟩,
          ⟨(some 17), .fieldA 6 (.t 16), []⟩,
          ⟨(some 18), .load1 (.t 17), []⟩,
          ⟨(some 19), .lenSl (.t 18), []⟩,
          ⟨(some 20), .cmp .geq .i64 (.t 14) (.t 19), []⟩] <|
      .op ⟨(some 21), .pick (.t 13) (.c (.bool true)) (.t 20), []⟩ <|
      .op ⟨(some 22), .mov (.t 21), []⟩ <|
      .grd 22 false [⟨(some 23), .mov (.t 2), []⟩,
          ⟨(some 24), .cmp .lss .i64 (.t 23) (.c (.int .i64 0)), []⟩] <|
      .op ⟨(some 25), .pick (.t 22) (.c (.bool true)) (.t 24), []⟩ <|
      .op ⟨(some 26), .mov (.t 25), []⟩ <|
      .grd 26 false [⟨(some 27), .mov (.t 2), []⟩,
          ⟨(some 28), .mov (.t 0), []⟩,
          ⟨(some 29), .nilc (.t 28), []⟩,
          ⟨(some 30), .fieldA 6 (.t 29), []⟩,
          ⟨(some 31), .load1 (.t 30), []⟩,
          ⟨(some 32), .mov (.t 1), []⟩,
          ⟨(some 33), .indexA 1 (.t 31) (.t 32), []⟩,
          ⟨(some 34), .load1 (.t 33), []⟩,
          ⟨(some 35), .lenSl (.t 34), []⟩,
          ⟨(some 36), .cmp .geq .i64 (.t 27) (.t 35), []⟩] <|
      .op ⟨(some 37), .pick (.t 26) (.c (.bool true)) (.t 36), []⟩ <|
      .nil)) (
    .cond (.t 37) (.seq (.ops (
        .op ⟨(some 6), .mov (.c (.int .i64 (-1))), []⟩ <|
        .nil)) (
      .ret)) (.skip))) (
    .seq (.ops (
      .op ⟨(some 38), .mov (.t 0), []⟩ <|
      .op ⟨(some 39), .nilc (.t 38), []⟩ <|
      .op ⟨(some 40), .fieldA 6 (.t 39), []⟩ <|
      .op ⟨(some 41), .load1 (.t 40), []⟩ <|
      .op ⟨(some 42), .mov (.t 1), []⟩ <|
      .op ⟨(some 43), .indexA 1 (.t 41) (.t 42), []⟩ <|
      .op ⟨(some 44), .load1 (.t 43), []⟩ <|
      .op ⟨(some 45), .mov (.t 2), []⟩ <|
      .op ⟨(some 46), .indexA 1 (.t 44) (.t 45), []⟩ <|
      .op ⟨(some 47), .load1 (.t 46), []⟩ <|
      .op ⟨(some 6), .mov (.t 47), []⟩ <|
      .nil)) (
    .ret)))

def model_Model_Field_hs : List (List Nat × List Nat) := []

end Wm.F
end

section
/- PRINTED by my tool (wip/wm/tool/Gen.lean): a function as one of my machine. -/
namespace Wm.F
open Wm
set_option maxRecDepth 100000

/-- 376: withy/plan.between -/
def plan_between : AFunc where
  closed := true
  nparams := 3
  ntmps := 15
  results := [.tmp 6]
  body := .seq (.ops (
      .op ⟨(some 6), .mov (.c (.bool false)), []⟩ <|
      .nil)) (
    .seq (.ops (
      .op ⟨(some 7), .mov (.t 0), []⟩ <|
      .op ⟨(some 8), .mov (.t 1), []⟩ <|
      .op ⟨(some 9), .cmp .geq .i64 (.t 7) (.t 8), []⟩ <|
      .op ⟨(some 10), .mov (.t 9), []⟩ <|
      .grd 10 true [⟨(some 11), .mov (.t 0), []⟩,
          ⟨(some 12), .mov (.t 2), []⟩,
          ⟨(some 13), .cmp .leq .i64 (.t 11) (.t 12), []⟩] <|
      .op ⟨(some 14), .pick (.t 10) (.t 13) (.c (.bool false)), []⟩ <|
      .op ⟨(some 6), .mov (.t 14), []⟩ <|
      .nil)) (
    .ret))

def plan_between_hs : List (List Nat × List Nat) := []

end Wm.F
end

section
/- PRINTED by my tool (wip/wm/tool/Gen.lean): a function as one of my machine. -/
namespace Wm.F
open Wm
set_option maxRecDepth 100000

/-- 82: withy/op.Walk -/
def op_Walk : AFunc where
  closed := true
  nparams := 1
  ntmps := 9
  results := [.tmp 2]
  body := .seq (.ops (
      .op ⟨(some 2), .mov (.c (.bool false)), []⟩ <|
      .nil)) (
    .seq (.ops (
      .op ⟨(some 3), .mov (.t 0), []⟩ <|
      .op ⟨(some 4), .cmp .eql .i64 (.t 3) (.c (.int .i64 9)), []⟩ <|
      .op ⟨(some 5), .mov (.t 4), []⟩ <|
      .grd 5 false [⟨(some 6), .mov (.t 0), []⟩,
          ⟨(some 7), .cmp .eql .i64 (.t 6) (.c (.int .i64 10)), []⟩] <|
      .op ⟨(some 8), .pick (.t 5) (.c (.bool true)) (.t 7), []⟩ <|
      .op ⟨(some 2), .mov (.t 8), []⟩ <|
      .nil)) (
    .ret))

def op_Walk_hs : List (List Nat × List Nat) := []

end Wm.F
end

section
/- PRINTED by my tool (wip/wm/tool/Gen.lean): a function as one of my machine. -/
namespace Wm.F
open Wm
set_option maxRecDepth 100000

/-- 83: withy/op.Writes -/
def op_Writes : AFunc where
  closed := true
  nparams := 1
  ntmps := 9
  results := [.tmp 2]
  body := .seq (.ops (
      .op ⟨(some 2), .mov (.c (.bool false)), []⟩ <|
      .nil)) (
    .seq (.ops (
      .op ⟨(some 3), .mov (.t 0), []⟩ <|
      .op ⟨(some 4), .cmp .geq .i64 (.t 3) (.c (.int .i64 3)), []⟩ <|
      .op ⟨(some 5), .mov (.t 4), []⟩ <|
      .grd 5 true [⟨(some 6), .mov (.t 0), []⟩,
          ⟨(some 7), .cmp .leq .i64 (.t 6) (.c (.int .i64 5)), []⟩] <|
      .op ⟨(some 8), .pick (.t 5) (.t 7) (.c (.bool false)), []⟩ <|
      .op ⟨(some 2), .mov (.t 8), []⟩ <|
      .nil)) (
    .ret))

def op_Writes_hs : List (List Nat × List Nat) := []

end Wm.F
end

section
/- PRINTED by my tool (wip/wm/tool/Gen.lean): a function as one of my machine. -/
namespace Wm.F
open Wm
set_option maxRecDepth 100000

/-- 279: (*withy/model.Model).client -/
def model_Model_client : AFunc where
  closed := false
  nparams := 2
  ntmps := 20
  results := [.tmp 4]
  body := .seq (.ops (
      .op ⟨(some 4), .mov (.c (.bool false)), []⟩ <|
      .nil)) (
    .seq (.ops (
      .op ⟨(some 5), .mov (.t 0), []⟩ <|
      .op ⟨(some 6), .eq true .ptr (.t 5) (.c .nilp), []⟩ <|
      .op ⟨(some 7), .mov (.t 6), []⟩ <|
      .grd 7 true [⟨(some 8), .mov (.t 1), []⟩,
          ⟨(some 9), .cmp .geq .i64 (.t 8) (.c (.int .i64 0)), []⟩] <|
      .op ⟨(some 10), .pick (.t 7) (.t 9) (.c (.bool false)), []⟩ <|
      .op ⟨(some 11), .mov (.t 10), []⟩ <|
      .grd 11 true [⟨(some 12), .mov (.t 1), []⟩,
          ⟨(some 13), .mov (.t 0), []⟩,
          ⟨(some 14), .nilc (.t 13), []⟩,
          ⟨(some 15), .fieldA 0 (.t 14), []⟩,
          ⟨(some 16), .fieldA 2 (.t 15), []⟩,
          ⟨(some 17), .load1 (.t 16), []⟩,
          ⟨(some 18), .cmp .lss .i64 (.t 12) (.t 17), []⟩] <|
      .op ⟨(some 19), .pick (.t 11) (.t 18) (.c (.bool false)), []⟩ <|
      .op ⟨(some 4), .mov (.t 19), []⟩ <|
      .nil)) (
    .ret))

def model_Model_client_hs : List (List Nat × List Nat) := []

end Wm.F
end

section
/- PRINTED by my tool (wip/wm/tool/Gen.lean): a function as one of my machine. -/
namespace Wm.F
open Wm
set_option maxRecDepth 100000

/-- 280: (*withy/model.Model).makes -/
def model_Model_makes : AFunc where
  closed := false
  nparams := 3
  ntmps := 31
  results := [.tmp 6]
  body := .seq (.ops (
      .op ⟨(some 5), .box (.t 2), []⟩ <|
      .op ⟨(some 6), .mov (.c (.int .i64 0)), []⟩ <|
      .nil)) (
    .seq (.block 0 (.seq (.ops (
      .op ⟨(some 8), .fieldA 1 (.t 5), []⟩ <|
      .op ⟨(some 9), .load1 (.t 8), []⟩ <|
      .op ⟨(some 10), .cmp .lss .i64 (.t 9) (.c (.int .i64 0)), []⟩ <|
      .op ⟨(some 11), .mov (.t 10), []⟩ <|
      .grd 11 false [⟨(some 12), .fieldA 1 (.t 5), []⟩,
          ⟨(some 13), .load1 (.t 12), []⟩,
          ⟨(some 14), .mov (.t 0), []⟩,
          ⟨(some 15), .nilc (.t 14), []⟩,
          ⟨(some 16), .fieldA 0 (.t 15), []⟩,
          ⟨(some 17), .fieldA 1 (.t 16), []⟩,
          ⟨(some 18), .load1 (.t 17), []⟩,
          ⟨(some 19), .cmp .gtr .i64 (.t 13) (.t 18), []⟩] <|
      .op ⟨(some 20), .pick (.t 11) (.c (.bool true)) (.t 19), []⟩ <|
      .op ⟨(some 7), .mov (.t 20), []⟩ <|
      .nil)) (
    .cond (.t 7) (.seq (.ops (
        .op ⟨(some 6), .mov (.c (.int .i64 1)), []⟩ <|
        .nil)) (
      .ret)) (.seq (.ops (
        .op ⟨(some 22), .mov (.t 0), []⟩ <|
        .op ⟨(some 23), .mov (.t 1), []⟩ <|
        .op ⟨(some 25), .mov (.t 0), []⟩ <|
        .op ⟨(some 26), .nilc (.t 25), []⟩ <|
        .op ⟨(some 27), .fieldA 0 (.t 26), []⟩ <|
        .op ⟨(some 28), .fieldA 3 (.t 27), []⟩ <|
        .op ⟨(some 29), .load1 (.t 28), []⟩ <|
        .op ⟨(some 24), .call 105 [(.t 22), (.t 23)], [{ g := none, op := .load1 (.t 28), d := 29 }]⟩ <|
        .op ⟨(some 30), .cmp .geq .i64 (.t 24) (.t 29), []⟩ <|
        .op ⟨(some 21), .mov (.t 30), []⟩ <|
        .nil)) (
      .cond (.t 21) (.seq (.ops (
          .op ⟨(some 6), .mov (.c (.int .i64 5)), []⟩ <|
          .nil)) (
        .ret)) (.skip)))))) (
    .seq (.ops (
      .op ⟨(some 6), .mov (.c (.int .i64 0)), []⟩ <|
      .nil)) (
    .ret)))

def model_Model_makes_hs : List (List Nat × List Nat) := []

end Wm.F
end

section
/- PRINTED by my tool (wip/wm/tool/Gen.lean): a function as one of my machine. -/
namespace Wm.F
open Wm
set_option maxRecDepth 100000

/-- 281: (*withy/model.Model).goes -/
def model_Model_goes : AFunc where
  closed := false
  nparams := 3
  ntmps := 45
  results := [.tmp 6]
  body := .seq (.ops (
      .op ⟨(some 5), .box (.t 2), []⟩ <|
      .op ⟨(some 6), .mov (.c (.int .i64 0)), []⟩ <|
      .nil)) (
    .seq (.ops (
      .op ⟨(some 8), .mov (.t 0), []⟩ <|
      .op ⟨(some 9), .nilc (.t 8), []⟩ <|
      .op ⟨(some 10), .fieldA 8 (.t 9), []⟩ <|
      .op ⟨(some 11), .load1 (.t 10), []⟩ <|
      .op ⟨(some 12), .mov (.t 1), []⟩ <|
      .op ⟨(some 13), .indexA 2 (.t 11) (.t 12), []⟩ <|
      .op ⟨(some 14), .loadN 2 (.t 13), []⟩ <|
      .op ⟨(some 7), .alloc [(.int .u64 0), .nilsl], []⟩ <|
      .op ⟨none, .store 2 (.t 7) (.t 14), []⟩ <|
      .nil)) (
    .seq (.block 0 (.seq (.ops (
      .op ⟨(some 16), .fieldA 2 (.t 5), []⟩ <|
      .op ⟨(some 17), .load1 (.t 16), []⟩ <|
      .op ⟨(some 18), .cmp .eql .u64 (.t 17) (.c (.int .u64 0)), []⟩ <|
      .op ⟨(some 19), .mov (.t 18), []⟩ <|
      .grd 19 false [⟨(some 20), .fieldA 0 (.t 7), []⟩,
          ⟨(some 21), .load1 (.t 20), []⟩,
          ⟨(some 22), .fieldA 2 (.t 5), []⟩,
          ⟨(some 23), .load1 (.t 22), []⟩,
          ⟨(some 24), .cmp .neq .u64 (.t 21) (.t 23), []⟩] <|
      .op ⟨(some 25), .pick (.t 19) (.c (.bool true)) (.t 24), []⟩ <|
      .op ⟨(some 15), .mov (.t 25), []⟩ <|
      .nil)) (
    .cond (.t 15) (.seq (.ops (
        .op ⟨(some 6), .mov (.c (.int .i64 6)), []⟩ <|
        .nil)) (
      .ret)) (.seq (.ops (
        .op ⟨(some 27), .fieldA 0 (.t 5), []⟩ <|
        .op ⟨(some 28), .load1 (.t 27), []⟩ <|
        .op ⟨(some 29), .cmp .eql .i64 (.t 28) (.c (.int .i64 10)), []⟩ <|
        .op ⟨(some 26), .mov (.t 29), []⟩ <|
        .nil)) (
      .cond (.t 26) (.seq (.ops (
          .op ⟨(some 6), .mov (.c (.int .i64 0)), []⟩ <|
          .nil)) (
        .ret)) (.seq (.ops (
          .op ⟨(some 31), .fieldA 1 (.t 7), []⟩ <|
          .op ⟨(some 32), .load1 (.t 31), []⟩ <|
          .op ⟨(some 33), .lenSl (.t 32), []⟩ <|
          .op ⟨(some 34), .cmp .eql .i64 (.t 33) (.c (.int .i64 0)), []⟩ <|
          .op ⟨(some 30), .mov (.t 34), []⟩ <|
          .nil)) (
        .cond (.t 30) (.seq (.ops (
            .op ⟨(some 6), .mov (.c (.int .i64 6)), []⟩ <|
            .nil)) (
          .ret)) (.seq (.ops (
            .op ⟨(some 36), .mov (.t 0), []⟩ <|
            .op ⟨(some 37), .mov (.t 1), []⟩ <|
            .op ⟨(some 39), .mov (.t 0), []⟩ <|
            .op ⟨(some 40), .nilc (.t 39), []⟩ <|
            .op ⟨(some 41), .fieldA 0 (.t 40), []⟩ <|
            .op ⟨(some 42), .fieldA 3 (.t 41), []⟩ <|
            .op ⟨(some 43), .load1 (.t 42), []⟩ <|
            .op ⟨(some 38), .call 105 [(.t 36), (.t 37)], [{ g := none, op := .load1 (.t 42), d := 43 }]⟩ <|
            .op ⟨(some 44), .cmp .geq .i64 (.t 38) (.t 43), []⟩ <|
            .op ⟨(some 35), .mov (.t 44), []⟩ <|
            .nil)) (
          .cond (.t 35) (.seq (.ops (
              .op ⟨(some 6), .mov (.c (.int .i64 5)), []⟩ <|
              .nil)) (
            .ret)) (.skip)))))))))) (
    .seq (.ops (
      .op ⟨(some 6), .mov (.c (.int .i64 0)), []⟩ <|
      .nil)) (
    .ret))))

def model_Model_goes_hs : List (List Nat × List Nat) := []

end Wm.F
end

section
/- PRINTED by my tool (wip/wm/tool/Gen.lean): a function as one of my machine. -/
namespace Wm.F
open Wm
set_option maxRecDepth 100000

/-- 282: (*withy/model.Model).asks -/
def model_Model_asks : AFunc where
  closed := false
  nparams := 3
  ntmps := 133
  results := [.tmp 6]
  body := .seq (.ops (
      .op ⟨(some 5), .box (.t 2), []⟩ <|
      .op ⟨(some 6), .mov (.c (.int .i64 0)), []⟩ <|
      .nil)) (
    .seq (.ops (
      .op ⟨(some 9), .mov (.t 0), []⟩ <|
      .op ⟨(some 10), .mov (.t 1), []⟩ <|
      .op ⟨(some 11), .fieldA 2 (.t 5), []⟩ <|
      .op ⟨(some 12), .load1 (.t 11), []⟩ <|
      .op ⟨(some 13), .call 106 [(.t 9), (.t 10), (.t 12)], []⟩ <|
      .op ⟨(some 7), .mov (.t 13), []⟩ <|
      .nil)) (
    .seq (.ops (
      .op ⟨(some 14), .mov (.t 7), []⟩ <|
      .op ⟨(some 15), .cmp .geq .i64 (.t 14) (.c (.int .i64 0)), []⟩ <|
      .op ⟨(some 8), .mov (.t 15), []⟩ <|
      .nil)) (
    .seq (.seq (.ops (
      .op ⟨(some 16), .fieldA 0 (.t 5), []⟩ <|
      .op ⟨(some 17), .load1 (.t 16), []⟩ <|
      .nil)) (
    .block 0 (.seq (.seq (.ops (
      .op ⟨(some 19), .cmp .eql .i64 (.t 17) (.c (.int .i64 3)), []⟩ <|
      .op ⟨(some 18), .mov (.t 19), []⟩ <|
      .nil)) (
    .cond (.t 18) (.skip) (.ops (
        .op ⟨(some 20), .cmp .eql .i64 (.t 17) (.c (.int .i64 7)), []⟩ <|
        .op ⟨(some 18), .mov (.t 20), []⟩ <|
        .nil)))) (
    .cond (.t 18) (.ops (
        .op ⟨(some 21), .mov (.t 8), []⟩ <|
        .op ⟨(some 22), .mov (.t 21), []⟩ <|
        .grd 22 true [⟨(some 23), .mov (.t 0), []⟩,
            ⟨(some 24), .mov (.t 1), []⟩,
            ⟨(some 25), .fieldA 3 (.t 5), []⟩,
            ⟨(some 26), .load1 (.t 25), []⟩,
            ⟨(some 27), .call 106 [(.t 23), (.t 24), (.t 26)], []⟩,
            ⟨(some 28), .cmp .geq .i64 (.t 27) (.c (.int .i64 0)), []⟩] <|
        .op ⟨(some 29), .pick (.t 22) (.t 28) (.c (.bool false)), []⟩ <|
        .op ⟨(some 8), .mov (.t 29), []⟩ <|
        .nil)) (.seq (.ops (
        .op ⟨(some 31), .cmp .eql .i64 (.t 17) (.c (.int .i64 5)), []⟩ <|
        .op ⟨(some 30), .mov (.t 31), []⟩ <|
        .nil)) (
      .cond (.t 30) (.ops (
          .op ⟨(some 32), .mov (.t 8), []⟩ <|
          .op ⟨(some 33), .mov (.t 32), []⟩ <|
          .grd 33 true [⟨(some 34), .fieldA 3 (.t 5), []⟩,
              ⟨(some 35), .load1 (.t 34), []⟩,
              ⟨(some 36), .cmp .eql .u64 (.t 35) (.c (.int .u64 0)), []⟩,
              ⟨(some 37), .mov (.t 36), []⟩] <|
          .grd 37 false [⟨(some 38), .mov (.t 0), []⟩,
              ⟨(some 39), .mov (.t 1), []⟩,
              ⟨(some 40), .fieldA 3 (.t 5), []⟩,
              ⟨(some 41), .load1 (.t 40), []⟩,
              ⟨(some 42), .call 106 [(.t 38), (.t 39), (.t 41)], []⟩,
              ⟨(some 43), .cmp .geq .i64 (.t 42) (.c (.int .i64 0)), []⟩] <|
          .grd 33 true [⟨(some 44), .pick (.t 37) (.c (.bool true)) (.t 43), []⟩] <|
          .op ⟨(some 45), .pick (.t 33) (.t 44) (.c (.bool false)), []⟩ <|
          .op ⟨(some 46), .mov (.t 45), []⟩ <|
          .grd 46 true [⟨(some 47), .fieldA 4 (.t 5), []⟩,
              ⟨(some 48), .load1 (.t 47), []⟩,
              ⟨(some 49), .cmp .eql .u64 (.t 48) (.c (.int .u64 0)), []⟩,
              ⟨(some 50), .mov (.t 49), []⟩] <|
          .grd 50 false [⟨(some 51), .mov (.t 0), []⟩,
              ⟨(some 52), .mov (.t 1), []⟩,
              ⟨(some 53), .fieldA 4 (.t 5), []⟩,
              ⟨(some 54), .load1 (.t 53), []⟩,
              ⟨(some 55), .call 106 [(.t 51), (.t 52), (.t 54)], []⟩,
              ⟨(some 56), .cmp .geq .i64 (.t 55) (.c (.int .i64 0)), []⟩] <|
          .grd 46 true [⟨(some 57), .pick (.t 50) (.c (.bool true)) (.t 56), []⟩] <|
          .op ⟨(some 58), .pick (.t 46) (.t 57) (.c (.bool false)), []⟩ <|
          .op ⟨(some 8), .mov (.t 58), []⟩ <|
          .nil)) (.skip))))))) (
    .seq (.block 1 (.seq (.ops (
      .op ⟨(some 60), .mov (.t 8), []⟩ <|
      .op ⟨(some 61), .not (.t 60), []⟩ <|
      .op ⟨(some 59), .mov (.t 61), []⟩ <|
      .nil)) (
    .cond (.t 59) (.seq (.ops (
        .op ⟨(some 6), .mov (.c (.int .i64 2)), []⟩ <|
        .nil)) (
      .ret)) (.seq (.ops (
        .op ⟨(some 63), .fieldA 0 (.t 5), []⟩ <|
        .op ⟨(some 64), .load1 (.t 63), []⟩ <|
        .op ⟨(some 65), .cmp .eql .i64 (.t 64) (.c (.int .i64 2)), []⟩ <|
        .op ⟨(some 66), .mov (.t 65), []⟩ <|
        .grd 66 false [⟨(some 67), .fieldA 0 (.t 5), []⟩,
            ⟨(some 68), .load1 (.t 67), []⟩,
            ⟨(some 69), .call 83 [(.t 68)], []⟩] <|
        .op ⟨(some 70), .pick (.t 66) (.c (.bool true)) (.t 69), []⟩ <|
        .op ⟨(some 71), .mov (.t 70), []⟩ <|
        .grd 71 true [⟨(some 72), .fieldA 1 (.t 5), []⟩,
            ⟨(some 73), .load1 (.t 72), []⟩,
            ⟨(some 74), .cmp .lss .i64 (.t 73) (.c (.int .i64 0)), []⟩,
            ⟨(some 75), .mov (.t 74), []⟩] <|
        .grd 75 false [⟨(some 76), .fieldA 1 (.t 5), []⟩,
            ⟨(some 77), .load1 (.t 76), []⟩,
            ⟨(some 78), .mov (.t 0), []⟩,
            ⟨(some 79), .nilc (.t 78), []⟩,
            ⟨(some 80), .fieldA 6 (.t 79), []⟩,
            ⟨(some 81), .load1 (.t 80), []⟩,
            ⟨(some 82), .mov (.t 7), []⟩,
            ⟨(some 83), .indexA 1 (.t 81) (.t 82), []⟩,
            ⟨(some 84), .load1 (.t 83), []⟩,
            ⟨(some 85), .lenSl (.t 84), []⟩,
            ⟨(some 86), .cmp .geq .i64 (.t 77) (.t 85), []⟩] <|
        .grd 71 true [⟨(some 87), .pick (.t 75) (.c (.bool true)) (.t 86), []⟩] <|
        .op ⟨(some 88), .pick (.t 71) (.t 87) (.c (.bool false)), []⟩ <|
        .op ⟨(some 62), .mov (.t 88), []⟩ <|
        .nil)) (
      .cond (.t 62) (.seq (.ops (
          .op ⟨(some 6), .mov (.c (.int .i64 3)), []⟩ <|
          .nil)) (
        .ret)) (.seq (.ops (
          .op ⟨(some 90), .fieldA 0 (.t 5), []⟩ <|
          .op ⟨(some 91), .load1 (.t 90), []⟩ <|
          .op ⟨(some 92), .cmp .eql .i64 (.t 91) (.c (.int .i64 2)), []⟩ <|
          .op ⟨(some 93), .mov (.t 92), []⟩ <|
          .grd 93 true [⟨(some 94), .mov (.t 0), []⟩,
              ⟨(some 95), .nilc (.t 94), []⟩,
              ⟨(some 96), .fieldA 6 (.t 95), []⟩,
              ⟨(some 97), .load1 (.t 96), []⟩,
              ⟨(some 98), .mov (.t 7), []⟩,
              ⟨(some 99), .indexA 1 (.t 97) (.t 98), []⟩,
              ⟨(some 100), .load1 (.t 99), []⟩,
              ⟨(some 101), .fieldA 1 (.t 5), []⟩,
              ⟨(some 102), .load1 (.t 101), []⟩,
              ⟨(some 103), .indexA 1 (.t 100) (.t 102), []⟩,
              ⟨(some 104), .load1 (.t 103), []⟩,
              ⟨(some 105), .cmp .geq .i64 (.t 104) (.c (.int .i64 0)), []⟩] <|
          .op ⟨(some 106), .pick (.t 93) (.t 105) (.c (.bool false)), []⟩ <|
          .op ⟨(some 107), .mov (.t 106), []⟩ <|
          .grd 107 true [⟨(some 108), .mov (.t 0), []⟩,
              ⟨(some 109), .mov (.t 1), []⟩,
              ⟨(some 111), .mov (.t 0), []⟩,
              ⟨(some 112), .nilc (.t 111), []⟩,
              ⟨(some 113), .fieldA 0 (.t 112), []⟩,
              ⟨(some 114), .fieldA 3 (.t 113), []⟩,
              ⟨(some 115), .load1 (.t 114), []⟩,
              ⟨(some 110), .call 105 [(.t 108), (.t 109)], [{ g := (some (107, true)), op := .load1 (.t 114), d := 115 }]⟩,
              ⟨(some 116), .cmp .geq .i64 (.t 110) (.t 115), []⟩] <|
          .op ⟨(some 117), .pick (.t 107) (.t 116) (.c (.bool false)), []⟩ <|
          .op ⟨(some 89), .mov (.t 117), []⟩ <|
          .nil)) (
        .cond (.t 89) (.seq (.ops (
            .op ⟨(some 6), .mov (.c (.int .i64 5)), []⟩ <|
            .nil)) (
          .ret)) (.seq (.ops (
            .op ⟨(some 119), .fieldA 0 (.t 5), []⟩ <|
            .op ⟨(some 120), .load1 (.t 119), []⟩ <|
            .op ⟨(some 121), .cmp .eql .i64 (.t 120) (.c (.int .i64 8)), []⟩ <|
            .op ⟨(some 122), .mov (.t 121), []⟩ <|
            .grd 122 true [⟨(some 123), .mov (.t 0), []⟩,
                ⟨(some 124), .nilc (.t 123), []⟩,
                ⟨(some 125), .fieldA 8 (.t 124), []⟩,
                ⟨(some 126), .load1 (.t 125), []⟩,
                ⟨(some 127), .mov (.t 1), []⟩,
                ⟨(some 128), .indexA 2 (.t 126) (.t 127), []⟩,
                ⟨(some 129), .fieldA 0 (.t 128), []⟩,
                ⟨(some 130), .load1 (.t 129), []⟩,
                ⟨(some 131), .cmp .neq .u64 (.t 130) (.c (.int .u64 0)), []⟩] <|
            .op ⟨(some 132), .pick (.t 122) (.t 131) (.c (.bool false)), []⟩ <|
            .op ⟨(some 118), .mov (.t 132), []⟩ <|
            .nil)) (
          .cond (.t 118) (.seq (.ops (
              .op ⟨(some 6), .mov (.c (.int .i64 7)), []⟩ <|
              .nil)) (
            .ret)) (.skip)))))))))) (
    .seq (.ops (
      .op ⟨(some 6), .mov (.c (.int .i64 0)), []⟩ <|
      .nil)) (
    .ret))))))

def model_Model_asks_hs : List (List Nat × List Nat) := []

end Wm.F
end

section
/- PRINTED by my tool (wip/wm/tool/Gen.lean): a function as one of my machine. -/
namespace Wm.F
open Wm
set_option maxRecDepth 100000

/-- 283: (*withy/model.Model).matches -/
def model_Model_matches : AFunc where
  closed := false
  nparams := 3
  ntmps := 22
  results := [.tmp 6]
  body := .seq (.ops (
      .op ⟨(some 5), .box (.t 2), []⟩ <|
      .op ⟨(some 6), .mov (.c (.bool false)), []⟩ <|
      .nil)) (
    .seq (.ops (
      .op ⟨(some 7), .mov (.t 0), []⟩ <|
      .op ⟨(some 8), .mov (.t 0), []⟩ <|
      .op ⟨(some 9), .mov (.t 1), []⟩ <|
      .op ⟨(some 10), .fieldA 2 (.t 5), []⟩ <|
      .op ⟨(some 11), .load1 (.t 10), []⟩ <|
      .op ⟨(some 13), .fieldA 1 (.t 5), []⟩ <|
      .op ⟨(some 14), .load1 (.t 13), []⟩ <|
      .op ⟨(some 16), .mov (.t 0), []⟩ <|
      .op ⟨(some 17), .mov (.t 1), []⟩ <|
      .op ⟨(some 18), .fieldA 4 (.t 5), []⟩ <|
      .op ⟨(some 19), .load1 (.t 18), []⟩ <|
      .op ⟨(some 12), .call 106 [(.t 8), (.t 9), (.t 11)], [{ g := none, op := .load1 (.t 18), d := 19 }, { g := none, op := .load1 (.t 13), d := 14 }]⟩ <|
      .op ⟨(some 15), .call 116 [(.t 7), (.t 12), (.t 14)], [{ g := none, op := .load1 (.t 18), d := 19 }]⟩ <|
      .op ⟨(some 20), .call 106 [(.t 16), (.t 17), (.t 19)], []⟩ <|
      .op ⟨(some 21), .cmp .eql .i64 (.t 15) (.t 20), []⟩ <|
      .op ⟨(some 6), .mov (.t 21), []⟩ <|
      .nil)) (
    .ret))

def model_Model_matches_hs : List (List Nat × List Nat) := []

end Wm.F
end

section
/- PRINTED by my tool (wip/wm/tool/Gen.lean): a function as one of my machine. -/
namespace Wm.F
open Wm
set_option maxRecDepth 100000

/-- 284: (*withy/model.Model).done -/
def model_Model_done : AFunc where
  closed := false
  nparams := 4
  ntmps := 242
  results := [.tmp 8]
  body := .seq (.ops (
      .op ⟨(some 6), .box (.t 2), []⟩ <|
      .op ⟨(some 7), .box (.t 3), []⟩ <|
      .op ⟨(some 8), .mov (.c (.bool false)), []⟩ <|
      .nil)) (
    .seq (.ops (
      .op ⟨(some 12), .mov (.t 0), []⟩ <|
      .op ⟨(some 13), .mov (.t 1), []⟩ <|
      .op ⟨(some 14), .fieldA 2 (.t 6), []⟩ <|
      .op ⟨(some 15), .load1 (.t 14), []⟩ <|
      .op ⟨(some 16), .call 106 [(.t 12), (.t 13), (.t 15)], []⟩ <|
      .op ⟨(some 9), .mov (.t 16), []⟩ <|
      .nil)) (
    .seq (.ops (
      .op ⟨(some 10), .mov (.c (.bool false)), []⟩ <|
      .op ⟨(some 11), .mov (.c (.bool false)), []⟩ <|
      .nil)) (
    .seq (.seq (.ops (
      .op ⟨(some 17), .fieldA 0 (.t 6), []⟩ <|
      .op ⟨(some 18), .load1 (.t 17), []⟩ <|
      .nil)) (
    .block 0 (.seq (.seq (.ops (
      .op ⟨(some 20), .cmp .eql .i64 (.t 18) (.c (.int .i64 1)), []⟩ <|
      .op ⟨(some 19), .mov (.t 20), []⟩ <|
      .nil)) (
    .cond (.t 19) (.skip) (.seq (.ops (
        .op ⟨(some 21), .cmp .eql .i64 (.t 18) (.c (.int .i64 8)), []⟩ <|
        .op ⟨(some 19), .mov (.t 21), []⟩ <|
        .nil)) (
      .cond (.t 19) (.skip) (.ops (
          .op ⟨(some 22), .cmp .eql .i64 (.t 18) (.c (.int .i64 9)), []⟩ <|
          .op ⟨(some 19), .mov (.t 22), []⟩ <|
          .nil)))))) (
    .cond (.t 19) (.ops (
        .op ⟨(some 10), .mov (.c (.bool true)), []⟩ <|
        .nil)) (.seq (.ops (
        .op ⟨(some 24), .cmp .eql .i64 (.t 18) (.c (.int .i64 2)), []⟩ <|
        .op ⟨(some 23), .mov (.t 24), []⟩ <|
        .nil)) (
      .cond (.t 23) (.ops (
          .op ⟨(some 25), .mov (.t 0), []⟩ <|
          .op ⟨(some 26), .nilc (.t 25), []⟩ <|
          .op ⟨(some 27), .fieldA 6 (.t 26), []⟩ <|
          .op ⟨(some 28), .load1 (.t 27), []⟩ <|
          .op ⟨(some 29), .mov (.t 9), []⟩ <|
          .op ⟨(some 30), .indexA 1 (.t 28) (.t 29), []⟩ <|
          .op ⟨(some 31), .load1 (.t 30), []⟩ <|
          .op ⟨(some 32), .fieldA 1 (.t 6), []⟩ <|
          .op ⟨(some 33), .load1 (.t 32), []⟩ <|
          .op ⟨(some 34), .indexA 1 (.t 31) (.t 33), []⟩ <|
          .op ⟨(some 35), .load1 (.t 34), []⟩ <|
          .op ⟨(some 36), .cmp .geq .i64 (.t 35) (.c (.int .i64 0)), []⟩ <|
          .op ⟨(some 10), .mov (.t 36), []⟩ <|
          .nil)) (.seq (.ops (
          .op ⟨(some 38), .cmp .eql .i64 (.t 18) (.c (.int .i64 5)), []⟩ <|
          .op ⟨(some 37), .mov (.t 38), []⟩ <|
          .nil)) (
        .cond (.t 37) (.ops (
            .op ⟨(some 39), .mov (.t 0), []⟩ <|
            .op ⟨(some 40), .mov (.t 1), []⟩ <|
            .op ⟨(some 41), .loadN 5 (.t 6), []⟩ <|
            .op ⟨(some 42), .call 283 [(.t 39), (.t 40), (.t 41)], []⟩ <|
            .op ⟨(some 11), .mov (.t 42), []⟩ <|
            .nil)) (.seq (.ops (
            .op ⟨(some 44), .cmp .eql .i64 (.t 18) (.c (.int .i64 7)), []⟩ <|
            .op ⟨(some 43), .mov (.t 44), []⟩ <|
            .nil)) (
          .cond (.t 43) (.ops (
              .op ⟨(some 45), .mov (.t 9), []⟩ <|
              .op ⟨(some 46), .mov (.t 0), []⟩ <|
              .op ⟨(some 47), .mov (.t 1), []⟩ <|
              .op ⟨(some 48), .fieldA 3 (.t 6), []⟩ <|
              .op ⟨(some 49), .load1 (.t 48), []⟩ <|
              .op ⟨(some 50), .call 106 [(.t 46), (.t 47), (.t 49)], []⟩ <|
              .op ⟨(some 51), .cmp .eql .i64 (.t 45) (.t 50), []⟩ <|
              .op ⟨(some 11), .mov (.t 51), []⟩ <|
              .nil)) (.skip))))))))))) (
    .seq (.seq (.ops (
      .op ⟨(some 52), .fieldA 2 (.t 7), []⟩ <|
      .op ⟨(some 53), .load1 (.t 52), []⟩ <|
      .op ⟨(some 54), .mov (.t 11), []⟩ <|
      .op ⟨(some 55), .eq true .bool (.t 53) (.t 54), []⟩ <|
      .op ⟨(some 56), .mov (.t 55), []⟩ <|
      .grd 56 false [⟨(some 57), .mov (.t 10), []⟩,
          ⟨(some 58), .mov (.t 57), []⟩] <|
      .grd 58 true [⟨(some 59), .mov (.t 0), []⟩,
          ⟨(some 60), .fieldA 1 (.t 7), []⟩,
          ⟨(some 61), .load1 (.t 60), []⟩,
          ⟨(some 62), .call 383 [(.t 59), (.t 61)], []⟩,
          ⟨(some 63), .not (.t 62), []⟩] <|
      .grd 56 false [⟨(some 64), .pick (.t 58) (.t 63) (.c (.bool false)), []⟩] <|
      .op ⟨(some 65), .pick (.t 56) (.c (.bool true)) (.t 64), []⟩ <|
      .op ⟨(some 66), .mov (.t 65), []⟩ <|
      .grd 66 false [⟨(some 67), .mov (.t 10), []⟩,
          ⟨(some 68), .not (.t 67), []⟩,
          ⟨(some 69), .mov (.t 68), []⟩] <|
      .grd 69 true [⟨(some 70), .fieldA 1 (.t 7), []⟩,
          ⟨(some 71), .load1 (.t 70), []⟩,
          ⟨(some 72), .cmp .neq .u64 (.t 71) (.c (.int .u64 0)), []⟩] <|
      .grd 66 false [⟨(some 73), .pick (.t 69) (.t 72) (.c (.bool false)), []⟩] <|
      .op ⟨(some 74), .pick (.t 66) (.c (.bool true)) (.t 73), []⟩ <|
      .nil)) (
    .cond (.t 74) (.seq (.ops (
        .op ⟨(some 8), .mov (.c (.bool false)), []⟩ <|
        .nil)) (
      .ret)) (.skip))) (
    .seq (.seq (.ops (
      .op ⟨(some 75), .fieldA 0 (.t 6), []⟩ <|
      .op ⟨(some 76), .load1 (.t 75), []⟩ <|
      .nil)) (
    .block 1 (.seq (.ops (
      .op ⟨(some 78), .cmp .eql .i64 (.t 76) (.c (.int .i64 1)), []⟩ <|
      .op ⟨(some 77), .mov (.t 78), []⟩ <|
      .nil)) (
    .cond (.t 77) (.seq (.ops (
        .op ⟨(some 79), .mov (.t 0), []⟩ <|
        .op ⟨(some 80), .mov (.t 0), []⟩ <|
        .op ⟨(some 81), .nilc (.t 80), []⟩ <|
        .op ⟨(some 82), .fieldA 6 (.t 81), []⟩ <|
        .op ⟨(some 83), .load1 (.t 82), []⟩ <|
        .op ⟨(some 85), .fieldA 1 (.t 6), []⟩ <|
        .op ⟨(some 86), .load1 (.t 85), []⟩ <|
        .op ⟨(some 84), .buildSl 1 1 [(.int .i64 0)] [(0, 1, (.c (.int .i64 (-1))))], []⟩ <|
        .op ⟨(some 87), .call 384 [(.t 84), (.t 86)], [{ g := none, op := .load1 (.t 82), d := 83 }]⟩ <|
        .op ⟨(some 88), .buildSl 1 1 [.nilsl] [(0, 1, (.t 87))], []⟩ <|
        .op ⟨(some 89), .append 1 24 (.t 83) (.t 88), []⟩ <|
        .op ⟨(some 90), .nilc (.t 79), []⟩ <|
        .op ⟨(some 91), .fieldA 6 (.t 90), []⟩ <|
        .op ⟨none, .store 1 (.t 91) (.t 89), []⟩ <|
        .nil)) (
      .ops (
        .op ⟨(some 92), .mov (.t 0), []⟩ <|
        .op ⟨(some 93), .mov (.t 1), []⟩ <|
        .op ⟨(some 94), .fieldA 1 (.t 7), []⟩ <|
        .op ⟨(some 95), .load1 (.t 94), []⟩ <|
        .op ⟨(some 96), .mov (.t 0), []⟩ <|
        .op ⟨(some 97), .nilc (.t 96), []⟩ <|
        .op ⟨(some 98), .fieldA 6 (.t 97), []⟩ <|
        .op ⟨(some 99), .load1 (.t 98), []⟩ <|
        .op ⟨(some 100), .lenSl (.t 99), []⟩ <|
        .op ⟨(some 101), .arith .sub .i64 (.t 100) (.c (.int .i64 1)), []⟩ <|
        .op ⟨(some 102), .call 385 [(.t 92), (.t 93), (.t 95), (.t 101)], []⟩ <|
        .nil))) (.seq (.ops (
        .op ⟨(some 104), .cmp .eql .i64 (.t 76) (.c (.int .i64 2)), []⟩ <|
        .op ⟨(some 103), .mov (.t 104), []⟩ <|
        .nil)) (
      .cond (.t 103) (.seq (.ops (
          .op ⟨(some 105), .mov (.t 10), []⟩ <|
          .nil)) (
        .cond (.t 105) (.ops (
            .op ⟨(some 106), .mov (.t 0), []⟩ <|
            .op ⟨(some 107), .mov (.t 1), []⟩ <|
            .op ⟨(some 108), .fieldA 1 (.t 7), []⟩ <|
            .op ⟨(some 109), .load1 (.t 108), []⟩ <|
            .op ⟨(some 110), .mov (.t 0), []⟩ <|
            .op ⟨(some 111), .nilc (.t 110), []⟩ <|
            .op ⟨(some 112), .fieldA 6 (.t 111), []⟩ <|
            .op ⟨(some 113), .load1 (.t 112), []⟩ <|
            .op ⟨(some 114), .mov (.t 9), []⟩ <|
            .op ⟨(some 115), .indexA 1 (.t 113) (.t 114), []⟩ <|
            .op ⟨(some 116), .load1 (.t 115), []⟩ <|
            .op ⟨(some 117), .fieldA 1 (.t 6), []⟩ <|
            .op ⟨(some 118), .load1 (.t 117), []⟩ <|
            .op ⟨(some 119), .indexA 1 (.t 116) (.t 118), []⟩ <|
            .op ⟨(some 120), .load1 (.t 119), []⟩ <|
            .op ⟨(some 121), .call 385 [(.t 106), (.t 107), (.t 109), (.t 120)], []⟩ <|
            .nil)) (.skip))) (.seq (.ops (
          .op ⟨(some 123), .cmp .eql .i64 (.t 76) (.c (.int .i64 3)), []⟩ <|
          .op ⟨(some 122), .mov (.t 123), []⟩ <|
          .nil)) (
        .cond (.t 122) (.ops (
            .op ⟨(some 124), .mov (.t 0), []⟩ <|
            .op ⟨(some 125), .nilc (.t 124), []⟩ <|
            .op ⟨(some 126), .fieldA 6 (.t 125), []⟩ <|
            .op ⟨(some 127), .load1 (.t 126), []⟩ <|
            .op ⟨(some 128), .mov (.t 9), []⟩ <|
            .op ⟨(some 129), .indexA 1 (.t 127) (.t 128), []⟩ <|
            .op ⟨(some 130), .load1 (.t 129), []⟩ <|
            .op ⟨(some 131), .fieldA 1 (.t 6), []⟩ <|
            .op ⟨(some 132), .load1 (.t 131), []⟩ <|
            .op ⟨(some 133), .mov (.t 0), []⟩ <|
            .op ⟨(some 134), .mov (.t 1), []⟩ <|
            .op ⟨(some 135), .fieldA 3 (.t 6), []⟩ <|
            .op ⟨(some 136), .load1 (.t 135), []⟩ <|
            .op ⟨(some 137), .call 106 [(.t 133), (.t 134), (.t 136)], [{ g := none, op := .load1 (.t 131), d := 132 }, { g := none, op := .load1 (.t 129), d := 130 }, { g := none, op := .load1 (.t 126), d := 127 }]⟩ <|
            .op ⟨(some 138), .indexA 1 (.t 130) (.t 132), []⟩ <|
            .op ⟨none, .store 1 (.t 138) (.t 137), []⟩ <|
            .nil)) (.seq (.ops (
            .op ⟨(some 140), .cmp .eql .i64 (.t 76) (.c (.int .i64 4)), []⟩ <|
            .op ⟨(some 139), .mov (.t 140), []⟩ <|
            .nil)) (
          .cond (.t 139) (.ops (
              .op ⟨(some 141), .mov (.t 0), []⟩ <|
              .op ⟨(some 142), .nilc (.t 141), []⟩ <|
              .op ⟨(some 143), .fieldA 6 (.t 142), []⟩ <|
              .op ⟨(some 144), .load1 (.t 143), []⟩ <|
              .op ⟨(some 145), .mov (.t 9), []⟩ <|
              .op ⟨(some 146), .indexA 1 (.t 144) (.t 145), []⟩ <|
              .op ⟨(some 147), .load1 (.t 146), []⟩ <|
              .op ⟨(some 148), .fieldA 1 (.t 6), []⟩ <|
              .op ⟨(some 149), .load1 (.t 148), []⟩ <|
              .op ⟨(some 150), .indexA 1 (.t 147) (.t 149), []⟩ <|
              .op ⟨none, .store 1 (.t 150) (.c (.int .i64 (-1))), []⟩ <|
              .nil)) (.seq (.ops (
              .op ⟨(some 152), .cmp .eql .i64 (.t 76) (.c (.int .i64 5)), []⟩ <|
              .op ⟨(some 151), .mov (.t 152), []⟩ <|
              .nil)) (
            .cond (.t 151) (.seq (.ops (
                .op ⟨(some 153), .mov (.t 11), []⟩ <|
                .nil)) (
              .cond (.t 153) (.ops (
                  .op ⟨(some 154), .mov (.t 0), []⟩ <|
                  .op ⟨(some 155), .nilc (.t 154), []⟩ <|
                  .op ⟨(some 156), .fieldA 6 (.t 155), []⟩ <|
                  .op ⟨(some 157), .load1 (.t 156), []⟩ <|
                  .op ⟨(some 158), .mov (.t 9), []⟩ <|
                  .op ⟨(some 159), .indexA 1 (.t 157) (.t 158), []⟩ <|
                  .op ⟨(some 160), .load1 (.t 159), []⟩ <|
                  .op ⟨(some 161), .fieldA 1 (.t 6), []⟩ <|
                  .op ⟨(some 162), .load1 (.t 161), []⟩ <|
                  .op ⟨(some 163), .mov (.t 0), []⟩ <|
                  .op ⟨(some 164), .mov (.t 1), []⟩ <|
                  .op ⟨(some 165), .fieldA 3 (.t 6), []⟩ <|
                  .op ⟨(some 166), .load1 (.t 165), []⟩ <|
                  .op ⟨(some 167), .call 106 [(.t 163), (.t 164), (.t 166)], [{ g := none, op := .load1 (.t 161), d := 162 }, { g := none, op := .load1 (.t 159), d := 160 }, { g := none, op := .load1 (.t 156), d := 157 }]⟩ <|
                  .op ⟨(some 168), .indexA 1 (.t 160) (.t 162), []⟩ <|
                  .op ⟨none, .store 1 (.t 168) (.t 167), []⟩ <|
                  .nil)) (.skip))) (.seq (.ops (
                .op ⟨(some 170), .cmp .eql .i64 (.t 76) (.c (.int .i64 6)), []⟩ <|
                .op ⟨(some 169), .mov (.t 170), []⟩ <|
                .nil)) (
              .cond (.t 169) (.ops (
                  .op ⟨(some 171), .mov (.t 0), []⟩ <|
                  .op ⟨(some 172), .nilc (.t 171), []⟩ <|
                  .op ⟨(some 173), .fieldA 7 (.t 172), []⟩ <|
                  .op ⟨(some 174), .load1 (.t 173), []⟩ <|
                  .op ⟨(some 175), .mov (.t 1), []⟩ <|
                  .op ⟨(some 176), .indexA 1 (.t 174) (.t 175), []⟩ <|
                  .op ⟨(some 177), .load1 (.t 176), []⟩ <|
                  .op ⟨(some 178), .fieldA 2 (.t 6), []⟩ <|
                  .op ⟨(some 179), .load1 (.t 178), []⟩ <|
                  .op ⟨none, .mapDel .int (.t 177) (.t 179), []⟩ <|
                  .nil)) (.seq (.ops (
                  .op ⟨(some 181), .cmp .eql .i64 (.t 76) (.c (.int .i64 8)), []⟩ <|
                  .op ⟨(some 180), .mov (.t 181), []⟩ <|
                  .nil)) (
                .cond (.t 180) (.seq (.ops (
                    .op ⟨(some 182), .mov (.t 0), []⟩ <|
                    .op ⟨(some 183), .nilc (.t 182), []⟩ <|
                    .op ⟨(some 184), .fieldA 9 (.t 183), []⟩ <|
                    .op ⟨(some 185), .load1 (.t 184), []⟩ <|
                    .op ⟨(some 186), .fieldA 1 (.t 7), []⟩ <|
                    .op ⟨(some 187), .load1 (.t 186), []⟩ <|
                    .op ⟨none, .mapSet .int (.t 185) (.t 187) (.c (.int .i64 1)), []⟩ <|
                    .nil)) (
                  .ops (
                    .op ⟨(some 188), .mov (.t 0), []⟩ <|
                    .op ⟨(some 189), .nilc (.t 188), []⟩ <|
                    .op ⟨(some 190), .fieldA 8 (.t 189), []⟩ <|
                    .op ⟨(some 191), .load1 (.t 190), []⟩ <|
                    .op ⟨(some 192), .mov (.t 1), []⟩ <|
                    .op ⟨(some 193), .fieldA 1 (.t 7), []⟩ <|
                    .op ⟨(some 194), .load1 (.t 193), []⟩ <|
                    .op ⟨(some 195), .mov (.t 0), []⟩ <|
                    .op ⟨(some 196), .mov (.t 9), []⟩ <|
                    .op ⟨(some 197), .call 386 [(.t 195), (.t 196)], [{ g := none, op := .load1 (.t 193), d := 194 }, { g := none, op := .load1 (.t 190), d := 191 }]⟩ <|
                    .op ⟨(some 198), .build [(.int .u64 0), .nilsl] [(0, 1, (.t 194)), (1, 1, (.t 197))], []⟩ <|
                    .op ⟨(some 199), .indexA 2 (.t 191) (.t 192), []⟩ <|
                    .op ⟨none, .store 2 (.t 199) (.t 198), []⟩ <|
                    .nil))) (.seq (.ops (
                    .op ⟨(some 201), .cmp .eql .i64 (.t 76) (.c (.int .i64 9)), []⟩ <|
                    .op ⟨(some 200), .mov (.t 201), []⟩ <|
                    .nil)) (
                  .cond (.t 200) (.seq (.ops (
                      .op ⟨(some 202), .mov (.t 0), []⟩ <|
                      .op ⟨(some 203), .mov (.t 1), []⟩ <|
                      .op ⟨(some 204), .fieldA 1 (.t 7), []⟩ <|
                      .op ⟨(some 205), .load1 (.t 204), []⟩ <|
                      .op ⟨(some 206), .mov (.t 0), []⟩ <|
                      .op ⟨(some 207), .nilc (.t 206), []⟩ <|
                      .op ⟨(some 208), .fieldA 8 (.t 207), []⟩ <|
                      .op ⟨(some 209), .load1 (.t 208), []⟩ <|
                      .op ⟨(some 210), .mov (.t 1), []⟩ <|
                      .op ⟨(some 211), .indexA 2 (.t 209) (.t 210), []⟩ <|
                      .op ⟨(some 212), .fieldA 1 (.t 211), []⟩ <|
                      .op ⟨(some 213), .load1 (.t 212), []⟩ <|
                      .op ⟨(some 214), .indexA 1 (.t 213) (.c (.int .i64 0)), []⟩ <|
                      .op ⟨(some 215), .load1 (.t 214), []⟩ <|
                      .op ⟨(some 216), .call 385 [(.t 202), (.t 203), (.t 205), (.t 215)], []⟩ <|
                      .nil)) (
                    .ops (
                      .op ⟨(some 217), .mov (.t 0), []⟩ <|
                      .op ⟨(some 218), .nilc (.t 217), []⟩ <|
                      .op ⟨(some 219), .fieldA 8 (.t 218), []⟩ <|
                      .op ⟨(some 220), .load1 (.t 219), []⟩ <|
                      .op ⟨(some 221), .mov (.t 1), []⟩ <|
                      .op ⟨(some 222), .mov (.t 0), []⟩ <|
                      .op ⟨(some 223), .nilc (.t 222), []⟩ <|
                      .op ⟨(some 224), .fieldA 8 (.t 223), []⟩ <|
                      .op ⟨(some 225), .load1 (.t 224), []⟩ <|
                      .op ⟨(some 226), .mov (.t 1), []⟩ <|
                      .op ⟨(some 227), .indexA 2 (.t 225) (.t 226), []⟩ <|
                      .op ⟨(some 228), .fieldA 1 (.t 227), []⟩ <|
                      .op ⟨(some 229), .load1 (.t 228), []⟩ <|
                      .op ⟨(some 230), .slice 1 (.t 229) (some (.c (.int .i64 1))) none none, []⟩ <|
                      .op ⟨(some 231), .indexA 2 (.t 220) (.t 221), []⟩ <|
                      .op ⟨(some 232), .fieldA 1 (.t 231), []⟩ <|
                      .op ⟨none, .store 1 (.t 232) (.t 230), []⟩ <|
                      .nil))) (.seq (.ops (
                      .op ⟨(some 234), .cmp .eql .i64 (.t 76) (.c (.int .i64 10)), []⟩ <|
                      .op ⟨(some 233), .mov (.t 234), []⟩ <|
                      .nil)) (
                    .cond (.t 233) (.ops (
                        .op ⟨(some 235), .mov (.t 0), []⟩ <|
                        .op ⟨(some 236), .nilc (.t 235), []⟩ <|
                        .op ⟨(some 237), .fieldA 8 (.t 236), []⟩ <|
                        .op ⟨(some 238), .load1 (.t 237), []⟩ <|
                        .op ⟨(some 239), .mov (.t 1), []⟩ <|
                        .op ⟨(some 240), .build [(.int .u64 0), .nilsl] [], []⟩ <|
                        .op ⟨(some 241), .indexA 2 (.t 238) (.t 239), []⟩ <|
                        .op ⟨none, .store 2 (.t 241) (.t 240), []⟩ <|
                        .nil)) (.skip))))))))))))))))))))) (
    .seq (.ops (
      .op ⟨(some 8), .mov (.c (.bool true)), []⟩ <|
      .nil)) (
    .ret)))))))

def model_Model_done_hs : List (List Nat × List Nat) := []

end Wm.F
end

section
/- PRINTED by my tool (wip/wm/tool/Gen.lean): a function as one of my machine. -/
namespace Wm.F
open Wm
set_option maxRecDepth 100000

/-- 383: (*withy/model.Model).fresh -/
def model_Model_fresh : AFunc where
  closed := false
  nparams := 2
  ntmps := 16
  results := [.tmp 4]
  body := .seq (.ops (
      .op ⟨(some 4), .mov (.c (.bool false)), []⟩ <|
      .nil)) (
    .seq (.ops (
      .op ⟨(some 5), .mov (.t 1), []⟩ <|
      .op ⟨(some 6), .cmp .neq .u64 (.t 5) (.c (.int .u64 0)), []⟩ <|
      .op ⟨(some 7), .mov (.t 6), []⟩ <|
      .grd 7 true [⟨(some 8), .mov (.t 0), []⟩,
          ⟨(some 9), .nilc (.t 8), []⟩,
          ⟨(some 10), .fieldA 9 (.t 9), []⟩,
          ⟨(some 11), .load1 (.t 10), []⟩,
          ⟨(some 12), .mov (.t 1), []⟩,
          ⟨(some 13), .lookup .int (.int .i64 0) false (.t 11) (.t 12), []⟩,
          ⟨(some 14), .cmp .eql .i64 (.t 13) (.c (.int .i64 0)), []⟩] <|
      .op ⟨(some 15), .pick (.t 7) (.t 14) (.c (.bool false)), []⟩ <|
      .op ⟨(some 4), .mov (.t 15), []⟩ <|
      .nil)) (
    .ret))

def model_Model_fresh_hs : List (List Nat × List Nat) := []

end Wm.F
end

section
/- PRINTED by my tool (wip/wm/tool/Gen.lean): a function as one of my machine. -/
namespace Wm.F
open Wm
set_option maxRecDepth 100000

def slices_Repeat___int_int__c1 : ACode :=
  .seq (.seq (.ops (
    .op ⟨(some 34), .mov (.t 8), []⟩ <|
    .op ⟨(some 35), .mov (.t 7), []⟩ <|
    .op ⟨(some 36), .lenSl (.t 35), []⟩ <|
    .op ⟨(some 37), .cmp .lss .i64 (.t 34) (.t 36), []⟩ <|
    .nil)) (
  .cond (.t 37) (.skip) (.exit 0))) (
  .block 1 (.ops (
    .op ⟨(some 38), .mov (.t 8), []⟩ <|
    .op ⟨(some 39), .mov (.t 7), []⟩ <|
    .op ⟨(some 40), .mov (.t 8), []⟩ <|
    .op ⟨(some 41), .slice 1 (.t 39) (some (.t 40)) none none, []⟩ <|
    .op ⟨(some 42), .mov (.t 7), []⟩ <|
    .op ⟨(some 43), .mov (.t 8), []⟩ <|
    .op ⟨(some 44), .slice 1 (.t 42) none (some (.t 43)) none, []⟩ <|
    .op ⟨(some 45), .copy 1 (.t 41) (.t 44), []⟩ <|
    .op ⟨(some 46), .arith .add .i64 (.t 38) (.t 45), []⟩ <|
    .op ⟨(some 8), .mov (.t 46), []⟩ <|
    .nil)))

def slices_Repeat___int_int__c0 : ACode :=
  .seq (.ops (
    .op ⟨(some 47), .mov (.t 7), []⟩ <|
    .op ⟨(some 4), .mov (.t 47), []⟩ <|
    .nil)) (
  .ret)

/-- 384: slices.Repeat[[]int,int] -/
def slices_Repeat___int_int_ : AFunc where
  closed := false
  nparams := 2
  ntmps := 48
  results := [.tmp 4]
  body := .seq (.ops (
      .op ⟨(some 4), .mov (.c .nilsl), []⟩ <|
      .nil)) (
    .seq (.seq (.ops (
      .op ⟨(some 9), .mov (.t 1), []⟩ <|
      .op ⟨(some 10), .cmp .lss .i64 (.t 9) (.c (.int .i64 0)), []⟩ <|
      .nil)) (
    .cond (.t 10) (.ops (
        .op ⟨(some 11), .mkIfc 9 (.c (.str ⟨⟨[99, 97, 110, 110, 111, 116, 32, 98, 101, 32, 110, 101, 103, 97, 116, 105, 118, 101]⟩⟩)), []⟩ <|
        .op ⟨none, .extract (.c (.tup [])) 0, []⟩ <|
        .nil)) (.skip))) (
    .seq (.ops (
      .op ⟨(some 13), .mov (.t 0), []⟩ <|
      .op ⟨(some 14), .lenSl (.t 13), []⟩ <|
      .op ⟨(some 15), .conv .u64 (.t 14), []⟩ <|
      .op ⟨(some 16), .mov (.t 1), []⟩ <|
      .op ⟨(some 17), .conv .u64 (.t 16), []⟩ <|
      .op ⟨(some 18), .call 445 [(.t 15), (.t 17)], []⟩ <|
      .op ⟨(some 12), .mov (.t 18), []⟩ <|
      .op ⟨(some 19), .extract (.t 12) 0, []⟩ <|
      .op ⟨(some 20), .extract (.t 12) 1, []⟩ <|
      .op ⟨(some 5), .mov (.t 19), []⟩ <|
      .op ⟨(some 6), .mov (.t 20), []⟩ <|
      .nil)) (
    .seq (.seq (.ops (
      .op ⟨(some 21), .mov (.t 5), []⟩ <|
      .op ⟨(some 22), .cmp .gtr .u64 (.t 21) (.c (.int .u64 0)), []⟩ <|
      .op ⟨(some 23), .mov (.t 22), []⟩ <|
      .grd 23 false [⟨(some 24), .mov (.t 6), []⟩,
          ⟨(some 25), .cmp .gtr .u64 (.t 24) (.c (.int .u64 9223372036854775807)), []⟩] <|
      .op ⟨(some 26), .pick (.t 23) (.c (.bool true)) (.t 25), []⟩ <|
      .nil)) (
    .cond (.t 26) (.ops (
        .op ⟨(some 27), .mkIfc 9 (.c (.str ⟨⟨[116, 104, 101, 32, 114, 101, 115, 117, 108, 116, 32, 111, 102, 32, 40, 108, 101, 110, 40, 120, 41, 32, 42, 32, 99, 111, 117, 110, 116, 41, 32, 111, 118, 101, 114, 102, 108, 111, 119, 115]⟩⟩)), []⟩ <|
        .op ⟨none, .extract (.c (.tup [])) 0, []⟩ <|
        .nil)) (.skip))) (
    .seq (.ops (
      .op ⟨(some 28), .mov (.t 6), []⟩ <|
      .op ⟨(some 29), .conv .i64 (.t 28), []⟩ <|
      .op ⟨(some 30), .mkSl 1 8 [(.int .i64 0)] (.t 29) (.t 29), []⟩ <|
      .op ⟨(some 7), .mov (.t 30), []⟩ <|
      .nil)) (
    .seq (.ops (
      .op ⟨(some 31), .mov (.t 7), []⟩ <|
      .op ⟨(some 32), .mov (.t 0), []⟩ <|
      .op ⟨(some 33), .copy 1 (.t 31) (.t 32), []⟩ <|
      .op ⟨(some 8), .mov (.t 33), []⟩ <|
      .nil)) (
    .seq (.block 0 (.loop [7, 8] [7] (slices_Repeat___int_int__c1))) (
    slices_Repeat___int_int__c0)))))))

def slices_Repeat___int_int__hs : List (List Nat × List Nat) := [([7, 8], [7])]

end Wm.F
end

section
/- PRINTED by my tool (wip/wm/tool/Gen.lean): a function as one of my machine. -/
namespace Wm.F
open Wm
set_option maxRecDepth 100000

/-- 385: (*withy/model.Model).hold -/
def model_Model_hold : AFunc where
  closed := false
  nparams := 4
  ntmps := 22
  results := []
  body := .seq (.ops (
      .op ⟨(some 8), .mov (.t 0), []⟩ <|
      .op ⟨(some 9), .nilc (.t 8), []⟩ <|
      .op ⟨(some 10), .fieldA 9 (.t 9), []⟩ <|
      .op ⟨(some 11), .load1 (.t 10), []⟩ <|
      .op ⟨(some 12), .mov (.t 2), []⟩ <|
      .op ⟨none, .mapSet .int (.t 11) (.t 12) (.c (.int .i64 1)), []⟩ <|
      .nil)) (
    .ops (
      .op ⟨(some 13), .mov (.t 0), []⟩ <|
      .op ⟨(some 14), .nilc (.t 13), []⟩ <|
      .op ⟨(some 15), .fieldA 7 (.t 14), []⟩ <|
      .op ⟨(some 16), .load1 (.t 15), []⟩ <|
      .op ⟨(some 17), .mov (.t 1), []⟩ <|
      .op ⟨(some 18), .indexA 1 (.t 16) (.t 17), []⟩ <|
      .op ⟨(some 19), .load1 (.t 18), []⟩ <|
      .op ⟨(some 20), .mov (.t 2), []⟩ <|
      .op ⟨(some 21), .mov (.t 3), []⟩ <|
      .op ⟨none, .mapSet .int (.t 19) (.t 20) (.t 21), []⟩ <|
      .nil))

def model_Model_hold_hs : List (List Nat × List Nat) := []

end Wm.F
end

section
/- PRINTED by my tool (wip/wm/tool/Gen.lean): a function as one of my machine. -/
namespace Wm.F
open Wm
set_option maxRecDepth 100000

def model_Model_reached_c3 : ACode :=
  .seq (.ops (
    .op ⟨(some 29), .cmp .lss .i64 (.t 28) (.t 27), []⟩ <|
    .nil)) (
  .seq (.cond (.t 29) (.skip) (.exit 2)) (
  .seq (.block 3 (.seq (.ops (
    .op ⟨(some 30), .indexA 1 (.t 26) (.t 28), []⟩ <|
    .op ⟨(some 31), .load1 (.t 30), []⟩ <|
    .op ⟨(some 8), .mov (.t 31), []⟩ <|
    .nil)) (
  .seq (.ops (
    .op ⟨(some 32), .mov (.t 8), []⟩ <|
    .op ⟨(some 33), .cmp .geq .i64 (.t 32) (.c (.int .i64 0)), []⟩ <|
    .op ⟨(some 34), .mov (.t 33), []⟩ <|
    .grd 34 true [⟨(some 35), .mov (.t 5), []⟩,
        ⟨(some 36), .mov (.t 8), []⟩,
        ⟨(some 37), .call 331 [(.t 35), (.t 36)], []⟩,
        ⟨(some 38), .not (.t 37), []⟩] <|
    .op ⟨(some 39), .pick (.t 34) (.t 38) (.c (.bool false)), []⟩ <|
    .nil)) (
  .cond (.t 39) (.ops (
      .op ⟨(some 40), .mov (.t 5), []⟩ <|
      .op ⟨(some 41), .mov (.t 8), []⟩ <|
      .op ⟨(some 42), .buildSl 1 1 [(.int .i64 0)] [(0, 1, (.t 41))], []⟩ <|
      .op ⟨(some 43), .append 1 8 (.t 40) (.t 42), []⟩ <|
      .op ⟨(some 5), .mov (.t 43), []⟩ <|
      .nil)) (.skip))))) (
  .ops (
    .op ⟨(some 44), .arith .add .i64 (.t 28) (.c (.int .i64 1)), []⟩ <|
    .op ⟨(some 28), .mov (.t 44), []⟩ <|
    .nil))))

def model_Model_reached_c2 : ACode :=
  .ops (
    .op ⟨(some 15), .mov (.t 6), []⟩ <|
    .op ⟨(some 16), .arith .add .i64 (.t 15) (.c (.int .i64 1)), []⟩ <|
    .op ⟨(some 6), .mov (.t 16), []⟩ <|
    .nil)

def model_Model_reached_c1 : ACode :=
  .seq (.seq (.ops (
    .op ⟨(some 11), .mov (.t 6), []⟩ <|
    .op ⟨(some 12), .mov (.t 5), []⟩ <|
    .op ⟨(some 13), .lenSl (.t 12), []⟩ <|
    .op ⟨(some 14), .cmp .lss .i64 (.t 11) (.t 13), []⟩ <|
    .nil)) (
  .cond (.t 14) (.skip) (.exit 0))) (
  .seq (.block 1 (.seq (.ops (
    .op ⟨(some 17), .mov (.t 0), []⟩ <|
    .op ⟨(some 18), .nilc (.t 17), []⟩ <|
    .op ⟨(some 19), .fieldA 6 (.t 18), []⟩ <|
    .op ⟨(some 20), .load1 (.t 19), []⟩ <|
    .op ⟨(some 21), .mov (.t 5), []⟩ <|
    .op ⟨(some 22), .mov (.t 6), []⟩ <|
    .op ⟨(some 23), .indexA 1 (.t 21) (.t 22), []⟩ <|
    .op ⟨(some 24), .load1 (.t 23), []⟩ <|
    .op ⟨(some 25), .indexA 1 (.t 20) (.t 24), []⟩ <|
    .op ⟨(some 26), .load1 (.t 25), []⟩ <|
    .op ⟨(some 27), .lenSl (.t 26), []⟩ <|
    .op ⟨(some 28), .mov (.c (.int .i64 0)), []⟩ <|
    .nil)) (
  .block 2 (.loop [0, 5, 6, 26, 27, 28] [0, 5, 6] (model_Model_reached_c3))))) (
  model_Model_reached_c2))

def model_Model_reached_c0 : ACode :=
  .seq (.ops (
    .op ⟨(some 45), .mov (.t 5), []⟩ <|
    .op ⟨(some 4), .mov (.t 45), []⟩ <|
    .nil)) (
  .ret)

/-- 386: (*withy/model.Model).reached -/
def model_Model_reached : AFunc where
  closed := false
  nparams := 2
  ntmps := 46
  results := [.tmp 4]
  body := .seq (.ops (
      .op ⟨(some 4), .mov (.c .nilsl), []⟩ <|
      .nil)) (
    .seq (.ops (
      .op ⟨(some 9), .mov (.t 1), []⟩ <|
      .op ⟨(some 10), .buildSl 1 1 [(.int .i64 0)] [(0, 1, (.t 9))], []⟩ <|
      .op ⟨(some 5), .mov (.t 10), []⟩ <|
      .nil)) (
    .seq (.seq (.ops (
      .op ⟨(some 6), .mov (.c (.int .i64 0)), []⟩ <|
      .nil)) (
    .block 0 (.loop [0, 5, 6] [5] (model_Model_reached_c1)))) (
    model_Model_reached_c0)))

def model_Model_reached_hs : List (List Nat × List Nat) := [([0, 5, 6], [5]), ([0, 5, 6, 26, 27, 28], [0, 5, 6])]

end Wm.F
end

section
/- PRINTED by my tool (wip/wm/tool/Gen.lean): a function as one of my machine. -/
namespace Wm.F
open Wm
set_option maxRecDepth 100000

/-- 445: math/bits.Mul -/
def math_bits_Mul : AFunc where
  closed := true
  nparams := 2
  ntmps := 30
  results := [.tmp 4, .tmp 5]
  body := .seq (.ops (
      .op ⟨(some 4), .mov (.c (.int .u64 0)), []⟩ <|
      .op ⟨(some 5), .mov (.c (.int .u64 0)), []⟩ <|
      .nil)) (
    .seq (.cond (.c (.bool false)) (.seq (.ops (
        .op ⟨(some 11), .mov (.t 0), []⟩ <|
        .op ⟨(some 12), .conv .u32 (.t 11), []⟩ <|
        .op ⟨(some 13), .mov (.t 1), []⟩ <|
        .op ⟨(some 14), .conv .u32 (.t 13), []⟩ <|
        .op ⟨(some 15), .call 485 [(.t 12), (.t 14)], []⟩ <|
        .op ⟨(some 10), .mov (.t 15), []⟩ <|
        .op ⟨(some 16), .extract (.t 10) 0, []⟩ <|
        .op ⟨(some 17), .extract (.t 10) 1, []⟩ <|
        .op ⟨(some 6), .mov (.t 16), []⟩ <|
        .op ⟨(some 7), .mov (.t 17), []⟩ <|
        .nil)) (
      .seq (.ops (
        .op ⟨(some 18), .mov (.t 6), []⟩ <|
        .op ⟨(some 19), .conv .u64 (.t 18), []⟩ <|
        .op ⟨(some 20), .mov (.t 7), []⟩ <|
        .op ⟨(some 21), .conv .u64 (.t 20), []⟩ <|
        .op ⟨(some 4), .mov (.t 19), []⟩ <|
        .op ⟨(some 5), .mov (.t 21), []⟩ <|
        .nil)) (
      .ret))) (.skip)) (
    .seq (.ops (
      .op ⟨(some 23), .mov (.t 0), []⟩ <|
      .op ⟨(some 24), .mov (.t 1), []⟩ <|
      .op ⟨(some 25), .call 486 [(.t 23), (.t 24)], []⟩ <|
      .op ⟨(some 22), .mov (.t 25), []⟩ <|
      .op ⟨(some 26), .extract (.t 22) 0, []⟩ <|
      .op ⟨(some 27), .extract (.t 22) 1, []⟩ <|
      .op ⟨(some 8), .mov (.t 26), []⟩ <|
      .op ⟨(some 9), .mov (.t 27), []⟩ <|
      .nil)) (
    .seq (.ops (
      .op ⟨(some 28), .mov (.t 8), []⟩ <|
      .op ⟨(some 29), .mov (.t 9), []⟩ <|
      .op ⟨(some 4), .mov (.t 28), []⟩ <|
      .op ⟨(some 5), .mov (.t 29), []⟩ <|
      .nil)) (
    .ret))))

def math_bits_Mul_hs : List (List Nat × List Nat) := []

end Wm.F
end

section
/- PRINTED by my tool (wip/wm/tool/Gen.lean): a function as one of my machine. -/
namespace Wm.F
open Wm
set_option maxRecDepth 100000

/-- 331: slices.Contains[[]int,int] -/
def slices_Contains___int_int_ : AFunc where
  closed := false
  nparams := 2
  ntmps := 9
  results := [.tmp 4]
  body := .seq (.ops (
      .op ⟨(some 4), .mov (.c (.bool false)), []⟩ <|
      .nil)) (
    .seq (.ops (
      .op ⟨(some 5), .mov (.t 0), []⟩ <|
      .op ⟨(some 6), .mov (.t 1), []⟩ <|
      .op ⟨(some 7), .call 404 [(.t 5), (.t 6)], []⟩ <|
      .op ⟨(some 8), .cmp .geq .i64 (.t 7) (.c (.int .i64 0)), []⟩ <|
      .op ⟨(some 4), .mov (.t 8), []⟩ <|
      .nil)) (
    .ret))

def slices_Contains___int_int__hs : List (List Nat × List Nat) := []

end Wm.F
end

section
/- PRINTED by my tool (wip/wm/tool/Gen.lean): a function as one of my machine. -/
namespace Wm.F
open Wm
set_option maxRecDepth 100000

/-- 485: math/bits.Mul32 -/
def math_bits_Mul32 : AFunc where
  closed := true
  nparams := 2
  ntmps := 17
  results := [.tmp 4, .tmp 5]
  body := .seq (.ops (
      .op ⟨(some 4), .mov (.c (.int .u32 0)), []⟩ <|
      .op ⟨(some 5), .mov (.c (.int .u32 0)), []⟩ <|
      .nil)) (
    .seq (.ops (
      .op ⟨(some 7), .mov (.t 0), []⟩ <|
      .op ⟨(some 8), .conv .u64 (.t 7), []⟩ <|
      .op ⟨(some 9), .mov (.t 1), []⟩ <|
      .op ⟨(some 10), .conv .u64 (.t 9), []⟩ <|
      .op ⟨(some 11), .arith .mul .u64 (.t 8) (.t 10), []⟩ <|
      .op ⟨(some 6), .mov (.t 11), []⟩ <|
      .nil)) (
    .seq (.ops (
      .op ⟨(some 12), .mov (.t 6), []⟩ <|
      .op ⟨(some 13), .shift false .u64 .u64 (.t 12) (.c (.int .u64 32)), []⟩ <|
      .op ⟨(some 14), .conv .u32 (.t 13), []⟩ <|
      .op ⟨(some 15), .mov (.t 6), []⟩ <|
      .op ⟨(some 16), .conv .u32 (.t 15), []⟩ <|
      .op ⟨(some 4), .mov (.t 14), []⟩ <|
      .op ⟨(some 5), .mov (.t 16), []⟩ <|
      .nil)) (
    .ret)))

def math_bits_Mul32_hs : List (List Nat × List Nat) := []

end Wm.F
end

section
/- PRINTED by my tool (wip/wm/tool/Gen.lean): a function as one of my machine. -/
namespace Wm.F
open Wm
set_option maxRecDepth 100000

/-- 486: math/bits.Mul64 -/
def math_bits_Mul64 : AFunc where
  closed := true
  nparams := 2
  ntmps := 51
  results := [.tmp 4, .tmp 5]
  body := .seq (.ops (
      .op ⟨(some 4), .mov (.c (.int .u64 0)), []⟩ <|
      .op ⟨(some 5), .mov (.c (.int .u64 0)), []⟩ <|
      .nil)) (
    .seq (.ops (
      .op ⟨(some 14), .mov (.t 0), []⟩ <|
      .op ⟨(some 15), .arith .and .u64 (.t 14) (.c (.int .u64 4294967295)), []⟩ <|
      .op ⟨(some 6), .mov (.t 15), []⟩ <|
      .nil)) (
    .seq (.ops (
      .op ⟨(some 16), .mov (.t 0), []⟩ <|
      .op ⟨(some 17), .shift false .u64 .u64 (.t 16) (.c (.int .u64 32)), []⟩ <|
      .op ⟨(some 7), .mov (.t 17), []⟩ <|
      .nil)) (
    .seq (.ops (
      .op ⟨(some 18), .mov (.t 1), []⟩ <|
      .op ⟨(some 19), .arith .and .u64 (.t 18) (.c (.int .u64 4294967295)), []⟩ <|
      .op ⟨(some 8), .mov (.t 19), []⟩ <|
      .nil)) (
    .seq (.ops (
      .op ⟨(some 20), .mov (.t 1), []⟩ <|
      .op ⟨(some 21), .shift false .u64 .u64 (.t 20) (.c (.int .u64 32)), []⟩ <|
      .op ⟨(some 9), .mov (.t 21), []⟩ <|
      .nil)) (
    .seq (.ops (
      .op ⟨(some 22), .mov (.t 6), []⟩ <|
      .op ⟨(some 23), .mov (.t 8), []⟩ <|
      .op ⟨(some 24), .arith .mul .u64 (.t 22) (.t 23), []⟩ <|
      .op ⟨(some 10), .mov (.t 24), []⟩ <|
      .nil)) (
    .seq (.ops (
      .op ⟨(some 25), .mov (.t 7), []⟩ <|
      .op ⟨(some 26), .mov (.t 8), []⟩ <|
      .op ⟨(some 27), .arith .mul .u64 (.t 25) (.t 26), []⟩ <|
      .op ⟨(some 28), .mov (.t 10), []⟩ <|
      .op ⟨(some 29), .shift false .u64 .u64 (.t 28) (.c (.int .u64 32)), []⟩ <|
      .op ⟨(some 30), .arith .add .u64 (.t 27) (.t 29), []⟩ <|
      .op ⟨(some 11), .mov (.t 30), []⟩ <|
      .nil)) (
    .seq (.ops (
      .op ⟨(some 31), .mov (.t 11), []⟩ <|
      .op ⟨(some 32), .arith .and .u64 (.t 31) (.c (.int .u64 4294967295)), []⟩ <|
      .op ⟨(some 12), .mov (.t 32), []⟩ <|
      .nil)) (
    .seq (.ops (
      .op ⟨(some 33), .mov (.t 11), []⟩ <|
      .op ⟨(some 34), .shift false .u64 .u64 (.t 33) (.c (.int .u64 32)), []⟩ <|
      .op ⟨(some 13), .mov (.t 34), []⟩ <|
      .nil)) (
    .seq (.ops (
      .op ⟨(some 35), .mov (.t 12), []⟩ <|
      .op ⟨(some 36), .mov (.t 6), []⟩ <|
      .op ⟨(some 37), .mov (.t 9), []⟩ <|
      .op ⟨(some 38), .arith .mul .u64 (.t 36) (.t 37), []⟩ <|
      .op ⟨(some 39), .arith .add .u64 (.t 35) (.t 38), []⟩ <|
      .op ⟨(some 12), .mov (.t 39), []⟩ <|
      .nil)) (
    .seq (.ops (
      .op ⟨(some 40), .mov (.t 7), []⟩ <|
      .op ⟨(some 41), .mov (.t 9), []⟩ <|
      .op ⟨(some 42), .arith .mul .u64 (.t 40) (.t 41), []⟩ <|
      .op ⟨(some 43), .mov (.t 13), []⟩ <|
      .op ⟨(some 44), .arith .add .u64 (.t 42) (.t 43), []⟩ <|
      .op ⟨(some 45), .mov (.t 12), []⟩ <|
      .op ⟨(some 46), .shift false .u64 .u64 (.t 45) (.c (.int .u64 32)), []⟩ <|
      .op ⟨(some 47), .arith .add .u64 (.t 44) (.t 46), []⟩ <|
      .op ⟨(some 4), .mov (.t 47), []⟩ <|
      .nil)) (
    .seq (.ops (
      .op ⟨(some 48), .mov (.t 0), []⟩ <|
      .op ⟨(some 49), .mov (.t 1), []⟩ <|
      .op ⟨(some 50), .arith .mul .u64 (.t 48) (.t 49), []⟩ <|
      .op ⟨(some 5), .mov (.t 50), []⟩ <|
      .nil)) (
    .ret))))))))))))

def math_bits_Mul64_hs : List (List Nat × List Nat) := []

end Wm.F
end

section
/- PRINTED by my tool (wip/wm/tool/Gen.lean): a function as one of my machine. -/
namespace Wm.F
open Wm
set_option maxRecDepth 100000

def slices_Index___int_int__c1 : ACode :=
  .seq (.ops (
    .op ⟨(some 9), .cmp .lss .i64 (.t 8) (.t 7), []⟩ <|
    .nil)) (
  .seq (.cond (.t 9) (.skip) (.exit 0)) (
  .seq (.block 1 (.seq (.ops (
    .op ⟨(some 10), .mov (.t 8), []⟩ <|
    .op ⟨(some 5), .mov (.t 10), []⟩ <|
    .nil)) (
  .seq (.ops (
    .op ⟨(some 11), .mov (.t 1), []⟩ <|
    .op ⟨(some 12), .mov (.t 0), []⟩ <|
    .op ⟨(some 13), .mov (.t 5), []⟩ <|
    .op ⟨(some 14), .indexA 1 (.t 12) (.t 13), []⟩ <|
    .op ⟨(some 15), .load1 (.t 14), []⟩ <|
    .op ⟨(some 16), .cmp .eql .i64 (.t 11) (.t 15), []⟩ <|
    .nil)) (
  .cond (.t 16) (.seq (.ops (
      .op ⟨(some 17), .mov (.t 5), []⟩ <|
      .op ⟨(some 4), .mov (.t 17), []⟩ <|
      .nil)) (
    .ret)) (.skip))))) (
  .ops (
    .op ⟨(some 18), .arith .add .i64 (.t 8) (.c (.int .i64 1)), []⟩ <|
    .op ⟨(some 8), .mov (.t 18), []⟩ <|
    .nil))))

def slices_Index___int_int__c0 : ACode :=
  .seq (.ops (
    .op ⟨(some 4), .mov (.c (.int .i64 (-1))), []⟩ <|
    .nil)) (
  .ret)

/-- 404: slices.Index[[]int,int] -/
def slices_Index___int_int_ : AFunc where
  closed := false
  nparams := 2
  ntmps := 19
  results := [.tmp 4]
  body := .seq (.ops (
      .op ⟨(some 4), .mov (.c (.int .i64 0)), []⟩ <|
      .nil)) (
    .seq (.seq (.ops (
      .op ⟨(some 6), .mov (.t 0), []⟩ <|
      .op ⟨(some 7), .lenSl (.t 6), []⟩ <|
      .op ⟨(some 8), .mov (.c (.int .i64 0)), []⟩ <|
      .nil)) (
    .block 0 (.loop [0, 1, 7, 8] [4] (slices_Index___int_int__c1)))) (
    slices_Index___int_int__c0))

def slices_Index___int_int__hs : List (List Nat × List Nat) := [([0, 1, 7, 8], [4])]

end Wm.F
end

