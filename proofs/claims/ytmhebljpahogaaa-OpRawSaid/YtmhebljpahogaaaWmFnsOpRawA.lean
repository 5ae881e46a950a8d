/- PRINTED by my tool: functions as those of my machine. -/
import Derived.Test.YtmhebljpahogaaaWmCore
set_option linter.all false
section
/- PRINTED by my tool (wip/wm/tool/Gen.lean): a function as one of my machine. -/
namespace Wm.F
open Wm
set_option maxRecDepth 100000

/-- 3: withy/withylaw16.OpValues -/
def withylaw16_OpValues : AFunc where
  closed := false
  nparams := 3
  ntmps := 19
  results := [.tmp 6]
  body := .seq (.ops (
      .op ⟨(some 3), .box (.t 0), []⟩ <|
      .op ⟨(some 6), .mov (.c (.bool false)), []⟩ <|
      .nil)) (
    .seq (.ops (
      .op ⟨(some 7), .loadN 3 (.t 3), []⟩ <|
      .op ⟨(some 8), .mov (.t 1), []⟩ <|
      .op ⟨(some 9), .mov (.t 2), []⟩ <|
      .op ⟨(some 11), .loadN 3 (.t 3), []⟩ <|
      .op ⟨(some 12), .mov (.t 1), []⟩ <|
      .op ⟨(some 13), .mov (.t 2), []⟩ <|
      .op ⟨(some 10), .call 78 [(.t 7), (.t 8), (.t 9)], [{ g := none, op := .loadN 3 (.t 3), d := 11 }]⟩ <|
      .op ⟨(some 14), .call 79 [(.t 11), (.t 12), (.t 13)], []⟩ <|
      .op ⟨(some 15), .cmp .eql .u64 (.t 10) (.t 14), []⟩ <|
      .op ⟨(some 16), .mov (.t 15), []⟩ <|
      .grd 16 true [⟨(some 17), .call 80 [], []⟩] <|
      .op ⟨(some 18), .pick (.t 16) (.t 17) (.c (.bool false)), []⟩ <|
      .op ⟨(some 6), .mov (.t 18), []⟩ <|
      .nil)) (
    .ret))

def withylaw16_OpValues_hs : List (List Nat × List Nat) := []

end Wm.F
end

section
/- PRINTED by my tool (wip/wm/tool/Gen.lean): a function as one of my machine. -/
namespace Wm.F
open Wm
set_option maxRecDepth 100000

/-- 4: withy/withylaw16.OpCalls -/
def withylaw16_OpCalls : AFunc where
  closed := false
  nparams := 3
  ntmps := 68
  results := [.tmp 6]
  body := .seq (.ops (
      .op ⟨(some 3), .box (.t 0), []⟩ <|
      .op ⟨(some 6), .mov (.c (.bool false)), []⟩ <|
      .nil)) (
    .seq (.ops (
      .op ⟨(some 8), .fieldA 0 (.t 3), []⟩ <|
      .op ⟨(some 9), .load1 (.t 8), []⟩ <|
      .op ⟨(some 10), .build [(.int .i64 0), (.int .i64 0), (.int .u64 0), (.int .u64 0), (.int .u64 0)] [(0, 1, (.t 9))], []⟩ <|
      .op ⟨(some 7), .alloc [(.int .i64 0), (.int .i64 0), (.int .u64 0), (.int .u64 0), (.int .u64 0)], []⟩ <|
      .op ⟨none, .store 5 (.t 7) (.t 10), []⟩ <|
      .nil)) (
    .seq (.seq (.ops (
      .op ⟨(some 11), .fieldA 0 (.t 3), []⟩ <|
      .op ⟨(some 12), .load1 (.t 11), []⟩ <|
      .op ⟨(some 13), .cmp .geq .i64 (.t 12) (.c (.int .i64 1)), []⟩ <|
      .op ⟨(some 14), .mov (.t 13), []⟩ <|
      .grd 14 true [⟨(some 15), .fieldA 0 (.t 3), []⟩,
          ⟨(some 16), .load1 (.t 15), []⟩,
          ⟨(some 17), .cmp .leq .i64 (.t 16) (.c (.int .i64 10)), []⟩] <|
      .op ⟨(some 18), .pick (.t 14) (.t 17) (.c (.bool false)), []⟩ <|
      .nil)) (
    .cond (.t 18) (.seq (.ops (
        .op ⟨(some 19), .fieldA 1 (.t 3), []⟩ <|
        .op ⟨(some 20), .load1 (.t 19), []⟩ <|
        .op ⟨(some 21), .fieldA 1 (.t 7), []⟩ <|
        .op ⟨none, .store 1 (.t 21) (.t 20), []⟩ <|
        .nil)) (
      .seq (.seq (.ops (
        .op ⟨(some 22), .fieldA 0 (.t 3), []⟩ <|
        .op ⟨(some 23), .load1 (.t 22), []⟩ <|
        .op ⟨(some 24), .cmp .gtr .i64 (.t 23) (.c (.int .i64 1)), []⟩ <|
        .nil)) (
      .cond (.t 24) (.ops (
          .op ⟨(some 25), .fieldA 2 (.t 3), []⟩ <|
          .op ⟨(some 26), .loadN 3 (.t 25), []⟩ <|
          .op ⟨(some 27), .mov (.t 1), []⟩ <|
          .op ⟨(some 28), .mov (.t 2), []⟩ <|
          .op ⟨(some 29), .call 79 [(.t 26), (.t 27), (.t 28)], []⟩ <|
          .op ⟨(some 30), .fieldA 2 (.t 7), []⟩ <|
          .op ⟨none, .store 1 (.t 30) (.t 29), []⟩ <|
          .nil)) (.skip))) (
      .seq (.seq (.ops (
        .op ⟨(some 31), .fieldA 0 (.t 3), []⟩ <|
        .op ⟨(some 32), .load1 (.t 31), []⟩ <|
        .op ⟨(some 33), .cmp .eql .i64 (.t 32) (.c (.int .i64 3)), []⟩ <|
        .op ⟨(some 34), .mov (.t 33), []⟩ <|
        .grd 34 false [⟨(some 35), .fieldA 0 (.t 3), []⟩,
            ⟨(some 36), .load1 (.t 35), []⟩,
            ⟨(some 37), .cmp .eql .i64 (.t 36) (.c (.int .i64 5)), []⟩] <|
        .op ⟨(some 38), .pick (.t 34) (.c (.bool true)) (.t 37), []⟩ <|
        .op ⟨(some 39), .mov (.t 38), []⟩ <|
        .grd 39 false [⟨(some 40), .fieldA 0 (.t 3), []⟩,
            ⟨(some 41), .load1 (.t 40), []⟩,
            ⟨(some 42), .cmp .eql .i64 (.t 41) (.c (.int .i64 7)), []⟩] <|
        .op ⟨(some 43), .pick (.t 39) (.c (.bool true)) (.t 42), []⟩ <|
        .nil)) (
      .cond (.t 43) (.ops (
          .op ⟨(some 44), .fieldA 5 (.t 3), []⟩ <|
          .op ⟨(some 45), .loadN 3 (.t 44), []⟩ <|
          .op ⟨(some 46), .mov (.t 1), []⟩ <|
          .op ⟨(some 47), .mov (.t 2), []⟩ <|
          .op ⟨(some 48), .call 79 [(.t 45), (.t 46), (.t 47)], []⟩ <|
          .op ⟨(some 49), .fieldA 3 (.t 7), []⟩ <|
          .op ⟨none, .store 1 (.t 49) (.t 48), []⟩ <|
          .nil)) (.skip))) (
      .seq (.ops (
        .op ⟨(some 50), .fieldA 0 (.t 3), []⟩ <|
        .op ⟨(some 51), .load1 (.t 50), []⟩ <|
        .op ⟨(some 52), .cmp .eql .i64 (.t 51) (.c (.int .i64 5)), []⟩ <|
        .nil)) (
      .cond (.t 52) (.ops (
          .op ⟨(some 53), .fieldA 8 (.t 3), []⟩ <|
          .op ⟨(some 54), .loadN 3 (.t 53), []⟩ <|
          .op ⟨(some 55), .mov (.t 1), []⟩ <|
          .op ⟨(some 56), .mov (.t 2), []⟩ <|
          .op ⟨(some 57), .call 79 [(.t 54), (.t 55), (.t 56)], []⟩ <|
          .op ⟨(some 58), .fieldA 4 (.t 7), []⟩ <|
          .op ⟨none, .store 1 (.t 58) (.t 57), []⟩ <|
          .nil)) (.skip)))))) (.skip))) (
    .seq (.ops (
      .op ⟨(some 59), .loadN 11 (.t 3), []⟩ <|
      .op ⟨(some 60), .mov (.t 1), []⟩ <|
      .op ⟨(some 61), .mov (.t 2), []⟩ <|
      .op ⟨(some 63), .loadN 5 (.t 7), []⟩ <|
      .op ⟨(some 62), .call 81 [(.t 59), (.t 60), (.t 61)], [{ g := none, op := .loadN 5 (.t 7), d := 63 }]⟩ <|
      .op ⟨(some 64), .eq false (.agg [(0, .int), (1, .int), (2, .int), (3, .int), (4, .int)]) (.t 62) (.t 63), []⟩ <|
      .op ⟨(some 65), .mov (.t 64), []⟩ <|
      .grd 65 true [⟨(some 66), .call 80 [], []⟩] <|
      .op ⟨(some 67), .pick (.t 65) (.t 66) (.c (.bool false)), []⟩ <|
      .op ⟨(some 6), .mov (.t 67), []⟩ <|
      .nil)) (
    .ret))))

def withylaw16_OpCalls_hs : List (List Nat × List Nat) := []

end Wm.F
end

section
/- PRINTED by my tool (wip/wm/tool/Gen.lean): a function as one of my machine. -/
namespace Wm.F
open Wm
set_option maxRecDepth 100000

def withylaw16_OpRaw_c1 : ACode :=
  .seq (.seq (.ops (
    .op ⟨(some 38), .mov (.t 13), []⟩ <|
    .op ⟨(some 39), .mov (.t 2), []⟩ <|
    .op ⟨(some 40), .lenSl (.t 39), []⟩ <|
    .op ⟨(some 41), .cmp .lss .i64 (.t 38) (.t 40), []⟩ <|
    .nil)) (
  .cond (.t 41) (.skip) (.exit 0))) (
  .seq (.block 1 (.seq (.ops (
    .op ⟨(some 44), .mov (.t 11), []⟩ <|
    .op ⟨(some 45), .buildSl 1 0 [(.int .u64 0)] [], []⟩ <|
    .op ⟨(some 46), .mov (.t 2), []⟩ <|
    .op ⟨(some 47), .mov (.t 13), []⟩ <|
    .op ⟨(some 48), .indexA 1 (.t 46) (.t 47), []⟩ <|
    .op ⟨(some 49), .load1 (.t 48), []⟩ <|
    .op ⟨(some 50), .append 1 8 (.t 45) (.t 49), []⟩ <|
    .op ⟨(some 51), .mov (.t 3), []⟩ <|
    .op ⟨(some 52), .buildSl 1 1 [(.int .u64 0)] [(0, 1, (.t 51))], []⟩ <|
    .op ⟨(some 53), .append 1 8 (.t 50) (.t 52), []⟩ <|
    .op ⟨(some 54), .buildSl 1 1 [.nilsl] [(0, 1, (.t 53))], []⟩ <|
    .op ⟨(some 55), .append 1 24 (.t 44) (.t 54), []⟩ <|
    .op ⟨(some 11), .mov (.t 55), []⟩ <|
    .nil)) (
  .ops (
    .op ⟨(some 56), .mov (.t 12), []⟩ <|
    .op ⟨(some 57), .mov (.t 56), []⟩ <|
    .grd 57 false [⟨(some 58), .fieldA 0 (.t 4), []⟩,
        ⟨(some 59), .load1 (.t 58), []⟩,
        ⟨(some 60), .cmp .geq .i64 (.t 59) (.c (.int .i64 0)), []⟩,
        ⟨(some 61), .mov (.t 60), []⟩] <|
    .grd 61 true [⟨(some 62), .fieldA 0 (.t 4), []⟩,
        ⟨(some 63), .load1 (.t 62), []⟩,
        ⟨(some 64), .mov (.t 2), []⟩,
        ⟨(some 65), .mov (.t 13), []⟩,
        ⟨(some 66), .indexA 1 (.t 64) (.t 65), []⟩,
        ⟨(some 67), .load1 (.t 66), []⟩,
        ⟨(some 68), .lenSl (.t 67), []⟩,
        ⟨(some 69), .cmp .lss .i64 (.t 63) (.t 68), []⟩] <|
    .grd 57 false [⟨(some 70), .pick (.t 61) (.t 69) (.c (.bool false)), []⟩,
        ⟨(some 71), .mov (.t 70), []⟩] <|
    .grd 71 true [⟨(some 72), .mov (.t 13), []⟩,
        ⟨(some 73), .fieldA 1 (.t 4), []⟩,
        ⟨(some 74), .load1 (.t 73), []⟩,
        ⟨(some 75), .cmp .eql .i64 (.t 72) (.t 74), []⟩,
        ⟨(some 76), .mov (.t 75), []⟩] <|
    .grd 76 false [⟨(some 77), .fieldA 1 (.t 4), []⟩,
        ⟨(some 78), .load1 (.t 77), []⟩,
        ⟨(some 79), .cmp .lss .i64 (.t 78) (.c (.int .i64 0)), []⟩,
        ⟨(some 80), .mov (.t 79), []⟩] <|
    .grd 80 true [⟨(some 81), .mov (.t 13), []⟩,
        ⟨(some 82), .mov (.t 1), []⟩,
        ⟨(some 83), .cmp .eql .i64 (.t 81) (.t 82), []⟩] <|
    .grd 76 false [⟨(some 84), .pick (.t 80) (.t 83) (.c (.bool false)), []⟩] <|
    .grd 71 true [⟨(some 85), .pick (.t 76) (.c (.bool true)) (.t 84), []⟩] <|
    .grd 57 false [⟨(some 86), .pick (.t 71) (.t 85) (.c (.bool false)), []⟩] <|
    .op ⟨(some 87), .pick (.t 57) (.c (.bool true)) (.t 86), []⟩ <|
    .op ⟨(some 12), .mov (.t 87), []⟩ <|
    .nil)))) (
  .ops (
    .op ⟨(some 42), .mov (.t 13), []⟩ <|
    .op ⟨(some 43), .arith .add .i64 (.t 42) (.c (.int .i64 1)), []⟩ <|
    .op ⟨(some 13), .mov (.t 43), []⟩ <|
    .nil)))

def withylaw16_OpRaw_c0 : ACode :=
  .seq (.ops (
    .op ⟨(some 88), .mov (.t 9), []⟩ <|
    .op ⟨(some 89), .mov (.t 88), []⟩ <|
    .grd 89 true [⟨(some 90), .mov (.t 12), []⟩,
        ⟨(some 91), .not (.t 90), []⟩,
        ⟨(some 92), .mov (.t 91), []⟩] <|
    .grd 92 false [⟨(some 93), .loadN 3 (.t 4), []⟩,
        ⟨(some 94), .mov (.t 1), []⟩,
        ⟨(some 95), .mov (.t 11), []⟩,
        ⟨(some 96), .call 78 [(.t 93), (.t 94), (.t 95)], []⟩,
        ⟨(some 97), .mov (.t 10), []⟩,
        ⟨(some 98), .cmp .eql .u64 (.t 96) (.t 97), []⟩] <|
    .grd 89 true [⟨(some 99), .pick (.t 92) (.c (.bool true)) (.t 98), []⟩] <|
    .op ⟨(some 100), .pick (.t 89) (.t 99) (.c (.bool false)), []⟩ <|
    .op ⟨(some 101), .mov (.t 100), []⟩ <|
    .grd 101 true [⟨(some 102), .call 80 [], []⟩] <|
    .op ⟨(some 103), .pick (.t 101) (.t 102) (.c (.bool false)), []⟩ <|
    .op ⟨(some 8), .mov (.t 103), []⟩ <|
    .nil)) (
  .ret)

/-- 5: withy/withylaw16.OpRaw -/
def withylaw16_OpRaw : AFunc where
  closed := false
  nparams := 4
  ntmps := 104
  results := [.tmp 8]
  body := .seq (.ops (
      .op ⟨(some 4), .box (.t 0), []⟩ <|
      .op ⟨(some 8), .mov (.c (.bool false)), []⟩ <|
      .nil)) (
    .seq (.ops (
      .op ⟨(some 14), .fieldA 0 (.t 4), []⟩ <|
      .op ⟨(some 15), .load1 (.t 14), []⟩ <|
      .op ⟨(some 16), .cmp .geq .i64 (.t 15) (.c (.int .i64 0)), []⟩ <|
      .op ⟨(some 17), .mov (.t 16), []⟩ <|
      .grd 17 false [⟨(some 18), .loadN 3 (.t 4), []⟩,
          ⟨(some 19), .mov (.t 1), []⟩,
          ⟨(some 21), .fieldA 2 (.t 4), []⟩,
          ⟨(some 22), .load1 (.t 21), []⟩,
          ⟨(some 20), .call 78 [(.t 18), (.t 19), (.c .nilsl)], [{ g := (some (17, false)), op := .load1 (.t 21), d := 22 }]⟩,
          ⟨(some 23), .cmp .eql .u64 (.t 20) (.t 22), []⟩,
          ⟨(some 24), .mov (.t 23), []⟩] <|
      .grd 24 true [⟨(some 25), .loadN 3 (.t 4), []⟩,
          ⟨(some 26), .mov (.t 1), []⟩,
          ⟨(some 27), .mov (.t 2), []⟩,
          ⟨(some 29), .fieldA 2 (.t 4), []⟩,
          ⟨(some 30), .load1 (.t 29), []⟩,
          ⟨(some 28), .call 78 [(.t 25), (.t 26), (.t 27)], [{ g := (some (24, true)), op := .load1 (.t 29), d := 30 }]⟩,
          ⟨(some 31), .cmp .eql .u64 (.t 28) (.t 30), []⟩] <|
      .grd 17 false [⟨(some 32), .pick (.t 24) (.t 31) (.c (.bool false)), []⟩] <|
      .op ⟨(some 33), .pick (.t 17) (.c (.bool true)) (.t 32), []⟩ <|
      .op ⟨(some 9), .mov (.t 33), []⟩ <|
      .nil)) (
    .seq (.ops (
      .op ⟨(some 34), .loadN 3 (.t 4), []⟩ <|
      .op ⟨(some 35), .mov (.t 1), []⟩ <|
      .op ⟨(some 36), .mov (.t 2), []⟩ <|
      .op ⟨(some 37), .call 78 [(.t 34), (.t 35), (.t 36)], []⟩ <|
      .op ⟨(some 10), .mov (.t 37), []⟩ <|
      .nil)) (
    .seq (.ops (
      .op ⟨(some 11), .mov (.c .nilsl), []⟩ <|
      .nil)) (
    .seq (.ops (
      .op ⟨(some 12), .mov (.c (.bool false)), []⟩ <|
      .nil)) (
    .seq (.seq (.ops (
      .op ⟨(some 13), .mov (.c (.int .i64 0)), []⟩ <|
      .nil)) (
    .block 0 (.loop [1, 2, 3, 4, 9, 10, 11, 12, 13] [1, 4, 9, 10, 11, 12] (withylaw16_OpRaw_c1)))) (
    withylaw16_OpRaw_c0))))))

def withylaw16_OpRaw_hs : List (List Nat × List Nat) := [([1, 2, 3, 4, 9, 10, 11, 12, 13], [1, 4, 9, 10, 11, 12])]

end Wm.F
end

section
/- PRINTED by my tool (wip/wm/tool/Gen.lean): a function as one of my machine. -/
namespace Wm.F
open Wm
set_option maxRecDepth 100000

/-- 6: withy/withylaw16.OpSelf -/
def withylaw16_OpSelf : AFunc where
  closed := false
  nparams := 4
  ntmps := 31
  results := [.tmp 8]
  body := .seq (.ops (
      .op ⟨(some 8), .mov (.c (.bool false)), []⟩ <|
      .nil)) (
    .seq (.seq (.ops (
      .op ⟨(some 11), .mov (.t 1), []⟩ <|
      .op ⟨(some 12), .cmp .lss .i64 (.t 11) (.c (.int .i64 0)), []⟩ <|
      .nil)) (
    .cond (.t 12) (.seq (.ops (
        .op ⟨(some 13), .call 80 [], []⟩ <|
        .op ⟨(some 8), .mov (.t 13), []⟩ <|
        .nil)) (
      .ret)) (.skip))) (
    .seq (.ops (
      .op ⟨(some 14), .mov (.t 0), []⟩ <|
      .op ⟨(some 15), .build [(.int .i64 0), (.int .i64 0), (.int .u64 0)] [(0, 1, (.t 14)), (1, 1, (.c (.int .i64 (-1))))], []⟩ <|
      .op ⟨(some 16), .mov (.t 1), []⟩ <|
      .op ⟨(some 17), .mov (.t 3), []⟩ <|
      .op ⟨(some 18), .call 78 [(.t 15), (.t 16), (.t 17)], []⟩ <|
      .op ⟨(some 9), .mov (.t 18), []⟩ <|
      .nil)) (
    .seq (.ops (
      .op ⟨(some 19), .mov (.t 0), []⟩ <|
      .op ⟨(some 20), .mov (.t 1), []⟩ <|
      .op ⟨(some 21), .build [(.int .i64 0), (.int .i64 0), (.int .u64 0)] [(0, 1, (.t 19)), (1, 1, (.t 20))], []⟩ <|
      .op ⟨(some 22), .mov (.t 2), []⟩ <|
      .op ⟨(some 23), .mov (.t 3), []⟩ <|
      .op ⟨(some 24), .call 78 [(.t 21), (.t 22), (.t 23)], []⟩ <|
      .op ⟨(some 10), .mov (.t 24), []⟩ <|
      .nil)) (
    .seq (.ops (
      .op ⟨(some 25), .mov (.t 9), []⟩ <|
      .op ⟨(some 26), .mov (.t 10), []⟩ <|
      .op ⟨(some 27), .cmp .eql .u64 (.t 25) (.t 26), []⟩ <|
      .op ⟨(some 28), .mov (.t 27), []⟩ <|
      .grd 28 true [⟨(some 29), .call 80 [], []⟩] <|
      .op ⟨(some 30), .pick (.t 28) (.t 29) (.c (.bool false)), []⟩ <|
      .op ⟨(some 8), .mov (.t 30), []⟩ <|
      .nil)) (
    .ret)))))

def withylaw16_OpSelf_hs : List (List Nat × List Nat) := []

end Wm.F
end

section
/- PRINTED by my tool (wip/wm/tool/Gen.lean): a function as one of my machine. -/
namespace Wm.F
open Wm
set_option maxRecDepth 100000

/-- 78: withy/op.Value -/
def op_Value : AFunc where
  closed := false
  nparams := 3
  ntmps := 44
  results := [.tmp 6]
  body := .seq (.ops (
      .op ⟨(some 3), .box (.t 0), []⟩ <|
      .op ⟨(some 6), .mov (.c (.int .u64 0)), []⟩ <|
      .nil)) (
    .seq (.seq (.ops (
      .op ⟨(some 8), .fieldA 0 (.t 3), []⟩ <|
      .op ⟨(some 9), .load1 (.t 8), []⟩ <|
      .op ⟨(some 10), .cmp .lss .i64 (.t 9) (.c (.int .i64 0)), []⟩ <|
      .nil)) (
    .cond (.t 10) (.seq (.ops (
        .op ⟨(some 11), .fieldA 2 (.t 3), []⟩ <|
        .op ⟨(some 12), .load1 (.t 11), []⟩ <|
        .op ⟨(some 6), .mov (.t 12), []⟩ <|
        .nil)) (
      .ret)) (.skip))) (
    .seq (.ops (
      .op ⟨(some 13), .fieldA 1 (.t 3), []⟩ <|
      .op ⟨(some 14), .load1 (.t 13), []⟩ <|
      .op ⟨(some 7), .mov (.t 14), []⟩ <|
      .nil)) (
    .seq (.seq (.ops (
      .op ⟨(some 15), .mov (.t 7), []⟩ <|
      .op ⟨(some 16), .cmp .lss .i64 (.t 15) (.c (.int .i64 0)), []⟩ <|
      .nil)) (
    .cond (.t 16) (.ops (
        .op ⟨(some 17), .mov (.t 1), []⟩ <|
        .op ⟨(some 7), .mov (.t 17), []⟩ <|
        .nil)) (.skip))) (
    .seq (.seq (.ops (
      .op ⟨(some 18), .mov (.t 7), []⟩ <|
      .op ⟨(some 19), .cmp .lss .i64 (.t 18) (.c (.int .i64 0)), []⟩ <|
      .op ⟨(some 20), .mov (.t 19), []⟩ <|
      .grd 20 false [⟨(some 21), .mov (.t 7), []⟩,
          ⟨(some 22), .mov (.t 2), []⟩,
          ⟨(some 23), .lenSl (.t 22), []⟩,
          ⟨(some 24), .cmp .geq .i64 (.t 21) (.t 23), []⟩] <|
      .op ⟨(some 25), .pick (.t 20) (.c (.bool true)) (.t 24), []⟩ <|
      .op ⟨(some 26), .mov (.t 25), []⟩ <|
      .grd 26 false [⟨(some 27), .fieldA 0 (.t 3), []⟩,
          ⟨(some 28), .load1 (.t 27), []⟩,
          ⟨(some 29), .mov (.t 2), []⟩,
          ⟨(some 30), .mov (.t 7), []⟩,
          ⟨(some 31), .indexA 1 (.t 29) (.t 30), []⟩,
          ⟨(some 32), .load1 (.t 31), []⟩,
          ⟨(some 33), .lenSl (.t 32), []⟩,
          ⟨(some 34), .cmp .geq .i64 (.t 28) (.t 33), []⟩] <|
      .op ⟨(some 35), .pick (.t 26) (.c (.bool true)) (.t 34), []⟩ <|
      .nil)) (
    .cond (.t 35) (.seq (.ops (
        .op ⟨(some 6), .mov (.c (.int .u64 0)), []⟩ <|
        .nil)) (
      .ret)) (.skip))) (
    .seq (.ops (
      .op ⟨(some 36), .mov (.t 2), []⟩ <|
      .op ⟨(some 37), .mov (.t 7), []⟩ <|
      .op ⟨(some 38), .indexA 1 (.t 36) (.t 37), []⟩ <|
      .op ⟨(some 39), .load1 (.t 38), []⟩ <|
      .op ⟨(some 40), .fieldA 0 (.t 3), []⟩ <|
      .op ⟨(some 41), .load1 (.t 40), []⟩ <|
      .op ⟨(some 42), .indexA 1 (.t 39) (.t 41), []⟩ <|
      .op ⟨(some 43), .load1 (.t 42), []⟩ <|
      .op ⟨(some 6), .mov (.t 43), []⟩ <|
      .nil)) (
    .ret))))))

def op_Value_hs : List (List Nat × List Nat) := []

end Wm.F
end

section
/- PRINTED by my tool (wip/wm/tool/Gen.lean): a function as one of my machine. -/
namespace Wm.F
open Wm
set_option maxRecDepth 100000

def withylaw16_value_c3 : ACode :=
  .seq (.seq (.ops (
    .op ⟨(some 34), .mov (.t 8), []⟩ <|
    .op ⟨(some 35), .mov (.t 2), []⟩ <|
    .op ⟨(some 36), .mov (.t 7), []⟩ <|
    .op ⟨(some 37), .indexA 1 (.t 35) (.t 36), []⟩ <|
    .op ⟨(some 38), .load1 (.t 37), []⟩ <|
    .op ⟨(some 39), .lenSl (.t 38), []⟩ <|
    .op ⟨(some 40), .cmp .lss .i64 (.t 34) (.t 39), []⟩ <|
    .nil)) (
  .cond (.t 40) (.skip) (.exit 2))) (
  .seq (.block 3 (.seq (.ops (
    .op ⟨(some 43), .mov (.t 8), []⟩ <|
    .op ⟨(some 44), .fieldA 0 (.t 3), []⟩ <|
    .op ⟨(some 45), .load1 (.t 44), []⟩ <|
    .op ⟨(some 46), .cmp .eql .i64 (.t 43) (.t 45), []⟩ <|
    .nil)) (
  .cond (.t 46) (.seq (.ops (
      .op ⟨(some 47), .mov (.t 2), []⟩ <|
      .op ⟨(some 48), .mov (.t 7), []⟩ <|
      .op ⟨(some 49), .indexA 1 (.t 47) (.t 48), []⟩ <|
      .op ⟨(some 50), .load1 (.t 49), []⟩ <|
      .op ⟨(some 51), .mov (.t 8), []⟩ <|
      .op ⟨(some 52), .indexA 1 (.t 50) (.t 51), []⟩ <|
      .op ⟨(some 53), .load1 (.t 52), []⟩ <|
      .op ⟨(some 6), .mov (.t 53), []⟩ <|
      .nil)) (
    .ret)) (.skip)))) (
  .ops (
    .op ⟨(some 41), .mov (.t 8), []⟩ <|
    .op ⟨(some 42), .arith .add .i64 (.t 41) (.c (.int .i64 1)), []⟩ <|
    .op ⟨(some 8), .mov (.t 42), []⟩ <|
    .nil)))

def withylaw16_value_c2 : ACode :=
  .ops (
    .op ⟨(some 18), .mov (.t 7), []⟩ <|
    .op ⟨(some 19), .arith .add .i64 (.t 18) (.c (.int .i64 1)), []⟩ <|
    .op ⟨(some 7), .mov (.t 19), []⟩ <|
    .nil)

def withylaw16_value_c1 : ACode :=
  .seq (.seq (.ops (
    .op ⟨(some 14), .mov (.t 7), []⟩ <|
    .op ⟨(some 15), .mov (.t 2), []⟩ <|
    .op ⟨(some 16), .lenSl (.t 15), []⟩ <|
    .op ⟨(some 17), .cmp .lss .i64 (.t 14) (.t 16), []⟩ <|
    .nil)) (
  .cond (.t 17) (.skip) (.exit 0))) (
  .seq (.block 1 (.seq (.ops (
    .op ⟨(some 20), .mov (.t 7), []⟩ <|
    .op ⟨(some 21), .fieldA 1 (.t 3), []⟩ <|
    .op ⟨(some 22), .load1 (.t 21), []⟩ <|
    .op ⟨(some 23), .cmp .eql .i64 (.t 20) (.t 22), []⟩ <|
    .op ⟨(some 24), .mov (.t 23), []⟩ <|
    .grd 24 false [⟨(some 25), .fieldA 1 (.t 3), []⟩,
        ⟨(some 26), .load1 (.t 25), []⟩,
        ⟨(some 27), .cmp .lss .i64 (.t 26) (.c (.int .i64 0)), []⟩,
        ⟨(some 28), .mov (.t 27), []⟩] <|
    .grd 28 true [⟨(some 29), .mov (.t 7), []⟩,
        ⟨(some 30), .mov (.t 1), []⟩,
        ⟨(some 31), .cmp .eql .i64 (.t 29) (.t 30), []⟩] <|
    .grd 24 false [⟨(some 32), .pick (.t 28) (.t 31) (.c (.bool false)), []⟩] <|
    .op ⟨(some 33), .pick (.t 24) (.c (.bool true)) (.t 32), []⟩ <|
    .nil)) (
  .cond (.t 33) (.seq (.ops (
      .op ⟨(some 8), .mov (.c (.int .i64 0)), []⟩ <|
      .nil)) (
    .block 2 (.loop [1, 2, 3, 7, 8] [1, 2, 3, 6, 7] (withylaw16_value_c3)))) (.skip)))) (
  withylaw16_value_c2))

def withylaw16_value_c0 : ACode :=
  .seq (.ops (
    .op ⟨(some 6), .mov (.c (.int .u64 0)), []⟩ <|
    .nil)) (
  .ret)

/-- 79: withy/withylaw16.value -/
def withylaw16_value : AFunc where
  closed := false
  nparams := 3
  ntmps := 54
  results := [.tmp 6]
  body := .seq (.ops (
      .op ⟨(some 3), .box (.t 0), []⟩ <|
      .op ⟨(some 6), .mov (.c (.int .u64 0)), []⟩ <|
      .nil)) (
    .seq (.seq (.ops (
      .op ⟨(some 9), .fieldA 0 (.t 3), []⟩ <|
      .op ⟨(some 10), .load1 (.t 9), []⟩ <|
      .op ⟨(some 11), .cmp .lss .i64 (.t 10) (.c (.int .i64 0)), []⟩ <|
      .nil)) (
    .cond (.t 11) (.seq (.ops (
        .op ⟨(some 12), .fieldA 2 (.t 3), []⟩ <|
        .op ⟨(some 13), .load1 (.t 12), []⟩ <|
        .op ⟨(some 6), .mov (.t 13), []⟩ <|
        .nil)) (
      .ret)) (.skip))) (
    .seq (.seq (.ops (
      .op ⟨(some 7), .mov (.c (.int .i64 0)), []⟩ <|
      .nil)) (
    .block 0 (.loop [1, 2, 3, 7] [6] (withylaw16_value_c1)))) (
    withylaw16_value_c0)))

def withylaw16_value_hs : List (List Nat × List Nat) := [([1, 2, 3, 7], [6]), ([1, 2, 3, 7, 8], [1, 2, 3, 6, 7])]

end Wm.F
end

section
/- PRINTED by my tool (wip/wm/tool/Gen.lean): a function as one of my machine. -/
namespace Wm.F
open Wm
set_option maxRecDepth 100000

/-- 80: withy/withylaw16.awake -/
def withylaw16_awake : AFunc where
  closed := true
  nparams := 0
  ntmps := 16
  results := [.tmp 0]
  body := .seq (.ops (
      .op ⟨(some 0), .mov (.c (.bool false)), []⟩ <|
      .nil)) (
    .seq (.ops (
      .op ⟨(some 2), .buildSl 1 2 [(.int .u64 0)] [(0, 1, (.c (.int .u64 5))), (1, 1, (.c (.int .u64 7)))], []⟩ <|
      .op ⟨(some 3), .buildSl 1 1 [.nilsl] [(0, 1, (.t 2))], []⟩ <|
      .op ⟨(some 1), .mov (.t 3), []⟩ <|
      .nil)) (
    .seq (.ops (
      .op ⟨(some 4), .build [(.int .i64 0), (.int .i64 0), (.int .u64 0)] [(0, 1, (.c (.int .i64 1))), (1, 1, (.c (.int .i64 (-1))))], []⟩ <|
      .op ⟨(some 5), .mov (.t 1), []⟩ <|
      .op ⟨(some 6), .call 78 [(.t 4), (.c (.int .i64 0)), (.t 5)], []⟩ <|
      .op ⟨(some 7), .cmp .eql .u64 (.t 6) (.c (.int .u64 7)), []⟩ <|
      .op ⟨(some 8), .mov (.t 7), []⟩ <|
      .grd 8 true [⟨(some 9), .build [(.int .i64 0), (.int .i64 0), (.int .u64 0)] [(0, 1, (.c (.int .i64 (-1)))), (2, 1, (.c (.int .u64 9)))], []⟩,
          ⟨(some 10), .build [(.int .i64 0), (.int .i64 0), (.int .u64 0)] [(0, 1, (.c (.int .i64 (-1)))), (2, 1, (.c (.int .u64 4)))], []⟩,
          ⟨(some 11), .build [(.int .i64 0), (.int .i64 0), (.int .i64 0), (.int .i64 0), (.int .u64 0), (.int .i64 0), (.int .i64 0), (.int .u64 0), (.int .i64 0), (.int .i64 0), (.int .u64 0)] [(0, 1, (.c (.int .i64 6))), (1, 1, (.c (.int .i64 3))), (2, 3, (.t 9)), (5, 3, (.t 10))], []⟩,
          ⟨(some 12), .call 81 [(.t 11), (.c (.int .i64 0)), (.c .nilsl)], []⟩,
          ⟨(some 13), .build [(.int .i64 0), (.int .i64 0), (.int .u64 0), (.int .u64 0), (.int .u64 0)] [(0, 1, (.c (.int .i64 6))), (1, 1, (.c (.int .i64 3))), (2, 1, (.c (.int .u64 9)))], []⟩,
          ⟨(some 14), .eq false (.agg [(0, .int), (1, .int), (2, .int), (3, .int), (4, .int)]) (.t 12) (.t 13), []⟩] <|
      .op ⟨(some 15), .pick (.t 8) (.t 14) (.c (.bool false)), []⟩ <|
      .op ⟨(some 0), .mov (.t 15), []⟩ <|
      .nil)) (
    .ret)))

def withylaw16_awake_hs : List (List Nat × List Nat) := []

end Wm.F
end

section
/- PRINTED by my tool (wip/wm/tool/Gen.lean): a function as one of my machine. -/
namespace Wm.F
open Wm
set_option maxRecDepth 100000

/-- 81: withy/op.Call -/
def op_Call : AFunc where
  closed := false
  nparams := 3
  ntmps := 47
  results := [.cell true 5 6]
  body := .seq (.ops (
      .op ⟨(some 3), .box (.t 0), []⟩ <|
      .op ⟨(some 6), .alloc [(.int .i64 0), (.int .i64 0), (.int .u64 0), (.int .u64 0), (.int .u64 0)], []⟩ <|
      .nil)) (
    .seq (.ops (
      .op ⟨(some 8), .fieldA 0 (.t 3), []⟩ <|
      .op ⟨(some 9), .load1 (.t 8), []⟩ <|
      .op ⟨(some 10), .build [(.int .i64 0), (.int .i64 0), (.int .u64 0), (.int .u64 0), (.int .u64 0)] [(0, 1, (.t 9))], []⟩ <|
      .op ⟨(some 7), .alloc [(.int .i64 0), (.int .i64 0), (.int .u64 0), (.int .u64 0), (.int .u64 0)], []⟩ <|
      .op ⟨none, .store 5 (.t 7) (.t 10), []⟩ <|
      .nil)) (
    .seq (.seq (.ops (
      .op ⟨(some 11), .fieldA 0 (.t 3), []⟩ <|
      .op ⟨(some 12), .load1 (.t 11), []⟩ <|
      .op ⟨(some 13), .call 260 [(.t 12)], []⟩ <|
      .nil)) (
    .cond (.t 13) (.seq (.ops (
        .op ⟨(some 14), .loadN 5 (.t 7), []⟩ <|
        .op ⟨none, .store 5 (.t 6) (.t 14), []⟩ <|
        .nil)) (
      .ret)) (.skip))) (
    .seq (.ops (
      .op ⟨(some 15), .fieldA 1 (.t 3), []⟩ <|
      .op ⟨(some 16), .load1 (.t 15), []⟩ <|
      .op ⟨(some 17), .fieldA 1 (.t 7), []⟩ <|
      .op ⟨none, .store 1 (.t 17) (.t 16), []⟩ <|
      .nil)) (
    .seq (.seq (.ops (
      .op ⟨(some 18), .fieldA 0 (.t 3), []⟩ <|
      .op ⟨(some 19), .load1 (.t 18), []⟩ <|
      .op ⟨(some 20), .cmp .neq .i64 (.t 19) (.c (.int .i64 1)), []⟩ <|
      .nil)) (
    .cond (.t 20) (.ops (
        .op ⟨(some 21), .fieldA 2 (.t 3), []⟩ <|
        .op ⟨(some 22), .loadN 3 (.t 21), []⟩ <|
        .op ⟨(some 23), .mov (.t 1), []⟩ <|
        .op ⟨(some 24), .mov (.t 2), []⟩ <|
        .op ⟨(some 25), .call 78 [(.t 22), (.t 23), (.t 24)], []⟩ <|
        .op ⟨(some 26), .fieldA 2 (.t 7), []⟩ <|
        .op ⟨none, .store 1 (.t 26) (.t 25), []⟩ <|
        .nil)) (.skip))) (
    .seq (.seq (.ops (
      .op ⟨(some 27), .fieldA 0 (.t 3), []⟩ <|
      .op ⟨(some 28), .load1 (.t 27), []⟩ <|
      .nil)) (
    .block 0 (.seq (.block 2 (.seq (.block 1 (.seq (.seq (.seq (.ops (
      .op ⟨(some 30), .cmp .eql .i64 (.t 28) (.c (.int .i64 5)), []⟩ <|
      .op ⟨(some 29), .mov (.t 30), []⟩ <|
      .nil)) (
    .cond (.t 29) (.exit 1) (.skip))) (
    .seq (.seq (.ops (
      .op ⟨(some 32), .cmp .eql .i64 (.t 28) (.c (.int .i64 3)), []⟩ <|
      .op ⟨(some 31), .mov (.t 32), []⟩ <|
      .nil)) (
    .cond (.t 31) (.skip) (.ops (
        .op ⟨(some 33), .cmp .eql .i64 (.t 28) (.c (.int .i64 7)), []⟩ <|
        .op ⟨(some 31), .mov (.t 33), []⟩ <|
        .nil)))) (
    .cond (.t 31) (.exit 2) (.skip)))) (
    .exit 0))) (
    .ops (
      .op ⟨(some 34), .fieldA 8 (.t 3), []⟩ <|
      .op ⟨(some 35), .loadN 3 (.t 34), []⟩ <|
      .op ⟨(some 36), .mov (.t 1), []⟩ <|
      .op ⟨(some 37), .mov (.t 2), []⟩ <|
      .op ⟨(some 38), .call 78 [(.t 35), (.t 36), (.t 37)], []⟩ <|
      .op ⟨(some 39), .fieldA 4 (.t 7), []⟩ <|
      .op ⟨none, .store 1 (.t 39) (.t 38), []⟩ <|
      .nil)))) (
    .seq (.ops (
      .op ⟨(some 40), .fieldA 5 (.t 3), []⟩ <|
      .op ⟨(some 41), .loadN 3 (.t 40), []⟩ <|
      .op ⟨(some 42), .mov (.t 1), []⟩ <|
      .op ⟨(some 43), .mov (.t 2), []⟩ <|
      .op ⟨(some 44), .call 78 [(.t 41), (.t 42), (.t 43)], []⟩ <|
      .op ⟨(some 45), .fieldA 3 (.t 7), []⟩ <|
      .op ⟨none, .store 1 (.t 45) (.t 44), []⟩ <|
      .nil)) (
    .exit 0))))) (
    .seq (.ops (
      .op ⟨(some 46), .loadN 5 (.t 7), []⟩ <|
      .op ⟨none, .store 5 (.t 6) (.t 46), []⟩ <|
      .nil)) (
    .ret)))))))

def op_Call_hs : List (List Nat × List Nat) := []

end Wm.F
end

section
/- PRINTED by my tool (wip/wm/tool/Gen.lean): a function as one of my machine. -/
namespace Wm.F
open Wm
set_option maxRecDepth 100000

/-- 260: withy/op.none -/
def op_none : AFunc where
  closed := true
  nparams := 1
  ntmps := 9
  results := [.tmp 2]
  body := .seq (.ops (
      .op ⟨(some 2), .mov (.c (.bool false)), []⟩ <|
      .nil)) (
    .seq (.ops (
      .op ⟨(some 3), .mov (.t 0), []⟩ <|
      .op ⟨(some 4), .cmp .lss .i64 (.t 3) (.c (.int .i64 1)), []⟩ <|
      .op ⟨(some 5), .mov (.t 4), []⟩ <|
      .grd 5 false [⟨(some 6), .mov (.t 0), []⟩,
          ⟨(some 7), .cmp .gtr .i64 (.t 6) (.c (.int .i64 10)), []⟩] <|
      .op ⟨(some 8), .pick (.t 5) (.c (.bool true)) (.t 7), []⟩ <|
      .op ⟨(some 2), .mov (.t 8), []⟩ <|
      .nil)) (
    .ret))

def op_none_hs : List (List Nat × List Nat) := []

end Wm.F
end

