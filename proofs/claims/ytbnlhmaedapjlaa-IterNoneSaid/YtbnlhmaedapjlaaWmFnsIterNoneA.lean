/- PRINTED by my tool: functions as those of my machine. -/
import Derived.Test.YtbnlhmaedapjlaaWmCore
set_option linter.all false
section
/- PRINTED by my tool (wip/wm/tool/Gen.lean): a function as one of my machine. -/
namespace Wm.F
open Wm
set_option maxRecDepth 100000

def withylaw20_IterNone_c3 : ACode :=
  .ops (
    .op ⟨(some 12), .loadN 6 (.t 3), []⟩ <|
    .op ⟨(some 13), .call 85 [(.t 12)], []⟩ <|
    .op ⟨(some 14), .mov (.t 13), []⟩ <|
    .grd 14 true [⟨(some 15), .mov (.t 1), []⟩,
        ⟨(some 16), .cmp .geq .i64 (.t 15) (.c (.int .i64 0)), []⟩] <|
    .op ⟨(some 17), .pick (.t 14) (.t 16) (.c (.bool false)), []⟩ <|
    .op ⟨(some 18), .mov (.t 17), []⟩ <|
    .grd 18 true [⟨(some 19), .mov (.t 1), []⟩,
        ⟨(some 20), .fieldA 0 (.t 3), []⟩,
        ⟨(some 21), .load1 (.t 20), []⟩,
        ⟨(some 22), .cmp .lss .i64 (.t 19) (.t 21), []⟩] <|
    .op ⟨(some 23), .pick (.t 18) (.t 22) (.c (.bool false)), []⟩ <|
    .op ⟨(some 24), .mov (.t 23), []⟩ <|
    .grd 24 true [⟨(some 25), .mov (.t 2), []⟩] <|
    .op ⟨(some 26), .pick (.t 24) (.t 25) (.c (.bool false)), []⟩ <|
    .op ⟨(some 8), .mov (.t 26), []⟩ <|
    .nil)

def withylaw20_IterNone_c2 : ACode :=
  .seq (.ops (
    .op ⟨(some 9), .mov (.c .nilp), []⟩ <|
    .nil)) (
  .seq (.ops (
    .op ⟨(some 27), .loadN 6 (.t 3), []⟩ <|
    .op ⟨(some 28), .mov (.t 1), []⟩ <|
    .op ⟨(some 29), .mov (.t 7), []⟩ <|
    .op ⟨(some 30), .call 167 [(.t 27), (.t 28), (.c (.int .u64 1)), (.t 29)], []⟩ <|
    .op ⟨(some 31), .eq true .ptr (.t 30) (.c .nilp), []⟩ <|
    .op ⟨(some 32), .mov (.t 8), []⟩ <|
    .op ⟨(some 33), .eq false .bool (.t 31) (.t 32), []⟩ <|
    .op ⟨(some 34), .mov (.t 33), []⟩ <|
    .grd 34 true [⟨(some 35), .mov (.t 9), []⟩,
        ⟨(some 36), .call 171 [(.t 35)], []⟩,
        ⟨(some 37), .cmp .eql .i64 (.t 36) (.c (.int .i64 0)), []⟩] <|
    .op ⟨(some 38), .pick (.t 34) (.t 37) (.c (.bool false)), []⟩ <|
    .op ⟨(some 39), .mov (.t 38), []⟩ <|
    .grd 39 true [⟨(some 40), .mov (.t 9), []⟩,
        ⟨(some 41), .call 172 [(.t 40)], []⟩,
        ⟨(some 42), .cmp .eql .i64 (.t 41) (.c (.int .i64 (-1))), []⟩] <|
    .op ⟨(some 43), .pick (.t 39) (.t 42) (.c (.bool false)), []⟩ <|
    .op ⟨(some 44), .mov (.t 43), []⟩ <|
    .grd 44 true [⟨(some 45), .mov (.t 9), []⟩,
        ⟨(some 46), .call 176 [(.t 45), (.c .nilp)], []⟩] <|
    .op ⟨(some 47), .pick (.t 44) (.t 46) (.c (.bool false)), []⟩ <|
    .op ⟨(some 48), .mov (.t 47), []⟩ <|
    .grd 48 true [⟨(some 49), .mov (.t 9), []⟩,
        ⟨(some 50), .call 177 [(.t 49)], []⟩,
        ⟨(some 51), .cmp .eql .i64 (.t 50) (.c (.int .i64 (-1))), []⟩] <|
    .op ⟨(some 52), .pick (.t 48) (.t 51) (.c (.bool false)), []⟩ <|
    .op ⟨(some 53), .mov (.t 52), []⟩ <|
    .grd 53 true [⟨(some 54), .call 160 [], []⟩] <|
    .op ⟨(some 55), .pick (.t 53) (.t 54) (.c (.bool false)), []⟩ <|
    .op ⟨(some 6), .mov (.t 55), []⟩ <|
    .nil)) (
  .ret))

def withylaw20_IterNone_c1 : ACode :=
  .seq (.ops (
    .op ⟨(some 10), .mov (.t 2), []⟩ <|
    .nil)) (
  .cond (.t 10) (.ops (
      .op ⟨(some 11), .call 148 [], []⟩ <|
      .op ⟨(some 7), .mov (.t 11), []⟩ <|
      .nil)) (.skip))

def withylaw20_IterNone_c0 : ACode :=
  .seq (.join [1, 2, 3, 7] [1, 3, 7, 8] (withylaw20_IterNone_c3)) (
  withylaw20_IterNone_c2)

/-- 31: withy/withylaw20.IterNone -/
def withylaw20_IterNone : AFunc where
  closed := true
  nparams := 3
  ntmps := 56
  results := [.tmp 6]
  body := .seq (.ops (
      .op ⟨(some 3), .box (.t 0), []⟩ <|
      .op ⟨(some 6), .mov (.c (.bool false)), []⟩ <|
      .nil)) (
    .seq (.ops (
      .op ⟨(some 7), .mov (.c .nilp), []⟩ <|
      .nil)) (
    .seq (.join [1, 2, 3, 7] [1, 2, 3, 7] (withylaw20_IterNone_c1)) (
    withylaw20_IterNone_c0)))

def withylaw20_IterNone_hs : List (List Nat × List Nat) := [([1000002, 1, 2, 3, 7], [1, 2, 3, 7]), ([1000001, 1, 2, 3, 7], [1, 3, 7, 8])]

end Wm.F
end

section
/- PRINTED by my tool (wip/wm/tool/Gen.lean): a function as one of my machine. -/
namespace Wm.F
open Wm
set_option maxRecDepth 100000

/-- 85: withy/withyref06.Right -/
def withyref06_Right : AFunc where
  closed := true
  nparams := 1
  ntmps := 61
  results := [.tmp 2]
  body := .seq (.ops (
      .op ⟨(some 1), .box (.t 0), []⟩ <|
      .op ⟨(some 2), .mov (.c (.bool false)), []⟩ <|
      .nil)) (
    .seq (.ops (
      .op ⟨(some 3), .fieldA 0 (.t 1), []⟩ <|
      .op ⟨(some 4), .load1 (.t 3), []⟩ <|
      .op ⟨(some 5), .cmp .geq .i64 (.t 4) (.c (.int .i64 1)), []⟩ <|
      .op ⟨(some 6), .mov (.t 5), []⟩ <|
      .grd 6 true [⟨(some 7), .fieldA 0 (.t 1), []⟩,
          ⟨(some 8), .load1 (.t 7), []⟩,
          ⟨(some 9), .cmp .leq .i64 (.t 8) (.c (.int .i64 64)), []⟩] <|
      .op ⟨(some 10), .pick (.t 6) (.t 9) (.c (.bool false)), []⟩ <|
      .op ⟨(some 11), .mov (.t 10), []⟩ <|
      .grd 11 true [⟨(some 12), .fieldA 1 (.t 1), []⟩,
          ⟨(some 13), .load1 (.t 12), []⟩,
          ⟨(some 14), .cmp .geq .i64 (.t 13) (.c (.int .i64 0)), []⟩] <|
      .op ⟨(some 15), .pick (.t 11) (.t 14) (.c (.bool false)), []⟩ <|
      .op ⟨(some 16), .mov (.t 15), []⟩ <|
      .grd 16 true [⟨(some 17), .fieldA 1 (.t 1), []⟩,
          ⟨(some 18), .load1 (.t 17), []⟩,
          ⟨(some 19), .cmp .leq .i64 (.t 18) (.c (.int .i64 8)), []⟩] <|
      .op ⟨(some 20), .pick (.t 16) (.t 19) (.c (.bool false)), []⟩ <|
      .op ⟨(some 21), .mov (.t 20), []⟩ <|
      .grd 21 true [⟨(some 22), .fieldA 2 (.t 1), []⟩,
          ⟨(some 23), .load1 (.t 22), []⟩,
          ⟨(some 24), .cmp .geq .i64 (.t 23) (.c (.int .i64 1)), []⟩] <|
      .op ⟨(some 25), .pick (.t 21) (.t 24) (.c (.bool false)), []⟩ <|
      .op ⟨(some 26), .mov (.t 25), []⟩ <|
      .grd 26 true [⟨(some 27), .fieldA 2 (.t 1), []⟩,
          ⟨(some 28), .load1 (.t 27), []⟩,
          ⟨(some 29), .cmp .leq .i64 (.t 28) (.c (.int .i64 8)), []⟩] <|
      .op ⟨(some 30), .pick (.t 26) (.t 29) (.c (.bool false)), []⟩ <|
      .op ⟨(some 31), .mov (.t 30), []⟩ <|
      .grd 31 true [⟨(some 32), .fieldA 3 (.t 1), []⟩,
          ⟨(some 33), .load1 (.t 32), []⟩,
          ⟨(some 34), .cmp .geq .i64 (.t 33) (.c (.int .i64 1)), []⟩] <|
      .op ⟨(some 35), .pick (.t 31) (.t 34) (.c (.bool false)), []⟩ <|
      .op ⟨(some 36), .mov (.t 35), []⟩ <|
      .grd 36 true [⟨(some 37), .fieldA 3 (.t 1), []⟩,
          ⟨(some 38), .load1 (.t 37), []⟩,
          ⟨(some 39), .cmp .leq .i64 (.t 38) (.c (.int .i64 16)), []⟩] <|
      .op ⟨(some 40), .pick (.t 36) (.t 39) (.c (.bool false)), []⟩ <|
      .op ⟨(some 41), .mov (.t 40), []⟩ <|
      .grd 41 true [⟨(some 42), .fieldA 4 (.t 1), []⟩,
          ⟨(some 43), .load1 (.t 42), []⟩,
          ⟨(some 44), .cmp .geq .i64 (.t 43) (.c (.int .i64 1)), []⟩] <|
      .op ⟨(some 45), .pick (.t 41) (.t 44) (.c (.bool false)), []⟩ <|
      .op ⟨(some 46), .mov (.t 45), []⟩ <|
      .grd 46 true [⟨(some 47), .fieldA 4 (.t 1), []⟩,
          ⟨(some 48), .load1 (.t 47), []⟩,
          ⟨(some 49), .cmp .leq .i64 (.t 48) (.c (.int .i64 1048576)), []⟩] <|
      .op ⟨(some 50), .pick (.t 46) (.t 49) (.c (.bool false)), []⟩ <|
      .op ⟨(some 51), .mov (.t 50), []⟩ <|
      .grd 51 true [⟨(some 52), .fieldA 5 (.t 1), []⟩,
          ⟨(some 53), .load1 (.t 52), []⟩,
          ⟨(some 54), .cmp .geq .i64 (.t 53) (.c (.int .i64 0)), []⟩] <|
      .op ⟨(some 55), .pick (.t 51) (.t 54) (.c (.bool false)), []⟩ <|
      .op ⟨(some 56), .mov (.t 55), []⟩ <|
      .grd 56 true [⟨(some 57), .fieldA 5 (.t 1), []⟩,
          ⟨(some 58), .load1 (.t 57), []⟩,
          ⟨(some 59), .cmp .leq .i64 (.t 58) (.c (.int .i64 64)), []⟩] <|
      .op ⟨(some 60), .pick (.t 56) (.t 59) (.c (.bool false)), []⟩ <|
      .op ⟨(some 2), .mov (.t 60), []⟩ <|
      .nil)) (
    .ret))

def withyref06_Right_hs : List (List Nat × List Nat) := []

end Wm.F
end

section
/- PRINTED by my tool (wip/wm/tool/Gen.lean): a function as one of my machine. -/
namespace Wm.F
open Wm
set_option maxRecDepth 100000

/-- 148: withy/field.NewBook -/
def field_NewBook : AFunc where
  closed := false
  nparams := 0
  ntmps := 5
  results := [.tmp 0]
  body := .seq (.ops (
      .op ⟨(some 0), .mov (.c .nilp), []⟩ <|
      .nil)) (
    .seq (.ops (
      .op ⟨(some 1), .mkMap, []⟩ <|
      .op ⟨(some 2), .mkMap, []⟩ <|
      .op ⟨(some 3), .build [(.int .i64 0), .nilmap, .nilmap] [(1, 1, (.t 1)), (2, 1, (.t 2))], []⟩ <|
      .op ⟨(some 4), .box (.t 3), []⟩ <|
      .op ⟨(some 0), .mov (.t 4), []⟩ <|
      .nil)) (
    .ret))

def field_NewBook_hs : List (List Nat × List Nat) := []

end Wm.F
end

section
/- PRINTED by my tool (wip/wm/tool/Gen.lean): a function as one of my machine. -/
namespace Wm.F
open Wm
set_option maxRecDepth 100000

def withylaw20_awake_c1 : ACode :=
  .seq (.seq (.ops (
    .op ⟨(some 25), .mov (.t 3), []⟩ <|
    .op ⟨(some 26), .cmp .lss .i64 (.t 25) (.c (.int .i64 60)), []⟩ <|
    .nil)) (
  .cond (.t 26) (.skip) (.exit 0))) (
  .seq (.block 1 (.seq (.ops (
    .op ⟨(some 29), .mov (.t 1), []⟩ <|
    .op ⟨(some 30), .call 162 [(.t 29)], []⟩ <|
    .nil)) (
  .ops (
    .op ⟨(some 31), .mov (.t 2), []⟩ <|
    .op ⟨(some 32), .mov (.t 1), []⟩ <|
    .op ⟨(some 33), .call 163 [(.t 31), (.t 32)], []⟩ <|
    .nil)))) (
  .ops (
    .op ⟨(some 27), .mov (.t 3), []⟩ <|
    .op ⟨(some 28), .arith .add .i64 (.t 27) (.c (.int .i64 1)), []⟩ <|
    .op ⟨(some 3), .mov (.t 28), []⟩ <|
    .nil)))

def withylaw20_awake_c0 : ACode :=
  .seq (.ops (
    .op ⟨(some 35), .mov (.t 1), []⟩ <|
    .op ⟨(some 36), .nilc (.t 35), []⟩ <|
    .op ⟨(some 37), .fieldA 1 (.t 36), []⟩ <|
    .op ⟨(some 38), .load1 (.t 37), []⟩ <|
    .op ⟨(some 34), .call 164 [], [{ g := none, op := .load1 (.t 37), d := 38 }]⟩ <|
    .op ⟨(some 39), .call 144 [(.t 34), (.t 38)], []⟩ <|
    .op ⟨(some 4), .mov (.t 39), []⟩ <|
    .nil)) (
  .seq (.seq (.ops (
    .op ⟨(some 40), .mov (.t 4), []⟩ <|
    .op ⟨(some 41), .eq false .ptr (.t 40) (.c .nilp), []⟩ <|
    .op ⟨(some 42), .mov (.t 41), []⟩ <|
    .grd 42 false [⟨(some 43), .mov (.t 4), []⟩,
        ⟨(some 44), .mov (.t 1), []⟩,
        ⟨(some 45), .nilc (.t 44), []⟩,
        ⟨(some 46), .fieldA 0 (.t 45), []⟩,
        ⟨(some 47), .load1 (.t 46), []⟩,
        ⟨(some 48), .call 145 [(.t 43), (.t 47)], []⟩] <|
    .op ⟨(some 49), .pick (.t 42) (.c (.bool true)) (.t 48), []⟩ <|
    .op ⟨(some 50), .mov (.t 49), []⟩ <|
    .grd 50 false [⟨(some 51), .mov (.t 4), []⟩,
        ⟨(some 52), .mov (.t 1), []⟩,
        ⟨(some 53), .nilc (.t 52), []⟩,
        ⟨(some 54), .fieldA 0 (.t 53), []⟩,
        ⟨(some 55), .load1 (.t 54), []⟩,
        ⟨(some 56), .call 145 [(.t 51), (.t 55)], []⟩,
        ⟨(some 57), .not (.t 56), []⟩] <|
    .op ⟨(some 58), .pick (.t 50) (.c (.bool true)) (.t 57), []⟩ <|
    .nil)) (
  .cond (.t 58) (.seq (.ops (
      .op ⟨(some 0), .mov (.c (.bool false)), []⟩ <|
      .nil)) (
    .ret)) (.skip))) (
  .seq (.ops (
    .op ⟨(some 60), .mov (.t 4), []⟩ <|
    .op ⟨(some 61), .nilc (.t 60), []⟩ <|
    .op ⟨(some 62), .fieldA 0 (.t 61), []⟩ <|
    .op ⟨(some 63), .load1 (.t 62), []⟩ <|
    .op ⟨(some 64), .mov (.t 1), []⟩ <|
    .op ⟨(some 65), .nilc (.t 64), []⟩ <|
    .op ⟨(some 66), .fieldA 1 (.t 65), []⟩ <|
    .op ⟨(some 67), .load1 (.t 66), []⟩ <|
    .op ⟨(some 59), .call 164 [], [{ g := none, op := .load1 (.t 66), d := 67 }, { g := none, op := .load1 (.t 62), d := 63 }]⟩ <|
    .op ⟨(some 68), .call 167 [(.t 59), (.c (.int .i64 0)), (.t 63), (.t 67)], []⟩ <|
    .op ⟨(some 5), .mov (.t 68), []⟩ <|
    .nil)) (
  .seq (.ops (
    .op ⟨(some 69), .mov (.t 1), []⟩ <|
    .op ⟨(some 70), .mov (.t 5), []⟩ <|
    .op ⟨(some 71), .call 166 [(.t 69), (.t 70), (.c .nilsl), (.c .nilsl)], []⟩ <|
    .op ⟨(some 6), .mov (.t 71), []⟩ <|
    .nil)) (
  .seq (.ops (
    .op ⟨(some 72), .mov (.t 6), []⟩ <|
    .op ⟨(some 73), .lenSl (.t 72), []⟩ <|
    .op ⟨(some 74), .cmp .eql .i64 (.t 73) (.c (.int .i64 2)), []⟩ <|
    .op ⟨(some 75), .mov (.t 74), []⟩ <|
    .grd 75 true [⟨(some 76), .mov (.t 6), []⟩,
        ⟨(some 77), .indexA 1 (.t 76) (.c (.int .i64 0)), []⟩,
        ⟨(some 78), .load1 (.t 77), []⟩,
        ⟨(some 79), .cmp .eql .i64 (.t 78) (.c (.int .i64 0)), []⟩] <|
    .op ⟨(some 80), .pick (.t 75) (.t 79) (.c (.bool false)), []⟩ <|
    .op ⟨(some 81), .mov (.t 80), []⟩ <|
    .grd 81 true [⟨(some 82), .mov (.t 6), []⟩,
        ⟨(some 83), .indexA 1 (.t 82) (.c (.int .i64 1)), []⟩,
        ⟨(some 84), .load1 (.t 83), []⟩,
        ⟨(some 85), .cmp .eql .i64 (.t 84) (.c (.int .i64 3)), []⟩] <|
    .op ⟨(some 86), .pick (.t 81) (.t 85) (.c (.bool false)), []⟩ <|
    .op ⟨(some 0), .mov (.t 86), []⟩ <|
    .nil)) (
  .ret)))))

/-- 160: withy/withylaw20.awake -/
def withylaw20_awake : AFunc where
  closed := true
  nparams := 0
  ntmps := 87
  results := [.tmp 0]
  body := .seq (.ops (
      .op ⟨(some 0), .mov (.c (.bool false)), []⟩ <|
      .nil)) (
    .seq (.ops (
      .op ⟨(some 7), .call 161 [], []⟩ <|
      .op ⟨(some 1), .mov (.t 7), []⟩ <|
      .nil)) (
    .seq (.seq (.ops (
      .op ⟨(some 8), .mov (.t 1), []⟩ <|
      .op ⟨(some 9), .nilc (.t 8), []⟩ <|
      .op ⟨(some 10), .fieldA 1 (.t 9), []⟩ <|
      .op ⟨(some 11), .load1 (.t 10), []⟩ <|
      .op ⟨(some 12), .eq false .ptr (.t 11) (.c .nilp), []⟩ <|
      .op ⟨(some 13), .mov (.t 12), []⟩ <|
      .grd 13 false [⟨(some 14), .mov (.t 1), []⟩,
          ⟨(some 15), .nilc (.t 14), []⟩,
          ⟨(some 16), .fieldA 0 (.t 15), []⟩,
          ⟨(some 17), .load1 (.t 16), []⟩,
          ⟨(some 18), .eq false .ptr (.t 17) (.c .nilp), []⟩] <|
      .op ⟨(some 19), .pick (.t 13) (.c (.bool true)) (.t 18), []⟩ <|
      .nil)) (
    .cond (.t 19) (.seq (.ops (
        .op ⟨(some 0), .mov (.c (.bool false)), []⟩ <|
        .nil)) (
      .ret)) (.skip))) (
    .seq (.ops (
      .op ⟨(some 20), .build [(.int .i64 0), (.int .i64 0), (.int .i64 0)] [(0, 1, (.c (.int .i64 0))), (1, 1, (.c (.int .i64 0))), (2, 1, (.c (.int .i64 4)))], []⟩ <|
      .op ⟨(some 21), .build [(.int .i64 0), (.int .i64 0), (.int .i64 0)] [(0, 1, (.c (.int .i64 0))), (1, 1, (.c (.int .i64 1))), (2, 1, (.c (.int .i64 1)))], []⟩ <|
      .op ⟨(some 22), .buildSl 3 2 [(.int .i64 0), (.int .i64 0), (.int .i64 0)] [(0, 3, (.t 20)), (3, 3, (.t 21))], []⟩ <|
      .op ⟨(some 23), .build [.nilsl, (.int .i64 0), (.int .i64 0), (.int .i64 0), .nilp] [(0, 1, (.t 22))], []⟩ <|
      .op ⟨(some 24), .box (.t 23), []⟩ <|
      .op ⟨(some 2), .mov (.t 24), []⟩ <|
      .nil)) (
    .seq (.seq (.ops (
      .op ⟨(some 3), .mov (.c (.int .i64 0)), []⟩ <|
      .nil)) (
    .block 0 (.loop [1, 2, 3] [1] (withylaw20_awake_c1)))) (
    withylaw20_awake_c0)))))

def withylaw20_awake_hs : List (List Nat × List Nat) := [([1, 2, 3], [1])]

end Wm.F
end

section
/- PRINTED by my tool (wip/wm/tool/Gen.lean): a function as one of my machine. -/
namespace Wm.F
open Wm
set_option maxRecDepth 100000

/-- 167: withy/iter.NewWalk -/
def iter_NewWalk : AFunc where
  closed := false
  nparams := 4
  ntmps := 26
  results := [.tmp 8]
  body := .seq (.ops (
      .op ⟨(some 4), .box (.t 0), []⟩ <|
      .op ⟨(some 8), .mov (.c .nilp), []⟩ <|
      .nil)) (
    .seq (.seq (.ops (
      .op ⟨(some 9), .loadN 6 (.t 4), []⟩ <|
      .op ⟨(some 10), .mov (.t 1), []⟩ <|
      .op ⟨(some 11), .call 261 [(.t 9), (.t 10)], []⟩ <|
      .op ⟨(some 12), .cmp .lss .i64 (.t 11) (.c (.int .i64 0)), []⟩ <|
      .op ⟨(some 13), .mov (.t 12), []⟩ <|
      .grd 13 false [⟨(some 14), .mov (.t 3), []⟩,
          ⟨(some 15), .eq false .ptr (.t 14) (.c .nilp), []⟩] <|
      .op ⟨(some 16), .pick (.t 13) (.c (.bool true)) (.t 15), []⟩ <|
      .nil)) (
    .cond (.t 16) (.seq (.ops (
        .op ⟨(some 8), .mov (.c .nilp), []⟩ <|
        .nil)) (
      .ret)) (.skip))) (
    .seq (.ops (
      .op ⟨(some 17), .loadN 6 (.t 4), []⟩ <|
      .op ⟨(some 18), .mov (.t 2), []⟩ <|
      .op ⟨(some 19), .mov (.t 3), []⟩ <|
      .op ⟨(some 20), .mov (.t 1), []⟩ <|
      .op ⟨(some 21), .buildSl 1 1 [(.int .i64 0)] [(0, 1, (.t 20))], []⟩ <|
      .op ⟨(some 22), .mov (.t 1), []⟩ <|
      .op ⟨(some 23), .buildSl 1 1 [(.int .i64 0)] [(0, 1, (.t 22))], []⟩ <|
      .op ⟨(some 24), .build [(.int .i64 0), (.int .i64 0), (.int .i64 0), (.int .i64 0), (.int .i64 0), (.int .i64 0), (.int .u64 0), .nilp, .nilsl, .nilsl, .nilp, (.int .i64 0), (.int .i64 0), (.int .i64 0)] [(0, 6, (.t 17)), (6, 1, (.t 18)), (7, 1, (.t 19)), (8, 1, (.t 21)), (9, 1, (.t 23))], []⟩ <|
      .op ⟨(some 25), .box (.t 24), []⟩ <|
      .op ⟨(some 8), .mov (.t 25), []⟩ <|
      .nil)) (
    .ret)))

def iter_NewWalk_hs : List (List Nat × List Nat) := []

end Wm.F
end

section
/- PRINTED by my tool (wip/wm/tool/Gen.lean): a function as one of my machine. -/
namespace Wm.F
open Wm
set_option maxRecDepth 100000

/-- 171: (*withy/iter.Walk).Left -/
def iter_Walk_Left : AFunc where
  closed := false
  nparams := 1
  ntmps := 10
  results := [.tmp 2]
  body := .seq (.ops (
      .op ⟨(some 2), .mov (.c (.int .i64 0)), []⟩ <|
      .nil)) (
    .seq (.seq (.ops (
      .op ⟨(some 3), .mov (.t 0), []⟩ <|
      .op ⟨(some 4), .eq false .ptr (.t 3) (.c .nilp), []⟩ <|
      .nil)) (
    .cond (.t 4) (.seq (.ops (
        .op ⟨(some 2), .mov (.c (.int .i64 0)), []⟩ <|
        .nil)) (
      .ret)) (.skip))) (
    .seq (.ops (
      .op ⟨(some 5), .mov (.t 0), []⟩ <|
      .op ⟨(some 6), .nilc (.t 5), []⟩ <|
      .op ⟨(some 7), .fieldA 8 (.t 6), []⟩ <|
      .op ⟨(some 8), .load1 (.t 7), []⟩ <|
      .op ⟨(some 9), .lenSl (.t 8), []⟩ <|
      .op ⟨(some 2), .mov (.t 9), []⟩ <|
      .nil)) (
    .ret)))

def iter_Walk_Left_hs : List (List Nat × List Nat) := []

end Wm.F
end

section
/- PRINTED by my tool (wip/wm/tool/Gen.lean): a function as one of my machine. -/
namespace Wm.F
open Wm
set_option maxRecDepth 100000

/-- 172: (*withy/iter.Walk).Front -/
def iter_Walk_Front : AFunc where
  closed := false
  nparams := 1
  ntmps := 12
  results := [.tmp 2]
  body := .seq (.ops (
      .op ⟨(some 2), .mov (.c (.int .i64 0)), []⟩ <|
      .nil)) (
    .seq (.seq (.ops (
      .op ⟨(some 3), .mov (.t 0), []⟩ <|
      .op ⟨(some 4), .call 171 [(.t 3)], []⟩ <|
      .op ⟨(some 5), .cmp .eql .i64 (.t 4) (.c (.int .i64 0)), []⟩ <|
      .nil)) (
    .cond (.t 5) (.seq (.ops (
        .op ⟨(some 2), .mov (.c (.int .i64 (-1))), []⟩ <|
        .nil)) (
      .ret)) (.skip))) (
    .seq (.ops (
      .op ⟨(some 6), .mov (.t 0), []⟩ <|
      .op ⟨(some 7), .nilc (.t 6), []⟩ <|
      .op ⟨(some 8), .fieldA 8 (.t 7), []⟩ <|
      .op ⟨(some 9), .load1 (.t 8), []⟩ <|
      .op ⟨(some 10), .indexA 1 (.t 9) (.c (.int .i64 0)), []⟩ <|
      .op ⟨(some 11), .load1 (.t 10), []⟩ <|
      .op ⟨(some 2), .mov (.t 11), []⟩ <|
      .nil)) (
    .ret)))

def iter_Walk_Front_hs : List (List Nat × List Nat) := []

end Wm.F
end

section
/- PRINTED by my tool (wip/wm/tool/Gen.lean): a function as one of my machine. -/
namespace Wm.F
open Wm
set_option maxRecDepth 100000

/-- 176: (*withy/iter.Walk).Step -/
def iter_Walk_Step : AFunc where
  closed := false
  nparams := 2
  ntmps := 105
  results := [.tmp 4]
  body := .seq (.ops (
      .op ⟨(some 4), .mov (.c (.bool false)), []⟩ <|
      .nil)) (
    .seq (.seq (.ops (
      .op ⟨(some 8), .mov (.t 0), []⟩ <|
      .op ⟨(some 9), .call 171 [(.t 8)], []⟩ <|
      .op ⟨(some 10), .cmp .eql .i64 (.t 9) (.c (.int .i64 0)), []⟩ <|
      .nil)) (
    .cond (.t 10) (.seq (.ops (
        .op ⟨(some 4), .mov (.c (.bool true)), []⟩ <|
        .nil)) (
      .ret)) (.skip))) (
    .seq (.seq (.ops (
      .op ⟨(some 11), .mov (.t 0), []⟩ <|
      .op ⟨(some 12), .nilc (.t 11), []⟩ <|
      .op ⟨(some 13), .fieldA 13 (.t 12), []⟩ <|
      .op ⟨(some 14), .load1 (.t 13), []⟩ <|
      .nil)) (
    .block 0 (.seq (.ops (
      .op ⟨(some 16), .cmp .eql .i64 (.t 14) (.c (.int .i64 0)), []⟩ <|
      .op ⟨(some 15), .mov (.t 16), []⟩ <|
      .nil)) (
    .cond (.t 15) (.seq (.ops (
        .op ⟨(some 18), .mov (.t 1), []⟩ <|
        .op ⟨(some 19), .mov (.t 0), []⟩ <|
        .op ⟨(some 20), .nilc (.t 19), []⟩ <|
        .op ⟨(some 21), .fieldA 0 (.t 20), []⟩ <|
        .op ⟨(some 22), .loadN 6 (.t 21), []⟩ <|
        .op ⟨(some 23), .mov (.t 0), []⟩ <|
        .op ⟨(some 24), .nilc (.t 23), []⟩ <|
        .op ⟨(some 25), .fieldA 8 (.t 24), []⟩ <|
        .op ⟨(some 26), .load1 (.t 25), []⟩ <|
        .op ⟨(some 27), .indexA 1 (.t 26) (.c (.int .i64 0)), []⟩ <|
        .op ⟨(some 28), .load1 (.t 27), []⟩ <|
        .op ⟨(some 29), .call 261 [(.t 22), (.t 28)], []⟩ <|
        .op ⟨(some 30), .call 266 [(.t 18), (.t 29)], []⟩ <|
        .op ⟨(some 31), .call 265 [(.t 30)], []⟩ <|
        .op ⟨(some 17), .mov (.t 31), []⟩ <|
        .op ⟨(some 32), .extract (.t 17) 0, []⟩ <|
        .op ⟨(some 33), .extract (.t 17) 1, []⟩ <|
        .op ⟨(some 5), .alloc [(.int .i64 0), (.int .i64 0), (.bool false), (.int .i64 0), (.int .i64 0), (.int .i64 0)], []⟩ <|
        .op ⟨none, .store 6 (.t 5) (.t 32), []⟩ <|
        .op ⟨(some 6), .mov (.t 33), []⟩ <|
        .nil)) (
      .seq (.ops (
        .op ⟨(some 34), .mov (.t 0), []⟩ <|
        .op ⟨(some 35), .mov (.t 0), []⟩ <|
        .op ⟨(some 36), .fieldA 3 (.t 5), []⟩ <|
        .op ⟨(some 37), .load1 (.t 36), []⟩ <|
        .op ⟨(some 38), .nilc (.t 34), []⟩ <|
        .op ⟨(some 39), .fieldA 11 (.t 38), []⟩ <|
        .op ⟨none, .store 1 (.t 39) (.t 37), []⟩ <|
        .op ⟨(some 40), .nilc (.t 35), []⟩ <|
        .op ⟨(some 41), .fieldA 12 (.t 40), []⟩ <|
        .op ⟨none, .store 1 (.t 41) (.c (.int .i64 0)), []⟩ <|
        .nil)) (
      .ops (
        .op ⟨(some 42), .mov (.t 0), []⟩ <|
        .op ⟨(some 43), .call 330 [(.t 42)], []⟩ <|
        .nil)))) (.seq (.ops (
        .op ⟨(some 45), .cmp .eql .i64 (.t 14) (.c (.int .i64 1)), []⟩ <|
        .op ⟨(some 44), .mov (.t 45), []⟩ <|
        .nil)) (
      .cond (.t 44) (.seq (.seq (.ops (
          .op ⟨(some 46), .mov (.t 0), []⟩ <|
          .op ⟨(some 47), .nilc (.t 46), []⟩ <|
          .op ⟨(some 48), .fieldA 10 (.t 47), []⟩ <|
          .op ⟨(some 49), .load1 (.t 48), []⟩ <|
          .op ⟨(some 50), .mov (.t 1), []⟩ <|
          .op ⟨(some 51), .call 147 [(.t 49), (.t 50)], []⟩ <|
          .op ⟨(some 52), .not (.t 51), []⟩ <|
          .nil)) (
        .cond (.t 52) (.exit 0) (.skip))) (
        .seq (.seq (.ops (
          .op ⟨(some 53), .mov (.t 0), []⟩ <|
          .op ⟨(some 54), .nilc (.t 53), []⟩ <|
          .op ⟨(some 55), .fieldA 10 (.t 54), []⟩ <|
          .op ⟨(some 56), .load1 (.t 55), []⟩ <|
          .op ⟨(some 57), .nilc (.t 56), []⟩ <|
          .op ⟨(some 58), .fieldA 0 (.t 57), []⟩ <|
          .op ⟨(some 59), .load1 (.t 58), []⟩ <|
          .op ⟨(some 7), .mov (.t 59), []⟩ <|
          .nil)) (
        .seq (.ops (
          .op ⟨(some 60), .mov (.t 7), []⟩ <|
          .op ⟨(some 61), .cmp .geq .i64 (.t 60) (.c (.int .i64 0)), []⟩ <|
          .op ⟨(some 62), .mov (.t 61), []⟩ <|
          .grd 62 true [⟨(some 63), .mov (.t 0), []⟩,
              ⟨(some 64), .nilc (.t 63), []⟩,
              ⟨(some 65), .fieldA 9 (.t 64), []⟩,
              ⟨(some 66), .load1 (.t 65), []⟩,
              ⟨(some 67), .mov (.t 7), []⟩,
              ⟨(some 68), .call 331 [(.t 66), (.t 67)], []⟩,
              ⟨(some 69), .not (.t 68), []⟩] <|
          .op ⟨(some 70), .pick (.t 62) (.t 69) (.c (.bool false)), []⟩ <|
          .nil)) (
        .cond (.t 70) (.seq (.ops (
            .op ⟨(some 71), .mov (.t 0), []⟩ <|
            .op ⟨(some 72), .mov (.t 0), []⟩ <|
            .op ⟨(some 73), .nilc (.t 72), []⟩ <|
            .op ⟨(some 74), .fieldA 9 (.t 73), []⟩ <|
            .op ⟨(some 75), .load1 (.t 74), []⟩ <|
            .op ⟨(some 76), .mov (.t 7), []⟩ <|
            .op ⟨(some 77), .buildSl 1 1 [(.int .i64 0)] [(0, 1, (.t 76))], []⟩ <|
            .op ⟨(some 78), .append 1 8 (.t 75) (.t 77), []⟩ <|
            .op ⟨(some 79), .nilc (.t 71), []⟩ <|
            .op ⟨(some 80), .fieldA 9 (.t 79), []⟩ <|
            .op ⟨none, .store 1 (.t 80) (.t 78), []⟩ <|
            .nil)) (
          .ops (
            .op ⟨(some 81), .mov (.t 0), []⟩ <|
            .op ⟨(some 82), .mov (.t 0), []⟩ <|
            .op ⟨(some 83), .nilc (.t 82), []⟩ <|
            .op ⟨(some 84), .fieldA 8 (.t 83), []⟩ <|
            .op ⟨(some 85), .load1 (.t 84), []⟩ <|
            .op ⟨(some 86), .mov (.t 7), []⟩ <|
            .op ⟨(some 87), .buildSl 1 1 [(.int .i64 0)] [(0, 1, (.t 86))], []⟩ <|
            .op ⟨(some 88), .append 1 8 (.t 85) (.t 87), []⟩ <|
            .op ⟨(some 89), .nilc (.t 81), []⟩ <|
            .op ⟨(some 90), .fieldA 8 (.t 89), []⟩ <|
            .op ⟨none, .store 1 (.t 90) (.t 88), []⟩ <|
            .nil))) (.skip)))) (
        .seq (.ops (
          .op ⟨(some 91), .mov (.t 0), []⟩ <|
          .op ⟨(some 92), .nilc (.t 91), []⟩ <|
          .op ⟨(some 93), .fieldA 12 (.t 92), []⟩ <|
          .op ⟨(some 94), .load1 (.t 93), []⟩ <|
          .op ⟨(some 95), .arith .add .i64 (.t 94) (.c (.int .i64 1)), []⟩ <|
          .op ⟨(some 96), .nilc (.t 91), []⟩ <|
          .op ⟨(some 97), .fieldA 12 (.t 96), []⟩ <|
          .op ⟨none, .store 1 (.t 97) (.t 95), []⟩ <|
          .nil)) (
        .ops (
          .op ⟨(some 98), .mov (.t 0), []⟩ <|
          .op ⟨(some 99), .call 330 [(.t 98)], []⟩ <|
          .nil))))) (.skip))))))) (
    .seq (.ops (
      .op ⟨(some 100), .mov (.t 0), []⟩ <|
      .op ⟨(some 101), .nilc (.t 100), []⟩ <|
      .op ⟨(some 102), .fieldA 13 (.t 101), []⟩ <|
      .op ⟨(some 103), .load1 (.t 102), []⟩ <|
      .op ⟨(some 104), .cmp .eql .i64 (.t 103) (.c (.int .i64 2)), []⟩ <|
      .op ⟨(some 4), .mov (.t 104), []⟩ <|
      .nil)) (
    .ret))))

def iter_Walk_Step_hs : List (List Nat × List Nat) := []

end Wm.F
end

section
/- PRINTED by my tool (wip/wm/tool/Gen.lean): a function as one of my machine. -/
namespace Wm.F
open Wm
set_option maxRecDepth 100000

/-- 177: (*withy/iter.Walk).Go -/
def iter_Walk_Go : AFunc where
  closed := false
  nparams := 1
  ntmps := 32
  results := [.tmp 2]
  body := .seq (.ops (
      .op ⟨(some 2), .mov (.c (.int .i64 0)), []⟩ <|
      .nil)) (
    .seq (.seq (.ops (
      .op ⟨(some 4), .mov (.t 0), []⟩ <|
      .op ⟨(some 5), .call 171 [(.t 4)], []⟩ <|
      .op ⟨(some 6), .cmp .eql .i64 (.t 5) (.c (.int .i64 0)), []⟩ <|
      .op ⟨(some 7), .mov (.t 6), []⟩ <|
      .grd 7 false [⟨(some 8), .mov (.t 0), []⟩,
          ⟨(some 9), .nilc (.t 8), []⟩,
          ⟨(some 10), .fieldA 13 (.t 9), []⟩,
          ⟨(some 11), .load1 (.t 10), []⟩,
          ⟨(some 12), .cmp .neq .i64 (.t 11) (.c (.int .i64 2)), []⟩] <|
      .op ⟨(some 13), .pick (.t 7) (.c (.bool true)) (.t 12), []⟩ <|
      .nil)) (
    .cond (.t 13) (.seq (.ops (
        .op ⟨(some 2), .mov (.c (.int .i64 (-1))), []⟩ <|
        .nil)) (
      .ret)) (.skip))) (
    .seq (.ops (
      .op ⟨(some 14), .mov (.t 0), []⟩ <|
      .op ⟨(some 15), .nilc (.t 14), []⟩ <|
      .op ⟨(some 16), .fieldA 8 (.t 15), []⟩ <|
      .op ⟨(some 17), .load1 (.t 16), []⟩ <|
      .op ⟨(some 18), .indexA 1 (.t 17) (.c (.int .i64 0)), []⟩ <|
      .op ⟨(some 19), .load1 (.t 18), []⟩ <|
      .op ⟨(some 3), .mov (.t 19), []⟩ <|
      .nil)) (
    .seq (.ops (
      .op ⟨(some 20), .mov (.t 0), []⟩ <|
      .op ⟨(some 21), .mov (.t 0), []⟩ <|
      .op ⟨(some 22), .mov (.t 0), []⟩ <|
      .op ⟨(some 23), .nilc (.t 22), []⟩ <|
      .op ⟨(some 24), .fieldA 8 (.t 23), []⟩ <|
      .op ⟨(some 25), .load1 (.t 24), []⟩ <|
      .op ⟨(some 26), .slice 1 (.t 25) (some (.c (.int .i64 1))) none none, []⟩ <|
      .op ⟨(some 27), .nilc (.t 20), []⟩ <|
      .op ⟨(some 28), .fieldA 8 (.t 27), []⟩ <|
      .op ⟨none, .store 1 (.t 28) (.t 26), []⟩ <|
      .op ⟨(some 29), .nilc (.t 21), []⟩ <|
      .op ⟨(some 30), .fieldA 13 (.t 29), []⟩ <|
      .op ⟨none, .store 1 (.t 30) (.c (.int .i64 0)), []⟩ <|
      .nil)) (
    .seq (.ops (
      .op ⟨(some 31), .mov (.t 3), []⟩ <|
      .op ⟨(some 2), .mov (.t 31), []⟩ <|
      .nil)) (
    .ret)))))

def iter_Walk_Go_hs : List (List Nat × List Nat) := []

end Wm.F
end

section
/- PRINTED by my tool (wip/wm/tool/Gen.lean): a function as one of my machine. -/
namespace Wm.F
open Wm
set_option maxRecDepth 100000

/-- 144: withy/field.NewTurn -/
def field_NewTurn : AFunc where
  closed := false
  nparams := 2
  ntmps := 15
  results := [.tmp 4]
  body := .seq (.ops (
      .op ⟨(some 2), .box (.t 0), []⟩ <|
      .op ⟨(some 4), .mov (.c .nilp), []⟩ <|
      .nil)) (
    .seq (.seq (.ops (
      .op ⟨(some 5), .loadN 6 (.t 2), []⟩ <|
      .op ⟨(some 6), .call 263 [(.t 5)], []⟩ <|
      .op ⟨(some 7), .not (.t 6), []⟩ <|
      .op ⟨(some 8), .mov (.t 7), []⟩ <|
      .grd 8 false [⟨(some 9), .mov (.t 1), []⟩,
          ⟨(some 10), .eq false .ptr (.t 9) (.c .nilp), []⟩] <|
      .op ⟨(some 11), .pick (.t 8) (.c (.bool true)) (.t 10), []⟩ <|
      .nil)) (
    .cond (.t 11) (.seq (.ops (
        .op ⟨(some 4), .mov (.c .nilp), []⟩ <|
        .nil)) (
      .ret)) (.skip))) (
    .seq (.ops (
      .op ⟨(some 12), .mov (.t 1), []⟩ <|
      .op ⟨(some 13), .build [(.int .u64 0), (.int .i64 0), .nilp, (.int .i64 0)] [(2, 1, (.t 12))], []⟩ <|
      .op ⟨(some 14), .box (.t 13), []⟩ <|
      .op ⟨(some 4), .mov (.t 14), []⟩ <|
      .nil)) (
    .ret)))

def field_NewTurn_hs : List (List Nat × List Nat) := []

end Wm.F
end

section
/- PRINTED by my tool (wip/wm/tool/Gen.lean): a function as one of my machine. -/
namespace Wm.F
open Wm
set_option maxRecDepth 100000

/-- 145: (*withy/field.Turn).Step -/
def field_Turn_Step : AFunc where
  closed := false
  nparams := 2
  ntmps := 72
  results := [.tmp 4]
  body := .seq (.ops (
      .op ⟨(some 4), .mov (.c (.bool false)), []⟩ <|
      .nil)) (
    .seq (.seq (.ops (
      .op ⟨(some 5), .mov (.t 0), []⟩ <|
      .op ⟨(some 6), .eq false .ptr (.t 5) (.c .nilp), []⟩ <|
      .nil)) (
    .cond (.t 6) (.seq (.ops (
        .op ⟨(some 4), .mov (.c (.bool true)), []⟩ <|
        .nil)) (
      .ret)) (.skip))) (
    .seq (.seq (.ops (
      .op ⟨(some 7), .mov (.t 0), []⟩ <|
      .op ⟨(some 8), .nilc (.t 7), []⟩ <|
      .op ⟨(some 9), .fieldA 3 (.t 8), []⟩ <|
      .op ⟨(some 10), .load1 (.t 9), []⟩ <|
      .nil)) (
    .block 0 (.seq (.ops (
      .op ⟨(some 12), .cmp .eql .i64 (.t 10) (.c (.int .i64 0)), []⟩ <|
      .op ⟨(some 11), .mov (.t 12), []⟩ <|
      .nil)) (
    .cond (.t 11) (.seq (.ops (
        .op ⟨(some 13), .mov (.t 0), []⟩ <|
        .op ⟨(some 14), .mov (.t 1), []⟩ <|
        .op ⟨(some 15), .call 266 [(.t 14), (.c (.int .i64 0))], []⟩ <|
        .op ⟨(some 16), .nilc (.t 13), []⟩ <|
        .op ⟨(some 17), .fieldA 0 (.t 16), []⟩ <|
        .op ⟨none, .store 1 (.t 17) (.t 15), []⟩ <|
        .nil)) (
      .ops (
        .op ⟨(some 18), .mov (.t 0), []⟩ <|
        .op ⟨(some 19), .nilc (.t 18), []⟩ <|
        .op ⟨(some 20), .fieldA 3 (.t 19), []⟩ <|
        .op ⟨none, .store 1 (.t 20) (.c (.int .i64 1)), []⟩ <|
        .nil))) (.seq (.ops (
        .op ⟨(some 22), .cmp .eql .i64 (.t 10) (.c (.int .i64 1)), []⟩ <|
        .op ⟨(some 21), .mov (.t 22), []⟩ <|
        .nil)) (
      .cond (.t 21) (.seq (.seq (.ops (
          .op ⟨(some 23), .mov (.t 1), []⟩ <|
          .op ⟨(some 24), .mov (.t 0), []⟩ <|
          .op ⟨(some 25), .nilc (.t 24), []⟩ <|
          .op ⟨(some 26), .fieldA 0 (.t 25), []⟩ <|
          .op ⟨(some 27), .load1 (.t 26), []⟩ <|
          .op ⟨(some 28), .mov (.t 0), []⟩ <|
          .op ⟨(some 29), .nilc (.t 28), []⟩ <|
          .op ⟨(some 30), .fieldA 0 (.t 29), []⟩ <|
          .op ⟨(some 31), .load1 (.t 30), []⟩ <|
          .op ⟨(some 32), .arith .add .u64 (.t 31) (.c (.int .u64 1)), []⟩ <|
          .op ⟨(some 33), .call 269 [(.t 23), (.c (.int .i64 0)), (.t 27), (.t 32)], []⟩ <|
          .nil)) (
        .cond (.t 33) (.ops (
            .op ⟨(some 34), .mov (.t 0), []⟩ <|
            .op ⟨(some 35), .nilc (.t 34), []⟩ <|
            .op ⟨(some 36), .fieldA 2 (.t 35), []⟩ <|
            .op ⟨(some 37), .load1 (.t 36), []⟩ <|
            .op ⟨(some 38), .nilc (.t 37), []⟩ <|
            .op ⟨(some 39), .fieldA 2 (.t 38), []⟩ <|
            .op ⟨(some 40), .load1 (.t 39), []⟩ <|
            .op ⟨(some 41), .mov (.t 0), []⟩ <|
            .op ⟨(some 42), .nilc (.t 41), []⟩ <|
            .op ⟨(some 43), .fieldA 0 (.t 42), []⟩ <|
            .op ⟨(some 44), .load1 (.t 43), []⟩ <|
            .op ⟨(some 45), .mov (.t 0), []⟩ <|
            .op ⟨(some 46), .nilc (.t 45), []⟩ <|
            .op ⟨(some 47), .fieldA 2 (.t 46), []⟩ <|
            .op ⟨(some 48), .load1 (.t 47), []⟩ <|
            .op ⟨(some 49), .nilc (.t 48), []⟩ <|
            .op ⟨(some 50), .fieldA 0 (.t 49), []⟩ <|
            .op ⟨(some 51), .load1 (.t 50), []⟩ <|
            .op ⟨none, .mapSet .int (.t 40) (.t 44) (.t 51), []⟩ <|
            .nil)) (.skip))) (
        .seq (.ops (
          .op ⟨(some 52), .mov (.t 0), []⟩ <|
          .op ⟨(some 53), .mov (.t 0), []⟩ <|
          .op ⟨(some 54), .nilc (.t 53), []⟩ <|
          .op ⟨(some 55), .fieldA 2 (.t 54), []⟩ <|
          .op ⟨(some 56), .load1 (.t 55), []⟩ <|
          .op ⟨(some 57), .mov (.t 0), []⟩ <|
          .op ⟨(some 58), .nilc (.t 57), []⟩ <|
          .op ⟨(some 59), .fieldA 0 (.t 58), []⟩ <|
          .op ⟨(some 60), .load1 (.t 59), []⟩ <|
          .op ⟨(some 61), .call 153 [(.t 56), (.t 60)], []⟩ <|
          .op ⟨(some 62), .nilc (.t 52), []⟩ <|
          .op ⟨(some 63), .fieldA 1 (.t 62), []⟩ <|
          .op ⟨none, .store 1 (.t 63) (.t 61), []⟩ <|
          .nil)) (
        .ops (
          .op ⟨(some 64), .mov (.t 0), []⟩ <|
          .op ⟨(some 65), .nilc (.t 64), []⟩ <|
          .op ⟨(some 66), .fieldA 3 (.t 65), []⟩ <|
          .op ⟨none, .store 1 (.t 66) (.c (.int .i64 2)), []⟩ <|
          .nil)))) (.skip))))))) (
    .seq (.ops (
      .op ⟨(some 67), .mov (.t 0), []⟩ <|
      .op ⟨(some 68), .nilc (.t 67), []⟩ <|
      .op ⟨(some 69), .fieldA 3 (.t 68), []⟩ <|
      .op ⟨(some 70), .load1 (.t 69), []⟩ <|
      .op ⟨(some 71), .cmp .eql .i64 (.t 70) (.c (.int .i64 2)), []⟩ <|
      .op ⟨(some 4), .mov (.t 71), []⟩ <|
      .nil)) (
    .ret))))

def field_Turn_Step_hs : List (List Nat × List Nat) := []

end Wm.F
end

section
/- PRINTED by my tool (wip/wm/tool/Gen.lean): a function as one of my machine. -/
namespace Wm.F
open Wm
set_option maxRecDepth 100000

def withylaw20_begin_c1 : ACode :=
  .seq (.seq (.ops (
    .op ⟨(some 6), .mov (.t 2), []⟩ <|
    .op ⟨(some 7), .cmp .lss .i64 (.t 6) (.c (.int .i64 40)), []⟩ <|
    .nil)) (
  .cond (.t 7) (.skip) (.exit 0))) (
  .seq (.block 1 (.seq (.ops (
    .op ⟨(some 10), .build [(.int .i64 0), (.int .i64 0), (.bool false), (.int .i64 0), (.int .i64 0), (.int .i64 0)] [(0, 1, (.c (.int .i64 1))), (3, 1, (.c (.int .i64 2)))], []⟩ <|
    .op ⟨(some 3), .alloc [(.int .i64 0), (.int .i64 0), (.bool false), (.int .i64 0), (.int .i64 0), (.int .i64 0)], []⟩ <|
    .op ⟨none, .store 6 (.t 3) (.t 10), []⟩ <|
    .nil)) (
  .seq (.seq (.ops (
    .op ⟨(some 11), .mov (.t 2), []⟩ <|
    .op ⟨(some 12), .cmp .geq .i64 (.t 11) (.c (.int .i64 5)), []⟩ <|
    .nil)) (
  .cond (.t 12) (.ops (
      .op ⟨(some 13), .build [(.int .i64 0), (.int .i64 0), (.bool false), (.int .i64 0), (.int .i64 0), (.int .i64 0)] [(0, 1, (.c (.int .i64 2)))], []⟩ <|
      .op ⟨none, .store 6 (.t 3) (.t 13), []⟩ <|
      .nil)) (.skip))) (
  .ops (
    .op ⟨(some 14), .mov (.t 1), []⟩ <|
    .op ⟨(some 15), .mov (.t 2), []⟩ <|
    .op ⟨(some 17), .loadN 6 (.t 3), []⟩ <|
    .op ⟨(some 16), .call 328 [(.c (.str ⟨⟨[104, 101, 97, 100, 101, 114]⟩⟩)), (.t 15), (.c (.int .i64 0))], [{ g := none, op := .loadN 6 (.t 3), d := 17 }]⟩ <|
    .op ⟨(some 18), .call 111 [(.t 17)], []⟩ <|
    .op ⟨(some 19), .indexA 1 (.t 14) (.t 16), []⟩ <|
    .op ⟨none, .store 1 (.t 19) (.t 18), []⟩ <|
    .nil))))) (
  .ops (
    .op ⟨(some 8), .mov (.t 2), []⟩ <|
    .op ⟨(some 9), .arith .add .i64 (.t 8) (.c (.int .i64 1)), []⟩ <|
    .op ⟨(some 2), .mov (.t 9), []⟩ <|
    .nil)))

def withylaw20_begin_c0 : ACode :=
  .seq (.ops (
    .op ⟨(some 20), .mov (.t 1), []⟩ <|
    .op ⟨(some 21), .call 198 [(.t 20)], []⟩ <|
    .op ⟨(some 22), .call 148 [], []⟩ <|
    .op ⟨(some 23), .build [.nilp, .nilp, (.int .i64 0), .nilsl, .nilsl, (.int .i64 0)] [(0, 1, (.t 21)), (1, 1, (.t 22)), (2, 1, (.c (.int .i64 5)))], []⟩ <|
    .op ⟨(some 24), .box (.t 23), []⟩ <|
    .op ⟨(some 0), .mov (.t 24), []⟩ <|
    .nil)) (
  .ret)

/-- 161: withy/withylaw20.begin -/
def withylaw20_begin : AFunc where
  closed := false
  nparams := 0
  ntmps := 25
  results := [.tmp 0]
  body := .seq (.ops (
      .op ⟨(some 0), .mov (.c .nilp), []⟩ <|
      .nil)) (
    .seq (.ops (
      .op ⟨(some 4), .call 164 [], []⟩ <|
      .op ⟨(some 5), .call 86 [(.t 4)], []⟩ <|
      .op ⟨(some 1), .mov (.t 5), []⟩ <|
      .nil)) (
    .seq (.seq (.ops (
      .op ⟨(some 2), .mov (.c (.int .i64 0)), []⟩ <|
      .nil)) (
    .block 0 (.loop [1, 2] [1] (withylaw20_begin_c1)))) (
    withylaw20_begin_c0)))

def withylaw20_begin_hs : List (List Nat × List Nat) := [([1, 2], [1])]

end Wm.F
end

section
/- PRINTED by my tool (wip/wm/tool/Gen.lean): a function as one of my machine. -/
namespace Wm.F
open Wm
set_option maxRecDepth 100000

/-- 162: (*withy/withylaw20.world).tick -/
def withylaw20_world_tick : AFunc where
  closed := false
  nparams := 1
  ntmps := 19
  results := []
  body := .seq (.ops (
      .op ⟨(some 2), .mov (.t 0), []⟩ <|
      .op ⟨(some 3), .nilc (.t 2), []⟩ <|
      .op ⟨(some 4), .fieldA 5 (.t 3), []⟩ <|
      .op ⟨(some 5), .load1 (.t 4), []⟩ <|
      .op ⟨(some 6), .arith .add .i64 (.t 5) (.c (.int .i64 1)), []⟩ <|
      .op ⟨(some 7), .nilc (.t 2), []⟩ <|
      .op ⟨(some 8), .fieldA 5 (.t 7), []⟩ <|
      .op ⟨none, .store 1 (.t 8) (.t 6), []⟩ <|
      .nil)) (
    .ops (
      .op ⟨(some 9), .mov (.t 0), []⟩ <|
      .op ⟨(some 10), .nilc (.t 9), []⟩ <|
      .op ⟨(some 11), .fieldA 1 (.t 10), []⟩ <|
      .op ⟨(some 12), .load1 (.t 11), []⟩ <|
      .op ⟨(some 13), .mov (.t 0), []⟩ <|
      .op ⟨(some 14), .nilc (.t 13), []⟩ <|
      .op ⟨(some 15), .fieldA 5 (.t 14), []⟩ <|
      .op ⟨(some 16), .load1 (.t 15), []⟩ <|
      .op ⟨(some 17), .nilc (.t 12), []⟩ <|
      .op ⟨(some 18), .fieldA 0 (.t 17), []⟩ <|
      .op ⟨none, .store 1 (.t 18) (.t 16), []⟩ <|
      .nil))

def withylaw20_world_tick_hs : List (List Nat × List Nat) := []

end Wm.F
end

section
/- PRINTED by my tool (wip/wm/tool/Gen.lean): a function as one of my machine. -/
namespace Wm.F
open Wm
set_option maxRecDepth 100000

/-- 163: (*withy/withylaw20.hand).step -/
def withylaw20_hand_step : AFunc where
  closed := false
  nparams := 2
  ntmps := 128
  results := []
  body := .seq (.seq (.ops (
      .op ⟨(some 4), .mov (.t 0), []⟩ <|
      .op ⟨(some 5), .nilc (.t 4), []⟩ <|
      .op ⟨(some 6), .fieldA 4 (.t 5), []⟩ <|
      .op ⟨(some 7), .load1 (.t 6), []⟩ <|
      .op ⟨(some 8), .eq false .ptr (.t 7) (.c .nilp), []⟩ <|
      .nil)) (
    .cond (.t 8) (.seq (.seq (.ops (
        .op ⟨(some 9), .mov (.t 0), []⟩ <|
        .op ⟨(some 10), .nilc (.t 9), []⟩ <|
        .op ⟨(some 11), .fieldA 0 (.t 10), []⟩ <|
        .op ⟨(some 12), .load1 (.t 11), []⟩ <|
        .op ⟨(some 13), .lenSl (.t 12), []⟩ <|
        .op ⟨(some 14), .cmp .eql .i64 (.t 13) (.c (.int .i64 0)), []⟩ <|
        .op ⟨(some 15), .mov (.t 14), []⟩ <|
        .grd 15 false [⟨(some 16), .mov (.t 1), []⟩,
            ⟨(some 17), .nilc (.t 16), []⟩,
            ⟨(some 18), .fieldA 2 (.t 17), []⟩,
            ⟨(some 19), .load1 (.t 18), []⟩,
            ⟨(some 20), .cmp .geq .i64 (.t 19) (.c (.int .i64 40)), []⟩] <|
        .op ⟨(some 21), .pick (.t 15) (.c (.bool true)) (.t 20), []⟩ <|
        .nil)) (
      .cond (.t 21) (.ret) (.skip))) (
      .seq (.ops (
        .op ⟨(some 22), .mov (.t 0), []⟩ <|
        .op ⟨(some 23), .mov (.t 0), []⟩ <|
        .op ⟨(some 24), .nilc (.t 23), []⟩ <|
        .op ⟨(some 25), .fieldA 0 (.t 24), []⟩ <|
        .op ⟨(some 26), .load1 (.t 25), []⟩ <|
        .op ⟨(some 27), .indexA 3 (.t 26) (.c (.int .i64 0)), []⟩ <|
        .op ⟨(some 28), .loadN 3 (.t 27), []⟩ <|
        .op ⟨(some 29), .call 169 [(.t 28)], []⟩ <|
        .op ⟨(some 30), .nilc (.t 22), []⟩ <|
        .op ⟨(some 31), .fieldA 1 (.t 30), []⟩ <|
        .op ⟨none, .store 3 (.t 31) (.t 29), []⟩ <|
        .nil)) (
      .seq (.ops (
        .op ⟨(some 32), .mov (.t 0), []⟩ <|
        .op ⟨(some 33), .mov (.t 0), []⟩ <|
        .op ⟨(some 34), .nilc (.t 33), []⟩ <|
        .op ⟨(some 35), .fieldA 0 (.t 34), []⟩ <|
        .op ⟨(some 36), .load1 (.t 35), []⟩ <|
        .op ⟨(some 37), .slice 3 (.t 36) (some (.c (.int .i64 1))) none none, []⟩ <|
        .op ⟨(some 38), .nilc (.t 32), []⟩ <|
        .op ⟨(some 39), .fieldA 0 (.t 38), []⟩ <|
        .op ⟨none, .store 1 (.t 39) (.t 37), []⟩ <|
        .nil)) (
      .seq (.ops (
        .op ⟨(some 40), .mov (.t 1), []⟩ <|
        .op ⟨(some 41), .nilc (.t 40), []⟩ <|
        .op ⟨(some 42), .fieldA 0 (.t 41), []⟩ <|
        .op ⟨(some 43), .load1 (.t 42), []⟩ <|
        .op ⟨(some 44), .mov (.t 1), []⟩ <|
        .op ⟨(some 45), .nilc (.t 44), []⟩ <|
        .op ⟨(some 46), .fieldA 2 (.t 45), []⟩ <|
        .op ⟨(some 47), .load1 (.t 46), []⟩ <|
        .op ⟨(some 49), .mov (.t 0), []⟩ <|
        .op ⟨(some 50), .nilc (.t 49), []⟩ <|
        .op ⟨(some 51), .fieldA 1 (.t 50), []⟩ <|
        .op ⟨(some 52), .fieldA 2 (.t 51), []⟩ <|
        .op ⟨(some 53), .load1 (.t 52), []⟩ <|
        .op ⟨(some 54), .arith .add .i64 (.t 53) (.c (.int .i64 1)), []⟩ <|
        .op ⟨(some 55), .conv .u64 (.t 54), []⟩ <|
        .op ⟨(some 48), .call 328 [(.c (.str ⟨⟨[98, 111, 100, 121]⟩⟩)), (.t 47), (.c (.int .i64 0))], [{ g := none, op := .load1 (.t 52), d := 53 }, { g := none, op := .load1 (.t 42), d := 43 }]⟩ <|
        .op ⟨(some 56), .call 203 [(.t 43), (.t 48), (.t 55)], []⟩ <|
        .nil)) (
      .seq (.ops (
        .op ⟨(some 57), .mov (.t 0), []⟩ <|
        .op ⟨(some 59), .mov (.t 0), []⟩ <|
        .op ⟨(some 60), .nilc (.t 59), []⟩ <|
        .op ⟨(some 61), .fieldA 1 (.t 60), []⟩ <|
        .op ⟨(some 62), .fieldA 0 (.t 61), []⟩ <|
        .op ⟨(some 63), .load1 (.t 62), []⟩ <|
        .op ⟨(some 64), .mov (.t 0), []⟩ <|
        .op ⟨(some 65), .nilc (.t 64), []⟩ <|
        .op ⟨(some 66), .fieldA 1 (.t 65), []⟩ <|
        .op ⟨(some 67), .fieldA 1 (.t 66), []⟩ <|
        .op ⟨(some 68), .load1 (.t 67), []⟩ <|
        .op ⟨(some 69), .mov (.t 1), []⟩ <|
        .op ⟨(some 70), .nilc (.t 69), []⟩ <|
        .op ⟨(some 71), .fieldA 2 (.t 70), []⟩ <|
        .op ⟨(some 72), .load1 (.t 71), []⟩ <|
        .op ⟨(some 73), .mov (.t 1), []⟩ <|
        .op ⟨(some 74), .nilc (.t 73), []⟩ <|
        .op ⟨(some 75), .fieldA 1 (.t 74), []⟩ <|
        .op ⟨(some 76), .load1 (.t 75), []⟩ <|
        .op ⟨(some 58), .call 164 [], [{ g := none, op := .load1 (.t 75), d := 76 }, { g := none, op := .load1 (.t 71), d := 72 }, { g := none, op := .load1 (.t 67), d := 68 }, { g := none, op := .load1 (.t 62), d := 63 }]⟩ <|
        .op ⟨(some 77), .call 132 [(.t 58), (.t 63), (.t 68), (.t 72), (.c (.int .i64 (-2))), (.c (.int .u64 0)), (.t 76)], []⟩ <|
        .op ⟨(some 78), .nilc (.t 57), []⟩ <|
        .op ⟨(some 79), .fieldA 4 (.t 78), []⟩ <|
        .op ⟨none, .store 1 (.t 79) (.t 77), []⟩ <|
        .nil)) (
      .seq (.ops (
        .op ⟨(some 80), .mov (.t 1), []⟩ <|
        .op ⟨(some 81), .nilc (.t 80), []⟩ <|
        .op ⟨(some 82), .fieldA 2 (.t 81), []⟩ <|
        .op ⟨(some 83), .load1 (.t 82), []⟩ <|
        .op ⟨(some 84), .arith .add .i64 (.t 83) (.c (.int .i64 1)), []⟩ <|
        .op ⟨(some 85), .nilc (.t 80), []⟩ <|
        .op ⟨(some 86), .fieldA 2 (.t 85), []⟩ <|
        .op ⟨none, .store 1 (.t 86) (.t 84), []⟩ <|
        .nil)) (
      .ret))))))) (.skip))) (
    .seq (.ops (
      .op ⟨(some 87), .mov (.t 0), []⟩ <|
      .op ⟨(some 88), .nilc (.t 87), []⟩ <|
      .op ⟨(some 89), .fieldA 4 (.t 88), []⟩ <|
      .op ⟨(some 90), .load1 (.t 89), []⟩ <|
      .op ⟨(some 91), .mov (.t 1), []⟩ <|
      .op ⟨(some 92), .nilc (.t 91), []⟩ <|
      .op ⟨(some 93), .fieldA 0 (.t 92), []⟩ <|
      .op ⟨(some 94), .load1 (.t 93), []⟩ <|
      .op ⟨(some 95), .call 133 [(.t 90), (.t 94)], []⟩ <|
      .nil)) (
    .cond (.t 95) (.seq (.ops (
        .op ⟨(some 96), .mov (.t 1), []⟩ <|
        .op ⟨(some 97), .mov (.t 1), []⟩ <|
        .op ⟨(some 98), .nilc (.t 97), []⟩ <|
        .op ⟨(some 99), .fieldA 3 (.t 98), []⟩ <|
        .op ⟨(some 100), .load1 (.t 99), []⟩ <|
        .op ⟨(some 101), .mov (.t 0), []⟩ <|
        .op ⟨(some 102), .nilc (.t 101), []⟩ <|
        .op ⟨(some 103), .fieldA 1 (.t 102), []⟩ <|
        .op ⟨(some 104), .loadN 3 (.t 103), []⟩ <|
        .op ⟨(some 105), .buildSl 3 1 [(.int .i64 0), (.int .i64 0), (.int .i64 0)] [(0, 3, (.t 104))], []⟩ <|
        .op ⟨(some 106), .append 3 24 (.t 100) (.t 105), []⟩ <|
        .op ⟨(some 107), .nilc (.t 96), []⟩ <|
        .op ⟨(some 108), .fieldA 3 (.t 107), []⟩ <|
        .op ⟨none, .store 1 (.t 108) (.t 106), []⟩ <|
        .nil)) (
      .seq (.ops (
        .op ⟨(some 109), .mov (.t 1), []⟩ <|
        .op ⟨(some 110), .mov (.t 1), []⟩ <|
        .op ⟨(some 111), .nilc (.t 110), []⟩ <|
        .op ⟨(some 112), .fieldA 4 (.t 111), []⟩ <|
        .op ⟨(some 113), .load1 (.t 112), []⟩ <|
        .op ⟨(some 114), .mov (.t 0), []⟩ <|
        .op ⟨(some 115), .nilc (.t 114), []⟩ <|
        .op ⟨(some 116), .fieldA 4 (.t 115), []⟩ <|
        .op ⟨(some 117), .load1 (.t 116), []⟩ <|
        .op ⟨(some 118), .nilc (.t 117), []⟩ <|
        .op ⟨(some 119), .fieldA 1 (.t 118), []⟩ <|
        .op ⟨(some 120), .load1 (.t 119), []⟩ <|
        .op ⟨(some 121), .buildSl 1 1 [(.int .i64 0)] [(0, 1, (.t 120))], []⟩ <|
        .op ⟨(some 122), .append 1 8 (.t 113) (.t 121), []⟩ <|
        .op ⟨(some 123), .nilc (.t 109), []⟩ <|
        .op ⟨(some 124), .fieldA 4 (.t 123), []⟩ <|
        .op ⟨none, .store 1 (.t 124) (.t 122), []⟩ <|
        .nil)) (
      .ops (
        .op ⟨(some 125), .mov (.t 0), []⟩ <|
        .op ⟨(some 126), .nilc (.t 125), []⟩ <|
        .op ⟨(some 127), .fieldA 4 (.t 126), []⟩ <|
        .op ⟨none, .store 1 (.t 127) (.c .nilp), []⟩ <|
        .nil)))) (.skip)))

def withylaw20_hand_step_hs : List (List Nat × List Nat) := []

end Wm.F
end

section
/- PRINTED by my tool (wip/wm/tool/Gen.lean): a function as one of my machine. -/
namespace Wm.F
open Wm
set_option maxRecDepth 100000

/-- 164: withy/withylaw20.config -/
def withylaw20_config : AFunc where
  closed := true
  nparams := 0
  ntmps := 2
  results := [.cell true 6 0]
  body := .seq (.ops (
      .op ⟨(some 0), .alloc [(.int .i64 0), (.int .i64 0), (.int .i64 0), (.int .i64 0), (.int .i64 0), (.int .i64 0)], []⟩ <|
      .nil)) (
    .seq (.ops (
      .op ⟨(some 1), .build [(.int .i64 0), (.int .i64 0), (.int .i64 0), (.int .i64 0), (.int .i64 0), (.int .i64 0)] [(0, 1, (.c (.int .i64 40))), (1, 1, (.c (.int .i64 2))), (2, 1, (.c (.int .i64 1))), (3, 1, (.c (.int .i64 1))), (4, 1, (.c (.int .i64 9)))], []⟩ <|
      .op ⟨none, .store 6 (.t 0) (.t 1), []⟩ <|
      .nil)) (
    .ret))

def withylaw20_config_hs : List (List Nat × List Nat) := []

end Wm.F
end

section
/- PRINTED by my tool (wip/wm/tool/Gen.lean): a function as one of my machine. -/
namespace Wm.F
open Wm
set_option maxRecDepth 100000

def withylaw20_walked_c1 : ACode :=
  .seq (.seq (.ops (
    .op ⟨(some 11), .mov (.t 10), []⟩ <|
    .op ⟨(some 12), .cmp .lss .i64 (.t 11) (.c (.int .i64 2000)), []⟩ <|
    .op ⟨(some 13), .mov (.t 12), []⟩ <|
    .grd 13 true [⟨(some 14), .mov (.t 1), []⟩,
        ⟨(some 15), .call 171 [(.t 14)], []⟩,
        ⟨(some 16), .cmp .gtr .i64 (.t 15) (.c (.int .i64 0)), []⟩] <|
    .op ⟨(some 17), .pick (.t 13) (.t 16) (.c (.bool false)), []⟩ <|
    .nil)) (
  .cond (.t 17) (.skip) (.exit 0))) (
  .seq (.block 1 (.seq (.ops (
    .op ⟨(some 20), .mov (.t 0), []⟩ <|
    .op ⟨(some 21), .call 162 [(.t 20)], []⟩ <|
    .nil)) (
  .seq (.seq (.ops (
    .op ⟨(some 22), .mov (.t 10), []⟩ <|
    .op ⟨(some 23), .mov (.t 3), []⟩ <|
    .op ⟨(some 24), .lenSl (.t 23), []⟩ <|
    .op ⟨(some 25), .cmp .lss .i64 (.t 22) (.t 24), []⟩ <|
    .op ⟨(some 26), .mov (.t 25), []⟩ <|
    .grd 26 true [⟨(some 27), .mov (.t 3), []⟩,
        ⟨(some 28), .mov (.t 10), []⟩,
        ⟨(some 29), .indexA 1 (.t 27) (.t 28), []⟩,
        ⟨(some 30), .load1 (.t 29), []⟩,
        ⟨(some 31), .cmp .geq .i64 (.t 30) (.c (.int .i64 0)), []⟩] <|
    .op ⟨(some 32), .pick (.t 26) (.t 31) (.c (.bool false)), []⟩ <|
    .op ⟨(some 33), .mov (.t 32), []⟩ <|
    .grd 33 true [⟨(some 34), .mov (.t 3), []⟩,
        ⟨(some 35), .mov (.t 10), []⟩,
        ⟨(some 36), .indexA 1 (.t 34) (.t 35), []⟩,
        ⟨(some 37), .load1 (.t 36), []⟩,
        ⟨(some 38), .mov (.t 2), []⟩,
        ⟨(some 39), .lenSl (.t 38), []⟩,
        ⟨(some 40), .cmp .lss .i64 (.t 37) (.t 39), []⟩] <|
    .op ⟨(some 41), .pick (.t 33) (.t 40) (.c (.bool false)), []⟩ <|
    .nil)) (
  .cond (.t 41) (.seq (.ops (
      .op ⟨(some 42), .mov (.t 2), []⟩ <|
      .op ⟨(some 43), .mov (.t 3), []⟩ <|
      .op ⟨(some 44), .mov (.t 10), []⟩ <|
      .op ⟨(some 45), .indexA 1 (.t 43) (.t 44), []⟩ <|
      .op ⟨(some 46), .load1 (.t 45), []⟩ <|
      .op ⟨(some 47), .indexA 5 (.t 42) (.t 46), []⟩ <|
      .op ⟨(some 48), .mov (.t 0), []⟩ <|
      .op ⟨(some 49), .call 163 [(.t 47), (.t 48)], []⟩ <|
      .nil)) (
    .exit 1)) (.skip))) (
  .seq (.ops (
    .op ⟨(some 50), .mov (.t 1), []⟩ <|
    .op ⟨(some 51), .mov (.t 0), []⟩ <|
    .op ⟨(some 52), .nilc (.t 51), []⟩ <|
    .op ⟨(some 53), .fieldA 0 (.t 52), []⟩ <|
    .op ⟨(some 54), .load1 (.t 53), []⟩ <|
    .op ⟨(some 55), .call 176 [(.t 50), (.t 54)], []⟩ <|
    .nil)) (
  .cond (.t 55) (.ops (
      .op ⟨(some 56), .mov (.t 9), []⟩ <|
      .op ⟨(some 57), .mov (.t 1), []⟩ <|
      .op ⟨(some 58), .call 177 [(.t 57)], []⟩ <|
      .op ⟨(some 59), .buildSl 1 1 [(.int .i64 0)] [(0, 1, (.t 58))], []⟩ <|
      .op ⟨(some 60), .append 1 8 (.t 56) (.t 59), []⟩ <|
      .op ⟨(some 9), .mov (.t 60), []⟩ <|
      .nil)) (.skip)))))) (
  .ops (
    .op ⟨(some 18), .mov (.t 10), []⟩ <|
    .op ⟨(some 19), .arith .add .i64 (.t 18) (.c (.int .i64 1)), []⟩ <|
    .op ⟨(some 10), .mov (.t 19), []⟩ <|
    .nil)))

def withylaw20_walked_c0 : ACode :=
  .seq (.ops (
    .op ⟨(some 61), .mov (.t 9), []⟩ <|
    .op ⟨(some 8), .mov (.t 61), []⟩ <|
    .nil)) (
  .ret)

/-- 166: withy/withylaw20.walked -/
def withylaw20_walked : AFunc where
  closed := false
  nparams := 4
  ntmps := 62
  results := [.tmp 8]
  body := .seq (.ops (
      .op ⟨(some 8), .mov (.c .nilsl), []⟩ <|
      .nil)) (
    .seq (.ops (
      .op ⟨(some 9), .mov (.c .nilsl), []⟩ <|
      .nil)) (
    .seq (.seq (.ops (
      .op ⟨(some 10), .mov (.c (.int .i64 0)), []⟩ <|
      .nil)) (
    .block 0 (.loop [0, 1, 2, 3, 9, 10] [9] (withylaw20_walked_c1)))) (
    withylaw20_walked_c0)))

def withylaw20_walked_hs : List (List Nat × List Nat) := [([0, 1, 2, 3, 9, 10], [9])]

end Wm.F
end

section
/- PRINTED by my tool (wip/wm/tool/Gen.lean): a function as one of my machine. -/
namespace Wm.F
open Wm
set_option maxRecDepth 100000

/-- 261: withy/plan.Header -/
def plan_Header : AFunc where
  closed := true
  nparams := 2
  ntmps := 8
  results := [.tmp 4]
  body := .seq (.ops (
      .op ⟨(some 2), .box (.t 0), []⟩ <|
      .op ⟨(some 4), .mov (.c (.int .i64 0)), []⟩ <|
      .nil)) (
    .seq (.ops (
      .op ⟨(some 5), .loadN 6 (.t 2), []⟩ <|
      .op ⟨(some 6), .mov (.t 1), []⟩ <|
      .op ⟨(some 7), .call 375 [(.t 5), (.t 6), (.c (.int .i64 0))], []⟩ <|
      .op ⟨(some 4), .mov (.t 7), []⟩ <|
      .nil)) (
    .ret))

def plan_Header_hs : List (List Nat × List Nat) := []

end Wm.F
end

section
/- PRINTED by my tool (wip/wm/tool/Gen.lean): a function as one of my machine. -/
namespace Wm.F
open Wm
set_option maxRecDepth 100000

/-- 147: (*withy/field.See).Step -/
def field_See_Step : AFunc where
  closed := false
  nparams := 2
  ntmps := 146
  results := [.tmp 4]
  body := .seq (.ops (
      .op ⟨(some 4), .mov (.c (.bool false)), []⟩ <|
      .nil)) (
    .seq (.seq (.ops (
      .op ⟨(some 6), .mov (.t 0), []⟩ <|
      .op ⟨(some 7), .eq false .ptr (.t 6) (.c .nilp), []⟩ <|
      .nil)) (
    .cond (.t 7) (.seq (.ops (
        .op ⟨(some 4), .mov (.c (.bool true)), []⟩ <|
        .nil)) (
      .ret)) (.skip))) (
    .seq (.seq (.ops (
      .op ⟨(some 8), .mov (.t 0), []⟩ <|
      .op ⟨(some 9), .nilc (.t 8), []⟩ <|
      .op ⟨(some 10), .fieldA 4 (.t 9), []⟩ <|
      .op ⟨(some 11), .load1 (.t 10), []⟩ <|
      .nil)) (
    .block 0 (.seq (.ops (
      .op ⟨(some 13), .cmp .eql .i64 (.t 11) (.c (.int .i64 0)), []⟩ <|
      .op ⟨(some 12), .mov (.t 13), []⟩ <|
      .nil)) (
    .cond (.t 12) (.seq (.ops (
        .op ⟨(some 14), .mov (.t 0), []⟩ <|
        .op ⟨(some 15), .nilc (.t 14), []⟩ <|
        .op ⟨(some 16), .fieldA 1 (.t 15), []⟩ <|
        .op ⟨(some 17), .load1 (.t 16), []⟩ <|
        .op ⟨(some 18), .mov (.t 1), []⟩ <|
        .op ⟨(some 19), .call 303 [(.t 17), (.t 18)], []⟩ <|
        .nil)) (
      .cond (.t 19) (.seq (.ops (
          .op ⟨(some 20), .mov (.t 0), []⟩ <|
          .op ⟨(some 21), .mov (.t 0), []⟩ <|
          .op ⟨(some 22), .nilc (.t 21), []⟩ <|
          .op ⟨(some 23), .fieldA 1 (.t 22), []⟩ <|
          .op ⟨(some 24), .load1 (.t 23), []⟩ <|
          .op ⟨(some 25), .nilc (.t 24), []⟩ <|
          .op ⟨(some 26), .fieldA 8 (.t 25), []⟩ <|
          .op ⟨(some 27), .load1 (.t 26), []⟩ <|
          .op ⟨(some 28), .nilc (.t 20), []⟩ <|
          .op ⟨(some 29), .fieldA 3 (.t 28), []⟩ <|
          .op ⟨none, .store 1 (.t 29) (.t 27), []⟩ <|
          .nil)) (
        .seq (.ops (
          .op ⟨(some 30), .mov (.t 0), []⟩ <|
          .op ⟨(some 31), .nilc (.t 30), []⟩ <|
          .op ⟨(some 32), .fieldA 4 (.t 31), []⟩ <|
          .op ⟨none, .store 1 (.t 32) (.c (.int .i64 1)), []⟩ <|
          .nil)) (
        .seq (.ops (
          .op ⟨(some 33), .mov (.t 0), []⟩ <|
          .op ⟨(some 34), .nilc (.t 33), []⟩ <|
          .op ⟨(some 35), .fieldA 3 (.t 34), []⟩ <|
          .op ⟨(some 36), .load1 (.t 35), []⟩ <|
          .op ⟨(some 37), .cmp .lss .i64 (.t 36) (.c (.int .i64 0)), []⟩ <|
          .nil)) (
        .cond (.t 37) (.ops (
            .op ⟨(some 38), .mov (.t 0), []⟩ <|
            .op ⟨(some 39), .nilc (.t 38), []⟩ <|
            .op ⟨(some 40), .fieldA 4 (.t 39), []⟩ <|
            .op ⟨none, .store 1 (.t 40) (.c (.int .i64 4)), []⟩ <|
            .nil)) (.skip))))) (.skip))) (.seq (.ops (
        .op ⟨(some 42), .cmp .eql .i64 (.t 11) (.c (.int .i64 1)), []⟩ <|
        .op ⟨(some 41), .mov (.t 42), []⟩ <|
        .nil)) (
      .cond (.t 41) (.seq (.ops (
          .op ⟨(some 43), .mov (.t 1), []⟩ <|
          .op ⟨(some 44), .mov (.t 0), []⟩ <|
          .op ⟨(some 45), .nilc (.t 44), []⟩ <|
          .op ⟨(some 46), .fieldA 1 (.t 45), []⟩ <|
          .op ⟨(some 47), .load1 (.t 46), []⟩ <|
          .op ⟨(some 48), .nilc (.t 47), []⟩ <|
          .op ⟨(some 49), .fieldA 0 (.t 48), []⟩ <|
          .op ⟨(some 50), .loadN 6 (.t 49), []⟩ <|
          .op ⟨(some 51), .mov (.t 0), []⟩ <|
          .op ⟨(some 52), .nilc (.t 51), []⟩ <|
          .op ⟨(some 53), .fieldA 3 (.t 52), []⟩ <|
          .op ⟨(some 54), .load1 (.t 53), []⟩ <|
          .op ⟨(some 55), .call 305 [(.t 50), (.t 54), (.c (.int .i64 1))], []⟩ <|
          .op ⟨(some 56), .call 266 [(.t 43), (.t 55)], []⟩ <|
          .op ⟨(some 5), .mov (.t 56), []⟩ <|
          .nil)) (
        .seq (.ops (
          .op ⟨(some 57), .mov (.t 0), []⟩ <|
          .op ⟨(some 58), .nilc (.t 57), []⟩ <|
          .op ⟨(some 59), .fieldA 4 (.t 58), []⟩ <|
          .op ⟨none, .store 1 (.t 59) (.c (.int .i64 2)), []⟩ <|
          .nil)) (
        .seq (.ops (
          .op ⟨(some 60), .mov (.t 5), []⟩ <|
          .op ⟨(some 61), .cmp .neq .u64 (.t 60) (.c (.int .u64 0)), []⟩ <|
          .op ⟨(some 62), .mov (.t 61), []⟩ <|
          .grd 62 true [⟨(some 63), .mov (.t 5), []⟩,
              ⟨(some 64), .mov (.t 0), []⟩,
              ⟨(some 65), .nilc (.t 64), []⟩,
              ⟨(some 66), .fieldA 2 (.t 65), []⟩,
              ⟨(some 67), .load1 (.t 66), []⟩,
              ⟨(some 68), .cmp .leq .u64 (.t 63) (.t 67), []⟩] <|
          .op ⟨(some 69), .pick (.t 62) (.t 68) (.c (.bool false)), []⟩ <|
          .nil)) (
        .cond (.t 69) (.ops (
            .op ⟨(some 70), .mov (.t 0), []⟩ <|
            .op ⟨(some 71), .nilc (.t 70), []⟩ <|
            .op ⟨(some 72), .fieldA 4 (.t 71), []⟩ <|
            .op ⟨none, .store 1 (.t 72) (.c (.int .i64 3)), []⟩ <|
            .nil)) (.skip))))) (.seq (.ops (
          .op ⟨(some 74), .cmp .eql .i64 (.t 11) (.c (.int .i64 2)), []⟩ <|
          .op ⟨(some 73), .mov (.t 74), []⟩ <|
          .nil)) (
        .cond (.t 73) (.seq (.ops (
            .op ⟨(some 75), .mov (.t 0), []⟩ <|
            .op ⟨(some 76), .mov (.t 0), []⟩ <|
            .op ⟨(some 77), .nilc (.t 76), []⟩ <|
            .op ⟨(some 78), .fieldA 1 (.t 77), []⟩ <|
            .op ⟨(some 79), .load1 (.t 78), []⟩ <|
            .op ⟨(some 80), .nilc (.t 79), []⟩ <|
            .op ⟨(some 81), .fieldA 0 (.t 80), []⟩ <|
            .op ⟨(some 82), .loadN 6 (.t 81), []⟩ <|
            .op ⟨(some 83), .mov (.t 1), []⟩ <|
            .op ⟨(some 84), .mov (.t 0), []⟩ <|
            .op ⟨(some 85), .nilc (.t 84), []⟩ <|
            .op ⟨(some 86), .fieldA 1 (.t 85), []⟩ <|
            .op ⟨(some 87), .load1 (.t 86), []⟩ <|
            .op ⟨(some 88), .nilc (.t 87), []⟩ <|
            .op ⟨(some 89), .fieldA 0 (.t 88), []⟩ <|
            .op ⟨(some 90), .loadN 6 (.t 89), []⟩ <|
            .op ⟨(some 91), .mov (.t 0), []⟩ <|
            .op ⟨(some 92), .nilc (.t 91), []⟩ <|
            .op ⟨(some 93), .fieldA 3 (.t 92), []⟩ <|
            .op ⟨(some 94), .load1 (.t 93), []⟩ <|
            .op ⟨(some 95), .call 305 [(.t 90), (.t 94), (.c (.int .i64 2))], [{ g := none, op := .loadN 6 (.t 81), d := 82 }, { g := none, op := .load1 (.t 78), d := 79 }]⟩ <|
            .op ⟨(some 96), .call 266 [(.t 83), (.t 95)], [{ g := none, op := .loadN 6 (.t 81), d := 82 }, { g := none, op := .load1 (.t 78), d := 79 }]⟩ <|
            .op ⟨(some 97), .call 304 [(.t 82), (.t 96)], []⟩ <|
            .op ⟨(some 98), .nilc (.t 75), []⟩ <|
            .op ⟨(some 99), .fieldA 3 (.t 98), []⟩ <|
            .op ⟨none, .store 1 (.t 99) (.t 97), []⟩ <|
            .nil)) (
          .seq (.ops (
            .op ⟨(some 100), .mov (.t 0), []⟩ <|
            .op ⟨(some 101), .nilc (.t 100), []⟩ <|
            .op ⟨(some 102), .fieldA 4 (.t 101), []⟩ <|
            .op ⟨none, .store 1 (.t 102) (.c (.int .i64 1)), []⟩ <|
            .nil)) (
          .seq (.ops (
            .op ⟨(some 103), .mov (.t 0), []⟩ <|
            .op ⟨(some 104), .nilc (.t 103), []⟩ <|
            .op ⟨(some 105), .fieldA 3 (.t 104), []⟩ <|
            .op ⟨(some 106), .load1 (.t 105), []⟩ <|
            .op ⟨(some 107), .cmp .lss .i64 (.t 106) (.c (.int .i64 0)), []⟩ <|
            .nil)) (
          .cond (.t 107) (.ops (
              .op ⟨(some 108), .mov (.t 0), []⟩ <|
              .op ⟨(some 109), .nilc (.t 108), []⟩ <|
              .op ⟨(some 110), .fieldA 4 (.t 109), []⟩ <|
              .op ⟨none, .store 1 (.t 110) (.c (.int .i64 4)), []⟩ <|
              .nil)) (.skip))))) (.seq (.ops (
            .op ⟨(some 112), .cmp .eql .i64 (.t 11) (.c (.int .i64 3)), []⟩ <|
            .op ⟨(some 111), .mov (.t 112), []⟩ <|
            .nil)) (
          .cond (.t 111) (.seq (.ops (
              .op ⟨(some 113), .mov (.t 0), []⟩ <|
              .op ⟨(some 114), .mov (.t 0), []⟩ <|
              .op ⟨(some 115), .nilc (.t 114), []⟩ <|
              .op ⟨(some 116), .fieldA 1 (.t 115), []⟩ <|
              .op ⟨(some 117), .load1 (.t 116), []⟩ <|
              .op ⟨(some 118), .nilc (.t 117), []⟩ <|
              .op ⟨(some 119), .fieldA 0 (.t 118), []⟩ <|
              .op ⟨(some 120), .loadN 6 (.t 119), []⟩ <|
              .op ⟨(some 121), .mov (.t 1), []⟩ <|
              .op ⟨(some 122), .mov (.t 0), []⟩ <|
              .op ⟨(some 123), .nilc (.t 122), []⟩ <|
              .op ⟨(some 124), .fieldA 1 (.t 123), []⟩ <|
              .op ⟨(some 125), .load1 (.t 124), []⟩ <|
              .op ⟨(some 126), .nilc (.t 125), []⟩ <|
              .op ⟨(some 127), .fieldA 0 (.t 126), []⟩ <|
              .op ⟨(some 128), .loadN 6 (.t 127), []⟩ <|
              .op ⟨(some 129), .mov (.t 0), []⟩ <|
              .op ⟨(some 130), .nilc (.t 129), []⟩ <|
              .op ⟨(some 131), .fieldA 3 (.t 130), []⟩ <|
              .op ⟨(some 132), .load1 (.t 131), []⟩ <|
              .op ⟨(some 133), .call 305 [(.t 128), (.t 132), (.c (.int .i64 0))], [{ g := none, op := .loadN 6 (.t 119), d := 120 }, { g := none, op := .load1 (.t 116), d := 117 }]⟩ <|
              .op ⟨(some 134), .call 266 [(.t 121), (.t 133)], [{ g := none, op := .loadN 6 (.t 119), d := 120 }, { g := none, op := .load1 (.t 116), d := 117 }]⟩ <|
              .op ⟨(some 135), .call 304 [(.t 120), (.t 134)], []⟩ <|
              .op ⟨(some 136), .nilc (.t 113), []⟩ <|
              .op ⟨(some 137), .fieldA 0 (.t 136), []⟩ <|
              .op ⟨none, .store 1 (.t 137) (.t 135), []⟩ <|
              .nil)) (
            .ops (
              .op ⟨(some 138), .mov (.t 0), []⟩ <|
              .op ⟨(some 139), .nilc (.t 138), []⟩ <|
              .op ⟨(some 140), .fieldA 4 (.t 139), []⟩ <|
              .op ⟨none, .store 1 (.t 140) (.c (.int .i64 4)), []⟩ <|
              .nil))) (.skip))))))))))) (
    .seq (.ops (
      .op ⟨(some 141), .mov (.t 0), []⟩ <|
      .op ⟨(some 142), .nilc (.t 141), []⟩ <|
      .op ⟨(some 143), .fieldA 4 (.t 142), []⟩ <|
      .op ⟨(some 144), .load1 (.t 143), []⟩ <|
      .op ⟨(some 145), .cmp .eql .i64 (.t 144) (.c (.int .i64 4)), []⟩ <|
      .op ⟨(some 4), .mov (.t 145), []⟩ <|
      .nil)) (
    .ret))))

def field_See_Step_hs : List (List Nat × List Nat) := []

end Wm.F
end

section
/- PRINTED by my tool (wip/wm/tool/Gen.lean): a function as one of my machine. -/
namespace Wm.F
open Wm
set_option maxRecDepth 100000

/-- 265: withy/head.Unpack -/
def head_Unpack : AFunc where
  closed := true
  nparams := 1
  ntmps := 53
  results := [.cell true 6 2, .tmp 3]
  body := .seq (.ops (
      .op ⟨(some 2), .alloc [(.int .i64 0), (.int .i64 0), (.bool false), (.int .i64 0), (.int .i64 0), (.int .i64 0)], []⟩ <|
      .op ⟨(some 3), .mov (.c (.bool false)), []⟩ <|
      .nil)) (
    .seq (.ops (
      .op ⟨(some 7), .mov (.t 0), []⟩ <|
      .op ⟨(some 8), .buildSl 1 7 [(.int .i64 0)] [(0, 1, (.c (.int .i64 3))), (1, 1, (.c (.int .i64 1))), (2, 1, (.c (.int .i64 1))), (3, 1, (.c (.int .i64 4))), (4, 1, (.c (.int .i64 7))), (5, 1, (.c (.int .i64 32))), (6, 1, (.c (.int .i64 16)))], []⟩ <|
      .op ⟨(some 9), .call 379 [(.t 7), (.t 8)], []⟩ <|
      .op ⟨(some 6), .mov (.t 9), []⟩ <|
      .op ⟨(some 10), .extract (.t 6) 0, []⟩ <|
      .op ⟨(some 11), .extract (.t 6) 1, []⟩ <|
      .op ⟨(some 4), .mov (.t 10), []⟩ <|
      .op ⟨(some 5), .mov (.t 11), []⟩ <|
      .nil)) (
    .seq (.seq (.ops (
      .op ⟨(some 12), .mov (.t 4), []⟩ <|
      .op ⟨(some 13), .lenSl (.t 12), []⟩ <|
      .op ⟨(some 14), .cmp .lss .i64 (.t 13) (.c (.int .i64 7)), []⟩ <|
      .op ⟨(some 15), .mov (.t 14), []⟩ <|
      .grd 15 false [⟨(some 16), .mov (.t 4), []⟩,
          ⟨(some 17), .indexA 1 (.t 16) (.c (.int .i64 0)), []⟩,
          ⟨(some 18), .load1 (.t 17), []⟩,
          ⟨(some 19), .cmp .gtr .u64 (.t 18) (.c (.int .u64 4)), []⟩] <|
      .op ⟨(some 20), .pick (.t 15) (.c (.bool true)) (.t 19), []⟩ <|
      .op ⟨(some 21), .mov (.t 20), []⟩ <|
      .grd 21 false [⟨(some 22), .mov (.t 4), []⟩,
          ⟨(some 23), .indexA 1 (.t 22) (.c (.int .i64 4)), []⟩,
          ⟨(some 24), .load1 (.t 23), []⟩,
          ⟨(some 25), .cmp .neq .u64 (.t 24) (.c (.int .u64 0)), []⟩] <|
      .op ⟨(some 26), .pick (.t 21) (.c (.bool true)) (.t 25), []⟩ <|
      .nil)) (
    .cond (.t 26) (.seq (.ops (
        .op ⟨(some 27), .build [(.int .i64 0), (.int .i64 0), (.bool false), (.int .i64 0), (.int .i64 0), (.int .i64 0)] [], []⟩ <|
        .op ⟨none, .store 6 (.t 2) (.t 27), []⟩ <|
        .op ⟨(some 3), .mov (.c (.bool false)), []⟩ <|
        .nil)) (
      .ret)) (.skip))) (
    .seq (.ops (
      .op ⟨(some 28), .mov (.t 4), []⟩ <|
      .op ⟨(some 29), .indexA 1 (.t 28) (.c (.int .i64 0)), []⟩ <|
      .op ⟨(some 30), .load1 (.t 29), []⟩ <|
      .op ⟨(some 31), .conv .i64 (.t 30), []⟩ <|
      .op ⟨(some 32), .mov (.t 4), []⟩ <|
      .op ⟨(some 33), .indexA 1 (.t 32) (.c (.int .i64 1)), []⟩ <|
      .op ⟨(some 34), .load1 (.t 33), []⟩ <|
      .op ⟨(some 35), .conv .i64 (.t 34), []⟩ <|
      .op ⟨(some 36), .mov (.t 4), []⟩ <|
      .op ⟨(some 37), .indexA 1 (.t 36) (.c (.int .i64 2)), []⟩ <|
      .op ⟨(some 38), .load1 (.t 37), []⟩ <|
      .op ⟨(some 39), .cmp .eql .u64 (.t 38) (.c (.int .u64 1)), []⟩ <|
      .op ⟨(some 40), .mov (.t 4), []⟩ <|
      .op ⟨(some 41), .indexA 1 (.t 40) (.c (.int .i64 3)), []⟩ <|
      .op ⟨(some 42), .load1 (.t 41), []⟩ <|
      .op ⟨(some 43), .conv .i64 (.t 42), []⟩ <|
      .op ⟨(some 44), .mov (.t 4), []⟩ <|
      .op ⟨(some 45), .indexA 1 (.t 44) (.c (.int .i64 5)), []⟩ <|
      .op ⟨(some 46), .load1 (.t 45), []⟩ <|
      .op ⟨(some 47), .conv .i64 (.t 46), []⟩ <|
      .op ⟨(some 48), .mov (.t 4), []⟩ <|
      .op ⟨(some 49), .indexA 1 (.t 48) (.c (.int .i64 6)), []⟩ <|
      .op ⟨(some 50), .load1 (.t 49), []⟩ <|
      .op ⟨(some 51), .conv .i64 (.t 50), []⟩ <|
      .op ⟨(some 52), .build [(.int .i64 0), (.int .i64 0), (.bool false), (.int .i64 0), (.int .i64 0), (.int .i64 0)] [(0, 1, (.t 31)), (1, 1, (.t 35)), (2, 1, (.t 39)), (3, 1, (.t 43)), (4, 1, (.t 47)), (5, 1, (.t 51))], []⟩ <|
      .op ⟨none, .store 6 (.t 2) (.t 52), []⟩ <|
      .op ⟨(some 3), .mov (.c (.bool true)), []⟩ <|
      .nil)) (
    .ret))))

def head_Unpack_hs : List (List Nat × List Nat) := []

end Wm.F
end

section
/- PRINTED by my tool (wip/wm/tool/Gen.lean): a function as one of my machine. -/
namespace Wm.F
open Wm
set_option maxRecDepth 100000

/-- 266: (*withy/mem.Mem).Load -/
def mem_Mem_Load : AFunc where
  closed := false
  nparams := 2
  ntmps := 26
  results := [.tmp 4]
  body := .seq (.ops (
      .op ⟨(some 4), .mov (.c (.int .u64 0)), []⟩ <|
      .nil)) (
    .seq (.seq (.ops (
      .op ⟨(some 5), .mov (.t 0), []⟩ <|
      .op ⟨(some 6), .mov (.t 1), []⟩ <|
      .op ⟨(some 7), .call 346 [(.t 5), (.t 6)], []⟩ <|
      .op ⟨(some 8), .not (.t 7), []⟩ <|
      .nil)) (
    .cond (.t 8) (.seq (.ops (
        .op ⟨(some 4), .mov (.c (.int .u64 0)), []⟩ <|
        .nil)) (
      .ret)) (.skip))) (
    .seq (.ops (
      .op ⟨(some 9), .mov (.t 0), []⟩ <|
      .op ⟨(some 10), .mov (.t 1), []⟩ <|
      .op ⟨(some 11), .mov (.t 0), []⟩ <|
      .op ⟨(some 12), .nilc (.t 11), []⟩ <|
      .op ⟨(some 13), .fieldA 0 (.t 12), []⟩ <|
      .op ⟨(some 14), .load1 (.t 13), []⟩ <|
      .op ⟨(some 15), .mov (.t 1), []⟩ <|
      .op ⟨(some 16), .indexA 1 (.t 14) (.t 15), []⟩ <|
      .op ⟨(some 17), .load1 (.t 16), []⟩ <|
      .op ⟨(some 18), .call 347 [(.t 9), (.c (.int .i64 1)), (.t 10), (.t 17)], []⟩ <|
      .nil)) (
    .seq (.ops (
      .op ⟨(some 19), .mov (.t 0), []⟩ <|
      .op ⟨(some 20), .nilc (.t 19), []⟩ <|
      .op ⟨(some 21), .fieldA 0 (.t 20), []⟩ <|
      .op ⟨(some 22), .load1 (.t 21), []⟩ <|
      .op ⟨(some 23), .mov (.t 1), []⟩ <|
      .op ⟨(some 24), .indexA 1 (.t 22) (.t 23), []⟩ <|
      .op ⟨(some 25), .load1 (.t 24), []⟩ <|
      .op ⟨(some 4), .mov (.t 25), []⟩ <|
      .nil)) (
    .ret))))

def mem_Mem_Load_hs : List (List Nat × List Nat) := []

end Wm.F
end

section
/- PRINTED by my tool (wip/wm/tool/Gen.lean): a function as one of my machine. -/
namespace Wm.F
open Wm
set_option maxRecDepth 100000

/-- 330: (*withy/iter.Walk).field -/
def iter_Walk_field : AFunc where
  closed := false
  nparams := 1
  ntmps := 51
  results := []
  body := .seq (.ops (
      .op ⟨(some 2), .mov (.t 0), []⟩ <|
      .op ⟨(some 3), .mov (.t 0), []⟩ <|
      .op ⟨(some 4), .nilc (.t 2), []⟩ <|
      .op ⟨(some 5), .fieldA 10 (.t 4), []⟩ <|
      .op ⟨none, .store 1 (.t 5) (.c .nilp), []⟩ <|
      .op ⟨(some 6), .nilc (.t 3), []⟩ <|
      .op ⟨(some 7), .fieldA 13 (.t 6), []⟩ <|
      .op ⟨none, .store 1 (.t 7) (.c (.int .i64 2)), []⟩ <|
      .nil)) (
    .seq (.ops (
      .op ⟨(some 8), .mov (.t 0), []⟩ <|
      .op ⟨(some 9), .nilc (.t 8), []⟩ <|
      .op ⟨(some 10), .fieldA 12 (.t 9), []⟩ <|
      .op ⟨(some 11), .load1 (.t 10), []⟩ <|
      .op ⟨(some 12), .mov (.t 0), []⟩ <|
      .op ⟨(some 13), .nilc (.t 12), []⟩ <|
      .op ⟨(some 14), .fieldA 11 (.t 13), []⟩ <|
      .op ⟨(some 15), .load1 (.t 14), []⟩ <|
      .op ⟨(some 16), .cmp .lss .i64 (.t 11) (.t 15), []⟩ <|
      .nil)) (
    .cond (.t 16) (.seq (.ops (
        .op ⟨(some 17), .mov (.t 0), []⟩ <|
        .op ⟨(some 18), .mov (.t 0), []⟩ <|
        .op ⟨(some 19), .nilc (.t 18), []⟩ <|
        .op ⟨(some 20), .fieldA 0 (.t 19), []⟩ <|
        .op ⟨(some 21), .loadN 6 (.t 20), []⟩ <|
        .op ⟨(some 22), .mov (.t 0), []⟩ <|
        .op ⟨(some 23), .nilc (.t 22), []⟩ <|
        .op ⟨(some 24), .fieldA 8 (.t 23), []⟩ <|
        .op ⟨(some 25), .load1 (.t 24), []⟩ <|
        .op ⟨(some 26), .indexA 1 (.t 25) (.c (.int .i64 0)), []⟩ <|
        .op ⟨(some 27), .load1 (.t 26), []⟩ <|
        .op ⟨(some 28), .mov (.t 0), []⟩ <|
        .op ⟨(some 29), .nilc (.t 28), []⟩ <|
        .op ⟨(some 30), .fieldA 12 (.t 29), []⟩ <|
        .op ⟨(some 31), .load1 (.t 30), []⟩ <|
        .op ⟨(some 32), .mov (.t 0), []⟩ <|
        .op ⟨(some 33), .nilc (.t 32), []⟩ <|
        .op ⟨(some 34), .fieldA 6 (.t 33), []⟩ <|
        .op ⟨(some 35), .load1 (.t 34), []⟩ <|
        .op ⟨(some 36), .mov (.t 0), []⟩ <|
        .op ⟨(some 37), .nilc (.t 36), []⟩ <|
        .op ⟨(some 38), .fieldA 7 (.t 37), []⟩ <|
        .op ⟨(some 39), .load1 (.t 38), []⟩ <|
        .op ⟨(some 40), .call 146 [(.t 21), (.t 27), (.t 31), (.t 35), (.t 39)], []⟩ <|
        .op ⟨(some 41), .nilc (.t 17), []⟩ <|
        .op ⟨(some 42), .fieldA 10 (.t 41), []⟩ <|
        .op ⟨none, .store 1 (.t 42) (.t 40), []⟩ <|
        .nil)) (
      .seq (.ops (
        .op ⟨(some 43), .mov (.t 0), []⟩ <|
        .op ⟨(some 44), .nilc (.t 43), []⟩ <|
        .op ⟨(some 45), .fieldA 10 (.t 44), []⟩ <|
        .op ⟨(some 46), .load1 (.t 45), []⟩ <|
        .op ⟨(some 47), .eq true .ptr (.t 46) (.c .nilp), []⟩ <|
        .nil)) (
      .cond (.t 47) (.ops (
          .op ⟨(some 48), .mov (.t 0), []⟩ <|
          .op ⟨(some 49), .nilc (.t 48), []⟩ <|
          .op ⟨(some 50), .fieldA 13 (.t 49), []⟩ <|
          .op ⟨none, .store 1 (.t 50) (.c (.int .i64 1)), []⟩ <|
          .nil)) (.skip)))) (.skip)))

def iter_Walk_field_hs : List (List Nat × List Nat) := []

end Wm.F
end

section
/- PRINTED by my tool (wip/wm/tool/Gen.lean): a function as one of my machine. -/
namespace Wm.F
open Wm
set_option maxRecDepth 100000

/-- 331: slices.Contains[[]int,int] -/
def slices_Contains___int_int_ : AFunc where
  closed := false
  nparams := 2
  ntmps := 9
  results := [.tmp 4]
  body := .seq (.ops (
      .op ⟨(some 4), .mov (.c (.bool false)), []⟩ <|
      .nil)) (
    .seq (.ops (
      .op ⟨(some 5), .mov (.t 0), []⟩ <|
      .op ⟨(some 6), .mov (.t 1), []⟩ <|
      .op ⟨(some 7), .call 404 [(.t 5), (.t 6)], []⟩ <|
      .op ⟨(some 8), .cmp .geq .i64 (.t 7) (.c (.int .i64 0)), []⟩ <|
      .op ⟨(some 4), .mov (.t 8), []⟩ <|
      .nil)) (
    .ret))

def slices_Contains___int_int__hs : List (List Nat × List Nat) := []

end Wm.F
end

section
/- PRINTED by my tool (wip/wm/tool/Gen.lean): a function as one of my machine. -/
namespace Wm.F
open Wm
set_option maxRecDepth 100000

/-- 263: withy/plan.Right -/
def plan_Right : AFunc where
  closed := true
  nparams := 1
  ntmps := 31
  results := [.tmp 2]
  body := .seq (.ops (
      .op ⟨(some 1), .box (.t 0), []⟩ <|
      .op ⟨(some 2), .mov (.c (.bool false)), []⟩ <|
      .nil)) (
    .seq (.ops (
      .op ⟨(some 3), .fieldA 0 (.t 1), []⟩ <|
      .op ⟨(some 4), .load1 (.t 3), []⟩ <|
      .op ⟨(some 5), .call 376 [(.t 4), (.c (.int .i64 1)), (.c (.int .i64 64))], []⟩ <|
      .op ⟨(some 6), .mov (.t 5), []⟩ <|
      .grd 6 true [⟨(some 7), .fieldA 1 (.t 1), []⟩,
          ⟨(some 8), .load1 (.t 7), []⟩,
          ⟨(some 9), .call 376 [(.t 8), (.c (.int .i64 0)), (.c (.int .i64 8))], []⟩] <|
      .op ⟨(some 10), .pick (.t 6) (.t 9) (.c (.bool false)), []⟩ <|
      .op ⟨(some 11), .mov (.t 10), []⟩ <|
      .grd 11 true [⟨(some 12), .fieldA 2 (.t 1), []⟩,
          ⟨(some 13), .load1 (.t 12), []⟩,
          ⟨(some 14), .call 376 [(.t 13), (.c (.int .i64 1)), (.c (.int .i64 8))], []⟩] <|
      .op ⟨(some 15), .pick (.t 11) (.t 14) (.c (.bool false)), []⟩ <|
      .op ⟨(some 16), .mov (.t 15), []⟩ <|
      .grd 16 true [⟨(some 17), .fieldA 3 (.t 1), []⟩,
          ⟨(some 18), .load1 (.t 17), []⟩,
          ⟨(some 19), .call 376 [(.t 18), (.c (.int .i64 1)), (.c (.int .i64 16))], []⟩] <|
      .op ⟨(some 20), .pick (.t 16) (.t 19) (.c (.bool false)), []⟩ <|
      .op ⟨(some 21), .mov (.t 20), []⟩ <|
      .grd 21 true [⟨(some 22), .fieldA 4 (.t 1), []⟩,
          ⟨(some 23), .load1 (.t 22), []⟩,
          ⟨(some 24), .call 376 [(.t 23), (.c (.int .i64 1)), (.c (.int .i64 1048576))], []⟩] <|
      .op ⟨(some 25), .pick (.t 21) (.t 24) (.c (.bool false)), []⟩ <|
      .op ⟨(some 26), .mov (.t 25), []⟩ <|
      .grd 26 true [⟨(some 27), .fieldA 5 (.t 1), []⟩,
          ⟨(some 28), .load1 (.t 27), []⟩,
          ⟨(some 29), .call 376 [(.t 28), (.c (.int .i64 0)), (.c (.int .i64 64))], []⟩] <|
      .op ⟨(some 30), .pick (.t 26) (.t 29) (.c (.bool false)), []⟩ <|
      .op ⟨(some 2), .mov (.t 30), []⟩ <|
      .nil)) (
    .ret))

def plan_Right_hs : List (List Nat × List Nat) := []

end Wm.F
end

section
/- PRINTED by my tool (wip/wm/tool/Gen.lean): a function as one of my machine. -/
namespace Wm.F
open Wm
set_option maxRecDepth 100000

/-- 153: (*withy/field.Book).Turned -/
def field_Book_Turned : AFunc where
  closed := false
  nparams := 2
  ntmps := 20
  results := [.tmp 4]
  body := .seq (.ops (
      .op ⟨(some 4), .mov (.c (.int .i64 0)), []⟩ <|
      .nil)) (
    .seq (.seq (.ops (
      .op ⟨(some 7), .mov (.t 0), []⟩ <|
      .op ⟨(some 8), .eq true .ptr (.t 7) (.c .nilp), []⟩ <|
      .nil)) (
    .cond (.t 8) (.seq (.ops (
        .op ⟨(some 10), .mov (.t 0), []⟩ <|
        .op ⟨(some 11), .nilc (.t 10), []⟩ <|
        .op ⟨(some 12), .fieldA 2 (.t 11), []⟩ <|
        .op ⟨(some 13), .load1 (.t 12), []⟩ <|
        .op ⟨(some 14), .mov (.t 1), []⟩ <|
        .op ⟨(some 15), .lookup .int (.int .i64 0) true (.t 13) (.t 14), []⟩ <|
        .op ⟨(some 9), .mov (.t 15), []⟩ <|
        .op ⟨(some 16), .extract (.t 9) 0, []⟩ <|
        .op ⟨(some 17), .extract (.t 9) 1, []⟩ <|
        .op ⟨(some 5), .mov (.t 16), []⟩ <|
        .op ⟨(some 6), .mov (.t 17), []⟩ <|
        .nil)) (
      .seq (.ops (
        .op ⟨(some 18), .mov (.t 6), []⟩ <|
        .nil)) (
      .cond (.t 18) (.seq (.ops (
          .op ⟨(some 19), .mov (.t 5), []⟩ <|
          .op ⟨(some 4), .mov (.t 19), []⟩ <|
          .nil)) (
        .ret)) (.skip)))) (.skip))) (
    .seq (.ops (
      .op ⟨(some 4), .mov (.c (.int .i64 (-1))), []⟩ <|
      .nil)) (
    .ret)))

def field_Book_Turned_hs : List (List Nat × List Nat) := []

end Wm.F
end

section
/- PRINTED by my tool (wip/wm/tool/Gen.lean): a function as one of my machine. -/
namespace Wm.F
open Wm
set_option maxRecDepth 100000

/-- 269: (*withy/mem.Mem).Swap -/
def mem_Mem_Swap : AFunc where
  closed := false
  nparams := 4
  ntmps := 32
  results := [.tmp 8]
  body := .seq (.ops (
      .op ⟨(some 8), .mov (.c (.bool false)), []⟩ <|
      .nil)) (
    .seq (.seq (.ops (
      .op ⟨(some 10), .mov (.t 0), []⟩ <|
      .op ⟨(some 11), .mov (.t 1), []⟩ <|
      .op ⟨(some 12), .call 346 [(.t 10), (.t 11)], []⟩ <|
      .op ⟨(some 13), .not (.t 12), []⟩ <|
      .nil)) (
    .cond (.t 13) (.seq (.ops (
        .op ⟨(some 8), .mov (.c (.bool false)), []⟩ <|
        .nil)) (
      .ret)) (.skip))) (
    .seq (.ops (
      .op ⟨(some 14), .mov (.t 0), []⟩ <|
      .op ⟨(some 15), .nilc (.t 14), []⟩ <|
      .op ⟨(some 16), .fieldA 0 (.t 15), []⟩ <|
      .op ⟨(some 17), .load1 (.t 16), []⟩ <|
      .op ⟨(some 18), .mov (.t 1), []⟩ <|
      .op ⟨(some 19), .indexA 1 (.t 17) (.t 18), []⟩ <|
      .op ⟨(some 20), .load1 (.t 19), []⟩ <|
      .op ⟨(some 9), .mov (.t 20), []⟩ <|
      .nil)) (
    .seq (.seq (.ops (
      .op ⟨(some 21), .mov (.t 9), []⟩ <|
      .op ⟨(some 22), .mov (.t 2), []⟩ <|
      .op ⟨(some 23), .cmp .neq .u64 (.t 21) (.t 22), []⟩ <|
      .nil)) (
    .cond (.t 23) (.ops (
        .op ⟨(some 24), .mov (.t 9), []⟩ <|
        .op ⟨(some 3), .mov (.t 24), []⟩ <|
        .nil)) (.skip))) (
    .seq (.ops (
      .op ⟨(some 25), .mov (.t 0), []⟩ <|
      .op ⟨(some 26), .mov (.t 1), []⟩ <|
      .op ⟨(some 27), .mov (.t 3), []⟩ <|
      .op ⟨(some 28), .call 347 [(.t 25), (.c (.int .i64 3)), (.t 26), (.t 27)], []⟩ <|
      .nil)) (
    .seq (.ops (
      .op ⟨(some 29), .mov (.t 9), []⟩ <|
      .op ⟨(some 30), .mov (.t 2), []⟩ <|
      .op ⟨(some 31), .cmp .eql .u64 (.t 29) (.t 30), []⟩ <|
      .op ⟨(some 8), .mov (.t 31), []⟩ <|
      .nil)) (
    .ret))))))

def mem_Mem_Swap_hs : List (List Nat × List Nat) := []

end Wm.F
end

section
/- PRINTED by my tool (wip/wm/tool/Gen.lean): a function as one of my machine. -/
namespace Wm.F
open Wm
set_option maxRecDepth 100000

def withyref06_Memory_c1 : ACode :=
  .seq (.seq (.ops (
    .op ⟨(some 15), .mov (.t 5), []⟩ <|
    .op ⟨(some 16), .mov (.t 3), []⟩ <|
    .op ⟨(some 17), .lenSl (.t 16), []⟩ <|
    .op ⟨(some 18), .cmp .lss .i64 (.t 15) (.t 17), []⟩ <|
    .nil)) (
  .cond (.t 18) (.skip) (.exit 0))) (
  .seq (.block 1 (.seq (.ops (
    .op ⟨(some 21), .mov (.t 3), []⟩ <|
    .op ⟨(some 22), .mov (.t 5), []⟩ <|
    .op ⟨(some 23), .indexA 3 (.t 21) (.t 22), []⟩ <|
    .op ⟨(some 24), .fieldA 0 (.t 23), []⟩ <|
    .op ⟨(some 25), .load1 (.t 24), []⟩ <|
    .op ⟨(some 26), .eq false .str (.t 25) (.c (.str ⟨⟨[108, 105, 110, 107]⟩⟩)), []⟩ <|
    .op ⟨(some 27), .mov (.t 26), []⟩ <|
    .grd 27 true [⟨(some 28), .mov (.t 3), []⟩,
        ⟨(some 29), .mov (.t 5), []⟩,
        ⟨(some 30), .indexA 3 (.t 28) (.t 29), []⟩,
        ⟨(some 31), .fieldA 1 (.t 30), []⟩,
        ⟨(some 32), .load1 (.t 31), []⟩,
        ⟨(some 33), .arith .add .i64 (.t 32) (.c (.int .i64 1)), []⟩,
        ⟨(some 34), .fieldA 0 (.t 1), []⟩,
        ⟨(some 35), .load1 (.t 34), []⟩,
        ⟨(some 36), .cmp .lss .i64 (.t 33) (.t 35), []⟩] <|
    .op ⟨(some 37), .pick (.t 27) (.t 36) (.c (.bool false)), []⟩ <|
    .nil)) (
  .cond (.t 37) (.ops (
      .op ⟨(some 38), .mov (.t 4), []⟩ <|
      .op ⟨(some 39), .mov (.t 5), []⟩ <|
      .op ⟨(some 40), .mov (.t 3), []⟩ <|
      .op ⟨(some 41), .mov (.t 5), []⟩ <|
      .op ⟨(some 42), .indexA 3 (.t 40) (.t 41), []⟩ <|
      .op ⟨(some 43), .fieldA 1 (.t 42), []⟩ <|
      .op ⟨(some 44), .load1 (.t 43), []⟩ <|
      .op ⟨(some 45), .arith .add .i64 (.t 44) (.c (.int .i64 2)), []⟩ <|
      .op ⟨(some 46), .conv .u64 (.t 45), []⟩ <|
      .op ⟨(some 47), .indexA 1 (.t 38) (.t 39), []⟩ <|
      .op ⟨none, .store 1 (.t 47) (.t 46), []⟩ <|
      .nil)) (.skip)))) (
  .ops (
    .op ⟨(some 19), .mov (.t 5), []⟩ <|
    .op ⟨(some 20), .arith .add .i64 (.t 19) (.c (.int .i64 1)), []⟩ <|
    .op ⟨(some 5), .mov (.t 20), []⟩ <|
    .nil)))

def withyref06_Memory_c0 : ACode :=
  .seq (.ops (
    .op ⟨(some 48), .mov (.t 4), []⟩ <|
    .op ⟨(some 2), .mov (.t 48), []⟩ <|
    .nil)) (
  .ret)

/-- 86: withy/withyref06.Memory -/
def withyref06_Memory : AFunc where
  closed := false
  nparams := 1
  ntmps := 49
  results := [.tmp 2]
  body := .seq (.ops (
      .op ⟨(some 1), .box (.t 0), []⟩ <|
      .op ⟨(some 2), .mov (.c .nilsl), []⟩ <|
      .nil)) (
    .seq (.ops (
      .op ⟨(some 6), .loadN 6 (.t 1), []⟩ <|
      .op ⟨(some 7), .call 87 [(.t 6)], []⟩ <|
      .op ⟨(some 3), .mov (.t 7), []⟩ <|
      .nil)) (
    .seq (.ops (
      .op ⟨(some 8), .mov (.t 3), []⟩ <|
      .op ⟨(some 9), .lenSl (.t 8), []⟩ <|
      .op ⟨(some 10), .mkSl 1 8 [(.int .u64 0)] (.t 9) (.t 9), []⟩ <|
      .op ⟨(some 4), .mov (.t 10), []⟩ <|
      .nil)) (
    .seq (.ops (
      .op ⟨(some 11), .mov (.t 4), []⟩ <|
      .op ⟨(some 12), .indexA 1 (.t 11) (.c (.int .i64 0)), []⟩ <|
      .op ⟨none, .store 1 (.t 12) (.c (.int .u64 1)), []⟩ <|
      .nil)) (
    .seq (.ops (
      .op ⟨(some 13), .mov (.t 4), []⟩ <|
      .op ⟨(some 14), .indexA 1 (.t 13) (.c (.int .i64 3)), []⟩ <|
      .op ⟨none, .store 1 (.t 14) (.c (.int .u64 1)), []⟩ <|
      .nil)) (
    .seq (.seq (.ops (
      .op ⟨(some 5), .mov (.c (.int .i64 0)), []⟩ <|
      .nil)) (
    .block 0 (.loop [1, 3, 4, 5] [4] (withyref06_Memory_c1)))) (
    withyref06_Memory_c0))))))

def withyref06_Memory_hs : List (List Nat × List Nat) := [([1, 3, 4, 5], [4])]

end Wm.F
end

section
/- PRINTED by my tool (wip/wm/tool/Gen.lean): a function as one of my machine. -/
namespace Wm.F
open Wm
set_option maxRecDepth 100000

/-- 111: withy/withyref04.Pack -/
def withyref04_Pack : AFunc where
  closed := true
  nparams := 1
  ntmps := 32
  results := [.tmp 2]
  body := .seq (.ops (
      .op ⟨(some 1), .box (.t 0), []⟩ <|
      .op ⟨(some 2), .mov (.c (.int .u64 0)), []⟩ <|
      .nil)) (
    .seq (.ops (
      .op ⟨(some 4), .fieldA 0 (.t 1), []⟩ <|
      .op ⟨(some 5), .load1 (.t 4), []⟩ <|
      .op ⟨(some 6), .conv .u64 (.t 5), []⟩ <|
      .op ⟨(some 7), .fieldA 1 (.t 1), []⟩ <|
      .op ⟨(some 8), .load1 (.t 7), []⟩ <|
      .op ⟨(some 9), .conv .u64 (.t 8), []⟩ <|
      .op ⟨(some 10), .arith .mul .u64 (.c (.int .u64 8)) (.t 9), []⟩ <|
      .op ⟨(some 11), .arith .add .u64 (.t 6) (.t 10), []⟩ <|
      .op ⟨(some 12), .fieldA 3 (.t 1), []⟩ <|
      .op ⟨(some 13), .load1 (.t 12), []⟩ <|
      .op ⟨(some 14), .conv .u64 (.t 13), []⟩ <|
      .op ⟨(some 15), .arith .mul .u64 (.c (.int .u64 32)) (.t 14), []⟩ <|
      .op ⟨(some 16), .arith .add .u64 (.t 11) (.t 15), []⟩ <|
      .op ⟨(some 17), .fieldA 4 (.t 1), []⟩ <|
      .op ⟨(some 18), .load1 (.t 17), []⟩ <|
      .op ⟨(some 19), .conv .u64 (.t 18), []⟩ <|
      .op ⟨(some 20), .arith .mul .u64 (.c (.int .u64 65536)) (.t 19), []⟩ <|
      .op ⟨(some 21), .arith .add .u64 (.t 16) (.t 20), []⟩ <|
      .op ⟨(some 22), .fieldA 5 (.t 1), []⟩ <|
      .op ⟨(some 23), .load1 (.t 22), []⟩ <|
      .op ⟨(some 24), .conv .u64 (.t 23), []⟩ <|
      .op ⟨(some 25), .arith .mul .u64 (.c (.int .u64 281474976710656)) (.t 24), []⟩ <|
      .op ⟨(some 26), .arith .add .u64 (.t 21) (.t 25), []⟩ <|
      .op ⟨(some 3), .mov (.t 26), []⟩ <|
      .nil)) (
    .seq (.seq (.ops (
      .op ⟨(some 27), .fieldA 2 (.t 1), []⟩ <|
      .op ⟨(some 28), .load1 (.t 27), []⟩ <|
      .nil)) (
    .cond (.t 28) (.ops (
        .op ⟨(some 29), .mov (.t 3), []⟩ <|
        .op ⟨(some 30), .arith .add .u64 (.t 29) (.c (.int .u64 16)), []⟩ <|
        .op ⟨(some 3), .mov (.t 30), []⟩ <|
        .nil)) (.skip))) (
    .seq (.ops (
      .op ⟨(some 31), .mov (.t 3), []⟩ <|
      .op ⟨(some 2), .mov (.t 31), []⟩ <|
      .nil)) (
    .ret))))

def withyref04_Pack_hs : List (List Nat × List Nat) := []

end Wm.F
end

section
/- PRINTED by my tool (wip/wm/tool/Gen.lean): a function as one of my machine. -/
namespace Wm.F
open Wm
set_option maxRecDepth 100000

/-- 198: withy/mem.Of -/
def mem_Of : AFunc where
  closed := false
  nparams := 1
  ntmps := 10
  results := [.tmp 2]
  body := .seq (.ops (
      .op ⟨(some 2), .mov (.c .nilp), []⟩ <|
      .nil)) (
    .seq (.seq (.ops (
      .op ⟨(some 3), .mov (.t 0), []⟩ <|
      .op ⟨(some 4), .lenSl (.t 3), []⟩ <|
      .op ⟨(some 5), .cmp .gtr .i64 (.t 4) (.c (.int .i64 65536)), []⟩ <|
      .nil)) (
    .cond (.t 5) (.seq (.ops (
        .op ⟨(some 2), .mov (.c .nilp), []⟩ <|
        .nil)) (
      .ret)) (.skip))) (
    .seq (.ops (
      .op ⟨(some 6), .mov (.t 0), []⟩ <|
      .op ⟨(some 7), .call 271 [(.t 6)], []⟩ <|
      .op ⟨(some 8), .build [.nilsl, (.int .i64 0), (.int .i64 0), (.int .i64 0), (.int .u64 0), (.int .u64 0)] [(0, 1, (.t 7))], []⟩ <|
      .op ⟨(some 9), .box (.t 8), []⟩ <|
      .op ⟨(some 2), .mov (.t 9), []⟩ <|
      .nil)) (
    .ret)))

def mem_Of_hs : List (List Nat × List Nat) := []

end Wm.F
end

section
/- PRINTED by my tool (wip/wm/tool/Gen.lean): a function as one of my machine. -/
namespace Wm.F
open Wm
set_option maxRecDepth 100000

/-- 328: withy/withylaw20.at -/
def withylaw20_at : AFunc where
  closed := true
  nparams := 3
  ntmps := 13
  results := [.tmp 6]
  body := .seq (.ops (
      .op ⟨(some 6), .mov (.c (.int .i64 0)), []⟩ <|
      .nil)) (
    .seq (.ops (
      .op ⟨(some 7), .call 164 [], []⟩ <|
      .op ⟨(some 8), .mov (.t 0), []⟩ <|
      .op ⟨(some 9), .mov (.t 1), []⟩ <|
      .op ⟨(some 10), .mov (.t 2), []⟩ <|
      .op ⟨(some 11), .build [(.str ⟨⟨[]⟩⟩), (.int .i64 0), (.int .i64 0)] [(0, 1, (.t 8)), (1, 1, (.t 9)), (2, 1, (.t 10))], []⟩ <|
      .op ⟨(some 12), .call 108 [(.t 7), (.t 11)], []⟩ <|
      .op ⟨(some 6), .mov (.t 12), []⟩ <|
      .nil)) (
    .ret))

def withylaw20_at_hs : List (List Nat × List Nat) := []

end Wm.F
end

section
/- PRINTED by my tool (wip/wm/tool/Gen.lean): a function as one of my machine. -/
namespace Wm.F
open Wm
set_option maxRecDepth 100000

/-- 132: withy/field.NewLay -/
def field_NewLay : AFunc where
  closed := false
  nparams := 7
  ntmps := 35
  results := [.tmp 14]
  body := .seq (.ops (
      .op ⟨(some 7), .box (.t 0), []⟩ <|
      .op ⟨(some 14), .mov (.c .nilp), []⟩ <|
      .nil)) (
    .seq (.ops (
      .op ⟨(some 16), .loadN 6 (.t 7), []⟩ <|
      .op ⟨(some 17), .mov (.t 1), []⟩ <|
      .op ⟨(some 18), .mov (.t 2), []⟩ <|
      .op ⟨(some 19), .mov (.t 6), []⟩ <|
      .op ⟨(some 20), .call 302 [(.t 16), (.t 17), (.t 18), (.t 19)], []⟩ <|
      .op ⟨(some 15), .mov (.t 20), []⟩ <|
      .nil)) (
    .seq (.seq (.ops (
      .op ⟨(some 21), .mov (.t 15), []⟩ <|
      .op ⟨(some 22), .eq false .ptr (.t 21) (.c .nilp), []⟩ <|
      .op ⟨(some 23), .mov (.t 22), []⟩ <|
      .grd 23 false [⟨(some 24), .loadN 6 (.t 7), []⟩,
          ⟨(some 25), .mov (.t 3), []⟩,
          ⟨(some 26), .call 261 [(.t 24), (.t 25)], []⟩,
          ⟨(some 27), .cmp .lss .i64 (.t 26) (.c (.int .i64 0)), []⟩] <|
      .op ⟨(some 28), .pick (.t 23) (.c (.bool true)) (.t 27), []⟩ <|
      .nil)) (
    .cond (.t 28) (.seq (.ops (
        .op ⟨(some 14), .mov (.c .nilp), []⟩ <|
        .nil)) (
      .ret)) (.skip))) (
    .seq (.ops (
      .op ⟨(some 29), .mov (.t 15), []⟩ <|
      .op ⟨(some 30), .mov (.t 3), []⟩ <|
      .op ⟨(some 31), .mov (.t 4), []⟩ <|
      .op ⟨(some 32), .mov (.t 5), []⟩ <|
      .op ⟨(some 33), .build [(.bool false), (.int .i64 0), .nilp, (.int .i64 0), (.int .i64 0), (.int .u64 0), .nilp, .nilp, (.int .i64 0)] [(2, 1, (.t 29)), (3, 1, (.t 30)), (4, 1, (.t 31)), (5, 1, (.t 32))], []⟩ <|
      .op ⟨(some 34), .box (.t 33), []⟩ <|
      .op ⟨(some 14), .mov (.t 34), []⟩ <|
      .nil)) (
    .ret))))

def field_NewLay_hs : List (List Nat × List Nat) := []

end Wm.F
end

section
/- PRINTED by my tool (wip/wm/tool/Gen.lean): a function as one of my machine. -/
namespace Wm.F
open Wm
set_option maxRecDepth 100000

/-- 133: (*withy/field.Lay).Step -/
def field_Lay_Step : AFunc where
  closed := false
  nparams := 2
  ntmps := 250
  results := [.tmp 4]
  body := .seq (.ops (
      .op ⟨(some 4), .mov (.c (.bool false)), []⟩ <|
      .nil)) (
    .seq (.seq (.ops (
      .op ⟨(some 6), .mov (.t 0), []⟩ <|
      .op ⟨(some 7), .eq false .ptr (.t 6) (.c .nilp), []⟩ <|
      .nil)) (
    .cond (.t 7) (.seq (.ops (
        .op ⟨(some 4), .mov (.c (.bool true)), []⟩ <|
        .nil)) (
      .ret)) (.skip))) (
    .seq (.ops (
      .op ⟨(some 8), .mov (.t 0), []⟩ <|
      .op ⟨(some 9), .nilc (.t 8), []⟩ <|
      .op ⟨(some 10), .fieldA 2 (.t 9), []⟩ <|
      .op ⟨(some 11), .load1 (.t 10), []⟩ <|
      .op ⟨(some 12), .nilc (.t 11), []⟩ <|
      .op ⟨(some 13), .fieldA 0 (.t 12), []⟩ <|
      .op ⟨(some 14), .loadN 6 (.t 13), []⟩ <|
      .op ⟨(some 5), .alloc [(.int .i64 0), (.int .i64 0), (.int .i64 0), (.int .i64 0), (.int .i64 0), (.int .i64 0)], []⟩ <|
      .op ⟨none, .store 6 (.t 5) (.t 14), []⟩ <|
      .nil)) (
    .seq (.seq (.ops (
      .op ⟨(some 15), .mov (.t 0), []⟩ <|
      .op ⟨(some 16), .nilc (.t 15), []⟩ <|
      .op ⟨(some 17), .fieldA 8 (.t 16), []⟩ <|
      .op ⟨(some 18), .load1 (.t 17), []⟩ <|
      .nil)) (
    .block 0 (.seq (.ops (
      .op ⟨(some 20), .cmp .eql .i64 (.t 18) (.c (.int .i64 0)), []⟩ <|
      .op ⟨(some 19), .mov (.t 20), []⟩ <|
      .nil)) (
    .cond (.t 19) (.seq (.seq (.ops (
        .op ⟨(some 21), .mov (.t 0), []⟩ <|
        .op ⟨(some 22), .nilc (.t 21), []⟩ <|
        .op ⟨(some 23), .fieldA 2 (.t 22), []⟩ <|
        .op ⟨(some 24), .load1 (.t 23), []⟩ <|
        .op ⟨(some 25), .mov (.t 1), []⟩ <|
        .op ⟨(some 26), .call 303 [(.t 24), (.t 25)], []⟩ <|
        .op ⟨(some 27), .not (.t 26), []⟩ <|
        .nil)) (
      .cond (.t 27) (.exit 0) (.skip))) (
      .seq (.ops (
        .op ⟨(some 28), .mov (.t 0), []⟩ <|
        .op ⟨(some 29), .nilc (.t 28), []⟩ <|
        .op ⟨(some 30), .fieldA 8 (.t 29), []⟩ <|
        .op ⟨none, .store 1 (.t 30) (.c (.int .i64 2)), []⟩ <|
        .nil)) (
      .seq (.ops (
        .op ⟨(some 31), .mov (.t 0), []⟩ <|
        .op ⟨(some 32), .nilc (.t 31), []⟩ <|
        .op ⟨(some 33), .fieldA 4 (.t 32), []⟩ <|
        .op ⟨(some 34), .load1 (.t 33), []⟩ <|
        .op ⟨(some 35), .cmp .geq .i64 (.t 34) (.c (.int .i64 (-1))), []⟩ <|
        .op ⟨(some 36), .mov (.t 35), []⟩ <|
        .grd 36 true [⟨(some 37), .mov (.t 0), []⟩,
            ⟨(some 38), .nilc (.t 37), []⟩,
            ⟨(some 39), .fieldA 2 (.t 38), []⟩,
            ⟨(some 40), .load1 (.t 39), []⟩,
            ⟨(some 41), .nilc (.t 40), []⟩,
            ⟨(some 42), .fieldA 8 (.t 41), []⟩,
            ⟨(some 43), .load1 (.t 42), []⟩,
            ⟨(some 44), .cmp .geq .i64 (.t 43) (.c (.int .i64 0)), []⟩] <|
        .op ⟨(some 45), .pick (.t 36) (.t 44) (.c (.bool false)), []⟩ <|
        .nil)) (
      .cond (.t 45) (.ops (
          .op ⟨(some 46), .mov (.t 0), []⟩ <|
          .op ⟨(some 47), .nilc (.t 46), []⟩ <|
          .op ⟨(some 48), .fieldA 8 (.t 47), []⟩ <|
          .op ⟨none, .store 1 (.t 48) (.c (.int .i64 1)), []⟩ <|
          .nil)) (.seq (.ops (
          .op ⟨(some 49), .mov (.t 0), []⟩ <|
          .op ⟨(some 50), .nilc (.t 49), []⟩ <|
          .op ⟨(some 51), .fieldA 4 (.t 50), []⟩ <|
          .op ⟨(some 52), .load1 (.t 51), []⟩ <|
          .op ⟨(some 53), .cmp .geq .i64 (.t 52) (.c (.int .i64 0)), []⟩ <|
          .nil)) (
        .cond (.t 53) (.ops (
            .op ⟨(some 54), .mov (.t 0), []⟩ <|
            .op ⟨(some 55), .call 307 [(.t 54)], []⟩ <|
            .nil)) (.skip))))))) (.seq (.ops (
        .op ⟨(some 57), .cmp .eql .i64 (.t 18) (.c (.int .i64 1)), []⟩ <|
        .op ⟨(some 56), .mov (.t 57), []⟩ <|
        .nil)) (
      .cond (.t 56) (.seq (.ops (
          .op ⟨(some 58), .mov (.t 0), []⟩ <|
          .op ⟨(some 59), .nilc (.t 58), []⟩ <|
          .op ⟨(some 60), .fieldA 8 (.t 59), []⟩ <|
          .op ⟨none, .store 1 (.t 60) (.c (.int .i64 2)), []⟩ <|
          .nil)) (
        .seq (.ops (
          .op ⟨(some 61), .loadN 6 (.t 5), []⟩ <|
          .op ⟨(some 62), .mov (.t 1), []⟩ <|
          .op ⟨(some 63), .loadN 6 (.t 5), []⟩ <|
          .op ⟨(some 64), .mov (.t 0), []⟩ <|
          .op ⟨(some 65), .nilc (.t 64), []⟩ <|
          .op ⟨(some 66), .fieldA 2 (.t 65), []⟩ <|
          .op ⟨(some 67), .load1 (.t 66), []⟩ <|
          .op ⟨(some 68), .nilc (.t 67), []⟩ <|
          .op ⟨(some 69), .fieldA 8 (.t 68), []⟩ <|
          .op ⟨(some 70), .load1 (.t 69), []⟩ <|
          .op ⟨(some 74), .mov (.t 0), []⟩ <|
          .op ⟨(some 75), .nilc (.t 74), []⟩ <|
          .op ⟨(some 76), .fieldA 4 (.t 75), []⟩ <|
          .op ⟨(some 77), .load1 (.t 76), []⟩ <|
          .op ⟨(some 71), .call 305 [(.t 63), (.t 70), (.c (.int .i64 0))], [{ g := none, op := .load1 (.t 76), d := 77 }, { g := none, op := .loadN 6 (.t 5), d := 61 }]⟩ <|
          .op ⟨(some 72), .call 266 [(.t 62), (.t 71)], [{ g := none, op := .load1 (.t 76), d := 77 }, { g := none, op := .loadN 6 (.t 5), d := 61 }]⟩ <|
          .op ⟨(some 73), .call 304 [(.t 61), (.t 72)], [{ g := none, op := .load1 (.t 76), d := 77 }]⟩ <|
          .op ⟨(some 78), .cmp .neq .i64 (.t 73) (.t 77), []⟩ <|
          .nil)) (
        .cond (.t 78) (.ops (
            .op ⟨(some 79), .mov (.t 0), []⟩ <|
            .op ⟨(some 80), .call 307 [(.t 79)], []⟩ <|
            .nil)) (.skip)))) (.seq (.ops (
          .op ⟨(some 82), .cmp .eql .i64 (.t 18) (.c (.int .i64 2)), []⟩ <|
          .op ⟨(some 81), .mov (.t 82), []⟩ <|
          .nil)) (
        .cond (.t 81) (.seq (.ops (
            .op ⟨(some 83), .mov (.t 1), []⟩ <|
            .op ⟨(some 84), .loadN 6 (.t 5), []⟩ <|
            .op ⟨(some 85), .mov (.t 0), []⟩ <|
            .op ⟨(some 86), .nilc (.t 85), []⟩ <|
            .op ⟨(some 87), .fieldA 3 (.t 86), []⟩ <|
            .op ⟨(some 88), .load1 (.t 87), []⟩ <|
            .op ⟨(some 90), .mov (.t 0), []⟩ <|
            .op ⟨(some 91), .nilc (.t 90), []⟩ <|
            .op ⟨(some 92), .fieldA 2 (.t 91), []⟩ <|
            .op ⟨(some 93), .load1 (.t 92), []⟩ <|
            .op ⟨(some 94), .nilc (.t 93), []⟩ <|
            .op ⟨(some 95), .fieldA 8 (.t 94), []⟩ <|
            .op ⟨(some 96), .load1 (.t 95), []⟩ <|
            .op ⟨(some 97), .arith .add .i64 (.t 96) (.c (.int .i64 1)), []⟩ <|
            .op ⟨(some 98), .conv .u64 (.t 97), []⟩ <|
            .op ⟨(some 89), .call 305 [(.t 84), (.t 88), (.c (.int .i64 2))], [{ g := none, op := .load1 (.t 95), d := 96 }, { g := none, op := .load1 (.t 92), d := 93 }]⟩ <|
            .op ⟨(some 99), .call 203 [(.t 83), (.t 89), (.t 98)], []⟩ <|
            .nil)) (
          .seq (.ops (
            .op ⟨(some 100), .mov (.t 0), []⟩ <|
            .op ⟨(some 101), .nilc (.t 100), []⟩ <|
            .op ⟨(some 102), .fieldA 8 (.t 101), []⟩ <|
            .op ⟨none, .store 1 (.t 102) (.c (.int .i64 4)), []⟩ <|
            .nil)) (
          .seq (.ops (
            .op ⟨(some 103), .mov (.t 0), []⟩ <|
            .op ⟨(some 104), .nilc (.t 103), []⟩ <|
            .op ⟨(some 105), .fieldA 2 (.t 104), []⟩ <|
            .op ⟨(some 106), .load1 (.t 105), []⟩ <|
            .op ⟨(some 107), .nilc (.t 106), []⟩ <|
            .op ⟨(some 108), .fieldA 8 (.t 107), []⟩ <|
            .op ⟨(some 109), .load1 (.t 108), []⟩ <|
            .op ⟨(some 110), .cmp .geq .i64 (.t 109) (.c (.int .i64 0)), []⟩ <|
            .op ⟨(some 111), .mov (.t 110), []⟩ <|
            .grd 111 true [⟨(some 112), .mov (.t 0), []⟩,
                ⟨(some 113), .nilc (.t 112), []⟩,
                ⟨(some 114), .fieldA 5 (.t 113), []⟩,
                ⟨(some 115), .load1 (.t 114), []⟩,
                ⟨(some 116), .call 308 [(.t 115)], []⟩] <|
            .op ⟨(some 117), .pick (.t 111) (.t 116) (.c (.bool false)), []⟩ <|
            .nil)) (
          .cond (.t 117) (.ops (
              .op ⟨(some 118), .mov (.t 0), []⟩ <|
              .op ⟨(some 119), .mov (.t 0), []⟩ <|
              .op ⟨(some 120), .loadN 6 (.t 5), []⟩ <|
              .op ⟨(some 121), .mov (.t 0), []⟩ <|
              .op ⟨(some 122), .nilc (.t 121), []⟩ <|
              .op ⟨(some 123), .fieldA 2 (.t 122), []⟩ <|
              .op ⟨(some 124), .load1 (.t 123), []⟩ <|
              .op ⟨(some 125), .nilc (.t 124), []⟩ <|
              .op ⟨(some 126), .fieldA 8 (.t 125), []⟩ <|
              .op ⟨(some 127), .load1 (.t 126), []⟩ <|
              .op ⟨(some 128), .mov (.t 0), []⟩ <|
              .op ⟨(some 129), .nilc (.t 128), []⟩ <|
              .op ⟨(some 130), .fieldA 5 (.t 129), []⟩ <|
              .op ⟨(some 131), .load1 (.t 130), []⟩ <|
              .op ⟨(some 132), .call 90 [(.t 120), (.t 127), (.t 131)], []⟩ <|
              .op ⟨(some 133), .nilc (.t 118), []⟩ <|
              .op ⟨(some 134), .fieldA 6 (.t 133), []⟩ <|
              .op ⟨none, .store 1 (.t 134) (.t 132), []⟩ <|
              .op ⟨(some 135), .nilc (.t 119), []⟩ <|
              .op ⟨(some 136), .fieldA 8 (.t 135), []⟩ <|
              .op ⟨none, .store 1 (.t 136) (.c (.int .i64 3)), []⟩ <|
              .nil)) (.skip))))) (.seq (.ops (
            .op ⟨(some 138), .cmp .eql .i64 (.t 18) (.c (.int .i64 3)), []⟩ <|
            .op ⟨(some 137), .mov (.t 138), []⟩ <|
            .nil)) (
          .cond (.t 137) (.seq (.ops (
              .op ⟨(some 139), .mov (.t 0), []⟩ <|
              .op ⟨(some 140), .nilc (.t 139), []⟩ <|
              .op ⟨(some 141), .fieldA 6 (.t 140), []⟩ <|
              .op ⟨(some 142), .load1 (.t 141), []⟩ <|
              .op ⟨(some 143), .mov (.t 1), []⟩ <|
              .op ⟨(some 144), .call 91 [(.t 142), (.t 143)], []⟩ <|
              .nil)) (
            .cond (.t 144) (.ops (
                .op ⟨(some 145), .mov (.t 0), []⟩ <|
                .op ⟨(some 146), .nilc (.t 145), []⟩ <|
                .op ⟨(some 147), .fieldA 8 (.t 146), []⟩ <|
                .op ⟨none, .store 1 (.t 147) (.c (.int .i64 4)), []⟩ <|
                .nil)) (.skip))) (.seq (.ops (
              .op ⟨(some 149), .cmp .eql .i64 (.t 18) (.c (.int .i64 4)), []⟩ <|
              .op ⟨(some 148), .mov (.t 149), []⟩ <|
              .nil)) (
            .cond (.t 148) (.seq (.ops (
                .op ⟨(some 150), .mov (.t 1), []⟩ <|
                .op ⟨(some 151), .mov (.t 0), []⟩ <|
                .op ⟨(some 152), .nilc (.t 151), []⟩ <|
                .op ⟨(some 153), .fieldA 2 (.t 152), []⟩ <|
                .op ⟨(some 154), .load1 (.t 153), []⟩ <|
                .op ⟨(some 155), .nilc (.t 154), []⟩ <|
                .op ⟨(some 156), .fieldA 7 (.t 155), []⟩ <|
                .op ⟨(some 157), .load1 (.t 156), []⟩ <|
                .op ⟨(some 158), .mov (.t 0), []⟩ <|
                .op ⟨(some 159), .nilc (.t 158), []⟩ <|
                .op ⟨(some 160), .fieldA 2 (.t 159), []⟩ <|
                .op ⟨(some 161), .load1 (.t 160), []⟩ <|
                .op ⟨(some 162), .nilc (.t 161), []⟩ <|
                .op ⟨(some 163), .fieldA 8 (.t 162), []⟩ <|
                .op ⟨(some 164), .load1 (.t 163), []⟩ <|
                .op ⟨(some 165), .arith .add .i64 (.t 164) (.c (.int .i64 1)), []⟩ <|
                .op ⟨(some 166), .conv .u64 (.t 165), []⟩ <|
                .op ⟨(some 167), .mov (.t 0), []⟩ <|
                .op ⟨(some 168), .nilc (.t 167), []⟩ <|
                .op ⟨(some 169), .fieldA 3 (.t 168), []⟩ <|
                .op ⟨(some 170), .load1 (.t 169), []⟩ <|
                .op ⟨(some 171), .arith .add .i64 (.t 170) (.c (.int .i64 1)), []⟩ <|
                .op ⟨(some 172), .conv .u64 (.t 171), []⟩ <|
                .op ⟨(some 173), .call 269 [(.t 150), (.t 157), (.t 166), (.t 172)], []⟩ <|
                .nil)) (
              .cond (.t 173) (.ops (
                  .op ⟨(some 174), .mov (.t 0), []⟩ <|
                  .op ⟨(some 175), .mov (.t 0), []⟩ <|
                  .op ⟨(some 176), .loadN 6 (.t 5), []⟩ <|
                  .op ⟨(some 177), .mov (.t 0), []⟩ <|
                  .op ⟨(some 178), .nilc (.t 177), []⟩ <|
                  .op ⟨(some 179), .fieldA 3 (.t 178), []⟩ <|
                  .op ⟨(some 180), .load1 (.t 179), []⟩ <|
                  .op ⟨(some 181), .mov (.t 0), []⟩ <|
                  .op ⟨(some 182), .nilc (.t 181), []⟩ <|
                  .op ⟨(some 183), .fieldA 2 (.t 182), []⟩ <|
                  .op ⟨(some 184), .load1 (.t 183), []⟩ <|
                  .op ⟨(some 185), .nilc (.t 184), []⟩ <|
                  .op ⟨(some 186), .fieldA 6 (.t 185), []⟩ <|
                  .op ⟨(some 187), .load1 (.t 186), []⟩ <|
                  .op ⟨(some 188), .call 151 [(.t 176), (.t 180), (.t 187)], []⟩ <|
                  .op ⟨(some 189), .nilc (.t 174), []⟩ <|
                  .op ⟨(some 190), .fieldA 7 (.t 189), []⟩ <|
                  .op ⟨none, .store 1 (.t 190) (.t 188), []⟩ <|
                  .op ⟨(some 191), .nilc (.t 175), []⟩ <|
                  .op ⟨(some 192), .fieldA 8 (.t 191), []⟩ <|
                  .op ⟨none, .store 1 (.t 192) (.c (.int .i64 5)), []⟩ <|
                  .nil)) (.ops (
                  .op ⟨(some 193), .mov (.t 0), []⟩ <|
                  .op ⟨(some 194), .mov (.t 0), []⟩ <|
                  .op ⟨(some 195), .loadN 6 (.t 5), []⟩ <|
                  .op ⟨(some 196), .mov (.t 0), []⟩ <|
                  .op ⟨(some 197), .nilc (.t 196), []⟩ <|
                  .op ⟨(some 198), .fieldA 2 (.t 197), []⟩ <|
                  .op ⟨(some 199), .load1 (.t 198), []⟩ <|
                  .op ⟨(some 200), .nilc (.t 199), []⟩ <|
                  .op ⟨(some 201), .fieldA 6 (.t 200), []⟩ <|
                  .op ⟨(some 202), .load1 (.t 201), []⟩ <|
                  .op ⟨(some 203), .mov (.t 0), []⟩ <|
                  .op ⟨(some 204), .nilc (.t 203), []⟩ <|
                  .op ⟨(some 205), .fieldA 2 (.t 204), []⟩ <|
                  .op ⟨(some 206), .load1 (.t 205), []⟩ <|
                  .op ⟨(some 207), .nilc (.t 206), []⟩ <|
                  .op ⟨(some 208), .fieldA 7 (.t 207), []⟩ <|
                  .op ⟨(some 209), .load1 (.t 208), []⟩ <|
                  .op ⟨(some 210), .build [(.int .i64 0), (.int .i64 0), (.int .i64 0), (.int .i64 0), (.int .i64 0), (.int .i64 0), .nilp, (.int .i64 0), (.int .i64 0), (.int .i64 0), .nilp, (.int .i64 0)] [(0, 6, (.t 195)), (6, 1, (.t 202)), (7, 1, (.t 209))], []⟩ <|
                  .op ⟨(some 211), .box (.t 210), []⟩ <|
                  .op ⟨(some 212), .nilc (.t 193), []⟩ <|
                  .op ⟨(some 213), .fieldA 2 (.t 212), []⟩ <|
                  .op ⟨none, .store 1 (.t 213) (.t 211), []⟩ <|
                  .op ⟨(some 214), .nilc (.t 194), []⟩ <|
                  .op ⟨(some 215), .fieldA 8 (.t 214), []⟩ <|
                  .op ⟨none, .store 1 (.t 215) (.c (.int .i64 0)), []⟩ <|
                  .nil)))) (.seq (.ops (
                .op ⟨(some 217), .cmp .eql .i64 (.t 18) (.c (.int .i64 5)), []⟩ <|
                .op ⟨(some 216), .mov (.t 217), []⟩ <|
                .nil)) (
              .cond (.t 216) (.seq (.ops (
                  .op ⟨(some 218), .mov (.t 0), []⟩ <|
                  .op ⟨(some 219), .nilc (.t 218), []⟩ <|
                  .op ⟨(some 220), .fieldA 7 (.t 219), []⟩ <|
                  .op ⟨(some 221), .load1 (.t 220), []⟩ <|
                  .op ⟨(some 222), .mov (.t 1), []⟩ <|
                  .op ⟨(some 223), .call 150 [(.t 221), (.t 222)], []⟩ <|
                  .nil)) (
                .cond (.t 223) (.ops (
                    .op ⟨(some 224), .mov (.t 0), []⟩ <|
                    .op ⟨(some 225), .mov (.t 0), []⟩ <|
                    .op ⟨(some 226), .mov (.t 0), []⟩ <|
                    .op ⟨(some 227), .mov (.t 0), []⟩ <|
                    .op ⟨(some 228), .nilc (.t 227), []⟩ <|
                    .op ⟨(some 229), .fieldA 2 (.t 228), []⟩ <|
                    .op ⟨(some 230), .load1 (.t 229), []⟩ <|
                    .op ⟨(some 231), .nilc (.t 230), []⟩ <|
                    .op ⟨(some 232), .fieldA 6 (.t 231), []⟩ <|
                    .op ⟨(some 233), .load1 (.t 232), []⟩ <|
                    .op ⟨(some 234), .mov (.t 0), []⟩ <|
                    .op ⟨(some 235), .nilc (.t 234), []⟩ <|
                    .op ⟨(some 236), .fieldA 3 (.t 235), []⟩ <|
                    .op ⟨(some 237), .load1 (.t 236), []⟩ <|
                    .op ⟨(some 238), .call 152 [(.t 233), (.t 237)], []⟩ <|
                    .op ⟨(some 239), .nilc (.t 224), []⟩ <|
                    .op ⟨(some 240), .fieldA 0 (.t 239), []⟩ <|
                    .op ⟨none, .store 1 (.t 240) (.c (.bool true)), []⟩ <|
                    .op ⟨(some 241), .nilc (.t 225), []⟩ <|
                    .op ⟨(some 242), .fieldA 1 (.t 241), []⟩ <|
                    .op ⟨none, .store 1 (.t 242) (.t 238), []⟩ <|
                    .op ⟨(some 243), .nilc (.t 226), []⟩ <|
                    .op ⟨(some 244), .fieldA 8 (.t 243), []⟩ <|
                    .op ⟨none, .store 1 (.t 244) (.c (.int .i64 6)), []⟩ <|
                    .nil)) (.skip))) (.skip))))))))))))))) (
    .seq (.ops (
      .op ⟨(some 245), .mov (.t 0), []⟩ <|
      .op ⟨(some 246), .nilc (.t 245), []⟩ <|
      .op ⟨(some 247), .fieldA 8 (.t 246), []⟩ <|
      .op ⟨(some 248), .load1 (.t 247), []⟩ <|
      .op ⟨(some 249), .cmp .eql .i64 (.t 248) (.c (.int .i64 6)), []⟩ <|
      .op ⟨(some 4), .mov (.t 249), []⟩ <|
      .nil)) (
    .ret)))))

def field_Lay_Step_hs : List (List Nat × List Nat) := []

end Wm.F
end

section
/- PRINTED by my tool (wip/wm/tool/Gen.lean): a function as one of my machine. -/
namespace Wm.F
open Wm
set_option maxRecDepth 100000

/-- 169: (withy/withylaw20.Lay).fit -/
def withylaw20_Lay_fit : AFunc where
  closed := true
  nparams := 1
  ntmps := 14
  results := [.cell true 3 2]
  body := .seq (.ops (
      .op ⟨(some 1), .box (.t 0), []⟩ <|
      .op ⟨(some 2), .alloc [(.int .i64 0), (.int .i64 0), (.int .i64 0)], []⟩ <|
      .nil)) (
    .seq (.ops (
      .op ⟨(some 3), .fieldA 0 (.t 1), []⟩ <|
      .op ⟨(some 4), .load1 (.t 3), []⟩ <|
      .op ⟨(some 6), .fieldA 1 (.t 1), []⟩ <|
      .op ⟨(some 7), .load1 (.t 6), []⟩ <|
      .op ⟨(some 9), .fieldA 2 (.t 1), []⟩ <|
      .op ⟨(some 10), .load1 (.t 9), []⟩ <|
      .op ⟨(some 5), .call 165 [(.t 4), (.c (.int .i64 5))], [{ g := none, op := .load1 (.t 9), d := 10 }, { g := none, op := .load1 (.t 6), d := 7 }]⟩ <|
      .op ⟨(some 8), .call 165 [(.t 7), (.c (.int .i64 2))], [{ g := none, op := .load1 (.t 9), d := 10 }]⟩ <|
      .op ⟨(some 11), .call 165 [(.t 10), (.c (.int .i64 6))], []⟩ <|
      .op ⟨(some 12), .arith .sub .i64 (.t 11) (.c (.int .i64 1)), []⟩ <|
      .op ⟨(some 13), .build [(.int .i64 0), (.int .i64 0), (.int .i64 0)] [(0, 1, (.t 5)), (1, 1, (.t 8)), (2, 1, (.t 12))], []⟩ <|
      .op ⟨none, .store 3 (.t 2) (.t 13), []⟩ <|
      .nil)) (
    .ret))

def withylaw20_Lay_fit_hs : List (List Nat × List Nat) := []

end Wm.F
end

section
/- PRINTED by my tool (wip/wm/tool/Gen.lean): a function as one of my machine. -/
namespace Wm.F
open Wm
set_option maxRecDepth 100000

/-- 203: (*withy/mem.Mem).Store -/
def mem_Mem_Store : AFunc where
  closed := false
  nparams := 3
  ntmps := 15
  results := [.tmp 6]
  body := .seq (.ops (
      .op ⟨(some 6), .mov (.c (.bool false)), []⟩ <|
      .nil)) (
    .seq (.seq (.ops (
      .op ⟨(some 7), .mov (.t 0), []⟩ <|
      .op ⟨(some 8), .mov (.t 1), []⟩ <|
      .op ⟨(some 9), .call 346 [(.t 7), (.t 8)], []⟩ <|
      .op ⟨(some 10), .not (.t 9), []⟩ <|
      .nil)) (
    .cond (.t 10) (.seq (.ops (
        .op ⟨(some 6), .mov (.c (.bool false)), []⟩ <|
        .nil)) (
      .ret)) (.skip))) (
    .seq (.ops (
      .op ⟨(some 11), .mov (.t 0), []⟩ <|
      .op ⟨(some 12), .mov (.t 1), []⟩ <|
      .op ⟨(some 13), .mov (.t 2), []⟩ <|
      .op ⟨(some 14), .call 347 [(.t 11), (.c (.int .i64 2)), (.t 12), (.t 13)], []⟩ <|
      .nil)) (
    .seq (.ops (
      .op ⟨(some 6), .mov (.c (.bool true)), []⟩ <|
      .nil)) (
    .ret))))

def mem_Mem_Store_hs : List (List Nat × List Nat) := []

end Wm.F
end

section
/- PRINTED by my tool (wip/wm/tool/Gen.lean): a function as one of my machine. -/
namespace Wm.F
open Wm
set_option maxRecDepth 100000

/-- 375: withy/plan.within -/
def plan_within : AFunc where
  closed := true
  nparams := 3
  ntmps := 35
  results := [.tmp 6]
  body := .seq (.ops (
      .op ⟨(some 3), .box (.t 0), []⟩ <|
      .op ⟨(some 6), .mov (.c (.int .i64 0)), []⟩ <|
      .nil)) (
    .seq (.seq (.ops (
      .op ⟨(some 7), .loadN 6 (.t 3), []⟩ <|
      .op ⟨(some 8), .call 263 [(.t 7)], []⟩ <|
      .op ⟨(some 9), .not (.t 8), []⟩ <|
      .op ⟨(some 10), .mov (.t 9), []⟩ <|
      .grd 10 false [⟨(some 11), .mov (.t 1), []⟩,
          ⟨(some 12), .fieldA 0 (.t 3), []⟩,
          ⟨(some 13), .load1 (.t 12), []⟩,
          ⟨(some 14), .arith .sub .i64 (.t 13) (.c (.int .i64 1)), []⟩,
          ⟨(some 15), .call 376 [(.t 11), (.c (.int .i64 0)), (.t 14)], []⟩,
          ⟨(some 16), .not (.t 15), []⟩] <|
      .op ⟨(some 17), .pick (.t 10) (.c (.bool true)) (.t 16), []⟩ <|
      .op ⟨(some 18), .mov (.t 17), []⟩ <|
      .grd 18 false [⟨(some 19), .mov (.t 2), []⟩,
          ⟨(some 20), .loadN 6 (.t 3), []⟩,
          ⟨(some 21), .call 378 [(.t 20)], []⟩,
          ⟨(some 22), .arith .sub .i64 (.t 21) (.c (.int .i64 1)), []⟩,
          ⟨(some 23), .call 376 [(.t 19), (.c (.int .i64 0)), (.t 22)], []⟩,
          ⟨(some 24), .not (.t 23), []⟩] <|
      .op ⟨(some 25), .pick (.t 18) (.c (.bool true)) (.t 24), []⟩ <|
      .nil)) (
    .cond (.t 25) (.seq (.ops (
        .op ⟨(some 6), .mov (.c (.int .i64 (-1))), []⟩ <|
        .nil)) (
      .ret)) (.skip))) (
    .seq (.ops (
      .op ⟨(some 26), .loadN 6 (.t 3), []⟩ <|
      .op ⟨(some 28), .mov (.t 1), []⟩ <|
      .op ⟨(some 29), .loadN 6 (.t 3), []⟩ <|
      .op ⟨(some 33), .mov (.t 2), []⟩ <|
      .op ⟨(some 27), .call 377 [(.t 26)], [{ g := none, op := .loadN 6 (.t 3), d := 29 }]⟩ <|
      .op ⟨(some 30), .call 378 [(.t 29)], []⟩ <|
      .op ⟨(some 31), .arith .mul .i64 (.t 28) (.t 30), []⟩ <|
      .op ⟨(some 32), .arith .add .i64 (.t 27) (.t 31), []⟩ <|
      .op ⟨(some 34), .arith .add .i64 (.t 32) (.t 33), []⟩ <|
      .op ⟨(some 6), .mov (.t 34), []⟩ <|
      .nil)) (
    .ret)))

def plan_within_hs : List (List Nat × List Nat) := []

end Wm.F
end

section
/- PRINTED by my tool (wip/wm/tool/Gen.lean): a function as one of my machine. -/
namespace Wm.F
open Wm
set_option maxRecDepth 100000

/-- 303: (*withy/field.newest).step -/
def field_newest_step : AFunc where
  closed := false
  nparams := 2
  ntmps := 78
  results := [.tmp 4]
  body := .seq (.ops (
      .op ⟨(some 4), .mov (.c (.bool false)), []⟩ <|
      .nil)) (
    .seq (.seq (.ops (
      .op ⟨(some 5), .mov (.t 0), []⟩ <|
      .op ⟨(some 6), .nilc (.t 5), []⟩ <|
      .op ⟨(some 7), .fieldA 11 (.t 6), []⟩ <|
      .op ⟨(some 8), .load1 (.t 7), []⟩ <|
      .nil)) (
    .block 0 (.seq (.ops (
      .op ⟨(some 10), .cmp .eql .i64 (.t 8) (.c (.int .i64 0)), []⟩ <|
      .op ⟨(some 9), .mov (.t 10), []⟩ <|
      .nil)) (
    .cond (.t 9) (.seq (.ops (
        .op ⟨(some 11), .mov (.t 0), []⟩ <|
        .op ⟨(some 12), .mov (.t 0), []⟩ <|
        .op ⟨(some 13), .mov (.t 0), []⟩ <|
        .op ⟨(some 14), .nilc (.t 13), []⟩ <|
        .op ⟨(some 15), .fieldA 0 (.t 14), []⟩ <|
        .op ⟨(some 16), .loadN 6 (.t 15), []⟩ <|
        .op ⟨(some 17), .mov (.t 1), []⟩ <|
        .op ⟨(some 18), .mov (.t 0), []⟩ <|
        .op ⟨(some 19), .nilc (.t 18), []⟩ <|
        .op ⟨(some 20), .fieldA 7 (.t 19), []⟩ <|
        .op ⟨(some 21), .load1 (.t 20), []⟩ <|
        .op ⟨(some 24), .mov (.t 0), []⟩ <|
        .op ⟨(some 25), .nilc (.t 24), []⟩ <|
        .op ⟨(some 26), .fieldA 6 (.t 25), []⟩ <|
        .op ⟨(some 27), .load1 (.t 26), []⟩ <|
        .op ⟨(some 28), .nilc (.t 27), []⟩ <|
        .op ⟨(some 29), .fieldA 0 (.t 28), []⟩ <|
        .op ⟨(some 30), .load1 (.t 29), []⟩ <|
        .op ⟨(some 22), .call 266 [(.t 17), (.t 21)], [{ g := none, op := .load1 (.t 29), d := 30 }, { g := none, op := .load1 (.t 26), d := 27 }, { g := none, op := .loadN 6 (.t 15), d := 16 }]⟩ <|
        .op ⟨(some 23), .call 304 [(.t 16), (.t 22)], [{ g := none, op := .load1 (.t 29), d := 30 }, { g := none, op := .load1 (.t 26), d := 27 }]⟩ <|
        .op ⟨(some 31), .nilc (.t 11), []⟩ <|
        .op ⟨(some 32), .fieldA 8 (.t 31), []⟩ <|
        .op ⟨none, .store 1 (.t 32) (.t 23), []⟩ <|
        .op ⟨(some 33), .nilc (.t 12), []⟩ <|
        .op ⟨(some 34), .fieldA 9 (.t 33), []⟩ <|
        .op ⟨none, .store 1 (.t 34) (.t 30), []⟩ <|
        .nil)) (
      .seq (.ops (
        .op ⟨(some 35), .mov (.t 0), []⟩ <|
        .op ⟨(some 36), .nilc (.t 35), []⟩ <|
        .op ⟨(some 37), .fieldA 11 (.t 36), []⟩ <|
        .op ⟨none, .store 1 (.t 37) (.c (.int .i64 2)), []⟩ <|
        .nil)) (
      .seq (.ops (
        .op ⟨(some 38), .mov (.t 0), []⟩ <|
        .op ⟨(some 39), .nilc (.t 38), []⟩ <|
        .op ⟨(some 40), .fieldA 8 (.t 39), []⟩ <|
        .op ⟨(some 41), .load1 (.t 40), []⟩ <|
        .op ⟨(some 42), .cmp .geq .i64 (.t 41) (.c (.int .i64 0)), []⟩ <|
        .nil)) (
      .cond (.t 42) (.seq (.ops (
          .op ⟨(some 43), .mov (.t 0), []⟩ <|
          .op ⟨(some 44), .mov (.t 0), []⟩ <|
          .op ⟨(some 45), .nilc (.t 44), []⟩ <|
          .op ⟨(some 46), .fieldA 0 (.t 45), []⟩ <|
          .op ⟨(some 47), .loadN 6 (.t 46), []⟩ <|
          .op ⟨(some 48), .mov (.t 0), []⟩ <|
          .op ⟨(some 49), .nilc (.t 48), []⟩ <|
          .op ⟨(some 50), .fieldA 8 (.t 49), []⟩ <|
          .op ⟨(some 51), .load1 (.t 50), []⟩ <|
          .op ⟨(some 52), .mov (.t 0), []⟩ <|
          .op ⟨(some 53), .nilc (.t 52), []⟩ <|
          .op ⟨(some 54), .fieldA 6 (.t 53), []⟩ <|
          .op ⟨(some 55), .load1 (.t 54), []⟩ <|
          .op ⟨(some 56), .call 151 [(.t 47), (.t 51), (.t 55)], []⟩ <|
          .op ⟨(some 57), .nilc (.t 43), []⟩ <|
          .op ⟨(some 58), .fieldA 10 (.t 57), []⟩ <|
          .op ⟨none, .store 1 (.t 58) (.t 56), []⟩ <|
          .nil)) (
        .ops (
          .op ⟨(some 59), .mov (.t 0), []⟩ <|
          .op ⟨(some 60), .nilc (.t 59), []⟩ <|
          .op ⟨(some 61), .fieldA 11 (.t 60), []⟩ <|
          .op ⟨none, .store 1 (.t 61) (.c (.int .i64 1)), []⟩ <|
          .nil))) (.skip))))) (.seq (.ops (
        .op ⟨(some 63), .cmp .eql .i64 (.t 8) (.c (.int .i64 1)), []⟩ <|
        .op ⟨(some 62), .mov (.t 63), []⟩ <|
        .nil)) (
      .cond (.t 62) (.seq (.ops (
          .op ⟨(some 64), .mov (.t 0), []⟩ <|
          .op ⟨(some 65), .nilc (.t 64), []⟩ <|
          .op ⟨(some 66), .fieldA 10 (.t 65), []⟩ <|
          .op ⟨(some 67), .load1 (.t 66), []⟩ <|
          .op ⟨(some 68), .mov (.t 1), []⟩ <|
          .op ⟨(some 69), .call 150 [(.t 67), (.t 68)], []⟩ <|
          .nil)) (
        .cond (.t 69) (.ops (
            .op ⟨(some 70), .mov (.t 0), []⟩ <|
            .op ⟨(some 71), .nilc (.t 70), []⟩ <|
            .op ⟨(some 72), .fieldA 11 (.t 71), []⟩ <|
            .op ⟨none, .store 1 (.t 72) (.c (.int .i64 2)), []⟩ <|
            .nil)) (.skip))) (.skip))))))) (
    .seq (.ops (
      .op ⟨(some 73), .mov (.t 0), []⟩ <|
      .op ⟨(some 74), .nilc (.t 73), []⟩ <|
      .op ⟨(some 75), .fieldA 11 (.t 74), []⟩ <|
      .op ⟨(some 76), .load1 (.t 75), []⟩ <|
      .op ⟨(some 77), .cmp .eql .i64 (.t 76) (.c (.int .i64 2)), []⟩ <|
      .op ⟨(some 4), .mov (.t 77), []⟩ <|
      .nil)) (
    .ret)))

def field_newest_step_hs : List (List Nat × List Nat) := []

end Wm.F
end

section
/- PRINTED by my tool (wip/wm/tool/Gen.lean): a function as one of my machine. -/
namespace Wm.F
open Wm
set_option maxRecDepth 100000

/-- 304: withy/field.named -/
def field_named : AFunc where
  closed := true
  nparams := 2
  ntmps := 13
  results := [.tmp 4]
  body := .seq (.ops (
      .op ⟨(some 2), .box (.t 0), []⟩ <|
      .op ⟨(some 4), .mov (.c (.int .i64 0)), []⟩ <|
      .nil)) (
    .seq (.seq (.ops (
      .op ⟨(some 5), .mov (.t 1), []⟩ <|
      .op ⟨(some 6), .fieldA 0 (.t 2), []⟩ <|
      .op ⟨(some 7), .load1 (.t 6), []⟩ <|
      .op ⟨(some 8), .conv .u64 (.t 7), []⟩ <|
      .op ⟨(some 9), .cmp .gtr .u64 (.t 5) (.t 8), []⟩ <|
      .nil)) (
    .cond (.t 9) (.seq (.ops (
        .op ⟨(some 4), .mov (.c (.int .i64 (-1))), []⟩ <|
        .nil)) (
      .ret)) (.skip))) (
    .seq (.ops (
      .op ⟨(some 10), .mov (.t 1), []⟩ <|
      .op ⟨(some 11), .conv .i64 (.t 10), []⟩ <|
      .op ⟨(some 12), .arith .sub .i64 (.t 11) (.c (.int .i64 1)), []⟩ <|
      .op ⟨(some 4), .mov (.t 12), []⟩ <|
      .nil)) (
    .ret)))

def field_named_hs : List (List Nat × List Nat) := []

end Wm.F
end

section
/- PRINTED by my tool (wip/wm/tool/Gen.lean): a function as one of my machine. -/
namespace Wm.F
open Wm
set_option maxRecDepth 100000

/-- 305: withy/plan.Body -/
def plan_Body : AFunc where
  closed := true
  nparams := 3
  ntmps := 18
  results := [.tmp 6]
  body := .seq (.ops (
      .op ⟨(some 3), .box (.t 0), []⟩ <|
      .op ⟨(some 6), .mov (.c (.int .i64 0)), []⟩ <|
      .nil)) (
    .seq (.seq (.ops (
      .op ⟨(some 7), .mov (.t 2), []⟩ <|
      .op ⟨(some 8), .cmp .lss .i64 (.t 7) (.c (.int .i64 0)), []⟩ <|
      .op ⟨(some 9), .mov (.t 8), []⟩ <|
      .grd 9 false [⟨(some 10), .mov (.t 2), []⟩,
          ⟨(some 11), .cmp .gtr .i64 (.t 10) (.c (.int .i64 8)), []⟩] <|
      .op ⟨(some 12), .pick (.t 9) (.c (.bool true)) (.t 11), []⟩ <|
      .nil)) (
    .cond (.t 12) (.seq (.ops (
        .op ⟨(some 6), .mov (.c (.int .i64 (-1))), []⟩ <|
        .nil)) (
      .ret)) (.skip))) (
    .seq (.ops (
      .op ⟨(some 13), .loadN 6 (.t 3), []⟩ <|
      .op ⟨(some 14), .mov (.t 1), []⟩ <|
      .op ⟨(some 15), .mov (.t 2), []⟩ <|
      .op ⟨(some 16), .arith .add .i64 (.c (.int .i64 2)) (.t 15), []⟩ <|
      .op ⟨(some 17), .call 375 [(.t 13), (.t 14), (.t 16)], []⟩ <|
      .op ⟨(some 6), .mov (.t 17), []⟩ <|
      .nil)) (
    .ret)))

def plan_Body_hs : List (List Nat × List Nat) := []

end Wm.F
end

section
/- PRINTED by my tool (wip/wm/tool/Gen.lean): a function as one of my machine. -/
namespace Wm.F
open Wm
set_option maxRecDepth 100000

def word_Unpack_c1 : ACode :=
  .seq (.ops (
    .op ⟨(some 13), .cmp .lss .i64 (.t 12) (.t 11), []⟩ <|
    .nil)) (
  .seq (.cond (.t 13) (.skip) (.exit 0)) (
  .seq (.block 1 (.seq (.ops (
    .op ⟨(some 14), .indexA 1 (.t 10) (.t 12), []⟩ <|
    .op ⟨(some 15), .load1 (.t 14), []⟩ <|
    .op ⟨(some 9), .mov (.t 15), []⟩ <|
    .nil)) (
  .seq (.seq (.ops (
    .op ⟨(some 16), .mov (.t 7), []⟩ <|
    .op ⟨(some 17), .mov (.t 9), []⟩ <|
    .op ⟨(some 18), .call 441 [(.t 16), (.t 17)], []⟩ <|
    .op ⟨(some 19), .not (.t 18), []⟩ <|
    .nil)) (
  .cond (.t 19) (.seq (.ops (
      .op ⟨(some 4), .mov (.c .nilsl), []⟩ <|
      .op ⟨(some 5), .mov (.c (.bool false)), []⟩ <|
      .nil)) (
    .ret)) (.skip))) (
  .seq (.ops (
    .op ⟨(some 20), .mov (.t 6), []⟩ <|
    .op ⟨(some 21), .mov (.t 0), []⟩ <|
    .op ⟨(some 22), .mov (.t 7), []⟩ <|
    .op ⟨(some 23), .mov (.t 9), []⟩ <|
    .op ⟨(some 24), .call 396 [(.t 21), (.t 22), (.t 23)], []⟩ <|
    .op ⟨(some 25), .buildSl 1 1 [(.int .u64 0)] [(0, 1, (.t 24))], []⟩ <|
    .op ⟨(some 26), .append 1 8 (.t 20) (.t 25), []⟩ <|
    .op ⟨(some 6), .mov (.t 26), []⟩ <|
    .nil)) (
  .ops (
    .op ⟨(some 27), .mov (.t 7), []⟩ <|
    .op ⟨(some 28), .mov (.t 9), []⟩ <|
    .op ⟨(some 29), .arith .add .i64 (.t 27) (.t 28), []⟩ <|
    .op ⟨(some 7), .mov (.t 29), []⟩ <|
    .nil)))))) (
  .ops (
    .op ⟨(some 30), .arith .add .i64 (.t 12) (.c (.int .i64 1)), []⟩ <|
    .op ⟨(some 12), .mov (.t 30), []⟩ <|
    .nil))))

def word_Unpack_c0 : ACode :=
  .seq (.ops (
    .op ⟨(some 31), .mov (.t 6), []⟩ <|
    .op ⟨(some 4), .mov (.t 31), []⟩ <|
    .op ⟨(some 5), .mov (.c (.bool true)), []⟩ <|
    .nil)) (
  .ret)

/-- 379: withy/word.Unpack -/
def word_Unpack : AFunc where
  closed := false
  nparams := 2
  ntmps := 32
  results := [.tmp 4, .tmp 5]
  body := .seq (.ops (
      .op ⟨(some 4), .mov (.c .nilsl), []⟩ <|
      .op ⟨(some 5), .mov (.c (.bool false)), []⟩ <|
      .nil)) (
    .seq (.ops (
      .op ⟨(some 6), .mov (.c .nilsl), []⟩ <|
      .nil)) (
    .seq (.ops (
      .op ⟨(some 7), .mov (.c (.int .i64 0)), []⟩ <|
      .nil)) (
    .seq (.seq (.ops (
      .op ⟨(some 10), .mov (.t 1), []⟩ <|
      .op ⟨(some 11), .lenSl (.t 10), []⟩ <|
      .op ⟨(some 12), .mov (.c (.int .i64 0)), []⟩ <|
      .nil)) (
    .block 0 (.loop [0, 6, 7, 10, 11, 12] [4, 5, 6] (word_Unpack_c1)))) (
    word_Unpack_c0))))

def word_Unpack_hs : List (List Nat × List Nat) := [([0, 6, 7, 10, 11, 12], [4, 5, 6])]

end Wm.F
end

section
/- PRINTED by my tool (wip/wm/tool/Gen.lean): a function as one of my machine. -/
namespace Wm.F
open Wm
set_option maxRecDepth 100000

/-- 346: (*withy/mem.Mem).there -/
def mem_Mem_there : AFunc where
  closed := false
  nparams := 2
  ntmps := 13
  results := [.tmp 4]
  body := .seq (.ops (
      .op ⟨(some 4), .mov (.c (.bool false)), []⟩ <|
      .nil)) (
    .seq (.ops (
      .op ⟨(some 5), .mov (.t 1), []⟩ <|
      .op ⟨(some 6), .cmp .geq .i64 (.t 5) (.c (.int .i64 0)), []⟩ <|
      .op ⟨(some 7), .mov (.t 6), []⟩ <|
      .grd 7 true [⟨(some 8), .mov (.t 1), []⟩,
          ⟨(some 9), .mov (.t 0), []⟩,
          ⟨(some 10), .call 413 [(.t 9)], []⟩,
          ⟨(some 11), .cmp .lss .i64 (.t 8) (.t 10), []⟩] <|
      .op ⟨(some 12), .pick (.t 7) (.t 11) (.c (.bool false)), []⟩ <|
      .op ⟨(some 4), .mov (.t 12), []⟩ <|
      .nil)) (
    .ret))

def mem_Mem_there_hs : List (List Nat × List Nat) := []

end Wm.F
end

section
/- PRINTED by my tool (wip/wm/tool/Gen.lean): a function as one of my machine. -/
namespace Wm.F
open Wm
set_option maxRecDepth 100000

/-- 347: (*withy/mem.Mem).touch -/
def mem_Mem_touch : AFunc where
  closed := false
  nparams := 4
  ntmps := 36
  results := []
  body := .seq (.ops (
      .op ⟨(some 8), .mov (.t 0), []⟩ <|
      .op ⟨(some 9), .nilc (.t 8), []⟩ <|
      .op ⟨(some 10), .fieldA 1 (.t 9), []⟩ <|
      .op ⟨(some 11), .load1 (.t 10), []⟩ <|
      .op ⟨(some 12), .arith .add .i64 (.t 11) (.c (.int .i64 1)), []⟩ <|
      .op ⟨(some 13), .nilc (.t 8), []⟩ <|
      .op ⟨(some 14), .fieldA 1 (.t 13), []⟩ <|
      .op ⟨none, .store 1 (.t 14) (.t 12), []⟩ <|
      .nil)) (
    .seq (.ops (
      .op ⟨(some 15), .mov (.t 0), []⟩ <|
      .op ⟨(some 16), .mov (.t 1), []⟩ <|
      .op ⟨(some 17), .mov (.t 2), []⟩ <|
      .op ⟨(some 18), .mov (.t 0), []⟩ <|
      .op ⟨(some 19), .nilc (.t 18), []⟩ <|
      .op ⟨(some 20), .fieldA 0 (.t 19), []⟩ <|
      .op ⟨(some 21), .load1 (.t 20), []⟩ <|
      .op ⟨(some 22), .mov (.t 2), []⟩ <|
      .op ⟨(some 23), .indexA 1 (.t 21) (.t 22), []⟩ <|
      .op ⟨(some 24), .load1 (.t 23), []⟩ <|
      .op ⟨(some 25), .mov (.t 3), []⟩ <|
      .op ⟨(some 26), .build [(.int .i64 0), (.int .i64 0), (.int .u64 0), (.int .u64 0)] [(0, 1, (.t 16)), (1, 1, (.t 17)), (2, 1, (.t 24)), (3, 1, (.t 25))], []⟩ <|
      .op ⟨(some 27), .nilc (.t 15), []⟩ <|
      .op ⟨(some 28), .fieldA 2 (.t 27), []⟩ <|
      .op ⟨none, .store 4 (.t 28) (.t 26), []⟩ <|
      .nil)) (
    .ops (
      .op ⟨(some 29), .mov (.t 0), []⟩ <|
      .op ⟨(some 30), .nilc (.t 29), []⟩ <|
      .op ⟨(some 31), .fieldA 0 (.t 30), []⟩ <|
      .op ⟨(some 32), .load1 (.t 31), []⟩ <|
      .op ⟨(some 33), .mov (.t 2), []⟩ <|
      .op ⟨(some 34), .mov (.t 3), []⟩ <|
      .op ⟨(some 35), .indexA 1 (.t 32) (.t 33), []⟩ <|
      .op ⟨none, .store 1 (.t 35) (.t 34), []⟩ <|
      .nil)))

def mem_Mem_touch_hs : List (List Nat × List Nat) := []

end Wm.F
end

section
/- PRINTED by my tool (wip/wm/tool/Gen.lean): a function as one of my machine. -/
namespace Wm.F
open Wm
set_option maxRecDepth 100000

/-- 146: withy/field.NewSee -/
def field_NewSee : AFunc where
  closed := false
  nparams := 5
  ntmps := 23
  results := [.tmp 10]
  body := .seq (.ops (
      .op ⟨(some 5), .box (.t 0), []⟩ <|
      .op ⟨(some 10), .mov (.c .nilp), []⟩ <|
      .nil)) (
    .seq (.ops (
      .op ⟨(some 12), .loadN 6 (.t 5), []⟩ <|
      .op ⟨(some 13), .mov (.t 1), []⟩ <|
      .op ⟨(some 14), .mov (.t 2), []⟩ <|
      .op ⟨(some 15), .mov (.t 4), []⟩ <|
      .op ⟨(some 16), .call 302 [(.t 12), (.t 13), (.t 14), (.t 15)], []⟩ <|
      .op ⟨(some 11), .mov (.t 16), []⟩ <|
      .nil)) (
    .seq (.seq (.ops (
      .op ⟨(some 17), .mov (.t 11), []⟩ <|
      .op ⟨(some 18), .eq false .ptr (.t 17) (.c .nilp), []⟩ <|
      .nil)) (
    .cond (.t 18) (.seq (.ops (
        .op ⟨(some 10), .mov (.c .nilp), []⟩ <|
        .nil)) (
      .ret)) (.skip))) (
    .seq (.ops (
      .op ⟨(some 19), .mov (.t 11), []⟩ <|
      .op ⟨(some 20), .mov (.t 3), []⟩ <|
      .op ⟨(some 21), .build [(.int .i64 0), .nilp, (.int .u64 0), (.int .i64 0), (.int .i64 0)] [(0, 1, (.c (.int .i64 (-1)))), (1, 1, (.t 19)), (2, 1, (.t 20))], []⟩ <|
      .op ⟨(some 22), .box (.t 21), []⟩ <|
      .op ⟨(some 10), .mov (.t 22), []⟩ <|
      .nil)) (
    .ret))))

def field_NewSee_hs : List (List Nat × List Nat) := []

end Wm.F
end

section
/- PRINTED by my tool (wip/wm/tool/Gen.lean): a function as one of my machine. -/
namespace Wm.F
open Wm
set_option maxRecDepth 100000

def slices_Index___int_int__c1 : ACode :=
  .seq (.ops (
    .op ⟨(some 9), .cmp .lss .i64 (.t 8) (.t 7), []⟩ <|
    .nil)) (
  .seq (.cond (.t 9) (.skip) (.exit 0)) (
  .seq (.block 1 (.seq (.ops (
    .op ⟨(some 10), .mov (.t 8), []⟩ <|
    .op ⟨(some 5), .mov (.t 10), []⟩ <|
    .nil)) (
  .seq (.ops (
    .op ⟨(some 11), .mov (.t 1), []⟩ <|
    .op ⟨(some 12), .mov (.t 0), []⟩ <|
    .op ⟨(some 13), .mov (.t 5), []⟩ <|
    .op ⟨(some 14), .indexA 1 (.t 12) (.t 13), []⟩ <|
    .op ⟨(some 15), .load1 (.t 14), []⟩ <|
    .op ⟨(some 16), .cmp .eql .i64 (.t 11) (.t 15), []⟩ <|
    .nil)) (
  .cond (.t 16) (.seq (.ops (
      .op ⟨(some 17), .mov (.t 5), []⟩ <|
      .op ⟨(some 4), .mov (.t 17), []⟩ <|
      .nil)) (
    .ret)) (.skip))))) (
  .ops (
    .op ⟨(some 18), .arith .add .i64 (.t 8) (.c (.int .i64 1)), []⟩ <|
    .op ⟨(some 8), .mov (.t 18), []⟩ <|
    .nil))))

def slices_Index___int_int__c0 : ACode :=
  .seq (.ops (
    .op ⟨(some 4), .mov (.c (.int .i64 (-1))), []⟩ <|
    .nil)) (
  .ret)

/-- 404: slices.Index[[]int,int] -/
def slices_Index___int_int_ : AFunc where
  closed := false
  nparams := 2
  ntmps := 19
  results := [.tmp 4]
  body := .seq (.ops (
      .op ⟨(some 4), .mov (.c (.int .i64 0)), []⟩ <|
      .nil)) (
    .seq (.seq (.ops (
      .op ⟨(some 6), .mov (.t 0), []⟩ <|
      .op ⟨(some 7), .lenSl (.t 6), []⟩ <|
      .op ⟨(some 8), .mov (.c (.int .i64 0)), []⟩ <|
      .nil)) (
    .block 0 (.loop [0, 1, 7, 8] [4] (slices_Index___int_int__c1)))) (
    slices_Index___int_int__c0))

def slices_Index___int_int__hs : List (List Nat × List Nat) := [([0, 1, 7, 8], [4])]

end Wm.F
end

section
/- PRINTED by my tool (wip/wm/tool/Gen.lean): a function as one of my machine. -/
namespace Wm.F
open Wm
set_option maxRecDepth 100000

/-- 376: withy/plan.between -/
def plan_between : AFunc where
  closed := true
  nparams := 3
  ntmps := 15
  results := [.tmp 6]
  body := .seq (.ops (
      .op ⟨(some 6), .mov (.c (.bool false)), []⟩ <|
      .nil)) (
    .seq (.ops (
      .op ⟨(some 7), .mov (.t 0), []⟩ <|
      .op ⟨(some 8), .mov (.t 1), []⟩ <|
      .op ⟨(some 9), .cmp .geq .i64 (.t 7) (.t 8), []⟩ <|
      .op ⟨(some 10), .mov (.t 9), []⟩ <|
      .grd 10 true [⟨(some 11), .mov (.t 0), []⟩,
          ⟨(some 12), .mov (.t 2), []⟩,
          ⟨(some 13), .cmp .leq .i64 (.t 11) (.t 12), []⟩] <|
      .op ⟨(some 14), .pick (.t 10) (.t 13) (.c (.bool false)), []⟩ <|
      .op ⟨(some 6), .mov (.t 14), []⟩ <|
      .nil)) (
    .ret))

def plan_between_hs : List (List Nat × List Nat) := []

end Wm.F
end

section
/- PRINTED by my tool (wip/wm/tool/Gen.lean): a function as one of my machine. -/
namespace Wm.F
open Wm
set_option maxRecDepth 100000

def withyref06_Words_c11 : ACode :=
  .seq (.seq (.ops (
    .op ⟨(some 70), .mov (.t 9), []⟩ <|
    .op ⟨(some 71), .loadN 6 (.t 1), []⟩ <|
    .op ⟨(some 72), .call 149 [(.t 71)], []⟩ <|
    .op ⟨(some 73), .cmp .lss .i64 (.t 70) (.t 72), []⟩ <|
    .nil)) (
  .cond (.t 73) (.skip) (.exit 10))) (
  .seq (.block 11 (.ops (
    .op ⟨(some 76), .mov (.t 3), []⟩ <|
    .op ⟨(some 77), .mov (.t 8), []⟩ <|
    .op ⟨(some 78), .mov (.t 9), []⟩ <|
    .op ⟨(some 79), .build [(.str ⟨⟨[]⟩⟩), (.int .i64 0), (.int .i64 0)] [(0, 1, (.c (.str ⟨⟨[98, 111, 100, 121]⟩⟩))), (1, 1, (.t 77)), (2, 1, (.t 78))], []⟩ <|
    .op ⟨(some 80), .buildSl 3 1 [(.str ⟨⟨[]⟩⟩), (.int .i64 0), (.int .i64 0)] [(0, 3, (.t 79))], []⟩ <|
    .op ⟨(some 81), .append 3 32 (.t 76) (.t 80), []⟩ <|
    .op ⟨(some 3), .mov (.t 81), []⟩ <|
    .nil))) (
  .ops (
    .op ⟨(some 74), .mov (.t 9), []⟩ <|
    .op ⟨(some 75), .arith .add .i64 (.t 74) (.c (.int .i64 1)), []⟩ <|
    .op ⟨(some 9), .mov (.t 75), []⟩ <|
    .nil)))

def withyref06_Words_c10 : ACode :=
  .ops (
    .op ⟨(some 61), .mov (.t 8), []⟩ <|
    .op ⟨(some 62), .arith .add .i64 (.t 61) (.c (.int .i64 1)), []⟩ <|
    .op ⟨(some 8), .mov (.t 62), []⟩ <|
    .nil)

def withyref06_Words_c9 : ACode :=
  .seq (.seq (.ops (
    .op ⟨(some 57), .mov (.t 8), []⟩ <|
    .op ⟨(some 58), .fieldA 0 (.t 1), []⟩ <|
    .op ⟨(some 59), .load1 (.t 58), []⟩ <|
    .op ⟨(some 60), .cmp .lss .i64 (.t 57) (.t 59), []⟩ <|
    .nil)) (
  .cond (.t 60) (.skip) (.exit 8))) (
  .seq (.block 9 (.seq (.ops (
    .op ⟨(some 63), .mov (.t 3), []⟩ <|
    .op ⟨(some 64), .mov (.t 8), []⟩ <|
    .op ⟨(some 65), .build [(.str ⟨⟨[]⟩⟩), (.int .i64 0), (.int .i64 0)] [(0, 1, (.c (.str ⟨⟨[104, 101, 97, 100, 101, 114]⟩⟩))), (1, 1, (.t 64)), (2, 1, (.c (.int .i64 0)))], []⟩ <|
    .op ⟨(some 66), .mov (.t 8), []⟩ <|
    .op ⟨(some 67), .build [(.str ⟨⟨[]⟩⟩), (.int .i64 0), (.int .i64 0)] [(0, 1, (.c (.str ⟨⟨[108, 105, 110, 107]⟩⟩))), (1, 1, (.t 66)), (2, 1, (.c (.int .i64 0)))], []⟩ <|
    .op ⟨(some 68), .buildSl 3 2 [(.str ⟨⟨[]⟩⟩), (.int .i64 0), (.int .i64 0)] [(0, 3, (.t 65)), (3, 3, (.t 67))], []⟩ <|
    .op ⟨(some 69), .append 3 32 (.t 63) (.t 68), []⟩ <|
    .op ⟨(some 3), .mov (.t 69), []⟩ <|
    .nil)) (
  .seq (.ops (
    .op ⟨(some 9), .mov (.c (.int .i64 0)), []⟩ <|
    .nil)) (
  .block 10 (.loop [1, 3, 8, 9] [1, 3, 8] (withyref06_Words_c11)))))) (
  withyref06_Words_c10))

def withyref06_Words_c8 : ACode :=
  .seq (.ops (
    .op ⟨(some 82), .mov (.t 3), []⟩ <|
    .op ⟨(some 2), .mov (.t 82), []⟩ <|
    .nil)) (
  .ret)

def withyref06_Words_c7 : ACode :=
  .seq (.seq (.ops (
    .op ⟨(some 44), .mov (.t 7), []⟩ <|
    .op ⟨(some 45), .fieldA 2 (.t 1), []⟩ <|
    .op ⟨(some 46), .load1 (.t 45), []⟩ <|
    .op ⟨(some 47), .cmp .lss .i64 (.t 44) (.t 46), []⟩ <|
    .nil)) (
  .cond (.t 47) (.skip) (.exit 6))) (
  .seq (.block 7 (.ops (
    .op ⟨(some 50), .mov (.t 3), []⟩ <|
    .op ⟨(some 51), .mov (.t 7), []⟩ <|
    .op ⟨(some 52), .build [(.str ⟨⟨[]⟩⟩), (.int .i64 0), (.int .i64 0)] [(0, 1, (.c (.str ⟨⟨[118, 105, 101, 119]⟩⟩))), (1, 1, (.t 51)), (2, 1, (.c (.int .i64 0)))], []⟩ <|
    .op ⟨(some 53), .mov (.t 7), []⟩ <|
    .op ⟨(some 54), .build [(.str ⟨⟨[]⟩⟩), (.int .i64 0), (.int .i64 0)] [(0, 1, (.c (.str ⟨⟨[115, 116, 97, 114, 116]⟩⟩))), (1, 1, (.t 53)), (2, 1, (.c (.int .i64 0)))], []⟩ <|
    .op ⟨(some 55), .buildSl 3 2 [(.str ⟨⟨[]⟩⟩), (.int .i64 0), (.int .i64 0)] [(0, 3, (.t 52)), (3, 3, (.t 54))], []⟩ <|
    .op ⟨(some 56), .append 3 32 (.t 50) (.t 55), []⟩ <|
    .op ⟨(some 3), .mov (.t 56), []⟩ <|
    .nil))) (
  .ops (
    .op ⟨(some 48), .mov (.t 7), []⟩ <|
    .op ⟨(some 49), .arith .add .i64 (.t 48) (.c (.int .i64 1)), []⟩ <|
    .op ⟨(some 7), .mov (.t 49), []⟩ <|
    .nil)))

def withyref06_Words_c6 : ACode :=
  .seq (.seq (.ops (
    .op ⟨(some 8), .mov (.c (.int .i64 0)), []⟩ <|
    .nil)) (
  .block 8 (.loop [1, 3, 8] [3] (withyref06_Words_c9)))) (
  withyref06_Words_c8)

def withyref06_Words_c5 : ACode :=
  .seq (.seq (.ops (
    .op ⟨(some 32), .mov (.t 6), []⟩ <|
    .op ⟨(some 33), .fieldA 3 (.t 1), []⟩ <|
    .op ⟨(some 34), .load1 (.t 33), []⟩ <|
    .op ⟨(some 35), .cmp .lss .i64 (.t 32) (.t 34), []⟩ <|
    .nil)) (
  .cond (.t 35) (.skip) (.exit 4))) (
  .seq (.block 5 (.ops (
    .op ⟨(some 38), .mov (.t 3), []⟩ <|
    .op ⟨(some 39), .mov (.t 5), []⟩ <|
    .op ⟨(some 40), .mov (.t 6), []⟩ <|
    .op ⟨(some 41), .build [(.str ⟨⟨[]⟩⟩), (.int .i64 0), (.int .i64 0)] [(0, 1, (.c (.str ⟨⟨[101, 110, 116, 114, 121]⟩⟩))), (1, 1, (.t 39)), (2, 1, (.t 40))], []⟩ <|
    .op ⟨(some 42), .buildSl 3 1 [(.str ⟨⟨[]⟩⟩), (.int .i64 0), (.int .i64 0)] [(0, 3, (.t 41))], []⟩ <|
    .op ⟨(some 43), .append 3 32 (.t 38) (.t 42), []⟩ <|
    .op ⟨(some 3), .mov (.t 43), []⟩ <|
    .nil))) (
  .ops (
    .op ⟨(some 36), .mov (.t 6), []⟩ <|
    .op ⟨(some 37), .arith .add .i64 (.t 36) (.c (.int .i64 1)), []⟩ <|
    .op ⟨(some 6), .mov (.t 37), []⟩ <|
    .nil)))

def withyref06_Words_c4 : ACode :=
  .ops (
    .op ⟨(some 30), .mov (.t 5), []⟩ <|
    .op ⟨(some 31), .arith .add .i64 (.t 30) (.c (.int .i64 1)), []⟩ <|
    .op ⟨(some 5), .mov (.t 31), []⟩ <|
    .nil)

def withyref06_Words_c3 : ACode :=
  .seq (.seq (.ops (
    .op ⟨(some 26), .mov (.t 5), []⟩ <|
    .op ⟨(some 27), .fieldA 2 (.t 1), []⟩ <|
    .op ⟨(some 28), .load1 (.t 27), []⟩ <|
    .op ⟨(some 29), .cmp .lss .i64 (.t 26) (.t 28), []⟩ <|
    .nil)) (
  .cond (.t 29) (.skip) (.exit 2))) (
  .seq (.block 3 (.seq (.ops (
    .op ⟨(some 6), .mov (.c (.int .i64 0)), []⟩ <|
    .nil)) (
  .block 4 (.loop [1, 3, 5, 6] [1, 3, 5] (withyref06_Words_c5))))) (
  withyref06_Words_c4))

def withyref06_Words_c2 : ACode :=
  .seq (.seq (.ops (
    .op ⟨(some 7), .mov (.c (.int .i64 0)), []⟩ <|
    .nil)) (
  .block 6 (.loop [1, 3, 7] [1, 3] (withyref06_Words_c7)))) (
  withyref06_Words_c6)

def withyref06_Words_c1 : ACode :=
  .seq (.seq (.ops (
    .op ⟨(some 15), .mov (.t 4), []⟩ <|
    .op ⟨(some 16), .fieldA 2 (.t 1), []⟩ <|
    .op ⟨(some 17), .load1 (.t 16), []⟩ <|
    .op ⟨(some 18), .cmp .lss .i64 (.t 15) (.t 17), []⟩ <|
    .nil)) (
  .cond (.t 18) (.skip) (.exit 0))) (
  .seq (.block 1 (.ops (
    .op ⟨(some 21), .mov (.t 3), []⟩ <|
    .op ⟨(some 22), .mov (.t 4), []⟩ <|
    .op ⟨(some 23), .build [(.str ⟨⟨[]⟩⟩), (.int .i64 0), (.int .i64 0)] [(0, 1, (.c (.str ⟨⟨[112, 105, 110]⟩⟩))), (1, 1, (.t 22)), (2, 1, (.c (.int .i64 0)))], []⟩ <|
    .op ⟨(some 24), .buildSl 3 1 [(.str ⟨⟨[]⟩⟩), (.int .i64 0), (.int .i64 0)] [(0, 3, (.t 23))], []⟩ <|
    .op ⟨(some 25), .append 3 32 (.t 21) (.t 24), []⟩ <|
    .op ⟨(some 3), .mov (.t 25), []⟩ <|
    .nil))) (
  .ops (
    .op ⟨(some 19), .mov (.t 4), []⟩ <|
    .op ⟨(some 20), .arith .add .i64 (.t 19) (.c (.int .i64 1)), []⟩ <|
    .op ⟨(some 4), .mov (.t 20), []⟩ <|
    .nil)))

def withyref06_Words_c0 : ACode :=
  .seq (.seq (.ops (
    .op ⟨(some 5), .mov (.c (.int .i64 0)), []⟩ <|
    .nil)) (
  .block 2 (.loop [1, 3, 5] [1, 3] (withyref06_Words_c3)))) (
  withyref06_Words_c2)

/-- 87: withy/withyref06.Words -/
def withyref06_Words : AFunc where
  closed := false
  nparams := 1
  ntmps := 83
  results := [.tmp 2]
  body := .seq (.ops (
      .op ⟨(some 1), .box (.t 0), []⟩ <|
      .op ⟨(some 2), .mov (.c .nilsl), []⟩ <|
      .nil)) (
    .seq (.ops (
      .op ⟨(some 10), .build [(.str ⟨⟨[]⟩⟩), (.int .i64 0), (.int .i64 0)] [(0, 1, (.c (.str ⟨⟨[99, 108, 111, 99, 107]⟩⟩)))], []⟩ <|
      .op ⟨(some 11), .build [(.str ⟨⟨[]⟩⟩), (.int .i64 0), (.int .i64 0)] [(0, 1, (.c (.str ⟨⟨[101, 112, 111, 99, 104]⟩⟩)))], []⟩ <|
      .op ⟨(some 12), .build [(.str ⟨⟨[]⟩⟩), (.int .i64 0), (.int .i64 0)] [(0, 1, (.c (.str ⟨⟨[103, 114, 97, 121, 115]⟩⟩)))], []⟩ <|
      .op ⟨(some 13), .build [(.str ⟨⟨[]⟩⟩), (.int .i64 0), (.int .i64 0)] [(0, 1, (.c (.str ⟨⟨[116, 111, 112]⟩⟩)))], []⟩ <|
      .op ⟨(some 14), .buildSl 3 4 [(.str ⟨⟨[]⟩⟩), (.int .i64 0), (.int .i64 0)] [(0, 3, (.t 10)), (3, 3, (.t 11)), (6, 3, (.t 12)), (9, 3, (.t 13))], []⟩ <|
      .op ⟨(some 3), .mov (.t 14), []⟩ <|
      .nil)) (
    .seq (.seq (.ops (
      .op ⟨(some 4), .mov (.c (.int .i64 0)), []⟩ <|
      .nil)) (
    .block 0 (.loop [1, 3, 4] [1, 3] (withyref06_Words_c1)))) (
    withyref06_Words_c0)))

def withyref06_Words_hs : List (List Nat × List Nat) := [([1, 3, 4], [1, 3]), ([1, 3, 5], [1, 3]), ([1, 3, 5, 6], [1, 3, 5]), ([1, 3, 7], [1, 3]), ([1, 3, 8], [3]), ([1, 3, 8, 9], [1, 3, 8])]

end Wm.F
end

section
/- PRINTED by my tool (wip/wm/tool/Gen.lean): a function as one of my machine. -/
namespace Wm.F
open Wm
set_option maxRecDepth 100000

/-- 271: slices.Clone[[]uint64,uint64] -/
def slices_Clone___uint64_uint64_ : AFunc where
  closed := false
  nparams := 1
  ntmps := 8
  results := [.tmp 2]
  body := .seq (.ops (
      .op ⟨(some 2), .mov (.c .nilsl), []⟩ <|
      .nil)) (
    .seq (.seq (.ops (
      .op ⟨(some 3), .mov (.t 0), []⟩ <|
      .op ⟨(some 4), .eq false .sl (.t 3) (.c .nilsl), []⟩ <|
      .nil)) (
    .cond (.t 4) (.seq (.ops (
        .op ⟨(some 2), .mov (.c .nilsl), []⟩ <|
        .nil)) (
      .ret)) (.skip))) (
    .seq (.ops (
      .op ⟨(some 5), .buildSl 1 0 [(.int .u64 0)] [], []⟩ <|
      .op ⟨(some 6), .mov (.t 0), []⟩ <|
      .op ⟨(some 7), .append 1 8 (.t 5) (.t 6), []⟩ <|
      .op ⟨(some 2), .mov (.t 7), []⟩ <|
      .nil)) (
    .ret)))

def slices_Clone___uint64_uint64__hs : List (List Nat × List Nat) := []

end Wm.F
end

section
/- PRINTED by my tool (wip/wm/tool/Gen.lean): a function as one of my machine. -/
namespace Wm.F
open Wm
set_option maxRecDepth 100000

def withyref06_At_c1 : ACode :=
  .seq (.seq (.ops (
    .op ⟨(some 12), .mov (.t 6), []⟩ <|
    .op ⟨(some 13), .mov (.t 5), []⟩ <|
    .op ⟨(some 14), .lenSl (.t 13), []⟩ <|
    .op ⟨(some 15), .cmp .lss .i64 (.t 12) (.t 14), []⟩ <|
    .nil)) (
  .cond (.t 15) (.skip) (.exit 0))) (
  .seq (.block 1 (.seq (.ops (
    .op ⟨(some 18), .mov (.t 5), []⟩ <|
    .op ⟨(some 19), .mov (.t 6), []⟩ <|
    .op ⟨(some 20), .indexA 3 (.t 18) (.t 19), []⟩ <|
    .op ⟨(some 21), .loadN 3 (.t 20), []⟩ <|
    .op ⟨(some 22), .loadN 3 (.t 3), []⟩ <|
    .op ⟨(some 23), .eq false (.agg [(0, .str), (1, .int), (2, .int)]) (.t 21) (.t 22), []⟩ <|
    .nil)) (
  .cond (.t 23) (.seq (.ops (
      .op ⟨(some 24), .mov (.t 6), []⟩ <|
      .op ⟨(some 4), .mov (.t 24), []⟩ <|
      .nil)) (
    .ret)) (.skip)))) (
  .ops (
    .op ⟨(some 16), .mov (.t 6), []⟩ <|
    .op ⟨(some 17), .arith .add .i64 (.t 16) (.c (.int .i64 1)), []⟩ <|
    .op ⟨(some 6), .mov (.t 17), []⟩ <|
    .nil)))

def withyref06_At_c0 : ACode :=
  .seq (.ops (
    .op ⟨(some 4), .mov (.c (.int .i64 (-1))), []⟩ <|
    .nil)) (
  .ret)

/-- 108: withy/withyref06.At -/
def withyref06_At : AFunc where
  closed := true
  nparams := 2
  ntmps := 25
  results := [.tmp 4]
  body := .seq (.ops (
      .op ⟨(some 2), .box (.t 0), []⟩ <|
      .op ⟨(some 3), .box (.t 1), []⟩ <|
      .op ⟨(some 4), .mov (.c (.int .i64 0)), []⟩ <|
      .nil)) (
    .seq (.seq (.ops (
      .op ⟨(some 7), .loadN 6 (.t 2), []⟩ <|
      .op ⟨(some 8), .call 85 [(.t 7)], []⟩ <|
      .op ⟨(some 9), .not (.t 8), []⟩ <|
      .nil)) (
    .cond (.t 9) (.seq (.ops (
        .op ⟨(some 4), .mov (.c (.int .i64 (-1))), []⟩ <|
        .nil)) (
      .ret)) (.skip))) (
    .seq (.ops (
      .op ⟨(some 10), .loadN 6 (.t 2), []⟩ <|
      .op ⟨(some 11), .call 87 [(.t 10)], []⟩ <|
      .op ⟨(some 5), .mov (.t 11), []⟩ <|
      .nil)) (
    .seq (.seq (.ops (
      .op ⟨(some 6), .mov (.c (.int .i64 0)), []⟩ <|
      .nil)) (
    .block 0 (.loop [3, 5, 6] [4] (withyref06_At_c1)))) (
    withyref06_At_c0))))

def withyref06_At_hs : List (List Nat × List Nat) := [([3, 5, 6], [4])]

end Wm.F
end

section
/- PRINTED by my tool (wip/wm/tool/Gen.lean): a function as one of my machine. -/
namespace Wm.F
open Wm
set_option maxRecDepth 100000

/-- 302: withy/field.fresh -/
def field_fresh : AFunc where
  closed := false
  nparams := 4
  ntmps := 25
  results := [.tmp 8]
  body := .seq (.ops (
      .op ⟨(some 4), .box (.t 0), []⟩ <|
      .op ⟨(some 8), .mov (.c .nilp), []⟩ <|
      .nil)) (
    .seq (.ops (
      .op ⟨(some 10), .loadN 6 (.t 4), []⟩ <|
      .op ⟨(some 11), .mov (.t 1), []⟩ <|
      .op ⟨(some 12), .mov (.t 2), []⟩ <|
      .op ⟨(some 13), .call 305 [(.t 10), (.t 11), (.t 12)], []⟩ <|
      .op ⟨(some 9), .mov (.t 13), []⟩ <|
      .nil)) (
    .seq (.seq (.ops (
      .op ⟨(some 14), .mov (.t 9), []⟩ <|
      .op ⟨(some 15), .cmp .lss .i64 (.t 14) (.c (.int .i64 0)), []⟩ <|
      .op ⟨(some 16), .mov (.t 15), []⟩ <|
      .grd 16 false [⟨(some 17), .mov (.t 3), []⟩,
          ⟨(some 18), .eq false .ptr (.t 17) (.c .nilp), []⟩] <|
      .op ⟨(some 19), .pick (.t 16) (.c (.bool true)) (.t 18), []⟩ <|
      .nil)) (
    .cond (.t 19) (.seq (.ops (
        .op ⟨(some 8), .mov (.c .nilp), []⟩ <|
        .nil)) (
      .ret)) (.skip))) (
    .seq (.ops (
      .op ⟨(some 20), .loadN 6 (.t 4), []⟩ <|
      .op ⟨(some 21), .mov (.t 3), []⟩ <|
      .op ⟨(some 22), .mov (.t 9), []⟩ <|
      .op ⟨(some 23), .build [(.int .i64 0), (.int .i64 0), (.int .i64 0), (.int .i64 0), (.int .i64 0), (.int .i64 0), .nilp, (.int .i64 0), (.int .i64 0), (.int .i64 0), .nilp, (.int .i64 0)] [(0, 6, (.t 20)), (6, 1, (.t 21)), (7, 1, (.t 22))], []⟩ <|
      .op ⟨(some 24), .box (.t 23), []⟩ <|
      .op ⟨(some 8), .mov (.t 24), []⟩ <|
      .nil)) (
    .ret))))

def field_fresh_hs : List (List Nat × List Nat) := []

end Wm.F
end

section
/- PRINTED by my tool (wip/wm/tool/Gen.lean): a function as one of my machine. -/
namespace Wm.F
open Wm
set_option maxRecDepth 100000

/-- 90: withy/shade.NewShade -/
def shade_NewShade : AFunc where
  closed := false
  nparams := 3
  ntmps := 17
  results := [.tmp 6]
  body := .seq (.ops (
      .op ⟨(some 3), .box (.t 0), []⟩ <|
      .op ⟨(some 6), .mov (.c .nilp), []⟩ <|
      .nil)) (
    .seq (.ops (
      .op ⟨(some 8), .loadN 6 (.t 3), []⟩ <|
      .op ⟨(some 9), .mov (.t 1), []⟩ <|
      .op ⟨(some 10), .call 261 [(.t 8), (.t 9)], []⟩ <|
      .op ⟨(some 7), .mov (.t 10), []⟩ <|
      .nil)) (
    .seq (.seq (.ops (
      .op ⟨(some 11), .mov (.t 7), []⟩ <|
      .op ⟨(some 12), .cmp .lss .i64 (.t 11) (.c (.int .i64 0)), []⟩ <|
      .nil)) (
    .cond (.t 12) (.seq (.ops (
        .op ⟨(some 6), .mov (.c .nilp), []⟩ <|
        .nil)) (
      .ret)) (.skip))) (
    .seq (.ops (
      .op ⟨(some 13), .mov (.t 7), []⟩ <|
      .op ⟨(some 14), .mov (.t 2), []⟩ <|
      .op ⟨(some 15), .build [(.bool false), (.int .i64 0), (.int .u64 0), (.int .i64 0), (.int .u64 0)] [(1, 1, (.t 13)), (2, 1, (.t 14))], []⟩ <|
      .op ⟨(some 16), .box (.t 15), []⟩ <|
      .op ⟨(some 6), .mov (.t 16), []⟩ <|
      .nil)) (
    .ret))))

def shade_NewShade_hs : List (List Nat × List Nat) := []

end Wm.F
end

section
/- PRINTED by my tool (wip/wm/tool/Gen.lean): a function as one of my machine. -/
namespace Wm.F
open Wm
set_option maxRecDepth 100000

/-- 91: (*withy/shade.Shade).Step -/
def shade_Shade_Step : AFunc where
  closed := false
  nparams := 2
  ntmps := 99
  results := [.tmp 4]
  body := .seq (.ops (
      .op ⟨(some 4), .mov (.c (.bool false)), []⟩ <|
      .nil)) (
    .seq (.seq (.ops (
      .op ⟨(some 9), .mov (.t 0), []⟩ <|
      .op ⟨(some 10), .eq false .ptr (.t 9) (.c .nilp), []⟩ <|
      .nil)) (
    .cond (.t 10) (.seq (.ops (
        .op ⟨(some 4), .mov (.c (.bool true)), []⟩ <|
        .nil)) (
      .ret)) (.skip))) (
    .seq (.seq (.ops (
      .op ⟨(some 11), .mov (.t 0), []⟩ <|
      .op ⟨(some 12), .nilc (.t 11), []⟩ <|
      .op ⟨(some 13), .fieldA 3 (.t 12), []⟩ <|
      .op ⟨(some 14), .load1 (.t 13), []⟩ <|
      .nil)) (
    .block 0 (.seq (.ops (
      .op ⟨(some 16), .cmp .eql .i64 (.t 14) (.c (.int .i64 0)), []⟩ <|
      .op ⟨(some 15), .mov (.t 16), []⟩ <|
      .nil)) (
    .cond (.t 15) (.seq (.ops (
        .op ⟨(some 17), .mov (.t 0), []⟩ <|
        .op ⟨(some 18), .mov (.t 1), []⟩ <|
        .op ⟨(some 19), .mov (.t 0), []⟩ <|
        .op ⟨(some 20), .nilc (.t 19), []⟩ <|
        .op ⟨(some 21), .fieldA 1 (.t 20), []⟩ <|
        .op ⟨(some 22), .load1 (.t 21), []⟩ <|
        .op ⟨(some 23), .call 266 [(.t 18), (.t 22)], []⟩ <|
        .op ⟨(some 24), .nilc (.t 17), []⟩ <|
        .op ⟨(some 25), .fieldA 4 (.t 24), []⟩ <|
        .op ⟨none, .store 1 (.t 25) (.t 23), []⟩ <|
        .nil)) (
      .seq (.ops (
        .op ⟨(some 26), .mov (.t 0), []⟩ <|
        .op ⟨(some 27), .nilc (.t 26), []⟩ <|
        .op ⟨(some 28), .fieldA 3 (.t 27), []⟩ <|
        .op ⟨none, .store 1 (.t 28) (.c (.int .i64 1)), []⟩ <|
        .nil)) (
      .seq (.ops (
        .op ⟨(some 30), .mov (.t 0), []⟩ <|
        .op ⟨(some 31), .nilc (.t 30), []⟩ <|
        .op ⟨(some 32), .fieldA 4 (.t 31), []⟩ <|
        .op ⟨(some 33), .load1 (.t 32), []⟩ <|
        .op ⟨(some 34), .mov (.t 0), []⟩ <|
        .op ⟨(some 35), .nilc (.t 34), []⟩ <|
        .op ⟨(some 36), .fieldA 2 (.t 35), []⟩ <|
        .op ⟨(some 37), .load1 (.t 36), []⟩ <|
        .op ⟨(some 38), .call 267 [(.t 33), (.t 37)], []⟩ <|
        .op ⟨(some 29), .mov (.t 38), []⟩ <|
        .op ⟨(some 39), .extract (.t 29) 0, []⟩ <|
        .op ⟨(some 40), .extract (.t 29) 1, []⟩ <|
        .op ⟨(some 5), .mov (.t 39), []⟩ <|
        .op ⟨(some 6), .mov (.t 40), []⟩ <|
        .nil)) (
      .seq (.ops (
        .op ⟨(some 41), .mov (.t 6), []⟩ <|
        .op ⟨(some 42), .not (.t 41), []⟩ <|
        .nil)) (
      .cond (.t 42) (.ops (
          .op ⟨(some 43), .mov (.t 0), []⟩ <|
          .op ⟨(some 44), .nilc (.t 43), []⟩ <|
          .op ⟨(some 45), .fieldA 3 (.t 44), []⟩ <|
          .op ⟨none, .store 1 (.t 45) (.c (.int .i64 4)), []⟩ <|
          .nil)) (.skip)))))) (.seq (.ops (
        .op ⟨(some 47), .cmp .eql .i64 (.t 14) (.c (.int .i64 1)), []⟩ <|
        .op ⟨(some 46), .mov (.t 47), []⟩ <|
        .nil)) (
      .cond (.t 46) (.seq (.ops (
          .op ⟨(some 48), .mov (.t 1), []⟩ <|
          .op ⟨(some 49), .call 268 [(.t 48), (.c (.int .i64 2)), (.c (.int .u64 1))], []⟩ <|
          .nil)) (
        .ops (
          .op ⟨(some 50), .mov (.t 0), []⟩ <|
          .op ⟨(some 51), .nilc (.t 50), []⟩ <|
          .op ⟨(some 52), .fieldA 3 (.t 51), []⟩ <|
          .op ⟨none, .store 1 (.t 52) (.c (.int .i64 2)), []⟩ <|
          .nil))) (.seq (.ops (
          .op ⟨(some 54), .cmp .eql .i64 (.t 14) (.c (.int .i64 2)), []⟩ <|
          .op ⟨(some 53), .mov (.t 54), []⟩ <|
          .nil)) (
        .cond (.t 53) (.seq (.ops (
            .op ⟨(some 56), .mov (.t 0), []⟩ <|
            .op ⟨(some 57), .nilc (.t 56), []⟩ <|
            .op ⟨(some 58), .fieldA 4 (.t 57), []⟩ <|
            .op ⟨(some 59), .load1 (.t 58), []⟩ <|
            .op ⟨(some 60), .mov (.t 0), []⟩ <|
            .op ⟨(some 61), .nilc (.t 60), []⟩ <|
            .op ⟨(some 62), .fieldA 2 (.t 61), []⟩ <|
            .op ⟨(some 63), .load1 (.t 62), []⟩ <|
            .op ⟨(some 64), .call 267 [(.t 59), (.t 63)], []⟩ <|
            .op ⟨(some 55), .mov (.t 64), []⟩ <|
            .op ⟨(some 65), .extract (.t 55) 0, []⟩ <|
            .op ⟨(some 66), .extract (.t 55) 1, []⟩ <|
            .op ⟨(some 7), .mov (.t 65), []⟩ <|
            .op ⟨(some 8), .mov (.t 66), []⟩ <|
            .nil)) (
          .seq (.ops (
            .op ⟨(some 67), .mov (.t 0), []⟩ <|
            .op ⟨(some 68), .nilc (.t 67), []⟩ <|
            .op ⟨(some 69), .fieldA 3 (.t 68), []⟩ <|
            .op ⟨none, .store 1 (.t 69) (.c (.int .i64 3)), []⟩ <|
            .nil)) (
          .seq (.ops (
            .op ⟨(some 70), .mov (.t 1), []⟩ <|
            .op ⟨(some 71), .mov (.t 0), []⟩ <|
            .op ⟨(some 72), .nilc (.t 71), []⟩ <|
            .op ⟨(some 73), .fieldA 1 (.t 72), []⟩ <|
            .op ⟨(some 74), .load1 (.t 73), []⟩ <|
            .op ⟨(some 75), .mov (.t 0), []⟩ <|
            .op ⟨(some 76), .nilc (.t 75), []⟩ <|
            .op ⟨(some 77), .fieldA 4 (.t 76), []⟩ <|
            .op ⟨(some 78), .load1 (.t 77), []⟩ <|
            .op ⟨(some 79), .mov (.t 7), []⟩ <|
            .op ⟨(some 80), .call 269 [(.t 70), (.t 74), (.t 78), (.t 79)], []⟩ <|
            .nil)) (
          .cond (.t 80) (.ops (
              .op ⟨(some 81), .mov (.t 0), []⟩ <|
              .op ⟨(some 82), .mov (.t 0), []⟩ <|
              .op ⟨(some 83), .nilc (.t 81), []⟩ <|
              .op ⟨(some 84), .fieldA 0 (.t 83), []⟩ <|
              .op ⟨none, .store 1 (.t 84) (.c (.bool true)), []⟩ <|
              .op ⟨(some 85), .nilc (.t 82), []⟩ <|
              .op ⟨(some 86), .fieldA 3 (.t 85), []⟩ <|
              .op ⟨none, .store 1 (.t 86) (.c (.int .i64 4)), []⟩ <|
              .nil)) (.skip))))) (.seq (.ops (
            .op ⟨(some 88), .cmp .eql .i64 (.t 14) (.c (.int .i64 3)), []⟩ <|
            .op ⟨(some 87), .mov (.t 88), []⟩ <|
            .nil)) (
          .cond (.t 87) (.seq (.ops (
              .op ⟨(some 89), .mov (.t 1), []⟩ <|
              .op ⟨(some 90), .call 268 [(.t 89), (.c (.int .i64 2)), (.c (.int .u64 18446744073709551615))], []⟩ <|
              .nil)) (
            .ops (
              .op ⟨(some 91), .mov (.t 0), []⟩ <|
              .op ⟨(some 92), .nilc (.t 91), []⟩ <|
              .op ⟨(some 93), .fieldA 3 (.t 92), []⟩ <|
              .op ⟨none, .store 1 (.t 93) (.c (.int .i64 0)), []⟩ <|
              .nil))) (.skip))))))))))) (
    .seq (.ops (
      .op ⟨(some 94), .mov (.t 0), []⟩ <|
      .op ⟨(some 95), .nilc (.t 94), []⟩ <|
      .op ⟨(some 96), .fieldA 3 (.t 95), []⟩ <|
      .op ⟨(some 97), .load1 (.t 96), []⟩ <|
      .op ⟨(some 98), .cmp .eql .i64 (.t 97) (.c (.int .i64 4)), []⟩ <|
      .op ⟨(some 4), .mov (.t 98), []⟩ <|
      .nil)) (
    .ret))))

def shade_Shade_Step_hs : List (List Nat × List Nat) := []

end Wm.F
end

section
/- PRINTED by my tool (wip/wm/tool/Gen.lean): a function as one of my machine. -/
namespace Wm.F
open Wm
set_option maxRecDepth 100000

/-- 150: (*withy/field.Stamp).Step -/
def field_Stamp_Step : AFunc where
  closed := false
  nparams := 2
  ntmps := 85
  results := [.tmp 4]
  body := .seq (.ops (
      .op ⟨(some 4), .mov (.c (.bool false)), []⟩ <|
      .nil)) (
    .seq (.seq (.ops (
      .op ⟨(some 6), .mov (.t 0), []⟩ <|
      .op ⟨(some 7), .eq false .ptr (.t 6) (.c .nilp), []⟩ <|
      .nil)) (
    .cond (.t 7) (.seq (.ops (
        .op ⟨(some 4), .mov (.c (.bool true)), []⟩ <|
        .nil)) (
      .ret)) (.skip))) (
    .seq (.ops (
      .op ⟨(some 8), .mov (.t 0), []⟩ <|
      .op ⟨(some 9), .nilc (.t 8), []⟩ <|
      .op ⟨(some 10), .fieldA 0 (.t 9), []⟩ <|
      .op ⟨(some 11), .loadN 6 (.t 10), []⟩ <|
      .op ⟨(some 12), .mov (.t 0), []⟩ <|
      .op ⟨(some 13), .nilc (.t 12), []⟩ <|
      .op ⟨(some 14), .fieldA 7 (.t 13), []⟩ <|
      .op ⟨(some 15), .load1 (.t 14), []⟩ <|
      .op ⟨(some 16), .call 305 [(.t 11), (.t 15), (.c (.int .i64 1))], []⟩ <|
      .op ⟨(some 5), .mov (.t 16), []⟩ <|
      .nil)) (
    .seq (.seq (.ops (
      .op ⟨(some 17), .mov (.t 0), []⟩ <|
      .op ⟨(some 18), .nilc (.t 17), []⟩ <|
      .op ⟨(some 19), .fieldA 8 (.t 18), []⟩ <|
      .op ⟨(some 20), .load1 (.t 19), []⟩ <|
      .nil)) (
    .block 0 (.seq (.ops (
      .op ⟨(some 22), .cmp .eql .i64 (.t 20) (.c (.int .i64 0)), []⟩ <|
      .op ⟨(some 21), .mov (.t 22), []⟩ <|
      .nil)) (
    .cond (.t 21) (.seq (.ops (
        .op ⟨(some 23), .mov (.t 0), []⟩ <|
        .op ⟨(some 24), .nilc (.t 23), []⟩ <|
        .op ⟨(some 25), .fieldA 8 (.t 24), []⟩ <|
        .op ⟨none, .store 1 (.t 25) (.c (.int .i64 1)), []⟩ <|
        .nil)) (
      .seq (.ops (
        .op ⟨(some 26), .mov (.t 1), []⟩ <|
        .op ⟨(some 27), .mov (.t 5), []⟩ <|
        .op ⟨(some 28), .call 266 [(.t 26), (.t 27)], []⟩ <|
        .op ⟨(some 29), .cmp .neq .u64 (.t 28) (.c (.int .u64 0)), []⟩ <|
        .nil)) (
      .cond (.t 29) (.ops (
          .op ⟨(some 30), .mov (.t 0), []⟩ <|
          .op ⟨(some 31), .nilc (.t 30), []⟩ <|
          .op ⟨(some 32), .fieldA 8 (.t 31), []⟩ <|
          .op ⟨none, .store 1 (.t 32) (.c (.int .i64 3)), []⟩ <|
          .nil)) (.skip)))) (.seq (.ops (
        .op ⟨(some 34), .cmp .eql .i64 (.t 20) (.c (.int .i64 1)), []⟩ <|
        .op ⟨(some 33), .mov (.t 34), []⟩ <|
        .nil)) (
      .cond (.t 33) (.seq (.ops (
          .op ⟨(some 35), .mov (.t 0), []⟩ <|
          .op ⟨(some 36), .mov (.t 0), []⟩ <|
          .op ⟨(some 37), .mov (.t 1), []⟩ <|
          .op ⟨(some 39), .mov (.t 0), []⟩ <|
          .op ⟨(some 40), .nilc (.t 39), []⟩ <|
          .op ⟨(some 41), .fieldA 6 (.t 40), []⟩ <|
          .op ⟨(some 42), .load1 (.t 41), []⟩ <|
          .op ⟨(some 43), .nilc (.t 42), []⟩ <|
          .op ⟨(some 44), .fieldA 0 (.t 43), []⟩ <|
          .op ⟨(some 45), .load1 (.t 44), []⟩ <|
          .op ⟨(some 38), .call 266 [(.t 37), (.c (.int .i64 0))], [{ g := none, op := .load1 (.t 44), d := 45 }, { g := none, op := .load1 (.t 41), d := 42 }]⟩ <|
          .op ⟨(some 46), .nilc (.t 35), []⟩ <|
          .op ⟨(some 47), .fieldA 9 (.t 46), []⟩ <|
          .op ⟨none, .store 1 (.t 47) (.t 38), []⟩ <|
          .op ⟨(some 48), .nilc (.t 36), []⟩ <|
          .op ⟨(some 49), .fieldA 10 (.t 48), []⟩ <|
          .op ⟨none, .store 1 (.t 49) (.t 45), []⟩ <|
          .nil)) (
        .ops (
          .op ⟨(some 50), .mov (.t 0), []⟩ <|
          .op ⟨(some 51), .nilc (.t 50), []⟩ <|
          .op ⟨(some 52), .fieldA 8 (.t 51), []⟩ <|
          .op ⟨none, .store 1 (.t 52) (.c (.int .i64 2)), []⟩ <|
          .nil))) (.seq (.ops (
          .op ⟨(some 54), .cmp .eql .i64 (.t 20) (.c (.int .i64 2)), []⟩ <|
          .op ⟨(some 53), .mov (.t 54), []⟩ <|
          .nil)) (
        .cond (.t 53) (.seq (.seq (.ops (
            .op ⟨(some 55), .mov (.t 1), []⟩ <|
            .op ⟨(some 56), .mov (.t 5), []⟩ <|
            .op ⟨(some 57), .mov (.t 0), []⟩ <|
            .op ⟨(some 58), .nilc (.t 57), []⟩ <|
            .op ⟨(some 59), .fieldA 9 (.t 58), []⟩ <|
            .op ⟨(some 60), .load1 (.t 59), []⟩ <|
            .op ⟨(some 61), .call 269 [(.t 55), (.t 56), (.c (.int .u64 0)), (.t 60)], []⟩ <|
            .nil)) (
          .cond (.t 61) (.ops (
              .op ⟨(some 62), .mov (.t 0), []⟩ <|
              .op ⟨(some 63), .nilc (.t 62), []⟩ <|
              .op ⟨(some 64), .fieldA 6 (.t 63), []⟩ <|
              .op ⟨(some 65), .load1 (.t 64), []⟩ <|
              .op ⟨(some 66), .nilc (.t 65), []⟩ <|
              .op ⟨(some 67), .fieldA 1 (.t 66), []⟩ <|
              .op ⟨(some 68), .load1 (.t 67), []⟩ <|
              .op ⟨(some 69), .mov (.t 0), []⟩ <|
              .op ⟨(some 70), .nilc (.t 69), []⟩ <|
              .op ⟨(some 71), .fieldA 7 (.t 70), []⟩ <|
              .op ⟨(some 72), .load1 (.t 71), []⟩ <|
              .op ⟨(some 73), .mov (.t 0), []⟩ <|
              .op ⟨(some 74), .nilc (.t 73), []⟩ <|
              .op ⟨(some 75), .fieldA 10 (.t 74), []⟩ <|
              .op ⟨(some 76), .load1 (.t 75), []⟩ <|
              .op ⟨none, .mapSet .int (.t 68) (.t 72) (.t 76), []⟩ <|
              .nil)) (.skip))) (
          .ops (
            .op ⟨(some 77), .mov (.t 0), []⟩ <|
            .op ⟨(some 78), .nilc (.t 77), []⟩ <|
            .op ⟨(some 79), .fieldA 8 (.t 78), []⟩ <|
            .op ⟨none, .store 1 (.t 79) (.c (.int .i64 3)), []⟩ <|
            .nil))) (.skip))))))))) (
    .seq (.ops (
      .op ⟨(some 80), .mov (.t 0), []⟩ <|
      .op ⟨(some 81), .nilc (.t 80), []⟩ <|
      .op ⟨(some 82), .fieldA 8 (.t 81), []⟩ <|
      .op ⟨(some 83), .load1 (.t 82), []⟩ <|
      .op ⟨(some 84), .cmp .eql .i64 (.t 83) (.c (.int .i64 3)), []⟩ <|
      .op ⟨(some 4), .mov (.t 84), []⟩ <|
      .nil)) (
    .ret)))))

def field_Stamp_Step_hs : List (List Nat × List Nat) := []

end Wm.F
end

section
/- PRINTED by my tool (wip/wm/tool/Gen.lean): a function as one of my machine. -/
namespace Wm.F
open Wm
set_option maxRecDepth 100000

/-- 151: withy/field.NewStamp -/
def field_NewStamp : AFunc where
  closed := false
  nparams := 3
  ntmps := 20
  results := [.tmp 6]
  body := .seq (.ops (
      .op ⟨(some 3), .box (.t 0), []⟩ <|
      .op ⟨(some 6), .mov (.c .nilp), []⟩ <|
      .nil)) (
    .seq (.seq (.ops (
      .op ⟨(some 7), .loadN 6 (.t 3), []⟩ <|
      .op ⟨(some 8), .mov (.t 1), []⟩ <|
      .op ⟨(some 9), .call 261 [(.t 7), (.t 8)], []⟩ <|
      .op ⟨(some 10), .cmp .lss .i64 (.t 9) (.c (.int .i64 0)), []⟩ <|
      .op ⟨(some 11), .mov (.t 10), []⟩ <|
      .grd 11 false [⟨(some 12), .mov (.t 2), []⟩,
          ⟨(some 13), .eq false .ptr (.t 12) (.c .nilp), []⟩] <|
      .op ⟨(some 14), .pick (.t 11) (.c (.bool true)) (.t 13), []⟩ <|
      .nil)) (
    .cond (.t 14) (.seq (.ops (
        .op ⟨(some 6), .mov (.c .nilp), []⟩ <|
        .nil)) (
      .ret)) (.skip))) (
    .seq (.ops (
      .op ⟨(some 15), .loadN 6 (.t 3), []⟩ <|
      .op ⟨(some 16), .mov (.t 2), []⟩ <|
      .op ⟨(some 17), .mov (.t 1), []⟩ <|
      .op ⟨(some 18), .build [(.int .i64 0), (.int .i64 0), (.int .i64 0), (.int .i64 0), (.int .i64 0), (.int .i64 0), .nilp, (.int .i64 0), (.int .i64 0), (.int .u64 0), (.int .i64 0)] [(0, 6, (.t 15)), (6, 1, (.t 16)), (7, 1, (.t 17))], []⟩ <|
      .op ⟨(some 19), .box (.t 18), []⟩ <|
      .op ⟨(some 6), .mov (.t 19), []⟩ <|
      .nil)) (
    .ret)))

def field_NewStamp_hs : List (List Nat × List Nat) := []

end Wm.F
end

section
/- PRINTED by my tool (wip/wm/tool/Gen.lean): a function as one of my machine. -/
namespace Wm.F
open Wm
set_option maxRecDepth 100000

/-- 152: (*withy/field.Book).Born -/
def field_Book_Born : AFunc where
  closed := false
  nparams := 2
  ntmps := 20
  results := [.tmp 4]
  body := .seq (.ops (
      .op ⟨(some 4), .mov (.c (.int .i64 0)), []⟩ <|
      .nil)) (
    .seq (.seq (.ops (
      .op ⟨(some 7), .mov (.t 0), []⟩ <|
      .op ⟨(some 8), .eq true .ptr (.t 7) (.c .nilp), []⟩ <|
      .nil)) (
    .cond (.t 8) (.seq (.ops (
        .op ⟨(some 10), .mov (.t 0), []⟩ <|
        .op ⟨(some 11), .nilc (.t 10), []⟩ <|
        .op ⟨(some 12), .fieldA 1 (.t 11), []⟩ <|
        .op ⟨(some 13), .load1 (.t 12), []⟩ <|
        .op ⟨(some 14), .mov (.t 1), []⟩ <|
        .op ⟨(some 15), .lookup .int (.int .i64 0) true (.t 13) (.t 14), []⟩ <|
        .op ⟨(some 9), .mov (.t 15), []⟩ <|
        .op ⟨(some 16), .extract (.t 9) 0, []⟩ <|
        .op ⟨(some 17), .extract (.t 9) 1, []⟩ <|
        .op ⟨(some 5), .mov (.t 16), []⟩ <|
        .op ⟨(some 6), .mov (.t 17), []⟩ <|
        .nil)) (
      .seq (.ops (
        .op ⟨(some 18), .mov (.t 6), []⟩ <|
        .nil)) (
      .cond (.t 18) (.seq (.ops (
          .op ⟨(some 19), .mov (.t 5), []⟩ <|
          .op ⟨(some 4), .mov (.t 19), []⟩ <|
          .nil)) (
        .ret)) (.skip)))) (.skip))) (
    .seq (.ops (
      .op ⟨(some 4), .mov (.c (.int .i64 (-1))), []⟩ <|
      .nil)) (
    .ret)))

def field_Book_Born_hs : List (List Nat × List Nat) := []

end Wm.F
end

section
/- PRINTED by my tool (wip/wm/tool/Gen.lean): a function as one of my machine. -/
namespace Wm.F
open Wm
set_option maxRecDepth 100000

/-- 307: (*withy/field.Lay).refuse -/
def field_Lay_refuse : AFunc where
  closed := false
  nparams := 1
  ntmps := 13
  results := []
  body := .ops (
      .op ⟨(some 2), .mov (.t 0), []⟩ <|
      .op ⟨(some 3), .mov (.t 0), []⟩ <|
      .op ⟨(some 4), .mov (.t 0), []⟩ <|
      .op ⟨(some 5), .nilc (.t 4), []⟩ <|
      .op ⟨(some 6), .fieldA 2 (.t 5), []⟩ <|
      .op ⟨(some 7), .load1 (.t 6), []⟩ <|
      .op ⟨(some 8), .call 306 [(.t 7)], []⟩ <|
      .op ⟨(some 9), .nilc (.t 2), []⟩ <|
      .op ⟨(some 10), .fieldA 1 (.t 9), []⟩ <|
      .op ⟨none, .store 1 (.t 10) (.t 8), []⟩ <|
      .op ⟨(some 11), .nilc (.t 3), []⟩ <|
      .op ⟨(some 12), .fieldA 8 (.t 11), []⟩ <|
      .op ⟨none, .store 1 (.t 12) (.c (.int .i64 6)), []⟩ <|
      .nil)

def field_Lay_refuse_hs : List (List Nat × List Nat) := []

end Wm.F
end

section
/- PRINTED by my tool (wip/wm/tool/Gen.lean): a function as one of my machine. -/
namespace Wm.F
open Wm
set_option maxRecDepth 100000

/-- 308: withy/turn.Fenced -/
def turn_Fenced : AFunc where
  closed := true
  nparams := 1
  ntmps := 11
  results := [.tmp 2]
  body := .seq (.ops (
      .op ⟨(some 2), .mov (.c (.bool false)), []⟩ <|
      .nil)) (
    .seq (.ops (
      .op ⟨(some 3), .mov (.t 0), []⟩ <|
      .op ⟨(some 4), .arith .rem .u64 (.t 3) (.c (.int .u64 4)), []⟩ <|
      .op ⟨(some 5), .cmp .eql .u64 (.t 4) (.c (.int .u64 1)), []⟩ <|
      .op ⟨(some 6), .mov (.t 5), []⟩ <|
      .grd 6 false [⟨(some 7), .mov (.t 0), []⟩,
          ⟨(some 8), .arith .rem .u64 (.t 7) (.c (.int .u64 4)), []⟩,
          ⟨(some 9), .cmp .eql .u64 (.t 8) (.c (.int .u64 2)), []⟩] <|
      .op ⟨(some 10), .pick (.t 6) (.c (.bool true)) (.t 9), []⟩ <|
      .op ⟨(some 2), .mov (.t 10), []⟩ <|
      .nil)) (
    .ret))

def turn_Fenced_hs : List (List Nat × List Nat) := []

end Wm.F
end

section
/- PRINTED by my tool (wip/wm/tool/Gen.lean): a function as one of my machine. -/
namespace Wm.F
open Wm
set_option maxRecDepth 100000

/-- 165: withy/withylaw20.pick -/
def withylaw20_pick : AFunc where
  closed := true
  nparams := 2
  ntmps := 11
  results := [.tmp 4]
  body := .seq (.ops (
      .op ⟨(some 4), .mov (.c (.int .i64 0)), []⟩ <|
      .nil)) (
    .seq (.ops (
      .op ⟨(some 5), .mov (.t 0), []⟩ <|
      .op ⟨(some 6), .conv .u64 (.t 5), []⟩ <|
      .op ⟨(some 7), .mov (.t 1), []⟩ <|
      .op ⟨(some 8), .conv .u64 (.t 7), []⟩ <|
      .op ⟨(some 9), .arith .rem .u64 (.t 6) (.t 8), []⟩ <|
      .op ⟨(some 10), .conv .i64 (.t 9), []⟩ <|
      .op ⟨(some 4), .mov (.t 10), []⟩ <|
      .nil)) (
    .ret))

def withylaw20_pick_hs : List (List Nat × List Nat) := []

end Wm.F
end

section
/- PRINTED by my tool (wip/wm/tool/Gen.lean): a function as one of my machine. -/
namespace Wm.F
open Wm
set_option maxRecDepth 100000

/-- 377: withy/plan.slots -/
def plan_slots : AFunc where
  closed := true
  nparams := 1
  ntmps := 11
  results := [.tmp 2]
  body := .seq (.ops (
      .op ⟨(some 1), .box (.t 0), []⟩ <|
      .op ⟨(some 2), .mov (.c (.int .i64 0)), []⟩ <|
      .nil)) (
    .seq (.ops (
      .op ⟨(some 3), .fieldA 2 (.t 1), []⟩ <|
      .op ⟨(some 4), .load1 (.t 3), []⟩ <|
      .op ⟨(some 5), .fieldA 3 (.t 1), []⟩ <|
      .op ⟨(some 6), .load1 (.t 5), []⟩ <|
      .op ⟨(some 7), .arith .add .i64 (.c (.int .i64 1)) (.t 6), []⟩ <|
      .op ⟨(some 8), .arith .add .i64 (.t 7) (.c (.int .i64 2)), []⟩ <|
      .op ⟨(some 9), .arith .mul .i64 (.t 4) (.t 8), []⟩ <|
      .op ⟨(some 10), .arith .add .i64 (.c (.int .i64 4)) (.t 9), []⟩ <|
      .op ⟨(some 2), .mov (.t 10), []⟩ <|
      .nil)) (
    .ret))

def plan_slots_hs : List (List Nat × List Nat) := []

end Wm.F
end

section
/- PRINTED by my tool (wip/wm/tool/Gen.lean): a function as one of my machine. -/
namespace Wm.F
open Wm
set_option maxRecDepth 100000

/-- 378: withy/plan.room -/
def plan_room : AFunc where
  closed := true
  nparams := 1
  ntmps := 7
  results := [.tmp 2]
  body := .seq (.ops (
      .op ⟨(some 1), .box (.t 0), []⟩ <|
      .op ⟨(some 2), .mov (.c (.int .i64 0)), []⟩ <|
      .nil)) (
    .seq (.ops (
      .op ⟨(some 3), .fieldA 1 (.t 1), []⟩ <|
      .op ⟨(some 4), .load1 (.t 3), []⟩ <|
      .op ⟨(some 5), .minmax true .i64 (.t 4) (.c (.int .i64 3)), []⟩ <|
      .op ⟨(some 6), .arith .add .i64 (.c (.int .i64 2)) (.t 5), []⟩ <|
      .op ⟨(some 2), .mov (.t 6), []⟩ <|
      .nil)) (
    .ret))

def plan_room_hs : List (List Nat × List Nat) := []

end Wm.F
end

section
/- PRINTED by my tool (wip/wm/tool/Gen.lean): a function as one of my machine. -/
namespace Wm.F
open Wm
set_option maxRecDepth 100000

/-- 396: withy/word.Get -/
def word_Get : AFunc where
  closed := true
  nparams := 3
  ntmps := 17
  results := [.tmp 6]
  body := .seq (.ops (
      .op ⟨(some 6), .mov (.c (.int .u64 0)), []⟩ <|
      .nil)) (
    .seq (.seq (.ops (
      .op ⟨(some 7), .mov (.t 1), []⟩ <|
      .op ⟨(some 8), .mov (.t 2), []⟩ <|
      .op ⟨(some 9), .call 441 [(.t 7), (.t 8)], []⟩ <|
      .op ⟨(some 10), .not (.t 9), []⟩ <|
      .nil)) (
    .cond (.t 10) (.seq (.ops (
        .op ⟨(some 6), .mov (.c (.int .u64 0)), []⟩ <|
        .nil)) (
      .ret)) (.skip))) (
    .seq (.ops (
      .op ⟨(some 11), .mov (.t 0), []⟩ <|
      .op ⟨(some 12), .mov (.t 1), []⟩ <|
      .op ⟨(some 13), .shift false .u64 .i64 (.t 11) (.t 12), []⟩ <|
      .op ⟨(some 14), .mov (.t 2), []⟩ <|
      .op ⟨(some 15), .call 449 [(.t 14)], []⟩ <|
      .op ⟨(some 16), .arith .and .u64 (.t 13) (.t 15), []⟩ <|
      .op ⟨(some 6), .mov (.t 16), []⟩ <|
      .nil)) (
    .ret)))

def word_Get_hs : List (List Nat × List Nat) := []

end Wm.F
end

section
/- PRINTED by my tool (wip/wm/tool/Gen.lean): a function as one of my machine. -/
namespace Wm.F
open Wm
set_option maxRecDepth 100000

/-- 441: withy/word.some -/
def word_some : AFunc where
  closed := true
  nparams := 2
  ntmps := 21
  results := [.tmp 4]
  body := .seq (.ops (
      .op ⟨(some 4), .mov (.c (.bool false)), []⟩ <|
      .nil)) (
    .seq (.ops (
      .op ⟨(some 5), .mov (.t 1), []⟩ <|
      .op ⟨(some 6), .cmp .geq .i64 (.t 5) (.c (.int .i64 1)), []⟩ <|
      .op ⟨(some 7), .mov (.t 6), []⟩ <|
      .grd 7 true [⟨(some 8), .mov (.t 1), []⟩,
          ⟨(some 9), .cmp .leq .i64 (.t 8) (.c (.int .i64 64)), []⟩] <|
      .op ⟨(some 10), .pick (.t 7) (.t 9) (.c (.bool false)), []⟩ <|
      .op ⟨(some 11), .mov (.t 10), []⟩ <|
      .grd 11 true [⟨(some 12), .mov (.t 0), []⟩,
          ⟨(some 13), .cmp .geq .i64 (.t 12) (.c (.int .i64 0)), []⟩] <|
      .op ⟨(some 14), .pick (.t 11) (.t 13) (.c (.bool false)), []⟩ <|
      .op ⟨(some 15), .mov (.t 14), []⟩ <|
      .grd 15 true [⟨(some 16), .mov (.t 0), []⟩,
          ⟨(some 17), .mov (.t 1), []⟩,
          ⟨(some 18), .arith .sub .i64 (.c (.int .i64 64)) (.t 17), []⟩,
          ⟨(some 19), .cmp .leq .i64 (.t 16) (.t 18), []⟩] <|
      .op ⟨(some 20), .pick (.t 15) (.t 19) (.c (.bool false)), []⟩ <|
      .op ⟨(some 4), .mov (.t 20), []⟩ <|
      .nil)) (
    .ret))

def word_some_hs : List (List Nat × List Nat) := []

end Wm.F
end

section
/- PRINTED by my tool (wip/wm/tool/Gen.lean): a function as one of my machine. -/
namespace Wm.F
open Wm
set_option maxRecDepth 100000

/-- 413: (*withy/mem.Mem).Size -/
def mem_Mem_Size : AFunc where
  closed := false
  nparams := 1
  ntmps := 10
  results := [.tmp 2]
  body := .seq (.ops (
      .op ⟨(some 2), .mov (.c (.int .i64 0)), []⟩ <|
      .nil)) (
    .seq (.seq (.ops (
      .op ⟨(some 3), .mov (.t 0), []⟩ <|
      .op ⟨(some 4), .eq false .ptr (.t 3) (.c .nilp), []⟩ <|
      .nil)) (
    .cond (.t 4) (.seq (.ops (
        .op ⟨(some 2), .mov (.c (.int .i64 0)), []⟩ <|
        .nil)) (
      .ret)) (.skip))) (
    .seq (.ops (
      .op ⟨(some 5), .mov (.t 0), []⟩ <|
      .op ⟨(some 6), .nilc (.t 5), []⟩ <|
      .op ⟨(some 7), .fieldA 0 (.t 6), []⟩ <|
      .op ⟨(some 8), .load1 (.t 7), []⟩ <|
      .op ⟨(some 9), .lenSl (.t 8), []⟩ <|
      .op ⟨(some 2), .mov (.t 9), []⟩ <|
      .nil)) (
    .ret)))

def mem_Mem_Size_hs : List (List Nat × List Nat) := []

end Wm.F
end

section
/- PRINTED by my tool (wip/wm/tool/Gen.lean): a function as one of my machine. -/
namespace Wm.F
open Wm
set_option maxRecDepth 100000

/-- 149: withy/withyref06.Room -/
def withyref06_Room : AFunc where
  closed := true
  nparams := 1
  ntmps := 8
  results := [.tmp 2]
  body := .seq (.ops (
      .op ⟨(some 1), .box (.t 0), []⟩ <|
      .op ⟨(some 2), .mov (.c (.int .i64 0)), []⟩ <|
      .nil)) (
    .seq (.seq (.ops (
      .op ⟨(some 3), .fieldA 1 (.t 1), []⟩ <|
      .op ⟨(some 4), .load1 (.t 3), []⟩ <|
      .op ⟨(some 5), .cmp .lss .i64 (.t 4) (.c (.int .i64 3)), []⟩ <|
      .nil)) (
    .cond (.t 5) (.seq (.ops (
        .op ⟨(some 2), .mov (.c (.int .i64 3)), []⟩ <|
        .nil)) (
      .ret)) (.skip))) (
    .seq (.ops (
      .op ⟨(some 6), .fieldA 1 (.t 1), []⟩ <|
      .op ⟨(some 7), .load1 (.t 6), []⟩ <|
      .op ⟨(some 2), .mov (.t 7), []⟩ <|
      .nil)) (
    .ret)))

def withyref06_Room_hs : List (List Nat × List Nat) := []

end Wm.F
end

section
/- PRINTED by my tool (wip/wm/tool/Gen.lean): a function as one of my machine. -/
namespace Wm.F
open Wm
set_option maxRecDepth 100000

/-- 267: withy/head.Shaded -/
def head_Shaded : AFunc where
  closed := true
  nparams := 2
  ntmps := 31
  results := [.tmp 4, .tmp 5]
  body := .seq (.ops (
      .op ⟨(some 4), .mov (.c (.int .u64 0)), []⟩ <|
      .op ⟨(some 5), .mov (.c (.bool false)), []⟩ <|
      .nil)) (
    .seq (.ops (
      .op ⟨(some 9), .mov (.t 0), []⟩ <|
      .op ⟨(some 10), .call 380 [(.t 9)], []⟩ <|
      .op ⟨(some 8), .mov (.t 10), []⟩ <|
      .op ⟨(some 11), .extract (.t 8) 0, []⟩ <|
      .op ⟨(some 12), .extract (.t 8) 1, []⟩ <|
      .op ⟨(some 6), .alloc [(.int .i64 0), (.int .i64 0), (.bool false), (.int .i64 0), (.int .i64 0), (.int .i64 0)], []⟩ <|
      .op ⟨none, .store 6 (.t 6) (.t 11), []⟩ <|
      .op ⟨(some 7), .mov (.t 12), []⟩ <|
      .nil)) (
    .seq (.seq (.ops (
      .op ⟨(some 13), .mov (.t 7), []⟩ <|
      .op ⟨(some 14), .not (.t 13), []⟩ <|
      .op ⟨(some 15), .mov (.t 14), []⟩ <|
      .grd 15 false [⟨(some 16), .fieldA 1 (.t 6), []⟩,
          ⟨(some 17), .load1 (.t 16), []⟩,
          ⟨(some 18), .mov (.t 1), []⟩,
          ⟨(some 19), .call 381 [(.t 18)], [{ g := (some (15, false)), op := .load1 (.t 16), d := 17 }]⟩,
          ⟨(some 20), .cmp .eql .i64 (.t 17) (.t 19), []⟩] <|
      .op ⟨(some 21), .pick (.t 15) (.c (.bool true)) (.t 20), []⟩ <|
      .nil)) (
    .cond (.t 21) (.seq (.ops (
        .op ⟨(some 22), .mov (.t 0), []⟩ <|
        .op ⟨(some 4), .mov (.t 22), []⟩ <|
        .op ⟨(some 5), .mov (.c (.bool false)), []⟩ <|
        .nil)) (
      .ret)) (.skip))) (
    .seq (.ops (
      .op ⟨(some 23), .mov (.t 1), []⟩ <|
      .op ⟨(some 24), .call 381 [(.t 23)], []⟩ <|
      .op ⟨(some 25), .fieldA 1 (.t 6), []⟩ <|
      .op ⟨none, .store 1 (.t 25) (.t 24), []⟩ <|
      .op ⟨(some 26), .fieldA 2 (.t 6), []⟩ <|
      .op ⟨none, .store 1 (.t 26) (.c (.bool true)), []⟩ <|
      .nil)) (
    .seq (.ops (
      .op ⟨(some 27), .loadN 6 (.t 6), []⟩ <|
      .op ⟨(some 28), .call 382 [(.t 27)], []⟩ <|
      .op ⟨(some 29), .extract (.t 28) 0, []⟩ <|
      .op ⟨(some 30), .extract (.t 28) 1, []⟩ <|
      .op ⟨(some 4), .mov (.t 29), []⟩ <|
      .op ⟨(some 5), .mov (.t 30), []⟩ <|
      .nil)) (
    .ret)))))

def head_Shaded_hs : List (List Nat × List Nat) := []

end Wm.F
end

section
/- PRINTED by my tool (wip/wm/tool/Gen.lean): a function as one of my machine. -/
namespace Wm.F
open Wm
set_option maxRecDepth 100000

/-- 268: (*withy/mem.Mem).Add -/
def mem_Mem_Add : AFunc where
  closed := false
  nparams := 3
  ntmps := 30
  results := [.tmp 6]
  body := .seq (.ops (
      .op ⟨(some 6), .mov (.c (.int .u64 0)), []⟩ <|
      .nil)) (
    .seq (.seq (.ops (
      .op ⟨(some 7), .mov (.t 0), []⟩ <|
      .op ⟨(some 8), .mov (.t 1), []⟩ <|
      .op ⟨(some 9), .call 346 [(.t 7), (.t 8)], []⟩ <|
      .op ⟨(some 10), .not (.t 9), []⟩ <|
      .nil)) (
    .cond (.t 10) (.seq (.ops (
        .op ⟨(some 6), .mov (.c (.int .u64 0)), []⟩ <|
        .nil)) (
      .ret)) (.skip))) (
    .seq (.ops (
      .op ⟨(some 11), .mov (.t 0), []⟩ <|
      .op ⟨(some 12), .mov (.t 1), []⟩ <|
      .op ⟨(some 13), .mov (.t 0), []⟩ <|
      .op ⟨(some 14), .nilc (.t 13), []⟩ <|
      .op ⟨(some 15), .fieldA 0 (.t 14), []⟩ <|
      .op ⟨(some 16), .load1 (.t 15), []⟩ <|
      .op ⟨(some 17), .mov (.t 1), []⟩ <|
      .op ⟨(some 18), .indexA 1 (.t 16) (.t 17), []⟩ <|
      .op ⟨(some 19), .load1 (.t 18), []⟩ <|
      .op ⟨(some 20), .mov (.t 2), []⟩ <|
      .op ⟨(some 21), .arith .add .u64 (.t 19) (.t 20), []⟩ <|
      .op ⟨(some 22), .call 347 [(.t 11), (.c (.int .i64 4)), (.t 12), (.t 21)], []⟩ <|
      .nil)) (
    .seq (.ops (
      .op ⟨(some 23), .mov (.t 0), []⟩ <|
      .op ⟨(some 24), .nilc (.t 23), []⟩ <|
      .op ⟨(some 25), .fieldA 0 (.t 24), []⟩ <|
      .op ⟨(some 26), .load1 (.t 25), []⟩ <|
      .op ⟨(some 27), .mov (.t 1), []⟩ <|
      .op ⟨(some 28), .indexA 1 (.t 26) (.t 27), []⟩ <|
      .op ⟨(some 29), .load1 (.t 28), []⟩ <|
      .op ⟨(some 6), .mov (.t 29), []⟩ <|
      .nil)) (
    .ret))))

def mem_Mem_Add_hs : List (List Nat × List Nat) := []

end Wm.F
end

section
/- PRINTED by my tool (wip/wm/tool/Gen.lean): a function as one of my machine. -/
namespace Wm.F
open Wm
set_option maxRecDepth 100000

/-- 306: (*withy/field.newest).point -/
def field_newest_point : AFunc where
  closed := false
  nparams := 1
  ntmps := 17
  results := [.tmp 2]
  body := .seq (.ops (
      .op ⟨(some 2), .mov (.c (.int .i64 0)), []⟩ <|
      .nil)) (
    .seq (.ops (
      .op ⟨(some 3), .mov (.t 0), []⟩ <|
      .op ⟨(some 4), .nilc (.t 3), []⟩ <|
      .op ⟨(some 5), .fieldA 9 (.t 4), []⟩ <|
      .op ⟨(some 6), .load1 (.t 5), []⟩ <|
      .op ⟨(some 7), .mov (.t 0), []⟩ <|
      .op ⟨(some 8), .nilc (.t 7), []⟩ <|
      .op ⟨(some 9), .fieldA 6 (.t 8), []⟩ <|
      .op ⟨(some 10), .load1 (.t 9), []⟩ <|
      .op ⟨(some 11), .mov (.t 0), []⟩ <|
      .op ⟨(some 12), .nilc (.t 11), []⟩ <|
      .op ⟨(some 13), .fieldA 8 (.t 12), []⟩ <|
      .op ⟨(some 14), .load1 (.t 13), []⟩ <|
      .op ⟨(some 15), .call 152 [(.t 10), (.t 14)], [{ g := none, op := .load1 (.t 5), d := 6 }]⟩ <|
      .op ⟨(some 16), .minmax true .i64 (.t 6) (.t 15), []⟩ <|
      .op ⟨(some 2), .mov (.t 16), []⟩ <|
      .nil)) (
    .ret))

def field_newest_point_hs : List (List Nat × List Nat) := []

end Wm.F
end

section
/- PRINTED by my tool (wip/wm/tool/Gen.lean): a function as one of my machine. -/
namespace Wm.F
open Wm
set_option maxRecDepth 100000

/-- 449: withy/word.mask -/
def word_mask : AFunc where
  closed := true
  nparams := 1
  ntmps := 6
  results := [.tmp 2]
  body := .seq (.ops (
      .op ⟨(some 2), .mov (.c (.int .u64 0)), []⟩ <|
      .nil)) (
    .seq (.ops (
      .op ⟨(some 3), .mov (.t 0), []⟩ <|
      .op ⟨(some 4), .shift true .u64 .i64 (.c (.int .u64 1)) (.t 3), []⟩ <|
      .op ⟨(some 5), .arith .sub .u64 (.t 4) (.c (.int .u64 1)), []⟩ <|
      .op ⟨(some 2), .mov (.t 5), []⟩ <|
      .nil)) (
    .ret))

def word_mask_hs : List (List Nat × List Nat) := []

end Wm.F
end

section
/- PRINTED by my tool (wip/wm/tool/Gen.lean): a function as one of my machine. -/
namespace Wm.F
open Wm
set_option maxRecDepth 100000

/-- 380: withy/head.lives -/
def head_lives : AFunc where
  closed := true
  nparams := 1
  ntmps := 23
  results := [.cell true 6 2, .tmp 3]
  body := .seq (.ops (
      .op ⟨(some 2), .alloc [(.int .i64 0), (.int .i64 0), (.bool false), (.int .i64 0), (.int .i64 0), (.int .i64 0)], []⟩ <|
      .op ⟨(some 3), .mov (.c (.bool false)), []⟩ <|
      .nil)) (
    .seq (.ops (
      .op ⟨(some 7), .mov (.t 0), []⟩ <|
      .op ⟨(some 8), .call 265 [(.t 7)], []⟩ <|
      .op ⟨(some 6), .mov (.t 8), []⟩ <|
      .op ⟨(some 9), .extract (.t 6) 0, []⟩ <|
      .op ⟨(some 10), .extract (.t 6) 1, []⟩ <|
      .op ⟨(some 4), .alloc [(.int .i64 0), (.int .i64 0), (.bool false), (.int .i64 0), (.int .i64 0), (.int .i64 0)], []⟩ <|
      .op ⟨none, .store 6 (.t 4) (.t 9), []⟩ <|
      .op ⟨(some 5), .mov (.t 10), []⟩ <|
      .nil)) (
    .seq (.ops (
      .op ⟨(some 11), .loadN 6 (.t 4), []⟩ <|
      .op ⟨(some 12), .mov (.t 5), []⟩ <|
      .op ⟨(some 13), .mov (.t 12), []⟩ <|
      .grd 13 true [⟨(some 14), .fieldA 0 (.t 4), []⟩,
          ⟨(some 15), .load1 (.t 14), []⟩,
          ⟨(some 16), .cmp .eql .i64 (.t 15) (.c (.int .i64 1)), []⟩,
          ⟨(some 17), .mov (.t 16), []⟩] <|
      .grd 17 false [⟨(some 18), .fieldA 0 (.t 4), []⟩,
          ⟨(some 19), .load1 (.t 18), []⟩,
          ⟨(some 20), .cmp .eql .i64 (.t 19) (.c (.int .i64 2)), []⟩] <|
      .grd 13 true [⟨(some 21), .pick (.t 17) (.c (.bool true)) (.t 20), []⟩] <|
      .op ⟨(some 22), .pick (.t 13) (.t 21) (.c (.bool false)), []⟩ <|
      .op ⟨none, .store 6 (.t 2) (.t 11), [{ g := (some (17, false)), op := .load1 (.t 18), d := 19 }]⟩ <|
      .op ⟨(some 3), .mov (.t 22), []⟩ <|
      .nil)) (
    .ret)))

def head_lives_hs : List (List Nat × List Nat) := []

end Wm.F
end

section
/- PRINTED by my tool (wip/wm/tool/Gen.lean): a function as one of my machine. -/
namespace Wm.F
open Wm
set_option maxRecDepth 100000

/-- 381: withy/turn.Black -/
def turn_Black : AFunc where
  closed := true
  nparams := 1
  ntmps := 8
  results := [.tmp 2]
  body := .seq (.ops (
      .op ⟨(some 2), .mov (.c (.int .i64 0)), []⟩ <|
      .nil)) (
    .seq (.ops (
      .op ⟨(some 3), .mov (.t 0), []⟩ <|
      .op ⟨(some 4), .call 442 [(.t 3)], []⟩ <|
      .op ⟨(some 5), .arith .add .u64 (.t 4) (.c (.int .u64 1)), []⟩ <|
      .op ⟨(some 6), .arith .rem .u64 (.t 5) (.c (.int .u64 2)), []⟩ <|
      .op ⟨(some 7), .conv .i64 (.t 6), []⟩ <|
      .op ⟨(some 2), .mov (.t 7), []⟩ <|
      .nil)) (
    .ret))

def turn_Black_hs : List (List Nat × List Nat) := []

end Wm.F
end

section
/- PRINTED by my tool (wip/wm/tool/Gen.lean): a function as one of my machine. -/
namespace Wm.F
open Wm
set_option maxRecDepth 100000

def head_Pack_c1 : ACode :=
  .seq (.ops (
    .op ⟨(some 20), .cmp .lss .i64 (.t 19) (.c (.int .i64 5)), []⟩ <|
    .nil)) (
  .seq (.cond (.t 20) (.skip) (.exit 0)) (
  .seq (.block 1 (.seq (.ops (
    .op ⟨(some 21), .indexAgg 5 1 false (.t 18) (.t 19), []⟩ <|
    .op ⟨(some 5), .mov (.t 21), []⟩ <|
    .nil)) (
  .seq (.ops (
    .op ⟨(some 22), .mov (.t 5), []⟩ <|
    .op ⟨(some 23), .cmp .lss .i64 (.t 22) (.c (.int .i64 0)), []⟩ <|
    .nil)) (
  .cond (.t 23) (.seq (.ops (
      .op ⟨(some 2), .mov (.c (.int .u64 0)), []⟩ <|
      .op ⟨(some 3), .mov (.c (.bool false)), []⟩ <|
      .nil)) (
    .ret)) (.skip))))) (
  .ops (
    .op ⟨(some 24), .arith .add .i64 (.t 19) (.c (.int .i64 1)), []⟩ <|
    .op ⟨(some 19), .mov (.t 24), []⟩ <|
    .nil))))

def head_Pack_c0 : ACode :=
  .seq (.ops (
    .op ⟨(some 26), .fieldA 0 (.t 1), []⟩ <|
    .op ⟨(some 27), .load1 (.t 26), []⟩ <|
    .op ⟨(some 28), .conv .u64 (.t 27), []⟩ <|
    .op ⟨(some 29), .build [(.int .i64 0), (.int .u64 0)] [(0, 1, (.c (.int .i64 3))), (1, 1, (.t 28))], []⟩ <|
    .op ⟨(some 30), .fieldA 1 (.t 1), []⟩ <|
    .op ⟨(some 31), .load1 (.t 30), []⟩ <|
    .op ⟨(some 32), .conv .u64 (.t 31), []⟩ <|
    .op ⟨(some 33), .build [(.int .i64 0), (.int .u64 0)] [(0, 1, (.c (.int .i64 1))), (1, 1, (.t 32))], []⟩ <|
    .op ⟨(some 34), .fieldA 2 (.t 1), []⟩ <|
    .op ⟨(some 35), .load1 (.t 34), []⟩ <|
    .op ⟨(some 38), .fieldA 3 (.t 1), []⟩ <|
    .op ⟨(some 39), .load1 (.t 38), []⟩ <|
    .op ⟨(some 40), .conv .u64 (.t 39), []⟩ <|
    .op ⟨(some 41), .build [(.int .i64 0), (.int .u64 0)] [(0, 1, (.c (.int .i64 4))), (1, 1, (.t 40))], []⟩ <|
    .op ⟨(some 42), .build [(.int .i64 0), (.int .u64 0)] [(0, 1, (.c (.int .i64 7)))], []⟩ <|
    .op ⟨(some 43), .fieldA 4 (.t 1), []⟩ <|
    .op ⟨(some 44), .load1 (.t 43), []⟩ <|
    .op ⟨(some 45), .conv .u64 (.t 44), []⟩ <|
    .op ⟨(some 46), .build [(.int .i64 0), (.int .u64 0)] [(0, 1, (.c (.int .i64 32))), (1, 1, (.t 45))], []⟩ <|
    .op ⟨(some 47), .fieldA 5 (.t 1), []⟩ <|
    .op ⟨(some 48), .load1 (.t 47), []⟩ <|
    .op ⟨(some 49), .conv .u64 (.t 48), []⟩ <|
    .op ⟨(some 50), .build [(.int .i64 0), (.int .u64 0)] [(0, 1, (.c (.int .i64 16))), (1, 1, (.t 49))], []⟩ <|
    .op ⟨(some 36), .call 444 [(.t 35)], [{ g := none, op := .load1 (.t 47), d := 48 }, { g := none, op := .load1 (.t 43), d := 44 }, { g := none, op := .load1 (.t 38), d := 39 }, { g := none, op := .load1 (.t 30), d := 31 }, { g := none, op := .load1 (.t 26), d := 27 }]⟩ <|
    .op ⟨(some 37), .build [(.int .i64 0), (.int .u64 0)] [(0, 1, (.c (.int .i64 1))), (1, 1, (.t 36))], []⟩ <|
    .op ⟨(some 51), .buildSl 2 7 [(.int .i64 0), (.int .u64 0)] [(0, 2, (.t 29)), (2, 2, (.t 33)), (4, 2, (.t 37)), (6, 2, (.t 41)), (8, 2, (.t 42)), (10, 2, (.t 46)), (12, 2, (.t 50))], []⟩ <|
    .op ⟨(some 52), .call 443 [(.t 51)], []⟩ <|
    .op ⟨(some 25), .mov (.t 52), []⟩ <|
    .op ⟨(some 53), .extract (.t 25) 0, []⟩ <|
    .op ⟨(some 54), .extract (.t 25) 1, []⟩ <|
    .op ⟨(some 6), .mov (.t 53), []⟩ <|
    .op ⟨(some 7), .mov (.t 54), []⟩ <|
    .nil)) (
  .seq (.seq (.ops (
    .op ⟨(some 55), .mov (.t 7), []⟩ <|
    .op ⟨(some 56), .not (.t 55), []⟩ <|
    .op ⟨(some 57), .mov (.t 56), []⟩ <|
    .grd 57 false [⟨(some 58), .fieldA 0 (.t 1), []⟩,
        ⟨(some 59), .load1 (.t 58), []⟩,
        ⟨(some 60), .cmp .gtr .i64 (.t 59) (.c (.int .i64 4)), []⟩] <|
    .op ⟨(some 61), .pick (.t 57) (.c (.bool true)) (.t 60), []⟩ <|
    .nil)) (
  .cond (.t 61) (.seq (.ops (
      .op ⟨(some 2), .mov (.c (.int .u64 0)), []⟩ <|
      .op ⟨(some 3), .mov (.c (.bool false)), []⟩ <|
      .nil)) (
    .ret)) (.skip))) (
  .seq (.ops (
    .op ⟨(some 62), .mov (.t 6), []⟩ <|
    .op ⟨(some 2), .mov (.t 62), []⟩ <|
    .op ⟨(some 3), .mov (.c (.bool true)), []⟩ <|
    .nil)) (
  .ret)))

/-- 382: withy/head.Pack -/
def head_Pack : AFunc where
  closed := true
  nparams := 1
  ntmps := 63
  results := [.tmp 2, .tmp 3]
  body := .seq (.ops (
      .op ⟨(some 1), .box (.t 0), []⟩ <|
      .op ⟨(some 2), .mov (.c (.int .u64 0)), []⟩ <|
      .op ⟨(some 3), .mov (.c (.bool false)), []⟩ <|
      .nil)) (
    .seq (.seq (.ops (
      .op ⟨(some 8), .fieldA 0 (.t 1), []⟩ <|
      .op ⟨(some 9), .load1 (.t 8), []⟩ <|
      .op ⟨(some 10), .fieldA 1 (.t 1), []⟩ <|
      .op ⟨(some 11), .load1 (.t 10), []⟩ <|
      .op ⟨(some 12), .fieldA 3 (.t 1), []⟩ <|
      .op ⟨(some 13), .load1 (.t 12), []⟩ <|
      .op ⟨(some 14), .fieldA 4 (.t 1), []⟩ <|
      .op ⟨(some 15), .load1 (.t 14), []⟩ <|
      .op ⟨(some 16), .fieldA 5 (.t 1), []⟩ <|
      .op ⟨(some 17), .load1 (.t 16), []⟩ <|
      .op ⟨(some 18), .build [(.int .i64 0), (.int .i64 0), (.int .i64 0), (.int .i64 0), (.int .i64 0)] [(0, 1, (.t 9)), (1, 1, (.t 11)), (2, 1, (.t 13)), (3, 1, (.t 15)), (4, 1, (.t 17))], []⟩ <|
      .op ⟨(some 19), .mov (.c (.int .i64 0)), []⟩ <|
      .nil)) (
    .block 0 (.loop [1, 18, 19] [1, 2, 3] (head_Pack_c1)))) (
    head_Pack_c0))

def head_Pack_hs : List (List Nat × List Nat) := [([1, 18, 19], [1, 2, 3])]

end Wm.F
end

section
/- PRINTED by my tool (wip/wm/tool/Gen.lean): a function as one of my machine. -/
namespace Wm.F
open Wm
set_option maxRecDepth 100000

/-- 442: withy/turn.Cycle -/
def turn_Cycle : AFunc where
  closed := true
  nparams := 1
  ntmps := 5
  results := [.tmp 2]
  body := .seq (.ops (
      .op ⟨(some 2), .mov (.c (.int .u64 0)), []⟩ <|
      .nil)) (
    .seq (.ops (
      .op ⟨(some 3), .mov (.t 0), []⟩ <|
      .op ⟨(some 4), .arith .quo .u64 (.t 3) (.c (.int .u64 4)), []⟩ <|
      .op ⟨(some 2), .mov (.t 4), []⟩ <|
      .nil)) (
    .ret))

def turn_Cycle_hs : List (List Nat × List Nat) := []

end Wm.F
end

section
/- PRINTED by my tool (wip/wm/tool/Gen.lean): a function as one of my machine. -/
namespace Wm.F
open Wm
set_option maxRecDepth 100000

def word_Pack_c1 : ACode :=
  .seq (.ops (
    .op ⟨(some 11), .cmp .lss .i64 (.t 10) (.t 9), []⟩ <|
    .nil)) (
  .seq (.cond (.t 11) (.skip) (.exit 0)) (
  .seq (.block 1 (.seq (.ops (
    .op ⟨(some 12), .indexA 2 (.t 8) (.t 10), []⟩ <|
    .op ⟨(some 13), .loadN 2 (.t 12), []⟩ <|
    .op ⟨(some 7), .alloc [(.int .i64 0), (.int .u64 0)], []⟩ <|
    .op ⟨none, .store 2 (.t 7) (.t 13), []⟩ <|
    .nil)) (
  .seq (.seq (.ops (
    .op ⟨(some 14), .mov (.t 5), []⟩ <|
    .op ⟨(some 15), .fieldA 0 (.t 7), []⟩ <|
    .op ⟨(some 16), .load1 (.t 15), []⟩ <|
    .op ⟨(some 17), .call 441 [(.t 14), (.t 16)], []⟩ <|
    .op ⟨(some 18), .not (.t 17), []⟩ <|
    .op ⟨(some 19), .mov (.t 18), []⟩ <|
    .grd 19 false [⟨(some 20), .fieldA 1 (.t 7), []⟩,
        ⟨(some 21), .load1 (.t 20), []⟩,
        ⟨(some 22), .fieldA 0 (.t 7), []⟩,
        ⟨(some 23), .load1 (.t 22), []⟩,
        ⟨(some 24), .call 484 [(.t 21), (.t 23)], []⟩,
        ⟨(some 25), .not (.t 24), []⟩] <|
    .op ⟨(some 26), .pick (.t 19) (.c (.bool true)) (.t 25), []⟩ <|
    .nil)) (
  .cond (.t 26) (.seq (.ops (
      .op ⟨(some 2), .mov (.c (.int .u64 0)), []⟩ <|
      .op ⟨(some 3), .mov (.c (.bool false)), []⟩ <|
      .nil)) (
    .ret)) (.skip))) (
  .seq (.ops (
    .op ⟨(some 27), .mov (.t 4), []⟩ <|
    .op ⟨(some 28), .fieldA 1 (.t 7), []⟩ <|
    .op ⟨(some 29), .load1 (.t 28), []⟩ <|
    .op ⟨(some 30), .mov (.t 5), []⟩ <|
    .op ⟨(some 31), .shift true .u64 .i64 (.t 29) (.t 30), []⟩ <|
    .op ⟨(some 32), .arith .or .u64 (.t 27) (.t 31), []⟩ <|
    .op ⟨(some 4), .mov (.t 32), []⟩ <|
    .nil)) (
  .ops (
    .op ⟨(some 33), .mov (.t 5), []⟩ <|
    .op ⟨(some 34), .fieldA 0 (.t 7), []⟩ <|
    .op ⟨(some 35), .load1 (.t 34), []⟩ <|
    .op ⟨(some 36), .arith .add .i64 (.t 33) (.t 35), []⟩ <|
    .op ⟨(some 5), .mov (.t 36), []⟩ <|
    .nil)))))) (
  .ops (
    .op ⟨(some 37), .arith .add .i64 (.t 10) (.c (.int .i64 1)), []⟩ <|
    .op ⟨(some 10), .mov (.t 37), []⟩ <|
    .nil))))

def word_Pack_c0 : ACode :=
  .seq (.ops (
    .op ⟨(some 38), .mov (.t 4), []⟩ <|
    .op ⟨(some 2), .mov (.t 38), []⟩ <|
    .op ⟨(some 3), .mov (.c (.bool true)), []⟩ <|
    .nil)) (
  .ret)

/-- 443: withy/word.Pack -/
def word_Pack : AFunc where
  closed := false
  nparams := 1
  ntmps := 39
  results := [.tmp 2, .tmp 3]
  body := .seq (.ops (
      .op ⟨(some 2), .mov (.c (.int .u64 0)), []⟩ <|
      .op ⟨(some 3), .mov (.c (.bool false)), []⟩ <|
      .nil)) (
    .seq (.ops (
      .op ⟨(some 4), .mov (.c (.int .u64 0)), []⟩ <|
      .nil)) (
    .seq (.ops (
      .op ⟨(some 5), .mov (.c (.int .i64 0)), []⟩ <|
      .nil)) (
    .seq (.seq (.ops (
      .op ⟨(some 8), .mov (.t 0), []⟩ <|
      .op ⟨(some 9), .lenSl (.t 8), []⟩ <|
      .op ⟨(some 10), .mov (.c (.int .i64 0)), []⟩ <|
      .nil)) (
    .block 0 (.loop [4, 5, 8, 9, 10] [2, 3, 4] (word_Pack_c1)))) (
    word_Pack_c0))))

def word_Pack_hs : List (List Nat × List Nat) := [([4, 5, 8, 9, 10], [2, 3, 4])]

end Wm.F
end

section
/- PRINTED by my tool (wip/wm/tool/Gen.lean): a function as one of my machine. -/
namespace Wm.F
open Wm
set_option maxRecDepth 100000

/-- 444: withy/head.bit -/
def head_bit : AFunc where
  closed := true
  nparams := 1
  ntmps := 4
  results := [.tmp 2]
  body := .seq (.ops (
      .op ⟨(some 2), .mov (.c (.int .u64 0)), []⟩ <|
      .nil)) (
    .seq (.seq (.ops (
      .op ⟨(some 3), .mov (.t 0), []⟩ <|
      .nil)) (
    .cond (.t 3) (.seq (.ops (
        .op ⟨(some 2), .mov (.c (.int .u64 1)), []⟩ <|
        .nil)) (
      .ret)) (.skip))) (
    .seq (.ops (
      .op ⟨(some 2), .mov (.c (.int .u64 0)), []⟩ <|
      .nil)) (
    .ret)))

def head_bit_hs : List (List Nat × List Nat) := []

end Wm.F
end

section
/- PRINTED by my tool (wip/wm/tool/Gen.lean): a function as one of my machine. -/
namespace Wm.F
open Wm
set_option maxRecDepth 100000

/-- 484: withy/word.Fits -/
def word_Fits : AFunc where
  closed := true
  nparams := 2
  ntmps := 17
  results := [.tmp 4]
  body := .seq (.ops (
      .op ⟨(some 4), .mov (.c (.bool false)), []⟩ <|
      .nil)) (
    .seq (.ops (
      .op ⟨(some 5), .mov (.t 1), []⟩ <|
      .op ⟨(some 6), .cmp .geq .i64 (.t 5) (.c (.int .i64 0)), []⟩ <|
      .op ⟨(some 7), .mov (.t 6), []⟩ <|
      .grd 7 true [⟨(some 8), .mov (.t 1), []⟩,
          ⟨(some 9), .cmp .gtr .i64 (.t 8) (.c (.int .i64 63)), []⟩,
          ⟨(some 10), .mov (.t 9), []⟩] <|
      .grd 10 false [⟨(some 11), .mov (.t 0), []⟩,
          ⟨(some 12), .mov (.t 1), []⟩,
          ⟨(some 13), .shift false .u64 .i64 (.t 11) (.t 12), []⟩,
          ⟨(some 14), .cmp .eql .u64 (.t 13) (.c (.int .u64 0)), []⟩] <|
      .grd 7 true [⟨(some 15), .pick (.t 10) (.c (.bool true)) (.t 14), []⟩] <|
      .op ⟨(some 16), .pick (.t 7) (.t 15) (.c (.bool false)), []⟩ <|
      .op ⟨(some 4), .mov (.t 16), []⟩ <|
      .nil)) (
    .ret))

def word_Fits_hs : List (List Nat × List Nat) := []

end Wm.F
end

section
/- PRINTED by my tool (wip/wm/tool/Gen.lean): a function as one of my machine. -/
namespace Wm.F
open Wm
set_option maxRecDepth 100000

/-- 127: withy/field.NewRead -/
def field_NewRead : AFunc where
  closed := false
  nparams := 4
  ntmps := 20
  results := [.tmp 8]
  body := .seq (.ops (
      .op ⟨(some 4), .box (.t 0), []⟩ <|
      .op ⟨(some 8), .mov (.c .nilp), []⟩ <|
      .nil)) (
    .seq (.ops (
      .op ⟨(some 10), .loadN 6 (.t 4), []⟩ <|
      .op ⟨(some 11), .mov (.t 1), []⟩ <|
      .op ⟨(some 12), .mov (.t 2), []⟩ <|
      .op ⟨(some 13), .mov (.t 3), []⟩ <|
      .op ⟨(some 14), .call 302 [(.t 10), (.t 11), (.t 12), (.t 13)], []⟩ <|
      .op ⟨(some 9), .mov (.t 14), []⟩ <|
      .nil)) (
    .seq (.seq (.ops (
      .op ⟨(some 15), .mov (.t 9), []⟩ <|
      .op ⟨(some 16), .eq false .ptr (.t 15) (.c .nilp), []⟩ <|
      .nil)) (
    .cond (.t 16) (.seq (.ops (
        .op ⟨(some 8), .mov (.c .nilp), []⟩ <|
        .nil)) (
      .ret)) (.skip))) (
    .seq (.ops (
      .op ⟨(some 17), .mov (.t 9), []⟩ <|
      .op ⟨(some 18), .build [(.int .i64 0), (.int .i64 0), (.int .i64 0), .nilp, (.int .i64 0)] [(0, 1, (.c (.int .i64 (-1)))), (1, 1, (.c (.int .i64 (-1)))), (3, 1, (.t 17))], []⟩ <|
      .op ⟨(some 19), .box (.t 18), []⟩ <|
      .op ⟨(some 8), .mov (.t 19), []⟩ <|
      .nil)) (
    .ret))))

def field_NewRead_hs : List (List Nat × List Nat) := []

end Wm.F
end

section
/- PRINTED by my tool (wip/wm/tool/Gen.lean): a function as one of my machine. -/
namespace Wm.F
open Wm
set_option maxRecDepth 100000

/-- 128: (*withy/field.Read).Step -/
def field_Read_Step : AFunc where
  closed := false
  nparams := 2
  ntmps := 93
  results := [.tmp 4]
  body := .seq (.ops (
      .op ⟨(some 4), .mov (.c (.bool false)), []⟩ <|
      .nil)) (
    .seq (.seq (.ops (
      .op ⟨(some 5), .mov (.t 0), []⟩ <|
      .op ⟨(some 6), .eq false .ptr (.t 5) (.c .nilp), []⟩ <|
      .nil)) (
    .cond (.t 6) (.seq (.ops (
        .op ⟨(some 4), .mov (.c (.bool true)), []⟩ <|
        .nil)) (
      .ret)) (.skip))) (
    .seq (.seq (.ops (
      .op ⟨(some 7), .mov (.t 0), []⟩ <|
      .op ⟨(some 8), .nilc (.t 7), []⟩ <|
      .op ⟨(some 9), .fieldA 4 (.t 8), []⟩ <|
      .op ⟨(some 10), .load1 (.t 9), []⟩ <|
      .nil)) (
    .block 0 (.seq (.ops (
      .op ⟨(some 12), .cmp .eql .i64 (.t 10) (.c (.int .i64 0)), []⟩ <|
      .op ⟨(some 11), .mov (.t 12), []⟩ <|
      .nil)) (
    .cond (.t 11) (.seq (.ops (
        .op ⟨(some 13), .mov (.t 0), []⟩ <|
        .op ⟨(some 14), .nilc (.t 13), []⟩ <|
        .op ⟨(some 15), .fieldA 3 (.t 14), []⟩ <|
        .op ⟨(some 16), .load1 (.t 15), []⟩ <|
        .op ⟨(some 17), .mov (.t 1), []⟩ <|
        .op ⟨(some 18), .call 303 [(.t 16), (.t 17)], []⟩ <|
        .nil)) (
      .cond (.t 18) (.seq (.ops (
          .op ⟨(some 19), .mov (.t 0), []⟩ <|
          .op ⟨(some 20), .mov (.t 0), []⟩ <|
          .op ⟨(some 21), .mov (.t 0), []⟩ <|
          .op ⟨(some 22), .nilc (.t 21), []⟩ <|
          .op ⟨(some 23), .fieldA 3 (.t 22), []⟩ <|
          .op ⟨(some 24), .load1 (.t 23), []⟩ <|
          .op ⟨(some 25), .nilc (.t 24), []⟩ <|
          .op ⟨(some 26), .fieldA 8 (.t 25), []⟩ <|
          .op ⟨(some 27), .load1 (.t 26), []⟩ <|
          .op ⟨(some 28), .mov (.t 0), []⟩ <|
          .op ⟨(some 29), .nilc (.t 28), []⟩ <|
          .op ⟨(some 30), .fieldA 3 (.t 29), []⟩ <|
          .op ⟨(some 31), .load1 (.t 30), []⟩ <|
          .op ⟨(some 32), .nilc (.t 31), []⟩ <|
          .op ⟨(some 33), .fieldA 9 (.t 32), []⟩ <|
          .op ⟨(some 34), .load1 (.t 33), []⟩ <|
          .op ⟨(some 35), .nilc (.t 19), []⟩ <|
          .op ⟨(some 36), .fieldA 0 (.t 35), []⟩ <|
          .op ⟨none, .store 1 (.t 36) (.t 27), []⟩ <|
          .op ⟨(some 37), .nilc (.t 20), []⟩ <|
          .op ⟨(some 38), .fieldA 2 (.t 37), []⟩ <|
          .op ⟨none, .store 1 (.t 38) (.t 34), []⟩ <|
          .nil)) (
        .seq (.ops (
          .op ⟨(some 39), .mov (.t 0), []⟩ <|
          .op ⟨(some 40), .nilc (.t 39), []⟩ <|
          .op ⟨(some 41), .fieldA 4 (.t 40), []⟩ <|
          .op ⟨none, .store 1 (.t 41) (.c (.int .i64 1)), []⟩ <|
          .nil)) (
        .seq (.ops (
          .op ⟨(some 42), .mov (.t 0), []⟩ <|
          .op ⟨(some 43), .nilc (.t 42), []⟩ <|
          .op ⟨(some 44), .fieldA 0 (.t 43), []⟩ <|
          .op ⟨(some 45), .load1 (.t 44), []⟩ <|
          .op ⟨(some 46), .cmp .lss .i64 (.t 45) (.c (.int .i64 0)), []⟩ <|
          .nil)) (
        .cond (.t 46) (.ops (
            .op ⟨(some 47), .mov (.t 0), []⟩ <|
            .op ⟨(some 48), .nilc (.t 47), []⟩ <|
            .op ⟨(some 49), .fieldA 4 (.t 48), []⟩ <|
            .op ⟨none, .store 1 (.t 49) (.c (.int .i64 2)), []⟩ <|
            .nil)) (.skip))))) (.skip))) (.seq (.ops (
        .op ⟨(some 51), .cmp .eql .i64 (.t 10) (.c (.int .i64 1)), []⟩ <|
        .op ⟨(some 50), .mov (.t 51), []⟩ <|
        .nil)) (
      .cond (.t 50) (.seq (.ops (
          .op ⟨(some 52), .mov (.t 0), []⟩ <|
          .op ⟨(some 53), .mov (.t 0), []⟩ <|
          .op ⟨(some 54), .mov (.t 0), []⟩ <|
          .op ⟨(some 55), .nilc (.t 54), []⟩ <|
          .op ⟨(some 56), .fieldA 3 (.t 55), []⟩ <|
          .op ⟨(some 57), .load1 (.t 56), []⟩ <|
          .op ⟨(some 58), .nilc (.t 57), []⟩ <|
          .op ⟨(some 59), .fieldA 0 (.t 58), []⟩ <|
          .op ⟨(some 60), .loadN 6 (.t 59), []⟩ <|
          .op ⟨(some 61), .mov (.t 1), []⟩ <|
          .op ⟨(some 62), .mov (.t 0), []⟩ <|
          .op ⟨(some 63), .nilc (.t 62), []⟩ <|
          .op ⟨(some 64), .fieldA 3 (.t 63), []⟩ <|
          .op ⟨(some 65), .load1 (.t 64), []⟩ <|
          .op ⟨(some 66), .nilc (.t 65), []⟩ <|
          .op ⟨(some 67), .fieldA 0 (.t 66), []⟩ <|
          .op ⟨(some 68), .loadN 6 (.t 67), []⟩ <|
          .op ⟨(some 69), .mov (.t 0), []⟩ <|
          .op ⟨(some 70), .nilc (.t 69), []⟩ <|
          .op ⟨(some 71), .fieldA 0 (.t 70), []⟩ <|
          .op ⟨(some 72), .load1 (.t 71), []⟩ <|
          .op ⟨(some 76), .mov (.t 0), []⟩ <|
          .op ⟨(some 77), .nilc (.t 76), []⟩ <|
          .op ⟨(some 78), .fieldA 3 (.t 77), []⟩ <|
          .op ⟨(some 79), .load1 (.t 78), []⟩ <|
          .op ⟨(some 73), .call 305 [(.t 68), (.t 72), (.c (.int .i64 0))], [{ g := none, op := .load1 (.t 78), d := 79 }, { g := none, op := .loadN 6 (.t 59), d := 60 }, { g := none, op := .load1 (.t 56), d := 57 }]⟩ <|
          .op ⟨(some 74), .call 266 [(.t 61), (.t 73)], [{ g := none, op := .load1 (.t 78), d := 79 }, { g := none, op := .loadN 6 (.t 59), d := 60 }, { g := none, op := .load1 (.t 56), d := 57 }]⟩ <|
          .op ⟨(some 75), .call 304 [(.t 60), (.t 74)], [{ g := none, op := .load1 (.t 78), d := 79 }]⟩ <|
          .op ⟨(some 80), .call 306 [(.t 79)], []⟩ <|
          .op ⟨(some 81), .nilc (.t 52), []⟩ <|
          .op ⟨(some 82), .fieldA 1 (.t 81), []⟩ <|
          .op ⟨none, .store 1 (.t 82) (.t 75), []⟩ <|
          .op ⟨(some 83), .nilc (.t 53), []⟩ <|
          .op ⟨(some 84), .fieldA 2 (.t 83), []⟩ <|
          .op ⟨none, .store 1 (.t 84) (.t 80), []⟩ <|
          .nil)) (
        .ops (
          .op ⟨(some 85), .mov (.t 0), []⟩ <|
          .op ⟨(some 86), .nilc (.t 85), []⟩ <|
          .op ⟨(some 87), .fieldA 4 (.t 86), []⟩ <|
          .op ⟨none, .store 1 (.t 87) (.c (.int .i64 2)), []⟩ <|
          .nil))) (.skip))))))) (
    .seq (.ops (
      .op ⟨(some 88), .mov (.t 0), []⟩ <|
      .op ⟨(some 89), .nilc (.t 88), []⟩ <|
      .op ⟨(some 90), .fieldA 4 (.t 89), []⟩ <|
      .op ⟨(some 91), .load1 (.t 90), []⟩ <|
      .op ⟨(some 92), .cmp .eql .i64 (.t 91) (.c (.int .i64 2)), []⟩ <|
      .op ⟨(some 4), .mov (.t 92), []⟩ <|
      .nil)) (
    .ret))))

def field_Read_Step_hs : List (List Nat × List Nat) := []

end Wm.F
end

section
/- PRINTED by my tool (wip/wm/tool/Gen.lean): a function as one of my machine. -/
namespace Wm.F
open Wm
set_option maxRecDepth 100000

/-- 402: withy/head.Blackened -/
def head_Blackened : AFunc where
  closed := true
  nparams := 1
  ntmps := 24
  results := [.tmp 2, .tmp 3]
  body := .seq (.ops (
      .op ⟨(some 2), .mov (.c (.int .u64 0)), []⟩ <|
      .op ⟨(some 3), .mov (.c (.bool false)), []⟩ <|
      .nil)) (
    .seq (.ops (
      .op ⟨(some 7), .mov (.t 0), []⟩ <|
      .op ⟨(some 8), .call 265 [(.t 7)], []⟩ <|
      .op ⟨(some 6), .mov (.t 8), []⟩ <|
      .op ⟨(some 9), .extract (.t 6) 0, []⟩ <|
      .op ⟨(some 10), .extract (.t 6) 1, []⟩ <|
      .op ⟨(some 4), .alloc [(.int .i64 0), (.int .i64 0), (.bool false), (.int .i64 0), (.int .i64 0), (.int .i64 0)], []⟩ <|
      .op ⟨none, .store 6 (.t 4) (.t 9), []⟩ <|
      .op ⟨(some 5), .mov (.t 10), []⟩ <|
      .nil)) (
    .seq (.seq (.ops (
      .op ⟨(some 11), .mov (.t 5), []⟩ <|
      .op ⟨(some 12), .not (.t 11), []⟩ <|
      .op ⟨(some 13), .mov (.t 12), []⟩ <|
      .grd 13 false [⟨(some 14), .fieldA 2 (.t 4), []⟩,
          ⟨(some 15), .load1 (.t 14), []⟩,
          ⟨(some 16), .not (.t 15), []⟩] <|
      .op ⟨(some 17), .pick (.t 13) (.c (.bool true)) (.t 16), []⟩ <|
      .nil)) (
    .cond (.t 17) (.seq (.ops (
        .op ⟨(some 18), .mov (.t 0), []⟩ <|
        .op ⟨(some 2), .mov (.t 18), []⟩ <|
        .op ⟨(some 3), .mov (.c (.bool false)), []⟩ <|
        .nil)) (
      .ret)) (.skip))) (
    .seq (.ops (
      .op ⟨(some 19), .fieldA 2 (.t 4), []⟩ <|
      .op ⟨none, .store 1 (.t 19) (.c (.bool false)), []⟩ <|
      .nil)) (
    .seq (.ops (
      .op ⟨(some 20), .loadN 6 (.t 4), []⟩ <|
      .op ⟨(some 21), .call 382 [(.t 20)], []⟩ <|
      .op ⟨(some 22), .extract (.t 21) 0, []⟩ <|
      .op ⟨(some 23), .extract (.t 21) 1, []⟩ <|
      .op ⟨(some 2), .mov (.t 22), []⟩ <|
      .op ⟨(some 3), .mov (.t 23), []⟩ <|
      .nil)) (
    .ret)))))

def head_Blackened_hs : List (List Nat × List Nat) := []

end Wm.F
end

section
/- PRINTED by my tool (wip/wm/tool/Gen.lean): a function as one of my machine. -/
namespace Wm.F
open Wm
set_option maxRecDepth 100000

/-- 409: withy/head.Freed -/
def head_Freed : AFunc where
  closed := true
  nparams := 2
  ntmps := 44
  results := [.tmp 4, .tmp 5]
  body := .seq (.ops (
      .op ⟨(some 4), .mov (.c (.int .u64 0)), []⟩ <|
      .op ⟨(some 5), .mov (.c (.bool false)), []⟩ <|
      .nil)) (
    .seq (.ops (
      .op ⟨(some 9), .mov (.t 0), []⟩ <|
      .op ⟨(some 10), .call 265 [(.t 9)], []⟩ <|
      .op ⟨(some 8), .mov (.t 10), []⟩ <|
      .op ⟨(some 11), .extract (.t 8) 0, []⟩ <|
      .op ⟨(some 12), .extract (.t 8) 1, []⟩ <|
      .op ⟨(some 6), .alloc [(.int .i64 0), (.int .i64 0), (.bool false), (.int .i64 0), (.int .i64 0), (.int .i64 0)], []⟩ <|
      .op ⟨none, .store 6 (.t 6) (.t 11), []⟩ <|
      .op ⟨(some 7), .mov (.t 12), []⟩ <|
      .nil)) (
    .seq (.seq (.ops (
      .op ⟨(some 13), .mov (.t 7), []⟩ <|
      .op ⟨(some 14), .not (.t 13), []⟩ <|
      .op ⟨(some 15), .mov (.t 14), []⟩ <|
      .grd 15 false [⟨(some 16), .fieldA 0 (.t 6), []⟩,
          ⟨(some 17), .load1 (.t 16), []⟩,
          ⟨(some 18), .cmp .neq .i64 (.t 17) (.c (.int .i64 3)), []⟩] <|
      .op ⟨(some 19), .pick (.t 15) (.c (.bool true)) (.t 18), []⟩ <|
      .nil)) (
    .cond (.t 19) (.seq (.ops (
        .op ⟨(some 20), .mov (.t 0), []⟩ <|
        .op ⟨(some 4), .mov (.t 20), []⟩ <|
        .op ⟨(some 5), .mov (.c (.bool false)), []⟩ <|
        .nil)) (
      .ret)) (.skip))) (
    .seq (.seq (.ops (
      .op ⟨(some 21), .fieldA 4 (.t 6), []⟩ <|
      .op ⟨(some 22), .load1 (.t 21), []⟩ <|
      .op ⟨(some 23), .arith .add .i64 (.t 22) (.c (.int .i64 1)), []⟩ <|
      .op ⟨(some 24), .mov (.t 1), []⟩ <|
      .op ⟨(some 25), .cmp .geq .i64 (.t 23) (.t 24), []⟩ <|
      .op ⟨(some 26), .mov (.t 25), []⟩ <|
      .grd 26 false [⟨(some 27), .fieldA 4 (.t 6), []⟩,
          ⟨(some 28), .load1 (.t 27), []⟩,
          ⟨(some 29), .arith .add .i64 (.t 28) (.c (.int .i64 1)), []⟩,
          ⟨(some 30), .cmp .geq .i64 (.t 29) (.c (.int .i64 4294967296)), []⟩] <|
      .op ⟨(some 31), .pick (.t 26) (.c (.bool true)) (.t 30), []⟩ <|
      .nil)) (
    .cond (.t 31) (.seq (.ops (
        .op ⟨(some 32), .fieldA 0 (.t 6), []⟩ <|
        .op ⟨none, .store 1 (.t 32) (.c (.int .i64 4)), []⟩ <|
        .nil)) (
      .seq (.ops (
        .op ⟨(some 33), .loadN 6 (.t 6), []⟩ <|
        .op ⟨(some 34), .call 382 [(.t 33)], []⟩ <|
        .op ⟨(some 35), .extract (.t 34) 0, []⟩ <|
        .op ⟨(some 36), .extract (.t 34) 1, []⟩ <|
        .op ⟨(some 4), .mov (.t 35), []⟩ <|
        .op ⟨(some 5), .mov (.t 36), []⟩ <|
        .nil)) (
      .ret))) (.skip))) (
    .seq (.ops (
      .op ⟨(some 37), .fieldA 4 (.t 6), []⟩ <|
      .op ⟨(some 38), .load1 (.t 37), []⟩ <|
      .op ⟨(some 39), .arith .add .i64 (.t 38) (.c (.int .i64 1)), []⟩ <|
      .op ⟨(some 40), .build [(.int .i64 0), (.int .i64 0), (.bool false), (.int .i64 0), (.int .i64 0), (.int .i64 0)] [(0, 1, (.c (.int .i64 0))), (4, 1, (.t 39))], []⟩ <|
      .op ⟨(some 41), .call 382 [(.t 40)], []⟩ <|
      .op ⟨(some 42), .extract (.t 41) 0, []⟩ <|
      .op ⟨(some 43), .extract (.t 41) 1, []⟩ <|
      .op ⟨(some 4), .mov (.t 42), []⟩ <|
      .op ⟨(some 5), .mov (.t 43), []⟩ <|
      .nil)) (
    .ret)))))

def head_Freed_hs : List (List Nat × List Nat) := []

end Wm.F
end

section
/- PRINTED by my tool (wip/wm/tool/Gen.lean): a function as one of my machine. -/
namespace Wm.F
open Wm
set_option maxRecDepth 100000

/-- 556: withy/head.Made -/
def head_Made : AFunc where
  closed := true
  nparams := 4
  ntmps := 25
  results := [.tmp 8, .tmp 9]
  body := .seq (.ops (
      .op ⟨(some 8), .mov (.c (.int .u64 0)), []⟩ <|
      .op ⟨(some 9), .mov (.c (.bool false)), []⟩ <|
      .nil)) (
    .seq (.seq (.ops (
      .op ⟨(some 10), .mov (.t 0), []⟩ <|
      .op ⟨(some 11), .cmp .neq .i64 (.t 10) (.c (.int .i64 1)), []⟩ <|
      .op ⟨(some 12), .mov (.t 11), []⟩ <|
      .grd 12 true [⟨(some 13), .mov (.t 0), []⟩,
          ⟨(some 14), .cmp .neq .i64 (.t 13) (.c (.int .i64 2)), []⟩] <|
      .op ⟨(some 15), .pick (.t 12) (.t 14) (.c (.bool false)), []⟩ <|
      .nil)) (
    .cond (.t 15) (.seq (.ops (
        .op ⟨(some 8), .mov (.c (.int .u64 0)), []⟩ <|
        .op ⟨(some 9), .mov (.c (.bool false)), []⟩ <|
        .nil)) (
      .ret)) (.skip))) (
    .seq (.ops (
      .op ⟨(some 16), .mov (.t 0), []⟩ <|
      .op ⟨(some 17), .mov (.t 3), []⟩ <|
      .op ⟨(some 18), .call 557 [(.t 17)], []⟩ <|
      .op ⟨(some 19), .mov (.t 1), []⟩ <|
      .op ⟨(some 20), .mov (.t 2), []⟩ <|
      .op ⟨(some 21), .build [(.int .i64 0), (.int .i64 0), (.bool false), (.int .i64 0), (.int .i64 0), (.int .i64 0)] [(0, 1, (.t 16)), (1, 1, (.t 18)), (3, 1, (.t 19)), (4, 1, (.t 20))], []⟩ <|
      .op ⟨(some 22), .call 382 [(.t 21)], []⟩ <|
      .op ⟨(some 23), .extract (.t 22) 0, []⟩ <|
      .op ⟨(some 24), .extract (.t 22) 1, []⟩ <|
      .op ⟨(some 8), .mov (.t 23), []⟩ <|
      .op ⟨(some 9), .mov (.t 24), []⟩ <|
      .nil)) (
    .ret)))

def head_Made_hs : List (List Nat × List Nat) := []

end Wm.F
end

section
/- PRINTED by my tool (wip/wm/tool/Gen.lean): a function as one of my machine. -/
namespace Wm.F
open Wm
set_option maxRecDepth 100000

/-- 317: withy/head.Marked -/
def head_Marked : AFunc where
  closed := true
  nparams := 2
  ntmps := 20
  results := [.tmp 4]
  body := .seq (.ops (
      .op ⟨(some 4), .mov (.c (.bool false)), []⟩ <|
      .nil)) (
    .seq (.ops (
      .op ⟨(some 8), .mov (.t 0), []⟩ <|
      .op ⟨(some 9), .call 380 [(.t 8)], []⟩ <|
      .op ⟨(some 7), .mov (.t 9), []⟩ <|
      .op ⟨(some 10), .extract (.t 7) 0, []⟩ <|
      .op ⟨(some 11), .extract (.t 7) 1, []⟩ <|
      .op ⟨(some 5), .alloc [(.int .i64 0), (.int .i64 0), (.bool false), (.int .i64 0), (.int .i64 0), (.int .i64 0)], []⟩ <|
      .op ⟨none, .store 6 (.t 5) (.t 10), []⟩ <|
      .op ⟨(some 6), .mov (.t 11), []⟩ <|
      .nil)) (
    .seq (.ops (
      .op ⟨(some 12), .mov (.t 6), []⟩ <|
      .op ⟨(some 13), .mov (.t 12), []⟩ <|
      .grd 13 true [⟨(some 14), .fieldA 1 (.t 5), []⟩,
          ⟨(some 15), .load1 (.t 14), []⟩,
          ⟨(some 16), .mov (.t 1), []⟩,
          ⟨(some 17), .call 381 [(.t 16)], [{ g := (some (13, true)), op := .load1 (.t 14), d := 15 }]⟩,
          ⟨(some 18), .cmp .eql .i64 (.t 15) (.t 17), []⟩] <|
      .op ⟨(some 19), .pick (.t 13) (.t 18) (.c (.bool false)), []⟩ <|
      .op ⟨(some 4), .mov (.t 19), []⟩ <|
      .nil)) (
    .ret)))

def head_Marked_hs : List (List Nat × List Nat) := []

end Wm.F
end

section
/- PRINTED by my tool (wip/wm/tool/Gen.lean): a function as one of my machine. -/
namespace Wm.F
open Wm
set_option maxRecDepth 100000

/-- 340: withy/head.Retired -/
def head_Retired : AFunc where
  closed := true
  nparams := 2
  ntmps := 33
  results := [.tmp 4, .tmp 5]
  body := .seq (.ops (
      .op ⟨(some 4), .mov (.c (.int .u64 0)), []⟩ <|
      .op ⟨(some 5), .mov (.c (.bool false)), []⟩ <|
      .nil)) (
    .seq (.ops (
      .op ⟨(some 9), .mov (.t 0), []⟩ <|
      .op ⟨(some 10), .call 380 [(.t 9)], []⟩ <|
      .op ⟨(some 8), .mov (.t 10), []⟩ <|
      .op ⟨(some 11), .extract (.t 8) 0, []⟩ <|
      .op ⟨(some 12), .extract (.t 8) 1, []⟩ <|
      .op ⟨(some 6), .alloc [(.int .i64 0), (.int .i64 0), (.bool false), (.int .i64 0), (.int .i64 0), (.int .i64 0)], []⟩ <|
      .op ⟨none, .store 6 (.t 6) (.t 11), []⟩ <|
      .op ⟨(some 7), .mov (.t 12), []⟩ <|
      .nil)) (
    .seq (.seq (.ops (
      .op ⟨(some 13), .mov (.t 7), []⟩ <|
      .op ⟨(some 14), .not (.t 13), []⟩ <|
      .op ⟨(some 15), .mov (.t 14), []⟩ <|
      .grd 15 false [⟨(some 16), .fieldA 1 (.t 6), []⟩,
          ⟨(some 17), .load1 (.t 16), []⟩,
          ⟨(some 18), .mov (.t 1), []⟩,
          ⟨(some 19), .call 381 [(.t 18)], [{ g := (some (15, false)), op := .load1 (.t 16), d := 17 }]⟩,
          ⟨(some 20), .cmp .eql .i64 (.t 17) (.t 19), []⟩] <|
      .op ⟨(some 21), .pick (.t 15) (.c (.bool true)) (.t 20), []⟩ <|
      .nil)) (
    .cond (.t 21) (.seq (.ops (
        .op ⟨(some 22), .mov (.t 0), []⟩ <|
        .op ⟨(some 4), .mov (.t 22), []⟩ <|
        .op ⟨(some 5), .mov (.c (.bool false)), []⟩ <|
        .nil)) (
      .ret)) (.skip))) (
    .seq (.ops (
      .op ⟨(some 23), .mov (.t 1), []⟩ <|
      .op ⟨(some 24), .arith .and .u64 (.t 23) (.c (.int .u64 65535)), []⟩ <|
      .op ⟨(some 25), .conv .i64 (.t 24), []⟩ <|
      .op ⟨(some 26), .fieldA 0 (.t 6), []⟩ <|
      .op ⟨none, .store 1 (.t 26) (.c (.int .i64 3)), []⟩ <|
      .op ⟨(some 27), .fieldA 2 (.t 6), []⟩ <|
      .op ⟨none, .store 1 (.t 27) (.c (.bool false)), []⟩ <|
      .op ⟨(some 28), .fieldA 5 (.t 6), []⟩ <|
      .op ⟨none, .store 1 (.t 28) (.t 25), []⟩ <|
      .nil)) (
    .seq (.ops (
      .op ⟨(some 29), .loadN 6 (.t 6), []⟩ <|
      .op ⟨(some 30), .call 382 [(.t 29)], []⟩ <|
      .op ⟨(some 31), .extract (.t 30) 0, []⟩ <|
      .op ⟨(some 32), .extract (.t 30) 1, []⟩ <|
      .op ⟨(some 4), .mov (.t 31), []⟩ <|
      .op ⟨(some 5), .mov (.t 32), []⟩ <|
      .nil)) (
    .ret)))))

def head_Retired_hs : List (List Nat × List Nat) := []

end Wm.F
end

section
/- PRINTED by my tool (wip/wm/tool/Gen.lean): a function as one of my machine. -/
namespace Wm.F
open Wm
set_option maxRecDepth 100000

/-- 107: (*withy/mem.Mem).Touches -/
def mem_Mem_Touches : AFunc where
  closed := false
  nparams := 1
  ntmps := 9
  results := [.tmp 2]
  body := .seq (.ops (
      .op ⟨(some 2), .mov (.c (.int .i64 0)), []⟩ <|
      .nil)) (
    .seq (.seq (.ops (
      .op ⟨(some 3), .mov (.t 0), []⟩ <|
      .op ⟨(some 4), .eq false .ptr (.t 3) (.c .nilp), []⟩ <|
      .nil)) (
    .cond (.t 4) (.seq (.ops (
        .op ⟨(some 2), .mov (.c (.int .i64 0)), []⟩ <|
        .nil)) (
      .ret)) (.skip))) (
    .seq (.ops (
      .op ⟨(some 5), .mov (.t 0), []⟩ <|
      .op ⟨(some 6), .nilc (.t 5), []⟩ <|
      .op ⟨(some 7), .fieldA 1 (.t 6), []⟩ <|
      .op ⟨(some 8), .load1 (.t 7), []⟩ <|
      .op ⟨(some 2), .mov (.t 8), []⟩ <|
      .nil)) (
    .ret)))

def mem_Mem_Touches_hs : List (List Nat × List Nat) := []

end Wm.F
end

section
/- PRINTED by my tool (wip/wm/tool/Gen.lean): a function as one of my machine. -/
namespace Wm.F
open Wm
set_option maxRecDepth 100000

/-- 94: (*withy/mem.Mem).Words -/
def mem_Mem_Words : AFunc where
  closed := false
  nparams := 1
  ntmps := 10
  results := [.tmp 2]
  body := .seq (.ops (
      .op ⟨(some 2), .mov (.c .nilsl), []⟩ <|
      .nil)) (
    .seq (.seq (.ops (
      .op ⟨(some 3), .mov (.t 0), []⟩ <|
      .op ⟨(some 4), .eq false .ptr (.t 3) (.c .nilp), []⟩ <|
      .nil)) (
    .cond (.t 4) (.seq (.ops (
        .op ⟨(some 2), .mov (.c .nilsl), []⟩ <|
        .nil)) (
      .ret)) (.skip))) (
    .seq (.ops (
      .op ⟨(some 5), .mov (.t 0), []⟩ <|
      .op ⟨(some 6), .nilc (.t 5), []⟩ <|
      .op ⟨(some 7), .fieldA 0 (.t 6), []⟩ <|
      .op ⟨(some 8), .load1 (.t 7), []⟩ <|
      .op ⟨(some 9), .call 271 [(.t 8)], []⟩ <|
      .op ⟨(some 2), .mov (.t 9), []⟩ <|
      .nil)) (
    .ret)))

def mem_Mem_Words_hs : List (List Nat × List Nat) := []

end Wm.F
end

section
/- PRINTED by my tool (wip/wm/tool/Gen.lean): a function as one of my machine. -/
namespace Wm.F
open Wm
set_option maxRecDepth 100000

/-- 264: withy/plan.Size -/
def plan_Size : AFunc where
  closed := true
  nparams := 1
  ntmps := 14
  results := [.tmp 2]
  body := .seq (.ops (
      .op ⟨(some 1), .box (.t 0), []⟩ <|
      .op ⟨(some 2), .mov (.c (.int .i64 0)), []⟩ <|
      .nil)) (
    .seq (.seq (.ops (
      .op ⟨(some 3), .loadN 6 (.t 1), []⟩ <|
      .op ⟨(some 4), .call 263 [(.t 3)], []⟩ <|
      .op ⟨(some 5), .not (.t 4), []⟩ <|
      .nil)) (
    .cond (.t 5) (.seq (.ops (
        .op ⟨(some 2), .mov (.c (.int .i64 0)), []⟩ <|
        .nil)) (
      .ret)) (.skip))) (
    .seq (.ops (
      .op ⟨(some 6), .loadN 6 (.t 1), []⟩ <|
      .op ⟨(some 8), .fieldA 0 (.t 1), []⟩ <|
      .op ⟨(some 9), .load1 (.t 8), []⟩ <|
      .op ⟨(some 10), .loadN 6 (.t 1), []⟩ <|
      .op ⟨(some 7), .call 377 [(.t 6)], [{ g := none, op := .loadN 6 (.t 1), d := 10 }, { g := none, op := .load1 (.t 8), d := 9 }]⟩ <|
      .op ⟨(some 11), .call 378 [(.t 10)], [{ g := none, op := .load1 (.t 8), d := 9 }]⟩ <|
      .op ⟨(some 12), .arith .mul .i64 (.t 9) (.t 11), []⟩ <|
      .op ⟨(some 13), .arith .add .i64 (.t 7) (.t 12), []⟩ <|
      .op ⟨(some 2), .mov (.t 13), []⟩ <|
      .nil)) (
    .ret)))

def plan_Size_hs : List (List Nat × List Nat) := []

end Wm.F
end

section
/- PRINTED by my tool (wip/wm/tool/Gen.lean): a function as one of my machine. -/
namespace Wm.F
open Wm
set_option maxRecDepth 100000

def shade_Grays_c1 : ACode :=
  .seq (.ops (
    .op ⟨(some 22), .cmp .lss .i64 (.t 21) (.t 20), []⟩ <|
    .nil)) (
  .seq (.cond (.t 22) (.skip) (.exit 0)) (
  .seq (.block 1 (.seq (.ops (
    .op ⟨(some 23), .mov (.t 21), []⟩ <|
    .op ⟨(some 6), .mov (.t 23), []⟩ <|
    .nil)) (
  .seq (.ops (
    .op ⟨(some 25), .mov (.t 1), []⟩ <|
    .op ⟨(some 26), .loadN 6 (.t 2), []⟩ <|
    .op ⟨(some 27), .mov (.t 6), []⟩ <|
    .op ⟨(some 28), .call 261 [(.t 26), (.t 27)], []⟩ <|
    .op ⟨(some 29), .indexA 1 (.t 25) (.t 28), []⟩ <|
    .op ⟨(some 30), .load1 (.t 29), []⟩ <|
    .op ⟨(some 31), .call 265 [(.t 30)], []⟩ <|
    .op ⟨(some 24), .mov (.t 31), []⟩ <|
    .op ⟨(some 32), .extract (.t 24) 0, []⟩ <|
    .op ⟨(some 33), .extract (.t 24) 1, []⟩ <|
    .op ⟨(some 7), .alloc [(.int .i64 0), (.int .i64 0), (.bool false), (.int .i64 0), (.int .i64 0), (.int .i64 0)], []⟩ <|
    .op ⟨none, .store 6 (.t 7) (.t 32), []⟩ <|
    .op ⟨(some 8), .mov (.t 33), []⟩ <|
    .nil)) (
  .seq (.ops (
    .op ⟨(some 34), .mov (.t 8), []⟩ <|
    .op ⟨(some 35), .mov (.t 34), []⟩ <|
    .grd 35 true [⟨(some 36), .fieldA 2 (.t 7), []⟩,
        ⟨(some 37), .load1 (.t 36), []⟩] <|
    .op ⟨(some 38), .pick (.t 35) (.t 37) (.c (.bool false)), []⟩ <|
    .nil)) (
  .cond (.t 38) (.ops (
      .op ⟨(some 39), .mov (.t 5), []⟩ <|
      .op ⟨(some 40), .arith .add .i64 (.t 39) (.c (.int .i64 1)), []⟩ <|
      .op ⟨(some 5), .mov (.t 40), []⟩ <|
      .nil)) (.skip)))))) (
  .ops (
    .op ⟨(some 41), .arith .add .i64 (.t 21) (.c (.int .i64 1)), []⟩ <|
    .op ⟨(some 21), .mov (.t 41), []⟩ <|
    .nil))))

def shade_Grays_c0 : ACode :=
  .seq (.ops (
    .op ⟨(some 42), .mov (.t 5), []⟩ <|
    .op ⟨(some 4), .mov (.t 42), []⟩ <|
    .nil)) (
  .ret)

/-- 89: withy/shade.Grays -/
def shade_Grays : AFunc where
  closed := false
  nparams := 2
  ntmps := 43
  results := [.tmp 4]
  body := .seq (.ops (
      .op ⟨(some 2), .box (.t 0), []⟩ <|
      .op ⟨(some 4), .mov (.c (.int .i64 0)), []⟩ <|
      .nil)) (
    .seq (.seq (.ops (
      .op ⟨(some 9), .loadN 6 (.t 2), []⟩ <|
      .op ⟨(some 10), .call 263 [(.t 9)], []⟩ <|
      .op ⟨(some 11), .not (.t 10), []⟩ <|
      .op ⟨(some 12), .mov (.t 11), []⟩ <|
      .grd 12 false [⟨(some 13), .mov (.t 1), []⟩,
          ⟨(some 14), .lenSl (.t 13), []⟩,
          ⟨(some 15), .loadN 6 (.t 2), []⟩,
          ⟨(some 16), .call 264 [(.t 15)], []⟩,
          ⟨(some 17), .cmp .neq .i64 (.t 14) (.t 16), []⟩] <|
      .op ⟨(some 18), .pick (.t 12) (.c (.bool true)) (.t 17), []⟩ <|
      .nil)) (
    .cond (.t 18) (.seq (.ops (
        .op ⟨(some 4), .mov (.c (.int .i64 0)), []⟩ <|
        .nil)) (
      .ret)) (.skip))) (
    .seq (.ops (
      .op ⟨(some 5), .mov (.c (.int .i64 0)), []⟩ <|
      .nil)) (
    .seq (.seq (.ops (
      .op ⟨(some 19), .fieldA 0 (.t 2), []⟩ <|
      .op ⟨(some 20), .load1 (.t 19), []⟩ <|
      .op ⟨(some 21), .mov (.c (.int .i64 0)), []⟩ <|
      .nil)) (
    .block 0 (.loop [1, 2, 5, 20, 21] [5] (shade_Grays_c1)))) (
    shade_Grays_c0))))

def shade_Grays_hs : List (List Nat × List Nat) := [([1, 2, 5, 20, 21], [5])]

end Wm.F
end

section
/- PRINTED by my tool (wip/wm/tool/Gen.lean): a function as one of my machine. -/
namespace Wm.F
open Wm
set_option maxRecDepth 100000

/-- 557: withy/turn.Born -/
def turn_Born : AFunc where
  closed := true
  nparams := 1
  ntmps := 11
  results := [.tmp 2]
  body := .seq (.ops (
      .op ⟨(some 2), .mov (.c (.int .i64 0)), []⟩ <|
      .nil)) (
    .seq (.seq (.ops (
      .op ⟨(some 3), .mov (.t 0), []⟩ <|
      .op ⟨(some 4), .arith .rem .u64 (.t 3) (.c (.int .u64 4)), []⟩ <|
      .op ⟨(some 5), .cmp .eql .u64 (.t 4) (.c (.int .u64 0)), []⟩ <|
      .nil)) (
    .cond (.t 5) (.seq (.ops (
        .op ⟨(some 6), .mov (.t 0), []⟩ <|
        .op ⟨(some 7), .call 381 [(.t 6)], []⟩ <|
        .op ⟨(some 8), .arith .sub .i64 (.c (.int .i64 1)) (.t 7), []⟩ <|
        .op ⟨(some 2), .mov (.t 8), []⟩ <|
        .nil)) (
      .ret)) (.skip))) (
    .seq (.ops (
      .op ⟨(some 9), .mov (.t 0), []⟩ <|
      .op ⟨(some 10), .call 381 [(.t 9)], []⟩ <|
      .op ⟨(some 2), .mov (.t 10), []⟩ <|
      .nil)) (
    .ret)))

def turn_Born_hs : List (List Nat × List Nat) := []

end Wm.F
end

section
/- PRINTED by my tool (wip/wm/tool/Gen.lean): a function as one of my machine. -/
namespace Wm.F
open Wm
set_option maxRecDepth 100000

def withylaw09_grays_c1 : ACode :=
  .seq (.seq (.ops (
    .op ⟨(some 9), .mov (.t 6), []⟩ <|
    .op ⟨(some 10), .fieldA 0 (.t 2), []⟩ <|
    .op ⟨(some 11), .load1 (.t 10), []⟩ <|
    .op ⟨(some 12), .cmp .lss .i64 (.t 9) (.t 11), []⟩ <|
    .nil)) (
  .cond (.t 12) (.skip) (.exit 0))) (
  .seq (.block 1 (.seq (.ops (
    .op ⟨(some 16), .mov (.t 1), []⟩ <|
    .op ⟨(some 17), .loadN 6 (.t 2), []⟩ <|
    .op ⟨(some 18), .mov (.t 6), []⟩ <|
    .op ⟨(some 19), .build [(.str ⟨⟨[]⟩⟩), (.int .i64 0), (.int .i64 0)] [(0, 1, (.c (.str ⟨⟨[104, 101, 97, 100, 101, 114]⟩⟩))), (1, 1, (.t 18))], []⟩ <|
    .op ⟨(some 20), .call 108 [(.t 17), (.t 19)], []⟩ <|
    .op ⟨(some 21), .indexA 1 (.t 16) (.t 20), []⟩ <|
    .op ⟨(some 22), .load1 (.t 21), []⟩ <|
    .op ⟨(some 23), .call 109 [(.t 22)], []⟩ <|
    .op ⟨(some 15), .mov (.t 23), []⟩ <|
    .op ⟨(some 24), .extract (.t 15) 0, []⟩ <|
    .op ⟨(some 25), .extract (.t 15) 1, []⟩ <|
    .op ⟨(some 7), .alloc [(.int .i64 0), (.int .i64 0), (.bool false), (.int .i64 0), (.int .i64 0), (.int .i64 0)], []⟩ <|
    .op ⟨none, .store 6 (.t 7) (.t 24), []⟩ <|
    .op ⟨(some 8), .mov (.t 25), []⟩ <|
    .nil)) (
  .seq (.ops (
    .op ⟨(some 26), .mov (.t 8), []⟩ <|
    .op ⟨(some 27), .mov (.t 26), []⟩ <|
    .grd 27 true [⟨(some 28), .fieldA 2 (.t 7), []⟩,
        ⟨(some 29), .load1 (.t 28), []⟩] <|
    .op ⟨(some 30), .pick (.t 27) (.t 29) (.c (.bool false)), []⟩ <|
    .nil)) (
  .cond (.t 30) (.ops (
      .op ⟨(some 31), .mov (.t 5), []⟩ <|
      .op ⟨(some 32), .arith .add .i64 (.t 31) (.c (.int .i64 1)), []⟩ <|
      .op ⟨(some 5), .mov (.t 32), []⟩ <|
      .nil)) (.skip))))) (
  .ops (
    .op ⟨(some 13), .mov (.t 6), []⟩ <|
    .op ⟨(some 14), .arith .add .i64 (.t 13) (.c (.int .i64 1)), []⟩ <|
    .op ⟨(some 6), .mov (.t 14), []⟩ <|
    .nil)))

def withylaw09_grays_c0 : ACode :=
  .seq (.ops (
    .op ⟨(some 33), .mov (.t 5), []⟩ <|
    .op ⟨(some 4), .mov (.t 33), []⟩ <|
    .nil)) (
  .ret)

/-- 88: withy/withylaw09.grays -/
def withylaw09_grays : AFunc where
  closed := false
  nparams := 2
  ntmps := 34
  results := [.tmp 4]
  body := .seq (.ops (
      .op ⟨(some 2), .box (.t 0), []⟩ <|
      .op ⟨(some 4), .mov (.c (.int .i64 0)), []⟩ <|
      .nil)) (
    .seq (.ops (
      .op ⟨(some 5), .mov (.c (.int .i64 0)), []⟩ <|
      .nil)) (
    .seq (.seq (.ops (
      .op ⟨(some 6), .mov (.c (.int .i64 0)), []⟩ <|
      .nil)) (
    .block 0 (.loop [1, 2, 5, 6] [5] (withylaw09_grays_c1)))) (
    withylaw09_grays_c0)))

def withylaw09_grays_hs : List (List Nat × List Nat) := [([1, 2, 5, 6], [5])]

end Wm.F
end

section
/- PRINTED by my tool (wip/wm/tool/Gen.lean): a function as one of my machine. -/
namespace Wm.F
open Wm
set_option maxRecDepth 100000

/-- 110: withy/withyref03.Black -/
def withyref03_Black : AFunc where
  closed := true
  nparams := 1
  ntmps := 7
  results := [.tmp 2]
  body := .seq (.ops (
      .op ⟨(some 2), .mov (.c (.int .i64 0)), []⟩ <|
      .nil)) (
    .seq (.seq (.ops (
      .op ⟨(some 3), .mov (.t 0), []⟩ <|
      .op ⟨(some 4), .arith .quo .u64 (.t 3) (.c (.int .u64 4)), []⟩ <|
      .op ⟨(some 5), .arith .rem .u64 (.t 4) (.c (.int .u64 2)), []⟩ <|
      .op ⟨(some 6), .cmp .eql .u64 (.t 5) (.c (.int .u64 0)), []⟩ <|
      .nil)) (
    .cond (.t 6) (.seq (.ops (
        .op ⟨(some 2), .mov (.c (.int .i64 1)), []⟩ <|
        .nil)) (
      .ret)) (.skip))) (
    .seq (.ops (
      .op ⟨(some 2), .mov (.c (.int .i64 0)), []⟩ <|
      .nil)) (
    .ret)))

def withyref03_Black_hs : List (List Nat × List Nat) := []

end Wm.F
end

section
/- PRINTED by my tool (wip/wm/tool/Gen.lean): a function as one of my machine. -/
namespace Wm.F
open Wm
set_option maxRecDepth 100000

/-- 112: withy/withyref04.Lives -/
def withyref04_Lives : AFunc where
  closed := true
  nparams := 1
  ntmps := 21
  results := [.tmp 2]
  body := .seq (.ops (
      .op ⟨(some 2), .mov (.c (.bool false)), []⟩ <|
      .nil)) (
    .seq (.ops (
      .op ⟨(some 6), .mov (.t 0), []⟩ <|
      .op ⟨(some 7), .call 109 [(.t 6)], []⟩ <|
      .op ⟨(some 5), .mov (.t 7), []⟩ <|
      .op ⟨(some 8), .extract (.t 5) 0, []⟩ <|
      .op ⟨(some 9), .extract (.t 5) 1, []⟩ <|
      .op ⟨(some 3), .alloc [(.int .i64 0), (.int .i64 0), (.bool false), (.int .i64 0), (.int .i64 0), (.int .i64 0)], []⟩ <|
      .op ⟨none, .store 6 (.t 3) (.t 8), []⟩ <|
      .op ⟨(some 4), .mov (.t 9), []⟩ <|
      .nil)) (
    .seq (.ops (
      .op ⟨(some 10), .mov (.t 4), []⟩ <|
      .op ⟨(some 11), .mov (.t 10), []⟩ <|
      .grd 11 true [⟨(some 12), .fieldA 0 (.t 3), []⟩,
          ⟨(some 13), .load1 (.t 12), []⟩,
          ⟨(some 14), .cmp .eql .i64 (.t 13) (.c (.int .i64 1)), []⟩,
          ⟨(some 15), .mov (.t 14), []⟩] <|
      .grd 15 false [⟨(some 16), .fieldA 0 (.t 3), []⟩,
          ⟨(some 17), .load1 (.t 16), []⟩,
          ⟨(some 18), .cmp .eql .i64 (.t 17) (.c (.int .i64 2)), []⟩] <|
      .grd 11 true [⟨(some 19), .pick (.t 15) (.c (.bool true)) (.t 18), []⟩] <|
      .op ⟨(some 20), .pick (.t 11) (.t 19) (.c (.bool false)), []⟩ <|
      .op ⟨(some 2), .mov (.t 20), []⟩ <|
      .nil)) (
    .ret)))

def withyref04_Lives_hs : List (List Nat × List Nat) := []

end Wm.F
end

section
/- PRINTED by my tool (wip/wm/tool/Gen.lean): a function as one of my machine. -/
namespace Wm.F
open Wm
set_option maxRecDepth 100000

/-- 113: withy/withyref04.Marked -/
def withyref04_Marked : AFunc where
  closed := true
  nparams := 2
  ntmps := 21
  results := [.tmp 4]
  body := .seq (.ops (
      .op ⟨(some 4), .mov (.c (.bool false)), []⟩ <|
      .nil)) (
    .seq (.ops (
      .op ⟨(some 8), .mov (.t 0), []⟩ <|
      .op ⟨(some 9), .call 109 [(.t 8)], []⟩ <|
      .op ⟨(some 7), .mov (.t 9), []⟩ <|
      .op ⟨(some 10), .extract (.t 7) 0, []⟩ <|
      .op ⟨(some 11), .extract (.t 7) 1, []⟩ <|
      .op ⟨(some 5), .alloc [(.int .i64 0), (.int .i64 0), (.bool false), (.int .i64 0), (.int .i64 0), (.int .i64 0)], []⟩ <|
      .op ⟨none, .store 6 (.t 5) (.t 10), []⟩ <|
      .op ⟨(some 6), .mov (.t 11), []⟩ <|
      .nil)) (
    .seq (.ops (
      .op ⟨(some 12), .mov (.t 0), []⟩ <|
      .op ⟨(some 13), .call 112 [(.t 12)], []⟩ <|
      .op ⟨(some 14), .mov (.t 13), []⟩ <|
      .grd 14 true [⟨(some 15), .fieldA 1 (.t 5), []⟩,
          ⟨(some 16), .load1 (.t 15), []⟩,
          ⟨(some 17), .mov (.t 1), []⟩,
          ⟨(some 18), .call 110 [(.t 17)], [{ g := (some (14, true)), op := .load1 (.t 15), d := 16 }]⟩,
          ⟨(some 19), .cmp .eql .i64 (.t 16) (.t 18), []⟩] <|
      .op ⟨(some 20), .pick (.t 14) (.t 19) (.c (.bool false)), []⟩ <|
      .op ⟨(some 4), .mov (.t 20), []⟩ <|
      .nil)) (
    .ret)))

def withyref04_Marked_hs : List (List Nat × List Nat) := []

end Wm.F
end

section
/- PRINTED by my tool (wip/wm/tool/Gen.lean): a function as one of my machine. -/
namespace Wm.F
open Wm
set_option maxRecDepth 100000

/-- 202: withy/withyref04.Right -/
def withyref04_Right : AFunc where
  closed := true
  nparams := 1
  ntmps := 51
  results := [.tmp 2]
  body := .seq (.ops (
      .op ⟨(some 1), .box (.t 0), []⟩ <|
      .op ⟨(some 2), .mov (.c (.bool false)), []⟩ <|
      .nil)) (
    .seq (.ops (
      .op ⟨(some 3), .fieldA 0 (.t 1), []⟩ <|
      .op ⟨(some 4), .load1 (.t 3), []⟩ <|
      .op ⟨(some 5), .cmp .geq .i64 (.t 4) (.c (.int .i64 0)), []⟩ <|
      .op ⟨(some 6), .mov (.t 5), []⟩ <|
      .grd 6 true [⟨(some 7), .fieldA 0 (.t 1), []⟩,
          ⟨(some 8), .load1 (.t 7), []⟩,
          ⟨(some 9), .cmp .leq .i64 (.t 8) (.c (.int .i64 4)), []⟩] <|
      .op ⟨(some 10), .pick (.t 6) (.t 9) (.c (.bool false)), []⟩ <|
      .op ⟨(some 11), .mov (.t 10), []⟩ <|
      .grd 11 true [⟨(some 12), .fieldA 1 (.t 1), []⟩,
          ⟨(some 13), .load1 (.t 12), []⟩,
          ⟨(some 14), .cmp .eql .i64 (.t 13) (.c (.int .i64 0)), []⟩,
          ⟨(some 15), .mov (.t 14), []⟩] <|
      .grd 15 false [⟨(some 16), .fieldA 1 (.t 1), []⟩,
          ⟨(some 17), .load1 (.t 16), []⟩,
          ⟨(some 18), .cmp .eql .i64 (.t 17) (.c (.int .i64 1)), []⟩] <|
      .grd 11 true [⟨(some 19), .pick (.t 15) (.c (.bool true)) (.t 18), []⟩] <|
      .op ⟨(some 20), .pick (.t 11) (.t 19) (.c (.bool false)), []⟩ <|
      .op ⟨(some 21), .mov (.t 20), []⟩ <|
      .grd 21 true [⟨(some 22), .fieldA 3 (.t 1), []⟩,
          ⟨(some 23), .load1 (.t 22), []⟩,
          ⟨(some 24), .cmp .geq .i64 (.t 23) (.c (.int .i64 0)), []⟩] <|
      .op ⟨(some 25), .pick (.t 21) (.t 24) (.c (.bool false)), []⟩ <|
      .op ⟨(some 26), .mov (.t 25), []⟩ <|
      .grd 26 true [⟨(some 27), .fieldA 3 (.t 1), []⟩,
          ⟨(some 28), .load1 (.t 27), []⟩,
          ⟨(some 29), .cmp .leq .i64 (.t 28) (.c (.int .i64 15)), []⟩] <|
      .op ⟨(some 30), .pick (.t 26) (.t 29) (.c (.bool false)), []⟩ <|
      .op ⟨(some 31), .mov (.t 30), []⟩ <|
      .grd 31 true [⟨(some 32), .fieldA 4 (.t 1), []⟩,
          ⟨(some 33), .load1 (.t 32), []⟩,
          ⟨(some 34), .cmp .geq .i64 (.t 33) (.c (.int .i64 0)), []⟩] <|
      .op ⟨(some 35), .pick (.t 31) (.t 34) (.c (.bool false)), []⟩ <|
      .op ⟨(some 36), .mov (.t 35), []⟩ <|
      .grd 36 true [⟨(some 37), .fieldA 4 (.t 1), []⟩,
          ⟨(some 38), .load1 (.t 37), []⟩,
          ⟨(some 39), .cmp .leq .i64 (.t 38) (.c (.int .i64 4294967295)), []⟩] <|
      .op ⟨(some 40), .pick (.t 36) (.t 39) (.c (.bool false)), []⟩ <|
      .op ⟨(some 41), .mov (.t 40), []⟩ <|
      .grd 41 true [⟨(some 42), .fieldA 5 (.t 1), []⟩,
          ⟨(some 43), .load1 (.t 42), []⟩,
          ⟨(some 44), .cmp .geq .i64 (.t 43) (.c (.int .i64 0)), []⟩] <|
      .op ⟨(some 45), .pick (.t 41) (.t 44) (.c (.bool false)), []⟩ <|
      .op ⟨(some 46), .mov (.t 45), []⟩ <|
      .grd 46 true [⟨(some 47), .fieldA 5 (.t 1), []⟩,
          ⟨(some 48), .load1 (.t 47), []⟩,
          ⟨(some 49), .cmp .leq .i64 (.t 48) (.c (.int .i64 65535)), []⟩] <|
      .op ⟨(some 50), .pick (.t 46) (.t 49) (.c (.bool false)), []⟩ <|
      .op ⟨(some 2), .mov (.t 50), []⟩ <|
      .nil)) (
    .ret))

def withyref04_Right_hs : List (List Nat × List Nat) := []

end Wm.F
end

section
/- PRINTED by my tool (wip/wm/tool/Gen.lean): a function as one of my machine. -/
namespace Wm.F
open Wm
set_option maxRecDepth 100000

/-- 109: withy/withyref04.Unpack -/
def withyref04_Unpack : AFunc where
  closed := true
  nparams := 1
  ntmps := 39
  results := [.cell true 6 2, .tmp 3]
  body := .seq (.ops (
      .op ⟨(some 2), .alloc [(.int .i64 0), (.int .i64 0), (.bool false), (.int .i64 0), (.int .i64 0), (.int .i64 0)], []⟩ <|
      .op ⟨(some 3), .mov (.c (.bool false)), []⟩ <|
      .nil)) (
    .seq (.ops (
      .op ⟨(some 5), .mov (.t 0), []⟩ <|
      .op ⟨(some 6), .arith .rem .u64 (.t 5) (.c (.int .u64 8)), []⟩ <|
      .op ⟨(some 7), .conv .i64 (.t 6), []⟩ <|
      .op ⟨(some 8), .mov (.t 0), []⟩ <|
      .op ⟨(some 9), .arith .quo .u64 (.t 8) (.c (.int .u64 8)), []⟩ <|
      .op ⟨(some 10), .arith .rem .u64 (.t 9) (.c (.int .u64 2)), []⟩ <|
      .op ⟨(some 11), .conv .i64 (.t 10), []⟩ <|
      .op ⟨(some 12), .mov (.t 0), []⟩ <|
      .op ⟨(some 13), .arith .quo .u64 (.t 12) (.c (.int .u64 16)), []⟩ <|
      .op ⟨(some 14), .arith .rem .u64 (.t 13) (.c (.int .u64 2)), []⟩ <|
      .op ⟨(some 15), .cmp .eql .u64 (.t 14) (.c (.int .u64 1)), []⟩ <|
      .op ⟨(some 16), .mov (.t 0), []⟩ <|
      .op ⟨(some 17), .arith .quo .u64 (.t 16) (.c (.int .u64 32)), []⟩ <|
      .op ⟨(some 18), .arith .rem .u64 (.t 17) (.c (.int .u64 16)), []⟩ <|
      .op ⟨(some 19), .conv .i64 (.t 18), []⟩ <|
      .op ⟨(some 20), .mov (.t 0), []⟩ <|
      .op ⟨(some 21), .arith .quo .u64 (.t 20) (.c (.int .u64 65536)), []⟩ <|
      .op ⟨(some 22), .arith .rem .u64 (.t 21) (.c (.int .u64 4294967296)), []⟩ <|
      .op ⟨(some 23), .conv .i64 (.t 22), []⟩ <|
      .op ⟨(some 24), .mov (.t 0), []⟩ <|
      .op ⟨(some 25), .arith .quo .u64 (.t 24) (.c (.int .u64 281474976710656)), []⟩ <|
      .op ⟨(some 26), .conv .i64 (.t 25), []⟩ <|
      .op ⟨(some 27), .build [(.int .i64 0), (.int .i64 0), (.bool false), (.int .i64 0), (.int .i64 0), (.int .i64 0)] [(0, 1, (.t 7)), (1, 1, (.t 11)), (2, 1, (.t 15)), (3, 1, (.t 19)), (4, 1, (.t 23)), (5, 1, (.t 26))], []⟩ <|
      .op ⟨(some 4), .alloc [(.int .i64 0), (.int .i64 0), (.bool false), (.int .i64 0), (.int .i64 0), (.int .i64 0)], []⟩ <|
      .op ⟨none, .store 6 (.t 4) (.t 27), []⟩ <|
      .nil)) (
    .seq (.seq (.ops (
      .op ⟨(some 28), .fieldA 0 (.t 4), []⟩ <|
      .op ⟨(some 29), .load1 (.t 28), []⟩ <|
      .op ⟨(some 30), .cmp .gtr .i64 (.t 29) (.c (.int .i64 4)), []⟩ <|
      .op ⟨(some 31), .mov (.t 30), []⟩ <|
      .grd 31 false [⟨(some 32), .mov (.t 0), []⟩,
          ⟨(some 33), .arith .quo .u64 (.t 32) (.c (.int .u64 512)), []⟩,
          ⟨(some 34), .arith .rem .u64 (.t 33) (.c (.int .u64 128)), []⟩,
          ⟨(some 35), .cmp .neq .u64 (.t 34) (.c (.int .u64 0)), []⟩] <|
      .op ⟨(some 36), .pick (.t 31) (.c (.bool true)) (.t 35), []⟩ <|
      .nil)) (
    .cond (.t 36) (.seq (.ops (
        .op ⟨(some 37), .build [(.int .i64 0), (.int .i64 0), (.bool false), (.int .i64 0), (.int .i64 0), (.int .i64 0)] [], []⟩ <|
        .op ⟨none, .store 6 (.t 2) (.t 37), []⟩ <|
        .op ⟨(some 3), .mov (.c (.bool false)), []⟩ <|
        .nil)) (
      .ret)) (.skip))) (
    .seq (.ops (
      .op ⟨(some 38), .loadN 6 (.t 4), []⟩ <|
      .op ⟨none, .store 6 (.t 2) (.t 38), []⟩ <|
      .op ⟨(some 3), .mov (.c (.bool true)), []⟩ <|
      .nil)) (
    .ret))))

def withyref04_Unpack_hs : List (List Nat × List Nat) := []

end Wm.F
end

section
/- PRINTED by my tool (wip/wm/tool/Gen.lean): a function as one of my machine. -/
namespace Wm.F
open Wm
set_option maxRecDepth 100000

/-- 92: withy/withyref06.Fit -/
def withyref06_Fit : AFunc where
  closed := true
  nparams := 1
  ntmps := 22
  results := [.cell true 6 2]
  body := .seq (.ops (
      .op ⟨(some 1), .box (.t 0), []⟩ <|
      .op ⟨(some 2), .alloc [(.int .i64 0), (.int .i64 0), (.int .i64 0), (.int .i64 0), (.int .i64 0), (.int .i64 0)], []⟩ <|
      .nil)) (
    .seq (.ops (
      .op ⟨(some 3), .fieldA 0 (.t 1), []⟩ <|
      .op ⟨(some 4), .load1 (.t 3), []⟩ <|
      .op ⟨(some 6), .fieldA 1 (.t 1), []⟩ <|
      .op ⟨(some 7), .load1 (.t 6), []⟩ <|
      .op ⟨(some 9), .fieldA 2 (.t 1), []⟩ <|
      .op ⟨(some 10), .load1 (.t 9), []⟩ <|
      .op ⟨(some 12), .fieldA 3 (.t 1), []⟩ <|
      .op ⟨(some 13), .load1 (.t 12), []⟩ <|
      .op ⟨(some 15), .fieldA 4 (.t 1), []⟩ <|
      .op ⟨(some 16), .load1 (.t 15), []⟩ <|
      .op ⟨(some 18), .fieldA 5 (.t 1), []⟩ <|
      .op ⟨(some 19), .load1 (.t 18), []⟩ <|
      .op ⟨(some 5), .call 270 [(.t 4), (.c (.int .i64 1)), (.c (.int .i64 12))], [{ g := none, op := .load1 (.t 18), d := 19 }, { g := none, op := .load1 (.t 15), d := 16 }, { g := none, op := .load1 (.t 12), d := 13 }, { g := none, op := .load1 (.t 9), d := 10 }, { g := none, op := .load1 (.t 6), d := 7 }]⟩ <|
      .op ⟨(some 8), .call 270 [(.t 7), (.c (.int .i64 0)), (.c (.int .i64 4))], [{ g := none, op := .load1 (.t 18), d := 19 }, { g := none, op := .load1 (.t 15), d := 16 }, { g := none, op := .load1 (.t 12), d := 13 }, { g := none, op := .load1 (.t 9), d := 10 }]⟩ <|
      .op ⟨(some 11), .call 270 [(.t 10), (.c (.int .i64 1)), (.c (.int .i64 4))], [{ g := none, op := .load1 (.t 18), d := 19 }, { g := none, op := .load1 (.t 15), d := 16 }, { g := none, op := .load1 (.t 12), d := 13 }]⟩ <|
      .op ⟨(some 14), .call 270 [(.t 13), (.c (.int .i64 1)), (.c (.int .i64 4))], [{ g := none, op := .load1 (.t 18), d := 19 }, { g := none, op := .load1 (.t 15), d := 16 }]⟩ <|
      .op ⟨(some 17), .call 270 [(.t 16), (.c (.int .i64 1)), (.c (.int .i64 40))], [{ g := none, op := .load1 (.t 18), d := 19 }]⟩ <|
      .op ⟨(some 20), .call 270 [(.t 19), (.c (.int .i64 0)), (.c (.int .i64 6))], []⟩ <|
      .op ⟨(some 21), .build [(.int .i64 0), (.int .i64 0), (.int .i64 0), (.int .i64 0), (.int .i64 0), (.int .i64 0)] [(0, 1, (.t 5)), (1, 1, (.t 8)), (2, 1, (.t 11)), (3, 1, (.t 14)), (4, 1, (.t 17)), (5, 1, (.t 20))], []⟩ <|
      .op ⟨none, .store 6 (.t 2) (.t 21), []⟩ <|
      .nil)) (
    .ret))

def withyref06_Fit_hs : List (List Nat × List Nat) := []

end Wm.F
end

section
/- PRINTED by my tool (wip/wm/tool/Gen.lean): a function as one of my machine. -/
namespace Wm.F
open Wm
set_option maxRecDepth 100000

def withyref06_Same_c1 : ACode :=
  .seq (.seq (.ops (
    .op ⟨(some 11), .mov (.t 5), []⟩ <|
    .op ⟨(some 12), .mov (.t 0), []⟩ <|
    .op ⟨(some 13), .lenSl (.t 12), []⟩ <|
    .op ⟨(some 14), .cmp .lss .i64 (.t 11) (.t 13), []⟩ <|
    .nil)) (
  .cond (.t 14) (.skip) (.exit 0))) (
  .seq (.block 1 (.seq (.ops (
    .op ⟨(some 17), .mov (.t 0), []⟩ <|
    .op ⟨(some 18), .mov (.t 5), []⟩ <|
    .op ⟨(some 19), .indexA 1 (.t 17) (.t 18), []⟩ <|
    .op ⟨(some 20), .load1 (.t 19), []⟩ <|
    .op ⟨(some 21), .mov (.t 1), []⟩ <|
    .op ⟨(some 22), .mov (.t 5), []⟩ <|
    .op ⟨(some 23), .indexA 1 (.t 21) (.t 22), []⟩ <|
    .op ⟨(some 24), .load1 (.t 23), []⟩ <|
    .op ⟨(some 25), .cmp .neq .u64 (.t 20) (.t 24), []⟩ <|
    .nil)) (
  .cond (.t 25) (.seq (.ops (
      .op ⟨(some 4), .mov (.c (.bool false)), []⟩ <|
      .nil)) (
    .ret)) (.skip)))) (
  .ops (
    .op ⟨(some 15), .mov (.t 5), []⟩ <|
    .op ⟨(some 16), .arith .add .i64 (.t 15) (.c (.int .i64 1)), []⟩ <|
    .op ⟨(some 5), .mov (.t 16), []⟩ <|
    .nil)))

def withyref06_Same_c0 : ACode :=
  .seq (.ops (
    .op ⟨(some 4), .mov (.c (.bool true)), []⟩ <|
    .nil)) (
  .ret)

/-- 95: withy/withyref06.Same -/
def withyref06_Same : AFunc where
  closed := false
  nparams := 2
  ntmps := 26
  results := [.tmp 4]
  body := .seq (.ops (
      .op ⟨(some 4), .mov (.c (.bool false)), []⟩ <|
      .nil)) (
    .seq (.seq (.ops (
      .op ⟨(some 6), .mov (.t 0), []⟩ <|
      .op ⟨(some 7), .lenSl (.t 6), []⟩ <|
      .op ⟨(some 8), .mov (.t 1), []⟩ <|
      .op ⟨(some 9), .lenSl (.t 8), []⟩ <|
      .op ⟨(some 10), .cmp .neq .i64 (.t 7) (.t 9), []⟩ <|
      .nil)) (
    .cond (.t 10) (.seq (.ops (
        .op ⟨(some 4), .mov (.c (.bool false)), []⟩ <|
        .nil)) (
      .ret)) (.skip))) (
    .seq (.seq (.ops (
      .op ⟨(some 5), .mov (.c (.int .i64 0)), []⟩ <|
      .nil)) (
    .block 0 (.loop [0, 1, 5] [4] (withyref06_Same_c1)))) (
    withyref06_Same_c0)))

def withyref06_Same_hs : List (List Nat × List Nat) := [([0, 1, 5], [4])]

end Wm.F
end

section
/- PRINTED by my tool (wip/wm/tool/Gen.lean): a function as one of my machine. -/
namespace Wm.F
open Wm
set_option maxRecDepth 100000

/-- 270: withy/withyref06.fit -/
def withyref06_fit : AFunc where
  closed := true
  nparams := 3
  ntmps := 18
  results := [.tmp 6]
  body := .seq (.ops (
      .op ⟨(some 6), .mov (.c (.int .i64 0)), []⟩ <|
      .nil)) (
    .seq (.ops (
      .op ⟨(some 7), .mov (.t 1), []⟩ <|
      .op ⟨(some 8), .mov (.t 0), []⟩ <|
      .op ⟨(some 9), .conv .u64 (.t 8), []⟩ <|
      .op ⟨(some 10), .mov (.t 2), []⟩ <|
      .op ⟨(some 11), .mov (.t 1), []⟩ <|
      .op ⟨(some 12), .arith .sub .i64 (.t 10) (.t 11), []⟩ <|
      .op ⟨(some 13), .arith .add .i64 (.t 12) (.c (.int .i64 1)), []⟩ <|
      .op ⟨(some 14), .conv .u64 (.t 13), []⟩ <|
      .op ⟨(some 15), .arith .rem .u64 (.t 9) (.t 14), []⟩ <|
      .op ⟨(some 16), .conv .i64 (.t 15), []⟩ <|
      .op ⟨(some 17), .arith .add .i64 (.t 7) (.t 16), []⟩ <|
      .op ⟨(some 6), .mov (.t 17), []⟩ <|
      .nil)) (
    .ret))

def withyref06_fit_hs : List (List Nat × List Nat) := []

end Wm.F
end

