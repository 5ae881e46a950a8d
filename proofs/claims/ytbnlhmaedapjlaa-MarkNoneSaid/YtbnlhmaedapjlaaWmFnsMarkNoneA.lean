/- PRINTED by my tool: functions as those of my machine. -/
import Derived.Test.YtbnlhmaedapjlaaWmCore
set_option linter.all false
section
/- PRINTED by my tool (wip/wm/tool/Gen.lean): a function as one of my machine. -/
namespace Wm.F
open Wm
set_option maxRecDepth 100000

/-- 26: withy/withylaw13.MarkNone -/
def withylaw13_MarkNone : AFunc where
  closed := true
  nparams := 2
  ntmps := 20
  results := [.tmp 4]
  body := .seq (.ops (
      .op ⟨(some 2), .box (.t 0), []⟩ <|
      .op ⟨(some 4), .mov (.c (.bool false)), []⟩ <|
      .nil)) (
    .seq (.ops (
      .op ⟨(some 5), .mov (.c .nilp), []⟩ <|
      .nil)) (
    .seq (.ops (
      .op ⟨(some 6), .loadN 6 (.t 2), []⟩ <|
      .op ⟨(some 7), .mov (.t 1), []⟩ <|
      .op ⟨(some 10), .loadN 6 (.t 2), []⟩ <|
      .op ⟨(some 8), .call 158 [(.t 6), (.t 7)], [{ g := none, op := .loadN 6 (.t 2), d := 10 }]⟩ <|
      .op ⟨(some 9), .eq true .ptr (.t 8) (.c .nilp), []⟩ <|
      .op ⟨(some 11), .call 85 [(.t 10)], []⟩ <|
      .op ⟨(some 12), .eq false .bool (.t 9) (.t 11), []⟩ <|
      .op ⟨(some 13), .mov (.t 12), []⟩ <|
      .grd 13 true [⟨(some 14), .mov (.t 5), []⟩,
          ⟨(some 15), .call 159 [(.t 14), (.c .nilp)], []⟩] <|
      .op ⟨(some 16), .pick (.t 13) (.t 15) (.c (.bool false)), []⟩ <|
      .op ⟨(some 17), .mov (.t 16), []⟩ <|
      .grd 17 true [⟨(some 18), .call 154 [], []⟩] <|
      .op ⟨(some 19), .pick (.t 17) (.t 18) (.c (.bool false)), []⟩ <|
      .op ⟨(some 4), .mov (.t 19), []⟩ <|
      .nil)) (
    .ret)))

def withylaw13_MarkNone_hs : List (List Nat × List Nat) := []

end Wm.F
end

section
/- PRINTED by my tool (wip/wm/tool/Gen.lean): a function as one of my machine. -/
namespace Wm.F
open Wm
set_option maxRecDepth 100000

/-- 85: withy/withyref06.Right -/
def withyref06_Right : AFunc where
  closed := true
  nparams := 1
  ntmps := 61
  results := [.tmp 2]
  body := .seq (.ops (
      .op ⟨(some 1), .box (.t 0), []⟩ <|
      .op ⟨(some 2), .mov (.c (.bool false)), []⟩ <|
      .nil)) (
    .seq (.ops (
      .op ⟨(some 3), .fieldA 0 (.t 1), []⟩ <|
      .op ⟨(some 4), .load1 (.t 3), []⟩ <|
      .op ⟨(some 5), .cmp .geq .i64 (.t 4) (.c (.int .i64 1)), []⟩ <|
      .op ⟨(some 6), .mov (.t 5), []⟩ <|
      .grd 6 true [⟨(some 7), .fieldA 0 (.t 1), []⟩,
          ⟨(some 8), .load1 (.t 7), []⟩,
          ⟨(some 9), .cmp .leq .i64 (.t 8) (.c (.int .i64 64)), []⟩] <|
      .op ⟨(some 10), .pick (.t 6) (.t 9) (.c (.bool false)), []⟩ <|
      .op ⟨(some 11), .mov (.t 10), []⟩ <|
      .grd 11 true [⟨(some 12), .fieldA 1 (.t 1), []⟩,
          ⟨(some 13), .load1 (.t 12), []⟩,
          ⟨(some 14), .cmp .geq .i64 (.t 13) (.c (.int .i64 0)), []⟩] <|
      .op ⟨(some 15), .pick (.t 11) (.t 14) (.c (.bool false)), []⟩ <|
      .op ⟨(some 16), .mov (.t 15), []⟩ <|
      .grd 16 true [⟨(some 17), .fieldA 1 (.t 1), []⟩,
          ⟨(some 18), .load1 (.t 17), []⟩,
          ⟨(some 19), .cmp .leq .i64 (.t 18) (.c (.int .i64 8)), []⟩] <|
      .op ⟨(some 20), .pick (.t 16) (.t 19) (.c (.bool false)), []⟩ <|
      .op ⟨(some 21), .mov (.t 20), []⟩ <|
      .grd 21 true [⟨(some 22), .fieldA 2 (.t 1), []⟩,
          ⟨(some 23), .load1 (.t 22), []⟩,
          ⟨(some 24), .cmp .geq .i64 (.t 23) (.c (.int .i64 1)), []⟩] <|
      .op ⟨(some 25), .pick (.t 21) (.t 24) (.c (.bool false)), []⟩ <|
      .op ⟨(some 26), .mov (.t 25), []⟩ <|
      .grd 26 true [⟨(some 27), .fieldA 2 (.t 1), []⟩,
          ⟨(some 28), .load1 (.t 27), []⟩,
          ⟨(some 29), .cmp .leq .i64 (.t 28) (.c (.int .i64 8)), []⟩] <|
      .op ⟨(some 30), .pick (.t 26) (.t 29) (.c (.bool false)), []⟩ <|
      .op ⟨(some 31), .mov (.t 30), []⟩ <|
      .grd 31 true [⟨(some 32), .fieldA 3 (.t 1), []⟩,
          ⟨(some 33), .load1 (.t 32), []⟩,
          ⟨(some 34), .cmp .geq .i64 (.t 33) (.c (.int .i64 1)), []⟩] <|
      .op ⟨(some 35), .pick (.t 31) (.t 34) (.c (.bool false)), []⟩ <|
      .op ⟨(some 36), .mov (.t 35), []⟩ <|
      .grd 36 true [⟨(some 37), .fieldA 3 (.t 1), []⟩,
          ⟨(some 38), .load1 (.t 37), []⟩,
          ⟨(some 39), .cmp .leq .i64 (.t 38) (.c (.int .i64 16)), []⟩] <|
      .op ⟨(some 40), .pick (.t 36) (.t 39) (.c (.bool false)), []⟩ <|
      .op ⟨(some 41), .mov (.t 40), []⟩ <|
      .grd 41 true [⟨(some 42), .fieldA 4 (.t 1), []⟩,
          ⟨(some 43), .load1 (.t 42), []⟩,
          ⟨(some 44), .cmp .geq .i64 (.t 43) (.c (.int .i64 1)), []⟩] <|
      .op ⟨(some 45), .pick (.t 41) (.t 44) (.c (.bool false)), []⟩ <|
      .op ⟨(some 46), .mov (.t 45), []⟩ <|
      .grd 46 true [⟨(some 47), .fieldA 4 (.t 1), []⟩,
          ⟨(some 48), .load1 (.t 47), []⟩,
          ⟨(some 49), .cmp .leq .i64 (.t 48) (.c (.int .i64 1048576)), []⟩] <|
      .op ⟨(some 50), .pick (.t 46) (.t 49) (.c (.bool false)), []⟩ <|
      .op ⟨(some 51), .mov (.t 50), []⟩ <|
      .grd 51 true [⟨(some 52), .fieldA 5 (.t 1), []⟩,
          ⟨(some 53), .load1 (.t 52), []⟩,
          ⟨(some 54), .cmp .geq .i64 (.t 53) (.c (.int .i64 0)), []⟩] <|
      .op ⟨(some 55), .pick (.t 51) (.t 54) (.c (.bool false)), []⟩ <|
      .op ⟨(some 56), .mov (.t 55), []⟩ <|
      .grd 56 true [⟨(some 57), .fieldA 5 (.t 1), []⟩,
          ⟨(some 58), .load1 (.t 57), []⟩,
          ⟨(some 59), .cmp .leq .i64 (.t 58) (.c (.int .i64 64)), []⟩] <|
      .op ⟨(some 60), .pick (.t 56) (.t 59) (.c (.bool false)), []⟩ <|
      .op ⟨(some 2), .mov (.t 60), []⟩ <|
      .nil)) (
    .ret))

def withyref06_Right_hs : List (List Nat × List Nat) := []

end Wm.F
end

section
/- PRINTED by my tool (wip/wm/tool/Gen.lean): a function as one of my machine. -/
namespace Wm.F
open Wm
set_option maxRecDepth 100000

/-- 154: withy/withylaw13.awake -/
def withylaw13_awake : AFunc where
  closed := true
  nparams := 0
  ntmps := 61
  results := [.tmp 0]
  body := .seq (.ops (
      .op ⟨(some 0), .mov (.c (.bool false)), []⟩ <|
      .nil)) (
    .seq (.ops (
      .op ⟨(some 7), .call 313 [], []⟩ <|
      .op ⟨(some 6), .mov (.t 7), []⟩ <|
      .op ⟨(some 8), .extract (.t 6) 0, []⟩ <|
      .op ⟨(some 9), .extract (.t 6) 1, []⟩ <|
      .op ⟨(some 1), .alloc [(.int .i64 0), (.int .i64 0), (.int .i64 0), (.int .i64 0), (.int .i64 0), (.int .i64 0)], []⟩ <|
      .op ⟨none, .store 6 (.t 1) (.t 8), []⟩ <|
      .op ⟨(some 2), .mov (.t 9), []⟩ <|
      .nil)) (
    .seq (.ops (
      .op ⟨(some 10), .mov (.t 2), []⟩ <|
      .op ⟨(some 11), .call 198 [(.t 10)], []⟩ <|
      .op ⟨(some 3), .mov (.t 11), []⟩ <|
      .nil)) (
    .seq (.ops (
      .op ⟨(some 12), .loadN 6 (.t 1), []⟩ <|
      .op ⟨(some 13), .call 158 [(.t 12), (.c (.int .u64 2))], []⟩ <|
      .op ⟨(some 4), .mov (.t 13), []⟩ <|
      .nil)) (
    .seq (.seq (.ops (
      .op ⟨(some 14), .mov (.t 4), []⟩ <|
      .op ⟨(some 15), .eq false .ptr (.t 14) (.c .nilp), []⟩ <|
      .op ⟨(some 16), .mov (.t 15), []⟩ <|
      .grd 16 false [⟨(some 17), .mov (.t 3), []⟩,
          ⟨(some 18), .eq false .ptr (.t 17) (.c .nilp), []⟩] <|
      .op ⟨(some 19), .pick (.t 16) (.c (.bool true)) (.t 18), []⟩ <|
      .op ⟨(some 20), .mov (.t 19), []⟩ <|
      .grd 20 false [⟨(some 21), .mov (.t 4), []⟩,
          ⟨(some 22), .mov (.t 3), []⟩,
          ⟨(some 23), .call 314 [(.t 21), (.t 22), (.c (.int .i64 2000))], []⟩,
          ⟨(some 24), .not (.t 23), []⟩] <|
      .op ⟨(some 25), .pick (.t 20) (.c (.bool true)) (.t 24), []⟩ <|
      .nil)) (
    .cond (.t 25) (.seq (.ops (
        .op ⟨(some 0), .mov (.c (.bool false)), []⟩ <|
        .nil)) (
      .ret)) (.skip))) (
    .seq (.ops (
      .op ⟨(some 26), .loadN 6 (.t 1), []⟩ <|
      .op ⟨(some 27), .mov (.t 2), []⟩ <|
      .op ⟨(some 28), .call 155 [(.t 26), (.t 27), (.c (.int .u64 2))], []⟩ <|
      .op ⟨(some 5), .mov (.t 28), []⟩ <|
      .nil)) (
    .seq (.ops (
      .op ⟨(some 29), .mov (.t 5), []⟩ <|
      .op ⟨(some 30), .lenSl (.t 29), []⟩ <|
      .op ⟨(some 31), .cmp .eql .i64 (.t 30) (.c (.int .i64 4)), []⟩ <|
      .op ⟨(some 32), .mov (.t 31), []⟩ <|
      .grd 32 true [⟨(some 33), .mov (.t 5), []⟩,
          ⟨(some 34), .indexA 1 (.t 33) (.c (.int .i64 0)), []⟩,
          ⟨(some 35), .load1 (.t 34), []⟩] <|
      .op ⟨(some 36), .pick (.t 32) (.t 35) (.c (.bool false)), []⟩ <|
      .op ⟨(some 37), .mov (.t 36), []⟩ <|
      .grd 37 true [⟨(some 38), .mov (.t 5), []⟩,
          ⟨(some 39), .indexA 1 (.t 38) (.c (.int .i64 1)), []⟩,
          ⟨(some 40), .load1 (.t 39), []⟩] <|
      .op ⟨(some 41), .pick (.t 37) (.t 40) (.c (.bool false)), []⟩ <|
      .op ⟨(some 42), .mov (.t 41), []⟩ <|
      .grd 42 true [⟨(some 43), .mov (.t 5), []⟩,
          ⟨(some 44), .indexA 1 (.t 43) (.c (.int .i64 2)), []⟩,
          ⟨(some 45), .load1 (.t 44), []⟩] <|
      .op ⟨(some 46), .pick (.t 42) (.t 45) (.c (.bool false)), []⟩ <|
      .op ⟨(some 47), .mov (.t 46), []⟩ <|
      .grd 47 true [⟨(some 48), .mov (.t 5), []⟩,
          ⟨(some 49), .indexA 1 (.t 48) (.c (.int .i64 3)), []⟩,
          ⟨(some 50), .load1 (.t 49), []⟩,
          ⟨(some 51), .not (.t 50), []⟩] <|
      .op ⟨(some 52), .pick (.t 47) (.t 51) (.c (.bool false)), []⟩ <|
      .op ⟨(some 53), .mov (.t 52), []⟩ <|
      .grd 53 true [⟨(some 54), .mov (.t 5), []⟩,
          ⟨(some 55), .loadN 6 (.t 1), []⟩,
          ⟨(some 56), .mov (.t 3), []⟩,
          ⟨(some 57), .call 94 [(.t 56)], [{ g := (some (53, true)), op := .loadN 6 (.t 1), d := 55 }]⟩,
          ⟨(some 58), .call 315 [(.t 55), (.t 57), (.c (.int .u64 2))], []⟩,
          ⟨(some 59), .call 124 [(.t 54), (.t 58)], []⟩] <|
      .op ⟨(some 60), .pick (.t 53) (.t 59) (.c (.bool false)), []⟩ <|
      .op ⟨(some 0), .mov (.t 60), []⟩ <|
      .nil)) (
    .ret)))))))

def withylaw13_awake_hs : List (List Nat × List Nat) := []

end Wm.F
end

section
/- PRINTED by my tool (wip/wm/tool/Gen.lean): a function as one of my machine. -/
namespace Wm.F
open Wm
set_option maxRecDepth 100000

/-- 158: withy/mark.NewMark -/
def mark_NewMark : AFunc where
  closed := false
  nparams := 2
  ntmps := 12
  results := [.tmp 4]
  body := .seq (.ops (
      .op ⟨(some 2), .box (.t 0), []⟩ <|
      .op ⟨(some 4), .mov (.c .nilp), []⟩ <|
      .nil)) (
    .seq (.seq (.ops (
      .op ⟨(some 5), .loadN 6 (.t 2), []⟩ <|
      .op ⟨(some 6), .call 263 [(.t 5)], []⟩ <|
      .op ⟨(some 7), .not (.t 6), []⟩ <|
      .nil)) (
    .cond (.t 7) (.seq (.ops (
        .op ⟨(some 4), .mov (.c .nilp), []⟩ <|
        .nil)) (
      .ret)) (.skip))) (
    .seq (.ops (
      .op ⟨(some 8), .loadN 6 (.t 2), []⟩ <|
      .op ⟨(some 9), .mov (.t 1), []⟩ <|
      .op ⟨(some 10), .build [(.int .i64 0), (.int .i64 0), (.int .i64 0), (.int .i64 0), (.int .i64 0), (.int .i64 0), (.int .i64 0), (.int .i64 0), (.int .u64 0), (.int .i64 0), (.int .u64 0), (.int .i64 0), (.int .i64 0), (.int .i64 0), (.int .i64 0), (.int .i64 0), (.int .u64 0), (.int .u64 0), .nilsl, .nilp, (.int .i64 0)] [(2, 6, (.t 8)), (8, 1, (.t 9))], []⟩ <|
      .op ⟨(some 11), .box (.t 10), []⟩ <|
      .op ⟨(some 4), .mov (.t 11), []⟩ <|
      .nil)) (
    .ret)))

def mark_NewMark_hs : List (List Nat × List Nat) := []

end Wm.F
end

section
/- PRINTED by my tool (wip/wm/tool/Gen.lean): a function as one of my machine. -/
namespace Wm.F
open Wm
set_option maxRecDepth 100000

/-- 159: (*withy/mark.Mark).Step -/
def mark_Mark_Step : AFunc where
  closed := false
  nparams := 2
  ntmps := 89
  results := [.tmp 4]
  body := .seq (.ops (
      .op ⟨(some 4), .mov (.c (.bool false)), []⟩ <|
      .nil)) (
    .seq (.block 0 (.seq (.ops (
      .op ⟨(some 9), .mov (.t 0), []⟩ <|
      .op ⟨(some 10), .eq false .ptr (.t 9) (.c .nilp), []⟩ <|
      .op ⟨(some 8), .mov (.t 10), []⟩ <|
      .nil)) (
    .cond (.t 8) (.seq (.ops (
        .op ⟨(some 4), .mov (.c (.bool true)), []⟩ <|
        .nil)) (
      .ret)) (.seq (.ops (
        .op ⟨(some 12), .mov (.t 0), []⟩ <|
        .op ⟨(some 13), .nilc (.t 12), []⟩ <|
        .op ⟨(some 14), .fieldA 19 (.t 13), []⟩ <|
        .op ⟨(some 15), .load1 (.t 14), []⟩ <|
        .op ⟨(some 16), .eq true .ptr (.t 15) (.c .nilp), []⟩ <|
        .op ⟨(some 11), .mov (.t 16), []⟩ <|
        .nil)) (
      .cond (.t 11) (.seq (.seq (.ops (
          .op ⟨(some 17), .mov (.t 0), []⟩ <|
          .op ⟨(some 18), .nilc (.t 17), []⟩ <|
          .op ⟨(some 19), .fieldA 19 (.t 18), []⟩ <|
          .op ⟨(some 20), .load1 (.t 19), []⟩ <|
          .op ⟨(some 21), .mov (.t 1), []⟩ <|
          .op ⟨(some 22), .call 91 [(.t 20), (.t 21)], []⟩ <|
          .nil)) (
        .cond (.t 22) (.seq (.seq (.ops (
            .op ⟨(some 23), .mov (.t 0), []⟩ <|
            .op ⟨(some 24), .nilc (.t 23), []⟩ <|
            .op ⟨(some 25), .fieldA 19 (.t 24), []⟩ <|
            .op ⟨(some 26), .load1 (.t 25), []⟩ <|
            .op ⟨(some 27), .nilc (.t 26), []⟩ <|
            .op ⟨(some 28), .fieldA 0 (.t 27), []⟩ <|
            .op ⟨(some 29), .load1 (.t 28), []⟩ <|
            .op ⟨(some 30), .mov (.t 29), []⟩ <|
            .grd 30 true [⟨(some 31), .mov (.t 0), []⟩,
                ⟨(some 32), .nilc (.t 31), []⟩,
                ⟨(some 33), .fieldA 18 (.t 32), []⟩,
                ⟨(some 34), .load1 (.t 33), []⟩,
                ⟨(some 35), .lenSl (.t 34), []⟩,
                ⟨(some 36), .mov (.t 0), []⟩,
                ⟨(some 37), .nilc (.t 36), []⟩,
                ⟨(some 38), .fieldA 2 (.t 37), []⟩,
                ⟨(some 39), .fieldA 5 (.t 38), []⟩,
                ⟨(some 40), .load1 (.t 39), []⟩,
                ⟨(some 41), .cmp .lss .i64 (.t 35) (.t 40), []⟩] <|
            .op ⟨(some 42), .pick (.t 30) (.t 41) (.c (.bool false)), []⟩ <|
            .nil)) (
          .cond (.t 42) (.ops (
              .op ⟨(some 43), .mov (.t 0), []⟩ <|
              .op ⟨(some 44), .mov (.t 0), []⟩ <|
              .op ⟨(some 45), .nilc (.t 44), []⟩ <|
              .op ⟨(some 46), .fieldA 18 (.t 45), []⟩ <|
              .op ⟨(some 47), .load1 (.t 46), []⟩ <|
              .op ⟨(some 48), .mov (.t 0), []⟩ <|
              .op ⟨(some 49), .nilc (.t 48), []⟩ <|
              .op ⟨(some 50), .fieldA 20 (.t 49), []⟩ <|
              .op ⟨(some 51), .load1 (.t 50), []⟩ <|
              .op ⟨(some 52), .buildSl 1 1 [(.int .i64 0)] [(0, 1, (.t 51))], []⟩ <|
              .op ⟨(some 53), .append 1 8 (.t 47) (.t 52), []⟩ <|
              .op ⟨(some 54), .nilc (.t 43), []⟩ <|
              .op ⟨(some 55), .fieldA 18 (.t 54), []⟩ <|
              .op ⟨none, .store 1 (.t 55) (.t 53), []⟩ <|
              .nil)) (.skip))) (
          .ops (
            .op ⟨(some 56), .mov (.t 0), []⟩ <|
            .op ⟨(some 57), .nilc (.t 56), []⟩ <|
            .op ⟨(some 58), .fieldA 19 (.t 57), []⟩ <|
            .op ⟨none, .store 1 (.t 58) (.c .nilp), []⟩ <|
            .nil))) (.skip))) (
        .seq (.ops (
          .op ⟨(some 4), .mov (.c (.bool false)), []⟩ <|
          .nil)) (
        .ret))) (.seq (.ops (
          .op ⟨(some 60), .mov (.t 0), []⟩ <|
          .op ⟨(some 61), .nilc (.t 60), []⟩ <|
          .op ⟨(some 62), .fieldA 9 (.t 61), []⟩ <|
          .op ⟨(some 63), .load1 (.t 62), []⟩ <|
          .op ⟨(some 64), .cmp .lss .i64 (.t 63) (.c (.int .i64 4)), []⟩ <|
          .op ⟨(some 59), .mov (.t 64), []⟩ <|
          .nil)) (
        .cond (.t 59) (.ops (
            .op ⟨(some 65), .mov (.t 0), []⟩ <|
            .op ⟨(some 66), .mov (.t 1), []⟩ <|
            .op ⟨(some 67), .call 325 [(.t 65), (.t 66)], []⟩ <|
            .nil)) (.seq (.ops (
            .op ⟨(some 69), .mov (.t 0), []⟩ <|
            .op ⟨(some 70), .nilc (.t 69), []⟩ <|
            .op ⟨(some 71), .fieldA 9 (.t 70), []⟩ <|
            .op ⟨(some 72), .load1 (.t 71), []⟩ <|
            .op ⟨(some 73), .cmp .lss .i64 (.t 72) (.c (.int .i64 6)), []⟩ <|
            .op ⟨(some 74), .mov (.t 73), []⟩ <|
            .grd 74 false [⟨(some 75), .mov (.t 0), []⟩,
                ⟨(some 76), .nilc (.t 75), []⟩,
                ⟨(some 77), .fieldA 9 (.t 76), []⟩,
                ⟨(some 78), .load1 (.t 77), []⟩,
                ⟨(some 79), .cmp .eql .i64 (.t 78) (.c (.int .i64 14)), []⟩] <|
            .op ⟨(some 80), .pick (.t 74) (.c (.bool true)) (.t 79), []⟩ <|
            .op ⟨(some 68), .mov (.t 80), []⟩ <|
            .nil)) (
          .cond (.t 68) (.ops (
              .op ⟨(some 81), .mov (.t 0), []⟩ <|
              .op ⟨(some 82), .mov (.t 1), []⟩ <|
              .op ⟨(some 83), .call 326 [(.t 81), (.t 82)], []⟩ <|
              .nil)) (.ops (
              .op ⟨(some 5), .mov (.t 0), []⟩ <|
              .op ⟨(some 6), .mov (.t 1), []⟩ <|
              .op ⟨(some 7), .call 327 [(.t 5), (.t 6)], []⟩ <|
              .nil))))))))))) (
    .seq (.ops (
      .op ⟨(some 84), .mov (.t 0), []⟩ <|
      .op ⟨(some 85), .nilc (.t 84), []⟩ <|
      .op ⟨(some 86), .fieldA 9 (.t 85), []⟩ <|
      .op ⟨(some 87), .load1 (.t 86), []⟩ <|
      .op ⟨(some 88), .cmp .eql .i64 (.t 87) (.c (.int .i64 15)), []⟩ <|
      .op ⟨(some 4), .mov (.t 88), []⟩ <|
      .nil)) (
    .ret)))

def mark_Mark_Step_hs : List (List Nat × List Nat) := []

end Wm.F
end

section
/- PRINTED by my tool (wip/wm/tool/Gen.lean): a function as one of my machine. -/
namespace Wm.F
open Wm
set_option maxRecDepth 100000

/-- 94: (*withy/mem.Mem).Words -/
def mem_Mem_Words : AFunc where
  closed := false
  nparams := 1
  ntmps := 10
  results := [.tmp 2]
  body := .seq (.ops (
      .op ⟨(some 2), .mov (.c .nilsl), []⟩ <|
      .nil)) (
    .seq (.seq (.ops (
      .op ⟨(some 3), .mov (.t 0), []⟩ <|
      .op ⟨(some 4), .eq false .ptr (.t 3) (.c .nilp), []⟩ <|
      .nil)) (
    .cond (.t 4) (.seq (.ops (
        .op ⟨(some 2), .mov (.c .nilsl), []⟩ <|
        .nil)) (
      .ret)) (.skip))) (
    .seq (.ops (
      .op ⟨(some 5), .mov (.t 0), []⟩ <|
      .op ⟨(some 6), .nilc (.t 5), []⟩ <|
      .op ⟨(some 7), .fieldA 0 (.t 6), []⟩ <|
      .op ⟨(some 8), .load1 (.t 7), []⟩ <|
      .op ⟨(some 9), .call 271 [(.t 8)], []⟩ <|
      .op ⟨(some 2), .mov (.t 9), []⟩ <|
      .nil)) (
    .ret)))

def mem_Mem_Words_hs : List (List Nat × List Nat) := []

end Wm.F
end

section
/- PRINTED by my tool (wip/wm/tool/Gen.lean): a function as one of my machine. -/
namespace Wm.F
open Wm
set_option maxRecDepth 100000

def withyref13_Same_c1 : ACode :=
  .seq (.seq (.ops (
    .op ⟨(some 11), .mov (.t 5), []⟩ <|
    .op ⟨(some 12), .mov (.t 0), []⟩ <|
    .op ⟨(some 13), .lenSl (.t 12), []⟩ <|
    .op ⟨(some 14), .cmp .lss .i64 (.t 11) (.t 13), []⟩ <|
    .nil)) (
  .cond (.t 14) (.skip) (.exit 0))) (
  .seq (.block 1 (.seq (.ops (
    .op ⟨(some 17), .mov (.t 0), []⟩ <|
    .op ⟨(some 18), .mov (.t 5), []⟩ <|
    .op ⟨(some 19), .indexA 1 (.t 17) (.t 18), []⟩ <|
    .op ⟨(some 20), .load1 (.t 19), []⟩ <|
    .op ⟨(some 21), .mov (.t 1), []⟩ <|
    .op ⟨(some 22), .mov (.t 5), []⟩ <|
    .op ⟨(some 23), .indexA 1 (.t 21) (.t 22), []⟩ <|
    .op ⟨(some 24), .load1 (.t 23), []⟩ <|
    .op ⟨(some 25), .eq true .bool (.t 20) (.t 24), []⟩ <|
    .nil)) (
  .cond (.t 25) (.seq (.ops (
      .op ⟨(some 4), .mov (.c (.bool false)), []⟩ <|
      .nil)) (
    .ret)) (.skip)))) (
  .ops (
    .op ⟨(some 15), .mov (.t 5), []⟩ <|
    .op ⟨(some 16), .arith .add .i64 (.t 15) (.c (.int .i64 1)), []⟩ <|
    .op ⟨(some 5), .mov (.t 16), []⟩ <|
    .nil)))

def withyref13_Same_c0 : ACode :=
  .seq (.ops (
    .op ⟨(some 4), .mov (.c (.bool true)), []⟩ <|
    .nil)) (
  .ret)

/-- 124: withy/withyref13.Same -/
def withyref13_Same : AFunc where
  closed := false
  nparams := 2
  ntmps := 26
  results := [.tmp 4]
  body := .seq (.ops (
      .op ⟨(some 4), .mov (.c (.bool false)), []⟩ <|
      .nil)) (
    .seq (.seq (.ops (
      .op ⟨(some 6), .mov (.t 0), []⟩ <|
      .op ⟨(some 7), .lenSl (.t 6), []⟩ <|
      .op ⟨(some 8), .mov (.t 1), []⟩ <|
      .op ⟨(some 9), .lenSl (.t 8), []⟩ <|
      .op ⟨(some 10), .cmp .neq .i64 (.t 7) (.t 9), []⟩ <|
      .nil)) (
    .cond (.t 10) (.seq (.ops (
        .op ⟨(some 4), .mov (.c (.bool false)), []⟩ <|
        .nil)) (
      .ret)) (.skip))) (
    .seq (.seq (.ops (
      .op ⟨(some 5), .mov (.c (.int .i64 0)), []⟩ <|
      .nil)) (
    .block 0 (.loop [0, 1, 5] [4] (withyref13_Same_c1)))) (
    withyref13_Same_c0)))

def withyref13_Same_hs : List (List Nat × List Nat) := [([0, 1, 5], [4])]

end Wm.F
end

section
/- PRINTED by my tool (wip/wm/tool/Gen.lean): a function as one of my machine. -/
namespace Wm.F
open Wm
set_option maxRecDepth 100000

def mark_Found_c12 : ACode :=
  .seq (.ops (
    .op ⟨(some 137), .cmp .lss .i64 (.t 136) (.t 135), []⟩ <|
    .nil)) (
  .seq (.cond (.t 137) (.skip) (.exit 7)) (
  .seq (.block 8 (.seq (.ops (
    .op ⟨(some 138), .mov (.t 136), []⟩ <|
    .op ⟨(some 22), .mov (.t 138), []⟩ <|
    .nil)) (
  .seq (.ops (
    .op ⟨(some 139), .loadN 6 (.t 3), []⟩ <|
    .op ⟨(some 140), .mov (.t 19), []⟩ <|
    .op ⟨(some 141), .mov (.t 22), []⟩ <|
    .op ⟨(some 142), .call 305 [(.t 139), (.t 140), (.t 141)], []⟩ <|
    .op ⟨(some 23), .mov (.t 142), []⟩ <|
    .nil)) (
  .seq (.ops (
    .op ⟨(some 143), .mov (.t 23), []⟩ <|
    .op ⟨(some 144), .cmp .geq .i64 (.t 143) (.c (.int .i64 0)), []⟩ <|
    .nil)) (
  .cond (.t 144) (.ops (
      .op ⟨(some 145), .mov (.t 10), []⟩ <|
      .op ⟨(some 146), .mov (.t 7), []⟩ <|
      .op ⟨(some 147), .load1 (.t 4), []⟩ <|
      .op ⟨(some 148), .mov (.t 23), []⟩ <|
      .op ⟨(some 149), .indexA 1 (.t 147) (.t 148), []⟩ <|
      .op ⟨(some 150), .load1 (.t 149), []⟩ <|
      .op ⟨(some 151), .call 320 [(.t 146), (.t 150)], []⟩ <|
      .op ⟨(some 152), .callv (.t 145) [(.t 151)], []⟩ <|
      .nil)) (.skip)))))) (
  .ops (
    .op ⟨(some 153), .arith .add .i64 (.t 136) (.c (.int .i64 1)), []⟩ <|
    .op ⟨(some 136), .mov (.t 153), []⟩ <|
    .nil))))

def mark_Found_c11 : ACode :=
  .goto 0

def mark_Found_c10 : ACode :=
  .seq (.ops (
    .op ⟨(some 137), .cmp .lss .i64 (.t 136) (.t 135), []⟩ <|
    .nil)) (
  .seq (.cond (.t 137) (.skip) (.exit 7)) (
  .seq (.block 8 (.seq (.ops (
    .op ⟨(some 138), .mov (.t 136), []⟩ <|
    .op ⟨(some 22), .mov (.t 138), []⟩ <|
    .nil)) (
  .seq (.ops (
    .op ⟨(some 139), .loadN 6 (.t 3), []⟩ <|
    .op ⟨(some 140), .mov (.t 19), []⟩ <|
    .op ⟨(some 141), .mov (.t 22), []⟩ <|
    .op ⟨(some 142), .call 305 [(.t 139), (.t 140), (.t 141)], []⟩ <|
    .op ⟨(some 23), .mov (.t 142), []⟩ <|
    .nil)) (
  .seq (.ops (
    .op ⟨(some 143), .mov (.t 23), []⟩ <|
    .op ⟨(some 144), .cmp .geq .i64 (.t 143) (.c (.int .i64 0)), []⟩ <|
    .nil)) (
  .cond (.t 144) (.ops (
      .op ⟨(some 145), .mov (.t 10), []⟩ <|
      .op ⟨(some 146), .mov (.t 7), []⟩ <|
      .op ⟨(some 147), .load1 (.t 4), []⟩ <|
      .op ⟨(some 148), .mov (.t 23), []⟩ <|
      .op ⟨(some 149), .indexA 1 (.t 147) (.t 148), []⟩ <|
      .op ⟨(some 150), .load1 (.t 149), []⟩ <|
      .op ⟨(some 151), .call 320 [(.t 146), (.t 150)], []⟩ <|
      .op ⟨(some 152), .callv (.t 145) [(.t 151)], []⟩ <|
      .nil)) (.skip)))))) (
  .ops (
    .op ⟨(some 153), .arith .add .i64 (.t 136) (.c (.int .i64 1)), []⟩ <|
    .op ⟨(some 136), .mov (.t 153), []⟩ <|
    .nil))))

def mark_Found_c9 : ACode :=
  .goto 0

def mark_Found_c8 : ACode :=
  .seq (.ops (
    .op ⟨(some 83), .cmp .lss .i64 (.t 82) (.t 81), []⟩ <|
    .nil)) (
  .seq (.cond (.t 83) (.skip) (.exit 4)) (
  .seq (.block 5 (.seq (.ops (
    .op ⟨(some 84), .mov (.t 82), []⟩ <|
    .op ⟨(some 16), .mov (.t 84), []⟩ <|
    .nil)) (
  .seq (.ops (
    .op ⟨(some 86), .load1 (.t 4), []⟩ <|
    .op ⟨(some 87), .loadN 6 (.t 3), []⟩ <|
    .op ⟨(some 88), .mov (.t 15), []⟩ <|
    .op ⟨(some 89), .mov (.t 16), []⟩ <|
    .op ⟨(some 90), .call 319 [(.t 87), (.t 88), (.t 89)], [{ g := none, op := .load1 (.t 4), d := 86 }]⟩ <|
    .op ⟨(some 91), .indexA 1 (.t 86) (.t 90), []⟩ <|
    .op ⟨(some 92), .load1 (.t 91), []⟩ <|
    .op ⟨(some 93), .call 318 [(.t 92)], []⟩ <|
    .op ⟨(some 85), .mov (.t 93), []⟩ <|
    .op ⟨(some 94), .extract (.t 85) 0, []⟩ <|
    .op ⟨(some 95), .extract (.t 85) 1, []⟩ <|
    .op ⟨(some 17), .mov (.t 94), []⟩ <|
    .op ⟨(some 18), .mov (.t 95), []⟩ <|
    .nil)) (
  .ops (
    .op ⟨(some 96), .mov (.t 10), []⟩ <|
    .op ⟨(some 97), .mov (.t 18), []⟩ <|
    .op ⟨(some 98), .callv (.t 96) [(.t 97)], []⟩ <|
    .nil))))) (
  .ops (
    .op ⟨(some 99), .arith .add .i64 (.t 82) (.c (.int .i64 1)), []⟩ <|
    .op ⟨(some 82), .mov (.t 99), []⟩ <|
    .nil))))

def mark_Found_c7 : ACode :=
  .ops (
    .op ⟨(some 100), .mov (.t 10), []⟩ <|
    .op ⟨(some 101), .mov (.t 7), []⟩ <|
    .op ⟨(some 102), .load1 (.t 4), []⟩ <|
    .op ⟨(some 103), .loadN 6 (.t 3), []⟩ <|
    .op ⟨(some 104), .mov (.t 15), []⟩ <|
    .op ⟨(some 105), .call 321 [(.t 103), (.t 104)], [{ g := none, op := .load1 (.t 4), d := 102 }]⟩ <|
    .op ⟨(some 106), .indexA 1 (.t 102) (.t 105), []⟩ <|
    .op ⟨(some 107), .load1 (.t 106), []⟩ <|
    .op ⟨(some 108), .call 320 [(.t 101), (.t 107)], []⟩ <|
    .op ⟨(some 109), .callv (.t 100) [(.t 108)], []⟩ <|
    .nil)

def mark_Found_c6 : ACode :=
  .ops (
    .op ⟨(some 110), .arith .add .i64 (.t 77) (.c (.int .i64 1)), []⟩ <|
    .op ⟨(some 77), .mov (.t 110), []⟩ <|
    .nil)

def mark_Found_c5 : ACode :=
  .seq (.ops (
    .op ⟨(some 78), .cmp .lss .i64 (.t 77) (.t 76), []⟩ <|
    .nil)) (
  .seq (.cond (.t 78) (.skip) (.exit 2)) (
  .seq (.block 3 (.seq (.ops (
    .op ⟨(some 79), .mov (.t 77), []⟩ <|
    .op ⟨(some 15), .mov (.t 79), []⟩ <|
    .nil)) (
  .seq (.seq (.ops (
    .op ⟨(some 80), .fieldA 3 (.t 3), []⟩ <|
    .op ⟨(some 81), .load1 (.t 80), []⟩ <|
    .op ⟨(some 82), .mov (.c (.int .i64 0)), []⟩ <|
    .nil)) (
  .block 4 (.loop [3, 4, 7, 8, 9, 10, 15, 76, 77, 81, 82] [3, 4, 7, 8, 9, 10, 15, 76, 77] (mark_Found_c8)))) (
  mark_Found_c7)))) (
  mark_Found_c6)))

def mark_Found_c4 : ACode :=
  .seq (.skip) (
  .seq (.seq (.ops (
    .op ⟨(some 111), .load1 (.t 9), []⟩ <|
    .op ⟨(some 112), .lenSl (.t 111), []⟩ <|
    .op ⟨(some 113), .cmp .eql .i64 (.t 112) (.c (.int .i64 0)), []⟩ <|
    .nil)) (
  .cond (.t 113) (.seq (.ops (
      .op ⟨(some 114), .load1 (.t 8), []⟩ <|
      .op ⟨(some 6), .mov (.t 114), []⟩ <|
      .nil)) (
    .ret)) (.skip))) (
  .seq (.ops (
    .op ⟨(some 115), .load1 (.t 9), []⟩ <|
    .op ⟨(some 116), .indexA 1 (.t 115) (.c (.int .i64 0)), []⟩ <|
    .op ⟨(some 117), .load1 (.t 116), []⟩ <|
    .op ⟨(some 19), .mov (.t 117), []⟩ <|
    .nil)) (
  .seq (.ops (
    .op ⟨(some 118), .load1 (.t 9), []⟩ <|
    .op ⟨(some 119), .slice 1 (.t 118) (some (.c (.int .i64 1))) none none, []⟩ <|
    .op ⟨none, .store 1 (.t 9) (.t 119), []⟩ <|
    .nil)) (
  .seq (.ops (
    .op ⟨(some 121), .load1 (.t 4), []⟩ <|
    .op ⟨(some 122), .loadN 6 (.t 3), []⟩ <|
    .op ⟨(some 123), .mov (.t 19), []⟩ <|
    .op ⟨(some 124), .call 261 [(.t 122), (.t 123)], [{ g := none, op := .load1 (.t 4), d := 121 }]⟩ <|
    .op ⟨(some 125), .indexA 1 (.t 121) (.t 124), []⟩ <|
    .op ⟨(some 126), .load1 (.t 125), []⟩ <|
    .op ⟨(some 127), .call 265 [(.t 126)], []⟩ <|
    .op ⟨(some 120), .mov (.t 127), []⟩ <|
    .op ⟨(some 128), .extract (.t 120) 0, []⟩ <|
    .op ⟨(some 129), .extract (.t 120) 1, []⟩ <|
    .op ⟨(some 20), .alloc [(.int .i64 0), (.int .i64 0), (.bool false), (.int .i64 0), (.int .i64 0), (.int .i64 0)], []⟩ <|
    .op ⟨none, .store 6 (.t 20) (.t 128), []⟩ <|
    .op ⟨(some 21), .mov (.t 129), []⟩ <|
    .nil)) (
  .seq (.seq (.ops (
    .op ⟨(some 130), .fieldA 0 (.t 20), []⟩ <|
    .op ⟨(some 131), .load1 (.t 130), []⟩ <|
    .nil)) (
  .block 6 (.seq (.ops (
    .op ⟨(some 133), .cmp .eql .i64 (.t 131) (.c (.int .i64 1)), []⟩ <|
    .op ⟨(some 132), .mov (.t 133), []⟩ <|
    .nil)) (
  .cond (.t 132) (.seq (.ops (
      .op ⟨(some 134), .fieldA 3 (.t 20), []⟩ <|
      .op ⟨(some 135), .load1 (.t 134), []⟩ <|
      .op ⟨(some 136), .mov (.c (.int .i64 0)), []⟩ <|
      .nil)) (
    .block 7 (.loop [3, 4, 7, 8, 9, 10, 19, 135, 136] [3, 4, 7, 8, 9, 10] (mark_Found_c10)))) (.seq (.ops (
      .op ⟨(some 155), .cmp .eql .i64 (.t 131) (.c (.int .i64 2)), []⟩ <|
      .op ⟨(some 154), .mov (.t 155), []⟩ <|
      .nil)) (
    .cond (.t 154) (.seq (.ops (
        .op ⟨(some 156), .mov (.t 10), []⟩ <|
        .op ⟨(some 157), .mov (.t 7), []⟩ <|
        .op ⟨(some 158), .load1 (.t 4), []⟩ <|
        .op ⟨(some 159), .loadN 6 (.t 3), []⟩ <|
        .op ⟨(some 160), .mov (.t 19), []⟩ <|
        .op ⟨(some 161), .call 305 [(.t 159), (.t 160), (.c (.int .i64 0))], [{ g := none, op := .load1 (.t 4), d := 158 }]⟩ <|
        .op ⟨(some 162), .indexA 1 (.t 158) (.t 161), []⟩ <|
        .op ⟨(some 163), .load1 (.t 162), []⟩ <|
        .op ⟨(some 164), .call 320 [(.t 157), (.t 163)], []⟩ <|
        .op ⟨(some 165), .callv (.t 156) [(.t 164)], []⟩ <|
        .nil)) (
      .ops (
        .op ⟨(some 166), .mov (.t 10), []⟩ <|
        .op ⟨(some 167), .mov (.t 7), []⟩ <|
        .op ⟨(some 168), .load1 (.t 4), []⟩ <|
        .op ⟨(some 169), .loadN 6 (.t 3), []⟩ <|
        .op ⟨(some 170), .mov (.t 19), []⟩ <|
        .op ⟨(some 171), .call 305 [(.t 169), (.t 170), (.c (.int .i64 2))], [{ g := none, op := .load1 (.t 4), d := 168 }]⟩ <|
        .op ⟨(some 172), .indexA 1 (.t 168) (.t 171), []⟩ <|
        .op ⟨(some 173), .load1 (.t 172), []⟩ <|
        .op ⟨(some 174), .call 320 [(.t 167), (.t 173)], []⟩ <|
        .op ⟨(some 175), .callv (.t 166) [(.t 174)], []⟩ <|
        .nil))) (.skip))))))) (
  mark_Found_c9))))))

def mark_Found_c3 : ACode :=
  .seq (.ops (
    .op ⟨(some 46), .cmp .lss .i64 (.t 45) (.t 44), []⟩ <|
    .nil)) (
  .seq (.cond (.t 46) (.skip) (.exit 0)) (
  .seq (.block 1 (.seq (.ops (
    .op ⟨(some 47), .mov (.t 45), []⟩ <|
    .op ⟨(some 11), .mov (.t 47), []⟩ <|
    .nil)) (
  .seq (.ops (
    .op ⟨(some 48), .load1 (.t 4), []⟩ <|
    .op ⟨(some 49), .loadN 6 (.t 3), []⟩ <|
    .op ⟨(some 50), .mov (.t 11), []⟩ <|
    .op ⟨(some 51), .call 261 [(.t 49), (.t 50)], [{ g := none, op := .load1 (.t 4), d := 48 }]⟩ <|
    .op ⟨(some 52), .indexA 1 (.t 48) (.t 51), []⟩ <|
    .op ⟨(some 53), .load1 (.t 52), []⟩ <|
    .op ⟨(some 12), .mov (.t 53), []⟩ <|
    .nil)) (
  .seq (.seq (.ops (
    .op ⟨(some 55), .mov (.t 12), []⟩ <|
    .op ⟨(some 56), .call 265 [(.t 55)], []⟩ <|
    .op ⟨(some 54), .mov (.t 56), []⟩ <|
    .op ⟨(some 57), .extract (.t 54) 0, []⟩ <|
    .op ⟨(some 58), .extract (.t 54) 1, []⟩ <|
    .op ⟨(some 13), .alloc [(.int .i64 0), (.int .i64 0), (.bool false), (.int .i64 0), (.int .i64 0), (.int .i64 0)], []⟩ <|
    .op ⟨none, .store 6 (.t 13) (.t 57), []⟩ <|
    .op ⟨(some 14), .mov (.t 58), []⟩ <|
    .nil)) (
  .seq (.ops (
    .op ⟨(some 59), .mov (.t 14), []⟩ <|
    .op ⟨(some 60), .mov (.t 59), []⟩ <|
    .grd 60 true [⟨(some 61), .fieldA 2 (.t 13), []⟩,
        ⟨(some 62), .load1 (.t 61), []⟩] <|
    .op ⟨(some 63), .pick (.t 60) (.t 62) (.c (.bool false)), []⟩ <|
    .nil)) (
  .cond (.t 63) (.ops (
      .op ⟨(some 64), .load1 (.t 9), []⟩ <|
      .op ⟨(some 65), .mov (.t 11), []⟩ <|
      .op ⟨(some 66), .buildSl 1 1 [(.int .i64 0)] [(0, 1, (.t 65))], []⟩ <|
      .op ⟨(some 67), .append 1 8 (.t 64) (.t 66), []⟩ <|
      .op ⟨none, .store 1 (.t 9) (.t 67), []⟩ <|
      .nil)) (.skip)))) (
  .ops (
    .op ⟨(some 68), .load1 (.t 8), []⟩ <|
    .op ⟨(some 69), .mov (.t 11), []⟩ <|
    .op ⟨(some 70), .mov (.t 12), []⟩ <|
    .op ⟨(some 71), .load1 (.t 5), []⟩ <|
    .op ⟨(some 72), .call 317 [(.t 70), (.t 71)], [{ g := none, op := .load1 (.t 8), d := 68 }]⟩ <|
    .op ⟨(some 73), .indexA 1 (.t 68) (.t 69), []⟩ <|
    .op ⟨none, .store 1 (.t 73) (.t 72), []⟩ <|
    .nil)))))) (
  .ops (
    .op ⟨(some 74), .arith .add .i64 (.t 45) (.c (.int .i64 1)), []⟩ <|
    .op ⟨(some 45), .mov (.t 74), []⟩ <|
    .nil))))

def mark_Found_c2 : ACode :=
  .seq (.seq (.ops (
    .op ⟨(some 75), .fieldA 2 (.t 3), []⟩ <|
    .op ⟨(some 76), .load1 (.t 75), []⟩ <|
    .op ⟨(some 77), .mov (.c (.int .i64 0)), []⟩ <|
    .nil)) (
  .block 2 (.loop [3, 4, 7, 8, 9, 10, 76, 77] [3, 4, 7, 8, 9, 10] (mark_Found_c5)))) (
  mark_Found_c4)

def mark_Found_c1 : ACode :=
  .alt 0 (.seq (.skip) (
    .seq (.seq (.ops (
      .op ⟨(some 111), .load1 (.t 9), []⟩ <|
      .op ⟨(some 112), .lenSl (.t 111), []⟩ <|
      .op ⟨(some 113), .cmp .eql .i64 (.t 112) (.c (.int .i64 0)), []⟩ <|
      .nil)) (
    .cond (.t 113) (.seq (.ops (
        .op ⟨(some 114), .load1 (.t 8), []⟩ <|
        .op ⟨(some 6), .mov (.t 114), []⟩ <|
        .nil)) (
      .ret)) (.skip))) (
    .seq (.ops (
      .op ⟨(some 115), .load1 (.t 9), []⟩ <|
      .op ⟨(some 116), .indexA 1 (.t 115) (.c (.int .i64 0)), []⟩ <|
      .op ⟨(some 117), .load1 (.t 116), []⟩ <|
      .op ⟨(some 19), .mov (.t 117), []⟩ <|
      .nil)) (
    .seq (.ops (
      .op ⟨(some 118), .load1 (.t 9), []⟩ <|
      .op ⟨(some 119), .slice 1 (.t 118) (some (.c (.int .i64 1))) none none, []⟩ <|
      .op ⟨none, .store 1 (.t 9) (.t 119), []⟩ <|
      .nil)) (
    .seq (.ops (
      .op ⟨(some 121), .load1 (.t 4), []⟩ <|
      .op ⟨(some 122), .loadN 6 (.t 3), []⟩ <|
      .op ⟨(some 123), .mov (.t 19), []⟩ <|
      .op ⟨(some 124), .call 261 [(.t 122), (.t 123)], [{ g := none, op := .load1 (.t 4), d := 121 }]⟩ <|
      .op ⟨(some 125), .indexA 1 (.t 121) (.t 124), []⟩ <|
      .op ⟨(some 126), .load1 (.t 125), []⟩ <|
      .op ⟨(some 127), .call 265 [(.t 126)], []⟩ <|
      .op ⟨(some 120), .mov (.t 127), []⟩ <|
      .op ⟨(some 128), .extract (.t 120) 0, []⟩ <|
      .op ⟨(some 129), .extract (.t 120) 1, []⟩ <|
      .op ⟨(some 20), .alloc [(.int .i64 0), (.int .i64 0), (.bool false), (.int .i64 0), (.int .i64 0), (.int .i64 0)], []⟩ <|
      .op ⟨none, .store 6 (.t 20) (.t 128), []⟩ <|
      .op ⟨(some 21), .mov (.t 129), []⟩ <|
      .nil)) (
    .seq (.seq (.ops (
      .op ⟨(some 130), .fieldA 0 (.t 20), []⟩ <|
      .op ⟨(some 131), .load1 (.t 130), []⟩ <|
      .nil)) (
    .block 6 (.seq (.ops (
      .op ⟨(some 133), .cmp .eql .i64 (.t 131) (.c (.int .i64 1)), []⟩ <|
      .op ⟨(some 132), .mov (.t 133), []⟩ <|
      .nil)) (
    .cond (.t 132) (.seq (.ops (
        .op ⟨(some 134), .fieldA 3 (.t 20), []⟩ <|
        .op ⟨(some 135), .load1 (.t 134), []⟩ <|
        .op ⟨(some 136), .mov (.c (.int .i64 0)), []⟩ <|
        .nil)) (
      .block 7 (.loop [3, 4, 7, 8, 9, 10, 19, 135, 136] [3, 4, 7, 8, 9, 10] (mark_Found_c12)))) (.seq (.ops (
        .op ⟨(some 155), .cmp .eql .i64 (.t 131) (.c (.int .i64 2)), []⟩ <|
        .op ⟨(some 154), .mov (.t 155), []⟩ <|
        .nil)) (
      .cond (.t 154) (.seq (.ops (
          .op ⟨(some 156), .mov (.t 10), []⟩ <|
          .op ⟨(some 157), .mov (.t 7), []⟩ <|
          .op ⟨(some 158), .load1 (.t 4), []⟩ <|
          .op ⟨(some 159), .loadN 6 (.t 3), []⟩ <|
          .op ⟨(some 160), .mov (.t 19), []⟩ <|
          .op ⟨(some 161), .call 305 [(.t 159), (.t 160), (.c (.int .i64 0))], [{ g := none, op := .load1 (.t 4), d := 158 }]⟩ <|
          .op ⟨(some 162), .indexA 1 (.t 158) (.t 161), []⟩ <|
          .op ⟨(some 163), .load1 (.t 162), []⟩ <|
          .op ⟨(some 164), .call 320 [(.t 157), (.t 163)], []⟩ <|
          .op ⟨(some 165), .callv (.t 156) [(.t 164)], []⟩ <|
          .nil)) (
        .ops (
          .op ⟨(some 166), .mov (.t 10), []⟩ <|
          .op ⟨(some 167), .mov (.t 7), []⟩ <|
          .op ⟨(some 168), .load1 (.t 4), []⟩ <|
          .op ⟨(some 169), .loadN 6 (.t 3), []⟩ <|
          .op ⟨(some 170), .mov (.t 19), []⟩ <|
          .op ⟨(some 171), .call 305 [(.t 169), (.t 170), (.c (.int .i64 2))], [{ g := none, op := .load1 (.t 4), d := 168 }]⟩ <|
          .op ⟨(some 172), .indexA 1 (.t 168) (.t 171), []⟩ <|
          .op ⟨(some 173), .load1 (.t 172), []⟩ <|
          .op ⟨(some 174), .call 320 [(.t 167), (.t 173)], []⟩ <|
          .op ⟨(some 175), .callv (.t 166) [(.t 174)], []⟩ <|
          .nil))) (.skip))))))) (
    mark_Found_c11))))))) (
  .skip)

def mark_Found_c0 : ACode :=
  .seq (.seq (.ops (
    .op ⟨(some 24), .loadN 6 (.t 3), []⟩ <|
    .op ⟨(some 25), .call 263 [(.t 24)], []⟩ <|
    .op ⟨(some 26), .not (.t 25), []⟩ <|
    .op ⟨(some 27), .mov (.t 26), []⟩ <|
    .grd 27 false [⟨(some 28), .load1 (.t 4), []⟩,
        ⟨(some 29), .lenSl (.t 28), []⟩,
        ⟨(some 30), .loadN 6 (.t 3), []⟩,
        ⟨(some 31), .call 264 [(.t 30)], [{ g := (some (27, false)), op := .load1 (.t 4), d := 28 }]⟩,
        ⟨(some 32), .cmp .neq .i64 (.t 29) (.t 31), []⟩] <|
    .op ⟨(some 33), .pick (.t 27) (.c (.bool true)) (.t 32), []⟩ <|
    .nil)) (
  .cond (.t 33) (.seq (.ops (
      .op ⟨(some 6), .mov (.c .nilsl), []⟩ <|
      .nil)) (
    .ret)) (.skip))) (
  .seq (.ops (
    .op ⟨(some 34), .loadN 6 (.t 3), []⟩ <|
    .op ⟨(some 35), .load1 (.t 5), []⟩ <|
    .op ⟨(some 36), .build [(.int .i64 0), (.int .i64 0), (.int .i64 0), (.int .i64 0), (.int .i64 0), (.int .i64 0), (.int .i64 0), (.int .i64 0), (.int .u64 0), (.int .i64 0), (.int .u64 0), (.int .i64 0), (.int .i64 0), (.int .i64 0), (.int .i64 0), (.int .i64 0), (.int .u64 0), (.int .u64 0), .nilsl, .nilp, (.int .i64 0)] [(2, 6, (.t 34)), (8, 1, (.t 35))], []⟩ <|
    .op ⟨(some 37), .box (.t 36), []⟩ <|
    .op ⟨(some 7), .mov (.t 37), []⟩ <|
    .nil)) (
  .seq (.ops (
    .op ⟨(some 38), .fieldA 0 (.t 3), []⟩ <|
    .op ⟨(some 39), .load1 (.t 38), []⟩ <|
    .op ⟨(some 40), .mkSl 1 1 [(.bool false)] (.t 39) (.t 39), []⟩ <|
    .op ⟨(some 41), .buildSl 1 0 [(.int .i64 0)] [], []⟩ <|
    .op ⟨(some 8), .alloc [.nilsl], []⟩ <|
    .op ⟨(some 9), .alloc [.nilsl], []⟩ <|
    .op ⟨none, .store 1 (.t 8) (.t 40), []⟩ <|
    .op ⟨none, .store 1 (.t 9) (.t 41), []⟩ <|
    .nil)) (
  .seq (.ops (
    .op ⟨(some 42), .mkFn 316 [(.t 3), (.t 8), (.t 4), (.t 5), (.t 9)], []⟩ <|
    .op ⟨(some 10), .mov (.t 42), []⟩ <|
    .nil)) (
  .seq (.seq (.ops (
    .op ⟨(some 43), .fieldA 0 (.t 3), []⟩ <|
    .op ⟨(some 44), .load1 (.t 43), []⟩ <|
    .op ⟨(some 45), .mov (.c (.int .i64 0)), []⟩ <|
    .nil)) (
  .block 0 (.loop [3, 4, 5, 7, 8, 9, 10, 44, 45] [3, 4, 7, 8, 9, 10] (mark_Found_c3)))) (
  mark_Found_c2)))))

/-- 155: withy/mark.Found -/
def mark_Found : AFunc where
  closed := false
  nparams := 3
  ntmps := 176
  results := [.tmp 6]
  body := .seq (.ops (
      .op ⟨(some 3), .box (.t 0), []⟩ <|
      .op ⟨(some 4), .box (.t 1), []⟩ <|
      .op ⟨(some 5), .box (.t 2), []⟩ <|
      .op ⟨(some 6), .mov (.c .nilsl), []⟩ <|
      .nil)) (
    .scope [3, 4, 7, 8, 9, 10] [6] (mark_Found_c0) (mark_Found_c1))

def mark_Found_hs : List (List Nat × List Nat) := [([3, 4, 7, 8, 9, 10], [6]), ([3, 4, 5, 7, 8, 9, 10, 44, 45], [3, 4, 7, 8, 9, 10]), ([3, 4, 7, 8, 9, 10, 76, 77], [3, 4, 7, 8, 9, 10]), ([3, 4, 7, 8, 9, 10, 15, 76, 77, 81, 82], [3, 4, 7, 8, 9, 10, 15, 76, 77]), ([3, 4, 7, 8, 9, 10, 19, 135, 136], [3, 4, 7, 8, 9, 10]), ([3, 4, 7, 8, 9, 10, 19, 135, 136], [3, 4, 7, 8, 9, 10])]

end Wm.F
end

section
/- PRINTED by my tool (wip/wm/tool/Gen.lean): a function as one of my machine. -/
namespace Wm.F
open Wm
set_option maxRecDepth 100000

/-- 198: withy/mem.Of -/
def mem_Of : AFunc where
  closed := false
  nparams := 1
  ntmps := 10
  results := [.tmp 2]
  body := .seq (.ops (
      .op ⟨(some 2), .mov (.c .nilp), []⟩ <|
      .nil)) (
    .seq (.seq (.ops (
      .op ⟨(some 3), .mov (.t 0), []⟩ <|
      .op ⟨(some 4), .lenSl (.t 3), []⟩ <|
      .op ⟨(some 5), .cmp .gtr .i64 (.t 4) (.c (.int .i64 65536)), []⟩ <|
      .nil)) (
    .cond (.t 5) (.seq (.ops (
        .op ⟨(some 2), .mov (.c .nilp), []⟩ <|
        .nil)) (
      .ret)) (.skip))) (
    .seq (.ops (
      .op ⟨(some 6), .mov (.t 0), []⟩ <|
      .op ⟨(some 7), .call 271 [(.t 6)], []⟩ <|
      .op ⟨(some 8), .build [.nilsl, (.int .i64 0), (.int .i64 0), (.int .i64 0), (.int .u64 0), (.int .u64 0)] [(0, 1, (.t 7))], []⟩ <|
      .op ⟨(some 9), .box (.t 8), []⟩ <|
      .op ⟨(some 2), .mov (.t 9), []⟩ <|
      .nil)) (
    .ret)))

def mem_Of_hs : List (List Nat × List Nat) := []

end Wm.F
end

section
/- PRINTED by my tool (wip/wm/tool/Gen.lean): a function as one of my machine. -/
namespace Wm.F
open Wm
set_option maxRecDepth 100000

/-- 313: withy/withylaw13.small -/
def withylaw13_small : AFunc where
  closed := false
  nparams := 0
  ntmps := 21
  results := [.cell true 6 0, .tmp 1]
  body := .seq (.ops (
      .op ⟨(some 0), .alloc [(.int .i64 0), (.int .i64 0), (.int .i64 0), (.int .i64 0), (.int .i64 0), (.int .i64 0)], []⟩ <|
      .op ⟨(some 1), .mov (.c .nilsl), []⟩ <|
      .nil)) (
    .seq (.ops (
      .op ⟨(some 4), .build [(.int .i64 0), (.int .i64 0), (.int .i64 0), (.int .i64 0), (.int .i64 0), (.int .i64 0)] [(0, 1, (.c (.int .i64 4))), (1, 1, (.c (.int .i64 1))), (2, 1, (.c (.int .i64 1))), (3, 1, (.c (.int .i64 1))), (4, 1, (.c (.int .i64 9)))], []⟩ <|
      .op ⟨(some 2), .alloc [(.int .i64 0), (.int .i64 0), (.int .i64 0), (.int .i64 0), (.int .i64 0), (.int .i64 0)], []⟩ <|
      .op ⟨none, .store 6 (.t 2) (.t 4), []⟩ <|
      .nil)) (
    .seq (.ops (
      .op ⟨(some 5), .build [(.int .i64 0), (.int .i64 0), (.bool false), (.int .i64 0), (.int .i64 0), (.int .i64 0)] [(0, 1, (.c (.int .i64 1))), (3, 1, (.c (.int .i64 1)))], []⟩ <|
      .op ⟨(some 3), .alloc [(.int .i64 0), (.int .i64 0), (.bool false), (.int .i64 0), (.int .i64 0), (.int .i64 0)], []⟩ <|
      .op ⟨none, .store 6 (.t 3) (.t 5), []⟩ <|
      .nil)) (
    .seq (.ops (
      .op ⟨(some 6), .loadN 6 (.t 2), []⟩ <|
      .op ⟨(some 7), .loadN 6 (.t 2), []⟩ <|
      .op ⟨(some 8), .loadN 6 (.t 3), []⟩ <|
      .op ⟨(some 11), .build [(.int .i64 0), (.int .i64 0), (.bool false), (.int .i64 0), (.int .i64 0), (.int .i64 0)] [(0, 1, (.c (.int .i64 2)))], []⟩ <|
      .op ⟨(some 14), .loadN 6 (.t 3), []⟩ <|
      .op ⟨(some 15), .build [(.int .i64 0), (.int .i64 0), (.bool false), (.int .i64 0), (.int .i64 0), (.int .i64 0), .nilsl] [(0, 6, (.t 14))], []⟩ <|
      .op ⟨(some 16), .loadN 6 (.t 3), []⟩ <|
      .op ⟨(some 17), .build [(.int .i64 0), (.int .i64 0), (.bool false), (.int .i64 0), (.int .i64 0), (.int .i64 0), .nilsl] [(0, 6, (.t 16))], []⟩ <|
      .op ⟨(some 9), .buildSl 1 1 [(.int .u64 0)] [(0, 1, (.c (.int .u64 2)))], []⟩ <|
      .op ⟨(some 10), .build [(.int .i64 0), (.int .i64 0), (.bool false), (.int .i64 0), (.int .i64 0), (.int .i64 0), .nilsl] [(0, 6, (.t 8)), (6, 1, (.t 9))], []⟩ <|
      .op ⟨(some 12), .buildSl 1 3 [(.int .u64 0)] [(0, 1, (.c (.int .u64 3))), (1, 1, (.c (.int .u64 1))), (2, 1, (.c (.int .u64 0)))], []⟩ <|
      .op ⟨(some 13), .build [(.int .i64 0), (.int .i64 0), (.bool false), (.int .i64 0), (.int .i64 0), (.int .i64 0), .nilsl] [(0, 6, (.t 11)), (6, 1, (.t 12))], []⟩ <|
      .op ⟨(some 18), .buildSl 7 4 [(.int .i64 0), (.int .i64 0), (.bool false), (.int .i64 0), (.int .i64 0), (.int .i64 0), .nilsl] [(0, 7, (.t 10)), (7, 7, (.t 13)), (14, 7, (.t 15)), (21, 7, (.t 17))], []⟩ <|
      .op ⟨(some 19), .buildSl 1 1 [(.int .u64 0)] [(0, 1, (.c (.int .u64 1)))], []⟩ <|
      .op ⟨(some 20), .call 121 [(.t 7), (.t 18), (.t 19), (.c .nilsl)], [{ g := none, op := .loadN 6 (.t 2), d := 6 }]⟩ <|
      .op ⟨none, .store 6 (.t 0) (.t 6), []⟩ <|
      .op ⟨(some 1), .mov (.t 20), []⟩ <|
      .nil)) (
    .ret))))

def withylaw13_small_hs : List (List Nat × List Nat) := []

end Wm.F
end

section
/- PRINTED by my tool (wip/wm/tool/Gen.lean): a function as one of my machine. -/
namespace Wm.F
open Wm
set_option maxRecDepth 100000

def withylaw13_ends_c1 : ACode :=
  .seq (.seq (.ops (
    .op ⟨(some 10), .mov (.t 7), []⟩ <|
    .op ⟨(some 11), .mov (.t 2), []⟩ <|
    .op ⟨(some 12), .cmp .lss .i64 (.t 10) (.t 11), []⟩ <|
    .nil)) (
  .cond (.t 12) (.skip) (.exit 0))) (
  .seq (.block 1 (.seq (.ops (
    .op ⟨(some 15), .mov (.t 1), []⟩ <|
    .op ⟨(some 16), .call 107 [(.t 15)], []⟩ <|
    .op ⟨(some 8), .mov (.t 16), []⟩ <|
    .nil)) (
  .seq (.ops (
    .op ⟨(some 17), .mov (.t 0), []⟩ <|
    .op ⟨(some 18), .mov (.t 1), []⟩ <|
    .op ⟨(some 19), .call 159 [(.t 17), (.t 18)], []⟩ <|
    .op ⟨(some 9), .mov (.t 19), []⟩ <|
    .nil)) (
  .seq (.seq (.ops (
    .op ⟨(some 20), .mov (.t 1), []⟩ <|
    .op ⟨(some 21), .call 107 [(.t 20)], []⟩ <|
    .op ⟨(some 22), .mov (.t 8), []⟩ <|
    .op ⟨(some 23), .arith .add .i64 (.t 22) (.c (.int .i64 1)), []⟩ <|
    .op ⟨(some 24), .cmp .gtr .i64 (.t 21) (.t 23), []⟩ <|
    .nil)) (
  .cond (.t 24) (.seq (.ops (
      .op ⟨(some 6), .mov (.c (.bool false)), []⟩ <|
      .nil)) (
    .ret)) (.skip))) (
  .seq (.ops (
    .op ⟨(some 25), .mov (.t 9), []⟩ <|
    .nil)) (
  .cond (.t 25) (.seq (.ops (
      .op ⟨(some 6), .mov (.c (.bool true)), []⟩ <|
      .nil)) (
    .ret)) (.skip))))))) (
  .ops (
    .op ⟨(some 13), .mov (.t 7), []⟩ <|
    .op ⟨(some 14), .arith .add .i64 (.t 13) (.c (.int .i64 1)), []⟩ <|
    .op ⟨(some 7), .mov (.t 14), []⟩ <|
    .nil)))

def withylaw13_ends_c0 : ACode :=
  .seq (.ops (
    .op ⟨(some 6), .mov (.c (.bool false)), []⟩ <|
    .nil)) (
  .ret)

/-- 314: withy/withylaw13.ends -/
def withylaw13_ends : AFunc where
  closed := false
  nparams := 3
  ntmps := 26
  results := [.tmp 6]
  body := .seq (.ops (
      .op ⟨(some 6), .mov (.c (.bool false)), []⟩ <|
      .nil)) (
    .seq (.seq (.ops (
      .op ⟨(some 7), .mov (.c (.int .i64 0)), []⟩ <|
      .nil)) (
    .block 0 (.loop [0, 1, 2, 7] [6] (withylaw13_ends_c1)))) (
    withylaw13_ends_c0))

def withylaw13_ends_hs : List (List Nat × List Nat) := [([0, 1, 2, 7], [6])]

end Wm.F
end

section
/- PRINTED by my tool (wip/wm/tool/Gen.lean): a function as one of my machine. -/
namespace Wm.F
open Wm
set_option maxRecDepth 100000

def withylaw13_marked_c1 : ACode :=
  .seq (.seq (.ops (
    .op ⟨(some 9), .mov (.t 8), []⟩ <|
    .op ⟨(some 10), .fieldA 0 (.t 3), []⟩ <|
    .op ⟨(some 11), .load1 (.t 10), []⟩ <|
    .op ⟨(some 12), .cmp .lss .i64 (.t 9) (.t 11), []⟩ <|
    .nil)) (
  .cond (.t 12) (.skip) (.exit 0))) (
  .seq (.block 1 (.ops (
    .op ⟨(some 15), .mov (.t 7), []⟩ <|
    .op ⟨(some 16), .mov (.t 1), []⟩ <|
    .op ⟨(some 17), .loadN 6 (.t 3), []⟩ <|
    .op ⟨(some 18), .mov (.t 8), []⟩ <|
    .op ⟨(some 19), .build [(.str ⟨⟨[]⟩⟩), (.int .i64 0), (.int .i64 0)] [(0, 1, (.c (.str ⟨⟨[104, 101, 97, 100, 101, 114]⟩⟩))), (1, 1, (.t 18))], []⟩ <|
    .op ⟨(some 20), .call 108 [(.t 17), (.t 19)], []⟩ <|
    .op ⟨(some 21), .indexA 1 (.t 16) (.t 20), []⟩ <|
    .op ⟨(some 22), .load1 (.t 21), []⟩ <|
    .op ⟨(some 23), .mov (.t 2), []⟩ <|
    .op ⟨(some 24), .call 113 [(.t 22), (.t 23)], []⟩ <|
    .op ⟨(some 25), .buildSl 1 1 [(.bool false)] [(0, 1, (.t 24))], []⟩ <|
    .op ⟨(some 26), .append 1 1 (.t 15) (.t 25), []⟩ <|
    .op ⟨(some 7), .mov (.t 26), []⟩ <|
    .nil))) (
  .ops (
    .op ⟨(some 13), .mov (.t 8), []⟩ <|
    .op ⟨(some 14), .arith .add .i64 (.t 13) (.c (.int .i64 1)), []⟩ <|
    .op ⟨(some 8), .mov (.t 14), []⟩ <|
    .nil)))

def withylaw13_marked_c0 : ACode :=
  .seq (.ops (
    .op ⟨(some 27), .mov (.t 7), []⟩ <|
    .op ⟨(some 6), .mov (.t 27), []⟩ <|
    .nil)) (
  .ret)

/-- 315: withy/withylaw13.marked -/
def withylaw13_marked : AFunc where
  closed := false
  nparams := 3
  ntmps := 28
  results := [.tmp 6]
  body := .seq (.ops (
      .op ⟨(some 3), .box (.t 0), []⟩ <|
      .op ⟨(some 6), .mov (.c .nilsl), []⟩ <|
      .nil)) (
    .seq (.ops (
      .op ⟨(some 7), .mov (.c .nilsl), []⟩ <|
      .nil)) (
    .seq (.seq (.ops (
      .op ⟨(some 8), .mov (.c (.int .i64 0)), []⟩ <|
      .nil)) (
    .block 0 (.loop [1, 2, 3, 7, 8] [7] (withylaw13_marked_c1)))) (
    withylaw13_marked_c0)))

def withylaw13_marked_hs : List (List Nat × List Nat) := [([1, 2, 3, 7, 8], [7])]

end Wm.F
end

section
/- PRINTED by my tool (wip/wm/tool/Gen.lean): a function as one of my machine. -/
namespace Wm.F
open Wm
set_option maxRecDepth 100000

/-- 263: withy/plan.Right -/
def plan_Right : AFunc where
  closed := true
  nparams := 1
  ntmps := 31
  results := [.tmp 2]
  body := .seq (.ops (
      .op ⟨(some 1), .box (.t 0), []⟩ <|
      .op ⟨(some 2), .mov (.c (.bool false)), []⟩ <|
      .nil)) (
    .seq (.ops (
      .op ⟨(some 3), .fieldA 0 (.t 1), []⟩ <|
      .op ⟨(some 4), .load1 (.t 3), []⟩ <|
      .op ⟨(some 5), .call 376 [(.t 4), (.c (.int .i64 1)), (.c (.int .i64 64))], []⟩ <|
      .op ⟨(some 6), .mov (.t 5), []⟩ <|
      .grd 6 true [⟨(some 7), .fieldA 1 (.t 1), []⟩,
          ⟨(some 8), .load1 (.t 7), []⟩,
          ⟨(some 9), .call 376 [(.t 8), (.c (.int .i64 0)), (.c (.int .i64 8))], []⟩] <|
      .op ⟨(some 10), .pick (.t 6) (.t 9) (.c (.bool false)), []⟩ <|
      .op ⟨(some 11), .mov (.t 10), []⟩ <|
      .grd 11 true [⟨(some 12), .fieldA 2 (.t 1), []⟩,
          ⟨(some 13), .load1 (.t 12), []⟩,
          ⟨(some 14), .call 376 [(.t 13), (.c (.int .i64 1)), (.c (.int .i64 8))], []⟩] <|
      .op ⟨(some 15), .pick (.t 11) (.t 14) (.c (.bool false)), []⟩ <|
      .op ⟨(some 16), .mov (.t 15), []⟩ <|
      .grd 16 true [⟨(some 17), .fieldA 3 (.t 1), []⟩,
          ⟨(some 18), .load1 (.t 17), []⟩,
          ⟨(some 19), .call 376 [(.t 18), (.c (.int .i64 1)), (.c (.int .i64 16))], []⟩] <|
      .op ⟨(some 20), .pick (.t 16) (.t 19) (.c (.bool false)), []⟩ <|
      .op ⟨(some 21), .mov (.t 20), []⟩ <|
      .grd 21 true [⟨(some 22), .fieldA 4 (.t 1), []⟩,
          ⟨(some 23), .load1 (.t 22), []⟩,
          ⟨(some 24), .call 376 [(.t 23), (.c (.int .i64 1)), (.c (.int .i64 1048576))], []⟩] <|
      .op ⟨(some 25), .pick (.t 21) (.t 24) (.c (.bool false)), []⟩ <|
      .op ⟨(some 26), .mov (.t 25), []⟩ <|
      .grd 26 true [⟨(some 27), .fieldA 5 (.t 1), []⟩,
          ⟨(some 28), .load1 (.t 27), []⟩,
          ⟨(some 29), .call 376 [(.t 28), (.c (.int .i64 0)), (.c (.int .i64 64))], []⟩] <|
      .op ⟨(some 30), .pick (.t 26) (.t 29) (.c (.bool false)), []⟩ <|
      .op ⟨(some 2), .mov (.t 30), []⟩ <|
      .nil)) (
    .ret))

def plan_Right_hs : List (List Nat × List Nat) := []

end Wm.F
end

section
/- PRINTED by my tool (wip/wm/tool/Gen.lean): a function as one of my machine. -/
namespace Wm.F
open Wm
set_option maxRecDepth 100000

/-- 91: (*withy/shade.Shade).Step -/
def shade_Shade_Step : AFunc where
  closed := false
  nparams := 2
  ntmps := 99
  results := [.tmp 4]
  body := .seq (.ops (
      .op ⟨(some 4), .mov (.c (.bool false)), []⟩ <|
      .nil)) (
    .seq (.seq (.ops (
      .op ⟨(some 9), .mov (.t 0), []⟩ <|
      .op ⟨(some 10), .eq false .ptr (.t 9) (.c .nilp), []⟩ <|
      .nil)) (
    .cond (.t 10) (.seq (.ops (
        .op ⟨(some 4), .mov (.c (.bool true)), []⟩ <|
        .nil)) (
      .ret)) (.skip))) (
    .seq (.seq (.ops (
      .op ⟨(some 11), .mov (.t 0), []⟩ <|
      .op ⟨(some 12), .nilc (.t 11), []⟩ <|
      .op ⟨(some 13), .fieldA 3 (.t 12), []⟩ <|
      .op ⟨(some 14), .load1 (.t 13), []⟩ <|
      .nil)) (
    .block 0 (.seq (.ops (
      .op ⟨(some 16), .cmp .eql .i64 (.t 14) (.c (.int .i64 0)), []⟩ <|
      .op ⟨(some 15), .mov (.t 16), []⟩ <|
      .nil)) (
    .cond (.t 15) (.seq (.ops (
        .op ⟨(some 17), .mov (.t 0), []⟩ <|
        .op ⟨(some 18), .mov (.t 1), []⟩ <|
        .op ⟨(some 19), .mov (.t 0), []⟩ <|
        .op ⟨(some 20), .nilc (.t 19), []⟩ <|
        .op ⟨(some 21), .fieldA 1 (.t 20), []⟩ <|
        .op ⟨(some 22), .load1 (.t 21), []⟩ <|
        .op ⟨(some 23), .call 266 [(.t 18), (.t 22)], []⟩ <|
        .op ⟨(some 24), .nilc (.t 17), []⟩ <|
        .op ⟨(some 25), .fieldA 4 (.t 24), []⟩ <|
        .op ⟨none, .store 1 (.t 25) (.t 23), []⟩ <|
        .nil)) (
      .seq (.ops (
        .op ⟨(some 26), .mov (.t 0), []⟩ <|
        .op ⟨(some 27), .nilc (.t 26), []⟩ <|
        .op ⟨(some 28), .fieldA 3 (.t 27), []⟩ <|
        .op ⟨none, .store 1 (.t 28) (.c (.int .i64 1)), []⟩ <|
        .nil)) (
      .seq (.ops (
        .op ⟨(some 30), .mov (.t 0), []⟩ <|
        .op ⟨(some 31), .nilc (.t 30), []⟩ <|
        .op ⟨(some 32), .fieldA 4 (.t 31), []⟩ <|
        .op ⟨(some 33), .load1 (.t 32), []⟩ <|
        .op ⟨(some 34), .mov (.t 0), []⟩ <|
        .op ⟨(some 35), .nilc (.t 34), []⟩ <|
        .op ⟨(some 36), .fieldA 2 (.t 35), []⟩ <|
        .op ⟨(some 37), .load1 (.t 36), []⟩ <|
        .op ⟨(some 38), .call 267 [(.t 33), (.t 37)], []⟩ <|
        .op ⟨(some 29), .mov (.t 38), []⟩ <|
        .op ⟨(some 39), .extract (.t 29) 0, []⟩ <|
        .op ⟨(some 40), .extract (.t 29) 1, []⟩ <|
        .op ⟨(some 5), .mov (.t 39), []⟩ <|
        .op ⟨(some 6), .mov (.t 40), []⟩ <|
        .nil)) (
      .seq (.ops (
        .op ⟨(some 41), .mov (.t 6), []⟩ <|
        .op ⟨(some 42), .not (.t 41), []⟩ <|
        .nil)) (
      .cond (.t 42) (.ops (
          .op ⟨(some 43), .mov (.t 0), []⟩ <|
          .op ⟨(some 44), .nilc (.t 43), []⟩ <|
          .op ⟨(some 45), .fieldA 3 (.t 44), []⟩ <|
          .op ⟨none, .store 1 (.t 45) (.c (.int .i64 4)), []⟩ <|
          .nil)) (.skip)))))) (.seq (.ops (
        .op ⟨(some 47), .cmp .eql .i64 (.t 14) (.c (.int .i64 1)), []⟩ <|
        .op ⟨(some 46), .mov (.t 47), []⟩ <|
        .nil)) (
      .cond (.t 46) (.seq (.ops (
          .op ⟨(some 48), .mov (.t 1), []⟩ <|
          .op ⟨(some 49), .call 268 [(.t 48), (.c (.int .i64 2)), (.c (.int .u64 1))], []⟩ <|
          .nil)) (
        .ops (
          .op ⟨(some 50), .mov (.t 0), []⟩ <|
          .op ⟨(some 51), .nilc (.t 50), []⟩ <|
          .op ⟨(some 52), .fieldA 3 (.t 51), []⟩ <|
          .op ⟨none, .store 1 (.t 52) (.c (.int .i64 2)), []⟩ <|
          .nil))) (.seq (.ops (
          .op ⟨(some 54), .cmp .eql .i64 (.t 14) (.c (.int .i64 2)), []⟩ <|
          .op ⟨(some 53), .mov (.t 54), []⟩ <|
          .nil)) (
        .cond (.t 53) (.seq (.ops (
            .op ⟨(some 56), .mov (.t 0), []⟩ <|
            .op ⟨(some 57), .nilc (.t 56), []⟩ <|
            .op ⟨(some 58), .fieldA 4 (.t 57), []⟩ <|
            .op ⟨(some 59), .load1 (.t 58), []⟩ <|
            .op ⟨(some 60), .mov (.t 0), []⟩ <|
            .op ⟨(some 61), .nilc (.t 60), []⟩ <|
            .op ⟨(some 62), .fieldA 2 (.t 61), []⟩ <|
            .op ⟨(some 63), .load1 (.t 62), []⟩ <|
            .op ⟨(some 64), .call 267 [(.t 59), (.t 63)], []⟩ <|
            .op ⟨(some 55), .mov (.t 64), []⟩ <|
            .op ⟨(some 65), .extract (.t 55) 0, []⟩ <|
            .op ⟨(some 66), .extract (.t 55) 1, []⟩ <|
            .op ⟨(some 7), .mov (.t 65), []⟩ <|
            .op ⟨(some 8), .mov (.t 66), []⟩ <|
            .nil)) (
          .seq (.ops (
            .op ⟨(some 67), .mov (.t 0), []⟩ <|
            .op ⟨(some 68), .nilc (.t 67), []⟩ <|
            .op ⟨(some 69), .fieldA 3 (.t 68), []⟩ <|
            .op ⟨none, .store 1 (.t 69) (.c (.int .i64 3)), []⟩ <|
            .nil)) (
          .seq (.ops (
            .op ⟨(some 70), .mov (.t 1), []⟩ <|
            .op ⟨(some 71), .mov (.t 0), []⟩ <|
            .op ⟨(some 72), .nilc (.t 71), []⟩ <|
            .op ⟨(some 73), .fieldA 1 (.t 72), []⟩ <|
            .op ⟨(some 74), .load1 (.t 73), []⟩ <|
            .op ⟨(some 75), .mov (.t 0), []⟩ <|
            .op ⟨(some 76), .nilc (.t 75), []⟩ <|
            .op ⟨(some 77), .fieldA 4 (.t 76), []⟩ <|
            .op ⟨(some 78), .load1 (.t 77), []⟩ <|
            .op ⟨(some 79), .mov (.t 7), []⟩ <|
            .op ⟨(some 80), .call 269 [(.t 70), (.t 74), (.t 78), (.t 79)], []⟩ <|
            .nil)) (
          .cond (.t 80) (.ops (
              .op ⟨(some 81), .mov (.t 0), []⟩ <|
              .op ⟨(some 82), .mov (.t 0), []⟩ <|
              .op ⟨(some 83), .nilc (.t 81), []⟩ <|
              .op ⟨(some 84), .fieldA 0 (.t 83), []⟩ <|
              .op ⟨none, .store 1 (.t 84) (.c (.bool true)), []⟩ <|
              .op ⟨(some 85), .nilc (.t 82), []⟩ <|
              .op ⟨(some 86), .fieldA 3 (.t 85), []⟩ <|
              .op ⟨none, .store 1 (.t 86) (.c (.int .i64 4)), []⟩ <|
              .nil)) (.skip))))) (.seq (.ops (
            .op ⟨(some 88), .cmp .eql .i64 (.t 14) (.c (.int .i64 3)), []⟩ <|
            .op ⟨(some 87), .mov (.t 88), []⟩ <|
            .nil)) (
          .cond (.t 87) (.seq (.ops (
              .op ⟨(some 89), .mov (.t 1), []⟩ <|
              .op ⟨(some 90), .call 268 [(.t 89), (.c (.int .i64 2)), (.c (.int .u64 18446744073709551615))], []⟩ <|
              .nil)) (
            .ops (
              .op ⟨(some 91), .mov (.t 0), []⟩ <|
              .op ⟨(some 92), .nilc (.t 91), []⟩ <|
              .op ⟨(some 93), .fieldA 3 (.t 92), []⟩ <|
              .op ⟨none, .store 1 (.t 93) (.c (.int .i64 0)), []⟩ <|
              .nil))) (.skip))))))))))) (
    .seq (.ops (
      .op ⟨(some 94), .mov (.t 0), []⟩ <|
      .op ⟨(some 95), .nilc (.t 94), []⟩ <|
      .op ⟨(some 96), .fieldA 3 (.t 95), []⟩ <|
      .op ⟨(some 97), .load1 (.t 96), []⟩ <|
      .op ⟨(some 98), .cmp .eql .i64 (.t 97) (.c (.int .i64 4)), []⟩ <|
      .op ⟨(some 4), .mov (.t 98), []⟩ <|
      .nil)) (
    .ret))))

def shade_Shade_Step_hs : List (List Nat × List Nat) := []

end Wm.F
end

section
/- PRINTED by my tool (wip/wm/tool/Gen.lean): a function as one of my machine. -/
namespace Wm.F
open Wm
set_option maxRecDepth 100000

/-- 325: (*withy/mark.Mark).roots -/
def mark_Mark_roots : AFunc where
  closed := false
  nparams := 2
  ntmps := 120
  results := []
  body := .seq (.ops (
      .op ⟨(some 8), .mov (.t 0), []⟩ <|
      .op ⟨(some 9), .nilc (.t 8), []⟩ <|
      .op ⟨(some 10), .fieldA 9 (.t 9), []⟩ <|
      .op ⟨(some 11), .load1 (.t 10), []⟩ <|
      .nil)) (
    .block 0 (.seq (.ops (
      .op ⟨(some 13), .cmp .eql .i64 (.t 11) (.c (.int .i64 0)), []⟩ <|
      .op ⟨(some 12), .mov (.t 13), []⟩ <|
      .nil)) (
    .cond (.t 12) (.ops (
        .op ⟨(some 14), .mov (.t 0), []⟩ <|
        .op ⟨(some 15), .mov (.t 0), []⟩ <|
        .op ⟨(some 16), .mov (.t 1), []⟩ <|
        .op ⟨(some 17), .call 266 [(.t 16), (.c (.int .i64 0))], []⟩ <|
        .op ⟨(some 18), .nilc (.t 14), []⟩ <|
        .op ⟨(some 19), .fieldA 10 (.t 18), []⟩ <|
        .op ⟨none, .store 1 (.t 19) (.t 17), []⟩ <|
        .op ⟨(some 20), .nilc (.t 15), []⟩ <|
        .op ⟨(some 21), .fieldA 9 (.t 20), []⟩ <|
        .op ⟨none, .store 1 (.t 21) (.c (.int .i64 1)), []⟩ <|
        .nil)) (.seq (.ops (
        .op ⟨(some 23), .cmp .eql .i64 (.t 11) (.c (.int .i64 1)), []⟩ <|
        .op ⟨(some 22), .mov (.t 23), []⟩ <|
        .nil)) (
      .cond (.t 22) (.seq (.seq (.ops (
          .op ⟨(some 24), .mov (.t 1), []⟩ <|
          .op ⟨(some 25), .mov (.t 0), []⟩ <|
          .op ⟨(some 26), .nilc (.t 25), []⟩ <|
          .op ⟨(some 27), .fieldA 2 (.t 26), []⟩ <|
          .op ⟨(some 28), .loadN 6 (.t 27), []⟩ <|
          .op ⟨(some 29), .mov (.t 0), []⟩ <|
          .op ⟨(some 30), .nilc (.t 29), []⟩ <|
          .op ⟨(some 31), .fieldA 11 (.t 30), []⟩ <|
          .op ⟨(some 32), .load1 (.t 31), []⟩ <|
          .op ⟨(some 33), .call 393 [(.t 28), (.t 32)], []⟩ <|
          .op ⟨(some 34), .call 266 [(.t 24), (.t 33)], []⟩ <|
          .op ⟨(some 4), .mov (.t 34), []⟩ <|
          .nil)) (
        .seq (.ops (
          .op ⟨(some 35), .mov (.t 4), []⟩ <|
          .op ⟨(some 36), .cmp .eql .u64 (.t 35) (.c (.int .u64 1)), []⟩ <|
          .nil)) (
        .cond (.t 36) (.ops (
            .op ⟨(some 37), .mov (.t 0), []⟩ <|
            .op ⟨(some 38), .nilc (.t 37), []⟩ <|
            .op ⟨(some 39), .fieldA 10 (.t 38), []⟩ <|
            .op ⟨none, .store 1 (.t 39) (.c (.int .u64 0)), []⟩ <|
            .nil)) (.seq (.ops (
            .op ⟨(some 40), .mov (.t 4), []⟩ <|
            .op ⟨(some 41), .cmp .gtr .u64 (.t 40) (.c (.int .u64 1)), []⟩ <|
            .nil)) (
          .cond (.t 41) (.ops (
              .op ⟨(some 42), .mov (.t 0), []⟩ <|
              .op ⟨(some 43), .mov (.t 0), []⟩ <|
              .op ⟨(some 44), .nilc (.t 43), []⟩ <|
              .op ⟨(some 45), .fieldA 10 (.t 44), []⟩ <|
              .op ⟨(some 46), .load1 (.t 45), []⟩ <|
              .op ⟨(some 47), .mov (.t 4), []⟩ <|
              .op ⟨(some 48), .arith .sub .u64 (.t 47) (.c (.int .u64 2)), []⟩ <|
              .op ⟨(some 49), .minmax false .u64 (.t 46) (.t 48), []⟩ <|
              .op ⟨(some 50), .nilc (.t 42), []⟩ <|
              .op ⟨(some 51), .fieldA 10 (.t 50), []⟩ <|
              .op ⟨none, .store 1 (.t 51) (.t 49), []⟩ <|
              .nil)) (.skip)))))) (
        .ops (
          .op ⟨(some 52), .mov (.t 0), []⟩ <|
          .op ⟨(some 53), .call 399 [(.t 52), (.c (.int .i64 2))], []⟩ <|
          .nil))) (.seq (.ops (
          .op ⟨(some 55), .cmp .eql .i64 (.t 11) (.c (.int .i64 2)), []⟩ <|
          .op ⟨(some 54), .mov (.t 55), []⟩ <|
          .nil)) (
        .cond (.t 54) (.seq (.ops (
            .op ⟨(some 57), .mov (.t 1), []⟩ <|
            .op ⟨(some 58), .mov (.t 0), []⟩ <|
            .op ⟨(some 59), .nilc (.t 58), []⟩ <|
            .op ⟨(some 60), .fieldA 2 (.t 59), []⟩ <|
            .op ⟨(some 61), .loadN 6 (.t 60), []⟩ <|
            .op ⟨(some 62), .mov (.t 0), []⟩ <|
            .op ⟨(some 63), .nilc (.t 62), []⟩ <|
            .op ⟨(some 64), .fieldA 11 (.t 63), []⟩ <|
            .op ⟨(some 65), .load1 (.t 64), []⟩ <|
            .op ⟨(some 66), .mov (.t 0), []⟩ <|
            .op ⟨(some 67), .nilc (.t 66), []⟩ <|
            .op ⟨(some 68), .fieldA 12 (.t 67), []⟩ <|
            .op ⟨(some 69), .load1 (.t 68), []⟩ <|
            .op ⟨(some 70), .call 319 [(.t 61), (.t 65), (.t 69)], []⟩ <|
            .op ⟨(some 71), .call 266 [(.t 57), (.t 70)], []⟩ <|
            .op ⟨(some 72), .call 318 [(.t 71)], []⟩ <|
            .op ⟨(some 56), .mov (.t 72), []⟩ <|
            .op ⟨(some 73), .extract (.t 56) 0, []⟩ <|
            .op ⟨(some 74), .extract (.t 56) 1, []⟩ <|
            .op ⟨(some 5), .mov (.t 73), []⟩ <|
            .op ⟨(some 6), .mov (.t 74), []⟩ <|
            .nil)) (
          .seq (.seq (.ops (
            .op ⟨(some 75), .mov (.t 0), []⟩ <|
            .op ⟨(some 76), .nilc (.t 75), []⟩ <|
            .op ⟨(some 77), .fieldA 12 (.t 76), []⟩ <|
            .op ⟨(some 78), .load1 (.t 77), []⟩ <|
            .op ⟨(some 79), .arith .add .i64 (.t 78) (.c (.int .i64 1)), []⟩ <|
            .op ⟨(some 80), .nilc (.t 75), []⟩ <|
            .op ⟨(some 81), .fieldA 12 (.t 80), []⟩ <|
            .op ⟨none, .store 1 (.t 81) (.t 79), []⟩ <|
            .nil)) (
          .seq (.ops (
            .op ⟨(some 82), .mov (.t 0), []⟩ <|
            .op ⟨(some 83), .nilc (.t 82), []⟩ <|
            .op ⟨(some 84), .fieldA 12 (.t 83), []⟩ <|
            .op ⟨(some 85), .load1 (.t 84), []⟩ <|
            .op ⟨(some 86), .mov (.t 0), []⟩ <|
            .op ⟨(some 87), .nilc (.t 86), []⟩ <|
            .op ⟨(some 88), .fieldA 2 (.t 87), []⟩ <|
            .op ⟨(some 89), .fieldA 3 (.t 88), []⟩ <|
            .op ⟨(some 90), .load1 (.t 89), []⟩ <|
            .op ⟨(some 91), .cmp .eql .i64 (.t 85) (.t 90), []⟩ <|
            .nil)) (
          .cond (.t 91) (.seq (.ops (
              .op ⟨(some 92), .mov (.t 0), []⟩ <|
              .op ⟨(some 93), .nilc (.t 92), []⟩ <|
              .op ⟨(some 94), .fieldA 12 (.t 93), []⟩ <|
              .op ⟨none, .store 1 (.t 94) (.c (.int .i64 0)), []⟩ <|
              .nil)) (
            .ops (
              .op ⟨(some 95), .mov (.t 0), []⟩ <|
              .op ⟨(some 96), .call 399 [(.t 95), (.c (.int .i64 3))], []⟩ <|
              .nil))) (.skip)))) (
          .ops (
            .op ⟨(some 97), .mov (.t 0), []⟩ <|
            .op ⟨(some 98), .mov (.t 6), []⟩ <|
            .op ⟨(some 99), .call 400 [(.t 97), (.t 98)], []⟩ <|
            .nil)))) (.seq (.ops (
            .op ⟨(some 101), .cmp .eql .i64 (.t 11) (.c (.int .i64 3)), []⟩ <|
            .op ⟨(some 100), .mov (.t 101), []⟩ <|
            .nil)) (
          .cond (.t 100) (.seq (.ops (
              .op ⟨(some 102), .mov (.t 0), []⟩ <|
              .op ⟨(some 103), .mov (.t 1), []⟩ <|
              .op ⟨(some 104), .mov (.t 0), []⟩ <|
              .op ⟨(some 105), .nilc (.t 104), []⟩ <|
              .op ⟨(some 106), .fieldA 2 (.t 105), []⟩ <|
              .op ⟨(some 107), .loadN 6 (.t 106), []⟩ <|
              .op ⟨(some 108), .mov (.t 0), []⟩ <|
              .op ⟨(some 109), .nilc (.t 108), []⟩ <|
              .op ⟨(some 110), .fieldA 11 (.t 109), []⟩ <|
              .op ⟨(some 111), .load1 (.t 110), []⟩ <|
              .op ⟨(some 112), .call 321 [(.t 107), (.t 111)], []⟩ <|
              .op ⟨(some 113), .call 266 [(.t 103), (.t 112)], []⟩ <|
              .op ⟨(some 114), .call 320 [(.t 102), (.t 113)], []⟩ <|
              .op ⟨(some 7), .mov (.t 114), []⟩ <|
              .nil)) (
            .seq (.ops (
              .op ⟨(some 115), .mov (.t 0), []⟩ <|
              .op ⟨(some 116), .call 399 [(.t 115), (.c (.int .i64 4))], []⟩ <|
              .nil)) (
            .ops (
              .op ⟨(some 117), .mov (.t 0), []⟩ <|
              .op ⟨(some 118), .mov (.t 7), []⟩ <|
              .op ⟨(some 119), .call 400 [(.t 117), (.t 118)], []⟩ <|
              .nil)))) (.skip))))))))))

def mark_Mark_roots_hs : List (List Nat × List Nat) := []

end Wm.F
end

section
/- PRINTED by my tool (wip/wm/tool/Gen.lean): a function as one of my machine. -/
namespace Wm.F
open Wm
set_option maxRecDepth 100000

/-- 326: (*withy/mark.Mark).pass -/
def mark_Mark_pass : AFunc where
  closed := false
  nparams := 2
  ntmps := 79
  results := []
  body := .seq (.ops (
      .op ⟨(some 5), .mov (.t 0), []⟩ <|
      .op ⟨(some 6), .nilc (.t 5), []⟩ <|
      .op ⟨(some 7), .fieldA 9 (.t 6), []⟩ <|
      .op ⟨(some 8), .load1 (.t 7), []⟩ <|
      .nil)) (
    .block 0 (.seq (.ops (
      .op ⟨(some 10), .cmp .eql .i64 (.t 8) (.c (.int .i64 4)), []⟩ <|
      .op ⟨(some 9), .mov (.t 10), []⟩ <|
      .nil)) (
    .cond (.t 9) (.seq (.ops (
        .op ⟨(some 11), .mov (.t 0), []⟩ <|
        .op ⟨(some 12), .nilc (.t 11), []⟩ <|
        .op ⟨(some 13), .fieldA 13 (.t 12), []⟩ <|
        .op ⟨(some 14), .load1 (.t 13), []⟩ <|
        .op ⟨(some 15), .arith .add .i64 (.t 14) (.c (.int .i64 1)), []⟩ <|
        .op ⟨(some 16), .nilc (.t 11), []⟩ <|
        .op ⟨(some 17), .fieldA 13 (.t 16), []⟩ <|
        .op ⟨none, .store 1 (.t 17) (.t 15), []⟩ <|
        .nil)) (
      .ops (
        .op ⟨(some 18), .mov (.t 0), []⟩ <|
        .op ⟨(some 19), .mov (.t 1), []⟩ <|
        .op ⟨(some 20), .mov (.t 0), []⟩ <|
        .op ⟨(some 21), .nilc (.t 20), []⟩ <|
        .op ⟨(some 22), .fieldA 13 (.t 21), []⟩ <|
        .op ⟨(some 23), .load1 (.t 22), []⟩ <|
        .op ⟨(some 24), .arith .sub .i64 (.t 23) (.c (.int .i64 1)), []⟩ <|
        .op ⟨(some 25), .call 401 [(.t 18), (.t 19), (.t 24)], []⟩ <|
        .nil))) (.seq (.ops (
        .op ⟨(some 27), .cmp .eql .i64 (.t 8) (.c (.int .i64 5)), []⟩ <|
        .op ⟨(some 26), .mov (.t 27), []⟩ <|
        .nil)) (
      .cond (.t 26) (.seq (.ops (
          .op ⟨(some 28), .mov (.t 0), []⟩ <|
          .op ⟨(some 29), .nilc (.t 28), []⟩ <|
          .op ⟨(some 30), .fieldA 18 (.t 29), []⟩ <|
          .op ⟨(some 31), .load1 (.t 30), []⟩ <|
          .op ⟨(some 32), .mov (.t 0), []⟩ <|
          .op ⟨(some 33), .nilc (.t 32), []⟩ <|
          .op ⟨(some 34), .fieldA 18 (.t 33), []⟩ <|
          .op ⟨(some 35), .load1 (.t 34), []⟩ <|
          .op ⟨(some 36), .lenSl (.t 35), []⟩ <|
          .op ⟨(some 37), .arith .sub .i64 (.t 36) (.c (.int .i64 1)), []⟩ <|
          .op ⟨(some 38), .indexA 1 (.t 31) (.t 37), []⟩ <|
          .op ⟨(some 39), .load1 (.t 38), []⟩ <|
          .op ⟨(some 4), .mov (.t 39), []⟩ <|
          .nil)) (
        .seq (.ops (
          .op ⟨(some 40), .mov (.t 0), []⟩ <|
          .op ⟨(some 41), .mov (.t 0), []⟩ <|
          .op ⟨(some 42), .nilc (.t 41), []⟩ <|
          .op ⟨(some 43), .fieldA 18 (.t 42), []⟩ <|
          .op ⟨(some 44), .load1 (.t 43), []⟩ <|
          .op ⟨(some 45), .mov (.t 0), []⟩ <|
          .op ⟨(some 46), .nilc (.t 45), []⟩ <|
          .op ⟨(some 47), .fieldA 18 (.t 46), []⟩ <|
          .op ⟨(some 48), .load1 (.t 47), []⟩ <|
          .op ⟨(some 49), .lenSl (.t 48), []⟩ <|
          .op ⟨(some 50), .arith .sub .i64 (.t 49) (.c (.int .i64 1)), []⟩ <|
          .op ⟨(some 51), .slice 1 (.t 44) none (some (.t 50)) none, []⟩ <|
          .op ⟨(some 52), .nilc (.t 40), []⟩ <|
          .op ⟨(some 53), .fieldA 18 (.t 52), []⟩ <|
          .op ⟨none, .store 1 (.t 53) (.t 51), []⟩ <|
          .nil)) (
        .ops (
          .op ⟨(some 54), .mov (.t 0), []⟩ <|
          .op ⟨(some 55), .mov (.t 1), []⟩ <|
          .op ⟨(some 56), .mov (.t 4), []⟩ <|
          .op ⟨(some 57), .call 401 [(.t 54), (.t 55), (.t 56)], []⟩ <|
          .nil)))) (.seq (.ops (
          .op ⟨(some 59), .cmp .eql .i64 (.t 8) (.c (.int .i64 14)), []⟩ <|
          .op ⟨(some 58), .mov (.t 59), []⟩ <|
          .nil)) (
        .cond (.t 58) (.seq (.ops (
            .op ⟨(some 60), .mov (.t 0), []⟩ <|
            .op ⟨(some 61), .nilc (.t 60), []⟩ <|
            .op ⟨(some 62), .fieldA 0 (.t 61), []⟩ <|
            .op ⟨(some 63), .load1 (.t 62), []⟩ <|
            .op ⟨(some 64), .arith .add .i64 (.t 63) (.c (.int .i64 1)), []⟩ <|
            .op ⟨(some 65), .nilc (.t 60), []⟩ <|
            .op ⟨(some 66), .fieldA 0 (.t 65), []⟩ <|
            .op ⟨none, .store 1 (.t 66) (.t 64), []⟩ <|
            .nil)) (
          .seq (.ops (
            .op ⟨(some 67), .mov (.t 0), []⟩ <|
            .op ⟨(some 68), .mov (.t 0), []⟩ <|
            .op ⟨(some 69), .nilc (.t 67), []⟩ <|
            .op ⟨(some 70), .fieldA 13 (.t 69), []⟩ <|
            .op ⟨none, .store 1 (.t 70) (.c (.int .i64 0)), []⟩ <|
            .op ⟨(some 71), .nilc (.t 68), []⟩ <|
            .op ⟨(some 72), .fieldA 9 (.t 71), []⟩ <|
            .op ⟨none, .store 1 (.t 72) (.c (.int .i64 4)), []⟩ <|
            .nil)) (
          .seq (.ops (
            .op ⟨(some 73), .mov (.t 1), []⟩ <|
            .op ⟨(some 74), .call 266 [(.t 73), (.c (.int .i64 2))], []⟩ <|
            .op ⟨(some 75), .cmp .eql .u64 (.t 74) (.c (.int .u64 0)), []⟩ <|
            .nil)) (
          .cond (.t 75) (.ops (
              .op ⟨(some 76), .mov (.t 0), []⟩ <|
              .op ⟨(some 77), .nilc (.t 76), []⟩ <|
              .op ⟨(some 78), .fieldA 9 (.t 77), []⟩ <|
              .op ⟨none, .store 1 (.t 78) (.c (.int .i64 15)), []⟩ <|
              .nil)) (.skip))))) (.skip))))))))

def mark_Mark_pass_hs : List (List Nat × List Nat) := []

end Wm.F
end

section
/- PRINTED by my tool (wip/wm/tool/Gen.lean): a function as one of my machine. -/
namespace Wm.F
open Wm
set_option maxRecDepth 100000

/-- 327: (*withy/mark.Mark).through -/
def mark_Mark_through : AFunc where
  closed := false
  nparams := 2
  ntmps := 216
  results := []
  body := .seq (.ops (
      .op ⟨(some 8), .mov (.t 0), []⟩ <|
      .op ⟨(some 9), .nilc (.t 8), []⟩ <|
      .op ⟨(some 10), .fieldA 9 (.t 9), []⟩ <|
      .op ⟨(some 11), .load1 (.t 10), []⟩ <|
      .nil)) (
    .block 0 (.seq (.ops (
      .op ⟨(some 13), .cmp .eql .i64 (.t 11) (.c (.int .i64 6)), []⟩ <|
      .op ⟨(some 12), .mov (.t 13), []⟩ <|
      .nil)) (
    .cond (.t 12) (.seq (.ops (
        .op ⟨(some 14), .mov (.t 0), []⟩ <|
        .op ⟨(some 15), .mov (.t 1), []⟩ <|
        .op ⟨(some 16), .mov (.t 0), []⟩ <|
        .op ⟨(some 17), .nilc (.t 16), []⟩ <|
        .op ⟨(some 18), .fieldA 2 (.t 17), []⟩ <|
        .op ⟨(some 19), .loadN 6 (.t 18), []⟩ <|
        .op ⟨(some 20), .mov (.t 0), []⟩ <|
        .op ⟨(some 21), .nilc (.t 20), []⟩ <|
        .op ⟨(some 22), .fieldA 14 (.t 21), []⟩ <|
        .op ⟨(some 23), .load1 (.t 22), []⟩ <|
        .op ⟨(some 24), .mov (.t 0), []⟩ <|
        .op ⟨(some 25), .nilc (.t 24), []⟩ <|
        .op ⟨(some 26), .fieldA 12 (.t 25), []⟩ <|
        .op ⟨(some 27), .load1 (.t 26), []⟩ <|
        .op ⟨(some 28), .call 305 [(.t 19), (.t 23), (.t 27)], []⟩ <|
        .op ⟨(some 29), .call 266 [(.t 15), (.t 28)], []⟩ <|
        .op ⟨(some 30), .call 320 [(.t 14), (.t 29)], []⟩ <|
        .op ⟨(some 4), .mov (.t 30), []⟩ <|
        .nil)) (
      .seq (.seq (.ops (
        .op ⟨(some 31), .mov (.t 0), []⟩ <|
        .op ⟨(some 32), .nilc (.t 31), []⟩ <|
        .op ⟨(some 33), .fieldA 12 (.t 32), []⟩ <|
        .op ⟨(some 34), .load1 (.t 33), []⟩ <|
        .op ⟨(some 35), .arith .add .i64 (.t 34) (.c (.int .i64 1)), []⟩ <|
        .op ⟨(some 36), .nilc (.t 31), []⟩ <|
        .op ⟨(some 37), .fieldA 12 (.t 36), []⟩ <|
        .op ⟨none, .store 1 (.t 37) (.t 35), []⟩ <|
        .nil)) (
      .seq (.ops (
        .op ⟨(some 38), .mov (.t 0), []⟩ <|
        .op ⟨(some 39), .nilc (.t 38), []⟩ <|
        .op ⟨(some 40), .fieldA 12 (.t 39), []⟩ <|
        .op ⟨(some 41), .load1 (.t 40), []⟩ <|
        .op ⟨(some 42), .mov (.t 0), []⟩ <|
        .op ⟨(some 43), .nilc (.t 42), []⟩ <|
        .op ⟨(some 44), .fieldA 15 (.t 43), []⟩ <|
        .op ⟨(some 45), .load1 (.t 44), []⟩ <|
        .op ⟨(some 46), .cmp .eql .i64 (.t 41) (.t 45), []⟩ <|
        .nil)) (
      .cond (.t 46) (.ops (
          .op ⟨(some 47), .mov (.t 0), []⟩ <|
          .op ⟨(some 48), .nilc (.t 47), []⟩ <|
          .op ⟨(some 49), .fieldA 9 (.t 48), []⟩ <|
          .op ⟨none, .store 1 (.t 49) (.c (.int .i64 11)), []⟩ <|
          .nil)) (.skip)))) (
      .ops (
        .op ⟨(some 50), .mov (.t 0), []⟩ <|
        .op ⟨(some 51), .mov (.t 4), []⟩ <|
        .op ⟨(some 52), .call 400 [(.t 50), (.t 51)], []⟩ <|
        .nil)))) (.seq (.ops (
        .op ⟨(some 54), .cmp .eql .i64 (.t 11) (.c (.int .i64 7)), []⟩ <|
        .op ⟨(some 53), .mov (.t 54), []⟩ <|
        .nil)) (
      .cond (.t 53) (.seq (.ops (
          .op ⟨(some 55), .mov (.t 0), []⟩ <|
          .op ⟨(some 56), .mov (.t 0), []⟩ <|
          .op ⟨(some 57), .mov (.t 1), []⟩ <|
          .op ⟨(some 58), .mov (.t 0), []⟩ <|
          .op ⟨(some 59), .nilc (.t 58), []⟩ <|
          .op ⟨(some 60), .fieldA 2 (.t 59), []⟩ <|
          .op ⟨(some 61), .loadN 6 (.t 60), []⟩ <|
          .op ⟨(some 62), .mov (.t 0), []⟩ <|
          .op ⟨(some 63), .nilc (.t 62), []⟩ <|
          .op ⟨(some 64), .fieldA 14 (.t 63), []⟩ <|
          .op ⟨(some 65), .load1 (.t 64), []⟩ <|
          .op ⟨(some 66), .call 305 [(.t 61), (.t 65), (.c (.int .i64 0))], []⟩ <|
          .op ⟨(some 67), .call 266 [(.t 57), (.t 66)], []⟩ <|
          .op ⟨(some 68), .call 320 [(.t 56), (.t 67)], []⟩ <|
          .op ⟨(some 69), .call 400 [(.t 55), (.t 68)], []⟩ <|
          .nil)) (
        .ops (
          .op ⟨(some 70), .mov (.t 0), []⟩ <|
          .op ⟨(some 71), .nilc (.t 70), []⟩ <|
          .op ⟨(some 72), .fieldA 9 (.t 71), []⟩ <|
          .op ⟨none, .store 1 (.t 72) (.c (.int .i64 8)), []⟩ <|
          .nil))) (.seq (.ops (
          .op ⟨(some 74), .cmp .eql .i64 (.t 11) (.c (.int .i64 8)), []⟩ <|
          .op ⟨(some 73), .mov (.t 74), []⟩ <|
          .nil)) (
        .cond (.t 73) (.ops (
            .op ⟨(some 75), .mov (.t 0), []⟩ <|
            .op ⟨(some 76), .mov (.t 0), []⟩ <|
            .op ⟨(some 77), .mov (.t 1), []⟩ <|
            .op ⟨(some 78), .mov (.t 0), []⟩ <|
            .op ⟨(some 79), .nilc (.t 78), []⟩ <|
            .op ⟨(some 80), .fieldA 2 (.t 79), []⟩ <|
            .op ⟨(some 81), .loadN 6 (.t 80), []⟩ <|
            .op ⟨(some 82), .mov (.t 0), []⟩ <|
            .op ⟨(some 83), .nilc (.t 82), []⟩ <|
            .op ⟨(some 84), .fieldA 14 (.t 83), []⟩ <|
            .op ⟨(some 85), .load1 (.t 84), []⟩ <|
            .op ⟨(some 86), .call 305 [(.t 81), (.t 85), (.c (.int .i64 1))], []⟩ <|
            .op ⟨(some 87), .call 266 [(.t 77), (.t 86)], []⟩ <|
            .op ⟨(some 88), .nilc (.t 75), []⟩ <|
            .op ⟨(some 89), .fieldA 17 (.t 88), []⟩ <|
            .op ⟨none, .store 1 (.t 89) (.t 87), []⟩ <|
            .op ⟨(some 90), .nilc (.t 76), []⟩ <|
            .op ⟨(some 91), .fieldA 9 (.t 90), []⟩ <|
            .op ⟨none, .store 1 (.t 91) (.c (.int .i64 9)), []⟩ <|
            .nil)) (.seq (.ops (
            .op ⟨(some 93), .cmp .eql .i64 (.t 11) (.c (.int .i64 9)), []⟩ <|
            .op ⟨(some 92), .mov (.t 93), []⟩ <|
            .nil)) (
          .cond (.t 92) (.seq (.ops (
              .op ⟨(some 94), .mov (.t 0), []⟩ <|
              .op ⟨(some 95), .mov (.t 1), []⟩ <|
              .op ⟨(some 96), .mov (.t 0), []⟩ <|
              .op ⟨(some 97), .nilc (.t 96), []⟩ <|
              .op ⟨(some 98), .fieldA 2 (.t 97), []⟩ <|
              .op ⟨(some 99), .loadN 6 (.t 98), []⟩ <|
              .op ⟨(some 100), .mov (.t 0), []⟩ <|
              .op ⟨(some 101), .nilc (.t 100), []⟩ <|
              .op ⟨(some 102), .fieldA 14 (.t 101), []⟩ <|
              .op ⟨(some 103), .load1 (.t 102), []⟩ <|
              .op ⟨(some 104), .call 305 [(.t 99), (.t 103), (.c (.int .i64 2))], []⟩ <|
              .op ⟨(some 105), .call 266 [(.t 95), (.t 104)], []⟩ <|
              .op ⟨(some 106), .call 320 [(.t 94), (.t 105)], []⟩ <|
              .op ⟨(some 5), .mov (.t 106), []⟩ <|
              .nil)) (
            .seq (.ops (
              .op ⟨(some 107), .mov (.t 0), []⟩ <|
              .op ⟨(some 108), .nilc (.t 107), []⟩ <|
              .op ⟨(some 109), .fieldA 9 (.t 108), []⟩ <|
              .op ⟨none, .store 1 (.t 109) (.c (.int .i64 11)), []⟩ <|
              .nil)) (
            .seq (.seq (.ops (
              .op ⟨(some 110), .mov (.t 5), []⟩ <|
              .op ⟨(some 111), .cmp .geq .i64 (.t 110) (.c (.int .i64 0)), []⟩ <|
              .op ⟨(some 112), .mov (.t 111), []⟩ <|
              .grd 112 true [⟨(some 113), .mov (.t 0), []⟩,
                  ⟨(some 114), .nilc (.t 113), []⟩,
                  ⟨(some 115), .fieldA 17 (.t 114), []⟩,
                  ⟨(some 116), .load1 (.t 115), []⟩,
                  ⟨(some 117), .cmp .neq .u64 (.t 116) (.c (.int .u64 0)), []⟩] <|
              .op ⟨(some 118), .pick (.t 112) (.t 117) (.c (.bool false)), []⟩ <|
              .op ⟨(some 119), .mov (.t 118), []⟩ <|
              .grd 119 true [⟨(some 120), .mov (.t 0), []⟩,
                  ⟨(some 121), .nilc (.t 120), []⟩,
                  ⟨(some 122), .fieldA 17 (.t 121), []⟩,
                  ⟨(some 123), .load1 (.t 122), []⟩,
                  ⟨(some 124), .mov (.t 0), []⟩,
                  ⟨(some 125), .nilc (.t 124), []⟩,
                  ⟨(some 126), .fieldA 10 (.t 125), []⟩,
                  ⟨(some 127), .load1 (.t 126), []⟩,
                  ⟨(some 128), .cmp .leq .u64 (.t 123) (.t 127), []⟩] <|
              .op ⟨(some 129), .pick (.t 119) (.t 128) (.c (.bool false)), []⟩ <|
              .nil)) (
            .cond (.t 129) (.ops (
                .op ⟨(some 130), .mov (.t 0), []⟩ <|
                .op ⟨(some 131), .nilc (.t 130), []⟩ <|
                .op ⟨(some 132), .fieldA 9 (.t 131), []⟩ <|
                .op ⟨none, .store 1 (.t 132) (.c (.int .i64 10)), []⟩ <|
                .nil)) (.skip))) (
            .ops (
              .op ⟨(some 133), .mov (.t 0), []⟩ <|
              .op ⟨(some 134), .mov (.t 5), []⟩ <|
              .op ⟨(some 135), .call 400 [(.t 133), (.t 134)], []⟩ <|
              .nil))))) (.seq (.ops (
              .op ⟨(some 137), .cmp .eql .i64 (.t 11) (.c (.int .i64 10)), []⟩ <|
              .op ⟨(some 136), .mov (.t 137), []⟩ <|
              .nil)) (
            .cond (.t 136) (.seq (.ops (
                .op ⟨(some 138), .mov (.t 1), []⟩ <|
                .op ⟨(some 139), .mov (.t 0), []⟩ <|
                .op ⟨(some 140), .nilc (.t 139), []⟩ <|
                .op ⟨(some 141), .fieldA 2 (.t 140), []⟩ <|
                .op ⟨(some 142), .loadN 6 (.t 141), []⟩ <|
                .op ⟨(some 143), .mov (.t 0), []⟩ <|
                .op ⟨(some 144), .nilc (.t 143), []⟩ <|
                .op ⟨(some 145), .fieldA 14 (.t 144), []⟩ <|
                .op ⟨(some 146), .load1 (.t 145), []⟩ <|
                .op ⟨(some 147), .call 305 [(.t 142), (.t 146), (.c (.int .i64 2))], []⟩ <|
                .op ⟨(some 148), .call 203 [(.t 138), (.t 147), (.c (.int .u64 0))], []⟩ <|
                .nil)) (
              .seq (.ops (
                .op ⟨(some 149), .mov (.t 0), []⟩ <|
                .op ⟨(some 150), .nilc (.t 149), []⟩ <|
                .op ⟨(some 151), .fieldA 1 (.t 150), []⟩ <|
                .op ⟨(some 152), .load1 (.t 151), []⟩ <|
                .op ⟨(some 153), .arith .add .i64 (.t 152) (.c (.int .i64 1)), []⟩ <|
                .op ⟨(some 154), .nilc (.t 149), []⟩ <|
                .op ⟨(some 155), .fieldA 1 (.t 154), []⟩ <|
                .op ⟨none, .store 1 (.t 155) (.t 153), []⟩ <|
                .nil)) (
              .ops (
                .op ⟨(some 156), .mov (.t 0), []⟩ <|
                .op ⟨(some 157), .nilc (.t 156), []⟩ <|
                .op ⟨(some 158), .fieldA 9 (.t 157), []⟩ <|
                .op ⟨none, .store 1 (.t 158) (.c (.int .i64 11)), []⟩ <|
                .nil)))) (.seq (.ops (
                .op ⟨(some 160), .cmp .eql .i64 (.t 11) (.c (.int .i64 11)), []⟩ <|
                .op ⟨(some 159), .mov (.t 160), []⟩ <|
                .nil)) (
              .cond (.t 159) (.seq (.ops (
                  .op ⟨(some 162), .mov (.t 0), []⟩ <|
                  .op ⟨(some 163), .nilc (.t 162), []⟩ <|
                  .op ⟨(some 164), .fieldA 16 (.t 163), []⟩ <|
                  .op ⟨(some 165), .load1 (.t 164), []⟩ <|
                  .op ⟨(some 166), .call 402 [(.t 165)], []⟩ <|
                  .op ⟨(some 161), .mov (.t 166), []⟩ <|
                  .op ⟨(some 167), .extract (.t 161) 0, []⟩ <|
                  .op ⟨(some 168), .extract (.t 161) 1, []⟩ <|
                  .op ⟨(some 6), .mov (.t 167), []⟩ <|
                  .op ⟨(some 7), .mov (.t 168), []⟩ <|
                  .nil)) (
                .seq (.ops (
                  .op ⟨(some 169), .mov (.t 0), []⟩ <|
                  .op ⟨(some 170), .nilc (.t 169), []⟩ <|
                  .op ⟨(some 171), .fieldA 9 (.t 170), []⟩ <|
                  .op ⟨none, .store 1 (.t 171) (.c (.int .i64 12)), []⟩ <|
                  .nil)) (
                .seq (.ops (
                  .op ⟨(some 172), .mov (.t 1), []⟩ <|
                  .op ⟨(some 173), .mov (.t 0), []⟩ <|
                  .op ⟨(some 174), .nilc (.t 173), []⟩ <|
                  .op ⟨(some 175), .fieldA 2 (.t 174), []⟩ <|
                  .op ⟨(some 176), .loadN 6 (.t 175), []⟩ <|
                  .op ⟨(some 177), .mov (.t 0), []⟩ <|
                  .op ⟨(some 178), .nilc (.t 177), []⟩ <|
                  .op ⟨(some 179), .fieldA 14 (.t 178), []⟩ <|
                  .op ⟨(some 180), .load1 (.t 179), []⟩ <|
                  .op ⟨(some 182), .mov (.t 0), []⟩ <|
                  .op ⟨(some 183), .nilc (.t 182), []⟩ <|
                  .op ⟨(some 184), .fieldA 16 (.t 183), []⟩ <|
                  .op ⟨(some 185), .load1 (.t 184), []⟩ <|
                  .op ⟨(some 186), .mov (.t 6), []⟩ <|
                  .op ⟨(some 181), .call 261 [(.t 176), (.t 180)], [{ g := none, op := .load1 (.t 184), d := 185 }]⟩ <|
                  .op ⟨(some 187), .call 269 [(.t 172), (.t 181), (.t 185), (.t 186)], []⟩ <|
                  .nil)) (
                .cond (.t 187) (.ops (
                    .op ⟨(some 188), .mov (.t 0), []⟩ <|
                    .op ⟨(some 189), .nilc (.t 188), []⟩ <|
                    .op ⟨(some 190), .fieldA 9 (.t 189), []⟩ <|
                    .op ⟨none, .store 1 (.t 190) (.c (.int .i64 13)), []⟩ <|
                    .nil)) (.skip))))) (.seq (.ops (
                  .op ⟨(some 192), .cmp .eql .i64 (.t 11) (.c (.int .i64 12)), []⟩ <|
                  .op ⟨(some 191), .mov (.t 192), []⟩ <|
                  .nil)) (
                .cond (.t 191) (.ops (
                    .op ⟨(some 193), .mov (.t 0), []⟩ <|
                    .op ⟨(some 194), .mov (.t 0), []⟩ <|
                    .op ⟨(some 195), .mov (.t 1), []⟩ <|
                    .op ⟨(some 196), .mov (.t 0), []⟩ <|
                    .op ⟨(some 197), .nilc (.t 196), []⟩ <|
                    .op ⟨(some 198), .fieldA 2 (.t 197), []⟩ <|
                    .op ⟨(some 199), .loadN 6 (.t 198), []⟩ <|
                    .op ⟨(some 200), .mov (.t 0), []⟩ <|
                    .op ⟨(some 201), .nilc (.t 200), []⟩ <|
                    .op ⟨(some 202), .fieldA 14 (.t 201), []⟩ <|
                    .op ⟨(some 203), .load1 (.t 202), []⟩ <|
                    .op ⟨(some 204), .call 261 [(.t 199), (.t 203)], []⟩ <|
                    .op ⟨(some 205), .call 266 [(.t 195), (.t 204)], []⟩ <|
                    .op ⟨(some 206), .nilc (.t 193), []⟩ <|
                    .op ⟨(some 207), .fieldA 16 (.t 206), []⟩ <|
                    .op ⟨none, .store 1 (.t 207) (.t 205), []⟩ <|
                    .op ⟨(some 208), .nilc (.t 194), []⟩ <|
                    .op ⟨(some 209), .fieldA 9 (.t 208), []⟩ <|
                    .op ⟨none, .store 1 (.t 209) (.c (.int .i64 11)), []⟩ <|
                    .nil)) (.seq (.ops (
                    .op ⟨(some 211), .cmp .eql .i64 (.t 11) (.c (.int .i64 13)), []⟩ <|
                    .op ⟨(some 210), .mov (.t 211), []⟩ <|
                    .nil)) (
                  .cond (.t 210) (.seq (.ops (
                      .op ⟨(some 212), .mov (.t 1), []⟩ <|
                      .op ⟨(some 213), .call 268 [(.t 212), (.c (.int .i64 2)), (.c (.int .u64 18446744073709551615))], []⟩ <|
                      .nil)) (
                    .ops (
                      .op ⟨(some 214), .mov (.t 0), []⟩ <|
                      .op ⟨(some 215), .call 403 [(.t 214)], []⟩ <|
                      .nil))) (.skip))))))))))))))))))

def mark_Mark_through_hs : List (List Nat × List Nat) := []

end Wm.F
end

section
/- PRINTED by my tool (wip/wm/tool/Gen.lean): a function as one of my machine. -/
namespace Wm.F
open Wm
set_option maxRecDepth 100000

/-- 271: slices.Clone[[]uint64,uint64] -/
def slices_Clone___uint64_uint64_ : AFunc where
  closed := false
  nparams := 1
  ntmps := 8
  results := [.tmp 2]
  body := .seq (.ops (
      .op ⟨(some 2), .mov (.c .nilsl), []⟩ <|
      .nil)) (
    .seq (.seq (.ops (
      .op ⟨(some 3), .mov (.t 0), []⟩ <|
      .op ⟨(some 4), .eq false .sl (.t 3) (.c .nilsl), []⟩ <|
      .nil)) (
    .cond (.t 4) (.seq (.ops (
        .op ⟨(some 2), .mov (.c .nilsl), []⟩ <|
        .nil)) (
      .ret)) (.skip))) (
    .seq (.ops (
      .op ⟨(some 5), .buildSl 1 0 [(.int .u64 0)] [], []⟩ <|
      .op ⟨(some 6), .mov (.t 0), []⟩ <|
      .op ⟨(some 7), .append 1 8 (.t 5) (.t 6), []⟩ <|
      .op ⟨(some 2), .mov (.t 7), []⟩ <|
      .nil)) (
    .ret)))

def slices_Clone___uint64_uint64__hs : List (List Nat × List Nat) := []

end Wm.F
end

section
/- PRINTED by my tool (wip/wm/tool/Gen.lean): a function as one of my machine. -/
namespace Wm.F
open Wm
set_option maxRecDepth 100000

/-- 261: withy/plan.Header -/
def plan_Header : AFunc where
  closed := true
  nparams := 2
  ntmps := 8
  results := [.tmp 4]
  body := .seq (.ops (
      .op ⟨(some 2), .box (.t 0), []⟩ <|
      .op ⟨(some 4), .mov (.c (.int .i64 0)), []⟩ <|
      .nil)) (
    .seq (.ops (
      .op ⟨(some 5), .loadN 6 (.t 2), []⟩ <|
      .op ⟨(some 6), .mov (.t 1), []⟩ <|
      .op ⟨(some 7), .call 375 [(.t 5), (.t 6), (.c (.int .i64 0))], []⟩ <|
      .op ⟨(some 4), .mov (.t 7), []⟩ <|
      .nil)) (
    .ret))

def plan_Header_hs : List (List Nat × List Nat) := []

end Wm.F
end

section
/- PRINTED by my tool (wip/wm/tool/Gen.lean): a function as one of my machine. -/
namespace Wm.F
open Wm
set_option maxRecDepth 100000

/-- 264: withy/plan.Size -/
def plan_Size : AFunc where
  closed := true
  nparams := 1
  ntmps := 14
  results := [.tmp 2]
  body := .seq (.ops (
      .op ⟨(some 1), .box (.t 0), []⟩ <|
      .op ⟨(some 2), .mov (.c (.int .i64 0)), []⟩ <|
      .nil)) (
    .seq (.seq (.ops (
      .op ⟨(some 3), .loadN 6 (.t 1), []⟩ <|
      .op ⟨(some 4), .call 263 [(.t 3)], []⟩ <|
      .op ⟨(some 5), .not (.t 4), []⟩ <|
      .nil)) (
    .cond (.t 5) (.seq (.ops (
        .op ⟨(some 2), .mov (.c (.int .i64 0)), []⟩ <|
        .nil)) (
      .ret)) (.skip))) (
    .seq (.ops (
      .op ⟨(some 6), .loadN 6 (.t 1), []⟩ <|
      .op ⟨(some 8), .fieldA 0 (.t 1), []⟩ <|
      .op ⟨(some 9), .load1 (.t 8), []⟩ <|
      .op ⟨(some 10), .loadN 6 (.t 1), []⟩ <|
      .op ⟨(some 7), .call 377 [(.t 6)], [{ g := none, op := .loadN 6 (.t 1), d := 10 }, { g := none, op := .load1 (.t 8), d := 9 }]⟩ <|
      .op ⟨(some 11), .call 378 [(.t 10)], [{ g := none, op := .load1 (.t 8), d := 9 }]⟩ <|
      .op ⟨(some 12), .arith .mul .i64 (.t 9) (.t 11), []⟩ <|
      .op ⟨(some 13), .arith .add .i64 (.t 7) (.t 12), []⟩ <|
      .op ⟨(some 2), .mov (.t 13), []⟩ <|
      .nil)) (
    .ret)))

def plan_Size_hs : List (List Nat × List Nat) := []

end Wm.F
end

section
/- PRINTED by my tool (wip/wm/tool/Gen.lean): a function as one of my machine. -/
namespace Wm.F
open Wm
set_option maxRecDepth 100000

/-- 265: withy/head.Unpack -/
def head_Unpack : AFunc where
  closed := true
  nparams := 1
  ntmps := 53
  results := [.cell true 6 2, .tmp 3]
  body := .seq (.ops (
      .op ⟨(some 2), .alloc [(.int .i64 0), (.int .i64 0), (.bool false), (.int .i64 0), (.int .i64 0), (.int .i64 0)], []⟩ <|
      .op ⟨(some 3), .mov (.c (.bool false)), []⟩ <|
      .nil)) (
    .seq (.ops (
      .op ⟨(some 7), .mov (.t 0), []⟩ <|
      .op ⟨(some 8), .buildSl 1 7 [(.int .i64 0)] [(0, 1, (.c (.int .i64 3))), (1, 1, (.c (.int .i64 1))), (2, 1, (.c (.int .i64 1))), (3, 1, (.c (.int .i64 4))), (4, 1, (.c (.int .i64 7))), (5, 1, (.c (.int .i64 32))), (6, 1, (.c (.int .i64 16)))], []⟩ <|
      .op ⟨(some 9), .call 379 [(.t 7), (.t 8)], []⟩ <|
      .op ⟨(some 6), .mov (.t 9), []⟩ <|
      .op ⟨(some 10), .extract (.t 6) 0, []⟩ <|
      .op ⟨(some 11), .extract (.t 6) 1, []⟩ <|
      .op ⟨(some 4), .mov (.t 10), []⟩ <|
      .op ⟨(some 5), .mov (.t 11), []⟩ <|
      .nil)) (
    .seq (.seq (.ops (
      .op ⟨(some 12), .mov (.t 4), []⟩ <|
      .op ⟨(some 13), .lenSl (.t 12), []⟩ <|
      .op ⟨(some 14), .cmp .lss .i64 (.t 13) (.c (.int .i64 7)), []⟩ <|
      .op ⟨(some 15), .mov (.t 14), []⟩ <|
      .grd 15 false [⟨(some 16), .mov (.t 4), []⟩,
          ⟨(some 17), .indexA 1 (.t 16) (.c (.int .i64 0)), []⟩,
          ⟨(some 18), .load1 (.t 17), []⟩,
          ⟨(some 19), .cmp .gtr .u64 (.t 18) (.c (.int .u64 4)), []⟩] <|
      .op ⟨(some 20), .pick (.t 15) (.c (.bool true)) (.t 19), []⟩ <|
      .op ⟨(some 21), .mov (.t 20), []⟩ <|
      .grd 21 false [⟨(some 22), .mov (.t 4), []⟩,
          ⟨(some 23), .indexA 1 (.t 22) (.c (.int .i64 4)), []⟩,
          ⟨(some 24), .load1 (.t 23), []⟩,
          ⟨(some 25), .cmp .neq .u64 (.t 24) (.c (.int .u64 0)), []⟩] <|
      .op ⟨(some 26), .pick (.t 21) (.c (.bool true)) (.t 25), []⟩ <|
      .nil)) (
    .cond (.t 26) (.seq (.ops (
        .op ⟨(some 27), .build [(.int .i64 0), (.int .i64 0), (.bool false), (.int .i64 0), (.int .i64 0), (.int .i64 0)] [], []⟩ <|
        .op ⟨none, .store 6 (.t 2) (.t 27), []⟩ <|
        .op ⟨(some 3), .mov (.c (.bool false)), []⟩ <|
        .nil)) (
      .ret)) (.skip))) (
    .seq (.ops (
      .op ⟨(some 28), .mov (.t 4), []⟩ <|
      .op ⟨(some 29), .indexA 1 (.t 28) (.c (.int .i64 0)), []⟩ <|
      .op ⟨(some 30), .load1 (.t 29), []⟩ <|
      .op ⟨(some 31), .conv .i64 (.t 30), []⟩ <|
      .op ⟨(some 32), .mov (.t 4), []⟩ <|
      .op ⟨(some 33), .indexA 1 (.t 32) (.c (.int .i64 1)), []⟩ <|
      .op ⟨(some 34), .load1 (.t 33), []⟩ <|
      .op ⟨(some 35), .conv .i64 (.t 34), []⟩ <|
      .op ⟨(some 36), .mov (.t 4), []⟩ <|
      .op ⟨(some 37), .indexA 1 (.t 36) (.c (.int .i64 2)), []⟩ <|
      .op ⟨(some 38), .load1 (.t 37), []⟩ <|
      .op ⟨(some 39), .cmp .eql .u64 (.t 38) (.c (.int .u64 1)), []⟩ <|
      .op ⟨(some 40), .mov (.t 4), []⟩ <|
      .op ⟨(some 41), .indexA 1 (.t 40) (.c (.int .i64 3)), []⟩ <|
      .op ⟨(some 42), .load1 (.t 41), []⟩ <|
      .op ⟨(some 43), .conv .i64 (.t 42), []⟩ <|
      .op ⟨(some 44), .mov (.t 4), []⟩ <|
      .op ⟨(some 45), .indexA 1 (.t 44) (.c (.int .i64 5)), []⟩ <|
      .op ⟨(some 46), .load1 (.t 45), []⟩ <|
      .op ⟨(some 47), .conv .i64 (.t 46), []⟩ <|
      .op ⟨(some 48), .mov (.t 4), []⟩ <|
      .op ⟨(some 49), .indexA 1 (.t 48) (.c (.int .i64 6)), []⟩ <|
      .op ⟨(some 50), .load1 (.t 49), []⟩ <|
      .op ⟨(some 51), .conv .i64 (.t 50), []⟩ <|
      .op ⟨(some 52), .build [(.int .i64 0), (.int .i64 0), (.bool false), (.int .i64 0), (.int .i64 0), (.int .i64 0)] [(0, 1, (.t 31)), (1, 1, (.t 35)), (2, 1, (.t 39)), (3, 1, (.t 43)), (4, 1, (.t 47)), (5, 1, (.t 51))], []⟩ <|
      .op ⟨none, .store 6 (.t 2) (.t 52), []⟩ <|
      .op ⟨(some 3), .mov (.c (.bool true)), []⟩ <|
      .nil)) (
    .ret))))

def head_Unpack_hs : List (List Nat × List Nat) := []

end Wm.F
end

section
/- PRINTED by my tool (wip/wm/tool/Gen.lean): a function as one of my machine. -/
namespace Wm.F
open Wm
set_option maxRecDepth 100000

/-- 305: withy/plan.Body -/
def plan_Body : AFunc where
  closed := true
  nparams := 3
  ntmps := 18
  results := [.tmp 6]
  body := .seq (.ops (
      .op ⟨(some 3), .box (.t 0), []⟩ <|
      .op ⟨(some 6), .mov (.c (.int .i64 0)), []⟩ <|
      .nil)) (
    .seq (.seq (.ops (
      .op ⟨(some 7), .mov (.t 2), []⟩ <|
      .op ⟨(some 8), .cmp .lss .i64 (.t 7) (.c (.int .i64 0)), []⟩ <|
      .op ⟨(some 9), .mov (.t 8), []⟩ <|
      .grd 9 false [⟨(some 10), .mov (.t 2), []⟩,
          ⟨(some 11), .cmp .gtr .i64 (.t 10) (.c (.int .i64 8)), []⟩] <|
      .op ⟨(some 12), .pick (.t 9) (.c (.bool true)) (.t 11), []⟩ <|
      .nil)) (
    .cond (.t 12) (.seq (.ops (
        .op ⟨(some 6), .mov (.c (.int .i64 (-1))), []⟩ <|
        .nil)) (
      .ret)) (.skip))) (
    .seq (.ops (
      .op ⟨(some 13), .loadN 6 (.t 3), []⟩ <|
      .op ⟨(some 14), .mov (.t 1), []⟩ <|
      .op ⟨(some 15), .mov (.t 2), []⟩ <|
      .op ⟨(some 16), .arith .add .i64 (.c (.int .i64 2)) (.t 15), []⟩ <|
      .op ⟨(some 17), .call 375 [(.t 13), (.t 14), (.t 16)], []⟩ <|
      .op ⟨(some 6), .mov (.t 17), []⟩ <|
      .nil)) (
    .ret)))

def plan_Body_hs : List (List Nat × List Nat) := []

end Wm.F
end

section
/- PRINTED by my tool (wip/wm/tool/Gen.lean): a function as one of my machine. -/
namespace Wm.F
open Wm
set_option maxRecDepth 100000

/-- 316: withy/mark.Found$1 -/
def mark_Found_1 : AFunc where
  closed := false
  nparams := 6
  ntmps := 42
  results := []
  body := .seq (.seq (.ops (
      .op ⟨(some 9), .mov (.t 0), []⟩ <|
      .op ⟨(some 10), .cmp .lss .i64 (.t 9) (.c (.int .i64 0)), []⟩ <|
      .op ⟨(some 11), .mov (.t 10), []⟩ <|
      .grd 11 false [⟨(some 12), .mov (.t 0), []⟩,
          ⟨(some 13), .fieldA 0 (.t 1), []⟩,
          ⟨(some 14), .load1 (.t 13), []⟩,
          ⟨(some 15), .cmp .geq .i64 (.t 12) (.t 14), []⟩] <|
      .op ⟨(some 16), .pick (.t 11) (.c (.bool true)) (.t 15), []⟩ <|
      .op ⟨(some 17), .mov (.t 16), []⟩ <|
      .grd 17 false [⟨(some 18), .load1 (.t 2), []⟩,
          ⟨(some 19), .mov (.t 0), []⟩,
          ⟨(some 20), .indexA 1 (.t 18) (.t 19), []⟩,
          ⟨(some 21), .load1 (.t 20), []⟩] <|
      .op ⟨(some 22), .pick (.t 17) (.c (.bool true)) (.t 21), []⟩ <|
      .nil)) (
    .cond (.t 22) (.ret) (.skip))) (
    .seq (.ops (
      .op ⟨(some 24), .load1 (.t 3), []⟩ <|
      .op ⟨(some 25), .loadN 6 (.t 1), []⟩ <|
      .op ⟨(some 26), .mov (.t 0), []⟩ <|
      .op ⟨(some 30), .load1 (.t 4), []⟩ <|
      .op ⟨(some 27), .call 261 [(.t 25), (.t 26)], [{ g := none, op := .load1 (.t 4), d := 30 }, { g := none, op := .load1 (.t 3), d := 24 }]⟩ <|
      .op ⟨(some 28), .indexA 1 (.t 24) (.t 27), []⟩ <|
      .op ⟨(some 29), .load1 (.t 28), []⟩ <|
      .op ⟨(some 31), .call 267 [(.t 29), (.t 30)], []⟩ <|
      .op ⟨(some 23), .mov (.t 31), []⟩ <|
      .op ⟨(some 32), .extract (.t 23) 0, []⟩ <|
      .op ⟨(some 33), .extract (.t 23) 1, []⟩ <|
      .op ⟨(some 7), .mov (.t 32), []⟩ <|
      .op ⟨(some 8), .mov (.t 33), []⟩ <|
      .nil)) (
    .seq (.ops (
      .op ⟨(some 34), .mov (.t 8), []⟩ <|
      .nil)) (
    .cond (.t 34) (.seq (.ops (
        .op ⟨(some 35), .load1 (.t 2), []⟩ <|
        .op ⟨(some 36), .mov (.t 0), []⟩ <|
        .op ⟨(some 37), .indexA 1 (.t 35) (.t 36), []⟩ <|
        .op ⟨none, .store 1 (.t 37) (.c (.bool true)), []⟩ <|
        .nil)) (
      .ops (
        .op ⟨(some 38), .load1 (.t 5), []⟩ <|
        .op ⟨(some 39), .mov (.t 0), []⟩ <|
        .op ⟨(some 40), .buildSl 1 1 [(.int .i64 0)] [(0, 1, (.t 39))], []⟩ <|
        .op ⟨(some 41), .append 1 8 (.t 38) (.t 40), []⟩ <|
        .op ⟨none, .store 1 (.t 5) (.t 41), []⟩ <|
        .nil))) (.skip))))

def mark_Found_1_hs : List (List Nat × List Nat) := []

end Wm.F
end

section
/- PRINTED by my tool (wip/wm/tool/Gen.lean): a function as one of my machine. -/
namespace Wm.F
open Wm
set_option maxRecDepth 100000

/-- 317: withy/head.Marked -/
def head_Marked : AFunc where
  closed := true
  nparams := 2
  ntmps := 20
  results := [.tmp 4]
  body := .seq (.ops (
      .op ⟨(some 4), .mov (.c (.bool false)), []⟩ <|
      .nil)) (
    .seq (.ops (
      .op ⟨(some 8), .mov (.t 0), []⟩ <|
      .op ⟨(some 9), .call 380 [(.t 8)], []⟩ <|
      .op ⟨(some 7), .mov (.t 9), []⟩ <|
      .op ⟨(some 10), .extract (.t 7) 0, []⟩ <|
      .op ⟨(some 11), .extract (.t 7) 1, []⟩ <|
      .op ⟨(some 5), .alloc [(.int .i64 0), (.int .i64 0), (.bool false), (.int .i64 0), (.int .i64 0), (.int .i64 0)], []⟩ <|
      .op ⟨none, .store 6 (.t 5) (.t 10), []⟩ <|
      .op ⟨(some 6), .mov (.t 11), []⟩ <|
      .nil)) (
    .seq (.ops (
      .op ⟨(some 12), .mov (.t 6), []⟩ <|
      .op ⟨(some 13), .mov (.t 12), []⟩ <|
      .grd 13 true [⟨(some 14), .fieldA 1 (.t 5), []⟩,
          ⟨(some 15), .load1 (.t 14), []⟩,
          ⟨(some 16), .mov (.t 1), []⟩,
          ⟨(some 17), .call 381 [(.t 16)], [{ g := (some (13, true)), op := .load1 (.t 14), d := 15 }]⟩,
          ⟨(some 18), .cmp .eql .i64 (.t 15) (.t 17), []⟩] <|
      .op ⟨(some 19), .pick (.t 13) (.t 18) (.c (.bool false)), []⟩ <|
      .op ⟨(some 4), .mov (.t 19), []⟩ <|
      .nil)) (
    .ret)))

def head_Marked_hs : List (List Nat × List Nat) := []

end Wm.F
end

section
/- PRINTED by my tool (wip/wm/tool/Gen.lean): a function as one of my machine. -/
namespace Wm.F
open Wm
set_option maxRecDepth 100000

/-- 318: withy/tag.EntryParts -/
def tag_EntryParts : AFunc where
  closed := true
  nparams := 1
  ntmps := 10
  results := [.tmp 2, .tmp 3]
  body := .seq (.ops (
      .op ⟨(some 2), .mov (.c (.int .u64 0)), []⟩ <|
      .op ⟨(some 3), .mov (.c (.int .i64 0)), []⟩ <|
      .nil)) (
    .seq (.ops (
      .op ⟨(some 4), .mov (.t 0), []⟩ <|
      .op ⟨(some 5), .call 396 [(.t 4), (.c (.int .i64 32)), (.c (.int .i64 32))], []⟩ <|
      .op ⟨(some 6), .mov (.t 0), []⟩ <|
      .op ⟨(some 7), .call 396 [(.t 6), (.c (.int .i64 0)), (.c (.int .i64 32))], []⟩ <|
      .op ⟨(some 8), .conv .i64 (.t 7), []⟩ <|
      .op ⟨(some 9), .arith .sub .i64 (.t 8) (.c (.int .i64 1)), []⟩ <|
      .op ⟨(some 2), .mov (.t 5), []⟩ <|
      .op ⟨(some 3), .mov (.t 9), []⟩ <|
      .nil)) (
    .ret))

def tag_EntryParts_hs : List (List Nat × List Nat) := []

end Wm.F
end

section
/- PRINTED by my tool (wip/wm/tool/Gen.lean): a function as one of my machine. -/
namespace Wm.F
open Wm
set_option maxRecDepth 100000

/-- 319: withy/plan.Entry -/
def plan_Entry : AFunc where
  closed := true
  nparams := 3
  ntmps := 13
  results := [.tmp 6]
  body := .seq (.ops (
      .op ⟨(some 3), .box (.t 0), []⟩ <|
      .op ⟨(some 6), .mov (.c (.int .i64 0)), []⟩ <|
      .nil)) (
    .seq (.ops (
      .op ⟨(some 7), .loadN 6 (.t 3), []⟩ <|
      .op ⟨(some 8), .mov (.t 1), []⟩ <|
      .op ⟨(some 9), .fieldA 3 (.t 3), []⟩ <|
      .op ⟨(some 10), .load1 (.t 9), []⟩ <|
      .op ⟨(some 11), .mov (.t 2), []⟩ <|
      .op ⟨(some 12), .call 397 [(.t 7), (.t 8), (.c (.int .i64 1)), (.t 10), (.t 11)], []⟩ <|
      .op ⟨(some 6), .mov (.t 12), []⟩ <|
      .nil)) (
    .ret))

def plan_Entry_hs : List (List Nat × List Nat) := []

end Wm.F
end

section
/- PRINTED by my tool (wip/wm/tool/Gen.lean): a function as one of my machine. -/
namespace Wm.F
open Wm
set_option maxRecDepth 100000

/-- 320: (*withy/mark.Mark).named -/
def mark_Mark_named : AFunc where
  closed := false
  nparams := 2
  ntmps := 16
  results := [.tmp 4]
  body := .seq (.ops (
      .op ⟨(some 4), .mov (.c (.int .i64 0)), []⟩ <|
      .nil)) (
    .seq (.seq (.ops (
      .op ⟨(some 5), .mov (.t 1), []⟩ <|
      .op ⟨(some 6), .mov (.t 0), []⟩ <|
      .op ⟨(some 7), .nilc (.t 6), []⟩ <|
      .op ⟨(some 8), .fieldA 2 (.t 7), []⟩ <|
      .op ⟨(some 9), .fieldA 0 (.t 8), []⟩ <|
      .op ⟨(some 10), .load1 (.t 9), []⟩ <|
      .op ⟨(some 11), .conv .u64 (.t 10), []⟩ <|
      .op ⟨(some 12), .cmp .gtr .u64 (.t 5) (.t 11), []⟩ <|
      .nil)) (
    .cond (.t 12) (.seq (.ops (
        .op ⟨(some 4), .mov (.c (.int .i64 (-1))), []⟩ <|
        .nil)) (
      .ret)) (.skip))) (
    .seq (.ops (
      .op ⟨(some 13), .mov (.t 1), []⟩ <|
      .op ⟨(some 14), .conv .i64 (.t 13), []⟩ <|
      .op ⟨(some 15), .arith .sub .i64 (.t 14) (.c (.int .i64 1)), []⟩ <|
      .op ⟨(some 4), .mov (.t 15), []⟩ <|
      .nil)) (
    .ret)))

def mark_Mark_named_hs : List (List Nat × List Nat) := []

end Wm.F
end

section
/- PRINTED by my tool (wip/wm/tool/Gen.lean): a function as one of my machine. -/
namespace Wm.F
open Wm
set_option maxRecDepth 100000

/-- 321: withy/plan.Start -/
def plan_Start : AFunc where
  closed := true
  nparams := 2
  ntmps := 11
  results := [.tmp 4]
  body := .seq (.ops (
      .op ⟨(some 2), .box (.t 0), []⟩ <|
      .op ⟨(some 4), .mov (.c (.int .i64 0)), []⟩ <|
      .nil)) (
    .seq (.ops (
      .op ⟨(some 5), .loadN 6 (.t 2), []⟩ <|
      .op ⟨(some 6), .mov (.t 1), []⟩ <|
      .op ⟨(some 7), .fieldA 3 (.t 2), []⟩ <|
      .op ⟨(some 8), .load1 (.t 7), []⟩ <|
      .op ⟨(some 9), .arith .add .i64 (.c (.int .i64 1)) (.t 8), []⟩ <|
      .op ⟨(some 10), .call 397 [(.t 5), (.t 6), (.t 9), (.c (.int .i64 2)), (.c (.int .i64 1))], []⟩ <|
      .op ⟨(some 4), .mov (.t 10), []⟩ <|
      .nil)) (
    .ret))

def plan_Start_hs : List (List Nat × List Nat) := []

end Wm.F
end

section
/- PRINTED by my tool (wip/wm/tool/Gen.lean): a function as one of my machine. -/
namespace Wm.F
open Wm
set_option maxRecDepth 100000

def withyref13_Laid_c8 : ACode :=
  .seq (.seq (.ops (
    .op ⟨(some 151), .mov (.t 17), []⟩ <|
    .op ⟨(some 152), .mov (.t 3), []⟩ <|
    .op ⟨(some 153), .lenSl (.t 152), []⟩ <|
    .op ⟨(some 154), .cmp .lss .i64 (.t 151) (.t 153), []⟩ <|
    .op ⟨(some 155), .mov (.t 154), []⟩ <|
    .grd 155 true [⟨(some 156), .mov (.t 17), []⟩,
        ⟨(some 157), .fieldA 2 (.t 4), []⟩,
        ⟨(some 158), .load1 (.t 157), []⟩,
        ⟨(some 159), .cmp .lss .i64 (.t 156) (.t 158), []⟩] <|
    .op ⟨(some 160), .pick (.t 155) (.t 159) (.c (.bool false)), []⟩ <|
    .nil)) (
  .cond (.t 160) (.skip) (.exit 6))) (
  .seq (.block 7 (.ops (
    .op ⟨(some 163), .mov (.t 9), []⟩ <|
    .op ⟨(some 164), .loadN 6 (.t 4), []⟩ <|
    .op ⟨(some 165), .mov (.t 17), []⟩ <|
    .op ⟨(some 166), .build [(.str ⟨⟨[]⟩⟩), (.int .i64 0), (.int .i64 0)] [(0, 1, (.c (.str ⟨⟨[118, 105, 101, 119]⟩⟩))), (1, 1, (.t 165))], []⟩ <|
    .op ⟨(some 168), .mov (.t 3), []⟩ <|
    .op ⟨(some 169), .mov (.t 17), []⟩ <|
    .op ⟨(some 170), .indexA 1 (.t 168) (.t 169), []⟩ <|
    .op ⟨(some 171), .load1 (.t 170), []⟩ <|
    .op ⟨(some 167), .call 108 [(.t 164), (.t 166)], [{ g := none, op := .load1 (.t 170), d := 171 }]⟩ <|
    .op ⟨(some 172), .indexA 1 (.t 163) (.t 167), []⟩ <|
    .op ⟨none, .store 1 (.t 172) (.t 171), []⟩ <|
    .nil))) (
  .ops (
    .op ⟨(some 161), .mov (.t 17), []⟩ <|
    .op ⟨(some 162), .arith .add .i64 (.t 161) (.c (.int .i64 1)), []⟩ <|
    .op ⟨(some 17), .mov (.t 162), []⟩ <|
    .nil)))

def withyref13_Laid_c7 : ACode :=
  .seq (.ops (
    .op ⟨(some 173), .mov (.t 9), []⟩ <|
    .op ⟨(some 174), .loadN 6 (.t 4), []⟩ <|
    .op ⟨(some 175), .mov (.t 9), []⟩ <|
    .op ⟨(some 176), .call 297 [(.t 174), (.t 175)], []⟩ <|
    .op ⟨(some 177), .conv .u64 (.t 176), []⟩ <|
    .op ⟨(some 178), .indexA 1 (.t 173) (.c (.int .i64 2)), []⟩ <|
    .op ⟨none, .store 1 (.t 178) (.t 177), []⟩ <|
    .nil)) (
  .seq (.ops (
    .op ⟨(some 179), .mov (.t 9), []⟩ <|
    .op ⟨(some 8), .mov (.t 179), []⟩ <|
    .nil)) (
  .ret))

def withyref13_Laid_c6 : ACode :=
  .seq (.seq (.ops (
    .op ⟨(some 100), .mov (.t 14), []⟩ <|
    .op ⟨(some 101), .mov (.t 2), []⟩ <|
    .op ⟨(some 102), .lenSl (.t 101), []⟩ <|
    .op ⟨(some 103), .cmp .lss .i64 (.t 100) (.t 102), []⟩ <|
    .op ⟨(some 104), .mov (.t 103), []⟩ <|
    .grd 104 true [⟨(some 105), .mov (.t 14), []⟩,
        ⟨(some 106), .fieldA 2 (.t 4), []⟩,
        ⟨(some 107), .load1 (.t 106), []⟩,
        ⟨(some 108), .fieldA 3 (.t 4), []⟩,
        ⟨(some 109), .load1 (.t 108), []⟩,
        ⟨(some 110), .arith .add .i64 (.t 109) (.c (.int .i64 1)), []⟩,
        ⟨(some 111), .arith .mul .i64 (.t 107) (.t 110), []⟩,
        ⟨(some 112), .cmp .lss .i64 (.t 105) (.t 111), []⟩] <|
    .op ⟨(some 113), .pick (.t 104) (.t 112) (.c (.bool false)), []⟩ <|
    .nil)) (
  .cond (.t 113) (.skip) (.exit 4))) (
  .seq (.block 5 (.seq (.ops (
    .op ⟨(some 116), .mov (.t 14), []⟩ <|
    .op ⟨(some 117), .fieldA 2 (.t 4), []⟩ <|
    .op ⟨(some 118), .load1 (.t 117), []⟩ <|
    .op ⟨(some 119), .arith .rem .i64 (.t 116) (.t 118), []⟩ <|
    .op ⟨(some 15), .mov (.t 119), []⟩ <|
    .nil)) (
  .seq (.ops (
    .op ⟨(some 120), .mov (.t 14), []⟩ <|
    .op ⟨(some 121), .fieldA 2 (.t 4), []⟩ <|
    .op ⟨(some 122), .load1 (.t 121), []⟩ <|
    .op ⟨(some 123), .arith .quo .i64 (.t 120) (.t 122), []⟩ <|
    .op ⟨(some 16), .mov (.t 123), []⟩ <|
    .nil)) (
  .seq (.ops (
    .op ⟨(some 124), .mov (.t 16), []⟩ <|
    .op ⟨(some 125), .fieldA 3 (.t 4), []⟩ <|
    .op ⟨(some 126), .load1 (.t 125), []⟩ <|
    .op ⟨(some 127), .cmp .lss .i64 (.t 124) (.t 126), []⟩ <|
    .nil)) (
  .cond (.t 127) (.ops (
      .op ⟨(some 128), .mov (.t 9), []⟩ <|
      .op ⟨(some 129), .loadN 6 (.t 4), []⟩ <|
      .op ⟨(some 130), .mov (.t 15), []⟩ <|
      .op ⟨(some 131), .mov (.t 16), []⟩ <|
      .op ⟨(some 132), .build [(.str ⟨⟨[]⟩⟩), (.int .i64 0), (.int .i64 0)] [(0, 1, (.c (.str ⟨⟨[101, 110, 116, 114, 121]⟩⟩))), (1, 1, (.t 130)), (2, 1, (.t 131))], []⟩ <|
      .op ⟨(some 134), .mov (.t 2), []⟩ <|
      .op ⟨(some 135), .mov (.t 14), []⟩ <|
      .op ⟨(some 136), .indexA 1 (.t 134) (.t 135), []⟩ <|
      .op ⟨(some 137), .load1 (.t 136), []⟩ <|
      .op ⟨(some 138), .arith .rem .u64 (.t 137) (.c (.int .u64 20)), []⟩ <|
      .op ⟨(some 133), .call 108 [(.t 129), (.t 132)], [{ g := none, op := .load1 (.t 136), d := 137 }]⟩ <|
      .op ⟨(some 139), .indexA 1 (.t 128) (.t 133), []⟩ <|
      .op ⟨none, .store 1 (.t 139) (.t 138), []⟩ <|
      .nil)) (.ops (
      .op ⟨(some 140), .mov (.t 9), []⟩ <|
      .op ⟨(some 141), .loadN 6 (.t 4), []⟩ <|
      .op ⟨(some 142), .mov (.t 15), []⟩ <|
      .op ⟨(some 143), .build [(.str ⟨⟨[]⟩⟩), (.int .i64 0), (.int .i64 0)] [(0, 1, (.c (.str ⟨⟨[115, 116, 97, 114, 116]⟩⟩))), (1, 1, (.t 142))], []⟩ <|
      .op ⟨(some 145), .mov (.t 2), []⟩ <|
      .op ⟨(some 146), .mov (.t 14), []⟩ <|
      .op ⟨(some 147), .indexA 1 (.t 145) (.t 146), []⟩ <|
      .op ⟨(some 148), .load1 (.t 147), []⟩ <|
      .op ⟨(some 149), .arith .rem .u64 (.t 148) (.c (.int .u64 20)), []⟩ <|
      .op ⟨(some 144), .call 108 [(.t 141), (.t 143)], [{ g := none, op := .load1 (.t 147), d := 148 }]⟩ <|
      .op ⟨(some 150), .indexA 1 (.t 140) (.t 144), []⟩ <|
      .op ⟨none, .store 1 (.t 150) (.t 149), []⟩ <|
      .nil))))))) (
  .ops (
    .op ⟨(some 114), .mov (.t 14), []⟩ <|
    .op ⟨(some 115), .arith .add .i64 (.t 114) (.c (.int .i64 1)), []⟩ <|
    .op ⟨(some 14), .mov (.t 115), []⟩ <|
    .nil)))

def withyref13_Laid_c5 : ACode :=
  .seq (.seq (.ops (
    .op ⟨(some 17), .mov (.c (.int .i64 0)), []⟩ <|
    .nil)) (
  .block 6 (.loop [3, 4, 9, 17] [4, 9] (withyref13_Laid_c8)))) (
  withyref13_Laid_c7)

def withyref13_Laid_c4 : ACode :=
  .seq (.seq (.ops (
    .op ⟨(some 45), .mov (.t 13), []⟩ <|
    .op ⟨(some 46), .loadN 6 (.t 4), []⟩ <|
    .op ⟨(some 47), .call 149 [(.t 46)], []⟩ <|
    .op ⟨(some 48), .cmp .lss .i64 (.t 45) (.t 47), []⟩ <|
    .op ⟨(some 49), .mov (.t 48), []⟩ <|
    .grd 49 true [⟨(some 50), .mov (.t 13), []⟩,
        ⟨(some 51), .mov (.t 1), []⟩,
        ⟨(some 52), .mov (.t 11), []⟩,
        ⟨(some 53), .indexA 7 (.t 51) (.t 52), []⟩,
        ⟨(some 54), .fieldA 6 (.t 53), []⟩,
        ⟨(some 55), .load1 (.t 54), []⟩,
        ⟨(some 56), .lenSl (.t 55), []⟩,
        ⟨(some 57), .cmp .lss .i64 (.t 50) (.t 56), []⟩] <|
    .op ⟨(some 58), .pick (.t 49) (.t 57) (.c (.bool false)), []⟩ <|
    .nil)) (
  .cond (.t 58) (.skip) (.exit 2))) (
  .seq (.block 3 (.ops (
    .op ⟨(some 61), .mov (.t 9), []⟩ <|
    .op ⟨(some 62), .loadN 6 (.t 4), []⟩ <|
    .op ⟨(some 63), .mov (.t 11), []⟩ <|
    .op ⟨(some 64), .mov (.t 13), []⟩ <|
    .op ⟨(some 65), .build [(.str ⟨⟨[]⟩⟩), (.int .i64 0), (.int .i64 0)] [(0, 1, (.c (.str ⟨⟨[98, 111, 100, 121]⟩⟩))), (1, 1, (.t 63)), (2, 1, (.t 64))], []⟩ <|
    .op ⟨(some 67), .mov (.t 1), []⟩ <|
    .op ⟨(some 68), .mov (.t 11), []⟩ <|
    .op ⟨(some 69), .indexA 7 (.t 67) (.t 68), []⟩ <|
    .op ⟨(some 70), .fieldA 6 (.t 69), []⟩ <|
    .op ⟨(some 71), .load1 (.t 70), []⟩ <|
    .op ⟨(some 72), .mov (.t 13), []⟩ <|
    .op ⟨(some 73), .indexA 1 (.t 71) (.t 72), []⟩ <|
    .op ⟨(some 74), .load1 (.t 73), []⟩ <|
    .op ⟨(some 66), .call 108 [(.t 62), (.t 65)], [{ g := none, op := .load1 (.t 73), d := 74 }, { g := none, op := .load1 (.t 70), d := 71 }]⟩ <|
    .op ⟨(some 75), .indexA 1 (.t 61) (.t 66), []⟩ <|
    .op ⟨none, .store 1 (.t 75) (.t 74), []⟩ <|
    .nil))) (
  .ops (
    .op ⟨(some 59), .mov (.t 13), []⟩ <|
    .op ⟨(some 60), .arith .add .i64 (.t 59) (.c (.int .i64 1)), []⟩ <|
    .op ⟨(some 13), .mov (.t 60), []⟩ <|
    .nil)))

def withyref13_Laid_c3 : ACode :=
  .seq (.ops (
    .op ⟨(some 76), .mov (.t 9), []⟩ <|
    .op ⟨(some 77), .loadN 6 (.t 4), []⟩ <|
    .op ⟨(some 78), .mov (.t 11), []⟩ <|
    .op ⟨(some 79), .build [(.str ⟨⟨[]⟩⟩), (.int .i64 0), (.int .i64 0)] [(0, 1, (.c (.str ⟨⟨[104, 101, 97, 100, 101, 114]⟩⟩))), (1, 1, (.t 78))], []⟩ <|
    .op ⟨(some 81), .loadN 6 (.t 12), []⟩ <|
    .op ⟨(some 80), .call 108 [(.t 77), (.t 79)], [{ g := none, op := .loadN 6 (.t 12), d := 81 }]⟩ <|
    .op ⟨(some 82), .call 111 [(.t 81)], []⟩ <|
    .op ⟨(some 83), .indexA 1 (.t 76) (.t 80), []⟩ <|
    .op ⟨none, .store 1 (.t 83) (.t 82), []⟩ <|
    .nil)) (
  .seq (.ops (
    .op ⟨(some 84), .fieldA 0 (.t 12), []⟩ <|
    .op ⟨(some 85), .load1 (.t 84), []⟩ <|
    .op ⟨(some 86), .cmp .eql .i64 (.t 85) (.c (.int .i64 0)), []⟩ <|
    .nil)) (
  .cond (.t 86) (.seq (.ops (
      .op ⟨(some 87), .mov (.t 9), []⟩ <|
      .op ⟨(some 88), .loadN 6 (.t 4), []⟩ <|
      .op ⟨(some 89), .mov (.t 11), []⟩ <|
      .op ⟨(some 90), .build [(.str ⟨⟨[]⟩⟩), (.int .i64 0), (.int .i64 0)] [(0, 1, (.c (.str ⟨⟨[108, 105, 110, 107]⟩⟩))), (1, 1, (.t 89))], []⟩ <|
      .op ⟨(some 91), .call 108 [(.t 88), (.t 90)], []⟩ <|
      .op ⟨(some 92), .mov (.t 10), []⟩ <|
      .op ⟨(some 93), .indexA 1 (.t 87) (.t 91), []⟩ <|
      .op ⟨none, .store 1 (.t 93) (.t 92), []⟩ <|
      .nil)) (
    .ops (
      .op ⟨(some 94), .mov (.t 11), []⟩ <|
      .op ⟨(some 95), .arith .add .i64 (.t 94) (.c (.int .i64 1)), []⟩ <|
      .op ⟨(some 96), .conv .u64 (.t 95), []⟩ <|
      .op ⟨(some 10), .mov (.t 96), []⟩ <|
      .nil))) (.skip)))

def withyref13_Laid_c2 : ACode :=
  .ops (
    .op ⟨(some 25), .mov (.t 11), []⟩ <|
    .op ⟨(some 26), .arith .sub .i64 (.t 25) (.c (.int .i64 1)), []⟩ <|
    .op ⟨(some 11), .mov (.t 26), []⟩ <|
    .nil)

def withyref13_Laid_c1 : ACode :=
  .seq (.seq (.ops (
    .op ⟨(some 23), .mov (.t 11), []⟩ <|
    .op ⟨(some 24), .cmp .geq .i64 (.t 23) (.c (.int .i64 0)), []⟩ <|
    .nil)) (
  .cond (.t 24) (.skip) (.exit 0))) (
  .seq (.block 1 (.seq (.ops (
    .op ⟨(some 27), .build [(.int .i64 0), (.int .i64 0), (.bool false), (.int .i64 0), (.int .i64 0), (.int .i64 0)] [], []⟩ <|
    .op ⟨(some 12), .alloc [(.int .i64 0), (.int .i64 0), (.bool false), (.int .i64 0), (.int .i64 0), (.int .i64 0)], []⟩ <|
    .op ⟨none, .store 6 (.t 12) (.t 27), []⟩ <|
    .nil)) (
  .seq (.seq (.ops (
    .op ⟨(some 28), .mov (.t 11), []⟩ <|
    .op ⟨(some 29), .mov (.t 1), []⟩ <|
    .op ⟨(some 30), .lenSl (.t 29), []⟩ <|
    .op ⟨(some 31), .cmp .lss .i64 (.t 28) (.t 30), []⟩ <|
    .op ⟨(some 32), .mov (.t 31), []⟩ <|
    .grd 32 true [⟨(some 33), .mov (.t 1), []⟩,
        ⟨(some 34), .mov (.t 11), []⟩,
        ⟨(some 35), .indexA 7 (.t 33) (.t 34), []⟩,
        ⟨(some 36), .fieldA 0 (.t 35), []⟩,
        ⟨(some 37), .loadN 6 (.t 36), []⟩,
        ⟨(some 38), .call 202 [(.t 37)], []⟩] <|
    .op ⟨(some 39), .pick (.t 32) (.t 38) (.c (.bool false)), []⟩ <|
    .nil)) (
  .cond (.t 39) (.seq (.ops (
      .op ⟨(some 40), .mov (.t 1), []⟩ <|
      .op ⟨(some 41), .mov (.t 11), []⟩ <|
      .op ⟨(some 42), .indexA 7 (.t 40) (.t 41), []⟩ <|
      .op ⟨(some 43), .fieldA 0 (.t 42), []⟩ <|
      .op ⟨(some 44), .loadN 6 (.t 43), []⟩ <|
      .op ⟨none, .store 6 (.t 12) (.t 44), []⟩ <|
      .nil)) (
    .seq (.ops (
      .op ⟨(some 13), .mov (.c (.int .i64 0)), []⟩ <|
      .nil)) (
    .block 2 (.loop [1, 2, 3, 4, 9, 10, 11, 12, 13] [1, 2, 3, 4, 9, 10, 11, 12] (withyref13_Laid_c4))))) (.skip))) (
  withyref13_Laid_c3)))) (
  withyref13_Laid_c2))

def withyref13_Laid_c0 : ACode :=
  .seq (.ops (
    .op ⟨(some 97), .mov (.t 9), []⟩ <|
    .op ⟨(some 98), .mov (.t 10), []⟩ <|
    .op ⟨(some 99), .indexA 1 (.t 97) (.c (.int .i64 3)), []⟩ <|
    .op ⟨none, .store 1 (.t 99) (.t 98), []⟩ <|
    .nil)) (
  .seq (.seq (.ops (
    .op ⟨(some 14), .mov (.c (.int .i64 0)), []⟩ <|
    .nil)) (
  .block 4 (.loop [2, 3, 4, 9, 14] [3, 4, 9] (withyref13_Laid_c6)))) (
  withyref13_Laid_c5))

/-- 121: withy/withyref13.Laid -/
def withyref13_Laid : AFunc where
  closed := false
  nparams := 4
  ntmps := 180
  results := [.tmp 8]
  body := .seq (.ops (
      .op ⟨(some 4), .box (.t 0), []⟩ <|
      .op ⟨(some 8), .mov (.c .nilsl), []⟩ <|
      .nil)) (
    .seq (.ops (
      .op ⟨(some 18), .loadN 6 (.t 4), []⟩ <|
      .op ⟨(some 19), .call 86 [(.t 18)], []⟩ <|
      .op ⟨(some 9), .mov (.t 19), []⟩ <|
      .nil)) (
    .seq (.ops (
      .op ⟨(some 10), .mov (.c (.int .u64 0)), []⟩ <|
      .nil)) (
    .seq (.seq (.ops (
      .op ⟨(some 20), .fieldA 0 (.t 4), []⟩ <|
      .op ⟨(some 21), .load1 (.t 20), []⟩ <|
      .op ⟨(some 22), .arith .sub .i64 (.t 21) (.c (.int .i64 1)), []⟩ <|
      .op ⟨(some 11), .mov (.t 22), []⟩ <|
      .nil)) (
    .block 0 (.loop [1, 2, 3, 4, 9, 10, 11] [2, 3, 4, 9, 10] (withyref13_Laid_c1)))) (
    withyref13_Laid_c0))))

def withyref13_Laid_hs : List (List Nat × List Nat) := [([1, 2, 3, 4, 9, 10, 11], [2, 3, 4, 9, 10]), ([1, 2, 3, 4, 9, 10, 11, 12, 13], [1, 2, 3, 4, 9, 10, 11, 12]), ([2, 3, 4, 9, 14], [3, 4, 9]), ([3, 4, 9, 17], [4, 9])]

end Wm.F
end

section
/- PRINTED by my tool (wip/wm/tool/Gen.lean): a function as one of my machine. -/
namespace Wm.F
open Wm
set_option maxRecDepth 100000

/-- 107: (*withy/mem.Mem).Touches -/
def mem_Mem_Touches : AFunc where
  closed := false
  nparams := 1
  ntmps := 9
  results := [.tmp 2]
  body := .seq (.ops (
      .op ⟨(some 2), .mov (.c (.int .i64 0)), []⟩ <|
      .nil)) (
    .seq (.seq (.ops (
      .op ⟨(some 3), .mov (.t 0), []⟩ <|
      .op ⟨(some 4), .eq false .ptr (.t 3) (.c .nilp), []⟩ <|
      .nil)) (
    .cond (.t 4) (.seq (.ops (
        .op ⟨(some 2), .mov (.c (.int .i64 0)), []⟩ <|
        .nil)) (
      .ret)) (.skip))) (
    .seq (.ops (
      .op ⟨(some 5), .mov (.t 0), []⟩ <|
      .op ⟨(some 6), .nilc (.t 5), []⟩ <|
      .op ⟨(some 7), .fieldA 1 (.t 6), []⟩ <|
      .op ⟨(some 8), .load1 (.t 7), []⟩ <|
      .op ⟨(some 2), .mov (.t 8), []⟩ <|
      .nil)) (
    .ret)))

def mem_Mem_Touches_hs : List (List Nat × List Nat) := []

end Wm.F
end

section
/- PRINTED by my tool (wip/wm/tool/Gen.lean): a function as one of my machine. -/
namespace Wm.F
open Wm
set_option maxRecDepth 100000

def withyref06_At_c1 : ACode :=
  .seq (.seq (.ops (
    .op ⟨(some 12), .mov (.t 6), []⟩ <|
    .op ⟨(some 13), .mov (.t 5), []⟩ <|
    .op ⟨(some 14), .lenSl (.t 13), []⟩ <|
    .op ⟨(some 15), .cmp .lss .i64 (.t 12) (.t 14), []⟩ <|
    .nil)) (
  .cond (.t 15) (.skip) (.exit 0))) (
  .seq (.block 1 (.seq (.ops (
    .op ⟨(some 18), .mov (.t 5), []⟩ <|
    .op ⟨(some 19), .mov (.t 6), []⟩ <|
    .op ⟨(some 20), .indexA 3 (.t 18) (.t 19), []⟩ <|
    .op ⟨(some 21), .loadN 3 (.t 20), []⟩ <|
    .op ⟨(some 22), .loadN 3 (.t 3), []⟩ <|
    .op ⟨(some 23), .eq false (.agg [(0, .str), (1, .int), (2, .int)]) (.t 21) (.t 22), []⟩ <|
    .nil)) (
  .cond (.t 23) (.seq (.ops (
      .op ⟨(some 24), .mov (.t 6), []⟩ <|
      .op ⟨(some 4), .mov (.t 24), []⟩ <|
      .nil)) (
    .ret)) (.skip)))) (
  .ops (
    .op ⟨(some 16), .mov (.t 6), []⟩ <|
    .op ⟨(some 17), .arith .add .i64 (.t 16) (.c (.int .i64 1)), []⟩ <|
    .op ⟨(some 6), .mov (.t 17), []⟩ <|
    .nil)))

def withyref06_At_c0 : ACode :=
  .seq (.ops (
    .op ⟨(some 4), .mov (.c (.int .i64 (-1))), []⟩ <|
    .nil)) (
  .ret)

/-- 108: withy/withyref06.At -/
def withyref06_At : AFunc where
  closed := true
  nparams := 2
  ntmps := 25
  results := [.tmp 4]
  body := .seq (.ops (
      .op ⟨(some 2), .box (.t 0), []⟩ <|
      .op ⟨(some 3), .box (.t 1), []⟩ <|
      .op ⟨(some 4), .mov (.c (.int .i64 0)), []⟩ <|
      .nil)) (
    .seq (.seq (.ops (
      .op ⟨(some 7), .loadN 6 (.t 2), []⟩ <|
      .op ⟨(some 8), .call 85 [(.t 7)], []⟩ <|
      .op ⟨(some 9), .not (.t 8), []⟩ <|
      .nil)) (
    .cond (.t 9) (.seq (.ops (
        .op ⟨(some 4), .mov (.c (.int .i64 (-1))), []⟩ <|
        .nil)) (
      .ret)) (.skip))) (
    .seq (.ops (
      .op ⟨(some 10), .loadN 6 (.t 2), []⟩ <|
      .op ⟨(some 11), .call 87 [(.t 10)], []⟩ <|
      .op ⟨(some 5), .mov (.t 11), []⟩ <|
      .nil)) (
    .seq (.seq (.ops (
      .op ⟨(some 6), .mov (.c (.int .i64 0)), []⟩ <|
      .nil)) (
    .block 0 (.loop [3, 5, 6] [4] (withyref06_At_c1)))) (
    withyref06_At_c0))))

def withyref06_At_hs : List (List Nat × List Nat) := [([3, 5, 6], [4])]

end Wm.F
end

section
/- PRINTED by my tool (wip/wm/tool/Gen.lean): a function as one of my machine. -/
namespace Wm.F
open Wm
set_option maxRecDepth 100000

/-- 113: withy/withyref04.Marked -/
def withyref04_Marked : AFunc where
  closed := true
  nparams := 2
  ntmps := 21
  results := [.tmp 4]
  body := .seq (.ops (
      .op ⟨(some 4), .mov (.c (.bool false)), []⟩ <|
      .nil)) (
    .seq (.ops (
      .op ⟨(some 8), .mov (.t 0), []⟩ <|
      .op ⟨(some 9), .call 109 [(.t 8)], []⟩ <|
      .op ⟨(some 7), .mov (.t 9), []⟩ <|
      .op ⟨(some 10), .extract (.t 7) 0, []⟩ <|
      .op ⟨(some 11), .extract (.t 7) 1, []⟩ <|
      .op ⟨(some 5), .alloc [(.int .i64 0), (.int .i64 0), (.bool false), (.int .i64 0), (.int .i64 0), (.int .i64 0)], []⟩ <|
      .op ⟨none, .store 6 (.t 5) (.t 10), []⟩ <|
      .op ⟨(some 6), .mov (.t 11), []⟩ <|
      .nil)) (
    .seq (.ops (
      .op ⟨(some 12), .mov (.t 0), []⟩ <|
      .op ⟨(some 13), .call 112 [(.t 12)], []⟩ <|
      .op ⟨(some 14), .mov (.t 13), []⟩ <|
      .grd 14 true [⟨(some 15), .fieldA 1 (.t 5), []⟩,
          ⟨(some 16), .load1 (.t 15), []⟩,
          ⟨(some 17), .mov (.t 1), []⟩,
          ⟨(some 18), .call 110 [(.t 17)], [{ g := (some (14, true)), op := .load1 (.t 15), d := 16 }]⟩,
          ⟨(some 19), .cmp .eql .i64 (.t 16) (.t 18), []⟩] <|
      .op ⟨(some 20), .pick (.t 14) (.t 19) (.c (.bool false)), []⟩ <|
      .op ⟨(some 4), .mov (.t 20), []⟩ <|
      .nil)) (
    .ret)))

def withyref04_Marked_hs : List (List Nat × List Nat) := []

end Wm.F
end

section
/- PRINTED by my tool (wip/wm/tool/Gen.lean): a function as one of my machine. -/
namespace Wm.F
open Wm
set_option maxRecDepth 100000

/-- 376: withy/plan.between -/
def plan_between : AFunc where
  closed := true
  nparams := 3
  ntmps := 15
  results := [.tmp 6]
  body := .seq (.ops (
      .op ⟨(some 6), .mov (.c (.bool false)), []⟩ <|
      .nil)) (
    .seq (.ops (
      .op ⟨(some 7), .mov (.t 0), []⟩ <|
      .op ⟨(some 8), .mov (.t 1), []⟩ <|
      .op ⟨(some 9), .cmp .geq .i64 (.t 7) (.t 8), []⟩ <|
      .op ⟨(some 10), .mov (.t 9), []⟩ <|
      .grd 10 true [⟨(some 11), .mov (.t 0), []⟩,
          ⟨(some 12), .mov (.t 2), []⟩,
          ⟨(some 13), .cmp .leq .i64 (.t 11) (.t 12), []⟩] <|
      .op ⟨(some 14), .pick (.t 10) (.t 13) (.c (.bool false)), []⟩ <|
      .op ⟨(some 6), .mov (.t 14), []⟩ <|
      .nil)) (
    .ret))

def plan_between_hs : List (List Nat × List Nat) := []

end Wm.F
end

section
/- PRINTED by my tool (wip/wm/tool/Gen.lean): a function as one of my machine. -/
namespace Wm.F
open Wm
set_option maxRecDepth 100000

/-- 266: (*withy/mem.Mem).Load -/
def mem_Mem_Load : AFunc where
  closed := false
  nparams := 2
  ntmps := 26
  results := [.tmp 4]
  body := .seq (.ops (
      .op ⟨(some 4), .mov (.c (.int .u64 0)), []⟩ <|
      .nil)) (
    .seq (.seq (.ops (
      .op ⟨(some 5), .mov (.t 0), []⟩ <|
      .op ⟨(some 6), .mov (.t 1), []⟩ <|
      .op ⟨(some 7), .call 346 [(.t 5), (.t 6)], []⟩ <|
      .op ⟨(some 8), .not (.t 7), []⟩ <|
      .nil)) (
    .cond (.t 8) (.seq (.ops (
        .op ⟨(some 4), .mov (.c (.int .u64 0)), []⟩ <|
        .nil)) (
      .ret)) (.skip))) (
    .seq (.ops (
      .op ⟨(some 9), .mov (.t 0), []⟩ <|
      .op ⟨(some 10), .mov (.t 1), []⟩ <|
      .op ⟨(some 11), .mov (.t 0), []⟩ <|
      .op ⟨(some 12), .nilc (.t 11), []⟩ <|
      .op ⟨(some 13), .fieldA 0 (.t 12), []⟩ <|
      .op ⟨(some 14), .load1 (.t 13), []⟩ <|
      .op ⟨(some 15), .mov (.t 1), []⟩ <|
      .op ⟨(some 16), .indexA 1 (.t 14) (.t 15), []⟩ <|
      .op ⟨(some 17), .load1 (.t 16), []⟩ <|
      .op ⟨(some 18), .call 347 [(.t 9), (.c (.int .i64 1)), (.t 10), (.t 17)], []⟩ <|
      .nil)) (
    .seq (.ops (
      .op ⟨(some 19), .mov (.t 0), []⟩ <|
      .op ⟨(some 20), .nilc (.t 19), []⟩ <|
      .op ⟨(some 21), .fieldA 0 (.t 20), []⟩ <|
      .op ⟨(some 22), .load1 (.t 21), []⟩ <|
      .op ⟨(some 23), .mov (.t 1), []⟩ <|
      .op ⟨(some 24), .indexA 1 (.t 22) (.t 23), []⟩ <|
      .op ⟨(some 25), .load1 (.t 24), []⟩ <|
      .op ⟨(some 4), .mov (.t 25), []⟩ <|
      .nil)) (
    .ret))))

def mem_Mem_Load_hs : List (List Nat × List Nat) := []

end Wm.F
end

section
/- PRINTED by my tool (wip/wm/tool/Gen.lean): a function as one of my machine. -/
namespace Wm.F
open Wm
set_option maxRecDepth 100000

/-- 267: withy/head.Shaded -/
def head_Shaded : AFunc where
  closed := true
  nparams := 2
  ntmps := 31
  results := [.tmp 4, .tmp 5]
  body := .seq (.ops (
      .op ⟨(some 4), .mov (.c (.int .u64 0)), []⟩ <|
      .op ⟨(some 5), .mov (.c (.bool false)), []⟩ <|
      .nil)) (
    .seq (.ops (
      .op ⟨(some 9), .mov (.t 0), []⟩ <|
      .op ⟨(some 10), .call 380 [(.t 9)], []⟩ <|
      .op ⟨(some 8), .mov (.t 10), []⟩ <|
      .op ⟨(some 11), .extract (.t 8) 0, []⟩ <|
      .op ⟨(some 12), .extract (.t 8) 1, []⟩ <|
      .op ⟨(some 6), .alloc [(.int .i64 0), (.int .i64 0), (.bool false), (.int .i64 0), (.int .i64 0), (.int .i64 0)], []⟩ <|
      .op ⟨none, .store 6 (.t 6) (.t 11), []⟩ <|
      .op ⟨(some 7), .mov (.t 12), []⟩ <|
      .nil)) (
    .seq (.seq (.ops (
      .op ⟨(some 13), .mov (.t 7), []⟩ <|
      .op ⟨(some 14), .not (.t 13), []⟩ <|
      .op ⟨(some 15), .mov (.t 14), []⟩ <|
      .grd 15 false [⟨(some 16), .fieldA 1 (.t 6), []⟩,
          ⟨(some 17), .load1 (.t 16), []⟩,
          ⟨(some 18), .mov (.t 1), []⟩,
          ⟨(some 19), .call 381 [(.t 18)], [{ g := (some (15, false)), op := .load1 (.t 16), d := 17 }]⟩,
          ⟨(some 20), .cmp .eql .i64 (.t 17) (.t 19), []⟩] <|
      .op ⟨(some 21), .pick (.t 15) (.c (.bool true)) (.t 20), []⟩ <|
      .nil)) (
    .cond (.t 21) (.seq (.ops (
        .op ⟨(some 22), .mov (.t 0), []⟩ <|
        .op ⟨(some 4), .mov (.t 22), []⟩ <|
        .op ⟨(some 5), .mov (.c (.bool false)), []⟩ <|
        .nil)) (
      .ret)) (.skip))) (
    .seq (.ops (
      .op ⟨(some 23), .mov (.t 1), []⟩ <|
      .op ⟨(some 24), .call 381 [(.t 23)], []⟩ <|
      .op ⟨(some 25), .fieldA 1 (.t 6), []⟩ <|
      .op ⟨none, .store 1 (.t 25) (.t 24), []⟩ <|
      .op ⟨(some 26), .fieldA 2 (.t 6), []⟩ <|
      .op ⟨none, .store 1 (.t 26) (.c (.bool true)), []⟩ <|
      .nil)) (
    .seq (.ops (
      .op ⟨(some 27), .loadN 6 (.t 6), []⟩ <|
      .op ⟨(some 28), .call 382 [(.t 27)], []⟩ <|
      .op ⟨(some 29), .extract (.t 28) 0, []⟩ <|
      .op ⟨(some 30), .extract (.t 28) 1, []⟩ <|
      .op ⟨(some 4), .mov (.t 29), []⟩ <|
      .op ⟨(some 5), .mov (.t 30), []⟩ <|
      .nil)) (
    .ret)))))

def head_Shaded_hs : List (List Nat × List Nat) := []

end Wm.F
end

section
/- PRINTED by my tool (wip/wm/tool/Gen.lean): a function as one of my machine. -/
namespace Wm.F
open Wm
set_option maxRecDepth 100000

/-- 268: (*withy/mem.Mem).Add -/
def mem_Mem_Add : AFunc where
  closed := false
  nparams := 3
  ntmps := 30
  results := [.tmp 6]
  body := .seq (.ops (
      .op ⟨(some 6), .mov (.c (.int .u64 0)), []⟩ <|
      .nil)) (
    .seq (.seq (.ops (
      .op ⟨(some 7), .mov (.t 0), []⟩ <|
      .op ⟨(some 8), .mov (.t 1), []⟩ <|
      .op ⟨(some 9), .call 346 [(.t 7), (.t 8)], []⟩ <|
      .op ⟨(some 10), .not (.t 9), []⟩ <|
      .nil)) (
    .cond (.t 10) (.seq (.ops (
        .op ⟨(some 6), .mov (.c (.int .u64 0)), []⟩ <|
        .nil)) (
      .ret)) (.skip))) (
    .seq (.ops (
      .op ⟨(some 11), .mov (.t 0), []⟩ <|
      .op ⟨(some 12), .mov (.t 1), []⟩ <|
      .op ⟨(some 13), .mov (.t 0), []⟩ <|
      .op ⟨(some 14), .nilc (.t 13), []⟩ <|
      .op ⟨(some 15), .fieldA 0 (.t 14), []⟩ <|
      .op ⟨(some 16), .load1 (.t 15), []⟩ <|
      .op ⟨(some 17), .mov (.t 1), []⟩ <|
      .op ⟨(some 18), .indexA 1 (.t 16) (.t 17), []⟩ <|
      .op ⟨(some 19), .load1 (.t 18), []⟩ <|
      .op ⟨(some 20), .mov (.t 2), []⟩ <|
      .op ⟨(some 21), .arith .add .u64 (.t 19) (.t 20), []⟩ <|
      .op ⟨(some 22), .call 347 [(.t 11), (.c (.int .i64 4)), (.t 12), (.t 21)], []⟩ <|
      .nil)) (
    .seq (.ops (
      .op ⟨(some 23), .mov (.t 0), []⟩ <|
      .op ⟨(some 24), .nilc (.t 23), []⟩ <|
      .op ⟨(some 25), .fieldA 0 (.t 24), []⟩ <|
      .op ⟨(some 26), .load1 (.t 25), []⟩ <|
      .op ⟨(some 27), .mov (.t 1), []⟩ <|
      .op ⟨(some 28), .indexA 1 (.t 26) (.t 27), []⟩ <|
      .op ⟨(some 29), .load1 (.t 28), []⟩ <|
      .op ⟨(some 6), .mov (.t 29), []⟩ <|
      .nil)) (
    .ret))))

def mem_Mem_Add_hs : List (List Nat × List Nat) := []

end Wm.F
end

section
/- PRINTED by my tool (wip/wm/tool/Gen.lean): a function as one of my machine. -/
namespace Wm.F
open Wm
set_option maxRecDepth 100000

/-- 269: (*withy/mem.Mem).Swap -/
def mem_Mem_Swap : AFunc where
  closed := false
  nparams := 4
  ntmps := 32
  results := [.tmp 8]
  body := .seq (.ops (
      .op ⟨(some 8), .mov (.c (.bool false)), []⟩ <|
      .nil)) (
    .seq (.seq (.ops (
      .op ⟨(some 10), .mov (.t 0), []⟩ <|
      .op ⟨(some 11), .mov (.t 1), []⟩ <|
      .op ⟨(some 12), .call 346 [(.t 10), (.t 11)], []⟩ <|
      .op ⟨(some 13), .not (.t 12), []⟩ <|
      .nil)) (
    .cond (.t 13) (.seq (.ops (
        .op ⟨(some 8), .mov (.c (.bool false)), []⟩ <|
        .nil)) (
      .ret)) (.skip))) (
    .seq (.ops (
      .op ⟨(some 14), .mov (.t 0), []⟩ <|
      .op ⟨(some 15), .nilc (.t 14), []⟩ <|
      .op ⟨(some 16), .fieldA 0 (.t 15), []⟩ <|
      .op ⟨(some 17), .load1 (.t 16), []⟩ <|
      .op ⟨(some 18), .mov (.t 1), []⟩ <|
      .op ⟨(some 19), .indexA 1 (.t 17) (.t 18), []⟩ <|
      .op ⟨(some 20), .load1 (.t 19), []⟩ <|
      .op ⟨(some 9), .mov (.t 20), []⟩ <|
      .nil)) (
    .seq (.seq (.ops (
      .op ⟨(some 21), .mov (.t 9), []⟩ <|
      .op ⟨(some 22), .mov (.t 2), []⟩ <|
      .op ⟨(some 23), .cmp .neq .u64 (.t 21) (.t 22), []⟩ <|
      .nil)) (
    .cond (.t 23) (.ops (
        .op ⟨(some 24), .mov (.t 9), []⟩ <|
        .op ⟨(some 3), .mov (.t 24), []⟩ <|
        .nil)) (.skip))) (
    .seq (.ops (
      .op ⟨(some 25), .mov (.t 0), []⟩ <|
      .op ⟨(some 26), .mov (.t 1), []⟩ <|
      .op ⟨(some 27), .mov (.t 3), []⟩ <|
      .op ⟨(some 28), .call 347 [(.t 25), (.c (.int .i64 3)), (.t 26), (.t 27)], []⟩ <|
      .nil)) (
    .seq (.ops (
      .op ⟨(some 29), .mov (.t 9), []⟩ <|
      .op ⟨(some 30), .mov (.t 2), []⟩ <|
      .op ⟨(some 31), .cmp .eql .u64 (.t 29) (.t 30), []⟩ <|
      .op ⟨(some 8), .mov (.t 31), []⟩ <|
      .nil)) (
    .ret))))))

def mem_Mem_Swap_hs : List (List Nat × List Nat) := []

end Wm.F
end

section
/- PRINTED by my tool (wip/wm/tool/Gen.lean): a function as one of my machine. -/
namespace Wm.F
open Wm
set_option maxRecDepth 100000

/-- 393: withy/plan.View -/
def plan_View : AFunc where
  closed := true
  nparams := 2
  ntmps := 11
  results := [.tmp 4]
  body := .seq (.ops (
      .op ⟨(some 2), .box (.t 0), []⟩ <|
      .op ⟨(some 4), .mov (.c (.int .i64 0)), []⟩ <|
      .nil)) (
    .seq (.ops (
      .op ⟨(some 5), .loadN 6 (.t 2), []⟩ <|
      .op ⟨(some 6), .mov (.t 1), []⟩ <|
      .op ⟨(some 7), .fieldA 3 (.t 2), []⟩ <|
      .op ⟨(some 8), .load1 (.t 7), []⟩ <|
      .op ⟨(some 9), .arith .add .i64 (.c (.int .i64 1)) (.t 8), []⟩ <|
      .op ⟨(some 10), .call 397 [(.t 5), (.t 6), (.t 9), (.c (.int .i64 2)), (.c (.int .i64 0))], []⟩ <|
      .op ⟨(some 4), .mov (.t 10), []⟩ <|
      .nil)) (
    .ret))

def plan_View_hs : List (List Nat × List Nat) := []

end Wm.F
end

section
/- PRINTED by my tool (wip/wm/tool/Gen.lean): a function as one of my machine. -/
namespace Wm.F
open Wm
set_option maxRecDepth 100000

/-- 399: (*withy/mark.Mark).client -/
def mark_Mark_client : AFunc where
  closed := false
  nparams := 2
  ntmps := 28
  results := []
  body := .seq (.ops (
      .op ⟨(some 4), .mov (.t 0), []⟩ <|
      .op ⟨(some 5), .nilc (.t 4), []⟩ <|
      .op ⟨(some 6), .fieldA 11 (.t 5), []⟩ <|
      .op ⟨(some 7), .load1 (.t 6), []⟩ <|
      .op ⟨(some 8), .arith .add .i64 (.t 7) (.c (.int .i64 1)), []⟩ <|
      .op ⟨(some 9), .nilc (.t 4), []⟩ <|
      .op ⟨(some 10), .fieldA 11 (.t 9), []⟩ <|
      .op ⟨none, .store 1 (.t 10) (.t 8), []⟩ <|
      .nil)) (
    .seq (.ops (
      .op ⟨(some 11), .mov (.t 0), []⟩ <|
      .op ⟨(some 12), .nilc (.t 11), []⟩ <|
      .op ⟨(some 13), .fieldA 11 (.t 12), []⟩ <|
      .op ⟨(some 14), .load1 (.t 13), []⟩ <|
      .op ⟨(some 15), .mov (.t 0), []⟩ <|
      .op ⟨(some 16), .nilc (.t 15), []⟩ <|
      .op ⟨(some 17), .fieldA 2 (.t 16), []⟩ <|
      .op ⟨(some 18), .fieldA 2 (.t 17), []⟩ <|
      .op ⟨(some 19), .load1 (.t 18), []⟩ <|
      .op ⟨(some 20), .cmp .eql .i64 (.t 14) (.t 19), []⟩ <|
      .nil)) (
    .cond (.t 20) (.ops (
        .op ⟨(some 21), .mov (.t 0), []⟩ <|
        .op ⟨(some 22), .mov (.t 0), []⟩ <|
        .op ⟨(some 23), .mov (.t 1), []⟩ <|
        .op ⟨(some 24), .nilc (.t 21), []⟩ <|
        .op ⟨(some 25), .fieldA 11 (.t 24), []⟩ <|
        .op ⟨none, .store 1 (.t 25) (.c (.int .i64 0)), []⟩ <|
        .op ⟨(some 26), .nilc (.t 22), []⟩ <|
        .op ⟨(some 27), .fieldA 9 (.t 26), []⟩ <|
        .op ⟨none, .store 1 (.t 27) (.t 23), []⟩ <|
        .nil)) (.skip)))

def mark_Mark_client_hs : List (List Nat × List Nat) := []

end Wm.F
end

section
/- PRINTED by my tool (wip/wm/tool/Gen.lean): a function as one of my machine. -/
namespace Wm.F
open Wm
set_option maxRecDepth 100000

/-- 400: (*withy/mark.Mark).finds -/
def mark_Mark_finds : AFunc where
  closed := false
  nparams := 2
  ntmps := 21
  results := []
  body := .ops (
      .op ⟨(some 4), .mov (.t 0), []⟩ <|
      .op ⟨(some 5), .mov (.t 0), []⟩ <|
      .op ⟨(some 6), .mov (.t 1), []⟩ <|
      .op ⟨(some 7), .mov (.t 0), []⟩ <|
      .op ⟨(some 8), .nilc (.t 7), []⟩ <|
      .op ⟨(some 9), .fieldA 2 (.t 8), []⟩ <|
      .op ⟨(some 10), .loadN 6 (.t 9), []⟩ <|
      .op ⟨(some 11), .mov (.t 1), []⟩ <|
      .op ⟨(some 12), .mov (.t 0), []⟩ <|
      .op ⟨(some 13), .nilc (.t 12), []⟩ <|
      .op ⟨(some 14), .fieldA 8 (.t 13), []⟩ <|
      .op ⟨(some 15), .load1 (.t 14), []⟩ <|
      .op ⟨(some 16), .call 90 [(.t 10), (.t 11), (.t 15)], []⟩ <|
      .op ⟨(some 17), .nilc (.t 4), []⟩ <|
      .op ⟨(some 18), .fieldA 20 (.t 17), []⟩ <|
      .op ⟨none, .store 1 (.t 18) (.t 6), []⟩ <|
      .op ⟨(some 19), .nilc (.t 5), []⟩ <|
      .op ⟨(some 20), .fieldA 19 (.t 19), []⟩ <|
      .op ⟨none, .store 1 (.t 20) (.t 16), []⟩ <|
      .nil)

def mark_Mark_finds_hs : List (List Nat × List Nat) := []

end Wm.F
end

section
/- PRINTED by my tool (wip/wm/tool/Gen.lean): a function as one of my machine. -/
namespace Wm.F
open Wm
set_option maxRecDepth 100000

/-- 401: (*withy/mark.Mark).look -/
def mark_Mark_look : AFunc where
  closed := false
  nparams := 3
  ntmps := 71
  results := []
  body := .seq (.ops (
      .op ⟨(some 8), .mov (.t 0), []⟩ <|
      .op ⟨(some 9), .mov (.t 0), []⟩ <|
      .op ⟨(some 10), .mov (.t 0), []⟩ <|
      .op ⟨(some 11), .mov (.t 2), []⟩ <|
      .op ⟨(some 12), .mov (.t 1), []⟩ <|
      .op ⟨(some 13), .mov (.t 0), []⟩ <|
      .op ⟨(some 14), .nilc (.t 13), []⟩ <|
      .op ⟨(some 15), .fieldA 2 (.t 14), []⟩ <|
      .op ⟨(some 16), .loadN 6 (.t 15), []⟩ <|
      .op ⟨(some 17), .mov (.t 2), []⟩ <|
      .op ⟨(some 18), .call 261 [(.t 16), (.t 17)], []⟩ <|
      .op ⟨(some 19), .call 266 [(.t 12), (.t 18)], []⟩ <|
      .op ⟨(some 20), .nilc (.t 8), []⟩ <|
      .op ⟨(some 21), .fieldA 14 (.t 20), []⟩ <|
      .op ⟨none, .store 1 (.t 21) (.t 11), []⟩ <|
      .op ⟨(some 22), .nilc (.t 9), []⟩ <|
      .op ⟨(some 23), .fieldA 16 (.t 22), []⟩ <|
      .op ⟨none, .store 1 (.t 23) (.t 19), []⟩ <|
      .op ⟨(some 24), .nilc (.t 10), []⟩ <|
      .op ⟨(some 25), .fieldA 12 (.t 24), []⟩ <|
      .op ⟨none, .store 1 (.t 25) (.c (.int .i64 0)), []⟩ <|
      .nil)) (
    .seq (.ops (
      .op ⟨(some 27), .mov (.t 0), []⟩ <|
      .op ⟨(some 28), .nilc (.t 27), []⟩ <|
      .op ⟨(some 29), .fieldA 16 (.t 28), []⟩ <|
      .op ⟨(some 30), .load1 (.t 29), []⟩ <|
      .op ⟨(some 31), .call 265 [(.t 30)], []⟩ <|
      .op ⟨(some 26), .mov (.t 31), []⟩ <|
      .op ⟨(some 32), .extract (.t 26) 0, []⟩ <|
      .op ⟨(some 33), .extract (.t 26) 1, []⟩ <|
      .op ⟨(some 6), .alloc [(.int .i64 0), (.int .i64 0), (.bool false), (.int .i64 0), (.int .i64 0), (.int .i64 0)], []⟩ <|
      .op ⟨none, .store 6 (.t 6) (.t 32), []⟩ <|
      .op ⟨(some 7), .mov (.t 33), []⟩ <|
      .nil)) (
    .block 0 (.seq (.ops (
      .op ⟨(some 38), .mov (.t 7), []⟩ <|
      .op ⟨(some 39), .not (.t 38), []⟩ <|
      .op ⟨(some 40), .mov (.t 39), []⟩ <|
      .grd 40 false [⟨(some 41), .fieldA 2 (.t 6), []⟩,
          ⟨(some 42), .load1 (.t 41), []⟩,
          ⟨(some 43), .not (.t 42), []⟩] <|
      .op ⟨(some 44), .pick (.t 40) (.c (.bool true)) (.t 43), []⟩ <|
      .op ⟨(some 37), .mov (.t 44), []⟩ <|
      .nil)) (
    .cond (.t 37) (.ops (
        .op ⟨(some 45), .mov (.t 0), []⟩ <|
        .op ⟨(some 46), .call 403 [(.t 45)], []⟩ <|
        .nil)) (.seq (.ops (
        .op ⟨(some 48), .fieldA 0 (.t 6), []⟩ <|
        .op ⟨(some 49), .load1 (.t 48), []⟩ <|
        .op ⟨(some 50), .cmp .eql .i64 (.t 49) (.c (.int .i64 2)), []⟩ <|
        .op ⟨(some 47), .mov (.t 50), []⟩ <|
        .nil)) (
      .cond (.t 47) (.ops (
          .op ⟨(some 51), .mov (.t 0), []⟩ <|
          .op ⟨(some 52), .nilc (.t 51), []⟩ <|
          .op ⟨(some 53), .fieldA 9 (.t 52), []⟩ <|
          .op ⟨none, .store 1 (.t 53) (.c (.int .i64 7)), []⟩ <|
          .nil)) (.seq (.ops (
          .op ⟨(some 55), .fieldA 0 (.t 6), []⟩ <|
          .op ⟨(some 56), .load1 (.t 55), []⟩ <|
          .op ⟨(some 57), .cmp .eql .i64 (.t 56) (.c (.int .i64 1)), []⟩ <|
          .op ⟨(some 58), .mov (.t 57), []⟩ <|
          .grd 58 true [⟨(some 59), .fieldA 3 (.t 6), []⟩,
              ⟨(some 60), .load1 (.t 59), []⟩,
              ⟨(some 61), .cmp .gtr .i64 (.t 60) (.c (.int .i64 0)), []⟩] <|
          .op ⟨(some 62), .pick (.t 58) (.t 61) (.c (.bool false)), []⟩ <|
          .op ⟨(some 54), .mov (.t 62), []⟩ <|
          .nil)) (
        .cond (.t 54) (.ops (
            .op ⟨(some 63), .mov (.t 0), []⟩ <|
            .op ⟨(some 64), .mov (.t 0), []⟩ <|
            .op ⟨(some 65), .fieldA 3 (.t 6), []⟩ <|
            .op ⟨(some 66), .load1 (.t 65), []⟩ <|
            .op ⟨(some 67), .nilc (.t 63), []⟩ <|
            .op ⟨(some 68), .fieldA 15 (.t 67), []⟩ <|
            .op ⟨none, .store 1 (.t 68) (.t 66), []⟩ <|
            .op ⟨(some 69), .nilc (.t 64), []⟩ <|
            .op ⟨(some 70), .fieldA 9 (.t 69), []⟩ <|
            .op ⟨none, .store 1 (.t 70) (.c (.int .i64 6)), []⟩ <|
            .nil)) (.ops (
            .op ⟨(some 34), .mov (.t 0), []⟩ <|
            .op ⟨(some 35), .nilc (.t 34), []⟩ <|
            .op ⟨(some 36), .fieldA 9 (.t 35), []⟩ <|
            .op ⟨none, .store 1 (.t 36) (.c (.int .i64 11)), []⟩ <|
            .nil))))))))))

def mark_Mark_look_hs : List (List Nat × List Nat) := []

end Wm.F
end

section
/- PRINTED by my tool (wip/wm/tool/Gen.lean): a function as one of my machine. -/
namespace Wm.F
open Wm
set_option maxRecDepth 100000

/-- 203: (*withy/mem.Mem).Store -/
def mem_Mem_Store : AFunc where
  closed := false
  nparams := 3
  ntmps := 15
  results := [.tmp 6]
  body := .seq (.ops (
      .op ⟨(some 6), .mov (.c (.bool false)), []⟩ <|
      .nil)) (
    .seq (.seq (.ops (
      .op ⟨(some 7), .mov (.t 0), []⟩ <|
      .op ⟨(some 8), .mov (.t 1), []⟩ <|
      .op ⟨(some 9), .call 346 [(.t 7), (.t 8)], []⟩ <|
      .op ⟨(some 10), .not (.t 9), []⟩ <|
      .nil)) (
    .cond (.t 10) (.seq (.ops (
        .op ⟨(some 6), .mov (.c (.bool false)), []⟩ <|
        .nil)) (
      .ret)) (.skip))) (
    .seq (.ops (
      .op ⟨(some 11), .mov (.t 0), []⟩ <|
      .op ⟨(some 12), .mov (.t 1), []⟩ <|
      .op ⟨(some 13), .mov (.t 2), []⟩ <|
      .op ⟨(some 14), .call 347 [(.t 11), (.c (.int .i64 2)), (.t 12), (.t 13)], []⟩ <|
      .nil)) (
    .seq (.ops (
      .op ⟨(some 6), .mov (.c (.bool true)), []⟩ <|
      .nil)) (
    .ret))))

def mem_Mem_Store_hs : List (List Nat × List Nat) := []

end Wm.F
end

section
/- PRINTED by my tool (wip/wm/tool/Gen.lean): a function as one of my machine. -/
namespace Wm.F
open Wm
set_option maxRecDepth 100000

/-- 402: withy/head.Blackened -/
def head_Blackened : AFunc where
  closed := true
  nparams := 1
  ntmps := 24
  results := [.tmp 2, .tmp 3]
  body := .seq (.ops (
      .op ⟨(some 2), .mov (.c (.int .u64 0)), []⟩ <|
      .op ⟨(some 3), .mov (.c (.bool false)), []⟩ <|
      .nil)) (
    .seq (.ops (
      .op ⟨(some 7), .mov (.t 0), []⟩ <|
      .op ⟨(some 8), .call 265 [(.t 7)], []⟩ <|
      .op ⟨(some 6), .mov (.t 8), []⟩ <|
      .op ⟨(some 9), .extract (.t 6) 0, []⟩ <|
      .op ⟨(some 10), .extract (.t 6) 1, []⟩ <|
      .op ⟨(some 4), .alloc [(.int .i64 0), (.int .i64 0), (.bool false), (.int .i64 0), (.int .i64 0), (.int .i64 0)], []⟩ <|
      .op ⟨none, .store 6 (.t 4) (.t 9), []⟩ <|
      .op ⟨(some 5), .mov (.t 10), []⟩ <|
      .nil)) (
    .seq (.seq (.ops (
      .op ⟨(some 11), .mov (.t 5), []⟩ <|
      .op ⟨(some 12), .not (.t 11), []⟩ <|
      .op ⟨(some 13), .mov (.t 12), []⟩ <|
      .grd 13 false [⟨(some 14), .fieldA 2 (.t 4), []⟩,
          ⟨(some 15), .load1 (.t 14), []⟩,
          ⟨(some 16), .not (.t 15), []⟩] <|
      .op ⟨(some 17), .pick (.t 13) (.c (.bool true)) (.t 16), []⟩ <|
      .nil)) (
    .cond (.t 17) (.seq (.ops (
        .op ⟨(some 18), .mov (.t 0), []⟩ <|
        .op ⟨(some 2), .mov (.t 18), []⟩ <|
        .op ⟨(some 3), .mov (.c (.bool false)), []⟩ <|
        .nil)) (
      .ret)) (.skip))) (
    .seq (.ops (
      .op ⟨(some 19), .fieldA 2 (.t 4), []⟩ <|
      .op ⟨none, .store 1 (.t 19) (.c (.bool false)), []⟩ <|
      .nil)) (
    .seq (.ops (
      .op ⟨(some 20), .loadN 6 (.t 4), []⟩ <|
      .op ⟨(some 21), .call 382 [(.t 20)], []⟩ <|
      .op ⟨(some 22), .extract (.t 21) 0, []⟩ <|
      .op ⟨(some 23), .extract (.t 21) 1, []⟩ <|
      .op ⟨(some 2), .mov (.t 22), []⟩ <|
      .op ⟨(some 3), .mov (.t 23), []⟩ <|
      .nil)) (
    .ret)))))

def head_Blackened_hs : List (List Nat × List Nat) := []

end Wm.F
end

section
/- PRINTED by my tool (wip/wm/tool/Gen.lean): a function as one of my machine. -/
namespace Wm.F
open Wm
set_option maxRecDepth 100000

/-- 403: (*withy/mark.Mark).onward -/
def mark_Mark_onward : AFunc where
  closed := false
  nparams := 1
  ntmps := 29
  results := []
  body := .block 0 (.seq (.ops (
      .op ⟨(some 6), .mov (.t 0), []⟩ <|
      .op ⟨(some 7), .nilc (.t 6), []⟩ <|
      .op ⟨(some 8), .fieldA 18 (.t 7), []⟩ <|
      .op ⟨(some 9), .load1 (.t 8), []⟩ <|
      .op ⟨(some 10), .lenSl (.t 9), []⟩ <|
      .op ⟨(some 11), .cmp .gtr .i64 (.t 10) (.c (.int .i64 0)), []⟩ <|
      .op ⟨(some 5), .mov (.t 11), []⟩ <|
      .nil)) (
    .cond (.t 5) (.ops (
        .op ⟨(some 12), .mov (.t 0), []⟩ <|
        .op ⟨(some 13), .nilc (.t 12), []⟩ <|
        .op ⟨(some 14), .fieldA 9 (.t 13), []⟩ <|
        .op ⟨none, .store 1 (.t 14) (.c (.int .i64 5)), []⟩ <|
        .nil)) (.seq (.ops (
        .op ⟨(some 16), .mov (.t 0), []⟩ <|
        .op ⟨(some 17), .nilc (.t 16), []⟩ <|
        .op ⟨(some 18), .fieldA 13 (.t 17), []⟩ <|
        .op ⟨(some 19), .load1 (.t 18), []⟩ <|
        .op ⟨(some 20), .mov (.t 0), []⟩ <|
        .op ⟨(some 21), .nilc (.t 20), []⟩ <|
        .op ⟨(some 22), .fieldA 2 (.t 21), []⟩ <|
        .op ⟨(some 23), .fieldA 0 (.t 22), []⟩ <|
        .op ⟨(some 24), .load1 (.t 23), []⟩ <|
        .op ⟨(some 25), .cmp .lss .i64 (.t 19) (.t 24), []⟩ <|
        .op ⟨(some 15), .mov (.t 25), []⟩ <|
        .nil)) (
      .cond (.t 15) (.ops (
          .op ⟨(some 26), .mov (.t 0), []⟩ <|
          .op ⟨(some 27), .nilc (.t 26), []⟩ <|
          .op ⟨(some 28), .fieldA 9 (.t 27), []⟩ <|
          .op ⟨none, .store 1 (.t 28) (.c (.int .i64 4)), []⟩ <|
          .nil)) (.ops (
          .op ⟨(some 2), .mov (.t 0), []⟩ <|
          .op ⟨(some 3), .nilc (.t 2), []⟩ <|
          .op ⟨(some 4), .fieldA 9 (.t 3), []⟩ <|
          .op ⟨none, .store 1 (.t 4) (.c (.int .i64 14)), []⟩ <|
          .nil))))))

def mark_Mark_onward_hs : List (List Nat × List Nat) := []

end Wm.F
end

section
/- PRINTED by my tool (wip/wm/tool/Gen.lean): a function as one of my machine. -/
namespace Wm.F
open Wm
set_option maxRecDepth 100000

/-- 375: withy/plan.within -/
def plan_within : AFunc where
  closed := true
  nparams := 3
  ntmps := 35
  results := [.tmp 6]
  body := .seq (.ops (
      .op ⟨(some 3), .box (.t 0), []⟩ <|
      .op ⟨(some 6), .mov (.c (.int .i64 0)), []⟩ <|
      .nil)) (
    .seq (.seq (.ops (
      .op ⟨(some 7), .loadN 6 (.t 3), []⟩ <|
      .op ⟨(some 8), .call 263 [(.t 7)], []⟩ <|
      .op ⟨(some 9), .not (.t 8), []⟩ <|
      .op ⟨(some 10), .mov (.t 9), []⟩ <|
      .grd 10 false [⟨(some 11), .mov (.t 1), []⟩,
          ⟨(some 12), .fieldA 0 (.t 3), []⟩,
          ⟨(some 13), .load1 (.t 12), []⟩,
          ⟨(some 14), .arith .sub .i64 (.t 13) (.c (.int .i64 1)), []⟩,
          ⟨(some 15), .call 376 [(.t 11), (.c (.int .i64 0)), (.t 14)], []⟩,
          ⟨(some 16), .not (.t 15), []⟩] <|
      .op ⟨(some 17), .pick (.t 10) (.c (.bool true)) (.t 16), []⟩ <|
      .op ⟨(some 18), .mov (.t 17), []⟩ <|
      .grd 18 false [⟨(some 19), .mov (.t 2), []⟩,
          ⟨(some 20), .loadN 6 (.t 3), []⟩,
          ⟨(some 21), .call 378 [(.t 20)], []⟩,
          ⟨(some 22), .arith .sub .i64 (.t 21) (.c (.int .i64 1)), []⟩,
          ⟨(some 23), .call 376 [(.t 19), (.c (.int .i64 0)), (.t 22)], []⟩,
          ⟨(some 24), .not (.t 23), []⟩] <|
      .op ⟨(some 25), .pick (.t 18) (.c (.bool true)) (.t 24), []⟩ <|
      .nil)) (
    .cond (.t 25) (.seq (.ops (
        .op ⟨(some 6), .mov (.c (.int .i64 (-1))), []⟩ <|
        .nil)) (
      .ret)) (.skip))) (
    .seq (.ops (
      .op ⟨(some 26), .loadN 6 (.t 3), []⟩ <|
      .op ⟨(some 28), .mov (.t 1), []⟩ <|
      .op ⟨(some 29), .loadN 6 (.t 3), []⟩ <|
      .op ⟨(some 33), .mov (.t 2), []⟩ <|
      .op ⟨(some 27), .call 377 [(.t 26)], [{ g := none, op := .loadN 6 (.t 3), d := 29 }]⟩ <|
      .op ⟨(some 30), .call 378 [(.t 29)], []⟩ <|
      .op ⟨(some 31), .arith .mul .i64 (.t 28) (.t 30), []⟩ <|
      .op ⟨(some 32), .arith .add .i64 (.t 27) (.t 31), []⟩ <|
      .op ⟨(some 34), .arith .add .i64 (.t 32) (.t 33), []⟩ <|
      .op ⟨(some 6), .mov (.t 34), []⟩ <|
      .nil)) (
    .ret)))

def plan_within_hs : List (List Nat × List Nat) := []

end Wm.F
end

section
/- PRINTED by my tool (wip/wm/tool/Gen.lean): a function as one of my machine. -/
namespace Wm.F
open Wm
set_option maxRecDepth 100000

/-- 377: withy/plan.slots -/
def plan_slots : AFunc where
  closed := true
  nparams := 1
  ntmps := 11
  results := [.tmp 2]
  body := .seq (.ops (
      .op ⟨(some 1), .box (.t 0), []⟩ <|
      .op ⟨(some 2), .mov (.c (.int .i64 0)), []⟩ <|
      .nil)) (
    .seq (.ops (
      .op ⟨(some 3), .fieldA 2 (.t 1), []⟩ <|
      .op ⟨(some 4), .load1 (.t 3), []⟩ <|
      .op ⟨(some 5), .fieldA 3 (.t 1), []⟩ <|
      .op ⟨(some 6), .load1 (.t 5), []⟩ <|
      .op ⟨(some 7), .arith .add .i64 (.c (.int .i64 1)) (.t 6), []⟩ <|
      .op ⟨(some 8), .arith .add .i64 (.t 7) (.c (.int .i64 2)), []⟩ <|
      .op ⟨(some 9), .arith .mul .i64 (.t 4) (.t 8), []⟩ <|
      .op ⟨(some 10), .arith .add .i64 (.c (.int .i64 4)) (.t 9), []⟩ <|
      .op ⟨(some 2), .mov (.t 10), []⟩ <|
      .nil)) (
    .ret))

def plan_slots_hs : List (List Nat × List Nat) := []

end Wm.F
end

section
/- PRINTED by my tool (wip/wm/tool/Gen.lean): a function as one of my machine. -/
namespace Wm.F
open Wm
set_option maxRecDepth 100000

/-- 378: withy/plan.room -/
def plan_room : AFunc where
  closed := true
  nparams := 1
  ntmps := 7
  results := [.tmp 2]
  body := .seq (.ops (
      .op ⟨(some 1), .box (.t 0), []⟩ <|
      .op ⟨(some 2), .mov (.c (.int .i64 0)), []⟩ <|
      .nil)) (
    .seq (.ops (
      .op ⟨(some 3), .fieldA 1 (.t 1), []⟩ <|
      .op ⟨(some 4), .load1 (.t 3), []⟩ <|
      .op ⟨(some 5), .minmax true .i64 (.t 4) (.c (.int .i64 3)), []⟩ <|
      .op ⟨(some 6), .arith .add .i64 (.c (.int .i64 2)) (.t 5), []⟩ <|
      .op ⟨(some 2), .mov (.t 6), []⟩ <|
      .nil)) (
    .ret))

def plan_room_hs : List (List Nat × List Nat) := []

end Wm.F
end

section
/- PRINTED by my tool (wip/wm/tool/Gen.lean): a function as one of my machine. -/
namespace Wm.F
open Wm
set_option maxRecDepth 100000

def word_Unpack_c1 : ACode :=
  .seq (.ops (
    .op ⟨(some 13), .cmp .lss .i64 (.t 12) (.t 11), []⟩ <|
    .nil)) (
  .seq (.cond (.t 13) (.skip) (.exit 0)) (
  .seq (.block 1 (.seq (.ops (
    .op ⟨(some 14), .indexA 1 (.t 10) (.t 12), []⟩ <|
    .op ⟨(some 15), .load1 (.t 14), []⟩ <|
    .op ⟨(some 9), .mov (.t 15), []⟩ <|
    .nil)) (
  .seq (.seq (.ops (
    .op ⟨(some 16), .mov (.t 7), []⟩ <|
    .op ⟨(some 17), .mov (.t 9), []⟩ <|
    .op ⟨(some 18), .call 441 [(.t 16), (.t 17)], []⟩ <|
    .op ⟨(some 19), .not (.t 18), []⟩ <|
    .nil)) (
  .cond (.t 19) (.seq (.ops (
      .op ⟨(some 4), .mov (.c .nilsl), []⟩ <|
      .op ⟨(some 5), .mov (.c (.bool false)), []⟩ <|
      .nil)) (
    .ret)) (.skip))) (
  .seq (.ops (
    .op ⟨(some 20), .mov (.t 6), []⟩ <|
    .op ⟨(some 21), .mov (.t 0), []⟩ <|
    .op ⟨(some 22), .mov (.t 7), []⟩ <|
    .op ⟨(some 23), .mov (.t 9), []⟩ <|
    .op ⟨(some 24), .call 396 [(.t 21), (.t 22), (.t 23)], []⟩ <|
    .op ⟨(some 25), .buildSl 1 1 [(.int .u64 0)] [(0, 1, (.t 24))], []⟩ <|
    .op ⟨(some 26), .append 1 8 (.t 20) (.t 25), []⟩ <|
    .op ⟨(some 6), .mov (.t 26), []⟩ <|
    .nil)) (
  .ops (
    .op ⟨(some 27), .mov (.t 7), []⟩ <|
    .op ⟨(some 28), .mov (.t 9), []⟩ <|
    .op ⟨(some 29), .arith .add .i64 (.t 27) (.t 28), []⟩ <|
    .op ⟨(some 7), .mov (.t 29), []⟩ <|
    .nil)))))) (
  .ops (
    .op ⟨(some 30), .arith .add .i64 (.t 12) (.c (.int .i64 1)), []⟩ <|
    .op ⟨(some 12), .mov (.t 30), []⟩ <|
    .nil))))

def word_Unpack_c0 : ACode :=
  .seq (.ops (
    .op ⟨(some 31), .mov (.t 6), []⟩ <|
    .op ⟨(some 4), .mov (.t 31), []⟩ <|
    .op ⟨(some 5), .mov (.c (.bool true)), []⟩ <|
    .nil)) (
  .ret)

/-- 379: withy/word.Unpack -/
def word_Unpack : AFunc where
  closed := false
  nparams := 2
  ntmps := 32
  results := [.tmp 4, .tmp 5]
  body := .seq (.ops (
      .op ⟨(some 4), .mov (.c .nilsl), []⟩ <|
      .op ⟨(some 5), .mov (.c (.bool false)), []⟩ <|
      .nil)) (
    .seq (.ops (
      .op ⟨(some 6), .mov (.c .nilsl), []⟩ <|
      .nil)) (
    .seq (.ops (
      .op ⟨(some 7), .mov (.c (.int .i64 0)), []⟩ <|
      .nil)) (
    .seq (.seq (.ops (
      .op ⟨(some 10), .mov (.t 1), []⟩ <|
      .op ⟨(some 11), .lenSl (.t 10), []⟩ <|
      .op ⟨(some 12), .mov (.c (.int .i64 0)), []⟩ <|
      .nil)) (
    .block 0 (.loop [0, 6, 7, 10, 11, 12] [4, 5, 6] (word_Unpack_c1)))) (
    word_Unpack_c0))))

def word_Unpack_hs : List (List Nat × List Nat) := [([0, 6, 7, 10, 11, 12], [4, 5, 6])]

end Wm.F
end

section
/- PRINTED by my tool (wip/wm/tool/Gen.lean): a function as one of my machine. -/
namespace Wm.F
open Wm
set_option maxRecDepth 100000

/-- 380: withy/head.lives -/
def head_lives : AFunc where
  closed := true
  nparams := 1
  ntmps := 23
  results := [.cell true 6 2, .tmp 3]
  body := .seq (.ops (
      .op ⟨(some 2), .alloc [(.int .i64 0), (.int .i64 0), (.bool false), (.int .i64 0), (.int .i64 0), (.int .i64 0)], []⟩ <|
      .op ⟨(some 3), .mov (.c (.bool false)), []⟩ <|
      .nil)) (
    .seq (.ops (
      .op ⟨(some 7), .mov (.t 0), []⟩ <|
      .op ⟨(some 8), .call 265 [(.t 7)], []⟩ <|
      .op ⟨(some 6), .mov (.t 8), []⟩ <|
      .op ⟨(some 9), .extract (.t 6) 0, []⟩ <|
      .op ⟨(some 10), .extract (.t 6) 1, []⟩ <|
      .op ⟨(some 4), .alloc [(.int .i64 0), (.int .i64 0), (.bool false), (.int .i64 0), (.int .i64 0), (.int .i64 0)], []⟩ <|
      .op ⟨none, .store 6 (.t 4) (.t 9), []⟩ <|
      .op ⟨(some 5), .mov (.t 10), []⟩ <|
      .nil)) (
    .seq (.ops (
      .op ⟨(some 11), .loadN 6 (.t 4), []⟩ <|
      .op ⟨(some 12), .mov (.t 5), []⟩ <|
      .op ⟨(some 13), .mov (.t 12), []⟩ <|
      .grd 13 true [⟨(some 14), .fieldA 0 (.t 4), []⟩,
          ⟨(some 15), .load1 (.t 14), []⟩,
          ⟨(some 16), .cmp .eql .i64 (.t 15) (.c (.int .i64 1)), []⟩,
          ⟨(some 17), .mov (.t 16), []⟩] <|
      .grd 17 false [⟨(some 18), .fieldA 0 (.t 4), []⟩,
          ⟨(some 19), .load1 (.t 18), []⟩,
          ⟨(some 20), .cmp .eql .i64 (.t 19) (.c (.int .i64 2)), []⟩] <|
      .grd 13 true [⟨(some 21), .pick (.t 17) (.c (.bool true)) (.t 20), []⟩] <|
      .op ⟨(some 22), .pick (.t 13) (.t 21) (.c (.bool false)), []⟩ <|
      .op ⟨none, .store 6 (.t 2) (.t 11), [{ g := (some (17, false)), op := .load1 (.t 18), d := 19 }]⟩ <|
      .op ⟨(some 3), .mov (.t 22), []⟩ <|
      .nil)) (
    .ret)))

def head_lives_hs : List (List Nat × List Nat) := []

end Wm.F
end

section
/- PRINTED by my tool (wip/wm/tool/Gen.lean): a function as one of my machine. -/
namespace Wm.F
open Wm
set_option maxRecDepth 100000

/-- 381: withy/turn.Black -/
def turn_Black : AFunc where
  closed := true
  nparams := 1
  ntmps := 8
  results := [.tmp 2]
  body := .seq (.ops (
      .op ⟨(some 2), .mov (.c (.int .i64 0)), []⟩ <|
      .nil)) (
    .seq (.ops (
      .op ⟨(some 3), .mov (.t 0), []⟩ <|
      .op ⟨(some 4), .call 442 [(.t 3)], []⟩ <|
      .op ⟨(some 5), .arith .add .u64 (.t 4) (.c (.int .u64 1)), []⟩ <|
      .op ⟨(some 6), .arith .rem .u64 (.t 5) (.c (.int .u64 2)), []⟩ <|
      .op ⟨(some 7), .conv .i64 (.t 6), []⟩ <|
      .op ⟨(some 2), .mov (.t 7), []⟩ <|
      .nil)) (
    .ret))

def turn_Black_hs : List (List Nat × List Nat) := []

end Wm.F
end

section
/- PRINTED by my tool (wip/wm/tool/Gen.lean): a function as one of my machine. -/
namespace Wm.F
open Wm
set_option maxRecDepth 100000

/-- 396: withy/word.Get -/
def word_Get : AFunc where
  closed := true
  nparams := 3
  ntmps := 17
  results := [.tmp 6]
  body := .seq (.ops (
      .op ⟨(some 6), .mov (.c (.int .u64 0)), []⟩ <|
      .nil)) (
    .seq (.seq (.ops (
      .op ⟨(some 7), .mov (.t 1), []⟩ <|
      .op ⟨(some 8), .mov (.t 2), []⟩ <|
      .op ⟨(some 9), .call 441 [(.t 7), (.t 8)], []⟩ <|
      .op ⟨(some 10), .not (.t 9), []⟩ <|
      .nil)) (
    .cond (.t 10) (.seq (.ops (
        .op ⟨(some 6), .mov (.c (.int .u64 0)), []⟩ <|
        .nil)) (
      .ret)) (.skip))) (
    .seq (.ops (
      .op ⟨(some 11), .mov (.t 0), []⟩ <|
      .op ⟨(some 12), .mov (.t 1), []⟩ <|
      .op ⟨(some 13), .shift false .u64 .i64 (.t 11) (.t 12), []⟩ <|
      .op ⟨(some 14), .mov (.t 2), []⟩ <|
      .op ⟨(some 15), .call 449 [(.t 14)], []⟩ <|
      .op ⟨(some 16), .arith .and .u64 (.t 13) (.t 15), []⟩ <|
      .op ⟨(some 6), .mov (.t 16), []⟩ <|
      .nil)) (
    .ret)))

def word_Get_hs : List (List Nat × List Nat) := []

end Wm.F
end

section
/- PRINTED by my tool (wip/wm/tool/Gen.lean): a function as one of my machine. -/
namespace Wm.F
open Wm
set_option maxRecDepth 100000

/-- 397: withy/plan.place -/
def plan_place : AFunc where
  closed := true
  nparams := 5
  ntmps := 40
  results := [.tmp 10]
  body := .seq (.ops (
      .op ⟨(some 5), .box (.t 0), []⟩ <|
      .op ⟨(some 10), .mov (.c (.int .i64 0)), []⟩ <|
      .nil)) (
    .seq (.seq (.ops (
      .op ⟨(some 11), .loadN 6 (.t 5), []⟩ <|
      .op ⟨(some 12), .call 263 [(.t 11)], []⟩ <|
      .op ⟨(some 13), .not (.t 12), []⟩ <|
      .op ⟨(some 14), .mov (.t 13), []⟩ <|
      .grd 14 false [⟨(some 15), .mov (.t 1), []⟩,
          ⟨(some 16), .fieldA 2 (.t 5), []⟩,
          ⟨(some 17), .load1 (.t 16), []⟩,
          ⟨(some 18), .arith .sub .i64 (.t 17) (.c (.int .i64 1)), []⟩,
          ⟨(some 19), .call 376 [(.t 15), (.c (.int .i64 0)), (.t 18)], []⟩,
          ⟨(some 20), .not (.t 19), []⟩] <|
      .op ⟨(some 21), .pick (.t 14) (.c (.bool true)) (.t 20), []⟩ <|
      .op ⟨(some 22), .mov (.t 21), []⟩ <|
      .grd 22 false [⟨(some 23), .mov (.t 4), []⟩,
          ⟨(some 24), .mov (.t 3), []⟩,
          ⟨(some 25), .arith .sub .i64 (.t 24) (.c (.int .i64 1)), []⟩,
          ⟨(some 26), .call 376 [(.t 23), (.c (.int .i64 0)), (.t 25)], []⟩,
          ⟨(some 27), .not (.t 26), []⟩] <|
      .op ⟨(some 28), .pick (.t 22) (.c (.bool true)) (.t 27), []⟩ <|
      .nil)) (
    .cond (.t 28) (.seq (.ops (
        .op ⟨(some 10), .mov (.c (.int .i64 (-1))), []⟩ <|
        .nil)) (
      .ret)) (.skip))) (
    .seq (.ops (
      .op ⟨(some 29), .mov (.t 2), []⟩ <|
      .op ⟨(some 30), .fieldA 2 (.t 5), []⟩ <|
      .op ⟨(some 31), .load1 (.t 30), []⟩ <|
      .op ⟨(some 32), .arith .mul .i64 (.t 29) (.t 31), []⟩ <|
      .op ⟨(some 33), .arith .add .i64 (.c (.int .i64 4)) (.t 32), []⟩ <|
      .op ⟨(some 34), .mov (.t 1), []⟩ <|
      .op ⟨(some 35), .mov (.t 3), []⟩ <|
      .op ⟨(some 36), .arith .mul .i64 (.t 34) (.t 35), []⟩ <|
      .op ⟨(some 37), .arith .add .i64 (.t 33) (.t 36), []⟩ <|
      .op ⟨(some 38), .mov (.t 4), []⟩ <|
      .op ⟨(some 39), .arith .add .i64 (.t 37) (.t 38), []⟩ <|
      .op ⟨(some 10), .mov (.t 39), []⟩ <|
      .nil)) (
    .ret)))

def plan_place_hs : List (List Nat × List Nat) := []

end Wm.F
end

section
/- PRINTED by my tool (wip/wm/tool/Gen.lean): a function as one of my machine. -/
namespace Wm.F
open Wm
set_option maxRecDepth 100000

def withyref06_Memory_c1 : ACode :=
  .seq (.seq (.ops (
    .op ⟨(some 15), .mov (.t 5), []⟩ <|
    .op ⟨(some 16), .mov (.t 3), []⟩ <|
    .op ⟨(some 17), .lenSl (.t 16), []⟩ <|
    .op ⟨(some 18), .cmp .lss .i64 (.t 15) (.t 17), []⟩ <|
    .nil)) (
  .cond (.t 18) (.skip) (.exit 0))) (
  .seq (.block 1 (.seq (.ops (
    .op ⟨(some 21), .mov (.t 3), []⟩ <|
    .op ⟨(some 22), .mov (.t 5), []⟩ <|
    .op ⟨(some 23), .indexA 3 (.t 21) (.t 22), []⟩ <|
    .op ⟨(some 24), .fieldA 0 (.t 23), []⟩ <|
    .op ⟨(some 25), .load1 (.t 24), []⟩ <|
    .op ⟨(some 26), .eq false .str (.t 25) (.c (.str ⟨⟨[108, 105, 110, 107]⟩⟩)), []⟩ <|
    .op ⟨(some 27), .mov (.t 26), []⟩ <|
    .grd 27 true [⟨(some 28), .mov (.t 3), []⟩,
        ⟨(some 29), .mov (.t 5), []⟩,
        ⟨(some 30), .indexA 3 (.t 28) (.t 29), []⟩,
        ⟨(some 31), .fieldA 1 (.t 30), []⟩,
        ⟨(some 32), .load1 (.t 31), []⟩,
        ⟨(some 33), .arith .add .i64 (.t 32) (.c (.int .i64 1)), []⟩,
        ⟨(some 34), .fieldA 0 (.t 1), []⟩,
        ⟨(some 35), .load1 (.t 34), []⟩,
        ⟨(some 36), .cmp .lss .i64 (.t 33) (.t 35), []⟩] <|
    .op ⟨(some 37), .pick (.t 27) (.t 36) (.c (.bool false)), []⟩ <|
    .nil)) (
  .cond (.t 37) (.ops (
      .op ⟨(some 38), .mov (.t 4), []⟩ <|
      .op ⟨(some 39), .mov (.t 5), []⟩ <|
      .op ⟨(some 40), .mov (.t 3), []⟩ <|
      .op ⟨(some 41), .mov (.t 5), []⟩ <|
      .op ⟨(some 42), .indexA 3 (.t 40) (.t 41), []⟩ <|
      .op ⟨(some 43), .fieldA 1 (.t 42), []⟩ <|
      .op ⟨(some 44), .load1 (.t 43), []⟩ <|
      .op ⟨(some 45), .arith .add .i64 (.t 44) (.c (.int .i64 2)), []⟩ <|
      .op ⟨(some 46), .conv .u64 (.t 45), []⟩ <|
      .op ⟨(some 47), .indexA 1 (.t 38) (.t 39), []⟩ <|
      .op ⟨none, .store 1 (.t 47) (.t 46), []⟩ <|
      .nil)) (.skip)))) (
  .ops (
    .op ⟨(some 19), .mov (.t 5), []⟩ <|
    .op ⟨(some 20), .arith .add .i64 (.t 19) (.c (.int .i64 1)), []⟩ <|
    .op ⟨(some 5), .mov (.t 20), []⟩ <|
    .nil)))

def withyref06_Memory_c0 : ACode :=
  .seq (.ops (
    .op ⟨(some 48), .mov (.t 4), []⟩ <|
    .op ⟨(some 2), .mov (.t 48), []⟩ <|
    .nil)) (
  .ret)

/-- 86: withy/withyref06.Memory -/
def withyref06_Memory : AFunc where
  closed := false
  nparams := 1
  ntmps := 49
  results := [.tmp 2]
  body := .seq (.ops (
      .op ⟨(some 1), .box (.t 0), []⟩ <|
      .op ⟨(some 2), .mov (.c .nilsl), []⟩ <|
      .nil)) (
    .seq (.ops (
      .op ⟨(some 6), .loadN 6 (.t 1), []⟩ <|
      .op ⟨(some 7), .call 87 [(.t 6)], []⟩ <|
      .op ⟨(some 3), .mov (.t 7), []⟩ <|
      .nil)) (
    .seq (.ops (
      .op ⟨(some 8), .mov (.t 3), []⟩ <|
      .op ⟨(some 9), .lenSl (.t 8), []⟩ <|
      .op ⟨(some 10), .mkSl 1 8 [(.int .u64 0)] (.t 9) (.t 9), []⟩ <|
      .op ⟨(some 4), .mov (.t 10), []⟩ <|
      .nil)) (
    .seq (.ops (
      .op ⟨(some 11), .mov (.t 4), []⟩ <|
      .op ⟨(some 12), .indexA 1 (.t 11) (.c (.int .i64 0)), []⟩ <|
      .op ⟨none, .store 1 (.t 12) (.c (.int .u64 1)), []⟩ <|
      .nil)) (
    .seq (.ops (
      .op ⟨(some 13), .mov (.t 4), []⟩ <|
      .op ⟨(some 14), .indexA 1 (.t 13) (.c (.int .i64 3)), []⟩ <|
      .op ⟨none, .store 1 (.t 14) (.c (.int .u64 1)), []⟩ <|
      .nil)) (
    .seq (.seq (.ops (
      .op ⟨(some 5), .mov (.c (.int .i64 0)), []⟩ <|
      .nil)) (
    .block 0 (.loop [1, 3, 4, 5] [4] (withyref06_Memory_c1)))) (
    withyref06_Memory_c0))))))

def withyref06_Memory_hs : List (List Nat × List Nat) := [([1, 3, 4, 5], [4])]

end Wm.F
end

section
/- PRINTED by my tool (wip/wm/tool/Gen.lean): a function as one of my machine. -/
namespace Wm.F
open Wm
set_option maxRecDepth 100000

/-- 111: withy/withyref04.Pack -/
def withyref04_Pack : AFunc where
  closed := true
  nparams := 1
  ntmps := 32
  results := [.tmp 2]
  body := .seq (.ops (
      .op ⟨(some 1), .box (.t 0), []⟩ <|
      .op ⟨(some 2), .mov (.c (.int .u64 0)), []⟩ <|
      .nil)) (
    .seq (.ops (
      .op ⟨(some 4), .fieldA 0 (.t 1), []⟩ <|
      .op ⟨(some 5), .load1 (.t 4), []⟩ <|
      .op ⟨(some 6), .conv .u64 (.t 5), []⟩ <|
      .op ⟨(some 7), .fieldA 1 (.t 1), []⟩ <|
      .op ⟨(some 8), .load1 (.t 7), []⟩ <|
      .op ⟨(some 9), .conv .u64 (.t 8), []⟩ <|
      .op ⟨(some 10), .arith .mul .u64 (.c (.int .u64 8)) (.t 9), []⟩ <|
      .op ⟨(some 11), .arith .add .u64 (.t 6) (.t 10), []⟩ <|
      .op ⟨(some 12), .fieldA 3 (.t 1), []⟩ <|
      .op ⟨(some 13), .load1 (.t 12), []⟩ <|
      .op ⟨(some 14), .conv .u64 (.t 13), []⟩ <|
      .op ⟨(some 15), .arith .mul .u64 (.c (.int .u64 32)) (.t 14), []⟩ <|
      .op ⟨(some 16), .arith .add .u64 (.t 11) (.t 15), []⟩ <|
      .op ⟨(some 17), .fieldA 4 (.t 1), []⟩ <|
      .op ⟨(some 18), .load1 (.t 17), []⟩ <|
      .op ⟨(some 19), .conv .u64 (.t 18), []⟩ <|
      .op ⟨(some 20), .arith .mul .u64 (.c (.int .u64 65536)) (.t 19), []⟩ <|
      .op ⟨(some 21), .arith .add .u64 (.t 16) (.t 20), []⟩ <|
      .op ⟨(some 22), .fieldA 5 (.t 1), []⟩ <|
      .op ⟨(some 23), .load1 (.t 22), []⟩ <|
      .op ⟨(some 24), .conv .u64 (.t 23), []⟩ <|
      .op ⟨(some 25), .arith .mul .u64 (.c (.int .u64 281474976710656)) (.t 24), []⟩ <|
      .op ⟨(some 26), .arith .add .u64 (.t 21) (.t 25), []⟩ <|
      .op ⟨(some 3), .mov (.t 26), []⟩ <|
      .nil)) (
    .seq (.seq (.ops (
      .op ⟨(some 27), .fieldA 2 (.t 1), []⟩ <|
      .op ⟨(some 28), .load1 (.t 27), []⟩ <|
      .nil)) (
    .cond (.t 28) (.ops (
        .op ⟨(some 29), .mov (.t 3), []⟩ <|
        .op ⟨(some 30), .arith .add .u64 (.t 29) (.c (.int .u64 16)), []⟩ <|
        .op ⟨(some 3), .mov (.t 30), []⟩ <|
        .nil)) (.skip))) (
    .seq (.ops (
      .op ⟨(some 31), .mov (.t 3), []⟩ <|
      .op ⟨(some 2), .mov (.t 31), []⟩ <|
      .nil)) (
    .ret))))

def withyref04_Pack_hs : List (List Nat × List Nat) := []

end Wm.F
end

section
/- PRINTED by my tool (wip/wm/tool/Gen.lean): a function as one of my machine. -/
namespace Wm.F
open Wm
set_option maxRecDepth 100000

/-- 149: withy/withyref06.Room -/
def withyref06_Room : AFunc where
  closed := true
  nparams := 1
  ntmps := 8
  results := [.tmp 2]
  body := .seq (.ops (
      .op ⟨(some 1), .box (.t 0), []⟩ <|
      .op ⟨(some 2), .mov (.c (.int .i64 0)), []⟩ <|
      .nil)) (
    .seq (.seq (.ops (
      .op ⟨(some 3), .fieldA 1 (.t 1), []⟩ <|
      .op ⟨(some 4), .load1 (.t 3), []⟩ <|
      .op ⟨(some 5), .cmp .lss .i64 (.t 4) (.c (.int .i64 3)), []⟩ <|
      .nil)) (
    .cond (.t 5) (.seq (.ops (
        .op ⟨(some 2), .mov (.c (.int .i64 3)), []⟩ <|
        .nil)) (
      .ret)) (.skip))) (
    .seq (.ops (
      .op ⟨(some 6), .fieldA 1 (.t 1), []⟩ <|
      .op ⟨(some 7), .load1 (.t 6), []⟩ <|
      .op ⟨(some 2), .mov (.t 7), []⟩ <|
      .nil)) (
    .ret)))

def withyref06_Room_hs : List (List Nat × List Nat) := []

end Wm.F
end

section
/- PRINTED by my tool (wip/wm/tool/Gen.lean): a function as one of my machine. -/
namespace Wm.F
open Wm
set_option maxRecDepth 100000

/-- 202: withy/withyref04.Right -/
def withyref04_Right : AFunc where
  closed := true
  nparams := 1
  ntmps := 51
  results := [.tmp 2]
  body := .seq (.ops (
      .op ⟨(some 1), .box (.t 0), []⟩ <|
      .op ⟨(some 2), .mov (.c (.bool false)), []⟩ <|
      .nil)) (
    .seq (.ops (
      .op ⟨(some 3), .fieldA 0 (.t 1), []⟩ <|
      .op ⟨(some 4), .load1 (.t 3), []⟩ <|
      .op ⟨(some 5), .cmp .geq .i64 (.t 4) (.c (.int .i64 0)), []⟩ <|
      .op ⟨(some 6), .mov (.t 5), []⟩ <|
      .grd 6 true [⟨(some 7), .fieldA 0 (.t 1), []⟩,
          ⟨(some 8), .load1 (.t 7), []⟩,
          ⟨(some 9), .cmp .leq .i64 (.t 8) (.c (.int .i64 4)), []⟩] <|
      .op ⟨(some 10), .pick (.t 6) (.t 9) (.c (.bool false)), []⟩ <|
      .op ⟨(some 11), .mov (.t 10), []⟩ <|
      .grd 11 true [⟨(some 12), .fieldA 1 (.t 1), []⟩,
          ⟨(some 13), .load1 (.t 12), []⟩,
          ⟨(some 14), .cmp .eql .i64 (.t 13) (.c (.int .i64 0)), []⟩,
          ⟨(some 15), .mov (.t 14), []⟩] <|
      .grd 15 false [⟨(some 16), .fieldA 1 (.t 1), []⟩,
          ⟨(some 17), .load1 (.t 16), []⟩,
          ⟨(some 18), .cmp .eql .i64 (.t 17) (.c (.int .i64 1)), []⟩] <|
      .grd 11 true [⟨(some 19), .pick (.t 15) (.c (.bool true)) (.t 18), []⟩] <|
      .op ⟨(some 20), .pick (.t 11) (.t 19) (.c (.bool false)), []⟩ <|
      .op ⟨(some 21), .mov (.t 20), []⟩ <|
      .grd 21 true [⟨(some 22), .fieldA 3 (.t 1), []⟩,
          ⟨(some 23), .load1 (.t 22), []⟩,
          ⟨(some 24), .cmp .geq .i64 (.t 23) (.c (.int .i64 0)), []⟩] <|
      .op ⟨(some 25), .pick (.t 21) (.t 24) (.c (.bool false)), []⟩ <|
      .op ⟨(some 26), .mov (.t 25), []⟩ <|
      .grd 26 true [⟨(some 27), .fieldA 3 (.t 1), []⟩,
          ⟨(some 28), .load1 (.t 27), []⟩,
          ⟨(some 29), .cmp .leq .i64 (.t 28) (.c (.int .i64 15)), []⟩] <|
      .op ⟨(some 30), .pick (.t 26) (.t 29) (.c (.bool false)), []⟩ <|
      .op ⟨(some 31), .mov (.t 30), []⟩ <|
      .grd 31 true [⟨(some 32), .fieldA 4 (.t 1), []⟩,
          ⟨(some 33), .load1 (.t 32), []⟩,
          ⟨(some 34), .cmp .geq .i64 (.t 33) (.c (.int .i64 0)), []⟩] <|
      .op ⟨(some 35), .pick (.t 31) (.t 34) (.c (.bool false)), []⟩ <|
      .op ⟨(some 36), .mov (.t 35), []⟩ <|
      .grd 36 true [⟨(some 37), .fieldA 4 (.t 1), []⟩,
          ⟨(some 38), .load1 (.t 37), []⟩,
          ⟨(some 39), .cmp .leq .i64 (.t 38) (.c (.int .i64 4294967295)), []⟩] <|
      .op ⟨(some 40), .pick (.t 36) (.t 39) (.c (.bool false)), []⟩ <|
      .op ⟨(some 41), .mov (.t 40), []⟩ <|
      .grd 41 true [⟨(some 42), .fieldA 5 (.t 1), []⟩,
          ⟨(some 43), .load1 (.t 42), []⟩,
          ⟨(some 44), .cmp .geq .i64 (.t 43) (.c (.int .i64 0)), []⟩] <|
      .op ⟨(some 45), .pick (.t 41) (.t 44) (.c (.bool false)), []⟩ <|
      .op ⟨(some 46), .mov (.t 45), []⟩ <|
      .grd 46 true [⟨(some 47), .fieldA 5 (.t 1), []⟩,
          ⟨(some 48), .load1 (.t 47), []⟩,
          ⟨(some 49), .cmp .leq .i64 (.t 48) (.c (.int .i64 65535)), []⟩] <|
      .op ⟨(some 50), .pick (.t 46) (.t 49) (.c (.bool false)), []⟩ <|
      .op ⟨(some 2), .mov (.t 50), []⟩ <|
      .nil)) (
    .ret))

def withyref04_Right_hs : List (List Nat × List Nat) := []

end Wm.F
end

section
/- PRINTED by my tool (wip/wm/tool/Gen.lean): a function as one of my machine. -/
namespace Wm.F
open Wm
set_option maxRecDepth 100000

def withyref13_Grays_c1 : ACode :=
  .seq (.seq (.ops (
    .op ⟨(some 9), .mov (.t 6), []⟩ <|
    .op ⟨(some 10), .fieldA 0 (.t 2), []⟩ <|
    .op ⟨(some 11), .load1 (.t 10), []⟩ <|
    .op ⟨(some 12), .cmp .lss .i64 (.t 9) (.t 11), []⟩ <|
    .nil)) (
  .cond (.t 12) (.skip) (.exit 0))) (
  .seq (.block 1 (.seq (.ops (
    .op ⟨(some 16), .loadN 6 (.t 2), []⟩ <|
    .op ⟨(some 17), .mov (.t 1), []⟩ <|
    .op ⟨(some 18), .mov (.t 6), []⟩ <|
    .op ⟨(some 19), .call 322 [(.t 16), (.t 17), (.c (.str ⟨⟨[104, 101, 97, 100, 101, 114]⟩⟩)), (.t 18), (.c (.int .i64 0))], []⟩ <|
    .op ⟨(some 20), .call 109 [(.t 19)], []⟩ <|
    .op ⟨(some 15), .mov (.t 20), []⟩ <|
    .op ⟨(some 21), .extract (.t 15) 0, []⟩ <|
    .op ⟨(some 22), .extract (.t 15) 1, []⟩ <|
    .op ⟨(some 7), .alloc [(.int .i64 0), (.int .i64 0), (.bool false), (.int .i64 0), (.int .i64 0), (.int .i64 0)], []⟩ <|
    .op ⟨none, .store 6 (.t 7) (.t 21), []⟩ <|
    .op ⟨(some 8), .mov (.t 22), []⟩ <|
    .nil)) (
  .seq (.ops (
    .op ⟨(some 23), .mov (.t 8), []⟩ <|
    .op ⟨(some 24), .mov (.t 23), []⟩ <|
    .grd 24 true [⟨(some 25), .fieldA 2 (.t 7), []⟩,
        ⟨(some 26), .load1 (.t 25), []⟩] <|
    .op ⟨(some 27), .pick (.t 24) (.t 26) (.c (.bool false)), []⟩ <|
    .nil)) (
  .cond (.t 27) (.ops (
      .op ⟨(some 28), .mov (.t 5), []⟩ <|
      .op ⟨(some 29), .arith .add .i64 (.t 28) (.c (.int .i64 1)), []⟩ <|
      .op ⟨(some 5), .mov (.t 29), []⟩ <|
      .nil)) (.skip))))) (
  .ops (
    .op ⟨(some 13), .mov (.t 6), []⟩ <|
    .op ⟨(some 14), .arith .add .i64 (.t 13) (.c (.int .i64 1)), []⟩ <|
    .op ⟨(some 6), .mov (.t 14), []⟩ <|
    .nil)))

def withyref13_Grays_c0 : ACode :=
  .seq (.ops (
    .op ⟨(some 30), .mov (.t 5), []⟩ <|
    .op ⟨(some 4), .mov (.t 30), []⟩ <|
    .nil)) (
  .ret)

/-- 297: withy/withyref13.Grays -/
def withyref13_Grays : AFunc where
  closed := false
  nparams := 2
  ntmps := 31
  results := [.tmp 4]
  body := .seq (.ops (
      .op ⟨(some 2), .box (.t 0), []⟩ <|
      .op ⟨(some 4), .mov (.c (.int .i64 0)), []⟩ <|
      .nil)) (
    .seq (.ops (
      .op ⟨(some 5), .mov (.c (.int .i64 0)), []⟩ <|
      .nil)) (
    .seq (.seq (.ops (
      .op ⟨(some 6), .mov (.c (.int .i64 0)), []⟩ <|
      .nil)) (
    .block 0 (.loop [1, 2, 5, 6] [5] (withyref13_Grays_c1)))) (
    withyref13_Grays_c0)))

def withyref13_Grays_hs : List (List Nat × List Nat) := [([1, 2, 5, 6], [5])]

end Wm.F
end

section
/- PRINTED by my tool (wip/wm/tool/Gen.lean): a function as one of my machine. -/
namespace Wm.F
open Wm
set_option maxRecDepth 100000

def withyref06_Words_c11 : ACode :=
  .seq (.seq (.ops (
    .op ⟨(some 70), .mov (.t 9), []⟩ <|
    .op ⟨(some 71), .loadN 6 (.t 1), []⟩ <|
    .op ⟨(some 72), .call 149 [(.t 71)], []⟩ <|
    .op ⟨(some 73), .cmp .lss .i64 (.t 70) (.t 72), []⟩ <|
    .nil)) (
  .cond (.t 73) (.skip) (.exit 10))) (
  .seq (.block 11 (.ops (
    .op ⟨(some 76), .mov (.t 3), []⟩ <|
    .op ⟨(some 77), .mov (.t 8), []⟩ <|
    .op ⟨(some 78), .mov (.t 9), []⟩ <|
    .op ⟨(some 79), .build [(.str ⟨⟨[]⟩⟩), (.int .i64 0), (.int .i64 0)] [(0, 1, (.c (.str ⟨⟨[98, 111, 100, 121]⟩⟩))), (1, 1, (.t 77)), (2, 1, (.t 78))], []⟩ <|
    .op ⟨(some 80), .buildSl 3 1 [(.str ⟨⟨[]⟩⟩), (.int .i64 0), (.int .i64 0)] [(0, 3, (.t 79))], []⟩ <|
    .op ⟨(some 81), .append 3 32 (.t 76) (.t 80), []⟩ <|
    .op ⟨(some 3), .mov (.t 81), []⟩ <|
    .nil))) (
  .ops (
    .op ⟨(some 74), .mov (.t 9), []⟩ <|
    .op ⟨(some 75), .arith .add .i64 (.t 74) (.c (.int .i64 1)), []⟩ <|
    .op ⟨(some 9), .mov (.t 75), []⟩ <|
    .nil)))

def withyref06_Words_c10 : ACode :=
  .ops (
    .op ⟨(some 61), .mov (.t 8), []⟩ <|
    .op ⟨(some 62), .arith .add .i64 (.t 61) (.c (.int .i64 1)), []⟩ <|
    .op ⟨(some 8), .mov (.t 62), []⟩ <|
    .nil)

def withyref06_Words_c9 : ACode :=
  .seq (.seq (.ops (
    .op ⟨(some 57), .mov (.t 8), []⟩ <|
    .op ⟨(some 58), .fieldA 0 (.t 1), []⟩ <|
    .op ⟨(some 59), .load1 (.t 58), []⟩ <|
    .op ⟨(some 60), .cmp .lss .i64 (.t 57) (.t 59), []⟩ <|
    .nil)) (
  .cond (.t 60) (.skip) (.exit 8))) (
  .seq (.block 9 (.seq (.ops (
    .op ⟨(some 63), .mov (.t 3), []⟩ <|
    .op ⟨(some 64), .mov (.t 8), []⟩ <|
    .op ⟨(some 65), .build [(.str ⟨⟨[]⟩⟩), (.int .i64 0), (.int .i64 0)] [(0, 1, (.c (.str ⟨⟨[104, 101, 97, 100, 101, 114]⟩⟩))), (1, 1, (.t 64)), (2, 1, (.c (.int .i64 0)))], []⟩ <|
    .op ⟨(some 66), .mov (.t 8), []⟩ <|
    .op ⟨(some 67), .build [(.str ⟨⟨[]⟩⟩), (.int .i64 0), (.int .i64 0)] [(0, 1, (.c (.str ⟨⟨[108, 105, 110, 107]⟩⟩))), (1, 1, (.t 66)), (2, 1, (.c (.int .i64 0)))], []⟩ <|
    .op ⟨(some 68), .buildSl 3 2 [(.str ⟨⟨[]⟩⟩), (.int .i64 0), (.int .i64 0)] [(0, 3, (.t 65)), (3, 3, (.t 67))], []⟩ <|
    .op ⟨(some 69), .append 3 32 (.t 63) (.t 68), []⟩ <|
    .op ⟨(some 3), .mov (.t 69), []⟩ <|
    .nil)) (
  .seq (.ops (
    .op ⟨(some 9), .mov (.c (.int .i64 0)), []⟩ <|
    .nil)) (
  .block 10 (.loop [1, 3, 8, 9] [1, 3, 8] (withyref06_Words_c11)))))) (
  withyref06_Words_c10))

def withyref06_Words_c8 : ACode :=
  .seq (.ops (
    .op ⟨(some 82), .mov (.t 3), []⟩ <|
    .op ⟨(some 2), .mov (.t 82), []⟩ <|
    .nil)) (
  .ret)

def withyref06_Words_c7 : ACode :=
  .seq (.seq (.ops (
    .op ⟨(some 44), .mov (.t 7), []⟩ <|
    .op ⟨(some 45), .fieldA 2 (.t 1), []⟩ <|
    .op ⟨(some 46), .load1 (.t 45), []⟩ <|
    .op ⟨(some 47), .cmp .lss .i64 (.t 44) (.t 46), []⟩ <|
    .nil)) (
  .cond (.t 47) (.skip) (.exit 6))) (
  .seq (.block 7 (.ops (
    .op ⟨(some 50), .mov (.t 3), []⟩ <|
    .op ⟨(some 51), .mov (.t 7), []⟩ <|
    .op ⟨(some 52), .build [(.str ⟨⟨[]⟩⟩), (.int .i64 0), (.int .i64 0)] [(0, 1, (.c (.str ⟨⟨[118, 105, 101, 119]⟩⟩))), (1, 1, (.t 51)), (2, 1, (.c (.int .i64 0)))], []⟩ <|
    .op ⟨(some 53), .mov (.t 7), []⟩ <|
    .op ⟨(some 54), .build [(.str ⟨⟨[]⟩⟩), (.int .i64 0), (.int .i64 0)] [(0, 1, (.c (.str ⟨⟨[115, 116, 97, 114, 116]⟩⟩))), (1, 1, (.t 53)), (2, 1, (.c (.int .i64 0)))], []⟩ <|
    .op ⟨(some 55), .buildSl 3 2 [(.str ⟨⟨[]⟩⟩), (.int .i64 0), (.int .i64 0)] [(0, 3, (.t 52)), (3, 3, (.t 54))], []⟩ <|
    .op ⟨(some 56), .append 3 32 (.t 50) (.t 55), []⟩ <|
    .op ⟨(some 3), .mov (.t 56), []⟩ <|
    .nil))) (
  .ops (
    .op ⟨(some 48), .mov (.t 7), []⟩ <|
    .op ⟨(some 49), .arith .add .i64 (.t 48) (.c (.int .i64 1)), []⟩ <|
    .op ⟨(some 7), .mov (.t 49), []⟩ <|
    .nil)))

def withyref06_Words_c6 : ACode :=
  .seq (.seq (.ops (
    .op ⟨(some 8), .mov (.c (.int .i64 0)), []⟩ <|
    .nil)) (
  .block 8 (.loop [1, 3, 8] [3] (withyref06_Words_c9)))) (
  withyref06_Words_c8)

def withyref06_Words_c5 : ACode :=
  .seq (.seq (.ops (
    .op ⟨(some 32), .mov (.t 6), []⟩ <|
    .op ⟨(some 33), .fieldA 3 (.t 1), []⟩ <|
    .op ⟨(some 34), .load1 (.t 33), []⟩ <|
    .op ⟨(some 35), .cmp .lss .i64 (.t 32) (.t 34), []⟩ <|
    .nil)) (
  .cond (.t 35) (.skip) (.exit 4))) (
  .seq (.block 5 (.ops (
    .op ⟨(some 38), .mov (.t 3), []⟩ <|
    .op ⟨(some 39), .mov (.t 5), []⟩ <|
    .op ⟨(some 40), .mov (.t 6), []⟩ <|
    .op ⟨(some 41), .build [(.str ⟨⟨[]⟩⟩), (.int .i64 0), (.int .i64 0)] [(0, 1, (.c (.str ⟨⟨[101, 110, 116, 114, 121]⟩⟩))), (1, 1, (.t 39)), (2, 1, (.t 40))], []⟩ <|
    .op ⟨(some 42), .buildSl 3 1 [(.str ⟨⟨[]⟩⟩), (.int .i64 0), (.int .i64 0)] [(0, 3, (.t 41))], []⟩ <|
    .op ⟨(some 43), .append 3 32 (.t 38) (.t 42), []⟩ <|
    .op ⟨(some 3), .mov (.t 43), []⟩ <|
    .nil))) (
  .ops (
    .op ⟨(some 36), .mov (.t 6), []⟩ <|
    .op ⟨(some 37), .arith .add .i64 (.t 36) (.c (.int .i64 1)), []⟩ <|
    .op ⟨(some 6), .mov (.t 37), []⟩ <|
    .nil)))

def withyref06_Words_c4 : ACode :=
  .ops (
    .op ⟨(some 30), .mov (.t 5), []⟩ <|
    .op ⟨(some 31), .arith .add .i64 (.t 30) (.c (.int .i64 1)), []⟩ <|
    .op ⟨(some 5), .mov (.t 31), []⟩ <|
    .nil)

def withyref06_Words_c3 : ACode :=
  .seq (.seq (.ops (
    .op ⟨(some 26), .mov (.t 5), []⟩ <|
    .op ⟨(some 27), .fieldA 2 (.t 1), []⟩ <|
    .op ⟨(some 28), .load1 (.t 27), []⟩ <|
    .op ⟨(some 29), .cmp .lss .i64 (.t 26) (.t 28), []⟩ <|
    .nil)) (
  .cond (.t 29) (.skip) (.exit 2))) (
  .seq (.block 3 (.seq (.ops (
    .op ⟨(some 6), .mov (.c (.int .i64 0)), []⟩ <|
    .nil)) (
  .block 4 (.loop [1, 3, 5, 6] [1, 3, 5] (withyref06_Words_c5))))) (
  withyref06_Words_c4))

def withyref06_Words_c2 : ACode :=
  .seq (.seq (.ops (
    .op ⟨(some 7), .mov (.c (.int .i64 0)), []⟩ <|
    .nil)) (
  .block 6 (.loop [1, 3, 7] [1, 3] (withyref06_Words_c7)))) (
  withyref06_Words_c6)

def withyref06_Words_c1 : ACode :=
  .seq (.seq (.ops (
    .op ⟨(some 15), .mov (.t 4), []⟩ <|
    .op ⟨(some 16), .fieldA 2 (.t 1), []⟩ <|
    .op ⟨(some 17), .load1 (.t 16), []⟩ <|
    .op ⟨(some 18), .cmp .lss .i64 (.t 15) (.t 17), []⟩ <|
    .nil)) (
  .cond (.t 18) (.skip) (.exit 0))) (
  .seq (.block 1 (.ops (
    .op ⟨(some 21), .mov (.t 3), []⟩ <|
    .op ⟨(some 22), .mov (.t 4), []⟩ <|
    .op ⟨(some 23), .build [(.str ⟨⟨[]⟩⟩), (.int .i64 0), (.int .i64 0)] [(0, 1, (.c (.str ⟨⟨[112, 105, 110]⟩⟩))), (1, 1, (.t 22)), (2, 1, (.c (.int .i64 0)))], []⟩ <|
    .op ⟨(some 24), .buildSl 3 1 [(.str ⟨⟨[]⟩⟩), (.int .i64 0), (.int .i64 0)] [(0, 3, (.t 23))], []⟩ <|
    .op ⟨(some 25), .append 3 32 (.t 21) (.t 24), []⟩ <|
    .op ⟨(some 3), .mov (.t 25), []⟩ <|
    .nil))) (
  .ops (
    .op ⟨(some 19), .mov (.t 4), []⟩ <|
    .op ⟨(some 20), .arith .add .i64 (.t 19) (.c (.int .i64 1)), []⟩ <|
    .op ⟨(some 4), .mov (.t 20), []⟩ <|
    .nil)))

def withyref06_Words_c0 : ACode :=
  .seq (.seq (.ops (
    .op ⟨(some 5), .mov (.c (.int .i64 0)), []⟩ <|
    .nil)) (
  .block 2 (.loop [1, 3, 5] [1, 3] (withyref06_Words_c3)))) (
  withyref06_Words_c2)

/-- 87: withy/withyref06.Words -/
def withyref06_Words : AFunc where
  closed := false
  nparams := 1
  ntmps := 83
  results := [.tmp 2]
  body := .seq (.ops (
      .op ⟨(some 1), .box (.t 0), []⟩ <|
      .op ⟨(some 2), .mov (.c .nilsl), []⟩ <|
      .nil)) (
    .seq (.ops (
      .op ⟨(some 10), .build [(.str ⟨⟨[]⟩⟩), (.int .i64 0), (.int .i64 0)] [(0, 1, (.c (.str ⟨⟨[99, 108, 111, 99, 107]⟩⟩)))], []⟩ <|
      .op ⟨(some 11), .build [(.str ⟨⟨[]⟩⟩), (.int .i64 0), (.int .i64 0)] [(0, 1, (.c (.str ⟨⟨[101, 112, 111, 99, 104]⟩⟩)))], []⟩ <|
      .op ⟨(some 12), .build [(.str ⟨⟨[]⟩⟩), (.int .i64 0), (.int .i64 0)] [(0, 1, (.c (.str ⟨⟨[103, 114, 97, 121, 115]⟩⟩)))], []⟩ <|
      .op ⟨(some 13), .build [(.str ⟨⟨[]⟩⟩), (.int .i64 0), (.int .i64 0)] [(0, 1, (.c (.str ⟨⟨[116, 111, 112]⟩⟩)))], []⟩ <|
      .op ⟨(some 14), .buildSl 3 4 [(.str ⟨⟨[]⟩⟩), (.int .i64 0), (.int .i64 0)] [(0, 3, (.t 10)), (3, 3, (.t 11)), (6, 3, (.t 12)), (9, 3, (.t 13))], []⟩ <|
      .op ⟨(some 3), .mov (.t 14), []⟩ <|
      .nil)) (
    .seq (.seq (.ops (
      .op ⟨(some 4), .mov (.c (.int .i64 0)), []⟩ <|
      .nil)) (
    .block 0 (.loop [1, 3, 4] [1, 3] (withyref06_Words_c1)))) (
    withyref06_Words_c0)))

def withyref06_Words_hs : List (List Nat × List Nat) := [([1, 3, 4], [1, 3]), ([1, 3, 5], [1, 3]), ([1, 3, 5, 6], [1, 3, 5]), ([1, 3, 7], [1, 3]), ([1, 3, 8], [3]), ([1, 3, 8, 9], [1, 3, 8])]

end Wm.F
end

section
/- PRINTED by my tool (wip/wm/tool/Gen.lean): a function as one of my machine. -/
namespace Wm.F
open Wm
set_option maxRecDepth 100000

/-- 109: withy/withyref04.Unpack -/
def withyref04_Unpack : AFunc where
  closed := true
  nparams := 1
  ntmps := 39
  results := [.cell true 6 2, .tmp 3]
  body := .seq (.ops (
      .op ⟨(some 2), .alloc [(.int .i64 0), (.int .i64 0), (.bool false), (.int .i64 0), (.int .i64 0), (.int .i64 0)], []⟩ <|
      .op ⟨(some 3), .mov (.c (.bool false)), []⟩ <|
      .nil)) (
    .seq (.ops (
      .op ⟨(some 5), .mov (.t 0), []⟩ <|
      .op ⟨(some 6), .arith .rem .u64 (.t 5) (.c (.int .u64 8)), []⟩ <|
      .op ⟨(some 7), .conv .i64 (.t 6), []⟩ <|
      .op ⟨(some 8), .mov (.t 0), []⟩ <|
      .op ⟨(some 9), .arith .quo .u64 (.t 8) (.c (.int .u64 8)), []⟩ <|
      .op ⟨(some 10), .arith .rem .u64 (.t 9) (.c (.int .u64 2)), []⟩ <|
      .op ⟨(some 11), .conv .i64 (.t 10), []⟩ <|
      .op ⟨(some 12), .mov (.t 0), []⟩ <|
      .op ⟨(some 13), .arith .quo .u64 (.t 12) (.c (.int .u64 16)), []⟩ <|
      .op ⟨(some 14), .arith .rem .u64 (.t 13) (.c (.int .u64 2)), []⟩ <|
      .op ⟨(some 15), .cmp .eql .u64 (.t 14) (.c (.int .u64 1)), []⟩ <|
      .op ⟨(some 16), .mov (.t 0), []⟩ <|
      .op ⟨(some 17), .arith .quo .u64 (.t 16) (.c (.int .u64 32)), []⟩ <|
      .op ⟨(some 18), .arith .rem .u64 (.t 17) (.c (.int .u64 16)), []⟩ <|
      .op ⟨(some 19), .conv .i64 (.t 18), []⟩ <|
      .op ⟨(some 20), .mov (.t 0), []⟩ <|
      .op ⟨(some 21), .arith .quo .u64 (.t 20) (.c (.int .u64 65536)), []⟩ <|
      .op ⟨(some 22), .arith .rem .u64 (.t 21) (.c (.int .u64 4294967296)), []⟩ <|
      .op ⟨(some 23), .conv .i64 (.t 22), []⟩ <|
      .op ⟨(some 24), .mov (.t 0), []⟩ <|
      .op ⟨(some 25), .arith .quo .u64 (.t 24) (.c (.int .u64 281474976710656)), []⟩ <|
      .op ⟨(some 26), .conv .i64 (.t 25), []⟩ <|
      .op ⟨(some 27), .build [(.int .i64 0), (.int .i64 0), (.bool false), (.int .i64 0), (.int .i64 0), (.int .i64 0)] [(0, 1, (.t 7)), (1, 1, (.t 11)), (2, 1, (.t 15)), (3, 1, (.t 19)), (4, 1, (.t 23)), (5, 1, (.t 26))], []⟩ <|
      .op ⟨(some 4), .alloc [(.int .i64 0), (.int .i64 0), (.bool false), (.int .i64 0), (.int .i64 0), (.int .i64 0)], []⟩ <|
      .op ⟨none, .store 6 (.t 4) (.t 27), []⟩ <|
      .nil)) (
    .seq (.seq (.ops (
      .op ⟨(some 28), .fieldA 0 (.t 4), []⟩ <|
      .op ⟨(some 29), .load1 (.t 28), []⟩ <|
      .op ⟨(some 30), .cmp .gtr .i64 (.t 29) (.c (.int .i64 4)), []⟩ <|
      .op ⟨(some 31), .mov (.t 30), []⟩ <|
      .grd 31 false [⟨(some 32), .mov (.t 0), []⟩,
          ⟨(some 33), .arith .quo .u64 (.t 32) (.c (.int .u64 512)), []⟩,
          ⟨(some 34), .arith .rem .u64 (.t 33) (.c (.int .u64 128)), []⟩,
          ⟨(some 35), .cmp .neq .u64 (.t 34) (.c (.int .u64 0)), []⟩] <|
      .op ⟨(some 36), .pick (.t 31) (.c (.bool true)) (.t 35), []⟩ <|
      .nil)) (
    .cond (.t 36) (.seq (.ops (
        .op ⟨(some 37), .build [(.int .i64 0), (.int .i64 0), (.bool false), (.int .i64 0), (.int .i64 0), (.int .i64 0)] [], []⟩ <|
        .op ⟨none, .store 6 (.t 2) (.t 37), []⟩ <|
        .op ⟨(some 3), .mov (.c (.bool false)), []⟩ <|
        .nil)) (
      .ret)) (.skip))) (
    .seq (.ops (
      .op ⟨(some 38), .loadN 6 (.t 4), []⟩ <|
      .op ⟨none, .store 6 (.t 2) (.t 38), []⟩ <|
      .op ⟨(some 3), .mov (.c (.bool true)), []⟩ <|
      .nil)) (
    .ret))))

def withyref04_Unpack_hs : List (List Nat × List Nat) := []

end Wm.F
end

section
/- PRINTED by my tool (wip/wm/tool/Gen.lean): a function as one of my machine. -/
namespace Wm.F
open Wm
set_option maxRecDepth 100000

/-- 110: withy/withyref03.Black -/
def withyref03_Black : AFunc where
  closed := true
  nparams := 1
  ntmps := 7
  results := [.tmp 2]
  body := .seq (.ops (
      .op ⟨(some 2), .mov (.c (.int .i64 0)), []⟩ <|
      .nil)) (
    .seq (.seq (.ops (
      .op ⟨(some 3), .mov (.t 0), []⟩ <|
      .op ⟨(some 4), .arith .quo .u64 (.t 3) (.c (.int .u64 4)), []⟩ <|
      .op ⟨(some 5), .arith .rem .u64 (.t 4) (.c (.int .u64 2)), []⟩ <|
      .op ⟨(some 6), .cmp .eql .u64 (.t 5) (.c (.int .u64 0)), []⟩ <|
      .nil)) (
    .cond (.t 6) (.seq (.ops (
        .op ⟨(some 2), .mov (.c (.int .i64 1)), []⟩ <|
        .nil)) (
      .ret)) (.skip))) (
    .seq (.ops (
      .op ⟨(some 2), .mov (.c (.int .i64 0)), []⟩ <|
      .nil)) (
    .ret)))

def withyref03_Black_hs : List (List Nat × List Nat) := []

end Wm.F
end

section
/- PRINTED by my tool (wip/wm/tool/Gen.lean): a function as one of my machine. -/
namespace Wm.F
open Wm
set_option maxRecDepth 100000

/-- 112: withy/withyref04.Lives -/
def withyref04_Lives : AFunc where
  closed := true
  nparams := 1
  ntmps := 21
  results := [.tmp 2]
  body := .seq (.ops (
      .op ⟨(some 2), .mov (.c (.bool false)), []⟩ <|
      .nil)) (
    .seq (.ops (
      .op ⟨(some 6), .mov (.t 0), []⟩ <|
      .op ⟨(some 7), .call 109 [(.t 6)], []⟩ <|
      .op ⟨(some 5), .mov (.t 7), []⟩ <|
      .op ⟨(some 8), .extract (.t 5) 0, []⟩ <|
      .op ⟨(some 9), .extract (.t 5) 1, []⟩ <|
      .op ⟨(some 3), .alloc [(.int .i64 0), (.int .i64 0), (.bool false), (.int .i64 0), (.int .i64 0), (.int .i64 0)], []⟩ <|
      .op ⟨none, .store 6 (.t 3) (.t 8), []⟩ <|
      .op ⟨(some 4), .mov (.t 9), []⟩ <|
      .nil)) (
    .seq (.ops (
      .op ⟨(some 10), .mov (.t 4), []⟩ <|
      .op ⟨(some 11), .mov (.t 10), []⟩ <|
      .grd 11 true [⟨(some 12), .fieldA 0 (.t 3), []⟩,
          ⟨(some 13), .load1 (.t 12), []⟩,
          ⟨(some 14), .cmp .eql .i64 (.t 13) (.c (.int .i64 1)), []⟩,
          ⟨(some 15), .mov (.t 14), []⟩] <|
      .grd 15 false [⟨(some 16), .fieldA 0 (.t 3), []⟩,
          ⟨(some 17), .load1 (.t 16), []⟩,
          ⟨(some 18), .cmp .eql .i64 (.t 17) (.c (.int .i64 2)), []⟩] <|
      .grd 11 true [⟨(some 19), .pick (.t 15) (.c (.bool true)) (.t 18), []⟩] <|
      .op ⟨(some 20), .pick (.t 11) (.t 19) (.c (.bool false)), []⟩ <|
      .op ⟨(some 2), .mov (.t 20), []⟩ <|
      .nil)) (
    .ret)))

def withyref04_Lives_hs : List (List Nat × List Nat) := []

end Wm.F
end

section
/- PRINTED by my tool (wip/wm/tool/Gen.lean): a function as one of my machine. -/
namespace Wm.F
open Wm
set_option maxRecDepth 100000

/-- 346: (*withy/mem.Mem).there -/
def mem_Mem_there : AFunc where
  closed := false
  nparams := 2
  ntmps := 13
  results := [.tmp 4]
  body := .seq (.ops (
      .op ⟨(some 4), .mov (.c (.bool false)), []⟩ <|
      .nil)) (
    .seq (.ops (
      .op ⟨(some 5), .mov (.t 1), []⟩ <|
      .op ⟨(some 6), .cmp .geq .i64 (.t 5) (.c (.int .i64 0)), []⟩ <|
      .op ⟨(some 7), .mov (.t 6), []⟩ <|
      .grd 7 true [⟨(some 8), .mov (.t 1), []⟩,
          ⟨(some 9), .mov (.t 0), []⟩,
          ⟨(some 10), .call 413 [(.t 9)], []⟩,
          ⟨(some 11), .cmp .lss .i64 (.t 8) (.t 10), []⟩] <|
      .op ⟨(some 12), .pick (.t 7) (.t 11) (.c (.bool false)), []⟩ <|
      .op ⟨(some 4), .mov (.t 12), []⟩ <|
      .nil)) (
    .ret))

def mem_Mem_there_hs : List (List Nat × List Nat) := []

end Wm.F
end

section
/- PRINTED by my tool (wip/wm/tool/Gen.lean): a function as one of my machine. -/
namespace Wm.F
open Wm
set_option maxRecDepth 100000

/-- 347: (*withy/mem.Mem).touch -/
def mem_Mem_touch : AFunc where
  closed := false
  nparams := 4
  ntmps := 36
  results := []
  body := .seq (.ops (
      .op ⟨(some 8), .mov (.t 0), []⟩ <|
      .op ⟨(some 9), .nilc (.t 8), []⟩ <|
      .op ⟨(some 10), .fieldA 1 (.t 9), []⟩ <|
      .op ⟨(some 11), .load1 (.t 10), []⟩ <|
      .op ⟨(some 12), .arith .add .i64 (.t 11) (.c (.int .i64 1)), []⟩ <|
      .op ⟨(some 13), .nilc (.t 8), []⟩ <|
      .op ⟨(some 14), .fieldA 1 (.t 13), []⟩ <|
      .op ⟨none, .store 1 (.t 14) (.t 12), []⟩ <|
      .nil)) (
    .seq (.ops (
      .op ⟨(some 15), .mov (.t 0), []⟩ <|
      .op ⟨(some 16), .mov (.t 1), []⟩ <|
      .op ⟨(some 17), .mov (.t 2), []⟩ <|
      .op ⟨(some 18), .mov (.t 0), []⟩ <|
      .op ⟨(some 19), .nilc (.t 18), []⟩ <|
      .op ⟨(some 20), .fieldA 0 (.t 19), []⟩ <|
      .op ⟨(some 21), .load1 (.t 20), []⟩ <|
      .op ⟨(some 22), .mov (.t 2), []⟩ <|
      .op ⟨(some 23), .indexA 1 (.t 21) (.t 22), []⟩ <|
      .op ⟨(some 24), .load1 (.t 23), []⟩ <|
      .op ⟨(some 25), .mov (.t 3), []⟩ <|
      .op ⟨(some 26), .build [(.int .i64 0), (.int .i64 0), (.int .u64 0), (.int .u64 0)] [(0, 1, (.t 16)), (1, 1, (.t 17)), (2, 1, (.t 24)), (3, 1, (.t 25))], []⟩ <|
      .op ⟨(some 27), .nilc (.t 15), []⟩ <|
      .op ⟨(some 28), .fieldA 2 (.t 27), []⟩ <|
      .op ⟨none, .store 4 (.t 28) (.t 26), []⟩ <|
      .nil)) (
    .ops (
      .op ⟨(some 29), .mov (.t 0), []⟩ <|
      .op ⟨(some 30), .nilc (.t 29), []⟩ <|
      .op ⟨(some 31), .fieldA 0 (.t 30), []⟩ <|
      .op ⟨(some 32), .load1 (.t 31), []⟩ <|
      .op ⟨(some 33), .mov (.t 2), []⟩ <|
      .op ⟨(some 34), .mov (.t 3), []⟩ <|
      .op ⟨(some 35), .indexA 1 (.t 32) (.t 33), []⟩ <|
      .op ⟨none, .store 1 (.t 35) (.t 34), []⟩ <|
      .nil)))

def mem_Mem_touch_hs : List (List Nat × List Nat) := []

end Wm.F
end

section
/- PRINTED by my tool (wip/wm/tool/Gen.lean): a function as one of my machine. -/
namespace Wm.F
open Wm
set_option maxRecDepth 100000

def head_Pack_c1 : ACode :=
  .seq (.ops (
    .op ⟨(some 20), .cmp .lss .i64 (.t 19) (.c (.int .i64 5)), []⟩ <|
    .nil)) (
  .seq (.cond (.t 20) (.skip) (.exit 0)) (
  .seq (.block 1 (.seq (.ops (
    .op ⟨(some 21), .indexAgg 5 1 false (.t 18) (.t 19), []⟩ <|
    .op ⟨(some 5), .mov (.t 21), []⟩ <|
    .nil)) (
  .seq (.ops (
    .op ⟨(some 22), .mov (.t 5), []⟩ <|
    .op ⟨(some 23), .cmp .lss .i64 (.t 22) (.c (.int .i64 0)), []⟩ <|
    .nil)) (
  .cond (.t 23) (.seq (.ops (
      .op ⟨(some 2), .mov (.c (.int .u64 0)), []⟩ <|
      .op ⟨(some 3), .mov (.c (.bool false)), []⟩ <|
      .nil)) (
    .ret)) (.skip))))) (
  .ops (
    .op ⟨(some 24), .arith .add .i64 (.t 19) (.c (.int .i64 1)), []⟩ <|
    .op ⟨(some 19), .mov (.t 24), []⟩ <|
    .nil))))

def head_Pack_c0 : ACode :=
  .seq (.ops (
    .op ⟨(some 26), .fieldA 0 (.t 1), []⟩ <|
    .op ⟨(some 27), .load1 (.t 26), []⟩ <|
    .op ⟨(some 28), .conv .u64 (.t 27), []⟩ <|
    .op ⟨(some 29), .build [(.int .i64 0), (.int .u64 0)] [(0, 1, (.c (.int .i64 3))), (1, 1, (.t 28))], []⟩ <|
    .op ⟨(some 30), .fieldA 1 (.t 1), []⟩ <|
    .op ⟨(some 31), .load1 (.t 30), []⟩ <|
    .op ⟨(some 32), .conv .u64 (.t 31), []⟩ <|
    .op ⟨(some 33), .build [(.int .i64 0), (.int .u64 0)] [(0, 1, (.c (.int .i64 1))), (1, 1, (.t 32))], []⟩ <|
    .op ⟨(some 34), .fieldA 2 (.t 1), []⟩ <|
    .op ⟨(some 35), .load1 (.t 34), []⟩ <|
    .op ⟨(some 38), .fieldA 3 (.t 1), []⟩ <|
    .op ⟨(some 39), .load1 (.t 38), []⟩ <|
    .op ⟨(some 40), .conv .u64 (.t 39), []⟩ <|
    .op ⟨(some 41), .build [(.int .i64 0), (.int .u64 0)] [(0, 1, (.c (.int .i64 4))), (1, 1, (.t 40))], []⟩ <|
    .op ⟨(some 42), .build [(.int .i64 0), (.int .u64 0)] [(0, 1, (.c (.int .i64 7)))], []⟩ <|
    .op ⟨(some 43), .fieldA 4 (.t 1), []⟩ <|
    .op ⟨(some 44), .load1 (.t 43), []⟩ <|
    .op ⟨(some 45), .conv .u64 (.t 44), []⟩ <|
    .op ⟨(some 46), .build [(.int .i64 0), (.int .u64 0)] [(0, 1, (.c (.int .i64 32))), (1, 1, (.t 45))], []⟩ <|
    .op ⟨(some 47), .fieldA 5 (.t 1), []⟩ <|
    .op ⟨(some 48), .load1 (.t 47), []⟩ <|
    .op ⟨(some 49), .conv .u64 (.t 48), []⟩ <|
    .op ⟨(some 50), .build [(.int .i64 0), (.int .u64 0)] [(0, 1, (.c (.int .i64 16))), (1, 1, (.t 49))], []⟩ <|
    .op ⟨(some 36), .call 444 [(.t 35)], [{ g := none, op := .load1 (.t 47), d := 48 }, { g := none, op := .load1 (.t 43), d := 44 }, { g := none, op := .load1 (.t 38), d := 39 }, { g := none, op := .load1 (.t 30), d := 31 }, { g := none, op := .load1 (.t 26), d := 27 }]⟩ <|
    .op ⟨(some 37), .build [(.int .i64 0), (.int .u64 0)] [(0, 1, (.c (.int .i64 1))), (1, 1, (.t 36))], []⟩ <|
    .op ⟨(some 51), .buildSl 2 7 [(.int .i64 0), (.int .u64 0)] [(0, 2, (.t 29)), (2, 2, (.t 33)), (4, 2, (.t 37)), (6, 2, (.t 41)), (8, 2, (.t 42)), (10, 2, (.t 46)), (12, 2, (.t 50))], []⟩ <|
    .op ⟨(some 52), .call 443 [(.t 51)], []⟩ <|
    .op ⟨(some 25), .mov (.t 52), []⟩ <|
    .op ⟨(some 53), .extract (.t 25) 0, []⟩ <|
    .op ⟨(some 54), .extract (.t 25) 1, []⟩ <|
    .op ⟨(some 6), .mov (.t 53), []⟩ <|
    .op ⟨(some 7), .mov (.t 54), []⟩ <|
    .nil)) (
  .seq (.seq (.ops (
    .op ⟨(some 55), .mov (.t 7), []⟩ <|
    .op ⟨(some 56), .not (.t 55), []⟩ <|
    .op ⟨(some 57), .mov (.t 56), []⟩ <|
    .grd 57 false [⟨(some 58), .fieldA 0 (.t 1), []⟩,
        ⟨(some 59), .load1 (.t 58), []⟩,
        ⟨(some 60), .cmp .gtr .i64 (.t 59) (.c (.int .i64 4)), []⟩] <|
    .op ⟨(some 61), .pick (.t 57) (.c (.bool true)) (.t 60), []⟩ <|
    .nil)) (
  .cond (.t 61) (.seq (.ops (
      .op ⟨(some 2), .mov (.c (.int .u64 0)), []⟩ <|
      .op ⟨(some 3), .mov (.c (.bool false)), []⟩ <|
      .nil)) (
    .ret)) (.skip))) (
  .seq (.ops (
    .op ⟨(some 62), .mov (.t 6), []⟩ <|
    .op ⟨(some 2), .mov (.t 62), []⟩ <|
    .op ⟨(some 3), .mov (.c (.bool true)), []⟩ <|
    .nil)) (
  .ret)))

/-- 382: withy/head.Pack -/
def head_Pack : AFunc where
  closed := true
  nparams := 1
  ntmps := 63
  results := [.tmp 2, .tmp 3]
  body := .seq (.ops (
      .op ⟨(some 1), .box (.t 0), []⟩ <|
      .op ⟨(some 2), .mov (.c (.int .u64 0)), []⟩ <|
      .op ⟨(some 3), .mov (.c (.bool false)), []⟩ <|
      .nil)) (
    .seq (.seq (.ops (
      .op ⟨(some 8), .fieldA 0 (.t 1), []⟩ <|
      .op ⟨(some 9), .load1 (.t 8), []⟩ <|
      .op ⟨(some 10), .fieldA 1 (.t 1), []⟩ <|
      .op ⟨(some 11), .load1 (.t 10), []⟩ <|
      .op ⟨(some 12), .fieldA 3 (.t 1), []⟩ <|
      .op ⟨(some 13), .load1 (.t 12), []⟩ <|
      .op ⟨(some 14), .fieldA 4 (.t 1), []⟩ <|
      .op ⟨(some 15), .load1 (.t 14), []⟩ <|
      .op ⟨(some 16), .fieldA 5 (.t 1), []⟩ <|
      .op ⟨(some 17), .load1 (.t 16), []⟩ <|
      .op ⟨(some 18), .build [(.int .i64 0), (.int .i64 0), (.int .i64 0), (.int .i64 0), (.int .i64 0)] [(0, 1, (.t 9)), (1, 1, (.t 11)), (2, 1, (.t 13)), (3, 1, (.t 15)), (4, 1, (.t 17))], []⟩ <|
      .op ⟨(some 19), .mov (.c (.int .i64 0)), []⟩ <|
      .nil)) (
    .block 0 (.loop [1, 18, 19] [1, 2, 3] (head_Pack_c1)))) (
    head_Pack_c0))

def head_Pack_hs : List (List Nat × List Nat) := [([1, 18, 19], [1, 2, 3])]

end Wm.F
end

section
/- PRINTED by my tool (wip/wm/tool/Gen.lean): a function as one of my machine. -/
namespace Wm.F
open Wm
set_option maxRecDepth 100000

/-- 90: withy/shade.NewShade -/
def shade_NewShade : AFunc where
  closed := false
  nparams := 3
  ntmps := 17
  results := [.tmp 6]
  body := .seq (.ops (
      .op ⟨(some 3), .box (.t 0), []⟩ <|
      .op ⟨(some 6), .mov (.c .nilp), []⟩ <|
      .nil)) (
    .seq (.ops (
      .op ⟨(some 8), .loadN 6 (.t 3), []⟩ <|
      .op ⟨(some 9), .mov (.t 1), []⟩ <|
      .op ⟨(some 10), .call 261 [(.t 8), (.t 9)], []⟩ <|
      .op ⟨(some 7), .mov (.t 10), []⟩ <|
      .nil)) (
    .seq (.seq (.ops (
      .op ⟨(some 11), .mov (.t 7), []⟩ <|
      .op ⟨(some 12), .cmp .lss .i64 (.t 11) (.c (.int .i64 0)), []⟩ <|
      .nil)) (
    .cond (.t 12) (.seq (.ops (
        .op ⟨(some 6), .mov (.c .nilp), []⟩ <|
        .nil)) (
      .ret)) (.skip))) (
    .seq (.ops (
      .op ⟨(some 13), .mov (.t 7), []⟩ <|
      .op ⟨(some 14), .mov (.t 2), []⟩ <|
      .op ⟨(some 15), .build [(.bool false), (.int .i64 0), (.int .u64 0), (.int .i64 0), (.int .u64 0)] [(1, 1, (.t 13)), (2, 1, (.t 14))], []⟩ <|
      .op ⟨(some 16), .box (.t 15), []⟩ <|
      .op ⟨(some 6), .mov (.t 16), []⟩ <|
      .nil)) (
    .ret))))

def shade_NewShade_hs : List (List Nat × List Nat) := []

end Wm.F
end

section
/- PRINTED by my tool (wip/wm/tool/Gen.lean): a function as one of my machine. -/
namespace Wm.F
open Wm
set_option maxRecDepth 100000

/-- 441: withy/word.some -/
def word_some : AFunc where
  closed := true
  nparams := 2
  ntmps := 21
  results := [.tmp 4]
  body := .seq (.ops (
      .op ⟨(some 4), .mov (.c (.bool false)), []⟩ <|
      .nil)) (
    .seq (.ops (
      .op ⟨(some 5), .mov (.t 1), []⟩ <|
      .op ⟨(some 6), .cmp .geq .i64 (.t 5) (.c (.int .i64 1)), []⟩ <|
      .op ⟨(some 7), .mov (.t 6), []⟩ <|
      .grd 7 true [⟨(some 8), .mov (.t 1), []⟩,
          ⟨(some 9), .cmp .leq .i64 (.t 8) (.c (.int .i64 64)), []⟩] <|
      .op ⟨(some 10), .pick (.t 7) (.t 9) (.c (.bool false)), []⟩ <|
      .op ⟨(some 11), .mov (.t 10), []⟩ <|
      .grd 11 true [⟨(some 12), .mov (.t 0), []⟩,
          ⟨(some 13), .cmp .geq .i64 (.t 12) (.c (.int .i64 0)), []⟩] <|
      .op ⟨(some 14), .pick (.t 11) (.t 13) (.c (.bool false)), []⟩ <|
      .op ⟨(some 15), .mov (.t 14), []⟩ <|
      .grd 15 true [⟨(some 16), .mov (.t 0), []⟩,
          ⟨(some 17), .mov (.t 1), []⟩,
          ⟨(some 18), .arith .sub .i64 (.c (.int .i64 64)) (.t 17), []⟩,
          ⟨(some 19), .cmp .leq .i64 (.t 16) (.t 18), []⟩] <|
      .op ⟨(some 20), .pick (.t 15) (.t 19) (.c (.bool false)), []⟩ <|
      .op ⟨(some 4), .mov (.t 20), []⟩ <|
      .nil)) (
    .ret))

def word_some_hs : List (List Nat × List Nat) := []

end Wm.F
end

section
/- PRINTED by my tool (wip/wm/tool/Gen.lean): a function as one of my machine. -/
namespace Wm.F
open Wm
set_option maxRecDepth 100000

/-- 442: withy/turn.Cycle -/
def turn_Cycle : AFunc where
  closed := true
  nparams := 1
  ntmps := 5
  results := [.tmp 2]
  body := .seq (.ops (
      .op ⟨(some 2), .mov (.c (.int .u64 0)), []⟩ <|
      .nil)) (
    .seq (.ops (
      .op ⟨(some 3), .mov (.t 0), []⟩ <|
      .op ⟨(some 4), .arith .quo .u64 (.t 3) (.c (.int .u64 4)), []⟩ <|
      .op ⟨(some 2), .mov (.t 4), []⟩ <|
      .nil)) (
    .ret))

def turn_Cycle_hs : List (List Nat × List Nat) := []

end Wm.F
end

section
/- PRINTED by my tool (wip/wm/tool/Gen.lean): a function as one of my machine. -/
namespace Wm.F
open Wm
set_option maxRecDepth 100000

/-- 449: withy/word.mask -/
def word_mask : AFunc where
  closed := true
  nparams := 1
  ntmps := 6
  results := [.tmp 2]
  body := .seq (.ops (
      .op ⟨(some 2), .mov (.c (.int .u64 0)), []⟩ <|
      .nil)) (
    .seq (.ops (
      .op ⟨(some 3), .mov (.t 0), []⟩ <|
      .op ⟨(some 4), .shift true .u64 .i64 (.c (.int .u64 1)) (.t 3), []⟩ <|
      .op ⟨(some 5), .arith .sub .u64 (.t 4) (.c (.int .u64 1)), []⟩ <|
      .op ⟨(some 2), .mov (.t 5), []⟩ <|
      .nil)) (
    .ret))

def word_mask_hs : List (List Nat × List Nat) := []

end Wm.F
end

section
/- PRINTED by my tool (wip/wm/tool/Gen.lean): a function as one of my machine. -/
namespace Wm.F
open Wm
set_option maxRecDepth 100000

/-- 322: withy/withyref13.at -/
def withyref13_at : AFunc where
  closed := false
  nparams := 5
  ntmps := 24
  results := [.tmp 10]
  body := .seq (.ops (
      .op ⟨(some 5), .box (.t 0), []⟩ <|
      .op ⟨(some 10), .mov (.c (.int .u64 0)), []⟩ <|
      .nil)) (
    .seq (.ops (
      .op ⟨(some 12), .loadN 6 (.t 5), []⟩ <|
      .op ⟨(some 13), .mov (.t 2), []⟩ <|
      .op ⟨(some 14), .mov (.t 3), []⟩ <|
      .op ⟨(some 15), .mov (.t 4), []⟩ <|
      .op ⟨(some 16), .build [(.str ⟨⟨[]⟩⟩), (.int .i64 0), (.int .i64 0)] [(0, 1, (.t 13)), (1, 1, (.t 14)), (2, 1, (.t 15))], []⟩ <|
      .op ⟨(some 17), .call 108 [(.t 12), (.t 16)], []⟩ <|
      .op ⟨(some 11), .mov (.t 17), []⟩ <|
      .nil)) (
    .seq (.seq (.ops (
      .op ⟨(some 18), .mov (.t 11), []⟩ <|
      .op ⟨(some 19), .cmp .lss .i64 (.t 18) (.c (.int .i64 0)), []⟩ <|
      .nil)) (
    .cond (.t 19) (.seq (.ops (
        .op ⟨(some 10), .mov (.c (.int .u64 0)), []⟩ <|
        .nil)) (
      .ret)) (.skip))) (
    .seq (.ops (
      .op ⟨(some 20), .mov (.t 1), []⟩ <|
      .op ⟨(some 21), .mov (.t 11), []⟩ <|
      .op ⟨(some 22), .indexA 1 (.t 20) (.t 21), []⟩ <|
      .op ⟨(some 23), .load1 (.t 22), []⟩ <|
      .op ⟨(some 10), .mov (.t 23), []⟩ <|
      .nil)) (
    .ret))))

def withyref13_at_hs : List (List Nat × List Nat) := []

end Wm.F
end

section
/- PRINTED by my tool (wip/wm/tool/Gen.lean): a function as one of my machine. -/
namespace Wm.F
open Wm
set_option maxRecDepth 100000

/-- 413: (*withy/mem.Mem).Size -/
def mem_Mem_Size : AFunc where
  closed := false
  nparams := 1
  ntmps := 10
  results := [.tmp 2]
  body := .seq (.ops (
      .op ⟨(some 2), .mov (.c (.int .i64 0)), []⟩ <|
      .nil)) (
    .seq (.seq (.ops (
      .op ⟨(some 3), .mov (.t 0), []⟩ <|
      .op ⟨(some 4), .eq false .ptr (.t 3) (.c .nilp), []⟩ <|
      .nil)) (
    .cond (.t 4) (.seq (.ops (
        .op ⟨(some 2), .mov (.c (.int .i64 0)), []⟩ <|
        .nil)) (
      .ret)) (.skip))) (
    .seq (.ops (
      .op ⟨(some 5), .mov (.t 0), []⟩ <|
      .op ⟨(some 6), .nilc (.t 5), []⟩ <|
      .op ⟨(some 7), .fieldA 0 (.t 6), []⟩ <|
      .op ⟨(some 8), .load1 (.t 7), []⟩ <|
      .op ⟨(some 9), .lenSl (.t 8), []⟩ <|
      .op ⟨(some 2), .mov (.t 9), []⟩ <|
      .nil)) (
    .ret)))

def mem_Mem_Size_hs : List (List Nat × List Nat) := []

end Wm.F
end

section
/- PRINTED by my tool (wip/wm/tool/Gen.lean): a function as one of my machine. -/
namespace Wm.F
open Wm
set_option maxRecDepth 100000

def word_Pack_c1 : ACode :=
  .seq (.ops (
    .op ⟨(some 11), .cmp .lss .i64 (.t 10) (.t 9), []⟩ <|
    .nil)) (
  .seq (.cond (.t 11) (.skip) (.exit 0)) (
  .seq (.block 1 (.seq (.ops (
    .op ⟨(some 12), .indexA 2 (.t 8) (.t 10), []⟩ <|
    .op ⟨(some 13), .loadN 2 (.t 12), []⟩ <|
    .op ⟨(some 7), .alloc [(.int .i64 0), (.int .u64 0)], []⟩ <|
    .op ⟨none, .store 2 (.t 7) (.t 13), []⟩ <|
    .nil)) (
  .seq (.seq (.ops (
    .op ⟨(some 14), .mov (.t 5), []⟩ <|
    .op ⟨(some 15), .fieldA 0 (.t 7), []⟩ <|
    .op ⟨(some 16), .load1 (.t 15), []⟩ <|
    .op ⟨(some 17), .call 441 [(.t 14), (.t 16)], []⟩ <|
    .op ⟨(some 18), .not (.t 17), []⟩ <|
    .op ⟨(some 19), .mov (.t 18), []⟩ <|
    .grd 19 false [⟨(some 20), .fieldA 1 (.t 7), []⟩,
        ⟨(some 21), .load1 (.t 20), []⟩,
        ⟨(some 22), .fieldA 0 (.t 7), []⟩,
        ⟨(some 23), .load1 (.t 22), []⟩,
        ⟨(some 24), .call 484 [(.t 21), (.t 23)], []⟩,
        ⟨(some 25), .not (.t 24), []⟩] <|
    .op ⟨(some 26), .pick (.t 19) (.c (.bool true)) (.t 25), []⟩ <|
    .nil)) (
  .cond (.t 26) (.seq (.ops (
      .op ⟨(some 2), .mov (.c (.int .u64 0)), []⟩ <|
      .op ⟨(some 3), .mov (.c (.bool false)), []⟩ <|
      .nil)) (
    .ret)) (.skip))) (
  .seq (.ops (
    .op ⟨(some 27), .mov (.t 4), []⟩ <|
    .op ⟨(some 28), .fieldA 1 (.t 7), []⟩ <|
    .op ⟨(some 29), .load1 (.t 28), []⟩ <|
    .op ⟨(some 30), .mov (.t 5), []⟩ <|
    .op ⟨(some 31), .shift true .u64 .i64 (.t 29) (.t 30), []⟩ <|
    .op ⟨(some 32), .arith .or .u64 (.t 27) (.t 31), []⟩ <|
    .op ⟨(some 4), .mov (.t 32), []⟩ <|
    .nil)) (
  .ops (
    .op ⟨(some 33), .mov (.t 5), []⟩ <|
    .op ⟨(some 34), .fieldA 0 (.t 7), []⟩ <|
    .op ⟨(some 35), .load1 (.t 34), []⟩ <|
    .op ⟨(some 36), .arith .add .i64 (.t 33) (.t 35), []⟩ <|
    .op ⟨(some 5), .mov (.t 36), []⟩ <|
    .nil)))))) (
  .ops (
    .op ⟨(some 37), .arith .add .i64 (.t 10) (.c (.int .i64 1)), []⟩ <|
    .op ⟨(some 10), .mov (.t 37), []⟩ <|
    .nil))))

def word_Pack_c0 : ACode :=
  .seq (.ops (
    .op ⟨(some 38), .mov (.t 4), []⟩ <|
    .op ⟨(some 2), .mov (.t 38), []⟩ <|
    .op ⟨(some 3), .mov (.c (.bool true)), []⟩ <|
    .nil)) (
  .ret)

/-- 443: withy/word.Pack -/
def word_Pack : AFunc where
  closed := false
  nparams := 1
  ntmps := 39
  results := [.tmp 2, .tmp 3]
  body := .seq (.ops (
      .op ⟨(some 2), .mov (.c (.int .u64 0)), []⟩ <|
      .op ⟨(some 3), .mov (.c (.bool false)), []⟩ <|
      .nil)) (
    .seq (.ops (
      .op ⟨(some 4), .mov (.c (.int .u64 0)), []⟩ <|
      .nil)) (
    .seq (.ops (
      .op ⟨(some 5), .mov (.c (.int .i64 0)), []⟩ <|
      .nil)) (
    .seq (.seq (.ops (
      .op ⟨(some 8), .mov (.t 0), []⟩ <|
      .op ⟨(some 9), .lenSl (.t 8), []⟩ <|
      .op ⟨(some 10), .mov (.c (.int .i64 0)), []⟩ <|
      .nil)) (
    .block 0 (.loop [4, 5, 8, 9, 10] [2, 3, 4] (word_Pack_c1)))) (
    word_Pack_c0))))

def word_Pack_hs : List (List Nat × List Nat) := [([4, 5, 8, 9, 10], [2, 3, 4])]

end Wm.F
end

section
/- PRINTED by my tool (wip/wm/tool/Gen.lean): a function as one of my machine. -/
namespace Wm.F
open Wm
set_option maxRecDepth 100000

/-- 444: withy/head.bit -/
def head_bit : AFunc where
  closed := true
  nparams := 1
  ntmps := 4
  results := [.tmp 2]
  body := .seq (.ops (
      .op ⟨(some 2), .mov (.c (.int .u64 0)), []⟩ <|
      .nil)) (
    .seq (.seq (.ops (
      .op ⟨(some 3), .mov (.t 0), []⟩ <|
      .nil)) (
    .cond (.t 3) (.seq (.ops (
        .op ⟨(some 2), .mov (.c (.int .u64 1)), []⟩ <|
        .nil)) (
      .ret)) (.skip))) (
    .seq (.ops (
      .op ⟨(some 2), .mov (.c (.int .u64 0)), []⟩ <|
      .nil)) (
    .ret)))

def head_bit_hs : List (List Nat × List Nat) := []

end Wm.F
end

section
/- PRINTED by my tool (wip/wm/tool/Gen.lean): a function as one of my machine. -/
namespace Wm.F
open Wm
set_option maxRecDepth 100000

/-- 484: withy/word.Fits -/
def word_Fits : AFunc where
  closed := true
  nparams := 2
  ntmps := 17
  results := [.tmp 4]
  body := .seq (.ops (
      .op ⟨(some 4), .mov (.c (.bool false)), []⟩ <|
      .nil)) (
    .seq (.ops (
      .op ⟨(some 5), .mov (.t 1), []⟩ <|
      .op ⟨(some 6), .cmp .geq .i64 (.t 5) (.c (.int .i64 0)), []⟩ <|
      .op ⟨(some 7), .mov (.t 6), []⟩ <|
      .grd 7 true [⟨(some 8), .mov (.t 1), []⟩,
          ⟨(some 9), .cmp .gtr .i64 (.t 8) (.c (.int .i64 63)), []⟩,
          ⟨(some 10), .mov (.t 9), []⟩] <|
      .grd 10 false [⟨(some 11), .mov (.t 0), []⟩,
          ⟨(some 12), .mov (.t 1), []⟩,
          ⟨(some 13), .shift false .u64 .i64 (.t 11) (.t 12), []⟩,
          ⟨(some 14), .cmp .eql .u64 (.t 13) (.c (.int .u64 0)), []⟩] <|
      .grd 7 true [⟨(some 15), .pick (.t 10) (.c (.bool true)) (.t 14), []⟩] <|
      .op ⟨(some 16), .pick (.t 7) (.t 15) (.c (.bool false)), []⟩ <|
      .op ⟨(some 4), .mov (.t 16), []⟩ <|
      .nil)) (
    .ret))

def word_Fits_hs : List (List Nat × List Nat) := []

end Wm.F
end

