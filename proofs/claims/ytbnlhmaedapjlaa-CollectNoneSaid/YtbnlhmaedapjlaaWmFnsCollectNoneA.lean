/- PRINTED by my tool: functions as those of my machine. -/
import Derived.Test.YtbnlhmaedapjlaaWmCore
set_option linter.all false
section
/- PRINTED by my tool (wip/wm/tool/Gen.lean): a function as one of my machine. -/
namespace Wm.F
open Wm
set_option maxRecDepth 100000

/-- 51: withy/withylaw15.CollectNone -/
def withylaw15_CollectNone : AFunc where
  closed := true
  nparams := 1
  ntmps := 17
  results := [.tmp 2]
  body := .seq (.ops (
      .op ⟨(some 1), .box (.t 0), []⟩ <|
      .op ⟨(some 2), .mov (.c (.bool false)), []⟩ <|
      .nil)) (
    .seq (.ops (
      .op ⟨(some 3), .mov (.c .nilp), []⟩ <|
      .nil)) (
    .seq (.ops (
      .op ⟨(some 4), .loadN 6 (.t 1), []⟩ <|
      .op ⟨(some 7), .loadN 6 (.t 1), []⟩ <|
      .op ⟨(some 5), .call 214 [(.t 4)], [{ g := none, op := .loadN 6 (.t 1), d := 7 }]⟩ <|
      .op ⟨(some 6), .eq true .ptr (.t 5) (.c .nilp), []⟩ <|
      .op ⟨(some 8), .call 85 [(.t 7)], []⟩ <|
      .op ⟨(some 9), .eq false .bool (.t 6) (.t 8), []⟩ <|
      .op ⟨(some 10), .mov (.t 9), []⟩ <|
      .grd 10 true [⟨(some 11), .mov (.t 3), []⟩,
          ⟨(some 12), .call 215 [(.t 11), (.c .nilp)], []⟩] <|
      .op ⟨(some 13), .pick (.t 10) (.t 12) (.c (.bool false)), []⟩ <|
      .op ⟨(some 14), .mov (.t 13), []⟩ <|
      .grd 14 true [⟨(some 15), .call 212 [], []⟩] <|
      .op ⟨(some 16), .pick (.t 14) (.t 15) (.c (.bool false)), []⟩ <|
      .op ⟨(some 2), .mov (.t 16), []⟩ <|
      .nil)) (
    .ret)))

def withylaw15_CollectNone_hs : List (List Nat × List Nat) := []

end Wm.F
end

section
/- PRINTED by my tool (wip/wm/tool/Gen.lean): a function as one of my machine. -/
namespace Wm.F
open Wm
set_option maxRecDepth 100000

/-- 49: withy/withylaw15.CollectBounds -/
def withylaw15_CollectBounds : AFunc where
  closed := true
  nparams := 1
  ntmps := 11
  results := [.tmp 2]
  body := .seq (.ops (
      .op ⟨(some 1), .box (.t 0), []⟩ <|
      .op ⟨(some 2), .mov (.c (.bool false)), []⟩ <|
      .nil)) (
    .seq (.ops (
      .op ⟨(some 3), .loadN 6 (.t 1), []⟩ <|
      .op ⟨(some 5), .loadN 6 (.t 1), []⟩ <|
      .op ⟨(some 4), .call 210 [(.t 3)], [{ g := none, op := .loadN 6 (.t 1), d := 5 }]⟩ <|
      .op ⟨(some 6), .call 211 [(.t 5)], []⟩ <|
      .op ⟨(some 7), .cmp .eql .i64 (.t 4) (.t 6), []⟩ <|
      .op ⟨(some 8), .mov (.t 7), []⟩ <|
      .grd 8 true [⟨(some 9), .call 212 [], []⟩] <|
      .op ⟨(some 10), .pick (.t 8) (.t 9) (.c (.bool false)), []⟩ <|
      .op ⟨(some 2), .mov (.t 10), []⟩ <|
      .nil)) (
    .ret))

def withylaw15_CollectBounds_hs : List (List Nat × List Nat) := []

end Wm.F
end

section
/- PRINTED by my tool (wip/wm/tool/Gen.lean): a function as one of my machine. -/
namespace Wm.F
open Wm
set_option maxRecDepth 100000

/-- 85: withy/withyref06.Right -/
def withyref06_Right : AFunc where
  closed := true
  nparams := 1
  ntmps := 61
  results := [.tmp 2]
  body := .seq (.ops (
      .op ⟨(some 1), .box (.t 0), []⟩ <|
      .op ⟨(some 2), .mov (.c (.bool false)), []⟩ <|
      .nil)) (
    .seq (.ops (
      .op ⟨(some 3), .fieldA 0 (.t 1), []⟩ <|
      .op ⟨(some 4), .load1 (.t 3), []⟩ <|
      .op ⟨(some 5), .cmp .geq .i64 (.t 4) (.c (.int .i64 1)), []⟩ <|
      .op ⟨(some 6), .mov (.t 5), []⟩ <|
      .grd 6 true [⟨(some 7), .fieldA 0 (.t 1), []⟩,
          ⟨(some 8), .load1 (.t 7), []⟩,
          ⟨(some 9), .cmp .leq .i64 (.t 8) (.c (.int .i64 64)), []⟩] <|
      .op ⟨(some 10), .pick (.t 6) (.t 9) (.c (.bool false)), []⟩ <|
      .op ⟨(some 11), .mov (.t 10), []⟩ <|
      .grd 11 true [⟨(some 12), .fieldA 1 (.t 1), []⟩,
          ⟨(some 13), .load1 (.t 12), []⟩,
          ⟨(some 14), .cmp .geq .i64 (.t 13) (.c (.int .i64 0)), []⟩] <|
      .op ⟨(some 15), .pick (.t 11) (.t 14) (.c (.bool false)), []⟩ <|
      .op ⟨(some 16), .mov (.t 15), []⟩ <|
      .grd 16 true [⟨(some 17), .fieldA 1 (.t 1), []⟩,
          ⟨(some 18), .load1 (.t 17), []⟩,
          ⟨(some 19), .cmp .leq .i64 (.t 18) (.c (.int .i64 8)), []⟩] <|
      .op ⟨(some 20), .pick (.t 16) (.t 19) (.c (.bool false)), []⟩ <|
      .op ⟨(some 21), .mov (.t 20), []⟩ <|
      .grd 21 true [⟨(some 22), .fieldA 2 (.t 1), []⟩,
          ⟨(some 23), .load1 (.t 22), []⟩,
          ⟨(some 24), .cmp .geq .i64 (.t 23) (.c (.int .i64 1)), []⟩] <|
      .op ⟨(some 25), .pick (.t 21) (.t 24) (.c (.bool false)), []⟩ <|
      .op ⟨(some 26), .mov (.t 25), []⟩ <|
      .grd 26 true [⟨(some 27), .fieldA 2 (.t 1), []⟩,
          ⟨(some 28), .load1 (.t 27), []⟩,
          ⟨(some 29), .cmp .leq .i64 (.t 28) (.c (.int .i64 8)), []⟩] <|
      .op ⟨(some 30), .pick (.t 26) (.t 29) (.c (.bool false)), []⟩ <|
      .op ⟨(some 31), .mov (.t 30), []⟩ <|
      .grd 31 true [⟨(some 32), .fieldA 3 (.t 1), []⟩,
          ⟨(some 33), .load1 (.t 32), []⟩,
          ⟨(some 34), .cmp .geq .i64 (.t 33) (.c (.int .i64 1)), []⟩] <|
      .op ⟨(some 35), .pick (.t 31) (.t 34) (.c (.bool false)), []⟩ <|
      .op ⟨(some 36), .mov (.t 35), []⟩ <|
      .grd 36 true [⟨(some 37), .fieldA 3 (.t 1), []⟩,
          ⟨(some 38), .load1 (.t 37), []⟩,
          ⟨(some 39), .cmp .leq .i64 (.t 38) (.c (.int .i64 16)), []⟩] <|
      .op ⟨(some 40), .pick (.t 36) (.t 39) (.c (.bool false)), []⟩ <|
      .op ⟨(some 41), .mov (.t 40), []⟩ <|
      .grd 41 true [⟨(some 42), .fieldA 4 (.t 1), []⟩,
          ⟨(some 43), .load1 (.t 42), []⟩,
          ⟨(some 44), .cmp .geq .i64 (.t 43) (.c (.int .i64 1)), []⟩] <|
      .op ⟨(some 45), .pick (.t 41) (.t 44) (.c (.bool false)), []⟩ <|
      .op ⟨(some 46), .mov (.t 45), []⟩ <|
      .grd 46 true [⟨(some 47), .fieldA 4 (.t 1), []⟩,
          ⟨(some 48), .load1 (.t 47), []⟩,
          ⟨(some 49), .cmp .leq .i64 (.t 48) (.c (.int .i64 1048576)), []⟩] <|
      .op ⟨(some 50), .pick (.t 46) (.t 49) (.c (.bool false)), []⟩ <|
      .op ⟨(some 51), .mov (.t 50), []⟩ <|
      .grd 51 true [⟨(some 52), .fieldA 5 (.t 1), []⟩,
          ⟨(some 53), .load1 (.t 52), []⟩,
          ⟨(some 54), .cmp .geq .i64 (.t 53) (.c (.int .i64 0)), []⟩] <|
      .op ⟨(some 55), .pick (.t 51) (.t 54) (.c (.bool false)), []⟩ <|
      .op ⟨(some 56), .mov (.t 55), []⟩ <|
      .grd 56 true [⟨(some 57), .fieldA 5 (.t 1), []⟩,
          ⟨(some 58), .load1 (.t 57), []⟩,
          ⟨(some 59), .cmp .leq .i64 (.t 58) (.c (.int .i64 64)), []⟩] <|
      .op ⟨(some 60), .pick (.t 56) (.t 59) (.c (.bool false)), []⟩ <|
      .op ⟨(some 2), .mov (.t 60), []⟩ <|
      .nil)) (
    .ret))

def withyref06_Right_hs : List (List Nat × List Nat) := []

end Wm.F
end

section
/- PRINTED by my tool (wip/wm/tool/Gen.lean): a function as one of my machine. -/
namespace Wm.F
open Wm
set_option maxRecDepth 100000

def withylaw15_awake_c1 : ACode :=
  .seq (.seq (.ops (
    .op ⟨(some 16), .mov (.t 4), []⟩ <|
    .op ⟨(some 17), .loadN 6 (.t 1), []⟩ <|
    .op ⟨(some 18), .call 210 [(.t 17)], []⟩ <|
    .op ⟨(some 19), .cmp .lss .i64 (.t 16) (.t 18), []⟩ <|
    .nil)) (
  .cond (.t 19) (.skip) (.exit 0))) (
  .seq (.block 1 (.seq (.ops (
    .op ⟨(some 22), .mov (.t 3), []⟩ <|
    .op ⟨(some 23), .mov (.t 2), []⟩ <|
    .op ⟨(some 24), .call 215 [(.t 22), (.t 23)], []⟩ <|
    .nil)) (
  .cond (.t 24) (.seq (.ops (
      .op ⟨(some 0), .mov (.c (.bool false)), []⟩ <|
      .nil)) (
    .ret)) (.skip)))) (
  .ops (
    .op ⟨(some 20), .mov (.t 4), []⟩ <|
    .op ⟨(some 21), .arith .add .i64 (.t 20) (.c (.int .i64 1)), []⟩ <|
    .op ⟨(some 4), .mov (.t 21), []⟩ <|
    .nil)))

def withylaw15_awake_c0 : ACode :=
  .seq (.ops (
    .op ⟨(some 25), .mov (.t 3), []⟩ <|
    .op ⟨(some 26), .nilc (.t 25), []⟩ <|
    .op ⟨(some 27), .fieldA 1 (.t 26), []⟩ <|
    .op ⟨(some 28), .load1 (.t 27), []⟩ <|
    .op ⟨(some 29), .cmp .geq .i64 (.t 28) (.c (.int .i64 1)), []⟩ <|
    .op ⟨(some 30), .mov (.t 29), []⟩ <|
    .grd 30 true [⟨(some 31), .mov (.t 3), []⟩,
        ⟨(some 32), .nilc (.t 31), []⟩,
        ⟨(some 33), .fieldA 0 (.t 32), []⟩,
        ⟨(some 34), .load1 (.t 33), []⟩,
        ⟨(some 35), .cmp .geq .u64 (.t 34) (.c (.int .u64 4)), []⟩] <|
    .op ⟨(some 36), .pick (.t 30) (.t 35) (.c (.bool false)), []⟩ <|
    .op ⟨(some 0), .mov (.t 36), []⟩ <|
    .nil)) (
  .ret)

/-- 212: withy/withylaw15.awake -/
def withylaw15_awake : AFunc where
  closed := true
  nparams := 0
  ntmps := 37
  results := [.tmp 0]
  body := .seq (.ops (
      .op ⟨(some 0), .mov (.c (.bool false)), []⟩ <|
      .nil)) (
    .seq (.ops (
      .op ⟨(some 5), .build [(.int .i64 0), (.int .i64 0), (.int .i64 0), (.int .i64 0), (.int .i64 0), (.int .i64 0)] [(0, 1, (.c (.int .i64 3))), (1, 1, (.c (.int .i64 1))), (2, 1, (.c (.int .i64 1))), (3, 1, (.c (.int .i64 1))), (4, 1, (.c (.int .i64 9)))], []⟩ <|
      .op ⟨(some 1), .alloc [(.int .i64 0), (.int .i64 0), (.int .i64 0), (.int .i64 0), (.int .i64 0), (.int .i64 0)], []⟩ <|
      .op ⟨none, .store 6 (.t 1) (.t 5), []⟩ <|
      .nil)) (
    .seq (.ops (
      .op ⟨(some 6), .loadN 6 (.t 1), []⟩ <|
      .op ⟨(some 7), .call 213 [(.t 6)], []⟩ <|
      .op ⟨(some 2), .mov (.t 7), []⟩ <|
      .nil)) (
    .seq (.ops (
      .op ⟨(some 8), .loadN 6 (.t 1), []⟩ <|
      .op ⟨(some 9), .call 214 [(.t 8)], []⟩ <|
      .op ⟨(some 3), .mov (.t 9), []⟩ <|
      .nil)) (
    .seq (.seq (.ops (
      .op ⟨(some 10), .mov (.t 2), []⟩ <|
      .op ⟨(some 11), .eq false .ptr (.t 10) (.c .nilp), []⟩ <|
      .op ⟨(some 12), .mov (.t 11), []⟩ <|
      .grd 12 false [⟨(some 13), .mov (.t 3), []⟩,
          ⟨(some 14), .eq false .ptr (.t 13) (.c .nilp), []⟩] <|
      .op ⟨(some 15), .pick (.t 12) (.c (.bool true)) (.t 14), []⟩ <|
      .nil)) (
    .cond (.t 15) (.seq (.ops (
        .op ⟨(some 0), .mov (.c (.bool false)), []⟩ <|
        .nil)) (
      .ret)) (.skip))) (
    .seq (.seq (.ops (
      .op ⟨(some 4), .mov (.c (.int .i64 0)), []⟩ <|
      .nil)) (
    .block 0 (.loop [1, 2, 3, 4] [0, 3] (withylaw15_awake_c1)))) (
    withylaw15_awake_c0))))))

def withylaw15_awake_hs : List (List Nat × List Nat) := [([1, 2, 3, 4], [0, 3])]

end Wm.F
end

section
/- PRINTED by my tool (wip/wm/tool/Gen.lean): a function as one of my machine. -/
namespace Wm.F
open Wm
set_option maxRecDepth 100000

/-- 214: withy/collect.NewCollect -/
def collect_NewCollect : AFunc where
  closed := false
  nparams := 1
  ntmps := 13
  results := [.tmp 2]
  body := .seq (.ops (
      .op ⟨(some 1), .box (.t 0), []⟩ <|
      .op ⟨(some 2), .mov (.c .nilp), []⟩ <|
      .nil)) (
    .seq (.seq (.ops (
      .op ⟨(some 4), .loadN 6 (.t 1), []⟩ <|
      .op ⟨(some 5), .call 263 [(.t 4)], []⟩ <|
      .op ⟨(some 6), .not (.t 5), []⟩ <|
      .nil)) (
    .cond (.t 6) (.seq (.ops (
        .op ⟨(some 2), .mov (.c .nilp), []⟩ <|
        .nil)) (
      .ret)) (.skip))) (
    .seq (.ops (
      .op ⟨(some 7), .loadN 6 (.t 1), []⟩ <|
      .op ⟨(some 8), .build [(.int .u64 0), (.int .i64 0), (.int .i64 0), (.int .i64 0), (.int .i64 0), (.int .i64 0), (.int .i64 0), (.int .i64 0), .nilifc, .nilp] [(2, 6, (.t 7))], []⟩ <|
      .op ⟨(some 9), .box (.t 8), []⟩ <|
      .op ⟨(some 3), .mov (.t 9), []⟩ <|
      .nil)) (
    .seq (.ops (
      .op ⟨(some 10), .mov (.t 3), []⟩ <|
      .op ⟨(some 11), .call 351 [(.t 10)], []⟩ <|
      .nil)) (
    .seq (.ops (
      .op ⟨(some 12), .mov (.t 3), []⟩ <|
      .op ⟨(some 2), .mov (.t 12), []⟩ <|
      .nil)) (
    .ret)))))

def collect_NewCollect_hs : List (List Nat × List Nat) := []

end Wm.F
end

section
/- PRINTED by my tool (wip/wm/tool/Gen.lean): a function as one of my machine. -/
namespace Wm.F
open Wm
set_option maxRecDepth 100000

/-- 215: (*withy/collect.Collect).Step -/
def collect_Collect_Step : AFunc where
  closed := false
  nparams := 2
  ntmps := 52
  results := [.tmp 4]
  body := .seq (.ops (
      .op ⟨(some 4), .mov (.c (.bool false)), []⟩ <|
      .nil)) (
    .seq (.seq (.ops (
      .op ⟨(some 5), .mov (.t 0), []⟩ <|
      .op ⟨(some 6), .eq false .ptr (.t 5) (.c .nilp), []⟩ <|
      .nil)) (
    .cond (.t 6) (.seq (.ops (
        .op ⟨(some 4), .mov (.c (.bool true)), []⟩ <|
        .nil)) (
      .ret)) (.skip))) (
    .seq (.seq (.ops (
      .op ⟨(some 7), .mov (.t 0), []⟩ <|
      .op ⟨(some 8), .nilc (.t 7), []⟩ <|
      .op ⟨(some 9), .fieldA 8 (.t 8), []⟩ <|
      .op ⟨(some 10), .load1 (.t 9), []⟩ <|
      .op ⟨(some 11), .eq true .ifc (.t 10) (.c .nilifc), []⟩ <|
      .nil)) (
    .cond (.t 11) (.seq (.seq (.ops (
        .op ⟨(some 12), .mov (.t 0), []⟩ <|
        .op ⟨(some 13), .nilc (.t 12), []⟩ <|
        .op ⟨(some 14), .fieldA 8 (.t 13), []⟩ <|
        .op ⟨(some 15), .load1 (.t 14), []⟩ <|
        .op ⟨(some 16), .mov (.t 1), []⟩ <|
        .op ⟨(some 17), .invoke 0 (.t 15) [(.t 16)], []⟩ <|
        .nil)) (
      .cond (.t 17) (.ops (
          .op ⟨(some 18), .mov (.t 0), []⟩ <|
          .op ⟨(some 19), .nilc (.t 18), []⟩ <|
          .op ⟨(some 20), .fieldA 8 (.t 19), []⟩ <|
          .op ⟨none, .store 1 (.t 20) (.c .nilifc), []⟩ <|
          .nil)) (.skip))) (
      .seq (.ops (
        .op ⟨(some 4), .mov (.c (.bool false)), []⟩ <|
        .nil)) (
      .ret))) (.skip))) (
    .seq (.seq (.ops (
      .op ⟨(some 21), .mov (.t 0), []⟩ <|
      .op ⟨(some 22), .nilc (.t 21), []⟩ <|
      .op ⟨(some 23), .fieldA 9 (.t 22), []⟩ <|
      .op ⟨(some 24), .load1 (.t 23), []⟩ <|
      .op ⟨(some 25), .mov (.t 1), []⟩ <|
      .op ⟨(some 26), .call 352 [(.t 24), (.t 25)], []⟩ <|
      .nil)) (
    .cond (.t 26) (.seq (.ops (
        .op ⟨(some 27), .mov (.t 0), []⟩ <|
        .op ⟨(some 28), .mov (.t 0), []⟩ <|
        .op ⟨(some 29), .nilc (.t 28), []⟩ <|
        .op ⟨(some 30), .fieldA 9 (.t 29), []⟩ <|
        .op ⟨(some 31), .load1 (.t 30), []⟩ <|
        .op ⟨(some 32), .nilc (.t 31), []⟩ <|
        .op ⟨(some 33), .fieldA 0 (.t 32), []⟩ <|
        .op ⟨(some 34), .load1 (.t 33), []⟩ <|
        .op ⟨(some 35), .nilc (.t 27), []⟩ <|
        .op ⟨(some 36), .fieldA 0 (.t 35), []⟩ <|
        .op ⟨none, .store 1 (.t 36) (.t 34), []⟩ <|
        .nil)) (
      .seq (.seq (.ops (
        .op ⟨(some 37), .mov (.t 0), []⟩ <|
        .op ⟨(some 38), .nilc (.t 37), []⟩ <|
        .op ⟨(some 39), .fieldA 0 (.t 38), []⟩ <|
        .op ⟨(some 40), .load1 (.t 39), []⟩ <|
        .op ⟨(some 41), .arith .rem .u64 (.t 40) (.c (.int .u64 4)), []⟩ <|
        .op ⟨(some 42), .cmp .eql .u64 (.t 41) (.c (.int .u64 0)), []⟩ <|
        .nil)) (
      .cond (.t 42) (.ops (
          .op ⟨(some 43), .mov (.t 0), []⟩ <|
          .op ⟨(some 44), .nilc (.t 43), []⟩ <|
          .op ⟨(some 45), .fieldA 1 (.t 44), []⟩ <|
          .op ⟨(some 46), .load1 (.t 45), []⟩ <|
          .op ⟨(some 47), .arith .add .i64 (.t 46) (.c (.int .i64 1)), []⟩ <|
          .op ⟨(some 48), .nilc (.t 43), []⟩ <|
          .op ⟨(some 49), .fieldA 1 (.t 48), []⟩ <|
          .op ⟨none, .store 1 (.t 49) (.t 47), []⟩ <|
          .nil)) (.skip))) (
      .ops (
        .op ⟨(some 50), .mov (.t 0), []⟩ <|
        .op ⟨(some 51), .call 351 [(.t 50)], []⟩ <|
        .nil)))) (.skip))) (
    .seq (.ops (
      .op ⟨(some 4), .mov (.c (.bool false)), []⟩ <|
      .nil)) (
    .ret)))))

def collect_Collect_Step_hs : List (List Nat × List Nat) := []

end Wm.F
end

section
/- PRINTED by my tool (wip/wm/tool/Gen.lean): a function as one of my machine. -/
namespace Wm.F
open Wm
set_option maxRecDepth 100000

/-- 210: withy/collect.Bound -/
def collect_Bound : AFunc where
  closed := true
  nparams := 1
  ntmps := 30
  results := [.tmp 2]
  body := .seq (.ops (
      .op ⟨(some 1), .box (.t 0), []⟩ <|
      .op ⟨(some 2), .mov (.c (.int .i64 0)), []⟩ <|
      .nil)) (
    .seq (.seq (.ops (
      .op ⟨(some 3), .loadN 6 (.t 1), []⟩ <|
      .op ⟨(some 4), .call 263 [(.t 3)], []⟩ <|
      .op ⟨(some 5), .not (.t 4), []⟩ <|
      .nil)) (
    .cond (.t 5) (.seq (.ops (
        .op ⟨(some 2), .mov (.c (.int .i64 0)), []⟩ <|
        .nil)) (
      .ret)) (.skip))) (
    .seq (.ops (
      .op ⟨(some 6), .fieldA 0 (.t 1), []⟩ <|
      .op ⟨(some 7), .load1 (.t 6), []⟩ <|
      .op ⟨(some 8), .arith .add .i64 (.t 7) (.c (.int .i64 1)), []⟩ <|
      .op ⟨(some 9), .fieldA 0 (.t 1), []⟩ <|
      .op ⟨(some 10), .load1 (.t 9), []⟩ <|
      .op ⟨(some 11), .arith .add .i64 (.t 10) (.c (.int .i64 1)), []⟩ <|
      .op ⟨(some 12), .arith .mul .i64 (.t 8) (.t 11), []⟩ <|
      .op ⟨(some 13), .fieldA 0 (.t 1), []⟩ <|
      .op ⟨(some 14), .load1 (.t 13), []⟩ <|
      .op ⟨(some 15), .fieldA 1 (.t 1), []⟩ <|
      .op ⟨(some 16), .load1 (.t 15), []⟩ <|
      .op ⟨(some 17), .arith .mul .i64 (.c (.int .i64 4)) (.t 16), []⟩ <|
      .op ⟨(some 18), .arith .add .i64 (.t 17) (.c (.int .i64 24)), []⟩ <|
      .op ⟨(some 19), .arith .mul .i64 (.t 14) (.t 18), []⟩ <|
      .op ⟨(some 20), .arith .add .i64 (.t 12) (.t 19), []⟩ <|
      .op ⟨(some 21), .fieldA 2 (.t 1), []⟩ <|
      .op ⟨(some 22), .load1 (.t 21), []⟩ <|
      .op ⟨(some 23), .fieldA 3 (.t 1), []⟩ <|
      .op ⟨(some 24), .load1 (.t 23), []⟩ <|
      .op ⟨(some 25), .arith .mul .i64 (.c (.int .i64 4)) (.t 24), []⟩ <|
      .op ⟨(some 26), .arith .add .i64 (.t 25) (.c (.int .i64 13)), []⟩ <|
      .op ⟨(some 27), .arith .mul .i64 (.t 22) (.t 26), []⟩ <|
      .op ⟨(some 28), .arith .add .i64 (.t 20) (.t 27), []⟩ <|
      .op ⟨(some 29), .arith .add .i64 (.t 28) (.c (.int .i64 17)), []⟩ <|
      .op ⟨(some 2), .mov (.t 29), []⟩ <|
      .nil)) (
    .ret)))

def collect_Bound_hs : List (List Nat × List Nat) := []

end Wm.F
end

section
/- PRINTED by my tool (wip/wm/tool/Gen.lean): a function as one of my machine. -/
namespace Wm.F
open Wm
set_option maxRecDepth 100000

/-- 211: withy/withyref15.Bound -/
def withyref15_Bound : AFunc where
  closed := true
  nparams := 1
  ntmps := 30
  results := [.tmp 2]
  body := .seq (.ops (
      .op ⟨(some 1), .box (.t 0), []⟩ <|
      .op ⟨(some 2), .mov (.c (.int .i64 0)), []⟩ <|
      .nil)) (
    .seq (.seq (.ops (
      .op ⟨(some 3), .loadN 6 (.t 1), []⟩ <|
      .op ⟨(some 4), .call 85 [(.t 3)], []⟩ <|
      .op ⟨(some 5), .not (.t 4), []⟩ <|
      .nil)) (
    .cond (.t 5) (.seq (.ops (
        .op ⟨(some 2), .mov (.c (.int .i64 0)), []⟩ <|
        .nil)) (
      .ret)) (.skip))) (
    .seq (.ops (
      .op ⟨(some 6), .fieldA 0 (.t 1), []⟩ <|
      .op ⟨(some 7), .load1 (.t 6), []⟩ <|
      .op ⟨(some 8), .arith .add .i64 (.t 7) (.c (.int .i64 1)), []⟩ <|
      .op ⟨(some 9), .fieldA 0 (.t 1), []⟩ <|
      .op ⟨(some 10), .load1 (.t 9), []⟩ <|
      .op ⟨(some 11), .arith .add .i64 (.t 10) (.c (.int .i64 1)), []⟩ <|
      .op ⟨(some 12), .arith .mul .i64 (.t 8) (.t 11), []⟩ <|
      .op ⟨(some 13), .fieldA 0 (.t 1), []⟩ <|
      .op ⟨(some 14), .load1 (.t 13), []⟩ <|
      .op ⟨(some 15), .fieldA 1 (.t 1), []⟩ <|
      .op ⟨(some 16), .load1 (.t 15), []⟩ <|
      .op ⟨(some 17), .arith .mul .i64 (.c (.int .i64 4)) (.t 16), []⟩ <|
      .op ⟨(some 18), .arith .add .i64 (.t 17) (.c (.int .i64 24)), []⟩ <|
      .op ⟨(some 19), .arith .mul .i64 (.t 14) (.t 18), []⟩ <|
      .op ⟨(some 20), .arith .add .i64 (.t 12) (.t 19), []⟩ <|
      .op ⟨(some 21), .fieldA 2 (.t 1), []⟩ <|
      .op ⟨(some 22), .load1 (.t 21), []⟩ <|
      .op ⟨(some 23), .fieldA 3 (.t 1), []⟩ <|
      .op ⟨(some 24), .load1 (.t 23), []⟩ <|
      .op ⟨(some 25), .arith .mul .i64 (.c (.int .i64 4)) (.t 24), []⟩ <|
      .op ⟨(some 26), .arith .add .i64 (.t 25) (.c (.int .i64 13)), []⟩ <|
      .op ⟨(some 27), .arith .mul .i64 (.t 22) (.t 26), []⟩ <|
      .op ⟨(some 28), .arith .add .i64 (.t 20) (.t 27), []⟩ <|
      .op ⟨(some 29), .arith .add .i64 (.t 28) (.c (.int .i64 17)), []⟩ <|
      .op ⟨(some 2), .mov (.t 29), []⟩ <|
      .nil)) (
    .ret)))

def withyref15_Bound_hs : List (List Nat × List Nat) := []

end Wm.F
end

section
/- PRINTED by my tool (wip/wm/tool/Gen.lean): a function as one of my machine. -/
namespace Wm.F
open Wm
set_option maxRecDepth 100000

def plan_Memory_c1 : ACode :=
  .seq (.ops (
    .op ⟨(some 23), .cmp .lss .i64 (.t 22) (.t 21), []⟩ <|
    .nil)) (
  .seq (.cond (.t 23) (.skip) (.exit 0)) (
  .seq (.block 1 (.seq (.ops (
    .op ⟨(some 24), .mov (.t 22), []⟩ <|
    .op ⟨(some 4), .mov (.t 24), []⟩ <|
    .nil)) (
  .ops (
    .op ⟨(some 25), .mov (.t 3), []⟩ <|
    .op ⟨(some 26), .loadN 6 (.t 1), []⟩ <|
    .op ⟨(some 27), .mov (.t 4), []⟩ <|
    .op ⟨(some 28), .call 293 [(.t 26), (.t 27)], []⟩ <|
    .op ⟨(some 29), .mov (.t 4), []⟩ <|
    .op ⟨(some 30), .arith .add .i64 (.t 29) (.c (.int .i64 2)), []⟩ <|
    .op ⟨(some 31), .conv .u64 (.t 30), []⟩ <|
    .op ⟨(some 32), .indexA 1 (.t 25) (.t 28), []⟩ <|
    .op ⟨none, .store 1 (.t 32) (.t 31), []⟩ <|
    .nil)))) (
  .ops (
    .op ⟨(some 33), .arith .add .i64 (.t 22) (.c (.int .i64 1)), []⟩ <|
    .op ⟨(some 22), .mov (.t 33), []⟩ <|
    .nil))))

def plan_Memory_c0 : ACode :=
  .seq (.ops (
    .op ⟨(some 34), .mov (.t 3), []⟩ <|
    .op ⟨(some 35), .call 198 [(.t 34)], []⟩ <|
    .op ⟨(some 2), .mov (.t 35), []⟩ <|
    .nil)) (
  .ret)

/-- 213: withy/plan.Memory -/
def plan_Memory : AFunc where
  closed := false
  nparams := 1
  ntmps := 36
  results := [.tmp 2]
  body := .seq (.ops (
      .op ⟨(some 1), .box (.t 0), []⟩ <|
      .op ⟨(some 2), .mov (.c .nilp), []⟩ <|
      .nil)) (
    .seq (.seq (.ops (
      .op ⟨(some 5), .loadN 6 (.t 1), []⟩ <|
      .op ⟨(some 6), .call 263 [(.t 5)], []⟩ <|
      .op ⟨(some 7), .not (.t 6), []⟩ <|
      .nil)) (
    .cond (.t 7) (.seq (.ops (
        .op ⟨(some 2), .mov (.c .nilp), []⟩ <|
        .nil)) (
      .ret)) (.skip))) (
    .seq (.ops (
      .op ⟨(some 8), .loadN 6 (.t 1), []⟩ <|
      .op ⟨(some 9), .call 264 [(.t 8)], []⟩ <|
      .op ⟨(some 10), .mkSl 1 8 [(.int .u64 0)] (.t 9) (.t 9), []⟩ <|
      .op ⟨(some 3), .mov (.t 10), []⟩ <|
      .nil)) (
    .seq (.ops (
      .op ⟨(some 11), .mov (.t 3), []⟩ <|
      .op ⟨(some 12), .indexA 1 (.t 11) (.c (.int .i64 0)), []⟩ <|
      .op ⟨none, .store 1 (.t 12) (.c (.int .u64 1)), []⟩ <|
      .nil)) (
    .seq (.ops (
      .op ⟨(some 14), .mov (.t 3), []⟩ <|
      .op ⟨(some 15), .call 350 [(.c (.int .u64 0)), (.c (.int .i64 0))], []⟩ <|
      .op ⟨(some 13), .mov (.t 15), []⟩ <|
      .op ⟨(some 16), .extract (.t 13) 0, []⟩ <|
      .op ⟨(some 17), .extract (.t 13) 1, []⟩ <|
      .op ⟨(some 18), .indexA 1 (.t 14) (.c (.int .i64 3)), []⟩ <|
      .op ⟨none, .store 1 (.t 18) (.t 16), []⟩ <|
      .nil)) (
    .seq (.seq (.ops (
      .op ⟨(some 19), .fieldA 0 (.t 1), []⟩ <|
      .op ⟨(some 20), .load1 (.t 19), []⟩ <|
      .op ⟨(some 21), .arith .sub .i64 (.t 20) (.c (.int .i64 1)), []⟩ <|
      .op ⟨(some 22), .mov (.c (.int .i64 0)), []⟩ <|
      .nil)) (
    .block 0 (.loop [1, 3, 21, 22] [3] (plan_Memory_c1)))) (
    plan_Memory_c0))))))

def plan_Memory_hs : List (List Nat × List Nat) := [([1, 3, 21, 22], [3])]

end Wm.F
end

section
/- PRINTED by my tool (wip/wm/tool/Gen.lean): a function as one of my machine. -/
namespace Wm.F
open Wm
set_option maxRecDepth 100000

/-- 263: withy/plan.Right -/
def plan_Right : AFunc where
  closed := true
  nparams := 1
  ntmps := 31
  results := [.tmp 2]
  body := .seq (.ops (
      .op ⟨(some 1), .box (.t 0), []⟩ <|
      .op ⟨(some 2), .mov (.c (.bool false)), []⟩ <|
      .nil)) (
    .seq (.ops (
      .op ⟨(some 3), .fieldA 0 (.t 1), []⟩ <|
      .op ⟨(some 4), .load1 (.t 3), []⟩ <|
      .op ⟨(some 5), .call 376 [(.t 4), (.c (.int .i64 1)), (.c (.int .i64 64))], []⟩ <|
      .op ⟨(some 6), .mov (.t 5), []⟩ <|
      .grd 6 true [⟨(some 7), .fieldA 1 (.t 1), []⟩,
          ⟨(some 8), .load1 (.t 7), []⟩,
          ⟨(some 9), .call 376 [(.t 8), (.c (.int .i64 0)), (.c (.int .i64 8))], []⟩] <|
      .op ⟨(some 10), .pick (.t 6) (.t 9) (.c (.bool false)), []⟩ <|
      .op ⟨(some 11), .mov (.t 10), []⟩ <|
      .grd 11 true [⟨(some 12), .fieldA 2 (.t 1), []⟩,
          ⟨(some 13), .load1 (.t 12), []⟩,
          ⟨(some 14), .call 376 [(.t 13), (.c (.int .i64 1)), (.c (.int .i64 8))], []⟩] <|
      .op ⟨(some 15), .pick (.t 11) (.t 14) (.c (.bool false)), []⟩ <|
      .op ⟨(some 16), .mov (.t 15), []⟩ <|
      .grd 16 true [⟨(some 17), .fieldA 3 (.t 1), []⟩,
          ⟨(some 18), .load1 (.t 17), []⟩,
          ⟨(some 19), .call 376 [(.t 18), (.c (.int .i64 1)), (.c (.int .i64 16))], []⟩] <|
      .op ⟨(some 20), .pick (.t 16) (.t 19) (.c (.bool false)), []⟩ <|
      .op ⟨(some 21), .mov (.t 20), []⟩ <|
      .grd 21 true [⟨(some 22), .fieldA 4 (.t 1), []⟩,
          ⟨(some 23), .load1 (.t 22), []⟩,
          ⟨(some 24), .call 376 [(.t 23), (.c (.int .i64 1)), (.c (.int .i64 1048576))], []⟩] <|
      .op ⟨(some 25), .pick (.t 21) (.t 24) (.c (.bool false)), []⟩ <|
      .op ⟨(some 26), .mov (.t 25), []⟩ <|
      .grd 26 true [⟨(some 27), .fieldA 5 (.t 1), []⟩,
          ⟨(some 28), .load1 (.t 27), []⟩,
          ⟨(some 29), .call 376 [(.t 28), (.c (.int .i64 0)), (.c (.int .i64 64))], []⟩] <|
      .op ⟨(some 30), .pick (.t 26) (.t 29) (.c (.bool false)), []⟩ <|
      .op ⟨(some 2), .mov (.t 30), []⟩ <|
      .nil)) (
    .ret))

def plan_Right_hs : List (List Nat × List Nat) := []

end Wm.F
end

section
/- PRINTED by my tool (wip/wm/tool/Gen.lean): a function as one of my machine. -/
namespace Wm.F
open Wm
set_option maxRecDepth 100000

/-- 351: (*withy/collect.Collect).begin -/
def collect_Collect_begin : AFunc where
  closed := false
  nparams := 1
  ntmps := 59
  results := []
  body := .seq (.ops (
      .op ⟨(some 2), .mov (.t 0), []⟩ <|
      .op ⟨(some 3), .mov (.t 0), []⟩ <|
      .op ⟨(some 4), .mov (.t 0), []⟩ <|
      .op ⟨(some 5), .nilc (.t 4), []⟩ <|
      .op ⟨(some 6), .fieldA 2 (.t 5), []⟩ <|
      .op ⟨(some 7), .loadN 6 (.t 6), []⟩ <|
      .op ⟨(some 8), .call 415 [(.t 7)], []⟩ <|
      .op ⟨(some 9), .nilc (.t 2), []⟩ <|
      .op ⟨(some 10), .fieldA 9 (.t 9), []⟩ <|
      .op ⟨none, .store 1 (.t 10) (.t 8), []⟩ <|
      .op ⟨(some 11), .nilc (.t 3), []⟩ <|
      .op ⟨(some 12), .fieldA 8 (.t 11), []⟩ <|
      .op ⟨none, .store 1 (.t 12) (.c .nilifc), []⟩ <|
      .nil)) (
    .seq (.ops (
      .op ⟨(some 13), .mov (.t 0), []⟩ <|
      .op ⟨(some 14), .nilc (.t 13), []⟩ <|
      .op ⟨(some 15), .fieldA 0 (.t 14), []⟩ <|
      .op ⟨(some 16), .load1 (.t 15), []⟩ <|
      .op ⟨(some 17), .arith .rem .u64 (.t 16) (.c (.int .u64 4)), []⟩ <|
      .nil)) (
    .block 0 (.seq (.ops (
      .op ⟨(some 19), .cmp .eql .u64 (.t 17) (.c (.int .u64 0)), []⟩ <|
      .op ⟨(some 18), .mov (.t 19), []⟩ <|
      .nil)) (
    .cond (.t 18) (.ops (
        .op ⟨(some 20), .mov (.t 0), []⟩ <|
        .op ⟨(some 21), .mov (.t 0), []⟩ <|
        .op ⟨(some 22), .nilc (.t 21), []⟩ <|
        .op ⟨(some 23), .fieldA 2 (.t 22), []⟩ <|
        .op ⟨(some 24), .loadN 6 (.t 23), []⟩ <|
        .op ⟨(some 25), .call 189 [(.t 24)], []⟩ <|
        .op ⟨(some 26), .mkIfc 207 (.t 25), []⟩ <|
        .op ⟨(some 27), .nilc (.t 20), []⟩ <|
        .op ⟨(some 28), .fieldA 8 (.t 27), []⟩ <|
        .op ⟨none, .store 1 (.t 28) (.t 26), []⟩ <|
        .nil)) (.seq (.ops (
        .op ⟨(some 30), .cmp .eql .u64 (.t 17) (.c (.int .u64 2)), []⟩ <|
        .op ⟨(some 29), .mov (.t 30), []⟩ <|
        .nil)) (
      .cond (.t 29) (.ops (
          .op ⟨(some 31), .mov (.t 0), []⟩ <|
          .op ⟨(some 32), .mov (.t 0), []⟩ <|
          .op ⟨(some 33), .nilc (.t 32), []⟩ <|
          .op ⟨(some 34), .fieldA 2 (.t 33), []⟩ <|
          .op ⟨(some 35), .loadN 6 (.t 34), []⟩ <|
          .op ⟨(some 36), .mov (.t 0), []⟩ <|
          .op ⟨(some 37), .nilc (.t 36), []⟩ <|
          .op ⟨(some 38), .fieldA 0 (.t 37), []⟩ <|
          .op ⟨(some 39), .load1 (.t 38), []⟩ <|
          .op ⟨(some 40), .call 158 [(.t 35), (.t 39)], []⟩ <|
          .op ⟨(some 41), .mkIfc 166 (.t 40), []⟩ <|
          .op ⟨(some 42), .nilc (.t 31), []⟩ <|
          .op ⟨(some 43), .fieldA 8 (.t 42), []⟩ <|
          .op ⟨none, .store 1 (.t 43) (.t 41), []⟩ <|
          .nil)) (.seq (.ops (
          .op ⟨(some 45), .cmp .eql .u64 (.t 17) (.c (.int .u64 3)), []⟩ <|
          .op ⟨(some 44), .mov (.t 45), []⟩ <|
          .nil)) (
        .cond (.t 44) (.ops (
            .op ⟨(some 46), .mov (.t 0), []⟩ <|
            .op ⟨(some 47), .mov (.t 0), []⟩ <|
            .op ⟨(some 48), .nilc (.t 47), []⟩ <|
            .op ⟨(some 49), .fieldA 2 (.t 48), []⟩ <|
            .op ⟨(some 50), .loadN 6 (.t 49), []⟩ <|
            .op ⟨(some 51), .mov (.t 0), []⟩ <|
            .op ⟨(some 52), .nilc (.t 51), []⟩ <|
            .op ⟨(some 53), .fieldA 0 (.t 52), []⟩ <|
            .op ⟨(some 54), .load1 (.t 53), []⟩ <|
            .op ⟨(some 55), .call 188 [(.t 50), (.t 54)], []⟩ <|
            .op ⟨(some 56), .mkIfc 206 (.t 55), []⟩ <|
            .op ⟨(some 57), .nilc (.t 46), []⟩ <|
            .op ⟨(some 58), .fieldA 8 (.t 57), []⟩ <|
            .op ⟨none, .store 1 (.t 58) (.t 56), []⟩ <|
            .nil)) (.skip)))))))))

def collect_Collect_begin_hs : List (List Nat × List Nat) := []

end Wm.F
end

section
/- PRINTED by my tool (wip/wm/tool/Gen.lean): a function as one of my machine. -/
namespace Wm.F
open Wm
set_option maxRecDepth 100000

/-- 352: (*withy/epoch.Advance).Step -/
def epoch_Advance_Step : AFunc where
  closed := false
  nparams := 2
  ntmps := 101
  results := [.tmp 4]
  body := .seq (.ops (
      .op ⟨(some 4), .mov (.c (.bool false)), []⟩ <|
      .nil)) (
    .seq (.seq (.ops (
      .op ⟨(some 6), .mov (.t 0), []⟩ <|
      .op ⟨(some 7), .eq false .ptr (.t 6) (.c .nilp), []⟩ <|
      .nil)) (
    .cond (.t 7) (.seq (.ops (
        .op ⟨(some 4), .mov (.c (.bool true)), []⟩ <|
        .nil)) (
      .ret)) (.skip))) (
    .seq (.seq (.ops (
      .op ⟨(some 8), .mov (.t 0), []⟩ <|
      .op ⟨(some 9), .nilc (.t 8), []⟩ <|
      .op ⟨(some 10), .fieldA 9 (.t 9), []⟩ <|
      .op ⟨(some 11), .load1 (.t 10), []⟩ <|
      .nil)) (
    .block 0 (.seq (.ops (
      .op ⟨(some 13), .cmp .eql .i64 (.t 11) (.c (.int .i64 0)), []⟩ <|
      .op ⟨(some 12), .mov (.t 13), []⟩ <|
      .nil)) (
    .cond (.t 12) (.seq (.ops (
        .op ⟨(some 14), .mov (.t 0), []⟩ <|
        .op ⟨(some 15), .mov (.t 1), []⟩ <|
        .op ⟨(some 16), .call 266 [(.t 15), (.c (.int .i64 1))], []⟩ <|
        .op ⟨(some 17), .nilc (.t 14), []⟩ <|
        .op ⟨(some 18), .fieldA 7 (.t 17), []⟩ <|
        .op ⟨none, .store 1 (.t 18) (.t 16), []⟩ <|
        .nil)) (
      .ops (
        .op ⟨(some 19), .mov (.t 0), []⟩ <|
        .op ⟨(some 20), .mov (.t 0), []⟩ <|
        .op ⟨(some 21), .nilc (.t 19), []⟩ <|
        .op ⟨(some 22), .fieldA 8 (.t 21), []⟩ <|
        .op ⟨none, .store 1 (.t 22) (.c (.int .i64 0)), []⟩ <|
        .op ⟨(some 23), .nilc (.t 20), []⟩ <|
        .op ⟨(some 24), .fieldA 9 (.t 23), []⟩ <|
        .op ⟨none, .store 1 (.t 24) (.c (.int .i64 1)), []⟩ <|
        .nil))) (.seq (.ops (
        .op ⟨(some 26), .cmp .eql .i64 (.t 11) (.c (.int .i64 1)), []⟩ <|
        .op ⟨(some 25), .mov (.t 26), []⟩ <|
        .nil)) (
      .cond (.t 25) (.seq (.seq (.ops (
          .op ⟨(some 27), .mov (.t 1), []⟩ <|
          .op ⟨(some 28), .mov (.t 0), []⟩ <|
          .op ⟨(some 29), .nilc (.t 28), []⟩ <|
          .op ⟨(some 30), .fieldA 1 (.t 29), []⟩ <|
          .op ⟨(some 31), .loadN 6 (.t 30), []⟩ <|
          .op ⟨(some 32), .mov (.t 0), []⟩ <|
          .op ⟨(some 33), .nilc (.t 32), []⟩ <|
          .op ⟨(some 34), .fieldA 8 (.t 33), []⟩ <|
          .op ⟨(some 35), .load1 (.t 34), []⟩ <|
          .op ⟨(some 36), .call 416 [(.t 31), (.t 35)], []⟩ <|
          .op ⟨(some 37), .call 266 [(.t 27), (.t 36)], []⟩ <|
          .op ⟨(some 5), .mov (.t 37), []⟩ <|
          .nil)) (
        .seq (.ops (
          .op ⟨(some 38), .mov (.t 5), []⟩ <|
          .op ⟨(some 39), .cmp .eql .u64 (.t 38) (.c (.int .u64 0)), []⟩ <|
          .op ⟨(some 40), .mov (.t 39), []⟩ <|
          .grd 40 false [⟨(some 41), .mov (.t 5), []⟩,
              ⟨(some 42), .mov (.t 0), []⟩,
              ⟨(some 43), .nilc (.t 42), []⟩,
              ⟨(some 44), .fieldA 7 (.t 43), []⟩,
              ⟨(some 45), .load1 (.t 44), []⟩,
              ⟨(some 46), .call 417 [(.t 45)], []⟩,
              ⟨(some 47), .cmp .eql .u64 (.t 41) (.t 46), []⟩] <|
          .op ⟨(some 48), .pick (.t 40) (.c (.bool true)) (.t 47), []⟩ <|
          .nil)) (
        .cond (.t 48) (.ops (
            .op ⟨(some 49), .mov (.t 0), []⟩ <|
            .op ⟨(some 50), .nilc (.t 49), []⟩ <|
            .op ⟨(some 51), .fieldA 8 (.t 50), []⟩ <|
            .op ⟨(some 52), .load1 (.t 51), []⟩ <|
            .op ⟨(some 53), .arith .add .i64 (.t 52) (.c (.int .i64 1)), []⟩ <|
            .op ⟨(some 54), .nilc (.t 49), []⟩ <|
            .op ⟨(some 55), .fieldA 8 (.t 54), []⟩ <|
            .op ⟨none, .store 1 (.t 55) (.t 53), []⟩ <|
            .nil)) (.skip)))) (
        .seq (.ops (
          .op ⟨(some 56), .mov (.t 0), []⟩ <|
          .op ⟨(some 57), .nilc (.t 56), []⟩ <|
          .op ⟨(some 58), .fieldA 8 (.t 57), []⟩ <|
          .op ⟨(some 59), .load1 (.t 58), []⟩ <|
          .op ⟨(some 60), .mov (.t 0), []⟩ <|
          .op ⟨(some 61), .nilc (.t 60), []⟩ <|
          .op ⟨(some 62), .fieldA 1 (.t 61), []⟩ <|
          .op ⟨(some 63), .fieldA 2 (.t 62), []⟩ <|
          .op ⟨(some 64), .load1 (.t 63), []⟩ <|
          .op ⟨(some 65), .cmp .eql .i64 (.t 59) (.t 64), []⟩ <|
          .nil)) (
        .cond (.t 65) (.ops (
            .op ⟨(some 66), .mov (.t 0), []⟩ <|
            .op ⟨(some 67), .nilc (.t 66), []⟩ <|
            .op ⟨(some 68), .fieldA 9 (.t 67), []⟩ <|
            .op ⟨none, .store 1 (.t 68) (.c (.int .i64 2)), []⟩ <|
            .nil)) (.skip)))) (.seq (.ops (
          .op ⟨(some 70), .cmp .eql .i64 (.t 11) (.c (.int .i64 2)), []⟩ <|
          .op ⟨(some 69), .mov (.t 70), []⟩ <|
          .nil)) (
        .cond (.t 69) (.seq (.ops (
            .op ⟨(some 71), .mov (.t 0), []⟩ <|
            .op ⟨(some 72), .nilc (.t 71), []⟩ <|
            .op ⟨(some 73), .fieldA 9 (.t 72), []⟩ <|
            .op ⟨none, .store 1 (.t 73) (.c (.int .i64 0)), []⟩ <|
            .nil)) (
          .seq (.ops (
            .op ⟨(some 74), .mov (.t 1), []⟩ <|
            .op ⟨(some 75), .mov (.t 0), []⟩ <|
            .op ⟨(some 76), .nilc (.t 75), []⟩ <|
            .op ⟨(some 77), .fieldA 7 (.t 76), []⟩ <|
            .op ⟨(some 78), .load1 (.t 77), []⟩ <|
            .op ⟨(some 79), .mov (.t 0), []⟩ <|
            .op ⟨(some 80), .nilc (.t 79), []⟩ <|
            .op ⟨(some 81), .fieldA 7 (.t 80), []⟩ <|
            .op ⟨(some 82), .load1 (.t 81), []⟩ <|
            .op ⟨(some 83), .arith .add .u64 (.t 82) (.c (.int .u64 1)), []⟩ <|
            .op ⟨(some 84), .call 269 [(.t 74), (.c (.int .i64 1)), (.t 78), (.t 83)], []⟩ <|
            .nil)) (
          .cond (.t 84) (.ops (
              .op ⟨(some 85), .mov (.t 0), []⟩ <|
              .op ⟨(some 86), .mov (.t 0), []⟩ <|
              .op ⟨(some 87), .mov (.t 0), []⟩ <|
              .op ⟨(some 88), .nilc (.t 87), []⟩ <|
              .op ⟨(some 89), .fieldA 7 (.t 88), []⟩ <|
              .op ⟨(some 90), .load1 (.t 89), []⟩ <|
              .op ⟨(some 91), .arith .add .u64 (.t 90) (.c (.int .u64 1)), []⟩ <|
              .op ⟨(some 92), .nilc (.t 85), []⟩ <|
              .op ⟨(some 93), .fieldA 0 (.t 92), []⟩ <|
              .op ⟨none, .store 1 (.t 93) (.t 91), []⟩ <|
              .op ⟨(some 94), .nilc (.t 86), []⟩ <|
              .op ⟨(some 95), .fieldA 9 (.t 94), []⟩ <|
              .op ⟨none, .store 1 (.t 95) (.c (.int .i64 3)), []⟩ <|
              .nil)) (.skip)))) (.skip))))))))) (
    .seq (.ops (
      .op ⟨(some 96), .mov (.t 0), []⟩ <|
      .op ⟨(some 97), .nilc (.t 96), []⟩ <|
      .op ⟨(some 98), .fieldA 9 (.t 97), []⟩ <|
      .op ⟨(some 99), .load1 (.t 98), []⟩ <|
      .op ⟨(some 100), .cmp .eql .i64 (.t 99) (.c (.int .i64 3)), []⟩ <|
      .op ⟨(some 4), .mov (.t 100), []⟩ <|
      .nil)) (
    .ret))))

def epoch_Advance_Step_hs : List (List Nat × List Nat) := []

end Wm.F
end

section
/- PRINTED by my tool (wip/wm/tool/Gen.lean): a function as one of my machine. -/
namespace Wm.F
open Wm
set_option maxRecDepth 100000

/-- 198: withy/mem.Of -/
def mem_Of : AFunc where
  closed := false
  nparams := 1
  ntmps := 10
  results := [.tmp 2]
  body := .seq (.ops (
      .op ⟨(some 2), .mov (.c .nilp), []⟩ <|
      .nil)) (
    .seq (.seq (.ops (
      .op ⟨(some 3), .mov (.t 0), []⟩ <|
      .op ⟨(some 4), .lenSl (.t 3), []⟩ <|
      .op ⟨(some 5), .cmp .gtr .i64 (.t 4) (.c (.int .i64 65536)), []⟩ <|
      .nil)) (
    .cond (.t 5) (.seq (.ops (
        .op ⟨(some 2), .mov (.c .nilp), []⟩ <|
        .nil)) (
      .ret)) (.skip))) (
    .seq (.ops (
      .op ⟨(some 6), .mov (.t 0), []⟩ <|
      .op ⟨(some 7), .call 271 [(.t 6)], []⟩ <|
      .op ⟨(some 8), .build [.nilsl, (.int .i64 0), (.int .i64 0), (.int .i64 0), (.int .u64 0), (.int .u64 0)] [(0, 1, (.t 7))], []⟩ <|
      .op ⟨(some 9), .box (.t 8), []⟩ <|
      .op ⟨(some 2), .mov (.t 9), []⟩ <|
      .nil)) (
    .ret)))

def mem_Of_hs : List (List Nat × List Nat) := []

end Wm.F
end

section
/- PRINTED by my tool (wip/wm/tool/Gen.lean): a function as one of my machine. -/
namespace Wm.F
open Wm
set_option maxRecDepth 100000

/-- 264: withy/plan.Size -/
def plan_Size : AFunc where
  closed := true
  nparams := 1
  ntmps := 14
  results := [.tmp 2]
  body := .seq (.ops (
      .op ⟨(some 1), .box (.t 0), []⟩ <|
      .op ⟨(some 2), .mov (.c (.int .i64 0)), []⟩ <|
      .nil)) (
    .seq (.seq (.ops (
      .op ⟨(some 3), .loadN 6 (.t 1), []⟩ <|
      .op ⟨(some 4), .call 263 [(.t 3)], []⟩ <|
      .op ⟨(some 5), .not (.t 4), []⟩ <|
      .nil)) (
    .cond (.t 5) (.seq (.ops (
        .op ⟨(some 2), .mov (.c (.int .i64 0)), []⟩ <|
        .nil)) (
      .ret)) (.skip))) (
    .seq (.ops (
      .op ⟨(some 6), .loadN 6 (.t 1), []⟩ <|
      .op ⟨(some 8), .fieldA 0 (.t 1), []⟩ <|
      .op ⟨(some 9), .load1 (.t 8), []⟩ <|
      .op ⟨(some 10), .loadN 6 (.t 1), []⟩ <|
      .op ⟨(some 7), .call 377 [(.t 6)], [{ g := none, op := .loadN 6 (.t 1), d := 10 }, { g := none, op := .load1 (.t 8), d := 9 }]⟩ <|
      .op ⟨(some 11), .call 378 [(.t 10)], [{ g := none, op := .load1 (.t 8), d := 9 }]⟩ <|
      .op ⟨(some 12), .arith .mul .i64 (.t 9) (.t 11), []⟩ <|
      .op ⟨(some 13), .arith .add .i64 (.t 7) (.t 12), []⟩ <|
      .op ⟨(some 2), .mov (.t 13), []⟩ <|
      .nil)) (
    .ret)))

def plan_Size_hs : List (List Nat × List Nat) := []

end Wm.F
end

section
/- PRINTED by my tool (wip/wm/tool/Gen.lean): a function as one of my machine. -/
namespace Wm.F
open Wm
set_option maxRecDepth 100000

/-- 293: withy/plan.Link -/
def plan_Link : AFunc where
  closed := true
  nparams := 2
  ntmps := 8
  results := [.tmp 4]
  body := .seq (.ops (
      .op ⟨(some 2), .box (.t 0), []⟩ <|
      .op ⟨(some 4), .mov (.c (.int .i64 0)), []⟩ <|
      .nil)) (
    .seq (.ops (
      .op ⟨(some 5), .loadN 6 (.t 2), []⟩ <|
      .op ⟨(some 6), .mov (.t 1), []⟩ <|
      .op ⟨(some 7), .call 375 [(.t 5), (.t 6), (.c (.int .i64 1))], []⟩ <|
      .op ⟨(some 4), .mov (.t 7), []⟩ <|
      .nil)) (
    .ret))

def plan_Link_hs : List (List Nat × List Nat) := []

end Wm.F
end

section
/- PRINTED by my tool (wip/wm/tool/Gen.lean): a function as one of my machine. -/
namespace Wm.F
open Wm
set_option maxRecDepth 100000

/-- 350: withy/tag.Top -/
def tag_Top : AFunc where
  closed := true
  nparams := 2
  ntmps := 11
  results := [.tmp 4, .tmp 5]
  body := .seq (.ops (
      .op ⟨(some 4), .mov (.c (.int .u64 0)), []⟩ <|
      .op ⟨(some 5), .mov (.c (.bool false)), []⟩ <|
      .nil)) (
    .seq (.ops (
      .op ⟨(some 6), .mov (.t 0), []⟩ <|
      .op ⟨(some 7), .mov (.t 1), []⟩ <|
      .op ⟨(some 8), .call 414 [(.t 6), (.t 7), (.c (.int .i64 16))], []⟩ <|
      .op ⟨(some 9), .extract (.t 8) 0, []⟩ <|
      .op ⟨(some 10), .extract (.t 8) 1, []⟩ <|
      .op ⟨(some 4), .mov (.t 9), []⟩ <|
      .op ⟨(some 5), .mov (.t 10), []⟩ <|
      .nil)) (
    .ret))

def tag_Top_hs : List (List Nat × List Nat) := []

end Wm.F
end

section
/- PRINTED by my tool (wip/wm/tool/Gen.lean): a function as one of my machine. -/
namespace Wm.F
open Wm
set_option maxRecDepth 100000

/-- 376: withy/plan.between -/
def plan_between : AFunc where
  closed := true
  nparams := 3
  ntmps := 15
  results := [.tmp 6]
  body := .seq (.ops (
      .op ⟨(some 6), .mov (.c (.bool false)), []⟩ <|
      .nil)) (
    .seq (.ops (
      .op ⟨(some 7), .mov (.t 0), []⟩ <|
      .op ⟨(some 8), .mov (.t 1), []⟩ <|
      .op ⟨(some 9), .cmp .geq .i64 (.t 7) (.t 8), []⟩ <|
      .op ⟨(some 10), .mov (.t 9), []⟩ <|
      .grd 10 true [⟨(some 11), .mov (.t 0), []⟩,
          ⟨(some 12), .mov (.t 2), []⟩,
          ⟨(some 13), .cmp .leq .i64 (.t 11) (.t 12), []⟩] <|
      .op ⟨(some 14), .pick (.t 10) (.t 13) (.c (.bool false)), []⟩ <|
      .op ⟨(some 6), .mov (.t 14), []⟩ <|
      .nil)) (
    .ret))

def plan_between_hs : List (List Nat × List Nat) := []

end Wm.F
end

section
/- PRINTED by my tool (wip/wm/tool/Gen.lean): a function as one of my machine. -/
namespace Wm.F
open Wm
set_option maxRecDepth 100000

/-- 158: withy/mark.NewMark -/
def mark_NewMark : AFunc where
  closed := false
  nparams := 2
  ntmps := 12
  results := [.tmp 4]
  body := .seq (.ops (
      .op ⟨(some 2), .box (.t 0), []⟩ <|
      .op ⟨(some 4), .mov (.c .nilp), []⟩ <|
      .nil)) (
    .seq (.seq (.ops (
      .op ⟨(some 5), .loadN 6 (.t 2), []⟩ <|
      .op ⟨(some 6), .call 263 [(.t 5)], []⟩ <|
      .op ⟨(some 7), .not (.t 6), []⟩ <|
      .nil)) (
    .cond (.t 7) (.seq (.ops (
        .op ⟨(some 4), .mov (.c .nilp), []⟩ <|
        .nil)) (
      .ret)) (.skip))) (
    .seq (.ops (
      .op ⟨(some 8), .loadN 6 (.t 2), []⟩ <|
      .op ⟨(some 9), .mov (.t 1), []⟩ <|
      .op ⟨(some 10), .build [(.int .i64 0), (.int .i64 0), (.int .i64 0), (.int .i64 0), (.int .i64 0), (.int .i64 0), (.int .i64 0), (.int .i64 0), (.int .u64 0), (.int .i64 0), (.int .u64 0), (.int .i64 0), (.int .i64 0), (.int .i64 0), (.int .i64 0), (.int .i64 0), (.int .u64 0), (.int .u64 0), .nilsl, .nilp, (.int .i64 0)] [(2, 6, (.t 8)), (8, 1, (.t 9))], []⟩ <|
      .op ⟨(some 11), .box (.t 10), []⟩ <|
      .op ⟨(some 4), .mov (.t 11), []⟩ <|
      .nil)) (
    .ret)))

def mark_NewMark_hs : List (List Nat × List Nat) := []

end Wm.F
end

section
/- PRINTED by my tool (wip/wm/tool/Gen.lean): a function as one of my machine. -/
namespace Wm.F
open Wm
set_option maxRecDepth 100000

/-- 188: withy/sweep.NewSweep -/
def sweep_NewSweep : AFunc where
  closed := false
  nparams := 2
  ntmps := 12
  results := [.tmp 4]
  body := .seq (.ops (
      .op ⟨(some 2), .box (.t 0), []⟩ <|
      .op ⟨(some 4), .mov (.c .nilp), []⟩ <|
      .nil)) (
    .seq (.seq (.ops (
      .op ⟨(some 5), .loadN 6 (.t 2), []⟩ <|
      .op ⟨(some 6), .call 263 [(.t 5)], []⟩ <|
      .op ⟨(some 7), .not (.t 6), []⟩ <|
      .nil)) (
    .cond (.t 7) (.seq (.ops (
        .op ⟨(some 4), .mov (.c .nilp), []⟩ <|
        .nil)) (
      .ret)) (.skip))) (
    .seq (.ops (
      .op ⟨(some 8), .loadN 6 (.t 2), []⟩ <|
      .op ⟨(some 9), .mov (.t 1), []⟩ <|
      .op ⟨(some 10), .build [(.int .i64 0), (.int .i64 0), (.int .i64 0), (.int .i64 0), (.int .i64 0), (.int .i64 0), (.int .i64 0), (.int .u64 0), (.int .i64 0), (.int .u64 0), (.bool false)] [(1, 6, (.t 8)), (7, 1, (.t 9))], []⟩ <|
      .op ⟨(some 11), .box (.t 10), []⟩ <|
      .op ⟨(some 4), .mov (.t 11), []⟩ <|
      .nil)) (
    .ret)))

def sweep_NewSweep_hs : List (List Nat × List Nat) := []

end Wm.F
end

section
/- PRINTED by my tool (wip/wm/tool/Gen.lean): a function as one of my machine. -/
namespace Wm.F
open Wm
set_option maxRecDepth 100000

/-- 189: withy/sweep.NewReclaim -/
def sweep_NewReclaim : AFunc where
  closed := false
  nparams := 1
  ntmps := 9
  results := [.tmp 2]
  body := .seq (.ops (
      .op ⟨(some 1), .box (.t 0), []⟩ <|
      .op ⟨(some 2), .mov (.c .nilp), []⟩ <|
      .nil)) (
    .seq (.seq (.ops (
      .op ⟨(some 3), .loadN 6 (.t 1), []⟩ <|
      .op ⟨(some 4), .call 263 [(.t 3)], []⟩ <|
      .op ⟨(some 5), .not (.t 4), []⟩ <|
      .nil)) (
    .cond (.t 5) (.seq (.ops (
        .op ⟨(some 2), .mov (.c .nilp), []⟩ <|
        .nil)) (
      .ret)) (.skip))) (
    .seq (.ops (
      .op ⟨(some 6), .loadN 6 (.t 1), []⟩ <|
      .op ⟨(some 7), .build [(.int .i64 0), (.int .i64 0), (.int .i64 0), (.int .i64 0), (.int .i64 0), (.int .i64 0), (.int .i64 0), (.int .i64 0), (.int .i64 0), .nilp] [(2, 6, (.t 6))], []⟩ <|
      .op ⟨(some 8), .box (.t 7), []⟩ <|
      .op ⟨(some 2), .mov (.t 8), []⟩ <|
      .nil)) (
    .ret)))

def sweep_NewReclaim_hs : List (List Nat × List Nat) := []

end Wm.F
end

section
/- PRINTED by my tool (wip/wm/tool/Gen.lean): a function as one of my machine. -/
namespace Wm.F
open Wm
set_option maxRecDepth 100000

/-- 415: withy/epoch.NewAdvance -/
def epoch_NewAdvance : AFunc where
  closed := false
  nparams := 1
  ntmps := 9
  results := [.tmp 2]
  body := .seq (.ops (
      .op ⟨(some 1), .box (.t 0), []⟩ <|
      .op ⟨(some 2), .mov (.c .nilp), []⟩ <|
      .nil)) (
    .seq (.seq (.ops (
      .op ⟨(some 3), .loadN 6 (.t 1), []⟩ <|
      .op ⟨(some 4), .call 263 [(.t 3)], []⟩ <|
      .op ⟨(some 5), .not (.t 4), []⟩ <|
      .nil)) (
    .cond (.t 5) (.seq (.ops (
        .op ⟨(some 2), .mov (.c .nilp), []⟩ <|
        .nil)) (
      .ret)) (.skip))) (
    .seq (.ops (
      .op ⟨(some 6), .loadN 6 (.t 1), []⟩ <|
      .op ⟨(some 7), .build [(.int .u64 0), (.int .i64 0), (.int .i64 0), (.int .i64 0), (.int .i64 0), (.int .i64 0), (.int .i64 0), (.int .u64 0), (.int .i64 0), (.int .i64 0)] [(1, 6, (.t 6))], []⟩ <|
      .op ⟨(some 8), .box (.t 7), []⟩ <|
      .op ⟨(some 2), .mov (.t 8), []⟩ <|
      .nil)) (
    .ret)))

def epoch_NewAdvance_hs : List (List Nat × List Nat) := []

end Wm.F
end

section
/- PRINTED by my tool (wip/wm/tool/Gen.lean): a function as one of my machine. -/
namespace Wm.F
open Wm
set_option maxRecDepth 100000

/-- 159: (*withy/mark.Mark).Step -/
def mark_Mark_Step : AFunc where
  closed := false
  nparams := 2
  ntmps := 89
  results := [.tmp 4]
  body := .seq (.ops (
      .op ⟨(some 4), .mov (.c (.bool false)), []⟩ <|
      .nil)) (
    .seq (.block 0 (.seq (.ops (
      .op ⟨(some 9), .mov (.t 0), []⟩ <|
      .op ⟨(some 10), .eq false .ptr (.t 9) (.c .nilp), []⟩ <|
      .op ⟨(some 8), .mov (.t 10), []⟩ <|
      .nil)) (
    .cond (.t 8) (.seq (.ops (
        .op ⟨(some 4), .mov (.c (.bool true)), []⟩ <|
        .nil)) (
      .ret)) (.seq (.ops (
        .op ⟨(some 12), .mov (.t 0), []⟩ <|
        .op ⟨(some 13), .nilc (.t 12), []⟩ <|
        .op ⟨(some 14), .fieldA 19 (.t 13), []⟩ <|
        .op ⟨(some 15), .load1 (.t 14), []⟩ <|
        .op ⟨(some 16), .eq true .ptr (.t 15) (.c .nilp), []⟩ <|
        .op ⟨(some 11), .mov (.t 16), []⟩ <|
        .nil)) (
      .cond (.t 11) (.seq (.seq (.ops (
          .op ⟨(some 17), .mov (.t 0), []⟩ <|
          .op ⟨(some 18), .nilc (.t 17), []⟩ <|
          .op ⟨(some 19), .fieldA 19 (.t 18), []⟩ <|
          .op ⟨(some 20), .load1 (.t 19), []⟩ <|
          .op ⟨(some 21), .mov (.t 1), []⟩ <|
          .op ⟨(some 22), .call 91 [(.t 20), (.t 21)], []⟩ <|
          .nil)) (
        .cond (.t 22) (.seq (.seq (.ops (
            .op ⟨(some 23), .mov (.t 0), []⟩ <|
            .op ⟨(some 24), .nilc (.t 23), []⟩ <|
            .op ⟨(some 25), .fieldA 19 (.t 24), []⟩ <|
            .op ⟨(some 26), .load1 (.t 25), []⟩ <|
            .op ⟨(some 27), .nilc (.t 26), []⟩ <|
            .op ⟨(some 28), .fieldA 0 (.t 27), []⟩ <|
            .op ⟨(some 29), .load1 (.t 28), []⟩ <|
            .op ⟨(some 30), .mov (.t 29), []⟩ <|
            .grd 30 true [⟨(some 31), .mov (.t 0), []⟩,
                ⟨(some 32), .nilc (.t 31), []⟩,
                ⟨(some 33), .fieldA 18 (.t 32), []⟩,
                ⟨(some 34), .load1 (.t 33), []⟩,
                ⟨(some 35), .lenSl (.t 34), []⟩,
                ⟨(some 36), .mov (.t 0), []⟩,
                ⟨(some 37), .nilc (.t 36), []⟩,
                ⟨(some 38), .fieldA 2 (.t 37), []⟩,
                ⟨(some 39), .fieldA 5 (.t 38), []⟩,
                ⟨(some 40), .load1 (.t 39), []⟩,
                ⟨(some 41), .cmp .lss .i64 (.t 35) (.t 40), []⟩] <|
            .op ⟨(some 42), .pick (.t 30) (.t 41) (.c (.bool false)), []⟩ <|
            .nil)) (
          .cond (.t 42) (.ops (
              .op ⟨(some 43), .mov (.t 0), []⟩ <|
              .op ⟨(some 44), .mov (.t 0), []⟩ <|
              .op ⟨(some 45), .nilc (.t 44), []⟩ <|
              .op ⟨(some 46), .fieldA 18 (.t 45), []⟩ <|
              .op ⟨(some 47), .load1 (.t 46), []⟩ <|
              .op ⟨(some 48), .mov (.t 0), []⟩ <|
              .op ⟨(some 49), .nilc (.t 48), []⟩ <|
              .op ⟨(some 50), .fieldA 20 (.t 49), []⟩ <|
              .op ⟨(some 51), .load1 (.t 50), []⟩ <|
              .op ⟨(some 52), .buildSl 1 1 [(.int .i64 0)] [(0, 1, (.t 51))], []⟩ <|
              .op ⟨(some 53), .append 1 8 (.t 47) (.t 52), []⟩ <|
              .op ⟨(some 54), .nilc (.t 43), []⟩ <|
              .op ⟨(some 55), .fieldA 18 (.t 54), []⟩ <|
              .op ⟨none, .store 1 (.t 55) (.t 53), []⟩ <|
              .nil)) (.skip))) (
          .ops (
            .op ⟨(some 56), .mov (.t 0), []⟩ <|
            .op ⟨(some 57), .nilc (.t 56), []⟩ <|
            .op ⟨(some 58), .fieldA 19 (.t 57), []⟩ <|
            .op ⟨none, .store 1 (.t 58) (.c .nilp), []⟩ <|
            .nil))) (.skip))) (
        .seq (.ops (
          .op ⟨(some 4), .mov (.c (.bool false)), []⟩ <|
          .nil)) (
        .ret))) (.seq (.ops (
          .op ⟨(some 60), .mov (.t 0), []⟩ <|
          .op ⟨(some 61), .nilc (.t 60), []⟩ <|
          .op ⟨(some 62), .fieldA 9 (.t 61), []⟩ <|
          .op ⟨(some 63), .load1 (.t 62), []⟩ <|
          .op ⟨(some 64), .cmp .lss .i64 (.t 63) (.c (.int .i64 4)), []⟩ <|
          .op ⟨(some 59), .mov (.t 64), []⟩ <|
          .nil)) (
        .cond (.t 59) (.ops (
            .op ⟨(some 65), .mov (.t 0), []⟩ <|
            .op ⟨(some 66), .mov (.t 1), []⟩ <|
            .op ⟨(some 67), .call 325 [(.t 65), (.t 66)], []⟩ <|
            .nil)) (.seq (.ops (
            .op ⟨(some 69), .mov (.t 0), []⟩ <|
            .op ⟨(some 70), .nilc (.t 69), []⟩ <|
            .op ⟨(some 71), .fieldA 9 (.t 70), []⟩ <|
            .op ⟨(some 72), .load1 (.t 71), []⟩ <|
            .op ⟨(some 73), .cmp .lss .i64 (.t 72) (.c (.int .i64 6)), []⟩ <|
            .op ⟨(some 74), .mov (.t 73), []⟩ <|
            .grd 74 false [⟨(some 75), .mov (.t 0), []⟩,
                ⟨(some 76), .nilc (.t 75), []⟩,
                ⟨(some 77), .fieldA 9 (.t 76), []⟩,
                ⟨(some 78), .load1 (.t 77), []⟩,
                ⟨(some 79), .cmp .eql .i64 (.t 78) (.c (.int .i64 14)), []⟩] <|
            .op ⟨(some 80), .pick (.t 74) (.c (.bool true)) (.t 79), []⟩ <|
            .op ⟨(some 68), .mov (.t 80), []⟩ <|
            .nil)) (
          .cond (.t 68) (.ops (
              .op ⟨(some 81), .mov (.t 0), []⟩ <|
              .op ⟨(some 82), .mov (.t 1), []⟩ <|
              .op ⟨(some 83), .call 326 [(.t 81), (.t 82)], []⟩ <|
              .nil)) (.ops (
              .op ⟨(some 5), .mov (.t 0), []⟩ <|
              .op ⟨(some 6), .mov (.t 1), []⟩ <|
              .op ⟨(some 7), .call 327 [(.t 5), (.t 6)], []⟩ <|
              .nil))))))))))) (
    .seq (.ops (
      .op ⟨(some 84), .mov (.t 0), []⟩ <|
      .op ⟨(some 85), .nilc (.t 84), []⟩ <|
      .op ⟨(some 86), .fieldA 9 (.t 85), []⟩ <|
      .op ⟨(some 87), .load1 (.t 86), []⟩ <|
      .op ⟨(some 88), .cmp .eql .i64 (.t 87) (.c (.int .i64 15)), []⟩ <|
      .op ⟨(some 4), .mov (.t 88), []⟩ <|
      .nil)) (
    .ret)))

def mark_Mark_Step_hs : List (List Nat × List Nat) := []

end Wm.F
end

section
/- PRINTED by my tool (wip/wm/tool/Gen.lean): a function as one of my machine. -/
namespace Wm.F
open Wm
set_option maxRecDepth 100000

/-- 190: (*withy/sweep.Sweep).Step -/
def sweep_Sweep_Step : AFunc where
  closed := false
  nparams := 2
  ntmps := 115
  results := [.tmp 4]
  body := .seq (.ops (
      .op ⟨(some 4), .mov (.c (.bool false)), []⟩ <|
      .nil)) (
    .seq (.seq (.ops (
      .op ⟨(some 8), .mov (.t 0), []⟩ <|
      .op ⟨(some 9), .eq false .ptr (.t 8) (.c .nilp), []⟩ <|
      .op ⟨(some 10), .mov (.t 9), []⟩ <|
      .grd 10 false [⟨(some 11), .mov (.t 0), []⟩,
          ⟨(some 12), .nilc (.t 11), []⟩,
          ⟨(some 13), .fieldA 8 (.t 12), []⟩,
          ⟨(some 14), .load1 (.t 13), []⟩,
          ⟨(some 15), .mov (.t 0), []⟩,
          ⟨(some 16), .nilc (.t 15), []⟩,
          ⟨(some 17), .fieldA 1 (.t 16), []⟩,
          ⟨(some 18), .fieldA 0 (.t 17), []⟩,
          ⟨(some 19), .load1 (.t 18), []⟩,
          ⟨(some 20), .cmp .eql .i64 (.t 14) (.t 19), []⟩] <|
      .op ⟨(some 21), .pick (.t 10) (.c (.bool true)) (.t 20), []⟩ <|
      .nil)) (
    .cond (.t 21) (.seq (.ops (
        .op ⟨(some 4), .mov (.c (.bool true)), []⟩ <|
        .nil)) (
      .ret)) (.skip))) (
    .seq (.ops (
      .op ⟨(some 22), .mov (.t 0), []⟩ <|
      .op ⟨(some 23), .nilc (.t 22), []⟩ <|
      .op ⟨(some 24), .fieldA 1 (.t 23), []⟩ <|
      .op ⟨(some 25), .loadN 6 (.t 24), []⟩ <|
      .op ⟨(some 26), .mov (.t 0), []⟩ <|
      .op ⟨(some 27), .nilc (.t 26), []⟩ <|
      .op ⟨(some 28), .fieldA 8 (.t 27), []⟩ <|
      .op ⟨(some 29), .load1 (.t 28), []⟩ <|
      .op ⟨(some 30), .call 261 [(.t 25), (.t 29)], []⟩ <|
      .op ⟨(some 5), .mov (.t 30), []⟩ <|
      .nil)) (
    .seq (.seq (.ops (
      .op ⟨(some 31), .mov (.t 0), []⟩ <|
      .op ⟨(some 32), .nilc (.t 31), []⟩ <|
      .op ⟨(some 33), .fieldA 10 (.t 32), []⟩ <|
      .op ⟨(some 34), .load1 (.t 33), []⟩ <|
      .nil)) (
    .cond (.t 34) (.seq (.ops (
        .op ⟨(some 36), .mov (.t 0), []⟩ <|
        .op ⟨(some 37), .nilc (.t 36), []⟩ <|
        .op ⟨(some 38), .fieldA 9 (.t 37), []⟩ <|
        .op ⟨(some 39), .load1 (.t 38), []⟩ <|
        .op ⟨(some 40), .mov (.t 0), []⟩ <|
        .op ⟨(some 41), .nilc (.t 40), []⟩ <|
        .op ⟨(some 42), .fieldA 7 (.t 41), []⟩ <|
        .op ⟨(some 43), .load1 (.t 42), []⟩ <|
        .op ⟨(some 44), .call 340 [(.t 39), (.t 43)], []⟩ <|
        .op ⟨(some 35), .mov (.t 44), []⟩ <|
        .op ⟨(some 45), .extract (.t 35) 0, []⟩ <|
        .op ⟨(some 46), .extract (.t 35) 1, []⟩ <|
        .op ⟨(some 6), .mov (.t 45), []⟩ <|
        .op ⟨(some 7), .mov (.t 46), []⟩ <|
        .nil)) (
      .seq (.ops (
        .op ⟨(some 47), .mov (.t 0), []⟩ <|
        .op ⟨(some 48), .nilc (.t 47), []⟩ <|
        .op ⟨(some 49), .fieldA 10 (.t 48), []⟩ <|
        .op ⟨none, .store 1 (.t 49) (.c (.bool false)), []⟩ <|
        .nil)) (
      .seq (.ops (
        .op ⟨(some 50), .mov (.t 1), []⟩ <|
        .op ⟨(some 51), .mov (.t 5), []⟩ <|
        .op ⟨(some 52), .mov (.t 0), []⟩ <|
        .op ⟨(some 53), .nilc (.t 52), []⟩ <|
        .op ⟨(some 54), .fieldA 9 (.t 53), []⟩ <|
        .op ⟨(some 55), .load1 (.t 54), []⟩ <|
        .op ⟨(some 56), .mov (.t 6), []⟩ <|
        .op ⟨(some 57), .call 269 [(.t 50), (.t 51), (.t 55), (.t 56)], []⟩ <|
        .nil)) (
      .cond (.t 57) (.seq (.ops (
          .op ⟨(some 58), .mov (.t 0), []⟩ <|
          .op ⟨(some 59), .nilc (.t 58), []⟩ <|
          .op ⟨(some 60), .fieldA 0 (.t 59), []⟩ <|
          .op ⟨(some 61), .load1 (.t 60), []⟩ <|
          .op ⟨(some 62), .arith .add .i64 (.t 61) (.c (.int .i64 1)), []⟩ <|
          .op ⟨(some 63), .nilc (.t 58), []⟩ <|
          .op ⟨(some 64), .fieldA 0 (.t 63), []⟩ <|
          .op ⟨none, .store 1 (.t 64) (.t 62), []⟩ <|
          .nil)) (
        .ops (
          .op ⟨(some 65), .mov (.t 0), []⟩ <|
          .op ⟨(some 66), .nilc (.t 65), []⟩ <|
          .op ⟨(some 67), .fieldA 8 (.t 66), []⟩ <|
          .op ⟨(some 68), .load1 (.t 67), []⟩ <|
          .op ⟨(some 69), .arith .add .i64 (.t 68) (.c (.int .i64 1)), []⟩ <|
          .op ⟨(some 70), .nilc (.t 65), []⟩ <|
          .op ⟨(some 71), .fieldA 8 (.t 70), []⟩ <|
          .op ⟨none, .store 1 (.t 71) (.t 69), []⟩ <|
          .nil))) (.skip))))) (.seq (.ops (
        .op ⟨(some 72), .mov (.t 0), []⟩ <|
        .op ⟨(some 73), .mov (.t 1), []⟩ <|
        .op ⟨(some 74), .mov (.t 5), []⟩ <|
        .op ⟨(some 75), .call 266 [(.t 73), (.t 74)], []⟩ <|
        .op ⟨(some 76), .nilc (.t 72), []⟩ <|
        .op ⟨(some 77), .fieldA 9 (.t 76), []⟩ <|
        .op ⟨none, .store 1 (.t 77) (.t 75), []⟩ <|
        .nil)) (
      .seq (.ops (
        .op ⟨(some 79), .mov (.t 0), []⟩ <|
        .op ⟨(some 80), .mov (.t 0), []⟩ <|
        .op ⟨(some 81), .nilc (.t 80), []⟩ <|
        .op ⟨(some 82), .fieldA 9 (.t 81), []⟩ <|
        .op ⟨(some 83), .load1 (.t 82), []⟩ <|
        .op ⟨(some 84), .mov (.t 0), []⟩ <|
        .op ⟨(some 85), .nilc (.t 84), []⟩ <|
        .op ⟨(some 86), .fieldA 7 (.t 85), []⟩ <|
        .op ⟨(some 87), .load1 (.t 86), []⟩ <|
        .op ⟨(some 88), .call 340 [(.t 83), (.t 87)], []⟩ <|
        .op ⟨(some 78), .mov (.t 88), []⟩ <|
        .op ⟨(some 89), .extract (.t 78) 0, []⟩ <|
        .op ⟨(some 90), .extract (.t 78) 1, []⟩ <|
        .op ⟨(some 91), .nilc (.t 79), []⟩ <|
        .op ⟨(some 92), .fieldA 10 (.t 91), []⟩ <|
        .op ⟨none, .store 1 (.t 92) (.t 90), []⟩ <|
        .nil)) (
      .seq (.ops (
        .op ⟨(some 93), .mov (.t 0), []⟩ <|
        .op ⟨(some 94), .nilc (.t 93), []⟩ <|
        .op ⟨(some 95), .fieldA 10 (.t 94), []⟩ <|
        .op ⟨(some 96), .load1 (.t 95), []⟩ <|
        .op ⟨(some 97), .not (.t 96), []⟩ <|
        .nil)) (
      .cond (.t 97) (.ops (
          .op ⟨(some 98), .mov (.t 0), []⟩ <|
          .op ⟨(some 99), .nilc (.t 98), []⟩ <|
          .op ⟨(some 100), .fieldA 8 (.t 99), []⟩ <|
          .op ⟨(some 101), .load1 (.t 100), []⟩ <|
          .op ⟨(some 102), .arith .add .i64 (.t 101) (.c (.int .i64 1)), []⟩ <|
          .op ⟨(some 103), .nilc (.t 98), []⟩ <|
          .op ⟨(some 104), .fieldA 8 (.t 103), []⟩ <|
          .op ⟨none, .store 1 (.t 104) (.t 102), []⟩ <|
          .nil)) (.skip))))))) (
    .seq (.ops (
      .op ⟨(some 105), .mov (.t 0), []⟩ <|
      .op ⟨(some 106), .nilc (.t 105), []⟩ <|
      .op ⟨(some 107), .fieldA 8 (.t 106), []⟩ <|
      .op ⟨(some 108), .load1 (.t 107), []⟩ <|
      .op ⟨(some 109), .mov (.t 0), []⟩ <|
      .op ⟨(some 110), .nilc (.t 109), []⟩ <|
      .op ⟨(some 111), .fieldA 1 (.t 110), []⟩ <|
      .op ⟨(some 112), .fieldA 0 (.t 111), []⟩ <|
      .op ⟨(some 113), .load1 (.t 112), []⟩ <|
      .op ⟨(some 114), .cmp .eql .i64 (.t 108) (.t 113), []⟩ <|
      .op ⟨(some 4), .mov (.t 114), []⟩ <|
      .nil)) (
    .ret)))))

def sweep_Sweep_Step_hs : List (List Nat × List Nat) := []

end Wm.F
end

section
/- PRINTED by my tool (wip/wm/tool/Gen.lean): a function as one of my machine. -/
namespace Wm.F
open Wm
set_option maxRecDepth 100000

/-- 191: (*withy/sweep.Reclaim).Step -/
def sweep_Reclaim_Step : AFunc where
  closed := false
  nparams := 2
  ntmps := 120
  results := [.tmp 4]
  body := .seq (.ops (
      .op ⟨(some 4), .mov (.c (.bool false)), []⟩ <|
      .nil)) (
    .seq (.seq (.ops (
      .op ⟨(some 7), .mov (.t 0), []⟩ <|
      .op ⟨(some 8), .eq false .ptr (.t 7) (.c .nilp), []⟩ <|
      .op ⟨(some 9), .mov (.t 8), []⟩ <|
      .grd 9 false [⟨(some 10), .mov (.t 0), []⟩,
          ⟨(some 11), .nilc (.t 10), []⟩,
          ⟨(some 12), .fieldA 8 (.t 11), []⟩,
          ⟨(some 13), .load1 (.t 12), []⟩,
          ⟨(some 14), .mov (.t 0), []⟩,
          ⟨(some 15), .nilc (.t 14), []⟩,
          ⟨(some 16), .fieldA 2 (.t 15), []⟩,
          ⟨(some 17), .fieldA 0 (.t 16), []⟩,
          ⟨(some 18), .load1 (.t 17), []⟩,
          ⟨(some 19), .cmp .eql .i64 (.t 13) (.t 18), []⟩] <|
      .op ⟨(some 20), .pick (.t 9) (.c (.bool true)) (.t 19), []⟩ <|
      .nil)) (
    .cond (.t 20) (.seq (.ops (
        .op ⟨(some 4), .mov (.c (.bool true)), []⟩ <|
        .nil)) (
      .ret)) (.skip))) (
    .seq (.seq (.ops (
      .op ⟨(some 21), .mov (.t 0), []⟩ <|
      .op ⟨(some 22), .nilc (.t 21), []⟩ <|
      .op ⟨(some 23), .fieldA 9 (.t 22), []⟩ <|
      .op ⟨(some 24), .load1 (.t 23), []⟩ <|
      .op ⟨(some 25), .eq false .ptr (.t 24) (.c .nilp), []⟩ <|
      .nil)) (
    .cond (.t 25) (.seq (.ops (
        .op ⟨(some 27), .mov (.t 1), []⟩ <|
        .op ⟨(some 28), .mov (.t 0), []⟩ <|
        .op ⟨(some 29), .nilc (.t 28), []⟩ <|
        .op ⟨(some 30), .fieldA 2 (.t 29), []⟩ <|
        .op ⟨(some 31), .loadN 6 (.t 30), []⟩ <|
        .op ⟨(some 32), .mov (.t 0), []⟩ <|
        .op ⟨(some 33), .nilc (.t 32), []⟩ <|
        .op ⟨(some 34), .fieldA 8 (.t 33), []⟩ <|
        .op ⟨(some 35), .load1 (.t 34), []⟩ <|
        .op ⟨(some 36), .call 261 [(.t 31), (.t 35)], []⟩ <|
        .op ⟨(some 37), .call 266 [(.t 27), (.t 36)], []⟩ <|
        .op ⟨(some 38), .call 265 [(.t 37)], []⟩ <|
        .op ⟨(some 26), .mov (.t 38), []⟩ <|
        .op ⟨(some 39), .extract (.t 26) 0, []⟩ <|
        .op ⟨(some 40), .extract (.t 26) 1, []⟩ <|
        .op ⟨(some 5), .alloc [(.int .i64 0), (.int .i64 0), (.bool false), (.int .i64 0), (.int .i64 0), (.int .i64 0)], []⟩ <|
        .op ⟨none, .store 6 (.t 5) (.t 39), []⟩ <|
        .op ⟨(some 6), .mov (.t 40), []⟩ <|
        .nil)) (
      .seq (.ops (
        .op ⟨(some 41), .mov (.t 6), []⟩ <|
        .op ⟨(some 42), .mov (.t 41), []⟩ <|
        .grd 42 true [⟨(some 43), .fieldA 0 (.t 5), []⟩,
            ⟨(some 44), .load1 (.t 43), []⟩,
            ⟨(some 45), .cmp .eql .i64 (.t 44) (.c (.int .i64 3)), []⟩] <|
        .op ⟨(some 46), .pick (.t 42) (.t 45) (.c (.bool false)), []⟩ <|
        .nil)) (
      .cond (.t 46) (.ops (
          .op ⟨(some 47), .mov (.t 0), []⟩ <|
          .op ⟨(some 48), .mov (.t 0), []⟩ <|
          .op ⟨(some 49), .nilc (.t 48), []⟩ <|
          .op ⟨(some 50), .fieldA 2 (.t 49), []⟩ <|
          .op ⟨(some 51), .loadN 6 (.t 50), []⟩ <|
          .op ⟨(some 52), .mov (.t 0), []⟩ <|
          .op ⟨(some 53), .nilc (.t 52), []⟩ <|
          .op ⟨(some 54), .fieldA 8 (.t 53), []⟩ <|
          .op ⟨(some 55), .load1 (.t 54), []⟩ <|
          .op ⟨(some 56), .call 341 [(.t 51), (.t 55)], []⟩ <|
          .op ⟨(some 57), .nilc (.t 47), []⟩ <|
          .op ⟨(some 58), .fieldA 9 (.t 57), []⟩ <|
          .op ⟨none, .store 1 (.t 58) (.t 56), []⟩ <|
          .nil)) (.ops (
          .op ⟨(some 59), .mov (.t 0), []⟩ <|
          .op ⟨(some 60), .nilc (.t 59), []⟩ <|
          .op ⟨(some 61), .fieldA 8 (.t 60), []⟩ <|
          .op ⟨(some 62), .load1 (.t 61), []⟩ <|
          .op ⟨(some 63), .arith .add .i64 (.t 62) (.c (.int .i64 1)), []⟩ <|
          .op ⟨(some 64), .nilc (.t 59), []⟩ <|
          .op ⟨(some 65), .fieldA 8 (.t 64), []⟩ <|
          .op ⟨none, .store 1 (.t 65) (.t 63), []⟩ <|
          .nil))))) (.seq (.ops (
        .op ⟨(some 66), .mov (.t 0), []⟩ <|
        .op ⟨(some 67), .nilc (.t 66), []⟩ <|
        .op ⟨(some 68), .fieldA 9 (.t 67), []⟩ <|
        .op ⟨(some 69), .load1 (.t 68), []⟩ <|
        .op ⟨(some 70), .mov (.t 1), []⟩ <|
        .op ⟨(some 71), .call 342 [(.t 69), (.t 70)], []⟩ <|
        .nil)) (
      .cond (.t 71) (.seq (.seq (.ops (
          .op ⟨(some 72), .mov (.t 0), []⟩ <|
          .op ⟨(some 73), .nilc (.t 72), []⟩ <|
          .op ⟨(some 74), .fieldA 9 (.t 73), []⟩ <|
          .op ⟨(some 75), .load1 (.t 74), []⟩ <|
          .op ⟨(some 76), .nilc (.t 75), []⟩ <|
          .op ⟨(some 77), .fieldA 0 (.t 76), []⟩ <|
          .op ⟨(some 78), .load1 (.t 77), []⟩ <|
          .nil)) (
        .cond (.t 78) (.ops (
            .op ⟨(some 79), .mov (.t 0), []⟩ <|
            .op ⟨(some 80), .nilc (.t 79), []⟩ <|
            .op ⟨(some 81), .fieldA 0 (.t 80), []⟩ <|
            .op ⟨(some 82), .load1 (.t 81), []⟩ <|
            .op ⟨(some 83), .arith .add .i64 (.t 82) (.c (.int .i64 1)), []⟩ <|
            .op ⟨(some 84), .nilc (.t 79), []⟩ <|
            .op ⟨(some 85), .fieldA 0 (.t 84), []⟩ <|
            .op ⟨none, .store 1 (.t 85) (.t 83), []⟩ <|
            .nil)) (.skip))) (
        .seq (.seq (.ops (
          .op ⟨(some 86), .mov (.t 0), []⟩ <|
          .op ⟨(some 87), .nilc (.t 86), []⟩ <|
          .op ⟨(some 88), .fieldA 9 (.t 87), []⟩ <|
          .op ⟨(some 89), .load1 (.t 88), []⟩ <|
          .op ⟨(some 90), .nilc (.t 89), []⟩ <|
          .op ⟨(some 91), .fieldA 1 (.t 90), []⟩ <|
          .op ⟨(some 92), .load1 (.t 91), []⟩ <|
          .nil)) (
        .cond (.t 92) (.ops (
            .op ⟨(some 93), .mov (.t 0), []⟩ <|
            .op ⟨(some 94), .nilc (.t 93), []⟩ <|
            .op ⟨(some 95), .fieldA 1 (.t 94), []⟩ <|
            .op ⟨(some 96), .load1 (.t 95), []⟩ <|
            .op ⟨(some 97), .arith .add .i64 (.t 96) (.c (.int .i64 1)), []⟩ <|
            .op ⟨(some 98), .nilc (.t 93), []⟩ <|
            .op ⟨(some 99), .fieldA 1 (.t 98), []⟩ <|
            .op ⟨none, .store 1 (.t 99) (.t 97), []⟩ <|
            .nil)) (.skip))) (
        .seq (.ops (
          .op ⟨(some 100), .mov (.t 0), []⟩ <|
          .op ⟨(some 101), .nilc (.t 100), []⟩ <|
          .op ⟨(some 102), .fieldA 9 (.t 101), []⟩ <|
          .op ⟨none, .store 1 (.t 102) (.c .nilp), []⟩ <|
          .nil)) (
        .ops (
          .op ⟨(some 103), .mov (.t 0), []⟩ <|
          .op ⟨(some 104), .nilc (.t 103), []⟩ <|
          .op ⟨(some 105), .fieldA 8 (.t 104), []⟩ <|
          .op ⟨(some 106), .load1 (.t 105), []⟩ <|
          .op ⟨(some 107), .arith .add .i64 (.t 106) (.c (.int .i64 1)), []⟩ <|
          .op ⟨(some 108), .nilc (.t 103), []⟩ <|
          .op ⟨(some 109), .fieldA 8 (.t 108), []⟩ <|
          .op ⟨none, .store 1 (.t 109) (.t 107), []⟩ <|
          .nil))))) (.skip))))) (
    .seq (.ops (
      .op ⟨(some 110), .mov (.t 0), []⟩ <|
      .op ⟨(some 111), .nilc (.t 110), []⟩ <|
      .op ⟨(some 112), .fieldA 8 (.t 111), []⟩ <|
      .op ⟨(some 113), .load1 (.t 112), []⟩ <|
      .op ⟨(some 114), .mov (.t 0), []⟩ <|
      .op ⟨(some 115), .nilc (.t 114), []⟩ <|
      .op ⟨(some 116), .fieldA 2 (.t 115), []⟩ <|
      .op ⟨(some 117), .fieldA 0 (.t 116), []⟩ <|
      .op ⟨(some 118), .load1 (.t 117), []⟩ <|
      .op ⟨(some 119), .cmp .eql .i64 (.t 113) (.t 118), []⟩ <|
      .op ⟨(some 4), .mov (.t 119), []⟩ <|
      .nil)) (
    .ret))))

def sweep_Reclaim_Step_hs : List (List Nat × List Nat) := []

end Wm.F
end

section
/- PRINTED by my tool (wip/wm/tool/Gen.lean): a function as one of my machine. -/
namespace Wm.F
open Wm
set_option maxRecDepth 100000

/-- 266: (*withy/mem.Mem).Load -/
def mem_Mem_Load : AFunc where
  closed := false
  nparams := 2
  ntmps := 26
  results := [.tmp 4]
  body := .seq (.ops (
      .op ⟨(some 4), .mov (.c (.int .u64 0)), []⟩ <|
      .nil)) (
    .seq (.seq (.ops (
      .op ⟨(some 5), .mov (.t 0), []⟩ <|
      .op ⟨(some 6), .mov (.t 1), []⟩ <|
      .op ⟨(some 7), .call 346 [(.t 5), (.t 6)], []⟩ <|
      .op ⟨(some 8), .not (.t 7), []⟩ <|
      .nil)) (
    .cond (.t 8) (.seq (.ops (
        .op ⟨(some 4), .mov (.c (.int .u64 0)), []⟩ <|
        .nil)) (
      .ret)) (.skip))) (
    .seq (.ops (
      .op ⟨(some 9), .mov (.t 0), []⟩ <|
      .op ⟨(some 10), .mov (.t 1), []⟩ <|
      .op ⟨(some 11), .mov (.t 0), []⟩ <|
      .op ⟨(some 12), .nilc (.t 11), []⟩ <|
      .op ⟨(some 13), .fieldA 0 (.t 12), []⟩ <|
      .op ⟨(some 14), .load1 (.t 13), []⟩ <|
      .op ⟨(some 15), .mov (.t 1), []⟩ <|
      .op ⟨(some 16), .indexA 1 (.t 14) (.t 15), []⟩ <|
      .op ⟨(some 17), .load1 (.t 16), []⟩ <|
      .op ⟨(some 18), .call 347 [(.t 9), (.c (.int .i64 1)), (.t 10), (.t 17)], []⟩ <|
      .nil)) (
    .seq (.ops (
      .op ⟨(some 19), .mov (.t 0), []⟩ <|
      .op ⟨(some 20), .nilc (.t 19), []⟩ <|
      .op ⟨(some 21), .fieldA 0 (.t 20), []⟩ <|
      .op ⟨(some 22), .load1 (.t 21), []⟩ <|
      .op ⟨(some 23), .mov (.t 1), []⟩ <|
      .op ⟨(some 24), .indexA 1 (.t 22) (.t 23), []⟩ <|
      .op ⟨(some 25), .load1 (.t 24), []⟩ <|
      .op ⟨(some 4), .mov (.t 25), []⟩ <|
      .nil)) (
    .ret))))

def mem_Mem_Load_hs : List (List Nat × List Nat) := []

end Wm.F
end

section
/- PRINTED by my tool (wip/wm/tool/Gen.lean): a function as one of my machine. -/
namespace Wm.F
open Wm
set_option maxRecDepth 100000

/-- 269: (*withy/mem.Mem).Swap -/
def mem_Mem_Swap : AFunc where
  closed := false
  nparams := 4
  ntmps := 32
  results := [.tmp 8]
  body := .seq (.ops (
      .op ⟨(some 8), .mov (.c (.bool false)), []⟩ <|
      .nil)) (
    .seq (.seq (.ops (
      .op ⟨(some 10), .mov (.t 0), []⟩ <|
      .op ⟨(some 11), .mov (.t 1), []⟩ <|
      .op ⟨(some 12), .call 346 [(.t 10), (.t 11)], []⟩ <|
      .op ⟨(some 13), .not (.t 12), []⟩ <|
      .nil)) (
    .cond (.t 13) (.seq (.ops (
        .op ⟨(some 8), .mov (.c (.bool false)), []⟩ <|
        .nil)) (
      .ret)) (.skip))) (
    .seq (.ops (
      .op ⟨(some 14), .mov (.t 0), []⟩ <|
      .op ⟨(some 15), .nilc (.t 14), []⟩ <|
      .op ⟨(some 16), .fieldA 0 (.t 15), []⟩ <|
      .op ⟨(some 17), .load1 (.t 16), []⟩ <|
      .op ⟨(some 18), .mov (.t 1), []⟩ <|
      .op ⟨(some 19), .indexA 1 (.t 17) (.t 18), []⟩ <|
      .op ⟨(some 20), .load1 (.t 19), []⟩ <|
      .op ⟨(some 9), .mov (.t 20), []⟩ <|
      .nil)) (
    .seq (.seq (.ops (
      .op ⟨(some 21), .mov (.t 9), []⟩ <|
      .op ⟨(some 22), .mov (.t 2), []⟩ <|
      .op ⟨(some 23), .cmp .neq .u64 (.t 21) (.t 22), []⟩ <|
      .nil)) (
    .cond (.t 23) (.ops (
        .op ⟨(some 24), .mov (.t 9), []⟩ <|
        .op ⟨(some 3), .mov (.t 24), []⟩ <|
        .nil)) (.skip))) (
    .seq (.ops (
      .op ⟨(some 25), .mov (.t 0), []⟩ <|
      .op ⟨(some 26), .mov (.t 1), []⟩ <|
      .op ⟨(some 27), .mov (.t 3), []⟩ <|
      .op ⟨(some 28), .call 347 [(.t 25), (.c (.int .i64 3)), (.t 26), (.t 27)], []⟩ <|
      .nil)) (
    .seq (.ops (
      .op ⟨(some 29), .mov (.t 9), []⟩ <|
      .op ⟨(some 30), .mov (.t 2), []⟩ <|
      .op ⟨(some 31), .cmp .eql .u64 (.t 29) (.t 30), []⟩ <|
      .op ⟨(some 8), .mov (.t 31), []⟩ <|
      .nil)) (
    .ret))))))

def mem_Mem_Swap_hs : List (List Nat × List Nat) := []

end Wm.F
end

section
/- PRINTED by my tool (wip/wm/tool/Gen.lean): a function as one of my machine. -/
namespace Wm.F
open Wm
set_option maxRecDepth 100000

/-- 416: withy/plan.Pin -/
def plan_Pin : AFunc where
  closed := true
  nparams := 2
  ntmps := 8
  results := [.tmp 4]
  body := .seq (.ops (
      .op ⟨(some 2), .box (.t 0), []⟩ <|
      .op ⟨(some 4), .mov (.c (.int .i64 0)), []⟩ <|
      .nil)) (
    .seq (.ops (
      .op ⟨(some 5), .loadN 6 (.t 2), []⟩ <|
      .op ⟨(some 6), .mov (.t 1), []⟩ <|
      .op ⟨(some 7), .call 397 [(.t 5), (.t 6), (.c (.int .i64 0)), (.c (.int .i64 1)), (.c (.int .i64 0))], []⟩ <|
      .op ⟨(some 4), .mov (.t 7), []⟩ <|
      .nil)) (
    .ret))

def plan_Pin_hs : List (List Nat × List Nat) := []

end Wm.F
end

section
/- PRINTED by my tool (wip/wm/tool/Gen.lean): a function as one of my machine. -/
namespace Wm.F
open Wm
set_option maxRecDepth 100000

/-- 417: withy/epoch.pinned -/
def epoch_pinned : AFunc where
  closed := true
  nparams := 1
  ntmps := 6
  results := [.tmp 2]
  body := .seq (.ops (
      .op ⟨(some 2), .mov (.c (.int .u64 0)), []⟩ <|
      .nil)) (
    .seq (.ops (
      .op ⟨(some 3), .mov (.t 0), []⟩ <|
      .op ⟨(some 4), .arith .mul .u64 (.c (.int .u64 2)) (.t 3), []⟩ <|
      .op ⟨(some 5), .arith .add .u64 (.t 4) (.c (.int .u64 1)), []⟩ <|
      .op ⟨(some 2), .mov (.t 5), []⟩ <|
      .nil)) (
    .ret))

def epoch_pinned_hs : List (List Nat × List Nat) := []

end Wm.F
end

section
/- PRINTED by my tool (wip/wm/tool/Gen.lean): a function as one of my machine. -/
namespace Wm.F
open Wm
set_option maxRecDepth 100000

/-- 271: slices.Clone[[]uint64,uint64] -/
def slices_Clone___uint64_uint64_ : AFunc where
  closed := false
  nparams := 1
  ntmps := 8
  results := [.tmp 2]
  body := .seq (.ops (
      .op ⟨(some 2), .mov (.c .nilsl), []⟩ <|
      .nil)) (
    .seq (.seq (.ops (
      .op ⟨(some 3), .mov (.t 0), []⟩ <|
      .op ⟨(some 4), .eq false .sl (.t 3) (.c .nilsl), []⟩ <|
      .nil)) (
    .cond (.t 4) (.seq (.ops (
        .op ⟨(some 2), .mov (.c .nilsl), []⟩ <|
        .nil)) (
      .ret)) (.skip))) (
    .seq (.ops (
      .op ⟨(some 5), .buildSl 1 0 [(.int .u64 0)] [], []⟩ <|
      .op ⟨(some 6), .mov (.t 0), []⟩ <|
      .op ⟨(some 7), .append 1 8 (.t 5) (.t 6), []⟩ <|
      .op ⟨(some 2), .mov (.t 7), []⟩ <|
      .nil)) (
    .ret)))

def slices_Clone___uint64_uint64__hs : List (List Nat × List Nat) := []

end Wm.F
end

section
/- PRINTED by my tool (wip/wm/tool/Gen.lean): a function as one of my machine. -/
namespace Wm.F
open Wm
set_option maxRecDepth 100000

/-- 377: withy/plan.slots -/
def plan_slots : AFunc where
  closed := true
  nparams := 1
  ntmps := 11
  results := [.tmp 2]
  body := .seq (.ops (
      .op ⟨(some 1), .box (.t 0), []⟩ <|
      .op ⟨(some 2), .mov (.c (.int .i64 0)), []⟩ <|
      .nil)) (
    .seq (.ops (
      .op ⟨(some 3), .fieldA 2 (.t 1), []⟩ <|
      .op ⟨(some 4), .load1 (.t 3), []⟩ <|
      .op ⟨(some 5), .fieldA 3 (.t 1), []⟩ <|
      .op ⟨(some 6), .load1 (.t 5), []⟩ <|
      .op ⟨(some 7), .arith .add .i64 (.c (.int .i64 1)) (.t 6), []⟩ <|
      .op ⟨(some 8), .arith .add .i64 (.t 7) (.c (.int .i64 2)), []⟩ <|
      .op ⟨(some 9), .arith .mul .i64 (.t 4) (.t 8), []⟩ <|
      .op ⟨(some 10), .arith .add .i64 (.c (.int .i64 4)) (.t 9), []⟩ <|
      .op ⟨(some 2), .mov (.t 10), []⟩ <|
      .nil)) (
    .ret))

def plan_slots_hs : List (List Nat × List Nat) := []

end Wm.F
end

section
/- PRINTED by my tool (wip/wm/tool/Gen.lean): a function as one of my machine. -/
namespace Wm.F
open Wm
set_option maxRecDepth 100000

/-- 378: withy/plan.room -/
def plan_room : AFunc where
  closed := true
  nparams := 1
  ntmps := 7
  results := [.tmp 2]
  body := .seq (.ops (
      .op ⟨(some 1), .box (.t 0), []⟩ <|
      .op ⟨(some 2), .mov (.c (.int .i64 0)), []⟩ <|
      .nil)) (
    .seq (.ops (
      .op ⟨(some 3), .fieldA 1 (.t 1), []⟩ <|
      .op ⟨(some 4), .load1 (.t 3), []⟩ <|
      .op ⟨(some 5), .minmax true .i64 (.t 4) (.c (.int .i64 3)), []⟩ <|
      .op ⟨(some 6), .arith .add .i64 (.c (.int .i64 2)) (.t 5), []⟩ <|
      .op ⟨(some 2), .mov (.t 6), []⟩ <|
      .nil)) (
    .ret))

def plan_room_hs : List (List Nat × List Nat) := []

end Wm.F
end

section
/- PRINTED by my tool (wip/wm/tool/Gen.lean): a function as one of my machine. -/
namespace Wm.F
open Wm
set_option maxRecDepth 100000

/-- 375: withy/plan.within -/
def plan_within : AFunc where
  closed := true
  nparams := 3
  ntmps := 35
  results := [.tmp 6]
  body := .seq (.ops (
      .op ⟨(some 3), .box (.t 0), []⟩ <|
      .op ⟨(some 6), .mov (.c (.int .i64 0)), []⟩ <|
      .nil)) (
    .seq (.seq (.ops (
      .op ⟨(some 7), .loadN 6 (.t 3), []⟩ <|
      .op ⟨(some 8), .call 263 [(.t 7)], []⟩ <|
      .op ⟨(some 9), .not (.t 8), []⟩ <|
      .op ⟨(some 10), .mov (.t 9), []⟩ <|
      .grd 10 false [⟨(some 11), .mov (.t 1), []⟩,
          ⟨(some 12), .fieldA 0 (.t 3), []⟩,
          ⟨(some 13), .load1 (.t 12), []⟩,
          ⟨(some 14), .arith .sub .i64 (.t 13) (.c (.int .i64 1)), []⟩,
          ⟨(some 15), .call 376 [(.t 11), (.c (.int .i64 0)), (.t 14)], []⟩,
          ⟨(some 16), .not (.t 15), []⟩] <|
      .op ⟨(some 17), .pick (.t 10) (.c (.bool true)) (.t 16), []⟩ <|
      .op ⟨(some 18), .mov (.t 17), []⟩ <|
      .grd 18 false [⟨(some 19), .mov (.t 2), []⟩,
          ⟨(some 20), .loadN 6 (.t 3), []⟩,
          ⟨(some 21), .call 378 [(.t 20)], []⟩,
          ⟨(some 22), .arith .sub .i64 (.t 21) (.c (.int .i64 1)), []⟩,
          ⟨(some 23), .call 376 [(.t 19), (.c (.int .i64 0)), (.t 22)], []⟩,
          ⟨(some 24), .not (.t 23), []⟩] <|
      .op ⟨(some 25), .pick (.t 18) (.c (.bool true)) (.t 24), []⟩ <|
      .nil)) (
    .cond (.t 25) (.seq (.ops (
        .op ⟨(some 6), .mov (.c (.int .i64 (-1))), []⟩ <|
        .nil)) (
      .ret)) (.skip))) (
    .seq (.ops (
      .op ⟨(some 26), .loadN 6 (.t 3), []⟩ <|
      .op ⟨(some 28), .mov (.t 1), []⟩ <|
      .op ⟨(some 29), .loadN 6 (.t 3), []⟩ <|
      .op ⟨(some 33), .mov (.t 2), []⟩ <|
      .op ⟨(some 27), .call 377 [(.t 26)], [{ g := none, op := .loadN 6 (.t 3), d := 29 }]⟩ <|
      .op ⟨(some 30), .call 378 [(.t 29)], []⟩ <|
      .op ⟨(some 31), .arith .mul .i64 (.t 28) (.t 30), []⟩ <|
      .op ⟨(some 32), .arith .add .i64 (.t 27) (.t 31), []⟩ <|
      .op ⟨(some 34), .arith .add .i64 (.t 32) (.t 33), []⟩ <|
      .op ⟨(some 6), .mov (.t 34), []⟩ <|
      .nil)) (
    .ret)))

def plan_within_hs : List (List Nat × List Nat) := []

end Wm.F
end

section
/- PRINTED by my tool (wip/wm/tool/Gen.lean): a function as one of my machine. -/
namespace Wm.F
open Wm
set_option maxRecDepth 100000

/-- 414: withy/tag.tagged -/
def tag_tagged : AFunc where
  closed := true
  nparams := 3
  ntmps := 24
  results := [.tmp 6, .tmp 7]
  body := .seq (.ops (
      .op ⟨(some 6), .mov (.c (.int .u64 0)), []⟩ <|
      .op ⟨(some 7), .mov (.c (.bool false)), []⟩ <|
      .nil)) (
    .seq (.seq (.ops (
      .op ⟨(some 8), .mov (.t 1), []⟩ <|
      .op ⟨(some 9), .call 462 [(.t 8)], []⟩ <|
      .op ⟨(some 10), .not (.t 9), []⟩ <|
      .nil)) (
    .cond (.t 10) (.seq (.ops (
        .op ⟨(some 6), .mov (.c (.int .u64 0)), []⟩ <|
        .op ⟨(some 7), .mov (.c (.bool false)), []⟩ <|
        .nil)) (
      .ret)) (.skip))) (
    .seq (.ops (
      .op ⟨(some 11), .mov (.t 2), []⟩ <|
      .op ⟨(some 12), .mov (.t 1), []⟩ <|
      .op ⟨(some 13), .arith .add .i64 (.t 12) (.c (.int .i64 1)), []⟩ <|
      .op ⟨(some 14), .conv .u64 (.t 13), []⟩ <|
      .op ⟨(some 15), .build [(.int .i64 0), (.int .u64 0)] [(0, 1, (.t 11)), (1, 1, (.t 14))], []⟩ <|
      .op ⟨(some 16), .mov (.t 2), []⟩ <|
      .op ⟨(some 17), .arith .sub .i64 (.c (.int .i64 64)) (.t 16), []⟩ <|
      .op ⟨(some 18), .mov (.t 0), []⟩ <|
      .op ⟨(some 19), .build [(.int .i64 0), (.int .u64 0)] [(0, 1, (.t 17)), (1, 1, (.t 18))], []⟩ <|
      .op ⟨(some 20), .buildSl 2 2 [(.int .i64 0), (.int .u64 0)] [(0, 2, (.t 15)), (2, 2, (.t 19))], []⟩ <|
      .op ⟨(some 21), .call 443 [(.t 20)], []⟩ <|
      .op ⟨(some 22), .extract (.t 21) 0, []⟩ <|
      .op ⟨(some 23), .extract (.t 21) 1, []⟩ <|
      .op ⟨(some 6), .mov (.t 22), []⟩ <|
      .op ⟨(some 7), .mov (.t 23), []⟩ <|
      .nil)) (
    .ret)))

def tag_tagged_hs : List (List Nat × List Nat) := []

end Wm.F
end

section
/- PRINTED by my tool (wip/wm/tool/Gen.lean): a function as one of my machine. -/
namespace Wm.F
open Wm
set_option maxRecDepth 100000

/-- 91: (*withy/shade.Shade).Step -/
def shade_Shade_Step : AFunc where
  closed := false
  nparams := 2
  ntmps := 99
  results := [.tmp 4]
  body := .seq (.ops (
      .op ⟨(some 4), .mov (.c (.bool false)), []⟩ <|
      .nil)) (
    .seq (.seq (.ops (
      .op ⟨(some 9), .mov (.t 0), []⟩ <|
      .op ⟨(some 10), .eq false .ptr (.t 9) (.c .nilp), []⟩ <|
      .nil)) (
    .cond (.t 10) (.seq (.ops (
        .op ⟨(some 4), .mov (.c (.bool true)), []⟩ <|
        .nil)) (
      .ret)) (.skip))) (
    .seq (.seq (.ops (
      .op ⟨(some 11), .mov (.t 0), []⟩ <|
      .op ⟨(some 12), .nilc (.t 11), []⟩ <|
      .op ⟨(some 13), .fieldA 3 (.t 12), []⟩ <|
      .op ⟨(some 14), .load1 (.t 13), []⟩ <|
      .nil)) (
    .block 0 (.seq (.ops (
      .op ⟨(some 16), .cmp .eql .i64 (.t 14) (.c (.int .i64 0)), []⟩ <|
      .op ⟨(some 15), .mov (.t 16), []⟩ <|
      .nil)) (
    .cond (.t 15) (.seq (.ops (
        .op ⟨(some 17), .mov (.t 0), []⟩ <|
        .op ⟨(some 18), .mov (.t 1), []⟩ <|
        .op ⟨(some 19), .mov (.t 0), []⟩ <|
        .op ⟨(some 20), .nilc (.t 19), []⟩ <|
        .op ⟨(some 21), .fieldA 1 (.t 20), []⟩ <|
        .op ⟨(some 22), .load1 (.t 21), []⟩ <|
        .op ⟨(some 23), .call 266 [(.t 18), (.t 22)], []⟩ <|
        .op ⟨(some 24), .nilc (.t 17), []⟩ <|
        .op ⟨(some 25), .fieldA 4 (.t 24), []⟩ <|
        .op ⟨none, .store 1 (.t 25) (.t 23), []⟩ <|
        .nil)) (
      .seq (.ops (
        .op ⟨(some 26), .mov (.t 0), []⟩ <|
        .op ⟨(some 27), .nilc (.t 26), []⟩ <|
        .op ⟨(some 28), .fieldA 3 (.t 27), []⟩ <|
        .op ⟨none, .store 1 (.t 28) (.c (.int .i64 1)), []⟩ <|
        .nil)) (
      .seq (.ops (
        .op ⟨(some 30), .mov (.t 0), []⟩ <|
        .op ⟨(some 31), .nilc (.t 30), []⟩ <|
        .op ⟨(some 32), .fieldA 4 (.t 31), []⟩ <|
        .op ⟨(some 33), .load1 (.t 32), []⟩ <|
        .op ⟨(some 34), .mov (.t 0), []⟩ <|
        .op ⟨(some 35), .nilc (.t 34), []⟩ <|
        .op ⟨(some 36), .fieldA 2 (.t 35), []⟩ <|
        .op ⟨(some 37), .load1 (.t 36), []⟩ <|
        .op ⟨(some 38), .call 267 [(.t 33), (.t 37)], []⟩ <|
        .op ⟨(some 29), .mov (.t 38), []⟩ <|
        .op ⟨(some 39), .extract (.t 29) 0, []⟩ <|
        .op ⟨(some 40), .extract (.t 29) 1, []⟩ <|
        .op ⟨(some 5), .mov (.t 39), []⟩ <|
        .op ⟨(some 6), .mov (.t 40), []⟩ <|
        .nil)) (
      .seq (.ops (
        .op ⟨(some 41), .mov (.t 6), []⟩ <|
        .op ⟨(some 42), .not (.t 41), []⟩ <|
        .nil)) (
      .cond (.t 42) (.ops (
          .op ⟨(some 43), .mov (.t 0), []⟩ <|
          .op ⟨(some 44), .nilc (.t 43), []⟩ <|
          .op ⟨(some 45), .fieldA 3 (.t 44), []⟩ <|
          .op ⟨none, .store 1 (.t 45) (.c (.int .i64 4)), []⟩ <|
          .nil)) (.skip)))))) (.seq (.ops (
        .op ⟨(some 47), .cmp .eql .i64 (.t 14) (.c (.int .i64 1)), []⟩ <|
        .op ⟨(some 46), .mov (.t 47), []⟩ <|
        .nil)) (
      .cond (.t 46) (.seq (.ops (
          .op ⟨(some 48), .mov (.t 1), []⟩ <|
          .op ⟨(some 49), .call 268 [(.t 48), (.c (.int .i64 2)), (.c (.int .u64 1))], []⟩ <|
          .nil)) (
        .ops (
          .op ⟨(some 50), .mov (.t 0), []⟩ <|
          .op ⟨(some 51), .nilc (.t 50), []⟩ <|
          .op ⟨(some 52), .fieldA 3 (.t 51), []⟩ <|
          .op ⟨none, .store 1 (.t 52) (.c (.int .i64 2)), []⟩ <|
          .nil))) (.seq (.ops (
          .op ⟨(some 54), .cmp .eql .i64 (.t 14) (.c (.int .i64 2)), []⟩ <|
          .op ⟨(some 53), .mov (.t 54), []⟩ <|
          .nil)) (
        .cond (.t 53) (.seq (.ops (
            .op ⟨(some 56), .mov (.t 0), []⟩ <|
            .op ⟨(some 57), .nilc (.t 56), []⟩ <|
            .op ⟨(some 58), .fieldA 4 (.t 57), []⟩ <|
            .op ⟨(some 59), .load1 (.t 58), []⟩ <|
            .op ⟨(some 60), .mov (.t 0), []⟩ <|
            .op ⟨(some 61), .nilc (.t 60), []⟩ <|
            .op ⟨(some 62), .fieldA 2 (.t 61), []⟩ <|
            .op ⟨(some 63), .load1 (.t 62), []⟩ <|
            .op ⟨(some 64), .call 267 [(.t 59), (.t 63)], []⟩ <|
            .op ⟨(some 55), .mov (.t 64), []⟩ <|
            .op ⟨(some 65), .extract (.t 55) 0, []⟩ <|
            .op ⟨(some 66), .extract (.t 55) 1, []⟩ <|
            .op ⟨(some 7), .mov (.t 65), []⟩ <|
            .op ⟨(some 8), .mov (.t 66), []⟩ <|
            .nil)) (
          .seq (.ops (
            .op ⟨(some 67), .mov (.t 0), []⟩ <|
            .op ⟨(some 68), .nilc (.t 67), []⟩ <|
            .op ⟨(some 69), .fieldA 3 (.t 68), []⟩ <|
            .op ⟨none, .store 1 (.t 69) (.c (.int .i64 3)), []⟩ <|
            .nil)) (
          .seq (.ops (
            .op ⟨(some 70), .mov (.t 1), []⟩ <|
            .op ⟨(some 71), .mov (.t 0), []⟩ <|
            .op ⟨(some 72), .nilc (.t 71), []⟩ <|
            .op ⟨(some 73), .fieldA 1 (.t 72), []⟩ <|
            .op ⟨(some 74), .load1 (.t 73), []⟩ <|
            .op ⟨(some 75), .mov (.t 0), []⟩ <|
            .op ⟨(some 76), .nilc (.t 75), []⟩ <|
            .op ⟨(some 77), .fieldA 4 (.t 76), []⟩ <|
            .op ⟨(some 78), .load1 (.t 77), []⟩ <|
            .op ⟨(some 79), .mov (.t 7), []⟩ <|
            .op ⟨(some 80), .call 269 [(.t 70), (.t 74), (.t 78), (.t 79)], []⟩ <|
            .nil)) (
          .cond (.t 80) (.ops (
              .op ⟨(some 81), .mov (.t 0), []⟩ <|
              .op ⟨(some 82), .mov (.t 0), []⟩ <|
              .op ⟨(some 83), .nilc (.t 81), []⟩ <|
              .op ⟨(some 84), .fieldA 0 (.t 83), []⟩ <|
              .op ⟨none, .store 1 (.t 84) (.c (.bool true)), []⟩ <|
              .op ⟨(some 85), .nilc (.t 82), []⟩ <|
              .op ⟨(some 86), .fieldA 3 (.t 85), []⟩ <|
              .op ⟨none, .store 1 (.t 86) (.c (.int .i64 4)), []⟩ <|
              .nil)) (.skip))))) (.seq (.ops (
            .op ⟨(some 88), .cmp .eql .i64 (.t 14) (.c (.int .i64 3)), []⟩ <|
            .op ⟨(some 87), .mov (.t 88), []⟩ <|
            .nil)) (
          .cond (.t 87) (.seq (.ops (
              .op ⟨(some 89), .mov (.t 1), []⟩ <|
              .op ⟨(some 90), .call 268 [(.t 89), (.c (.int .i64 2)), (.c (.int .u64 18446744073709551615))], []⟩ <|
              .nil)) (
            .ops (
              .op ⟨(some 91), .mov (.t 0), []⟩ <|
              .op ⟨(some 92), .nilc (.t 91), []⟩ <|
              .op ⟨(some 93), .fieldA 3 (.t 92), []⟩ <|
              .op ⟨none, .store 1 (.t 93) (.c (.int .i64 0)), []⟩ <|
              .nil))) (.skip))))))))))) (
    .seq (.ops (
      .op ⟨(some 94), .mov (.t 0), []⟩ <|
      .op ⟨(some 95), .nilc (.t 94), []⟩ <|
      .op ⟨(some 96), .fieldA 3 (.t 95), []⟩ <|
      .op ⟨(some 97), .load1 (.t 96), []⟩ <|
      .op ⟨(some 98), .cmp .eql .i64 (.t 97) (.c (.int .i64 4)), []⟩ <|
      .op ⟨(some 4), .mov (.t 98), []⟩ <|
      .nil)) (
    .ret))))

def shade_Shade_Step_hs : List (List Nat × List Nat) := []

end Wm.F
end

section
/- PRINTED by my tool (wip/wm/tool/Gen.lean): a function as one of my machine. -/
namespace Wm.F
open Wm
set_option maxRecDepth 100000

/-- 325: (*withy/mark.Mark).roots -/
def mark_Mark_roots : AFunc where
  closed := false
  nparams := 2
  ntmps := 120
  results := []
  body := .seq (.ops (
      .op ⟨(some 8), .mov (.t 0), []⟩ <|
      .op ⟨(some 9), .nilc (.t 8), []⟩ <|
      .op ⟨(some 10), .fieldA 9 (.t 9), []⟩ <|
      .op ⟨(some 11), .load1 (.t 10), []⟩ <|
      .nil)) (
    .block 0 (.seq (.ops (
      .op ⟨(some 13), .cmp .eql .i64 (.t 11) (.c (.int .i64 0)), []⟩ <|
      .op ⟨(some 12), .mov (.t 13), []⟩ <|
      .nil)) (
    .cond (.t 12) (.ops (
        .op ⟨(some 14), .mov (.t 0), []⟩ <|
        .op ⟨(some 15), .mov (.t 0), []⟩ <|
        .op ⟨(some 16), .mov (.t 1), []⟩ <|
        .op ⟨(some 17), .call 266 [(.t 16), (.c (.int .i64 0))], []⟩ <|
        .op ⟨(some 18), .nilc (.t 14), []⟩ <|
        .op ⟨(some 19), .fieldA 10 (.t 18), []⟩ <|
        .op ⟨none, .store 1 (.t 19) (.t 17), []⟩ <|
        .op ⟨(some 20), .nilc (.t 15), []⟩ <|
        .op ⟨(some 21), .fieldA 9 (.t 20), []⟩ <|
        .op ⟨none, .store 1 (.t 21) (.c (.int .i64 1)), []⟩ <|
        .nil)) (.seq (.ops (
        .op ⟨(some 23), .cmp .eql .i64 (.t 11) (.c (.int .i64 1)), []⟩ <|
        .op ⟨(some 22), .mov (.t 23), []⟩ <|
        .nil)) (
      .cond (.t 22) (.seq (.seq (.ops (
          .op ⟨(some 24), .mov (.t 1), []⟩ <|
          .op ⟨(some 25), .mov (.t 0), []⟩ <|
          .op ⟨(some 26), .nilc (.t 25), []⟩ <|
          .op ⟨(some 27), .fieldA 2 (.t 26), []⟩ <|
          .op ⟨(some 28), .loadN 6 (.t 27), []⟩ <|
          .op ⟨(some 29), .mov (.t 0), []⟩ <|
          .op ⟨(some 30), .nilc (.t 29), []⟩ <|
          .op ⟨(some 31), .fieldA 11 (.t 30), []⟩ <|
          .op ⟨(some 32), .load1 (.t 31), []⟩ <|
          .op ⟨(some 33), .call 393 [(.t 28), (.t 32)], []⟩ <|
          .op ⟨(some 34), .call 266 [(.t 24), (.t 33)], []⟩ <|
          .op ⟨(some 4), .mov (.t 34), []⟩ <|
          .nil)) (
        .seq (.ops (
          .op ⟨(some 35), .mov (.t 4), []⟩ <|
          .op ⟨(some 36), .cmp .eql .u64 (.t 35) (.c (.int .u64 1)), []⟩ <|
          .nil)) (
        .cond (.t 36) (.ops (
            .op ⟨(some 37), .mov (.t 0), []⟩ <|
            .op ⟨(some 38), .nilc (.t 37), []⟩ <|
            .op ⟨(some 39), .fieldA 10 (.t 38), []⟩ <|
            .op ⟨none, .store 1 (.t 39) (.c (.int .u64 0)), []⟩ <|
            .nil)) (.seq (.ops (
            .op ⟨(some 40), .mov (.t 4), []⟩ <|
            .op ⟨(some 41), .cmp .gtr .u64 (.t 40) (.c (.int .u64 1)), []⟩ <|
            .nil)) (
          .cond (.t 41) (.ops (
              .op ⟨(some 42), .mov (.t 0), []⟩ <|
              .op ⟨(some 43), .mov (.t 0), []⟩ <|
              .op ⟨(some 44), .nilc (.t 43), []⟩ <|
              .op ⟨(some 45), .fieldA 10 (.t 44), []⟩ <|
              .op ⟨(some 46), .load1 (.t 45), []⟩ <|
              .op ⟨(some 47), .mov (.t 4), []⟩ <|
              .op ⟨(some 48), .arith .sub .u64 (.t 47) (.c (.int .u64 2)), []⟩ <|
              .op ⟨(some 49), .minmax false .u64 (.t 46) (.t 48), []⟩ <|
              .op ⟨(some 50), .nilc (.t 42), []⟩ <|
              .op ⟨(some 51), .fieldA 10 (.t 50), []⟩ <|
              .op ⟨none, .store 1 (.t 51) (.t 49), []⟩ <|
              .nil)) (.skip)))))) (
        .ops (
          .op ⟨(some 52), .mov (.t 0), []⟩ <|
          .op ⟨(some 53), .call 399 [(.t 52), (.c (.int .i64 2))], []⟩ <|
          .nil))) (.seq (.ops (
          .op ⟨(some 55), .cmp .eql .i64 (.t 11) (.c (.int .i64 2)), []⟩ <|
          .op ⟨(some 54), .mov (.t 55), []⟩ <|
          .nil)) (
        .cond (.t 54) (.seq (.ops (
            .op ⟨(some 57), .mov (.t 1), []⟩ <|
            .op ⟨(some 58), .mov (.t 0), []⟩ <|
            .op ⟨(some 59), .nilc (.t 58), []⟩ <|
            .op ⟨(some 60), .fieldA 2 (.t 59), []⟩ <|
            .op ⟨(some 61), .loadN 6 (.t 60), []⟩ <|
            .op ⟨(some 62), .mov (.t 0), []⟩ <|
            .op ⟨(some 63), .nilc (.t 62), []⟩ <|
            .op ⟨(some 64), .fieldA 11 (.t 63), []⟩ <|
            .op ⟨(some 65), .load1 (.t 64), []⟩ <|
            .op ⟨(some 66), .mov (.t 0), []⟩ <|
            .op ⟨(some 67), .nilc (.t 66), []⟩ <|
            .op ⟨(some 68), .fieldA 12 (.t 67), []⟩ <|
            .op ⟨(some 69), .load1 (.t 68), []⟩ <|
            .op ⟨(some 70), .call 319 [(.t 61), (.t 65), (.t 69)], []⟩ <|
            .op ⟨(some 71), .call 266 [(.t 57), (.t 70)], []⟩ <|
            .op ⟨(some 72), .call 318 [(.t 71)], []⟩ <|
            .op ⟨(some 56), .mov (.t 72), []⟩ <|
            .op ⟨(some 73), .extract (.t 56) 0, []⟩ <|
            .op ⟨(some 74), .extract (.t 56) 1, []⟩ <|
            .op ⟨(some 5), .mov (.t 73), []⟩ <|
            .op ⟨(some 6), .mov (.t 74), []⟩ <|
            .nil)) (
          .seq (.seq (.ops (
            .op ⟨(some 75), .mov (.t 0), []⟩ <|
            .op ⟨(some 76), .nilc (.t 75), []⟩ <|
            .op ⟨(some 77), .fieldA 12 (.t 76), []⟩ <|
            .op ⟨(some 78), .load1 (.t 77), []⟩ <|
            .op ⟨(some 79), .arith .add .i64 (.t 78) (.c (.int .i64 1)), []⟩ <|
            .op ⟨(some 80), .nilc (.t 75), []⟩ <|
            .op ⟨(some 81), .fieldA 12 (.t 80), []⟩ <|
            .op ⟨none, .store 1 (.t 81) (.t 79), []⟩ <|
            .nil)) (
          .seq (.ops (
            .op ⟨(some 82), .mov (.t 0), []⟩ <|
            .op ⟨(some 83), .nilc (.t 82), []⟩ <|
            .op ⟨(some 84), .fieldA 12 (.t 83), []⟩ <|
            .op ⟨(some 85), .load1 (.t 84), []⟩ <|
            .op ⟨(some 86), .mov (.t 0), []⟩ <|
            .op ⟨(some 87), .nilc (.t 86), []⟩ <|
            .op ⟨(some 88), .fieldA 2 (.t 87), []⟩ <|
            .op ⟨(some 89), .fieldA 3 (.t 88), []⟩ <|
            .op ⟨(some 90), .load1 (.t 89), []⟩ <|
            .op ⟨(some 91), .cmp .eql .i64 (.t 85) (.t 90), []⟩ <|
            .nil)) (
          .cond (.t 91) (.seq (.ops (
              .op ⟨(some 92), .mov (.t 0), []⟩ <|
              .op ⟨(some 93), .nilc (.t 92), []⟩ <|
              .op ⟨(some 94), .fieldA 12 (.t 93), []⟩ <|
              .op ⟨none, .store 1 (.t 94) (.c (.int .i64 0)), []⟩ <|
              .nil)) (
            .ops (
              .op ⟨(some 95), .mov (.t 0), []⟩ <|
              .op ⟨(some 96), .call 399 [(.t 95), (.c (.int .i64 3))], []⟩ <|
              .nil))) (.skip)))) (
          .ops (
            .op ⟨(some 97), .mov (.t 0), []⟩ <|
            .op ⟨(some 98), .mov (.t 6), []⟩ <|
            .op ⟨(some 99), .call 400 [(.t 97), (.t 98)], []⟩ <|
            .nil)))) (.seq (.ops (
            .op ⟨(some 101), .cmp .eql .i64 (.t 11) (.c (.int .i64 3)), []⟩ <|
            .op ⟨(some 100), .mov (.t 101), []⟩ <|
            .nil)) (
          .cond (.t 100) (.seq (.ops (
              .op ⟨(some 102), .mov (.t 0), []⟩ <|
              .op ⟨(some 103), .mov (.t 1), []⟩ <|
              .op ⟨(some 104), .mov (.t 0), []⟩ <|
              .op ⟨(some 105), .nilc (.t 104), []⟩ <|
              .op ⟨(some 106), .fieldA 2 (.t 105), []⟩ <|
              .op ⟨(some 107), .loadN 6 (.t 106), []⟩ <|
              .op ⟨(some 108), .mov (.t 0), []⟩ <|
              .op ⟨(some 109), .nilc (.t 108), []⟩ <|
              .op ⟨(some 110), .fieldA 11 (.t 109), []⟩ <|
              .op ⟨(some 111), .load1 (.t 110), []⟩ <|
              .op ⟨(some 112), .call 321 [(.t 107), (.t 111)], []⟩ <|
              .op ⟨(some 113), .call 266 [(.t 103), (.t 112)], []⟩ <|
              .op ⟨(some 114), .call 320 [(.t 102), (.t 113)], []⟩ <|
              .op ⟨(some 7), .mov (.t 114), []⟩ <|
              .nil)) (
            .seq (.ops (
              .op ⟨(some 115), .mov (.t 0), []⟩ <|
              .op ⟨(some 116), .call 399 [(.t 115), (.c (.int .i64 4))], []⟩ <|
              .nil)) (
            .ops (
              .op ⟨(some 117), .mov (.t 0), []⟩ <|
              .op ⟨(some 118), .mov (.t 7), []⟩ <|
              .op ⟨(some 119), .call 400 [(.t 117), (.t 118)], []⟩ <|
              .nil)))) (.skip))))))))))

def mark_Mark_roots_hs : List (List Nat × List Nat) := []

end Wm.F
end

section
/- PRINTED by my tool (wip/wm/tool/Gen.lean): a function as one of my machine. -/
namespace Wm.F
open Wm
set_option maxRecDepth 100000

/-- 326: (*withy/mark.Mark).pass -/
def mark_Mark_pass : AFunc where
  closed := false
  nparams := 2
  ntmps := 79
  results := []
  body := .seq (.ops (
      .op ⟨(some 5), .mov (.t 0), []⟩ <|
      .op ⟨(some 6), .nilc (.t 5), []⟩ <|
      .op ⟨(some 7), .fieldA 9 (.t 6), []⟩ <|
      .op ⟨(some 8), .load1 (.t 7), []⟩ <|
      .nil)) (
    .block 0 (.seq (.ops (
      .op ⟨(some 10), .cmp .eql .i64 (.t 8) (.c (.int .i64 4)), []⟩ <|
      .op ⟨(some 9), .mov (.t 10), []⟩ <|
      .nil)) (
    .cond (.t 9) (.seq (.ops (
        .op ⟨(some 11), .mov (.t 0), []⟩ <|
        .op ⟨(some 12), .nilc (.t 11), []⟩ <|
        .op ⟨(some 13), .fieldA 13 (.t 12), []⟩ <|
        .op ⟨(some 14), .load1 (.t 13), []⟩ <|
        .op ⟨(some 15), .arith .add .i64 (.t 14) (.c (.int .i64 1)), []⟩ <|
        .op ⟨(some 16), .nilc (.t 11), []⟩ <|
        .op ⟨(some 17), .fieldA 13 (.t 16), []⟩ <|
        .op ⟨none, .store 1 (.t 17) (.t 15), []⟩ <|
        .nil)) (
      .ops (
        .op ⟨(some 18), .mov (.t 0), []⟩ <|
        .op ⟨(some 19), .mov (.t 1), []⟩ <|
        .op ⟨(some 20), .mov (.t 0), []⟩ <|
        .op ⟨(some 21), .nilc (.t 20), []⟩ <|
        .op ⟨(some 22), .fieldA 13 (.t 21), []⟩ <|
        .op ⟨(some 23), .load1 (.t 22), []⟩ <|
        .op ⟨(some 24), .arith .sub .i64 (.t 23) (.c (.int .i64 1)), []⟩ <|
        .op ⟨(some 25), .call 401 [(.t 18), (.t 19), (.t 24)], []⟩ <|
        .nil))) (.seq (.ops (
        .op ⟨(some 27), .cmp .eql .i64 (.t 8) (.c (.int .i64 5)), []⟩ <|
        .op ⟨(some 26), .mov (.t 27), []⟩ <|
        .nil)) (
      .cond (.t 26) (.seq (.ops (
          .op ⟨(some 28), .mov (.t 0), []⟩ <|
          .op ⟨(some 29), .nilc (.t 28), []⟩ <|
          .op ⟨(some 30), .fieldA 18 (.t 29), []⟩ <|
          .op ⟨(some 31), .load1 (.t 30), []⟩ <|
          .op ⟨(some 32), .mov (.t 0), []⟩ <|
          .op ⟨(some 33), .nilc (.t 32), []⟩ <|
          .op ⟨(some 34), .fieldA 18 (.t 33), []⟩ <|
          .op ⟨(some 35), .load1 (.t 34), []⟩ <|
          .op ⟨(some 36), .lenSl (.t 35), []⟩ <|
          .op ⟨(some 37), .arith .sub .i64 (.t 36) (.c (.int .i64 1)), []⟩ <|
          .op ⟨(some 38), .indexA 1 (.t 31) (.t 37), []⟩ <|
          .op ⟨(some 39), .load1 (.t 38), []⟩ <|
          .op ⟨(some 4), .mov (.t 39), []⟩ <|
          .nil)) (
        .seq (.ops (
          .op ⟨(some 40), .mov (.t 0), []⟩ <|
          .op ⟨(some 41), .mov (.t 0), []⟩ <|
          .op ⟨(some 42), .nilc (.t 41), []⟩ <|
          .op ⟨(some 43), .fieldA 18 (.t 42), []⟩ <|
          .op ⟨(some 44), .load1 (.t 43), []⟩ <|
          .op ⟨(some 45), .mov (.t 0), []⟩ <|
          .op ⟨(some 46), .nilc (.t 45), []⟩ <|
          .op ⟨(some 47), .fieldA 18 (.t 46), []⟩ <|
          .op ⟨(some 48), .load1 (.t 47), []⟩ <|
          .op ⟨(some 49), .lenSl (.t 48), []⟩ <|
          .op ⟨(some 50), .arith .sub .i64 (.t 49) (.c (.int .i64 1)), []⟩ <|
          .op ⟨(some 51), .slice 1 (.t 44) none (some (.t 50)) none, []⟩ <|
          .op ⟨(some 52), .nilc (.t 40), []⟩ <|
          .op ⟨(some 53), .fieldA 18 (.t 52), []⟩ <|
          .op ⟨none, .store 1 (.t 53) (.t 51), []⟩ <|
          .nil)) (
        .ops (
          .op ⟨(some 54), .mov (.t 0), []⟩ <|
          .op ⟨(some 55), .mov (.t 1), []⟩ <|
          .op ⟨(some 56), .mov (.t 4), []⟩ <|
          .op ⟨(some 57), .call 401 [(.t 54), (.t 55), (.t 56)], []⟩ <|
          .nil)))) (.seq (.ops (
          .op ⟨(some 59), .cmp .eql .i64 (.t 8) (.c (.int .i64 14)), []⟩ <|
          .op ⟨(some 58), .mov (.t 59), []⟩ <|
          .nil)) (
        .cond (.t 58) (.seq (.ops (
            .op ⟨(some 60), .mov (.t 0), []⟩ <|
            .op ⟨(some 61), .nilc (.t 60), []⟩ <|
            .op ⟨(some 62), .fieldA 0 (.t 61), []⟩ <|
            .op ⟨(some 63), .load1 (.t 62), []⟩ <|
            .op ⟨(some 64), .arith .add .i64 (.t 63) (.c (.int .i64 1)), []⟩ <|
            .op ⟨(some 65), .nilc (.t 60), []⟩ <|
            .op ⟨(some 66), .fieldA 0 (.t 65), []⟩ <|
            .op ⟨none, .store 1 (.t 66) (.t 64), []⟩ <|
            .nil)) (
          .seq (.ops (
            .op ⟨(some 67), .mov (.t 0), []⟩ <|
            .op ⟨(some 68), .mov (.t 0), []⟩ <|
            .op ⟨(some 69), .nilc (.t 67), []⟩ <|
            .op ⟨(some 70), .fieldA 13 (.t 69), []⟩ <|
            .op ⟨none, .store 1 (.t 70) (.c (.int .i64 0)), []⟩ <|
            .op ⟨(some 71), .nilc (.t 68), []⟩ <|
            .op ⟨(some 72), .fieldA 9 (.t 71), []⟩ <|
            .op ⟨none, .store 1 (.t 72) (.c (.int .i64 4)), []⟩ <|
            .nil)) (
          .seq (.ops (
            .op ⟨(some 73), .mov (.t 1), []⟩ <|
            .op ⟨(some 74), .call 266 [(.t 73), (.c (.int .i64 2))], []⟩ <|
            .op ⟨(some 75), .cmp .eql .u64 (.t 74) (.c (.int .u64 0)), []⟩ <|
            .nil)) (
          .cond (.t 75) (.ops (
              .op ⟨(some 76), .mov (.t 0), []⟩ <|
              .op ⟨(some 77), .nilc (.t 76), []⟩ <|
              .op ⟨(some 78), .fieldA 9 (.t 77), []⟩ <|
              .op ⟨none, .store 1 (.t 78) (.c (.int .i64 15)), []⟩ <|
              .nil)) (.skip))))) (.skip))))))))

def mark_Mark_pass_hs : List (List Nat × List Nat) := []

end Wm.F
end

section
/- PRINTED by my tool (wip/wm/tool/Gen.lean): a function as one of my machine. -/
namespace Wm.F
open Wm
set_option maxRecDepth 100000

/-- 327: (*withy/mark.Mark).through -/
def mark_Mark_through : AFunc where
  closed := false
  nparams := 2
  ntmps := 216
  results := []
  body := .seq (.ops (
      .op ⟨(some 8), .mov (.t 0), []⟩ <|
      .op ⟨(some 9), .nilc (.t 8), []⟩ <|
      .op ⟨(some 10), .fieldA 9 (.t 9), []⟩ <|
      .op ⟨(some 11), .load1 (.t 10), []⟩ <|
      .nil)) (
    .block 0 (.seq (.ops (
      .op ⟨(some 13), .cmp .eql .i64 (.t 11) (.c (.int .i64 6)), []⟩ <|
      .op ⟨(some 12), .mov (.t 13), []⟩ <|
      .nil)) (
    .cond (.t 12) (.seq (.ops (
        .op ⟨(some 14), .mov (.t 0), []⟩ <|
        .op ⟨(some 15), .mov (.t 1), []⟩ <|
        .op ⟨(some 16), .mov (.t 0), []⟩ <|
        .op ⟨(some 17), .nilc (.t 16), []⟩ <|
        .op ⟨(some 18), .fieldA 2 (.t 17), []⟩ <|
        .op ⟨(some 19), .loadN 6 (.t 18), []⟩ <|
        .op ⟨(some 20), .mov (.t 0), []⟩ <|
        .op ⟨(some 21), .nilc (.t 20), []⟩ <|
        .op ⟨(some 22), .fieldA 14 (.t 21), []⟩ <|
        .op ⟨(some 23), .load1 (.t 22), []⟩ <|
        .op ⟨(some 24), .mov (.t 0), []⟩ <|
        .op ⟨(some 25), .nilc (.t 24), []⟩ <|
        .op ⟨(some 26), .fieldA 12 (.t 25), []⟩ <|
        .op ⟨(some 27), .load1 (.t 26), []⟩ <|
        .op ⟨(some 28), .call 305 [(.t 19), (.t 23), (.t 27)], []⟩ <|
        .op ⟨(some 29), .call 266 [(.t 15), (.t 28)], []⟩ <|
        .op ⟨(some 30), .call 320 [(.t 14), (.t 29)], []⟩ <|
        .op ⟨(some 4), .mov (.t 30), []⟩ <|
        .nil)) (
      .seq (.seq (.ops (
        .op ⟨(some 31), .mov (.t 0), []⟩ <|
        .op ⟨(some 32), .nilc (.t 31), []⟩ <|
        .op ⟨(some 33), .fieldA 12 (.t 32), []⟩ <|
        .op ⟨(some 34), .load1 (.t 33), []⟩ <|
        .op ⟨(some 35), .arith .add .i64 (.t 34) (.c (.int .i64 1)), []⟩ <|
        .op ⟨(some 36), .nilc (.t 31), []⟩ <|
        .op ⟨(some 37), .fieldA 12 (.t 36), []⟩ <|
        .op ⟨none, .store 1 (.t 37) (.t 35), []⟩ <|
        .nil)) (
      .seq (.ops (
        .op ⟨(some 38), .mov (.t 0), []⟩ <|
        .op ⟨(some 39), .nilc (.t 38), []⟩ <|
        .op ⟨(some 40), .fieldA 12 (.t 39), []⟩ <|
        .op ⟨(some 41), .load1 (.t 40), []⟩ <|
        .op ⟨(some 42), .mov (.t 0), []⟩ <|
        .op ⟨(some 43), .nilc (.t 42), []⟩ <|
        .op ⟨(some 44), .fieldA 15 (.t 43), []⟩ <|
        .op ⟨(some 45), .load1 (.t 44), []⟩ <|
        .op ⟨(some 46), .cmp .eql .i64 (.t 41) (.t 45), []⟩ <|
        .nil)) (
      .cond (.t 46) (.ops (
          .op ⟨(some 47), .mov (.t 0), []⟩ <|
          .op ⟨(some 48), .nilc (.t 47), []⟩ <|
          .op ⟨(some 49), .fieldA 9 (.t 48), []⟩ <|
          .op ⟨none, .store 1 (.t 49) (.c (.int .i64 11)), []⟩ <|
          .nil)) (.skip)))) (
      .ops (
        .op ⟨(some 50), .mov (.t 0), []⟩ <|
        .op ⟨(some 51), .mov (.t 4), []⟩ <|
        .op ⟨(some 52), .call 400 [(.t 50), (.t 51)], []⟩ <|
        .nil)))) (.seq (.ops (
        .op ⟨(some 54), .cmp .eql .i64 (.t 11) (.c (.int .i64 7)), []⟩ <|
        .op ⟨(some 53), .mov (.t 54), []⟩ <|
        .nil)) (
      .cond (.t 53) (.seq (.ops (
          .op ⟨(some 55), .mov (.t 0), []⟩ <|
          .op ⟨(some 56), .mov (.t 0), []⟩ <|
          .op ⟨(some 57), .mov (.t 1), []⟩ <|
          .op ⟨(some 58), .mov (.t 0), []⟩ <|
          .op ⟨(some 59), .nilc (.t 58), []⟩ <|
          .op ⟨(some 60), .fieldA 2 (.t 59), []⟩ <|
          .op ⟨(some 61), .loadN 6 (.t 60), []⟩ <|
          .op ⟨(some 62), .mov (.t 0), []⟩ <|
          .op ⟨(some 63), .nilc (.t 62), []⟩ <|
          .op ⟨(some 64), .fieldA 14 (.t 63), []⟩ <|
          .op ⟨(some 65), .load1 (.t 64), []⟩ <|
          .op ⟨(some 66), .call 305 [(.t 61), (.t 65), (.c (.int .i64 0))], []⟩ <|
          .op ⟨(some 67), .call 266 [(.t 57), (.t 66)], []⟩ <|
          .op ⟨(some 68), .call 320 [(.t 56), (.t 67)], []⟩ <|
          .op ⟨(some 69), .call 400 [(.t 55), (.t 68)], []⟩ <|
          .nil)) (
        .ops (
          .op ⟨(some 70), .mov (.t 0), []⟩ <|
          .op ⟨(some 71), .nilc (.t 70), []⟩ <|
          .op ⟨(some 72), .fieldA 9 (.t 71), []⟩ <|
          .op ⟨none, .store 1 (.t 72) (.c (.int .i64 8)), []⟩ <|
          .nil))) (.seq (.ops (
          .op ⟨(some 74), .cmp .eql .i64 (.t 11) (.c (.int .i64 8)), []⟩ <|
          .op ⟨(some 73), .mov (.t 74), []⟩ <|
          .nil)) (
        .cond (.t 73) (.ops (
            .op ⟨(some 75), .mov (.t 0), []⟩ <|
            .op ⟨(some 76), .mov (.t 0), []⟩ <|
            .op ⟨(some 77), .mov (.t 1), []⟩ <|
            .op ⟨(some 78), .mov (.t 0), []⟩ <|
            .op ⟨(some 79), .nilc (.t 78), []⟩ <|
            .op ⟨(some 80), .fieldA 2 (.t 79), []⟩ <|
            .op ⟨(some 81), .loadN 6 (.t 80), []⟩ <|
            .op ⟨(some 82), .mov (.t 0), []⟩ <|
            .op ⟨(some 83), .nilc (.t 82), []⟩ <|
            .op ⟨(some 84), .fieldA 14 (.t 83), []⟩ <|
            .op ⟨(some 85), .load1 (.t 84), []⟩ <|
            .op ⟨(some 86), .call 305 [(.t 81), (.t 85), (.c (.int .i64 1))], []⟩ <|
            .op ⟨(some 87), .call 266 [(.t 77), (.t 86)], []⟩ <|
            .op ⟨(some 88), .nilc (.t 75), []⟩ <|
            .op ⟨(some 89), .fieldA 17 (.t 88), []⟩ <|
            .op ⟨none, .store 1 (.t 89) (.t 87), []⟩ <|
            .op ⟨(some 90), .nilc (.t 76), []⟩ <|
            .op ⟨(some 91), .fieldA 9 (.t 90), []⟩ <|
            .op ⟨none, .store 1 (.t 91) (.c (.int .i64 9)), []⟩ <|
            .nil)) (.seq (.ops (
            .op ⟨(some 93), .cmp .eql .i64 (.t 11) (.c (.int .i64 9)), []⟩ <|
            .op ⟨(some 92), .mov (.t 93), []⟩ <|
            .nil)) (
          .cond (.t 92) (.seq (.ops (
              .op ⟨(some 94), .mov (.t 0), []⟩ <|
              .op ⟨(some 95), .mov (.t 1), []⟩ <|
              .op ⟨(some 96), .mov (.t 0), []⟩ <|
              .op ⟨(some 97), .nilc (.t 96), []⟩ <|
              .op ⟨(some 98), .fieldA 2 (.t 97), []⟩ <|
              .op ⟨(some 99), .loadN 6 (.t 98), []⟩ <|
              .op ⟨(some 100), .mov (.t 0), []⟩ <|
              .op ⟨(some 101), .nilc (.t 100), []⟩ <|
              .op ⟨(some 102), .fieldA 14 (.t 101), []⟩ <|
              .op ⟨(some 103), .load1 (.t 102), []⟩ <|
              .op ⟨(some 104), .call 305 [(.t 99), (.t 103), (.c (.int .i64 2))], []⟩ <|
              .op ⟨(some 105), .call 266 [(.t 95), (.t 104)], []⟩ <|
              .op ⟨(some 106), .call 320 [(.t 94), (.t 105)], []⟩ <|
              .op ⟨(some 5), .mov (.t 106), []⟩ <|
              .nil)) (
            .seq (.ops (
              .op ⟨(some 107), .mov (.t 0), []⟩ <|
              .op ⟨(some 108), .nilc (.t 107), []⟩ <|
              .op ⟨(some 109), .fieldA 9 (.t 108), []⟩ <|
              .op ⟨none, .store 1 (.t 109) (.c (.int .i64 11)), []⟩ <|
              .nil)) (
            .seq (.seq (.ops (
              .op ⟨(some 110), .mov (.t 5), []⟩ <|
              .op ⟨(some 111), .cmp .geq .i64 (.t 110) (.c (.int .i64 0)), []⟩ <|
              .op ⟨(some 112), .mov (.t 111), []⟩ <|
              .grd 112 true [⟨(some 113), .mov (.t 0), []⟩,
                  ⟨(some 114), .nilc (.t 113), []⟩,
                  ⟨(some 115), .fieldA 17 (.t 114), []⟩,
                  ⟨(some 116), .load1 (.t 115), []⟩,
                  ⟨(some 117), .cmp .neq .u64 (.t 116) (.c (.int .u64 0)), []⟩] <|
              .op ⟨(some 118), .pick (.t 112) (.t 117) (.c (.bool false)), []⟩ <|
              .op ⟨(some 119), .mov (.t 118), []⟩ <|
              .grd 119 true [⟨(some 120), .mov (.t 0), []⟩,
                  ⟨(some 121), .nilc (.t 120), []⟩,
                  ⟨(some 122), .fieldA 17 (.t 121), []⟩,
                  ⟨(some 123), .load1 (.t 122), []⟩,
                  ⟨(some 124), .mov (.t 0), []⟩,
                  ⟨(some 125), .nilc (.t 124), []⟩,
                  ⟨(some 126), .fieldA 10 (.t 125), []⟩,
                  ⟨(some 127), .load1 (.t 126), []⟩,
                  ⟨(some 128), .cmp .leq .u64 (.t 123) (.t 127), []⟩] <|
              .op ⟨(some 129), .pick (.t 119) (.t 128) (.c (.bool false)), []⟩ <|
              .nil)) (
            .cond (.t 129) (.ops (
                .op ⟨(some 130), .mov (.t 0), []⟩ <|
                .op ⟨(some 131), .nilc (.t 130), []⟩ <|
                .op ⟨(some 132), .fieldA 9 (.t 131), []⟩ <|
                .op ⟨none, .store 1 (.t 132) (.c (.int .i64 10)), []⟩ <|
                .nil)) (.skip))) (
            .ops (
              .op ⟨(some 133), .mov (.t 0), []⟩ <|
              .op ⟨(some 134), .mov (.t 5), []⟩ <|
              .op ⟨(some 135), .call 400 [(.t 133), (.t 134)], []⟩ <|
              .nil))))) (.seq (.ops (
              .op ⟨(some 137), .cmp .eql .i64 (.t 11) (.c (.int .i64 10)), []⟩ <|
              .op ⟨(some 136), .mov (.t 137), []⟩ <|
              .nil)) (
            .cond (.t 136) (.seq (.ops (
                .op ⟨(some 138), .mov (.t 1), []⟩ <|
                .op ⟨(some 139), .mov (.t 0), []⟩ <|
                .op ⟨(some 140), .nilc (.t 139), []⟩ <|
                .op ⟨(some 141), .fieldA 2 (.t 140), []⟩ <|
                .op ⟨(some 142), .loadN 6 (.t 141), []⟩ <|
                .op ⟨(some 143), .mov (.t 0), []⟩ <|
                .op ⟨(some 144), .nilc (.t 143), []⟩ <|
                .op ⟨(some 145), .fieldA 14 (.t 144), []⟩ <|
                .op ⟨(some 146), .load1 (.t 145), []⟩ <|
                .op ⟨(some 147), .call 305 [(.t 142), (.t 146), (.c (.int .i64 2))], []⟩ <|
                .op ⟨(some 148), .call 203 [(.t 138), (.t 147), (.c (.int .u64 0))], []⟩ <|
                .nil)) (
              .seq (.ops (
                .op ⟨(some 149), .mov (.t 0), []⟩ <|
                .op ⟨(some 150), .nilc (.t 149), []⟩ <|
                .op ⟨(some 151), .fieldA 1 (.t 150), []⟩ <|
                .op ⟨(some 152), .load1 (.t 151), []⟩ <|
                .op ⟨(some 153), .arith .add .i64 (.t 152) (.c (.int .i64 1)), []⟩ <|
                .op ⟨(some 154), .nilc (.t 149), []⟩ <|
                .op ⟨(some 155), .fieldA 1 (.t 154), []⟩ <|
                .op ⟨none, .store 1 (.t 155) (.t 153), []⟩ <|
                .nil)) (
              .ops (
                .op ⟨(some 156), .mov (.t 0), []⟩ <|
                .op ⟨(some 157), .nilc (.t 156), []⟩ <|
                .op ⟨(some 158), .fieldA 9 (.t 157), []⟩ <|
                .op ⟨none, .store 1 (.t 158) (.c (.int .i64 11)), []⟩ <|
                .nil)))) (.seq (.ops (
                .op ⟨(some 160), .cmp .eql .i64 (.t 11) (.c (.int .i64 11)), []⟩ <|
                .op ⟨(some 159), .mov (.t 160), []⟩ <|
                .nil)) (
              .cond (.t 159) (.seq (.ops (
                  .op ⟨(some 162), .mov (.t 0), []⟩ <|
                  .op ⟨(some 163), .nilc (.t 162), []⟩ <|
                  .op ⟨(some 164), .fieldA 16 (.t 163), []⟩ <|
                  .op ⟨(some 165), .load1 (.t 164), []⟩ <|
                  .op ⟨(some 166), .call 402 [(.t 165)], []⟩ <|
                  .op ⟨(some 161), .mov (.t 166), []⟩ <|
                  .op ⟨(some 167), .extract (.t 161) 0, []⟩ <|
                  .op ⟨(some 168), .extract (.t 161) 1, []⟩ <|
                  .op ⟨(some 6), .mov (.t 167), []⟩ <|
                  .op ⟨(some 7), .mov (.t 168), []⟩ <|
                  .nil)) (
                .seq (.ops (
                  .op ⟨(some 169), .mov (.t 0), []⟩ <|
                  .op ⟨(some 170), .nilc (.t 169), []⟩ <|
                  .op ⟨(some 171), .fieldA 9 (.t 170), []⟩ <|
                  .op ⟨none, .store 1 (.t 171) (.c (.int .i64 12)), []⟩ <|
                  .nil)) (
                .seq (.ops (
                  .op ⟨(some 172), .mov (.t 1), []⟩ <|
                  .op ⟨(some 173), .mov (.t 0), []⟩ <|
                  .op ⟨(some 174), .nilc (.t 173), []⟩ <|
                  .op ⟨(some 175), .fieldA 2 (.t 174), []⟩ <|
                  .op ⟨(some 176), .loadN 6 (.t 175), []⟩ <|
                  .op ⟨(some 177), .mov (.t 0), []⟩ <|
                  .op ⟨(some 178), .nilc (.t 177), []⟩ <|
                  .op ⟨(some 179), .fieldA 14 (.t 178), []⟩ <|
                  .op ⟨(some 180), .load1 (.t 179), []⟩ <|
                  .op ⟨(some 182), .mov (.t 0), []⟩ <|
                  .op ⟨(some 183), .nilc (.t 182), []⟩ <|
                  .op ⟨(some 184), .fieldA 16 (.t 183), []⟩ <|
                  .op ⟨(some 185), .load1 (.t 184), []⟩ <|
                  .op ⟨(some 186), .mov (.t 6), []⟩ <|
                  .op ⟨(some 181), .call 261 [(.t 176), (.t 180)], [{ g := none, op := .load1 (.t 184), d := 185 }]⟩ <|
                  .op ⟨(some 187), .call 269 [(.t 172), (.t 181), (.t 185), (.t 186)], []⟩ <|
                  .nil)) (
                .cond (.t 187) (.ops (
                    .op ⟨(some 188), .mov (.t 0), []⟩ <|
                    .op ⟨(some 189), .nilc (.t 188), []⟩ <|
                    .op ⟨(some 190), .fieldA 9 (.t 189), []⟩ <|
                    .op ⟨none, .store 1 (.t 190) (.c (.int .i64 13)), []⟩ <|
                    .nil)) (.skip))))) (.seq (.ops (
                  .op ⟨(some 192), .cmp .eql .i64 (.t 11) (.c (.int .i64 12)), []⟩ <|
                  .op ⟨(some 191), .mov (.t 192), []⟩ <|
                  .nil)) (
                .cond (.t 191) (.ops (
                    .op ⟨(some 193), .mov (.t 0), []⟩ <|
                    .op ⟨(some 194), .mov (.t 0), []⟩ <|
                    .op ⟨(some 195), .mov (.t 1), []⟩ <|
                    .op ⟨(some 196), .mov (.t 0), []⟩ <|
                    .op ⟨(some 197), .nilc (.t 196), []⟩ <|
                    .op ⟨(some 198), .fieldA 2 (.t 197), []⟩ <|
                    .op ⟨(some 199), .loadN 6 (.t 198), []⟩ <|
                    .op ⟨(some 200), .mov (.t 0), []⟩ <|
                    .op ⟨(some 201), .nilc (.t 200), []⟩ <|
                    .op ⟨(some 202), .fieldA 14 (.t 201), []⟩ <|
                    .op ⟨(some 203), .load1 (.t 202), []⟩ <|
                    .op ⟨(some 204), .call 261 [(.t 199), (.t 203)], []⟩ <|
                    .op ⟨(some 205), .call 266 [(.t 195), (.t 204)], []⟩ <|
                    .op ⟨(some 206), .nilc (.t 193), []⟩ <|
                    .op ⟨(some 207), .fieldA 16 (.t 206), []⟩ <|
                    .op ⟨none, .store 1 (.t 207) (.t 205), []⟩ <|
                    .op ⟨(some 208), .nilc (.t 194), []⟩ <|
                    .op ⟨(some 209), .fieldA 9 (.t 208), []⟩ <|
                    .op ⟨none, .store 1 (.t 209) (.c (.int .i64 11)), []⟩ <|
                    .nil)) (.seq (.ops (
                    .op ⟨(some 211), .cmp .eql .i64 (.t 11) (.c (.int .i64 13)), []⟩ <|
                    .op ⟨(some 210), .mov (.t 211), []⟩ <|
                    .nil)) (
                  .cond (.t 210) (.seq (.ops (
                      .op ⟨(some 212), .mov (.t 1), []⟩ <|
                      .op ⟨(some 213), .call 268 [(.t 212), (.c (.int .i64 2)), (.c (.int .u64 18446744073709551615))], []⟩ <|
                      .nil)) (
                    .ops (
                      .op ⟨(some 214), .mov (.t 0), []⟩ <|
                      .op ⟨(some 215), .call 403 [(.t 214)], []⟩ <|
                      .nil))) (.skip))))))))))))))))))

def mark_Mark_through_hs : List (List Nat × List Nat) := []

end Wm.F
end

section
/- PRINTED by my tool (wip/wm/tool/Gen.lean): a function as one of my machine. -/
namespace Wm.F
open Wm
set_option maxRecDepth 100000

/-- 261: withy/plan.Header -/
def plan_Header : AFunc where
  closed := true
  nparams := 2
  ntmps := 8
  results := [.tmp 4]
  body := .seq (.ops (
      .op ⟨(some 2), .box (.t 0), []⟩ <|
      .op ⟨(some 4), .mov (.c (.int .i64 0)), []⟩ <|
      .nil)) (
    .seq (.ops (
      .op ⟨(some 5), .loadN 6 (.t 2), []⟩ <|
      .op ⟨(some 6), .mov (.t 1), []⟩ <|
      .op ⟨(some 7), .call 375 [(.t 5), (.t 6), (.c (.int .i64 0))], []⟩ <|
      .op ⟨(some 4), .mov (.t 7), []⟩ <|
      .nil)) (
    .ret))

def plan_Header_hs : List (List Nat × List Nat) := []

end Wm.F
end

section
/- PRINTED by my tool (wip/wm/tool/Gen.lean): a function as one of my machine. -/
namespace Wm.F
open Wm
set_option maxRecDepth 100000

/-- 340: withy/head.Retired -/
def head_Retired : AFunc where
  closed := true
  nparams := 2
  ntmps := 33
  results := [.tmp 4, .tmp 5]
  body := .seq (.ops (
      .op ⟨(some 4), .mov (.c (.int .u64 0)), []⟩ <|
      .op ⟨(some 5), .mov (.c (.bool false)), []⟩ <|
      .nil)) (
    .seq (.ops (
      .op ⟨(some 9), .mov (.t 0), []⟩ <|
      .op ⟨(some 10), .call 380 [(.t 9)], []⟩ <|
      .op ⟨(some 8), .mov (.t 10), []⟩ <|
      .op ⟨(some 11), .extract (.t 8) 0, []⟩ <|
      .op ⟨(some 12), .extract (.t 8) 1, []⟩ <|
      .op ⟨(some 6), .alloc [(.int .i64 0), (.int .i64 0), (.bool false), (.int .i64 0), (.int .i64 0), (.int .i64 0)], []⟩ <|
      .op ⟨none, .store 6 (.t 6) (.t 11), []⟩ <|
      .op ⟨(some 7), .mov (.t 12), []⟩ <|
      .nil)) (
    .seq (.seq (.ops (
      .op ⟨(some 13), .mov (.t 7), []⟩ <|
      .op ⟨(some 14), .not (.t 13), []⟩ <|
      .op ⟨(some 15), .mov (.t 14), []⟩ <|
      .grd 15 false [⟨(some 16), .fieldA 1 (.t 6), []⟩,
          ⟨(some 17), .load1 (.t 16), []⟩,
          ⟨(some 18), .mov (.t 1), []⟩,
          ⟨(some 19), .call 381 [(.t 18)], [{ g := (some (15, false)), op := .load1 (.t 16), d := 17 }]⟩,
          ⟨(some 20), .cmp .eql .i64 (.t 17) (.t 19), []⟩] <|
      .op ⟨(some 21), .pick (.t 15) (.c (.bool true)) (.t 20), []⟩ <|
      .nil)) (
    .cond (.t 21) (.seq (.ops (
        .op ⟨(some 22), .mov (.t 0), []⟩ <|
        .op ⟨(some 4), .mov (.t 22), []⟩ <|
        .op ⟨(some 5), .mov (.c (.bool false)), []⟩ <|
        .nil)) (
      .ret)) (.skip))) (
    .seq (.ops (
      .op ⟨(some 23), .mov (.t 1), []⟩ <|
      .op ⟨(some 24), .arith .and .u64 (.t 23) (.c (.int .u64 65535)), []⟩ <|
      .op ⟨(some 25), .conv .i64 (.t 24), []⟩ <|
      .op ⟨(some 26), .fieldA 0 (.t 6), []⟩ <|
      .op ⟨none, .store 1 (.t 26) (.c (.int .i64 3)), []⟩ <|
      .op ⟨(some 27), .fieldA 2 (.t 6), []⟩ <|
      .op ⟨none, .store 1 (.t 27) (.c (.bool false)), []⟩ <|
      .op ⟨(some 28), .fieldA 5 (.t 6), []⟩ <|
      .op ⟨none, .store 1 (.t 28) (.t 25), []⟩ <|
      .nil)) (
    .seq (.ops (
      .op ⟨(some 29), .loadN 6 (.t 6), []⟩ <|
      .op ⟨(some 30), .call 382 [(.t 29)], []⟩ <|
      .op ⟨(some 31), .extract (.t 30) 0, []⟩ <|
      .op ⟨(some 32), .extract (.t 30) 1, []⟩ <|
      .op ⟨(some 4), .mov (.t 31), []⟩ <|
      .op ⟨(some 5), .mov (.t 32), []⟩ <|
      .nil)) (
    .ret)))))

def head_Retired_hs : List (List Nat × List Nat) := []

end Wm.F
end

section
/- PRINTED by my tool (wip/wm/tool/Gen.lean): a function as one of my machine. -/
namespace Wm.F
open Wm
set_option maxRecDepth 100000

/-- 265: withy/head.Unpack -/
def head_Unpack : AFunc where
  closed := true
  nparams := 1
  ntmps := 53
  results := [.cell true 6 2, .tmp 3]
  body := .seq (.ops (
      .op ⟨(some 2), .alloc [(.int .i64 0), (.int .i64 0), (.bool false), (.int .i64 0), (.int .i64 0), (.int .i64 0)], []⟩ <|
      .op ⟨(some 3), .mov (.c (.bool false)), []⟩ <|
      .nil)) (
    .seq (.ops (
      .op ⟨(some 7), .mov (.t 0), []⟩ <|
      .op ⟨(some 8), .buildSl 1 7 [(.int .i64 0)] [(0, 1, (.c (.int .i64 3))), (1, 1, (.c (.int .i64 1))), (2, 1, (.c (.int .i64 1))), (3, 1, (.c (.int .i64 4))), (4, 1, (.c (.int .i64 7))), (5, 1, (.c (.int .i64 32))), (6, 1, (.c (.int .i64 16)))], []⟩ <|
      .op ⟨(some 9), .call 379 [(.t 7), (.t 8)], []⟩ <|
      .op ⟨(some 6), .mov (.t 9), []⟩ <|
      .op ⟨(some 10), .extract (.t 6) 0, []⟩ <|
      .op ⟨(some 11), .extract (.t 6) 1, []⟩ <|
      .op ⟨(some 4), .mov (.t 10), []⟩ <|
      .op ⟨(some 5), .mov (.t 11), []⟩ <|
      .nil)) (
    .seq (.seq (.ops (
      .op ⟨(some 12), .mov (.t 4), []⟩ <|
      .op ⟨(some 13), .lenSl (.t 12), []⟩ <|
      .op ⟨(some 14), .cmp .lss .i64 (.t 13) (.c (.int .i64 7)), []⟩ <|
      .op ⟨(some 15), .mov (.t 14), []⟩ <|
      .grd 15 false [⟨(some 16), .mov (.t 4), []⟩,
          ⟨(some 17), .indexA 1 (.t 16) (.c (.int .i64 0)), []⟩,
          ⟨(some 18), .load1 (.t 17), []⟩,
          ⟨(some 19), .cmp .gtr .u64 (.t 18) (.c (.int .u64 4)), []⟩] <|
      .op ⟨(some 20), .pick (.t 15) (.c (.bool true)) (.t 19), []⟩ <|
      .op ⟨(some 21), .mov (.t 20), []⟩ <|
      .grd 21 false [⟨(some 22), .mov (.t 4), []⟩,
          ⟨(some 23), .indexA 1 (.t 22) (.c (.int .i64 4)), []⟩,
          ⟨(some 24), .load1 (.t 23), []⟩,
          ⟨(some 25), .cmp .neq .u64 (.t 24) (.c (.int .u64 0)), []⟩] <|
      .op ⟨(some 26), .pick (.t 21) (.c (.bool true)) (.t 25), []⟩ <|
      .nil)) (
    .cond (.t 26) (.seq (.ops (
        .op ⟨(some 27), .build [(.int .i64 0), (.int .i64 0), (.bool false), (.int .i64 0), (.int .i64 0), (.int .i64 0)] [], []⟩ <|
        .op ⟨none, .store 6 (.t 2) (.t 27), []⟩ <|
        .op ⟨(some 3), .mov (.c (.bool false)), []⟩ <|
        .nil)) (
      .ret)) (.skip))) (
    .seq (.ops (
      .op ⟨(some 28), .mov (.t 4), []⟩ <|
      .op ⟨(some 29), .indexA 1 (.t 28) (.c (.int .i64 0)), []⟩ <|
      .op ⟨(some 30), .load1 (.t 29), []⟩ <|
      .op ⟨(some 31), .conv .i64 (.t 30), []⟩ <|
      .op ⟨(some 32), .mov (.t 4), []⟩ <|
      .op ⟨(some 33), .indexA 1 (.t 32) (.c (.int .i64 1)), []⟩ <|
      .op ⟨(some 34), .load1 (.t 33), []⟩ <|
      .op ⟨(some 35), .conv .i64 (.t 34), []⟩ <|
      .op ⟨(some 36), .mov (.t 4), []⟩ <|
      .op ⟨(some 37), .indexA 1 (.t 36) (.c (.int .i64 2)), []⟩ <|
      .op ⟨(some 38), .load1 (.t 37), []⟩ <|
      .op ⟨(some 39), .cmp .eql .u64 (.t 38) (.c (.int .u64 1)), []⟩ <|
      .op ⟨(some 40), .mov (.t 4), []⟩ <|
      .op ⟨(some 41), .indexA 1 (.t 40) (.c (.int .i64 3)), []⟩ <|
      .op ⟨(some 42), .load1 (.t 41), []⟩ <|
      .op ⟨(some 43), .conv .i64 (.t 42), []⟩ <|
      .op ⟨(some 44), .mov (.t 4), []⟩ <|
      .op ⟨(some 45), .indexA 1 (.t 44) (.c (.int .i64 5)), []⟩ <|
      .op ⟨(some 46), .load1 (.t 45), []⟩ <|
      .op ⟨(some 47), .conv .i64 (.t 46), []⟩ <|
      .op ⟨(some 48), .mov (.t 4), []⟩ <|
      .op ⟨(some 49), .indexA 1 (.t 48) (.c (.int .i64 6)), []⟩ <|
      .op ⟨(some 50), .load1 (.t 49), []⟩ <|
      .op ⟨(some 51), .conv .i64 (.t 50), []⟩ <|
      .op ⟨(some 52), .build [(.int .i64 0), (.int .i64 0), (.bool false), (.int .i64 0), (.int .i64 0), (.int .i64 0)] [(0, 1, (.t 31)), (1, 1, (.t 35)), (2, 1, (.t 39)), (3, 1, (.t 43)), (4, 1, (.t 47)), (5, 1, (.t 51))], []⟩ <|
      .op ⟨none, .store 6 (.t 2) (.t 52), []⟩ <|
      .op ⟨(some 3), .mov (.c (.bool true)), []⟩ <|
      .nil)) (
    .ret))))

def head_Unpack_hs : List (List Nat × List Nat) := []

end Wm.F
end

section
/- PRINTED by my tool (wip/wm/tool/Gen.lean): a function as one of my machine. -/
namespace Wm.F
open Wm
set_option maxRecDepth 100000

/-- 341: withy/arena.NewFree -/
def arena_NewFree : AFunc where
  closed := false
  nparams := 2
  ntmps := 13
  results := [.tmp 4]
  body := .seq (.ops (
      .op ⟨(some 2), .box (.t 0), []⟩ <|
      .op ⟨(some 4), .mov (.c .nilp), []⟩ <|
      .nil)) (
    .seq (.seq (.ops (
      .op ⟨(some 5), .loadN 6 (.t 2), []⟩ <|
      .op ⟨(some 6), .mov (.t 1), []⟩ <|
      .op ⟨(some 7), .call 261 [(.t 5), (.t 6)], []⟩ <|
      .op ⟨(some 8), .cmp .lss .i64 (.t 7) (.c (.int .i64 0)), []⟩ <|
      .nil)) (
    .cond (.t 8) (.seq (.ops (
        .op ⟨(some 4), .mov (.c .nilp), []⟩ <|
        .nil)) (
      .ret)) (.skip))) (
    .seq (.ops (
      .op ⟨(some 9), .loadN 6 (.t 2), []⟩ <|
      .op ⟨(some 10), .mov (.t 1), []⟩ <|
      .op ⟨(some 11), .build [(.bool false), (.bool false), (.int .i64 0), (.int .i64 0), (.int .i64 0), (.int .i64 0), (.int .i64 0), (.int .i64 0), (.int .i64 0), (.int .u64 0), .nilp, (.int .i64 0)] [(2, 6, (.t 9)), (8, 1, (.t 10)), (11, 1, (.c (.int .i64 1)))], []⟩ <|
      .op ⟨(some 12), .box (.t 11), []⟩ <|
      .op ⟨(some 4), .mov (.t 12), []⟩ <|
      .nil)) (
    .ret)))

def arena_NewFree_hs : List (List Nat × List Nat) := []

end Wm.F
end

section
/- PRINTED by my tool (wip/wm/tool/Gen.lean): a function as one of my machine. -/
namespace Wm.F
open Wm
set_option maxRecDepth 100000

/-- 342: (*withy/arena.Free).Step -/
def arena_Free_Step : AFunc where
  closed := false
  nparams := 2
  ntmps := 117
  results := [.tmp 4]
  body := .seq (.ops (
      .op ⟨(some 4), .mov (.c (.bool false)), []⟩ <|
      .nil)) (
    .seq (.seq (.ops (
      .op ⟨(some 9), .mov (.t 0), []⟩ <|
      .op ⟨(some 10), .eq false .ptr (.t 9) (.c .nilp), []⟩ <|
      .nil)) (
    .cond (.t 10) (.seq (.ops (
        .op ⟨(some 4), .mov (.c (.bool true)), []⟩ <|
        .nil)) (
      .ret)) (.skip))) (
    .seq (.seq (.ops (
      .op ⟨(some 11), .mov (.t 0), []⟩ <|
      .op ⟨(some 12), .nilc (.t 11), []⟩ <|
      .op ⟨(some 13), .fieldA 11 (.t 12), []⟩ <|
      .op ⟨(some 14), .load1 (.t 13), []⟩ <|
      .nil)) (
    .block 0 (.seq (.ops (
      .op ⟨(some 16), .cmp .eql .i64 (.t 14) (.c (.int .i64 1)), []⟩ <|
      .op ⟨(some 15), .mov (.t 16), []⟩ <|
      .nil)) (
    .cond (.t 15) (.seq (.ops (
        .op ⟨(some 18), .mov (.t 1), []⟩ <|
        .op ⟨(some 19), .mov (.t 0), []⟩ <|
        .op ⟨(some 20), .nilc (.t 19), []⟩ <|
        .op ⟨(some 21), .fieldA 2 (.t 20), []⟩ <|
        .op ⟨(some 22), .loadN 6 (.t 21), []⟩ <|
        .op ⟨(some 23), .mov (.t 0), []⟩ <|
        .op ⟨(some 24), .nilc (.t 23), []⟩ <|
        .op ⟨(some 25), .fieldA 8 (.t 24), []⟩ <|
        .op ⟨(some 26), .load1 (.t 25), []⟩ <|
        .op ⟨(some 29), .mov (.t 0), []⟩ <|
        .op ⟨(some 30), .nilc (.t 29), []⟩ <|
        .op ⟨(some 31), .fieldA 2 (.t 30), []⟩ <|
        .op ⟨(some 32), .fieldA 4 (.t 31), []⟩ <|
        .op ⟨(some 33), .load1 (.t 32), []⟩ <|
        .op ⟨(some 27), .call 261 [(.t 22), (.t 26)], [{ g := none, op := .load1 (.t 32), d := 33 }]⟩ <|
        .op ⟨(some 28), .call 266 [(.t 18), (.t 27)], [{ g := none, op := .load1 (.t 32), d := 33 }]⟩ <|
        .op ⟨(some 34), .call 409 [(.t 28), (.t 33)], []⟩ <|
        .op ⟨(some 17), .mov (.t 34), []⟩ <|
        .op ⟨(some 35), .extract (.t 17) 0, []⟩ <|
        .op ⟨(some 36), .extract (.t 17) 1, []⟩ <|
        .op ⟨(some 5), .mov (.t 35), []⟩ <|
        .op ⟨(some 6), .mov (.t 36), []⟩ <|
        .nil)) (
      .seq (.ops (
        .op ⟨(some 37), .mov (.t 0), []⟩ <|
        .op ⟨(some 38), .mov (.t 0), []⟩ <|
        .op ⟨(some 39), .mov (.t 5), []⟩ <|
        .op ⟨(some 40), .nilc (.t 37), []⟩ <|
        .op ⟨(some 41), .fieldA 9 (.t 40), []⟩ <|
        .op ⟨none, .store 1 (.t 41) (.t 39), []⟩ <|
        .op ⟨(some 42), .nilc (.t 38), []⟩ <|
        .op ⟨(some 43), .fieldA 11 (.t 42), []⟩ <|
        .op ⟨none, .store 1 (.t 43) (.c (.int .i64 3)), []⟩ <|
        .nil)) (
      .seq (.ops (
        .op ⟨(some 44), .mov (.t 6), []⟩ <|
        .op ⟨(some 45), .not (.t 44), []⟩ <|
        .nil)) (
      .cond (.t 45) (.ops (
          .op ⟨(some 46), .mov (.t 0), []⟩ <|
          .op ⟨(some 47), .nilc (.t 46), []⟩ <|
          .op ⟨(some 48), .fieldA 11 (.t 47), []⟩ <|
          .op ⟨none, .store 1 (.t 48) (.c (.int .i64 5)), []⟩ <|
          .nil)) (.skip))))) (.seq (.ops (
        .op ⟨(some 50), .cmp .eql .i64 (.t 14) (.c (.int .i64 3)), []⟩ <|
        .op ⟨(some 49), .mov (.t 50), []⟩ <|
        .nil)) (
      .cond (.t 49) (.seq (.ops (
          .op ⟨(some 51), .mov (.t 1), []⟩ <|
          .op ⟨(some 52), .mov (.t 0), []⟩ <|
          .op ⟨(some 53), .nilc (.t 52), []⟩ <|
          .op ⟨(some 54), .fieldA 2 (.t 53), []⟩ <|
          .op ⟨(some 55), .loadN 6 (.t 54), []⟩ <|
          .op ⟨(some 56), .mov (.t 0), []⟩ <|
          .op ⟨(some 57), .nilc (.t 56), []⟩ <|
          .op ⟨(some 58), .fieldA 8 (.t 57), []⟩ <|
          .op ⟨(some 59), .load1 (.t 58), []⟩ <|
          .op ⟨(some 61), .mov (.t 0), []⟩ <|
          .op ⟨(some 62), .nilc (.t 61), []⟩ <|
          .op ⟨(some 63), .fieldA 9 (.t 62), []⟩ <|
          .op ⟨(some 64), .load1 (.t 63), []⟩ <|
          .op ⟨(some 60), .call 261 [(.t 55), (.t 59)], [{ g := none, op := .load1 (.t 63), d := 64 }]⟩ <|
          .op ⟨(some 65), .call 203 [(.t 51), (.t 60), (.t 64)], []⟩ <|
          .nil)) (
        .seq (.ops (
          .op ⟨(some 66), .mov (.t 0), []⟩ <|
          .op ⟨(some 67), .mov (.t 0), []⟩ <|
          .op ⟨(some 68), .mov (.t 0), []⟩ <|
          .op ⟨(some 69), .nilc (.t 68), []⟩ <|
          .op ⟨(some 70), .fieldA 2 (.t 69), []⟩ <|
          .op ⟨(some 71), .loadN 6 (.t 70), []⟩ <|
          .op ⟨(some 72), .mov (.t 0), []⟩ <|
          .op ⟨(some 73), .nilc (.t 72), []⟩ <|
          .op ⟨(some 74), .fieldA 8 (.t 73), []⟩ <|
          .op ⟨(some 75), .load1 (.t 74), []⟩ <|
          .op ⟨(some 76), .call 410 [(.t 71), (.t 75)], []⟩ <|
          .op ⟨(some 77), .nilc (.t 66), []⟩ <|
          .op ⟨(some 78), .fieldA 10 (.t 77), []⟩ <|
          .op ⟨none, .store 1 (.t 78) (.t 76), []⟩ <|
          .op ⟨(some 79), .nilc (.t 67), []⟩ <|
          .op ⟨(some 80), .fieldA 11 (.t 79), []⟩ <|
          .op ⟨none, .store 1 (.t 80) (.c (.int .i64 4)), []⟩ <|
          .nil)) (
        .seq (.ops (
          .op ⟨(some 82), .mov (.t 0), []⟩ <|
          .op ⟨(some 83), .nilc (.t 82), []⟩ <|
          .op ⟨(some 84), .fieldA 9 (.t 83), []⟩ <|
          .op ⟨(some 85), .load1 (.t 84), []⟩ <|
          .op ⟨(some 86), .call 265 [(.t 85)], []⟩ <|
          .op ⟨(some 81), .mov (.t 86), []⟩ <|
          .op ⟨(some 87), .extract (.t 81) 0, []⟩ <|
          .op ⟨(some 88), .extract (.t 81) 1, []⟩ <|
          .op ⟨(some 7), .alloc [(.int .i64 0), (.int .i64 0), (.bool false), (.int .i64 0), (.int .i64 0), (.int .i64 0)], []⟩ <|
          .op ⟨none, .store 6 (.t 7) (.t 87), []⟩ <|
          .op ⟨(some 8), .mov (.t 88), []⟩ <|
          .nil)) (
        .seq (.ops (
          .op ⟨(some 89), .fieldA 0 (.t 7), []⟩ <|
          .op ⟨(some 90), .load1 (.t 89), []⟩ <|
          .op ⟨(some 91), .cmp .eql .i64 (.t 90) (.c (.int .i64 4)), []⟩ <|
          .nil)) (
        .cond (.t 91) (.ops (
            .op ⟨(some 92), .mov (.t 0), []⟩ <|
            .op ⟨(some 93), .mov (.t 0), []⟩ <|
            .op ⟨(some 94), .nilc (.t 92), []⟩ <|
            .op ⟨(some 95), .fieldA 1 (.t 94), []⟩ <|
            .op ⟨none, .store 1 (.t 95) (.c (.bool true)), []⟩ <|
            .op ⟨(some 96), .nilc (.t 93), []⟩ <|
            .op ⟨(some 97), .fieldA 11 (.t 96), []⟩ <|
            .op ⟨none, .store 1 (.t 97) (.c (.int .i64 5)), []⟩ <|
            .nil)) (.skip)))))) (.seq (.ops (
          .op ⟨(some 99), .cmp .eql .i64 (.t 14) (.c (.int .i64 4)), []⟩ <|
          .op ⟨(some 98), .mov (.t 99), []⟩ <|
          .nil)) (
        .cond (.t 98) (.seq (.ops (
            .op ⟨(some 100), .mov (.t 0), []⟩ <|
            .op ⟨(some 101), .nilc (.t 100), []⟩ <|
            .op ⟨(some 102), .fieldA 10 (.t 101), []⟩ <|
            .op ⟨(some 103), .load1 (.t 102), []⟩ <|
            .op ⟨(some 104), .mov (.t 1), []⟩ <|
            .op ⟨(some 105), .call 411 [(.t 103), (.t 104)], []⟩ <|
            .nil)) (
          .cond (.t 105) (.ops (
              .op ⟨(some 106), .mov (.t 0), []⟩ <|
              .op ⟨(some 107), .mov (.t 0), []⟩ <|
              .op ⟨(some 108), .nilc (.t 106), []⟩ <|
              .op ⟨(some 109), .fieldA 0 (.t 108), []⟩ <|
              .op ⟨none, .store 1 (.t 109) (.c (.bool true)), []⟩ <|
              .op ⟨(some 110), .nilc (.t 107), []⟩ <|
              .op ⟨(some 111), .fieldA 11 (.t 110), []⟩ <|
              .op ⟨none, .store 1 (.t 111) (.c (.int .i64 5)), []⟩ <|
              .nil)) (.skip))) (.skip))))))))) (
    .seq (.ops (
      .op ⟨(some 112), .mov (.t 0), []⟩ <|
      .op ⟨(some 113), .nilc (.t 112), []⟩ <|
      .op ⟨(some 114), .fieldA 11 (.t 113), []⟩ <|
      .op ⟨(some 115), .load1 (.t 114), []⟩ <|
      .op ⟨(some 116), .cmp .eql .i64 (.t 115) (.c (.int .i64 5)), []⟩ <|
      .op ⟨(some 4), .mov (.t 116), []⟩ <|
      .nil)) (
    .ret))))

def arena_Free_Step_hs : List (List Nat × List Nat) := []

end Wm.F
end

section
/- PRINTED by my tool (wip/wm/tool/Gen.lean): a function as one of my machine. -/
namespace Wm.F
open Wm
set_option maxRecDepth 100000

/-- 346: (*withy/mem.Mem).there -/
def mem_Mem_there : AFunc where
  closed := false
  nparams := 2
  ntmps := 13
  results := [.tmp 4]
  body := .seq (.ops (
      .op ⟨(some 4), .mov (.c (.bool false)), []⟩ <|
      .nil)) (
    .seq (.ops (
      .op ⟨(some 5), .mov (.t 1), []⟩ <|
      .op ⟨(some 6), .cmp .geq .i64 (.t 5) (.c (.int .i64 0)), []⟩ <|
      .op ⟨(some 7), .mov (.t 6), []⟩ <|
      .grd 7 true [⟨(some 8), .mov (.t 1), []⟩,
          ⟨(some 9), .mov (.t 0), []⟩,
          ⟨(some 10), .call 413 [(.t 9)], []⟩,
          ⟨(some 11), .cmp .lss .i64 (.t 8) (.t 10), []⟩] <|
      .op ⟨(some 12), .pick (.t 7) (.t 11) (.c (.bool false)), []⟩ <|
      .op ⟨(some 4), .mov (.t 12), []⟩ <|
      .nil)) (
    .ret))

def mem_Mem_there_hs : List (List Nat × List Nat) := []

end Wm.F
end

section
/- PRINTED by my tool (wip/wm/tool/Gen.lean): a function as one of my machine. -/
namespace Wm.F
open Wm
set_option maxRecDepth 100000

/-- 347: (*withy/mem.Mem).touch -/
def mem_Mem_touch : AFunc where
  closed := false
  nparams := 4
  ntmps := 36
  results := []
  body := .seq (.ops (
      .op ⟨(some 8), .mov (.t 0), []⟩ <|
      .op ⟨(some 9), .nilc (.t 8), []⟩ <|
      .op ⟨(some 10), .fieldA 1 (.t 9), []⟩ <|
      .op ⟨(some 11), .load1 (.t 10), []⟩ <|
      .op ⟨(some 12), .arith .add .i64 (.t 11) (.c (.int .i64 1)), []⟩ <|
      .op ⟨(some 13), .nilc (.t 8), []⟩ <|
      .op ⟨(some 14), .fieldA 1 (.t 13), []⟩ <|
      .op ⟨none, .store 1 (.t 14) (.t 12), []⟩ <|
      .nil)) (
    .seq (.ops (
      .op ⟨(some 15), .mov (.t 0), []⟩ <|
      .op ⟨(some 16), .mov (.t 1), []⟩ <|
      .op ⟨(some 17), .mov (.t 2), []⟩ <|
      .op ⟨(some 18), .mov (.t 0), []⟩ <|
      .op ⟨(some 19), .nilc (.t 18), []⟩ <|
      .op ⟨(some 20), .fieldA 0 (.t 19), []⟩ <|
      .op ⟨(some 21), .load1 (.t 20), []⟩ <|
      .op ⟨(some 22), .mov (.t 2), []⟩ <|
      .op ⟨(some 23), .indexA 1 (.t 21) (.t 22), []⟩ <|
      .op ⟨(some 24), .load1 (.t 23), []⟩ <|
      .op ⟨(some 25), .mov (.t 3), []⟩ <|
      .op ⟨(some 26), .build [(.int .i64 0), (.int .i64 0), (.int .u64 0), (.int .u64 0)] [(0, 1, (.t 16)), (1, 1, (.t 17)), (2, 1, (.t 24)), (3, 1, (.t 25))], []⟩ <|
      .op ⟨(some 27), .nilc (.t 15), []⟩ <|
      .op ⟨(some 28), .fieldA 2 (.t 27), []⟩ <|
      .op ⟨none, .store 4 (.t 28) (.t 26), []⟩ <|
      .nil)) (
    .ops (
      .op ⟨(some 29), .mov (.t 0), []⟩ <|
      .op ⟨(some 30), .nilc (.t 29), []⟩ <|
      .op ⟨(some 31), .fieldA 0 (.t 30), []⟩ <|
      .op ⟨(some 32), .load1 (.t 31), []⟩ <|
      .op ⟨(some 33), .mov (.t 2), []⟩ <|
      .op ⟨(some 34), .mov (.t 3), []⟩ <|
      .op ⟨(some 35), .indexA 1 (.t 32) (.t 33), []⟩ <|
      .op ⟨none, .store 1 (.t 35) (.t 34), []⟩ <|
      .nil)))

def mem_Mem_touch_hs : List (List Nat × List Nat) := []

end Wm.F
end

section
/- PRINTED by my tool (wip/wm/tool/Gen.lean): a function as one of my machine. -/
namespace Wm.F
open Wm
set_option maxRecDepth 100000

/-- 397: withy/plan.place -/
def plan_place : AFunc where
  closed := true
  nparams := 5
  ntmps := 40
  results := [.tmp 10]
  body := .seq (.ops (
      .op ⟨(some 5), .box (.t 0), []⟩ <|
      .op ⟨(some 10), .mov (.c (.int .i64 0)), []⟩ <|
      .nil)) (
    .seq (.seq (.ops (
      .op ⟨(some 11), .loadN 6 (.t 5), []⟩ <|
      .op ⟨(some 12), .call 263 [(.t 11)], []⟩ <|
      .op ⟨(some 13), .not (.t 12), []⟩ <|
      .op ⟨(some 14), .mov (.t 13), []⟩ <|
      .grd 14 false [⟨(some 15), .mov (.t 1), []⟩,
          ⟨(some 16), .fieldA 2 (.t 5), []⟩,
          ⟨(some 17), .load1 (.t 16), []⟩,
          ⟨(some 18), .arith .sub .i64 (.t 17) (.c (.int .i64 1)), []⟩,
          ⟨(some 19), .call 376 [(.t 15), (.c (.int .i64 0)), (.t 18)], []⟩,
          ⟨(some 20), .not (.t 19), []⟩] <|
      .op ⟨(some 21), .pick (.t 14) (.c (.bool true)) (.t 20), []⟩ <|
      .op ⟨(some 22), .mov (.t 21), []⟩ <|
      .grd 22 false [⟨(some 23), .mov (.t 4), []⟩,
          ⟨(some 24), .mov (.t 3), []⟩,
          ⟨(some 25), .arith .sub .i64 (.t 24) (.c (.int .i64 1)), []⟩,
          ⟨(some 26), .call 376 [(.t 23), (.c (.int .i64 0)), (.t 25)], []⟩,
          ⟨(some 27), .not (.t 26), []⟩] <|
      .op ⟨(some 28), .pick (.t 22) (.c (.bool true)) (.t 27), []⟩ <|
      .nil)) (
    .cond (.t 28) (.seq (.ops (
        .op ⟨(some 10), .mov (.c (.int .i64 (-1))), []⟩ <|
        .nil)) (
      .ret)) (.skip))) (
    .seq (.ops (
      .op ⟨(some 29), .mov (.t 2), []⟩ <|
      .op ⟨(some 30), .fieldA 2 (.t 5), []⟩ <|
      .op ⟨(some 31), .load1 (.t 30), []⟩ <|
      .op ⟨(some 32), .arith .mul .i64 (.t 29) (.t 31), []⟩ <|
      .op ⟨(some 33), .arith .add .i64 (.c (.int .i64 4)) (.t 32), []⟩ <|
      .op ⟨(some 34), .mov (.t 1), []⟩ <|
      .op ⟨(some 35), .mov (.t 3), []⟩ <|
      .op ⟨(some 36), .arith .mul .i64 (.t 34) (.t 35), []⟩ <|
      .op ⟨(some 37), .arith .add .i64 (.t 33) (.t 36), []⟩ <|
      .op ⟨(some 38), .mov (.t 4), []⟩ <|
      .op ⟨(some 39), .arith .add .i64 (.t 37) (.t 38), []⟩ <|
      .op ⟨(some 10), .mov (.t 39), []⟩ <|
      .nil)) (
    .ret)))

def plan_place_hs : List (List Nat × List Nat) := []

end Wm.F
end

section
/- PRINTED by my tool (wip/wm/tool/Gen.lean): a function as one of my machine. -/
namespace Wm.F
open Wm
set_option maxRecDepth 100000

def word_Pack_c1 : ACode :=
  .seq (.ops (
    .op ⟨(some 11), .cmp .lss .i64 (.t 10) (.t 9), []⟩ <|
    .nil)) (
  .seq (.cond (.t 11) (.skip) (.exit 0)) (
  .seq (.block 1 (.seq (.ops (
    .op ⟨(some 12), .indexA 2 (.t 8) (.t 10), []⟩ <|
    .op ⟨(some 13), .loadN 2 (.t 12), []⟩ <|
    .op ⟨(some 7), .alloc [(.int .i64 0), (.int .u64 0)], []⟩ <|
    .op ⟨none, .store 2 (.t 7) (.t 13), []⟩ <|
    .nil)) (
  .seq (.seq (.ops (
    .op ⟨(some 14), .mov (.t 5), []⟩ <|
    .op ⟨(some 15), .fieldA 0 (.t 7), []⟩ <|
    .op ⟨(some 16), .load1 (.t 15), []⟩ <|
    .op ⟨(some 17), .call 441 [(.t 14), (.t 16)], []⟩ <|
    .op ⟨(some 18), .not (.t 17), []⟩ <|
    .op ⟨(some 19), .mov (.t 18), []⟩ <|
    .grd 19 false [⟨(some 20), .fieldA 1 (.t 7), []⟩,
        ⟨(some 21), .load1 (.t 20), []⟩,
        ⟨(some 22), .fieldA 0 (.t 7), []⟩,
        ⟨(some 23), .load1 (.t 22), []⟩,
        ⟨(some 24), .call 484 [(.t 21), (.t 23)], []⟩,
        ⟨(some 25), .not (.t 24), []⟩] <|
    .op ⟨(some 26), .pick (.t 19) (.c (.bool true)) (.t 25), []⟩ <|
    .nil)) (
  .cond (.t 26) (.seq (.ops (
      .op ⟨(some 2), .mov (.c (.int .u64 0)), []⟩ <|
      .op ⟨(some 3), .mov (.c (.bool false)), []⟩ <|
      .nil)) (
    .ret)) (.skip))) (
  .seq (.ops (
    .op ⟨(some 27), .mov (.t 4), []⟩ <|
    .op ⟨(some 28), .fieldA 1 (.t 7), []⟩ <|
    .op ⟨(some 29), .load1 (.t 28), []⟩ <|
    .op ⟨(some 30), .mov (.t 5), []⟩ <|
    .op ⟨(some 31), .shift true .u64 .i64 (.t 29) (.t 30), []⟩ <|
    .op ⟨(some 32), .arith .or .u64 (.t 27) (.t 31), []⟩ <|
    .op ⟨(some 4), .mov (.t 32), []⟩ <|
    .nil)) (
  .ops (
    .op ⟨(some 33), .mov (.t 5), []⟩ <|
    .op ⟨(some 34), .fieldA 0 (.t 7), []⟩ <|
    .op ⟨(some 35), .load1 (.t 34), []⟩ <|
    .op ⟨(some 36), .arith .add .i64 (.t 33) (.t 35), []⟩ <|
    .op ⟨(some 5), .mov (.t 36), []⟩ <|
    .nil)))))) (
  .ops (
    .op ⟨(some 37), .arith .add .i64 (.t 10) (.c (.int .i64 1)), []⟩ <|
    .op ⟨(some 10), .mov (.t 37), []⟩ <|
    .nil))))

def word_Pack_c0 : ACode :=
  .seq (.ops (
    .op ⟨(some 38), .mov (.t 4), []⟩ <|
    .op ⟨(some 2), .mov (.t 38), []⟩ <|
    .op ⟨(some 3), .mov (.c (.bool true)), []⟩ <|
    .nil)) (
  .ret)

/-- 443: withy/word.Pack -/
def word_Pack : AFunc where
  closed := false
  nparams := 1
  ntmps := 39
  results := [.tmp 2, .tmp 3]
  body := .seq (.ops (
      .op ⟨(some 2), .mov (.c (.int .u64 0)), []⟩ <|
      .op ⟨(some 3), .mov (.c (.bool false)), []⟩ <|
      .nil)) (
    .seq (.ops (
      .op ⟨(some 4), .mov (.c (.int .u64 0)), []⟩ <|
      .nil)) (
    .seq (.ops (
      .op ⟨(some 5), .mov (.c (.int .i64 0)), []⟩ <|
      .nil)) (
    .seq (.seq (.ops (
      .op ⟨(some 8), .mov (.t 0), []⟩ <|
      .op ⟨(some 9), .lenSl (.t 8), []⟩ <|
      .op ⟨(some 10), .mov (.c (.int .i64 0)), []⟩ <|
      .nil)) (
    .block 0 (.loop [4, 5, 8, 9, 10] [2, 3, 4] (word_Pack_c1)))) (
    word_Pack_c0))))

def word_Pack_hs : List (List Nat × List Nat) := [([4, 5, 8, 9, 10], [2, 3, 4])]

end Wm.F
end

section
/- PRINTED by my tool (wip/wm/tool/Gen.lean): a function as one of my machine. -/
namespace Wm.F
open Wm
set_option maxRecDepth 100000

/-- 462: withy/tag.slots -/
def tag_slots : AFunc where
  closed := true
  nparams := 1
  ntmps := 9
  results := [.tmp 2]
  body := .seq (.ops (
      .op ⟨(some 2), .mov (.c (.bool false)), []⟩ <|
      .nil)) (
    .seq (.ops (
      .op ⟨(some 3), .mov (.t 0), []⟩ <|
      .op ⟨(some 4), .cmp .geq .i64 (.t 3) (.c (.int .i64 (-1))), []⟩ <|
      .op ⟨(some 5), .mov (.t 4), []⟩ <|
      .grd 5 true [⟨(some 6), .mov (.t 0), []⟩,
          ⟨(some 7), .cmp .lss .i64 (.t 6) (.c (.int .i64 64)), []⟩] <|
      .op ⟨(some 8), .pick (.t 5) (.t 7) (.c (.bool false)), []⟩ <|
      .op ⟨(some 2), .mov (.t 8), []⟩ <|
      .nil)) (
    .ret))

def tag_slots_hs : List (List Nat × List Nat) := []

end Wm.F
end

section
/- PRINTED by my tool (wip/wm/tool/Gen.lean): a function as one of my machine. -/
namespace Wm.F
open Wm
set_option maxRecDepth 100000

/-- 267: withy/head.Shaded -/
def head_Shaded : AFunc where
  closed := true
  nparams := 2
  ntmps := 31
  results := [.tmp 4, .tmp 5]
  body := .seq (.ops (
      .op ⟨(some 4), .mov (.c (.int .u64 0)), []⟩ <|
      .op ⟨(some 5), .mov (.c (.bool false)), []⟩ <|
      .nil)) (
    .seq (.ops (
      .op ⟨(some 9), .mov (.t 0), []⟩ <|
      .op ⟨(some 10), .call 380 [(.t 9)], []⟩ <|
      .op ⟨(some 8), .mov (.t 10), []⟩ <|
      .op ⟨(some 11), .extract (.t 8) 0, []⟩ <|
      .op ⟨(some 12), .extract (.t 8) 1, []⟩ <|
      .op ⟨(some 6), .alloc [(.int .i64 0), (.int .i64 0), (.bool false), (.int .i64 0), (.int .i64 0), (.int .i64 0)], []⟩ <|
      .op ⟨none, .store 6 (.t 6) (.t 11), []⟩ <|
      .op ⟨(some 7), .mov (.t 12), []⟩ <|
      .nil)) (
    .seq (.seq (.ops (
      .op ⟨(some 13), .mov (.t 7), []⟩ <|
      .op ⟨(some 14), .not (.t 13), []⟩ <|
      .op ⟨(some 15), .mov (.t 14), []⟩ <|
      .grd 15 false [⟨(some 16), .fieldA 1 (.t 6), []⟩,
          ⟨(some 17), .load1 (.t 16), []⟩,
          ⟨(some 18), .mov (.t 1), []⟩,
          ⟨(some 19), .call 381 [(.t 18)], [{ g := (some (15, false)), op := .load1 (.t 16), d := 17 }]⟩,
          ⟨(some 20), .cmp .eql .i64 (.t 17) (.t 19), []⟩] <|
      .op ⟨(some 21), .pick (.t 15) (.c (.bool true)) (.t 20), []⟩ <|
      .nil)) (
    .cond (.t 21) (.seq (.ops (
        .op ⟨(some 22), .mov (.t 0), []⟩ <|
        .op ⟨(some 4), .mov (.t 22), []⟩ <|
        .op ⟨(some 5), .mov (.c (.bool false)), []⟩ <|
        .nil)) (
      .ret)) (.skip))) (
    .seq (.ops (
      .op ⟨(some 23), .mov (.t 1), []⟩ <|
      .op ⟨(some 24), .call 381 [(.t 23)], []⟩ <|
      .op ⟨(some 25), .fieldA 1 (.t 6), []⟩ <|
      .op ⟨none, .store 1 (.t 25) (.t 24), []⟩ <|
      .op ⟨(some 26), .fieldA 2 (.t 6), []⟩ <|
      .op ⟨none, .store 1 (.t 26) (.c (.bool true)), []⟩ <|
      .nil)) (
    .seq (.ops (
      .op ⟨(some 27), .loadN 6 (.t 6), []⟩ <|
      .op ⟨(some 28), .call 382 [(.t 27)], []⟩ <|
      .op ⟨(some 29), .extract (.t 28) 0, []⟩ <|
      .op ⟨(some 30), .extract (.t 28) 1, []⟩ <|
      .op ⟨(some 4), .mov (.t 29), []⟩ <|
      .op ⟨(some 5), .mov (.t 30), []⟩ <|
      .nil)) (
    .ret)))))

def head_Shaded_hs : List (List Nat × List Nat) := []

end Wm.F
end

section
/- PRINTED by my tool (wip/wm/tool/Gen.lean): a function as one of my machine. -/
namespace Wm.F
open Wm
set_option maxRecDepth 100000

/-- 268: (*withy/mem.Mem).Add -/
def mem_Mem_Add : AFunc where
  closed := false
  nparams := 3
  ntmps := 30
  results := [.tmp 6]
  body := .seq (.ops (
      .op ⟨(some 6), .mov (.c (.int .u64 0)), []⟩ <|
      .nil)) (
    .seq (.seq (.ops (
      .op ⟨(some 7), .mov (.t 0), []⟩ <|
      .op ⟨(some 8), .mov (.t 1), []⟩ <|
      .op ⟨(some 9), .call 346 [(.t 7), (.t 8)], []⟩ <|
      .op ⟨(some 10), .not (.t 9), []⟩ <|
      .nil)) (
    .cond (.t 10) (.seq (.ops (
        .op ⟨(some 6), .mov (.c (.int .u64 0)), []⟩ <|
        .nil)) (
      .ret)) (.skip))) (
    .seq (.ops (
      .op ⟨(some 11), .mov (.t 0), []⟩ <|
      .op ⟨(some 12), .mov (.t 1), []⟩ <|
      .op ⟨(some 13), .mov (.t 0), []⟩ <|
      .op ⟨(some 14), .nilc (.t 13), []⟩ <|
      .op ⟨(some 15), .fieldA 0 (.t 14), []⟩ <|
      .op ⟨(some 16), .load1 (.t 15), []⟩ <|
      .op ⟨(some 17), .mov (.t 1), []⟩ <|
      .op ⟨(some 18), .indexA 1 (.t 16) (.t 17), []⟩ <|
      .op ⟨(some 19), .load1 (.t 18), []⟩ <|
      .op ⟨(some 20), .mov (.t 2), []⟩ <|
      .op ⟨(some 21), .arith .add .u64 (.t 19) (.t 20), []⟩ <|
      .op ⟨(some 22), .call 347 [(.t 11), (.c (.int .i64 4)), (.t 12), (.t 21)], []⟩ <|
      .nil)) (
    .seq (.ops (
      .op ⟨(some 23), .mov (.t 0), []⟩ <|
      .op ⟨(some 24), .nilc (.t 23), []⟩ <|
      .op ⟨(some 25), .fieldA 0 (.t 24), []⟩ <|
      .op ⟨(some 26), .load1 (.t 25), []⟩ <|
      .op ⟨(some 27), .mov (.t 1), []⟩ <|
      .op ⟨(some 28), .indexA 1 (.t 26) (.t 27), []⟩ <|
      .op ⟨(some 29), .load1 (.t 28), []⟩ <|
      .op ⟨(some 6), .mov (.t 29), []⟩ <|
      .nil)) (
    .ret))))

def mem_Mem_Add_hs : List (List Nat × List Nat) := []

end Wm.F
end

section
/- PRINTED by my tool (wip/wm/tool/Gen.lean): a function as one of my machine. -/
namespace Wm.F
open Wm
set_option maxRecDepth 100000

/-- 318: withy/tag.EntryParts -/
def tag_EntryParts : AFunc where
  closed := true
  nparams := 1
  ntmps := 10
  results := [.tmp 2, .tmp 3]
  body := .seq (.ops (
      .op ⟨(some 2), .mov (.c (.int .u64 0)), []⟩ <|
      .op ⟨(some 3), .mov (.c (.int .i64 0)), []⟩ <|
      .nil)) (
    .seq (.ops (
      .op ⟨(some 4), .mov (.t 0), []⟩ <|
      .op ⟨(some 5), .call 396 [(.t 4), (.c (.int .i64 32)), (.c (.int .i64 32))], []⟩ <|
      .op ⟨(some 6), .mov (.t 0), []⟩ <|
      .op ⟨(some 7), .call 396 [(.t 6), (.c (.int .i64 0)), (.c (.int .i64 32))], []⟩ <|
      .op ⟨(some 8), .conv .i64 (.t 7), []⟩ <|
      .op ⟨(some 9), .arith .sub .i64 (.t 8) (.c (.int .i64 1)), []⟩ <|
      .op ⟨(some 2), .mov (.t 5), []⟩ <|
      .op ⟨(some 3), .mov (.t 9), []⟩ <|
      .nil)) (
    .ret))

def tag_EntryParts_hs : List (List Nat × List Nat) := []

end Wm.F
end

section
/- PRINTED by my tool (wip/wm/tool/Gen.lean): a function as one of my machine. -/
namespace Wm.F
open Wm
set_option maxRecDepth 100000

/-- 319: withy/plan.Entry -/
def plan_Entry : AFunc where
  closed := true
  nparams := 3
  ntmps := 13
  results := [.tmp 6]
  body := .seq (.ops (
      .op ⟨(some 3), .box (.t 0), []⟩ <|
      .op ⟨(some 6), .mov (.c (.int .i64 0)), []⟩ <|
      .nil)) (
    .seq (.ops (
      .op ⟨(some 7), .loadN 6 (.t 3), []⟩ <|
      .op ⟨(some 8), .mov (.t 1), []⟩ <|
      .op ⟨(some 9), .fieldA 3 (.t 3), []⟩ <|
      .op ⟨(some 10), .load1 (.t 9), []⟩ <|
      .op ⟨(some 11), .mov (.t 2), []⟩ <|
      .op ⟨(some 12), .call 397 [(.t 7), (.t 8), (.c (.int .i64 1)), (.t 10), (.t 11)], []⟩ <|
      .op ⟨(some 6), .mov (.t 12), []⟩ <|
      .nil)) (
    .ret))

def plan_Entry_hs : List (List Nat × List Nat) := []

end Wm.F
end

section
/- PRINTED by my tool (wip/wm/tool/Gen.lean): a function as one of my machine. -/
namespace Wm.F
open Wm
set_option maxRecDepth 100000

/-- 320: (*withy/mark.Mark).named -/
def mark_Mark_named : AFunc where
  closed := false
  nparams := 2
  ntmps := 16
  results := [.tmp 4]
  body := .seq (.ops (
      .op ⟨(some 4), .mov (.c (.int .i64 0)), []⟩ <|
      .nil)) (
    .seq (.seq (.ops (
      .op ⟨(some 5), .mov (.t 1), []⟩ <|
      .op ⟨(some 6), .mov (.t 0), []⟩ <|
      .op ⟨(some 7), .nilc (.t 6), []⟩ <|
      .op ⟨(some 8), .fieldA 2 (.t 7), []⟩ <|
      .op ⟨(some 9), .fieldA 0 (.t 8), []⟩ <|
      .op ⟨(some 10), .load1 (.t 9), []⟩ <|
      .op ⟨(some 11), .conv .u64 (.t 10), []⟩ <|
      .op ⟨(some 12), .cmp .gtr .u64 (.t 5) (.t 11), []⟩ <|
      .nil)) (
    .cond (.t 12) (.seq (.ops (
        .op ⟨(some 4), .mov (.c (.int .i64 (-1))), []⟩ <|
        .nil)) (
      .ret)) (.skip))) (
    .seq (.ops (
      .op ⟨(some 13), .mov (.t 1), []⟩ <|
      .op ⟨(some 14), .conv .i64 (.t 13), []⟩ <|
      .op ⟨(some 15), .arith .sub .i64 (.t 14) (.c (.int .i64 1)), []⟩ <|
      .op ⟨(some 4), .mov (.t 15), []⟩ <|
      .nil)) (
    .ret)))

def mark_Mark_named_hs : List (List Nat × List Nat) := []

end Wm.F
end

section
/- PRINTED by my tool (wip/wm/tool/Gen.lean): a function as one of my machine. -/
namespace Wm.F
open Wm
set_option maxRecDepth 100000

/-- 321: withy/plan.Start -/
def plan_Start : AFunc where
  closed := true
  nparams := 2
  ntmps := 11
  results := [.tmp 4]
  body := .seq (.ops (
      .op ⟨(some 2), .box (.t 0), []⟩ <|
      .op ⟨(some 4), .mov (.c (.int .i64 0)), []⟩ <|
      .nil)) (
    .seq (.ops (
      .op ⟨(some 5), .loadN 6 (.t 2), []⟩ <|
      .op ⟨(some 6), .mov (.t 1), []⟩ <|
      .op ⟨(some 7), .fieldA 3 (.t 2), []⟩ <|
      .op ⟨(some 8), .load1 (.t 7), []⟩ <|
      .op ⟨(some 9), .arith .add .i64 (.c (.int .i64 1)) (.t 8), []⟩ <|
      .op ⟨(some 10), .call 397 [(.t 5), (.t 6), (.t 9), (.c (.int .i64 2)), (.c (.int .i64 1))], []⟩ <|
      .op ⟨(some 4), .mov (.t 10), []⟩ <|
      .nil)) (
    .ret))

def plan_Start_hs : List (List Nat × List Nat) := []

end Wm.F
end

section
/- PRINTED by my tool (wip/wm/tool/Gen.lean): a function as one of my machine. -/
namespace Wm.F
open Wm
set_option maxRecDepth 100000

/-- 393: withy/plan.View -/
def plan_View : AFunc where
  closed := true
  nparams := 2
  ntmps := 11
  results := [.tmp 4]
  body := .seq (.ops (
      .op ⟨(some 2), .box (.t 0), []⟩ <|
      .op ⟨(some 4), .mov (.c (.int .i64 0)), []⟩ <|
      .nil)) (
    .seq (.ops (
      .op ⟨(some 5), .loadN 6 (.t 2), []⟩ <|
      .op ⟨(some 6), .mov (.t 1), []⟩ <|
      .op ⟨(some 7), .fieldA 3 (.t 2), []⟩ <|
      .op ⟨(some 8), .load1 (.t 7), []⟩ <|
      .op ⟨(some 9), .arith .add .i64 (.c (.int .i64 1)) (.t 8), []⟩ <|
      .op ⟨(some 10), .call 397 [(.t 5), (.t 6), (.t 9), (.c (.int .i64 2)), (.c (.int .i64 0))], []⟩ <|
      .op ⟨(some 4), .mov (.t 10), []⟩ <|
      .nil)) (
    .ret))

def plan_View_hs : List (List Nat × List Nat) := []

end Wm.F
end

section
/- PRINTED by my tool (wip/wm/tool/Gen.lean): a function as one of my machine. -/
namespace Wm.F
open Wm
set_option maxRecDepth 100000

/-- 399: (*withy/mark.Mark).client -/
def mark_Mark_client : AFunc where
  closed := false
  nparams := 2
  ntmps := 28
  results := []
  body := .seq (.ops (
      .op ⟨(some 4), .mov (.t 0), []⟩ <|
      .op ⟨(some 5), .nilc (.t 4), []⟩ <|
      .op ⟨(some 6), .fieldA 11 (.t 5), []⟩ <|
      .op ⟨(some 7), .load1 (.t 6), []⟩ <|
      .op ⟨(some 8), .arith .add .i64 (.t 7) (.c (.int .i64 1)), []⟩ <|
      .op ⟨(some 9), .nilc (.t 4), []⟩ <|
      .op ⟨(some 10), .fieldA 11 (.t 9), []⟩ <|
      .op ⟨none, .store 1 (.t 10) (.t 8), []⟩ <|
      .nil)) (
    .seq (.ops (
      .op ⟨(some 11), .mov (.t 0), []⟩ <|
      .op ⟨(some 12), .nilc (.t 11), []⟩ <|
      .op ⟨(some 13), .fieldA 11 (.t 12), []⟩ <|
      .op ⟨(some 14), .load1 (.t 13), []⟩ <|
      .op ⟨(some 15), .mov (.t 0), []⟩ <|
      .op ⟨(some 16), .nilc (.t 15), []⟩ <|
      .op ⟨(some 17), .fieldA 2 (.t 16), []⟩ <|
      .op ⟨(some 18), .fieldA 2 (.t 17), []⟩ <|
      .op ⟨(some 19), .load1 (.t 18), []⟩ <|
      .op ⟨(some 20), .cmp .eql .i64 (.t 14) (.t 19), []⟩ <|
      .nil)) (
    .cond (.t 20) (.ops (
        .op ⟨(some 21), .mov (.t 0), []⟩ <|
        .op ⟨(some 22), .mov (.t 0), []⟩ <|
        .op ⟨(some 23), .mov (.t 1), []⟩ <|
        .op ⟨(some 24), .nilc (.t 21), []⟩ <|
        .op ⟨(some 25), .fieldA 11 (.t 24), []⟩ <|
        .op ⟨none, .store 1 (.t 25) (.c (.int .i64 0)), []⟩ <|
        .op ⟨(some 26), .nilc (.t 22), []⟩ <|
        .op ⟨(some 27), .fieldA 9 (.t 26), []⟩ <|
        .op ⟨none, .store 1 (.t 27) (.t 23), []⟩ <|
        .nil)) (.skip)))

def mark_Mark_client_hs : List (List Nat × List Nat) := []

end Wm.F
end

section
/- PRINTED by my tool (wip/wm/tool/Gen.lean): a function as one of my machine. -/
namespace Wm.F
open Wm
set_option maxRecDepth 100000

/-- 400: (*withy/mark.Mark).finds -/
def mark_Mark_finds : AFunc where
  closed := false
  nparams := 2
  ntmps := 21
  results := []
  body := .ops (
      .op ⟨(some 4), .mov (.t 0), []⟩ <|
      .op ⟨(some 5), .mov (.t 0), []⟩ <|
      .op ⟨(some 6), .mov (.t 1), []⟩ <|
      .op ⟨(some 7), .mov (.t 0), []⟩ <|
      .op ⟨(some 8), .nilc (.t 7), []⟩ <|
      .op ⟨(some 9), .fieldA 2 (.t 8), []⟩ <|
      .op ⟨(some 10), .loadN 6 (.t 9), []⟩ <|
      .op ⟨(some 11), .mov (.t 1), []⟩ <|
      .op ⟨(some 12), .mov (.t 0), []⟩ <|
      .op ⟨(some 13), .nilc (.t 12), []⟩ <|
      .op ⟨(some 14), .fieldA 8 (.t 13), []⟩ <|
      .op ⟨(some 15), .load1 (.t 14), []⟩ <|
      .op ⟨(some 16), .call 90 [(.t 10), (.t 11), (.t 15)], []⟩ <|
      .op ⟨(some 17), .nilc (.t 4), []⟩ <|
      .op ⟨(some 18), .fieldA 20 (.t 17), []⟩ <|
      .op ⟨none, .store 1 (.t 18) (.t 6), []⟩ <|
      .op ⟨(some 19), .nilc (.t 5), []⟩ <|
      .op ⟨(some 20), .fieldA 19 (.t 19), []⟩ <|
      .op ⟨none, .store 1 (.t 20) (.t 16), []⟩ <|
      .nil)

def mark_Mark_finds_hs : List (List Nat × List Nat) := []

end Wm.F
end

section
/- PRINTED by my tool (wip/wm/tool/Gen.lean): a function as one of my machine. -/
namespace Wm.F
open Wm
set_option maxRecDepth 100000

/-- 401: (*withy/mark.Mark).look -/
def mark_Mark_look : AFunc where
  closed := false
  nparams := 3
  ntmps := 71
  results := []
  body := .seq (.ops (
      .op ⟨(some 8), .mov (.t 0), []⟩ <|
      .op ⟨(some 9), .mov (.t 0), []⟩ <|
      .op ⟨(some 10), .mov (.t 0), []⟩ <|
      .op ⟨(some 11), .mov (.t 2), []⟩ <|
      .op ⟨(some 12), .mov (.t 1), []⟩ <|
      .op ⟨(some 13), .mov (.t 0), []⟩ <|
      .op ⟨(some 14), .nilc (.t 13), []⟩ <|
      .op ⟨(some 15), .fieldA 2 (.t 14), []⟩ <|
      .op ⟨(some 16), .loadN 6 (.t 15), []⟩ <|
      .op ⟨(some 17), .mov (.t 2), []⟩ <|
      .op ⟨(some 18), .call 261 [(.t 16), (.t 17)], []⟩ <|
      .op ⟨(some 19), .call 266 [(.t 12), (.t 18)], []⟩ <|
      .op ⟨(some 20), .nilc (.t 8), []⟩ <|
      .op ⟨(some 21), .fieldA 14 (.t 20), []⟩ <|
      .op ⟨none, .store 1 (.t 21) (.t 11), []⟩ <|
      .op ⟨(some 22), .nilc (.t 9), []⟩ <|
      .op ⟨(some 23), .fieldA 16 (.t 22), []⟩ <|
      .op ⟨none, .store 1 (.t 23) (.t 19), []⟩ <|
      .op ⟨(some 24), .nilc (.t 10), []⟩ <|
      .op ⟨(some 25), .fieldA 12 (.t 24), []⟩ <|
      .op ⟨none, .store 1 (.t 25) (.c (.int .i64 0)), []⟩ <|
      .nil)) (
    .seq (.ops (
      .op ⟨(some 27), .mov (.t 0), []⟩ <|
      .op ⟨(some 28), .nilc (.t 27), []⟩ <|
      .op ⟨(some 29), .fieldA 16 (.t 28), []⟩ <|
      .op ⟨(some 30), .load1 (.t 29), []⟩ <|
      .op ⟨(some 31), .call 265 [(.t 30)], []⟩ <|
      .op ⟨(some 26), .mov (.t 31), []⟩ <|
      .op ⟨(some 32), .extract (.t 26) 0, []⟩ <|
      .op ⟨(some 33), .extract (.t 26) 1, []⟩ <|
      .op ⟨(some 6), .alloc [(.int .i64 0), (.int .i64 0), (.bool false), (.int .i64 0), (.int .i64 0), (.int .i64 0)], []⟩ <|
      .op ⟨none, .store 6 (.t 6) (.t 32), []⟩ <|
      .op ⟨(some 7), .mov (.t 33), []⟩ <|
      .nil)) (
    .block 0 (.seq (.ops (
      .op ⟨(some 38), .mov (.t 7), []⟩ <|
      .op ⟨(some 39), .not (.t 38), []⟩ <|
      .op ⟨(some 40), .mov (.t 39), []⟩ <|
      .grd 40 false [⟨(some 41), .fieldA 2 (.t 6), []⟩,
          ⟨(some 42), .load1 (.t 41), []⟩,
          ⟨(some 43), .not (.t 42), []⟩] <|
      .op ⟨(some 44), .pick (.t 40) (.c (.bool true)) (.t 43), []⟩ <|
      .op ⟨(some 37), .mov (.t 44), []⟩ <|
      .nil)) (
    .cond (.t 37) (.ops (
        .op ⟨(some 45), .mov (.t 0), []⟩ <|
        .op ⟨(some 46), .call 403 [(.t 45)], []⟩ <|
        .nil)) (.seq (.ops (
        .op ⟨(some 48), .fieldA 0 (.t 6), []⟩ <|
        .op ⟨(some 49), .load1 (.t 48), []⟩ <|
        .op ⟨(some 50), .cmp .eql .i64 (.t 49) (.c (.int .i64 2)), []⟩ <|
        .op ⟨(some 47), .mov (.t 50), []⟩ <|
        .nil)) (
      .cond (.t 47) (.ops (
          .op ⟨(some 51), .mov (.t 0), []⟩ <|
          .op ⟨(some 52), .nilc (.t 51), []⟩ <|
          .op ⟨(some 53), .fieldA 9 (.t 52), []⟩ <|
          .op ⟨none, .store 1 (.t 53) (.c (.int .i64 7)), []⟩ <|
          .nil)) (.seq (.ops (
          .op ⟨(some 55), .fieldA 0 (.t 6), []⟩ <|
          .op ⟨(some 56), .load1 (.t 55), []⟩ <|
          .op ⟨(some 57), .cmp .eql .i64 (.t 56) (.c (.int .i64 1)), []⟩ <|
          .op ⟨(some 58), .mov (.t 57), []⟩ <|
          .grd 58 true [⟨(some 59), .fieldA 3 (.t 6), []⟩,
              ⟨(some 60), .load1 (.t 59), []⟩,
              ⟨(some 61), .cmp .gtr .i64 (.t 60) (.c (.int .i64 0)), []⟩] <|
          .op ⟨(some 62), .pick (.t 58) (.t 61) (.c (.bool false)), []⟩ <|
          .op ⟨(some 54), .mov (.t 62), []⟩ <|
          .nil)) (
        .cond (.t 54) (.ops (
            .op ⟨(some 63), .mov (.t 0), []⟩ <|
            .op ⟨(some 64), .mov (.t 0), []⟩ <|
            .op ⟨(some 65), .fieldA 3 (.t 6), []⟩ <|
            .op ⟨(some 66), .load1 (.t 65), []⟩ <|
            .op ⟨(some 67), .nilc (.t 63), []⟩ <|
            .op ⟨(some 68), .fieldA 15 (.t 67), []⟩ <|
            .op ⟨none, .store 1 (.t 68) (.t 66), []⟩ <|
            .op ⟨(some 69), .nilc (.t 64), []⟩ <|
            .op ⟨(some 70), .fieldA 9 (.t 69), []⟩ <|
            .op ⟨none, .store 1 (.t 70) (.c (.int .i64 6)), []⟩ <|
            .nil)) (.ops (
            .op ⟨(some 34), .mov (.t 0), []⟩ <|
            .op ⟨(some 35), .nilc (.t 34), []⟩ <|
            .op ⟨(some 36), .fieldA 9 (.t 35), []⟩ <|
            .op ⟨none, .store 1 (.t 36) (.c (.int .i64 11)), []⟩ <|
            .nil))))))))))

def mark_Mark_look_hs : List (List Nat × List Nat) := []

end Wm.F
end

section
/- PRINTED by my tool (wip/wm/tool/Gen.lean): a function as one of my machine. -/
namespace Wm.F
open Wm
set_option maxRecDepth 100000

/-- 203: (*withy/mem.Mem).Store -/
def mem_Mem_Store : AFunc where
  closed := false
  nparams := 3
  ntmps := 15
  results := [.tmp 6]
  body := .seq (.ops (
      .op ⟨(some 6), .mov (.c (.bool false)), []⟩ <|
      .nil)) (
    .seq (.seq (.ops (
      .op ⟨(some 7), .mov (.t 0), []⟩ <|
      .op ⟨(some 8), .mov (.t 1), []⟩ <|
      .op ⟨(some 9), .call 346 [(.t 7), (.t 8)], []⟩ <|
      .op ⟨(some 10), .not (.t 9), []⟩ <|
      .nil)) (
    .cond (.t 10) (.seq (.ops (
        .op ⟨(some 6), .mov (.c (.bool false)), []⟩ <|
        .nil)) (
      .ret)) (.skip))) (
    .seq (.ops (
      .op ⟨(some 11), .mov (.t 0), []⟩ <|
      .op ⟨(some 12), .mov (.t 1), []⟩ <|
      .op ⟨(some 13), .mov (.t 2), []⟩ <|
      .op ⟨(some 14), .call 347 [(.t 11), (.c (.int .i64 2)), (.t 12), (.t 13)], []⟩ <|
      .nil)) (
    .seq (.ops (
      .op ⟨(some 6), .mov (.c (.bool true)), []⟩ <|
      .nil)) (
    .ret))))

def mem_Mem_Store_hs : List (List Nat × List Nat) := []

end Wm.F
end

section
/- PRINTED by my tool (wip/wm/tool/Gen.lean): a function as one of my machine. -/
namespace Wm.F
open Wm
set_option maxRecDepth 100000

/-- 305: withy/plan.Body -/
def plan_Body : AFunc where
  closed := true
  nparams := 3
  ntmps := 18
  results := [.tmp 6]
  body := .seq (.ops (
      .op ⟨(some 3), .box (.t 0), []⟩ <|
      .op ⟨(some 6), .mov (.c (.int .i64 0)), []⟩ <|
      .nil)) (
    .seq (.seq (.ops (
      .op ⟨(some 7), .mov (.t 2), []⟩ <|
      .op ⟨(some 8), .cmp .lss .i64 (.t 7) (.c (.int .i64 0)), []⟩ <|
      .op ⟨(some 9), .mov (.t 8), []⟩ <|
      .grd 9 false [⟨(some 10), .mov (.t 2), []⟩,
          ⟨(some 11), .cmp .gtr .i64 (.t 10) (.c (.int .i64 8)), []⟩] <|
      .op ⟨(some 12), .pick (.t 9) (.c (.bool true)) (.t 11), []⟩ <|
      .nil)) (
    .cond (.t 12) (.seq (.ops (
        .op ⟨(some 6), .mov (.c (.int .i64 (-1))), []⟩ <|
        .nil)) (
      .ret)) (.skip))) (
    .seq (.ops (
      .op ⟨(some 13), .loadN 6 (.t 3), []⟩ <|
      .op ⟨(some 14), .mov (.t 1), []⟩ <|
      .op ⟨(some 15), .mov (.t 2), []⟩ <|
      .op ⟨(some 16), .arith .add .i64 (.c (.int .i64 2)) (.t 15), []⟩ <|
      .op ⟨(some 17), .call 375 [(.t 13), (.t 14), (.t 16)], []⟩ <|
      .op ⟨(some 6), .mov (.t 17), []⟩ <|
      .nil)) (
    .ret)))

def plan_Body_hs : List (List Nat × List Nat) := []

end Wm.F
end

section
/- PRINTED by my tool (wip/wm/tool/Gen.lean): a function as one of my machine. -/
namespace Wm.F
open Wm
set_option maxRecDepth 100000

/-- 402: withy/head.Blackened -/
def head_Blackened : AFunc where
  closed := true
  nparams := 1
  ntmps := 24
  results := [.tmp 2, .tmp 3]
  body := .seq (.ops (
      .op ⟨(some 2), .mov (.c (.int .u64 0)), []⟩ <|
      .op ⟨(some 3), .mov (.c (.bool false)), []⟩ <|
      .nil)) (
    .seq (.ops (
      .op ⟨(some 7), .mov (.t 0), []⟩ <|
      .op ⟨(some 8), .call 265 [(.t 7)], []⟩ <|
      .op ⟨(some 6), .mov (.t 8), []⟩ <|
      .op ⟨(some 9), .extract (.t 6) 0, []⟩ <|
      .op ⟨(some 10), .extract (.t 6) 1, []⟩ <|
      .op ⟨(some 4), .alloc [(.int .i64 0), (.int .i64 0), (.bool false), (.int .i64 0), (.int .i64 0), (.int .i64 0)], []⟩ <|
      .op ⟨none, .store 6 (.t 4) (.t 9), []⟩ <|
      .op ⟨(some 5), .mov (.t 10), []⟩ <|
      .nil)) (
    .seq (.seq (.ops (
      .op ⟨(some 11), .mov (.t 5), []⟩ <|
      .op ⟨(some 12), .not (.t 11), []⟩ <|
      .op ⟨(some 13), .mov (.t 12), []⟩ <|
      .grd 13 false [⟨(some 14), .fieldA 2 (.t 4), []⟩,
          ⟨(some 15), .load1 (.t 14), []⟩,
          ⟨(some 16), .not (.t 15), []⟩] <|
      .op ⟨(some 17), .pick (.t 13) (.c (.bool true)) (.t 16), []⟩ <|
      .nil)) (
    .cond (.t 17) (.seq (.ops (
        .op ⟨(some 18), .mov (.t 0), []⟩ <|
        .op ⟨(some 2), .mov (.t 18), []⟩ <|
        .op ⟨(some 3), .mov (.c (.bool false)), []⟩ <|
        .nil)) (
      .ret)) (.skip))) (
    .seq (.ops (
      .op ⟨(some 19), .fieldA 2 (.t 4), []⟩ <|
      .op ⟨none, .store 1 (.t 19) (.c (.bool false)), []⟩ <|
      .nil)) (
    .seq (.ops (
      .op ⟨(some 20), .loadN 6 (.t 4), []⟩ <|
      .op ⟨(some 21), .call 382 [(.t 20)], []⟩ <|
      .op ⟨(some 22), .extract (.t 21) 0, []⟩ <|
      .op ⟨(some 23), .extract (.t 21) 1, []⟩ <|
      .op ⟨(some 2), .mov (.t 22), []⟩ <|
      .op ⟨(some 3), .mov (.t 23), []⟩ <|
      .nil)) (
    .ret)))))

def head_Blackened_hs : List (List Nat × List Nat) := []

end Wm.F
end

section
/- PRINTED by my tool (wip/wm/tool/Gen.lean): a function as one of my machine. -/
namespace Wm.F
open Wm
set_option maxRecDepth 100000

/-- 403: (*withy/mark.Mark).onward -/
def mark_Mark_onward : AFunc where
  closed := false
  nparams := 1
  ntmps := 29
  results := []
  body := .block 0 (.seq (.ops (
      .op ⟨(some 6), .mov (.t 0), []⟩ <|
      .op ⟨(some 7), .nilc (.t 6), []⟩ <|
      .op ⟨(some 8), .fieldA 18 (.t 7), []⟩ <|
      .op ⟨(some 9), .load1 (.t 8), []⟩ <|
      .op ⟨(some 10), .lenSl (.t 9), []⟩ <|
      .op ⟨(some 11), .cmp .gtr .i64 (.t 10) (.c (.int .i64 0)), []⟩ <|
      .op ⟨(some 5), .mov (.t 11), []⟩ <|
      .nil)) (
    .cond (.t 5) (.ops (
        .op ⟨(some 12), .mov (.t 0), []⟩ <|
        .op ⟨(some 13), .nilc (.t 12), []⟩ <|
        .op ⟨(some 14), .fieldA 9 (.t 13), []⟩ <|
        .op ⟨none, .store 1 (.t 14) (.c (.int .i64 5)), []⟩ <|
        .nil)) (.seq (.ops (
        .op ⟨(some 16), .mov (.t 0), []⟩ <|
        .op ⟨(some 17), .nilc (.t 16), []⟩ <|
        .op ⟨(some 18), .fieldA 13 (.t 17), []⟩ <|
        .op ⟨(some 19), .load1 (.t 18), []⟩ <|
        .op ⟨(some 20), .mov (.t 0), []⟩ <|
        .op ⟨(some 21), .nilc (.t 20), []⟩ <|
        .op ⟨(some 22), .fieldA 2 (.t 21), []⟩ <|
        .op ⟨(some 23), .fieldA 0 (.t 22), []⟩ <|
        .op ⟨(some 24), .load1 (.t 23), []⟩ <|
        .op ⟨(some 25), .cmp .lss .i64 (.t 19) (.t 24), []⟩ <|
        .op ⟨(some 15), .mov (.t 25), []⟩ <|
        .nil)) (
      .cond (.t 15) (.ops (
          .op ⟨(some 26), .mov (.t 0), []⟩ <|
          .op ⟨(some 27), .nilc (.t 26), []⟩ <|
          .op ⟨(some 28), .fieldA 9 (.t 27), []⟩ <|
          .op ⟨none, .store 1 (.t 28) (.c (.int .i64 4)), []⟩ <|
          .nil)) (.ops (
          .op ⟨(some 2), .mov (.t 0), []⟩ <|
          .op ⟨(some 3), .nilc (.t 2), []⟩ <|
          .op ⟨(some 4), .fieldA 9 (.t 3), []⟩ <|
          .op ⟨none, .store 1 (.t 4) (.c (.int .i64 14)), []⟩ <|
          .nil))))))

def mark_Mark_onward_hs : List (List Nat × List Nat) := []

end Wm.F
end

section
/- PRINTED by my tool (wip/wm/tool/Gen.lean): a function as one of my machine. -/
namespace Wm.F
open Wm
set_option maxRecDepth 100000

/-- 380: withy/head.lives -/
def head_lives : AFunc where
  closed := true
  nparams := 1
  ntmps := 23
  results := [.cell true 6 2, .tmp 3]
  body := .seq (.ops (
      .op ⟨(some 2), .alloc [(.int .i64 0), (.int .i64 0), (.bool false), (.int .i64 0), (.int .i64 0), (.int .i64 0)], []⟩ <|
      .op ⟨(some 3), .mov (.c (.bool false)), []⟩ <|
      .nil)) (
    .seq (.ops (
      .op ⟨(some 7), .mov (.t 0), []⟩ <|
      .op ⟨(some 8), .call 265 [(.t 7)], []⟩ <|
      .op ⟨(some 6), .mov (.t 8), []⟩ <|
      .op ⟨(some 9), .extract (.t 6) 0, []⟩ <|
      .op ⟨(some 10), .extract (.t 6) 1, []⟩ <|
      .op ⟨(some 4), .alloc [(.int .i64 0), (.int .i64 0), (.bool false), (.int .i64 0), (.int .i64 0), (.int .i64 0)], []⟩ <|
      .op ⟨none, .store 6 (.t 4) (.t 9), []⟩ <|
      .op ⟨(some 5), .mov (.t 10), []⟩ <|
      .nil)) (
    .seq (.ops (
      .op ⟨(some 11), .loadN 6 (.t 4), []⟩ <|
      .op ⟨(some 12), .mov (.t 5), []⟩ <|
      .op ⟨(some 13), .mov (.t 12), []⟩ <|
      .grd 13 true [⟨(some 14), .fieldA 0 (.t 4), []⟩,
          ⟨(some 15), .load1 (.t 14), []⟩,
          ⟨(some 16), .cmp .eql .i64 (.t 15) (.c (.int .i64 1)), []⟩,
          ⟨(some 17), .mov (.t 16), []⟩] <|
      .grd 17 false [⟨(some 18), .fieldA 0 (.t 4), []⟩,
          ⟨(some 19), .load1 (.t 18), []⟩,
          ⟨(some 20), .cmp .eql .i64 (.t 19) (.c (.int .i64 2)), []⟩] <|
      .grd 13 true [⟨(some 21), .pick (.t 17) (.c (.bool true)) (.t 20), []⟩] <|
      .op ⟨(some 22), .pick (.t 13) (.t 21) (.c (.bool false)), []⟩ <|
      .op ⟨none, .store 6 (.t 2) (.t 11), [{ g := (some (17, false)), op := .load1 (.t 18), d := 19 }]⟩ <|
      .op ⟨(some 3), .mov (.t 22), []⟩ <|
      .nil)) (
    .ret)))

def head_lives_hs : List (List Nat × List Nat) := []

end Wm.F
end

section
/- PRINTED by my tool (wip/wm/tool/Gen.lean): a function as one of my machine. -/
namespace Wm.F
open Wm
set_option maxRecDepth 100000

/-- 381: withy/turn.Black -/
def turn_Black : AFunc where
  closed := true
  nparams := 1
  ntmps := 8
  results := [.tmp 2]
  body := .seq (.ops (
      .op ⟨(some 2), .mov (.c (.int .i64 0)), []⟩ <|
      .nil)) (
    .seq (.ops (
      .op ⟨(some 3), .mov (.t 0), []⟩ <|
      .op ⟨(some 4), .call 442 [(.t 3)], []⟩ <|
      .op ⟨(some 5), .arith .add .u64 (.t 4) (.c (.int .u64 1)), []⟩ <|
      .op ⟨(some 6), .arith .rem .u64 (.t 5) (.c (.int .u64 2)), []⟩ <|
      .op ⟨(some 7), .conv .i64 (.t 6), []⟩ <|
      .op ⟨(some 2), .mov (.t 7), []⟩ <|
      .nil)) (
    .ret))

def turn_Black_hs : List (List Nat × List Nat) := []

end Wm.F
end

section
/- PRINTED by my tool (wip/wm/tool/Gen.lean): a function as one of my machine. -/
namespace Wm.F
open Wm
set_option maxRecDepth 100000

def head_Pack_c1 : ACode :=
  .seq (.ops (
    .op ⟨(some 20), .cmp .lss .i64 (.t 19) (.c (.int .i64 5)), []⟩ <|
    .nil)) (
  .seq (.cond (.t 20) (.skip) (.exit 0)) (
  .seq (.block 1 (.seq (.ops (
    .op ⟨(some 21), .indexAgg 5 1 false (.t 18) (.t 19), []⟩ <|
    .op ⟨(some 5), .mov (.t 21), []⟩ <|
    .nil)) (
  .seq (.ops (
    .op ⟨(some 22), .mov (.t 5), []⟩ <|
    .op ⟨(some 23), .cmp .lss .i64 (.t 22) (.c (.int .i64 0)), []⟩ <|
    .nil)) (
  .cond (.t 23) (.seq (.ops (
      .op ⟨(some 2), .mov (.c (.int .u64 0)), []⟩ <|
      .op ⟨(some 3), .mov (.c (.bool false)), []⟩ <|
      .nil)) (
    .ret)) (.skip))))) (
  .ops (
    .op ⟨(some 24), .arith .add .i64 (.t 19) (.c (.int .i64 1)), []⟩ <|
    .op ⟨(some 19), .mov (.t 24), []⟩ <|
    .nil))))

def head_Pack_c0 : ACode :=
  .seq (.ops (
    .op ⟨(some 26), .fieldA 0 (.t 1), []⟩ <|
    .op ⟨(some 27), .load1 (.t 26), []⟩ <|
    .op ⟨(some 28), .conv .u64 (.t 27), []⟩ <|
    .op ⟨(some 29), .build [(.int .i64 0), (.int .u64 0)] [(0, 1, (.c (.int .i64 3))), (1, 1, (.t 28))], []⟩ <|
    .op ⟨(some 30), .fieldA 1 (.t 1), []⟩ <|
    .op ⟨(some 31), .load1 (.t 30), []⟩ <|
    .op ⟨(some 32), .conv .u64 (.t 31), []⟩ <|
    .op ⟨(some 33), .build [(.int .i64 0), (.int .u64 0)] [(0, 1, (.c (.int .i64 1))), (1, 1, (.t 32))], []⟩ <|
    .op ⟨(some 34), .fieldA 2 (.t 1), []⟩ <|
    .op ⟨(some 35), .load1 (.t 34), []⟩ <|
    .op ⟨(some 38), .fieldA 3 (.t 1), []⟩ <|
    .op ⟨(some 39), .load1 (.t 38), []⟩ <|
    .op ⟨(some 40), .conv .u64 (.t 39), []⟩ <|
    .op ⟨(some 41), .build [(.int .i64 0), (.int .u64 0)] [(0, 1, (.c (.int .i64 4))), (1, 1, (.t 40))], []⟩ <|
    .op ⟨(some 42), .build [(.int .i64 0), (.int .u64 0)] [(0, 1, (.c (.int .i64 7)))], []⟩ <|
    .op ⟨(some 43), .fieldA 4 (.t 1), []⟩ <|
    .op ⟨(some 44), .load1 (.t 43), []⟩ <|
    .op ⟨(some 45), .conv .u64 (.t 44), []⟩ <|
    .op ⟨(some 46), .build [(.int .i64 0), (.int .u64 0)] [(0, 1, (.c (.int .i64 32))), (1, 1, (.t 45))], []⟩ <|
    .op ⟨(some 47), .fieldA 5 (.t 1), []⟩ <|
    .op ⟨(some 48), .load1 (.t 47), []⟩ <|
    .op ⟨(some 49), .conv .u64 (.t 48), []⟩ <|
    .op ⟨(some 50), .build [(.int .i64 0), (.int .u64 0)] [(0, 1, (.c (.int .i64 16))), (1, 1, (.t 49))], []⟩ <|
    .op ⟨(some 36), .call 444 [(.t 35)], [{ g := none, op := .load1 (.t 47), d := 48 }, { g := none, op := .load1 (.t 43), d := 44 }, { g := none, op := .load1 (.t 38), d := 39 }, { g := none, op := .load1 (.t 30), d := 31 }, { g := none, op := .load1 (.t 26), d := 27 }]⟩ <|
    .op ⟨(some 37), .build [(.int .i64 0), (.int .u64 0)] [(0, 1, (.c (.int .i64 1))), (1, 1, (.t 36))], []⟩ <|
    .op ⟨(some 51), .buildSl 2 7 [(.int .i64 0), (.int .u64 0)] [(0, 2, (.t 29)), (2, 2, (.t 33)), (4, 2, (.t 37)), (6, 2, (.t 41)), (8, 2, (.t 42)), (10, 2, (.t 46)), (12, 2, (.t 50))], []⟩ <|
    .op ⟨(some 52), .call 443 [(.t 51)], []⟩ <|
    .op ⟨(some 25), .mov (.t 52), []⟩ <|
    .op ⟨(some 53), .extract (.t 25) 0, []⟩ <|
    .op ⟨(some 54), .extract (.t 25) 1, []⟩ <|
    .op ⟨(some 6), .mov (.t 53), []⟩ <|
    .op ⟨(some 7), .mov (.t 54), []⟩ <|
    .nil)) (
  .seq (.seq (.ops (
    .op ⟨(some 55), .mov (.t 7), []⟩ <|
    .op ⟨(some 56), .not (.t 55), []⟩ <|
    .op ⟨(some 57), .mov (.t 56), []⟩ <|
    .grd 57 false [⟨(some 58), .fieldA 0 (.t 1), []⟩,
        ⟨(some 59), .load1 (.t 58), []⟩,
        ⟨(some 60), .cmp .gtr .i64 (.t 59) (.c (.int .i64 4)), []⟩] <|
    .op ⟨(some 61), .pick (.t 57) (.c (.bool true)) (.t 60), []⟩ <|
    .nil)) (
  .cond (.t 61) (.seq (.ops (
      .op ⟨(some 2), .mov (.c (.int .u64 0)), []⟩ <|
      .op ⟨(some 3), .mov (.c (.bool false)), []⟩ <|
      .nil)) (
    .ret)) (.skip))) (
  .seq (.ops (
    .op ⟨(some 62), .mov (.t 6), []⟩ <|
    .op ⟨(some 2), .mov (.t 62), []⟩ <|
    .op ⟨(some 3), .mov (.c (.bool true)), []⟩ <|
    .nil)) (
  .ret)))

/-- 382: withy/head.Pack -/
def head_Pack : AFunc where
  closed := true
  nparams := 1
  ntmps := 63
  results := [.tmp 2, .tmp 3]
  body := .seq (.ops (
      .op ⟨(some 1), .box (.t 0), []⟩ <|
      .op ⟨(some 2), .mov (.c (.int .u64 0)), []⟩ <|
      .op ⟨(some 3), .mov (.c (.bool false)), []⟩ <|
      .nil)) (
    .seq (.seq (.ops (
      .op ⟨(some 8), .fieldA 0 (.t 1), []⟩ <|
      .op ⟨(some 9), .load1 (.t 8), []⟩ <|
      .op ⟨(some 10), .fieldA 1 (.t 1), []⟩ <|
      .op ⟨(some 11), .load1 (.t 10), []⟩ <|
      .op ⟨(some 12), .fieldA 3 (.t 1), []⟩ <|
      .op ⟨(some 13), .load1 (.t 12), []⟩ <|
      .op ⟨(some 14), .fieldA 4 (.t 1), []⟩ <|
      .op ⟨(some 15), .load1 (.t 14), []⟩ <|
      .op ⟨(some 16), .fieldA 5 (.t 1), []⟩ <|
      .op ⟨(some 17), .load1 (.t 16), []⟩ <|
      .op ⟨(some 18), .build [(.int .i64 0), (.int .i64 0), (.int .i64 0), (.int .i64 0), (.int .i64 0)] [(0, 1, (.t 9)), (1, 1, (.t 11)), (2, 1, (.t 13)), (3, 1, (.t 15)), (4, 1, (.t 17))], []⟩ <|
      .op ⟨(some 19), .mov (.c (.int .i64 0)), []⟩ <|
      .nil)) (
    .block 0 (.loop [1, 18, 19] [1, 2, 3] (head_Pack_c1)))) (
    head_Pack_c0))

def head_Pack_hs : List (List Nat × List Nat) := [([1, 18, 19], [1, 2, 3])]

end Wm.F
end

section
/- PRINTED by my tool (wip/wm/tool/Gen.lean): a function as one of my machine. -/
namespace Wm.F
open Wm
set_option maxRecDepth 100000

def word_Unpack_c1 : ACode :=
  .seq (.ops (
    .op ⟨(some 13), .cmp .lss .i64 (.t 12) (.t 11), []⟩ <|
    .nil)) (
  .seq (.cond (.t 13) (.skip) (.exit 0)) (
  .seq (.block 1 (.seq (.ops (
    .op ⟨(some 14), .indexA 1 (.t 10) (.t 12), []⟩ <|
    .op ⟨(some 15), .load1 (.t 14), []⟩ <|
    .op ⟨(some 9), .mov (.t 15), []⟩ <|
    .nil)) (
  .seq (.seq (.ops (
    .op ⟨(some 16), .mov (.t 7), []⟩ <|
    .op ⟨(some 17), .mov (.t 9), []⟩ <|
    .op ⟨(some 18), .call 441 [(.t 16), (.t 17)], []⟩ <|
    .op ⟨(some 19), .not (.t 18), []⟩ <|
    .nil)) (
  .cond (.t 19) (.seq (.ops (
      .op ⟨(some 4), .mov (.c .nilsl), []⟩ <|
      .op ⟨(some 5), .mov (.c (.bool false)), []⟩ <|
      .nil)) (
    .ret)) (.skip))) (
  .seq (.ops (
    .op ⟨(some 20), .mov (.t 6), []⟩ <|
    .op ⟨(some 21), .mov (.t 0), []⟩ <|
    .op ⟨(some 22), .mov (.t 7), []⟩ <|
    .op ⟨(some 23), .mov (.t 9), []⟩ <|
    .op ⟨(some 24), .call 396 [(.t 21), (.t 22), (.t 23)], []⟩ <|
    .op ⟨(some 25), .buildSl 1 1 [(.int .u64 0)] [(0, 1, (.t 24))], []⟩ <|
    .op ⟨(some 26), .append 1 8 (.t 20) (.t 25), []⟩ <|
    .op ⟨(some 6), .mov (.t 26), []⟩ <|
    .nil)) (
  .ops (
    .op ⟨(some 27), .mov (.t 7), []⟩ <|
    .op ⟨(some 28), .mov (.t 9), []⟩ <|
    .op ⟨(some 29), .arith .add .i64 (.t 27) (.t 28), []⟩ <|
    .op ⟨(some 7), .mov (.t 29), []⟩ <|
    .nil)))))) (
  .ops (
    .op ⟨(some 30), .arith .add .i64 (.t 12) (.c (.int .i64 1)), []⟩ <|
    .op ⟨(some 12), .mov (.t 30), []⟩ <|
    .nil))))

def word_Unpack_c0 : ACode :=
  .seq (.ops (
    .op ⟨(some 31), .mov (.t 6), []⟩ <|
    .op ⟨(some 4), .mov (.t 31), []⟩ <|
    .op ⟨(some 5), .mov (.c (.bool true)), []⟩ <|
    .nil)) (
  .ret)

/-- 379: withy/word.Unpack -/
def word_Unpack : AFunc where
  closed := false
  nparams := 2
  ntmps := 32
  results := [.tmp 4, .tmp 5]
  body := .seq (.ops (
      .op ⟨(some 4), .mov (.c .nilsl), []⟩ <|
      .op ⟨(some 5), .mov (.c (.bool false)), []⟩ <|
      .nil)) (
    .seq (.ops (
      .op ⟨(some 6), .mov (.c .nilsl), []⟩ <|
      .nil)) (
    .seq (.ops (
      .op ⟨(some 7), .mov (.c (.int .i64 0)), []⟩ <|
      .nil)) (
    .seq (.seq (.ops (
      .op ⟨(some 10), .mov (.t 1), []⟩ <|
      .op ⟨(some 11), .lenSl (.t 10), []⟩ <|
      .op ⟨(some 12), .mov (.c (.int .i64 0)), []⟩ <|
      .nil)) (
    .block 0 (.loop [0, 6, 7, 10, 11, 12] [4, 5, 6] (word_Unpack_c1)))) (
    word_Unpack_c0))))

def word_Unpack_hs : List (List Nat × List Nat) := [([0, 6, 7, 10, 11, 12], [4, 5, 6])]

end Wm.F
end

section
/- PRINTED by my tool (wip/wm/tool/Gen.lean): a function as one of my machine. -/
namespace Wm.F
open Wm
set_option maxRecDepth 100000

/-- 409: withy/head.Freed -/
def head_Freed : AFunc where
  closed := true
  nparams := 2
  ntmps := 44
  results := [.tmp 4, .tmp 5]
  body := .seq (.ops (
      .op ⟨(some 4), .mov (.c (.int .u64 0)), []⟩ <|
      .op ⟨(some 5), .mov (.c (.bool false)), []⟩ <|
      .nil)) (
    .seq (.ops (
      .op ⟨(some 9), .mov (.t 0), []⟩ <|
      .op ⟨(some 10), .call 265 [(.t 9)], []⟩ <|
      .op ⟨(some 8), .mov (.t 10), []⟩ <|
      .op ⟨(some 11), .extract (.t 8) 0, []⟩ <|
      .op ⟨(some 12), .extract (.t 8) 1, []⟩ <|
      .op ⟨(some 6), .alloc [(.int .i64 0), (.int .i64 0), (.bool false), (.int .i64 0), (.int .i64 0), (.int .i64 0)], []⟩ <|
      .op ⟨none, .store 6 (.t 6) (.t 11), []⟩ <|
      .op ⟨(some 7), .mov (.t 12), []⟩ <|
      .nil)) (
    .seq (.seq (.ops (
      .op ⟨(some 13), .mov (.t 7), []⟩ <|
      .op ⟨(some 14), .not (.t 13), []⟩ <|
      .op ⟨(some 15), .mov (.t 14), []⟩ <|
      .grd 15 false [⟨(some 16), .fieldA 0 (.t 6), []⟩,
          ⟨(some 17), .load1 (.t 16), []⟩,
          ⟨(some 18), .cmp .neq .i64 (.t 17) (.c (.int .i64 3)), []⟩] <|
      .op ⟨(some 19), .pick (.t 15) (.c (.bool true)) (.t 18), []⟩ <|
      .nil)) (
    .cond (.t 19) (.seq (.ops (
        .op ⟨(some 20), .mov (.t 0), []⟩ <|
        .op ⟨(some 4), .mov (.t 20), []⟩ <|
        .op ⟨(some 5), .mov (.c (.bool false)), []⟩ <|
        .nil)) (
      .ret)) (.skip))) (
    .seq (.seq (.ops (
      .op ⟨(some 21), .fieldA 4 (.t 6), []⟩ <|
      .op ⟨(some 22), .load1 (.t 21), []⟩ <|
      .op ⟨(some 23), .arith .add .i64 (.t 22) (.c (.int .i64 1)), []⟩ <|
      .op ⟨(some 24), .mov (.t 1), []⟩ <|
      .op ⟨(some 25), .cmp .geq .i64 (.t 23) (.t 24), []⟩ <|
      .op ⟨(some 26), .mov (.t 25), []⟩ <|
      .grd 26 false [⟨(some 27), .fieldA 4 (.t 6), []⟩,
          ⟨(some 28), .load1 (.t 27), []⟩,
          ⟨(some 29), .arith .add .i64 (.t 28) (.c (.int .i64 1)), []⟩,
          ⟨(some 30), .cmp .geq .i64 (.t 29) (.c (.int .i64 4294967296)), []⟩] <|
      .op ⟨(some 31), .pick (.t 26) (.c (.bool true)) (.t 30), []⟩ <|
      .nil)) (
    .cond (.t 31) (.seq (.ops (
        .op ⟨(some 32), .fieldA 0 (.t 6), []⟩ <|
        .op ⟨none, .store 1 (.t 32) (.c (.int .i64 4)), []⟩ <|
        .nil)) (
      .seq (.ops (
        .op ⟨(some 33), .loadN 6 (.t 6), []⟩ <|
        .op ⟨(some 34), .call 382 [(.t 33)], []⟩ <|
        .op ⟨(some 35), .extract (.t 34) 0, []⟩ <|
        .op ⟨(some 36), .extract (.t 34) 1, []⟩ <|
        .op ⟨(some 4), .mov (.t 35), []⟩ <|
        .op ⟨(some 5), .mov (.t 36), []⟩ <|
        .nil)) (
      .ret))) (.skip))) (
    .seq (.ops (
      .op ⟨(some 37), .fieldA 4 (.t 6), []⟩ <|
      .op ⟨(some 38), .load1 (.t 37), []⟩ <|
      .op ⟨(some 39), .arith .add .i64 (.t 38) (.c (.int .i64 1)), []⟩ <|
      .op ⟨(some 40), .build [(.int .i64 0), (.int .i64 0), (.bool false), (.int .i64 0), (.int .i64 0), (.int .i64 0)] [(0, 1, (.c (.int .i64 0))), (4, 1, (.t 39))], []⟩ <|
      .op ⟨(some 41), .call 382 [(.t 40)], []⟩ <|
      .op ⟨(some 42), .extract (.t 41) 0, []⟩ <|
      .op ⟨(some 43), .extract (.t 41) 1, []⟩ <|
      .op ⟨(some 4), .mov (.t 42), []⟩ <|
      .op ⟨(some 5), .mov (.t 43), []⟩ <|
      .nil)) (
    .ret)))))

def head_Freed_hs : List (List Nat × List Nat) := []

end Wm.F
end

section
/- PRINTED by my tool (wip/wm/tool/Gen.lean): a function as one of my machine. -/
namespace Wm.F
open Wm
set_option maxRecDepth 100000

/-- 410: withy/stack.NewPush -/
def stack_NewPush : AFunc where
  closed := false
  nparams := 2
  ntmps := 22
  results := [.tmp 4]
  body := .seq (.ops (
      .op ⟨(some 2), .box (.t 0), []⟩ <|
      .op ⟨(some 4), .mov (.c .nilp), []⟩ <|
      .nil)) (
    .seq (.seq (.ops (
      .op ⟨(some 5), .loadN 6 (.t 2), []⟩ <|
      .op ⟨(some 6), .call 263 [(.t 5)], []⟩ <|
      .op ⟨(some 7), .not (.t 6), []⟩ <|
      .op ⟨(some 8), .mov (.t 7), []⟩ <|
      .grd 8 false [⟨(some 9), .mov (.t 1), []⟩,
          ⟨(some 10), .cmp .lss .i64 (.t 9) (.c (.int .i64 0)), []⟩] <|
      .op ⟨(some 11), .pick (.t 8) (.c (.bool true)) (.t 10), []⟩ <|
      .op ⟨(some 12), .mov (.t 11), []⟩ <|
      .grd 12 false [⟨(some 13), .mov (.t 1), []⟩,
          ⟨(some 14), .fieldA 0 (.t 2), []⟩,
          ⟨(some 15), .load1 (.t 14), []⟩,
          ⟨(some 16), .cmp .geq .i64 (.t 13) (.t 15), []⟩] <|
      .op ⟨(some 17), .pick (.t 12) (.c (.bool true)) (.t 16), []⟩ <|
      .nil)) (
    .cond (.t 17) (.seq (.ops (
        .op ⟨(some 4), .mov (.c .nilp), []⟩ <|
        .nil)) (
      .ret)) (.skip))) (
    .seq (.ops (
      .op ⟨(some 18), .loadN 6 (.t 2), []⟩ <|
      .op ⟨(some 19), .mov (.t 1), []⟩ <|
      .op ⟨(some 20), .build [(.int .i64 0), (.int .i64 0), (.int .i64 0), (.int .i64 0), (.int .i64 0), (.int .i64 0), (.int .i64 0), (.int .i64 0), (.int .u64 0)] [(0, 6, (.t 18)), (6, 1, (.t 19))], []⟩ <|
      .op ⟨(some 21), .box (.t 20), []⟩ <|
      .op ⟨(some 4), .mov (.t 21), []⟩ <|
      .nil)) (
    .ret)))

def stack_NewPush_hs : List (List Nat × List Nat) := []

end Wm.F
end

section
/- PRINTED by my tool (wip/wm/tool/Gen.lean): a function as one of my machine. -/
namespace Wm.F
open Wm
set_option maxRecDepth 100000

/-- 411: (*withy/stack.Push).Step -/
def stack_Push_Step : AFunc where
  closed := false
  nparams := 2
  ntmps := 76
  results := [.tmp 4]
  body := .seq (.ops (
      .op ⟨(some 4), .mov (.c (.bool false)), []⟩ <|
      .nil)) (
    .seq (.seq (.ops (
      .op ⟨(some 5), .mov (.t 0), []⟩ <|
      .op ⟨(some 6), .eq false .ptr (.t 5) (.c .nilp), []⟩ <|
      .nil)) (
    .cond (.t 6) (.seq (.ops (
        .op ⟨(some 4), .mov (.c (.bool true)), []⟩ <|
        .nil)) (
      .ret)) (.skip))) (
    .seq (.seq (.ops (
      .op ⟨(some 7), .mov (.t 0), []⟩ <|
      .op ⟨(some 8), .nilc (.t 7), []⟩ <|
      .op ⟨(some 9), .fieldA 7 (.t 8), []⟩ <|
      .op ⟨(some 10), .load1 (.t 9), []⟩ <|
      .nil)) (
    .block 0 (.seq (.ops (
      .op ⟨(some 12), .cmp .eql .i64 (.t 10) (.c (.int .i64 0)), []⟩ <|
      .op ⟨(some 11), .mov (.t 12), []⟩ <|
      .nil)) (
    .cond (.t 11) (.seq (.ops (
        .op ⟨(some 13), .mov (.t 0), []⟩ <|
        .op ⟨(some 14), .mov (.t 1), []⟩ <|
        .op ⟨(some 15), .call 266 [(.t 14), (.c (.int .i64 3))], []⟩ <|
        .op ⟨(some 16), .nilc (.t 13), []⟩ <|
        .op ⟨(some 17), .fieldA 8 (.t 16), []⟩ <|
        .op ⟨none, .store 1 (.t 17) (.t 15), []⟩ <|
        .nil)) (
      .ops (
        .op ⟨(some 18), .mov (.t 0), []⟩ <|
        .op ⟨(some 19), .nilc (.t 18), []⟩ <|
        .op ⟨(some 20), .fieldA 7 (.t 19), []⟩ <|
        .op ⟨none, .store 1 (.t 20) (.c (.int .i64 1)), []⟩ <|
        .nil))) (.seq (.ops (
        .op ⟨(some 22), .cmp .eql .i64 (.t 10) (.c (.int .i64 1)), []⟩ <|
        .op ⟨(some 21), .mov (.t 22), []⟩ <|
        .nil)) (
      .cond (.t 21) (.seq (.ops (
          .op ⟨(some 23), .mov (.t 1), []⟩ <|
          .op ⟨(some 24), .mov (.t 0), []⟩ <|
          .op ⟨(some 25), .nilc (.t 24), []⟩ <|
          .op ⟨(some 26), .fieldA 0 (.t 25), []⟩ <|
          .op ⟨(some 27), .loadN 6 (.t 26), []⟩ <|
          .op ⟨(some 28), .mov (.t 0), []⟩ <|
          .op ⟨(some 29), .nilc (.t 28), []⟩ <|
          .op ⟨(some 30), .fieldA 6 (.t 29), []⟩ <|
          .op ⟨(some 31), .load1 (.t 30), []⟩ <|
          .op ⟨(some 33), .mov (.t 0), []⟩ <|
          .op ⟨(some 34), .nilc (.t 33), []⟩ <|
          .op ⟨(some 35), .fieldA 0 (.t 34), []⟩ <|
          .op ⟨(some 36), .loadN 6 (.t 35), []⟩ <|
          .op ⟨(some 37), .mov (.t 0), []⟩ <|
          .op ⟨(some 38), .nilc (.t 37), []⟩ <|
          .op ⟨(some 39), .fieldA 8 (.t 38), []⟩ <|
          .op ⟨(some 40), .load1 (.t 39), []⟩ <|
          .op ⟨(some 32), .call 293 [(.t 27), (.t 31)], [{ g := none, op := .load1 (.t 39), d := 40 }, { g := none, op := .loadN 6 (.t 35), d := 36 }]⟩ <|
          .op ⟨(some 41), .call 391 [(.t 36), (.t 40)], []⟩ <|
          .op ⟨(some 42), .arith .add .i64 (.t 41) (.c (.int .i64 1)), []⟩ <|
          .op ⟨(some 43), .conv .u64 (.t 42), []⟩ <|
          .op ⟨(some 44), .call 203 [(.t 23), (.t 32), (.t 43)], []⟩ <|
          .nil)) (
        .ops (
          .op ⟨(some 45), .mov (.t 0), []⟩ <|
          .op ⟨(some 46), .nilc (.t 45), []⟩ <|
          .op ⟨(some 47), .fieldA 7 (.t 46), []⟩ <|
          .op ⟨none, .store 1 (.t 47) (.c (.int .i64 2)), []⟩ <|
          .nil))) (.seq (.ops (
          .op ⟨(some 49), .cmp .eql .i64 (.t 10) (.c (.int .i64 2)), []⟩ <|
          .op ⟨(some 48), .mov (.t 49), []⟩ <|
          .nil)) (
        .cond (.t 48) (.seq (.ops (
            .op ⟨(some 50), .mov (.t 0), []⟩ <|
            .op ⟨(some 51), .nilc (.t 50), []⟩ <|
            .op ⟨(some 52), .fieldA 7 (.t 51), []⟩ <|
            .op ⟨none, .store 1 (.t 52) (.c (.int .i64 0)), []⟩ <|
            .nil)) (
          .seq (.ops (
            .op ⟨(some 53), .mov (.t 1), []⟩ <|
            .op ⟨(some 54), .mov (.t 0), []⟩ <|
            .op ⟨(some 55), .nilc (.t 54), []⟩ <|
            .op ⟨(some 56), .fieldA 8 (.t 55), []⟩ <|
            .op ⟨(some 57), .load1 (.t 56), []⟩ <|
            .op ⟨(some 58), .mov (.t 0), []⟩ <|
            .op ⟨(some 59), .nilc (.t 58), []⟩ <|
            .op ⟨(some 60), .fieldA 8 (.t 59), []⟩ <|
            .op ⟨(some 61), .load1 (.t 60), []⟩ <|
            .op ⟨(some 62), .mov (.t 0), []⟩ <|
            .op ⟨(some 63), .nilc (.t 62), []⟩ <|
            .op ⟨(some 64), .fieldA 6 (.t 63), []⟩ <|
            .op ⟨(some 65), .load1 (.t 64), []⟩ <|
            .op ⟨(some 66), .call 461 [(.t 61), (.t 65)], [{ g := none, op := .load1 (.t 56), d := 57 }]⟩ <|
            .op ⟨(some 67), .call 269 [(.t 53), (.c (.int .i64 3)), (.t 57), (.t 66)], []⟩ <|
            .nil)) (
          .cond (.t 67) (.ops (
              .op ⟨(some 68), .mov (.t 0), []⟩ <|
              .op ⟨(some 69), .nilc (.t 68), []⟩ <|
              .op ⟨(some 70), .fieldA 7 (.t 69), []⟩ <|
              .op ⟨none, .store 1 (.t 70) (.c (.int .i64 3)), []⟩ <|
              .nil)) (.skip)))) (.skip))))))))) (
    .seq (.ops (
      .op ⟨(some 71), .mov (.t 0), []⟩ <|
      .op ⟨(some 72), .nilc (.t 71), []⟩ <|
      .op ⟨(some 73), .fieldA 7 (.t 72), []⟩ <|
      .op ⟨(some 74), .load1 (.t 73), []⟩ <|
      .op ⟨(some 75), .cmp .eql .i64 (.t 74) (.c (.int .i64 3)), []⟩ <|
      .op ⟨(some 4), .mov (.t 75), []⟩ <|
      .nil)) (
    .ret))))

def stack_Push_Step_hs : List (List Nat × List Nat) := []

end Wm.F
end

section
/- PRINTED by my tool (wip/wm/tool/Gen.lean): a function as one of my machine. -/
namespace Wm.F
open Wm
set_option maxRecDepth 100000

/-- 413: (*withy/mem.Mem).Size -/
def mem_Mem_Size : AFunc where
  closed := false
  nparams := 1
  ntmps := 10
  results := [.tmp 2]
  body := .seq (.ops (
      .op ⟨(some 2), .mov (.c (.int .i64 0)), []⟩ <|
      .nil)) (
    .seq (.seq (.ops (
      .op ⟨(some 3), .mov (.t 0), []⟩ <|
      .op ⟨(some 4), .eq false .ptr (.t 3) (.c .nilp), []⟩ <|
      .nil)) (
    .cond (.t 4) (.seq (.ops (
        .op ⟨(some 2), .mov (.c (.int .i64 0)), []⟩ <|
        .nil)) (
      .ret)) (.skip))) (
    .seq (.ops (
      .op ⟨(some 5), .mov (.t 0), []⟩ <|
      .op ⟨(some 6), .nilc (.t 5), []⟩ <|
      .op ⟨(some 7), .fieldA 0 (.t 6), []⟩ <|
      .op ⟨(some 8), .load1 (.t 7), []⟩ <|
      .op ⟨(some 9), .lenSl (.t 8), []⟩ <|
      .op ⟨(some 2), .mov (.t 9), []⟩ <|
      .nil)) (
    .ret)))

def mem_Mem_Size_hs : List (List Nat × List Nat) := []

end Wm.F
end

section
/- PRINTED by my tool (wip/wm/tool/Gen.lean): a function as one of my machine. -/
namespace Wm.F
open Wm
set_option maxRecDepth 100000

/-- 441: withy/word.some -/
def word_some : AFunc where
  closed := true
  nparams := 2
  ntmps := 21
  results := [.tmp 4]
  body := .seq (.ops (
      .op ⟨(some 4), .mov (.c (.bool false)), []⟩ <|
      .nil)) (
    .seq (.ops (
      .op ⟨(some 5), .mov (.t 1), []⟩ <|
      .op ⟨(some 6), .cmp .geq .i64 (.t 5) (.c (.int .i64 1)), []⟩ <|
      .op ⟨(some 7), .mov (.t 6), []⟩ <|
      .grd 7 true [⟨(some 8), .mov (.t 1), []⟩,
          ⟨(some 9), .cmp .leq .i64 (.t 8) (.c (.int .i64 64)), []⟩] <|
      .op ⟨(some 10), .pick (.t 7) (.t 9) (.c (.bool false)), []⟩ <|
      .op ⟨(some 11), .mov (.t 10), []⟩ <|
      .grd 11 true [⟨(some 12), .mov (.t 0), []⟩,
          ⟨(some 13), .cmp .geq .i64 (.t 12) (.c (.int .i64 0)), []⟩] <|
      .op ⟨(some 14), .pick (.t 11) (.t 13) (.c (.bool false)), []⟩ <|
      .op ⟨(some 15), .mov (.t 14), []⟩ <|
      .grd 15 true [⟨(some 16), .mov (.t 0), []⟩,
          ⟨(some 17), .mov (.t 1), []⟩,
          ⟨(some 18), .arith .sub .i64 (.c (.int .i64 64)) (.t 17), []⟩,
          ⟨(some 19), .cmp .leq .i64 (.t 16) (.t 18), []⟩] <|
      .op ⟨(some 20), .pick (.t 15) (.t 19) (.c (.bool false)), []⟩ <|
      .op ⟨(some 4), .mov (.t 20), []⟩ <|
      .nil)) (
    .ret))

def word_some_hs : List (List Nat × List Nat) := []

end Wm.F
end

section
/- PRINTED by my tool (wip/wm/tool/Gen.lean): a function as one of my machine. -/
namespace Wm.F
open Wm
set_option maxRecDepth 100000

/-- 484: withy/word.Fits -/
def word_Fits : AFunc where
  closed := true
  nparams := 2
  ntmps := 17
  results := [.tmp 4]
  body := .seq (.ops (
      .op ⟨(some 4), .mov (.c (.bool false)), []⟩ <|
      .nil)) (
    .seq (.ops (
      .op ⟨(some 5), .mov (.t 1), []⟩ <|
      .op ⟨(some 6), .cmp .geq .i64 (.t 5) (.c (.int .i64 0)), []⟩ <|
      .op ⟨(some 7), .mov (.t 6), []⟩ <|
      .grd 7 true [⟨(some 8), .mov (.t 1), []⟩,
          ⟨(some 9), .cmp .gtr .i64 (.t 8) (.c (.int .i64 63)), []⟩,
          ⟨(some 10), .mov (.t 9), []⟩] <|
      .grd 10 false [⟨(some 11), .mov (.t 0), []⟩,
          ⟨(some 12), .mov (.t 1), []⟩,
          ⟨(some 13), .shift false .u64 .i64 (.t 11) (.t 12), []⟩,
          ⟨(some 14), .cmp .eql .u64 (.t 13) (.c (.int .u64 0)), []⟩] <|
      .grd 7 true [⟨(some 15), .pick (.t 10) (.c (.bool true)) (.t 14), []⟩] <|
      .op ⟨(some 16), .pick (.t 7) (.t 15) (.c (.bool false)), []⟩ <|
      .op ⟨(some 4), .mov (.t 16), []⟩ <|
      .nil)) (
    .ret))

def word_Fits_hs : List (List Nat × List Nat) := []

end Wm.F
end

section
/- PRINTED by my tool (wip/wm/tool/Gen.lean): a function as one of my machine. -/
namespace Wm.F
open Wm
set_option maxRecDepth 100000

/-- 396: withy/word.Get -/
def word_Get : AFunc where
  closed := true
  nparams := 3
  ntmps := 17
  results := [.tmp 6]
  body := .seq (.ops (
      .op ⟨(some 6), .mov (.c (.int .u64 0)), []⟩ <|
      .nil)) (
    .seq (.seq (.ops (
      .op ⟨(some 7), .mov (.t 1), []⟩ <|
      .op ⟨(some 8), .mov (.t 2), []⟩ <|
      .op ⟨(some 9), .call 441 [(.t 7), (.t 8)], []⟩ <|
      .op ⟨(some 10), .not (.t 9), []⟩ <|
      .nil)) (
    .cond (.t 10) (.seq (.ops (
        .op ⟨(some 6), .mov (.c (.int .u64 0)), []⟩ <|
        .nil)) (
      .ret)) (.skip))) (
    .seq (.ops (
      .op ⟨(some 11), .mov (.t 0), []⟩ <|
      .op ⟨(some 12), .mov (.t 1), []⟩ <|
      .op ⟨(some 13), .shift false .u64 .i64 (.t 11) (.t 12), []⟩ <|
      .op ⟨(some 14), .mov (.t 2), []⟩ <|
      .op ⟨(some 15), .call 449 [(.t 14)], []⟩ <|
      .op ⟨(some 16), .arith .and .u64 (.t 13) (.t 15), []⟩ <|
      .op ⟨(some 6), .mov (.t 16), []⟩ <|
      .nil)) (
    .ret)))

def word_Get_hs : List (List Nat × List Nat) := []

end Wm.F
end

section
/- PRINTED by my tool (wip/wm/tool/Gen.lean): a function as one of my machine. -/
namespace Wm.F
open Wm
set_option maxRecDepth 100000

/-- 90: withy/shade.NewShade -/
def shade_NewShade : AFunc where
  closed := false
  nparams := 3
  ntmps := 17
  results := [.tmp 6]
  body := .seq (.ops (
      .op ⟨(some 3), .box (.t 0), []⟩ <|
      .op ⟨(some 6), .mov (.c .nilp), []⟩ <|
      .nil)) (
    .seq (.ops (
      .op ⟨(some 8), .loadN 6 (.t 3), []⟩ <|
      .op ⟨(some 9), .mov (.t 1), []⟩ <|
      .op ⟨(some 10), .call 261 [(.t 8), (.t 9)], []⟩ <|
      .op ⟨(some 7), .mov (.t 10), []⟩ <|
      .nil)) (
    .seq (.seq (.ops (
      .op ⟨(some 11), .mov (.t 7), []⟩ <|
      .op ⟨(some 12), .cmp .lss .i64 (.t 11) (.c (.int .i64 0)), []⟩ <|
      .nil)) (
    .cond (.t 12) (.seq (.ops (
        .op ⟨(some 6), .mov (.c .nilp), []⟩ <|
        .nil)) (
      .ret)) (.skip))) (
    .seq (.ops (
      .op ⟨(some 13), .mov (.t 7), []⟩ <|
      .op ⟨(some 14), .mov (.t 2), []⟩ <|
      .op ⟨(some 15), .build [(.bool false), (.int .i64 0), (.int .u64 0), (.int .i64 0), (.int .u64 0)] [(1, 1, (.t 13)), (2, 1, (.t 14))], []⟩ <|
      .op ⟨(some 16), .box (.t 15), []⟩ <|
      .op ⟨(some 6), .mov (.t 16), []⟩ <|
      .nil)) (
    .ret))))

def shade_NewShade_hs : List (List Nat × List Nat) := []

end Wm.F
end

section
/- PRINTED by my tool (wip/wm/tool/Gen.lean): a function as one of my machine. -/
namespace Wm.F
open Wm
set_option maxRecDepth 100000

/-- 442: withy/turn.Cycle -/
def turn_Cycle : AFunc where
  closed := true
  nparams := 1
  ntmps := 5
  results := [.tmp 2]
  body := .seq (.ops (
      .op ⟨(some 2), .mov (.c (.int .u64 0)), []⟩ <|
      .nil)) (
    .seq (.ops (
      .op ⟨(some 3), .mov (.t 0), []⟩ <|
      .op ⟨(some 4), .arith .quo .u64 (.t 3) (.c (.int .u64 4)), []⟩ <|
      .op ⟨(some 2), .mov (.t 4), []⟩ <|
      .nil)) (
    .ret))

def turn_Cycle_hs : List (List Nat × List Nat) := []

end Wm.F
end

section
/- PRINTED by my tool (wip/wm/tool/Gen.lean): a function as one of my machine. -/
namespace Wm.F
open Wm
set_option maxRecDepth 100000

/-- 444: withy/head.bit -/
def head_bit : AFunc where
  closed := true
  nparams := 1
  ntmps := 4
  results := [.tmp 2]
  body := .seq (.ops (
      .op ⟨(some 2), .mov (.c (.int .u64 0)), []⟩ <|
      .nil)) (
    .seq (.seq (.ops (
      .op ⟨(some 3), .mov (.t 0), []⟩ <|
      .nil)) (
    .cond (.t 3) (.seq (.ops (
        .op ⟨(some 2), .mov (.c (.int .u64 1)), []⟩ <|
        .nil)) (
      .ret)) (.skip))) (
    .seq (.ops (
      .op ⟨(some 2), .mov (.c (.int .u64 0)), []⟩ <|
      .nil)) (
    .ret)))

def head_bit_hs : List (List Nat × List Nat) := []

end Wm.F
end

section
/- PRINTED by my tool (wip/wm/tool/Gen.lean): a function as one of my machine. -/
namespace Wm.F
open Wm
set_option maxRecDepth 100000

/-- 391: withy/stack.first -/
def stack_first : AFunc where
  closed := true
  nparams := 2
  ntmps := 17
  results := [.tmp 4]
  body := .seq (.ops (
      .op ⟨(some 2), .box (.t 0), []⟩ <|
      .op ⟨(some 4), .mov (.c (.int .i64 0)), []⟩ <|
      .nil)) (
    .seq (.ops (
      .op ⟨(some 8), .mov (.t 1), []⟩ <|
      .op ⟨(some 9), .call 447 [(.t 8)], []⟩ <|
      .op ⟨(some 7), .mov (.t 9), []⟩ <|
      .op ⟨(some 10), .extract (.t 7) 0, []⟩ <|
      .op ⟨(some 11), .extract (.t 7) 1, []⟩ <|
      .op ⟨(some 5), .mov (.t 10), []⟩ <|
      .op ⟨(some 6), .mov (.t 11), []⟩ <|
      .nil)) (
    .seq (.seq (.ops (
      .op ⟨(some 12), .mov (.t 6), []⟩ <|
      .op ⟨(some 13), .fieldA 0 (.t 2), []⟩ <|
      .op ⟨(some 14), .load1 (.t 13), []⟩ <|
      .op ⟨(some 15), .cmp .geq .i64 (.t 12) (.t 14), []⟩ <|
      .nil)) (
    .cond (.t 15) (.seq (.ops (
        .op ⟨(some 4), .mov (.c (.int .i64 (-1))), []⟩ <|
        .nil)) (
      .ret)) (.skip))) (
    .seq (.ops (
      .op ⟨(some 16), .mov (.t 6), []⟩ <|
      .op ⟨(some 4), .mov (.t 16), []⟩ <|
      .nil)) (
    .ret))))

def stack_first_hs : List (List Nat × List Nat) := []

end Wm.F
end

section
/- PRINTED by my tool (wip/wm/tool/Gen.lean): a function as one of my machine. -/
namespace Wm.F
open Wm
set_option maxRecDepth 100000

/-- 461: withy/tag.Moved -/
def tag_Moved : AFunc where
  closed := true
  nparams := 2
  ntmps := 26
  results := [.tmp 4]
  body := .seq (.ops (
      .op ⟨(some 4), .mov (.c (.int .u64 0)), []⟩ <|
      .nil)) (
    .seq (.seq (.ops (
      .op ⟨(some 9), .mov (.t 1), []⟩ <|
      .op ⟨(some 10), .call 462 [(.t 9)], []⟩ <|
      .op ⟨(some 11), .not (.t 10), []⟩ <|
      .nil)) (
    .cond (.t 11) (.ops (
        .op ⟨(some 1), .mov (.c (.int .i64 (-1))), []⟩ <|
        .nil)) (.skip))) (
    .seq (.ops (
      .op ⟨(some 13), .mov (.t 0), []⟩ <|
      .op ⟨(some 14), .call 447 [(.t 13)], []⟩ <|
      .op ⟨(some 12), .mov (.t 14), []⟩ <|
      .op ⟨(some 15), .extract (.t 12) 0, []⟩ <|
      .op ⟨(some 16), .extract (.t 12) 1, []⟩ <|
      .op ⟨(some 5), .mov (.t 15), []⟩ <|
      .op ⟨(some 6), .mov (.t 16), []⟩ <|
      .nil)) (
    .seq (.ops (
      .op ⟨(some 18), .mov (.t 5), []⟩ <|
      .op ⟨(some 19), .arith .add .u64 (.t 18) (.c (.int .u64 1)), []⟩ <|
      .op ⟨(some 20), .arith .and .u64 (.t 19) (.c (.int .u64 281474976710655)), []⟩ <|
      .op ⟨(some 21), .mov (.t 1), []⟩ <|
      .op ⟨(some 22), .call 350 [(.t 20), (.t 21)], []⟩ <|
      .op ⟨(some 17), .mov (.t 22), []⟩ <|
      .op ⟨(some 23), .extract (.t 17) 0, []⟩ <|
      .op ⟨(some 24), .extract (.t 17) 1, []⟩ <|
      .op ⟨(some 7), .mov (.t 23), []⟩ <|
      .op ⟨(some 8), .mov (.t 24), []⟩ <|
      .nil)) (
    .seq (.ops (
      .op ⟨(some 25), .mov (.t 7), []⟩ <|
      .op ⟨(some 4), .mov (.t 25), []⟩ <|
      .nil)) (
    .ret)))))

def tag_Moved_hs : List (List Nat × List Nat) := []

end Wm.F
end

section
/- PRINTED by my tool (wip/wm/tool/Gen.lean): a function as one of my machine. -/
namespace Wm.F
open Wm
set_option maxRecDepth 100000

/-- 449: withy/word.mask -/
def word_mask : AFunc where
  closed := true
  nparams := 1
  ntmps := 6
  results := [.tmp 2]
  body := .seq (.ops (
      .op ⟨(some 2), .mov (.c (.int .u64 0)), []⟩ <|
      .nil)) (
    .seq (.ops (
      .op ⟨(some 3), .mov (.t 0), []⟩ <|
      .op ⟨(some 4), .shift true .u64 .i64 (.c (.int .u64 1)) (.t 3), []⟩ <|
      .op ⟨(some 5), .arith .sub .u64 (.t 4) (.c (.int .u64 1)), []⟩ <|
      .op ⟨(some 2), .mov (.t 5), []⟩ <|
      .nil)) (
    .ret))

def word_mask_hs : List (List Nat × List Nat) := []

end Wm.F
end

section
/- PRINTED by my tool (wip/wm/tool/Gen.lean): a function as one of my machine. -/
namespace Wm.F
open Wm
set_option maxRecDepth 100000

/-- 447: withy/tag.TopParts -/
def tag_TopParts : AFunc where
  closed := true
  nparams := 1
  ntmps := 10
  results := [.tmp 2, .tmp 3]
  body := .seq (.ops (
      .op ⟨(some 2), .mov (.c (.int .u64 0)), []⟩ <|
      .op ⟨(some 3), .mov (.c (.int .i64 0)), []⟩ <|
      .nil)) (
    .seq (.ops (
      .op ⟨(some 4), .mov (.t 0), []⟩ <|
      .op ⟨(some 5), .call 396 [(.t 4), (.c (.int .i64 16)), (.c (.int .i64 48))], []⟩ <|
      .op ⟨(some 6), .mov (.t 0), []⟩ <|
      .op ⟨(some 7), .call 396 [(.t 6), (.c (.int .i64 0)), (.c (.int .i64 16))], []⟩ <|
      .op ⟨(some 8), .conv .i64 (.t 7), []⟩ <|
      .op ⟨(some 9), .arith .sub .i64 (.t 8) (.c (.int .i64 1)), []⟩ <|
      .op ⟨(some 2), .mov (.t 5), []⟩ <|
      .op ⟨(some 3), .mov (.t 9), []⟩ <|
      .nil)) (
    .ret))

def tag_TopParts_hs : List (List Nat × List Nat) := []

end Wm.F
end

