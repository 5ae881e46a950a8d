/- PRINTED by my tool: functions as those of my machine. -/
import Derived.Test.YtbnlhmaedapjlaaGreatWmCore
set_option linter.all false
section
/- PRINTED by my tool (wip/wm/tool/Gen.lean): a function as one of my machine. -/
namespace Wm.F
open Wm
set_option maxRecDepth 100000

/-- 147: (*withy/field.See).Step -/
def field_See_Step : AFunc where
  closed := false
  nparams := 2
  ntmps := 146
  results := [.tmp 4]
  body := .seq (.ops (
      .op ⟨(some 4), .mov (.c (.bool false)), []⟩ <|
      .nil)) (
    .seq (.seq (.ops (
      .op ⟨(some 6), .mov (.t 0), []⟩ <|
      .op ⟨(some 7), .eq false .ptr (.t 6) (.c .nilp), []⟩ <|
      .nil)) (
    .cond (.t 7) (.seq (.ops (
        .op ⟨(some 4), .mov (.c (.bool true)), []⟩ <|
        .nil)) (
      .ret)) (.skip))) (
    .seq (.seq (.ops (
      .op ⟨(some 8), .mov (.t 0), []⟩ <|
      .op ⟨(some 9), .nilc (.t 8), []⟩ <|
      .op ⟨(some 10), .fieldA 4 (.t 9), []⟩ <|
      .op ⟨(some 11), .load1 (.t 10), []⟩ <|
      .nil)) (
    .block 0 (.seq (.ops (
      .op ⟨(some 13), .cmp .eql .i64 (.t 11) (.c (.int .i64 0)), []⟩ <|
      .op ⟨(some 12), .mov (.t 13), []⟩ <|
      .nil)) (
    .cond (.t 12) (.seq (.ops (
        .op ⟨(some 14), .mov (.t 0), []⟩ <|
        .op ⟨(some 15), .nilc (.t 14), []⟩ <|
        .op ⟨(some 16), .fieldA 1 (.t 15), []⟩ <|
        .op ⟨(some 17), .load1 (.t 16), []⟩ <|
        .op ⟨(some 18), .mov (.t 1), []⟩ <|
        .op ⟨(some 19), .call 303 [(.t 17), (.t 18)], []⟩ <|
        .nil)) (
      .cond (.t 19) (.seq (.ops (
          .op ⟨(some 20), .mov (.t 0), []⟩ <|
          .op ⟨(some 21), .mov (.t 0), []⟩ <|
          .op ⟨(some 22), .nilc (.t 21), []⟩ <|
          .op ⟨(some 23), .fieldA 1 (.t 22), []⟩ <|
          .op ⟨(some 24), .load1 (.t 23), []⟩ <|
          .op ⟨(some 25), .nilc (.t 24), []⟩ <|
          .op ⟨(some 26), .fieldA 8 (.t 25), []⟩ <|
          .op ⟨(some 27), .load1 (.t 26), []⟩ <|
          .op ⟨(some 28), .nilc (.t 20), []⟩ <|
          .op ⟨(some 29), .fieldA 3 (.t 28), []⟩ <|
          .op ⟨none, .store 1 (.t 29) (.t 27), []⟩ <|
          .nil)) (
        .seq (.ops (
          .op ⟨(some 30), .mov (.t 0), []⟩ <|
          .op ⟨(some 31), .nilc (.t 30), []⟩ <|
          .op ⟨(some 32), .fieldA 4 (.t 31), []⟩ <|
          .op ⟨none, .store 1 (.t 32) (.c (.int .i64 1)), []⟩ <|
          .nil)) (
        .seq (.ops (
          .op ⟨(some 33), .mov (.t 0), []⟩ <|
          .op ⟨(some 34), .nilc (.t 33), []⟩ <|
          .op ⟨(some 35), .fieldA 3 (.t 34), []⟩ <|
          .op ⟨(some 36), .load1 (.t 35), []⟩ <|
          .op ⟨(some 37), .cmp .lss .i64 (.t 36) (.c (.int .i64 0)), []⟩ <|
          .nil)) (
        .cond (.t 37) (.ops (
            .op ⟨(some 38), .mov (.t 0), []⟩ <|
            .op ⟨(some 39), .nilc (.t 38), []⟩ <|
            .op ⟨(some 40), .fieldA 4 (.t 39), []⟩ <|
            .op ⟨none, .store 1 (.t 40) (.c (.int .i64 4)), []⟩ <|
            .nil)) (.skip))))) (.skip))) (.seq (.ops (
        .op ⟨(some 42), .cmp .eql .i64 (.t 11) (.c (.int .i64 1)), []⟩ <|
        .op ⟨(some 41), .mov (.t 42), []⟩ <|
        .nil)) (
      .cond (.t 41) (.seq (.ops (
          .op ⟨(some 43), .mov (.t 1), []⟩ <|
          .op ⟨(some 44), .mov (.t 0), []⟩ <|
          .op ⟨(some 45), .nilc (.t 44), []⟩ <|
          .op ⟨(some 46), .fieldA 1 (.t 45), []⟩ <|
          .op ⟨(some 47), .load1 (.t 46), []⟩ <|
          .op ⟨(some 48), .nilc (.t 47), []⟩ <|
          .op ⟨(some 49), .fieldA 0 (.t 48), []⟩ <|
          .op ⟨(some 50), .loadN 6 (.t 49), []⟩ <|
          .op ⟨(some 51), .mov (.t 0), []⟩ <|
          .op ⟨(some 52), .nilc (.t 51), []⟩ <|
          .op ⟨(some 53), .fieldA 3 (.t 52), []⟩ <|
          .op ⟨(some 54), .load1 (.t 53), []⟩ <|
          .op ⟨(some 55), .call 305 [(.t 50), (.t 54), (.c (.int .i64 1))], []⟩ <|
          .op ⟨(some 56), .call 266 [(.t 43), (.t 55)], []⟩ <|
          .op ⟨(some 5), .mov (.t 56), []⟩ <|
          .nil)) (
        .seq (.ops (
          .op ⟨(some 57), .mov (.t 0), []⟩ <|
          .op ⟨(some 58), .nilc (.t 57), []⟩ <|
          .op ⟨(some 59), .fieldA 4 (.t 58), []⟩ <|
          .op ⟨none, .store 1 (.t 59) (.c (.int .i64 2)), []⟩ <|
          .nil)) (
        .seq (.ops (
          .op ⟨(some 60), .mov (.t 5), []⟩ <|
          .op ⟨(some 61), .cmp .neq .u64 (.t 60) (.c (.int .u64 0)), []⟩ <|
          .op ⟨(some 62), .mov (.t 61), []⟩ <|
          .grd 62 true [⟨(some 63), .mov (.t 5), []⟩,
              ⟨(some 64), .mov (.t 0), []⟩,
              ⟨(some 65), .nilc (.t 64), []⟩,
              ⟨(some 66), .fieldA 2 (.t 65), []⟩,
              ⟨(some 67), .load1 (.t 66), []⟩,
              ⟨(some 68), .cmp .leq .u64 (.t 63) (.t 67), []⟩] <|
          .op ⟨(some 69), .pick (.t 62) (.t 68) (.c (.bool false)), []⟩ <|
          .nil)) (
        .cond (.t 69) (.ops (
            .op ⟨(some 70), .mov (.t 0), []⟩ <|
            .op ⟨(some 71), .nilc (.t 70), []⟩ <|
            .op ⟨(some 72), .fieldA 4 (.t 71), []⟩ <|
            .op ⟨none, .store 1 (.t 72) (.c (.int .i64 3)), []⟩ <|
            .nil)) (.skip))))) (.seq (.ops (
          .op ⟨(some 74), .cmp .eql .i64 (.t 11) (.c (.int .i64 2)), []⟩ <|
          .op ⟨(some 73), .mov (.t 74), []⟩ <|
          .nil)) (
        .cond (.t 73) (.seq (.ops (
            .op ⟨(some 75), .mov (.t 0), []⟩ <|
            .op ⟨(some 76), .mov (.t 0), []⟩ <|
            .op ⟨(some 77), .nilc (.t 76), []⟩ <|
            .op ⟨(some 78), .fieldA 1 (.t 77), []⟩ <|
            .op ⟨(some 79), .load1 (.t 78), []⟩ <|
            .op ⟨(some 80), .nilc (.t 79), []⟩ <|
            .op ⟨(some 81), .fieldA 0 (.t 80), []⟩ <|
            .op ⟨(some 82), .loadN 6 (.t 81), []⟩ <|
            .op ⟨(some 83), .mov (.t 1), []⟩ <|
            .op ⟨(some 84), .mov (.t 0), []⟩ <|
            .op ⟨(some 85), .nilc (.t 84), []⟩ <|
            .op ⟨(some 86), .fieldA 1 (.t 85), []⟩ <|
            .op ⟨(some 87), .load1 (.t 86), []⟩ <|
            .op ⟨(some 88), .nilc (.t 87), []⟩ <|
            .op ⟨(some 89), .fieldA 0 (.t 88), []⟩ <|
            .op ⟨(some 90), .loadN 6 (.t 89), []⟩ <|
            .op ⟨(some 91), .mov (.t 0), []⟩ <|
            .op ⟨(some 92), .nilc (.t 91), []⟩ <|
            .op ⟨(some 93), .fieldA 3 (.t 92), []⟩ <|
            .op ⟨(some 94), .load1 (.t 93), []⟩ <|
            .op ⟨(some 95), .call 305 [(.t 90), (.t 94), (.c (.int .i64 2))], [{ g := none, op := .loadN 6 (.t 81), d := 82 }, { g := none, op := .load1 (.t 78), d := 79 }]⟩ <|
            .op ⟨(some 96), .call 266 [(.t 83), (.t 95)], [{ g := none, op := .loadN 6 (.t 81), d := 82 }, { g := none, op := .load1 (.t 78), d := 79 }]⟩ <|
            .op ⟨(some 97), .call 304 [(.t 82), (.t 96)], []⟩ <|
            .op ⟨(some 98), .nilc (.t 75), []⟩ <|
            .op ⟨(some 99), .fieldA 3 (.t 98), []⟩ <|
            .op ⟨none, .store 1 (.t 99) (.t 97), []⟩ <|
            .nil)) (
          .seq (.ops (
            .op ⟨(some 100), .mov (.t 0), []⟩ <|
            .op ⟨(some 101), .nilc (.t 100), []⟩ <|
            .op ⟨(some 102), .fieldA 4 (.t 101), []⟩ <|
            .op ⟨none, .store 1 (.t 102) (.c (.int .i64 1)), []⟩ <|
            .nil)) (
          .seq (.ops (
            .op ⟨(some 103), .mov (.t 0), []⟩ <|
            .op ⟨(some 104), .nilc (.t 103), []⟩ <|
            .op ⟨(some 105), .fieldA 3 (.t 104), []⟩ <|
            .op ⟨(some 106), .load1 (.t 105), []⟩ <|
            .op ⟨(some 107), .cmp .lss .i64 (.t 106) (.c (.int .i64 0)), []⟩ <|
            .nil)) (
          .cond (.t 107) (.ops (
              .op ⟨(some 108), .mov (.t 0), []⟩ <|
              .op ⟨(some 109), .nilc (.t 108), []⟩ <|
              .op ⟨(some 110), .fieldA 4 (.t 109), []⟩ <|
              .op ⟨none, .store 1 (.t 110) (.c (.int .i64 4)), []⟩ <|
              .nil)) (.skip))))) (.seq (.ops (
            .op ⟨(some 112), .cmp .eql .i64 (.t 11) (.c (.int .i64 3)), []⟩ <|
            .op ⟨(some 111), .mov (.t 112), []⟩ <|
            .nil)) (
          .cond (.t 111) (.seq (.ops (
              .op ⟨(some 113), .mov (.t 0), []⟩ <|
              .op ⟨(some 114), .mov (.t 0), []⟩ <|
              .op ⟨(some 115), .nilc (.t 114), []⟩ <|
              .op ⟨(some 116), .fieldA 1 (.t 115), []⟩ <|
              .op ⟨(some 117), .load1 (.t 116), []⟩ <|
              .op ⟨(some 118), .nilc (.t 117), []⟩ <|
              .op ⟨(some 119), .fieldA 0 (.t 118), []⟩ <|
              .op ⟨(some 120), .loadN 6 (.t 119), []⟩ <|
              .op ⟨(some 121), .mov (.t 1), []⟩ <|
              .op ⟨(some 122), .mov (.t 0), []⟩ <|
              .op ⟨(some 123), .nilc (.t 122), []⟩ <|
              .op ⟨(some 124), .fieldA 1 (.t 123), []⟩ <|
              .op ⟨(some 125), .load1 (.t 124), []⟩ <|
              .op ⟨(some 126), .nilc (.t 125), []⟩ <|
              .op ⟨(some 127), .fieldA 0 (.t 126), []⟩ <|
              .op ⟨(some 128), .loadN 6 (.t 127), []⟩ <|
              .op ⟨(some 129), .mov (.t 0), []⟩ <|
              .op ⟨(some 130), .nilc (.t 129), []⟩ <|
              .op ⟨(some 131), .fieldA 3 (.t 130), []⟩ <|
              .op ⟨(some 132), .load1 (.t 131), []⟩ <|
              .op ⟨(some 133), .call 305 [(.t 128), (.t 132), (.c (.int .i64 0))], [{ g := none, op := .loadN 6 (.t 119), d := 120 }, { g := none, op := .load1 (.t 116), d := 117 }]⟩ <|
              .op ⟨(some 134), .call 266 [(.t 121), (.t 133)], [{ g := none, op := .loadN 6 (.t 119), d := 120 }, { g := none, op := .load1 (.t 116), d := 117 }]⟩ <|
              .op ⟨(some 135), .call 304 [(.t 120), (.t 134)], []⟩ <|
              .op ⟨(some 136), .nilc (.t 113), []⟩ <|
              .op ⟨(some 137), .fieldA 0 (.t 136), []⟩ <|
              .op ⟨none, .store 1 (.t 137) (.t 135), []⟩ <|
              .nil)) (
            .ops (
              .op ⟨(some 138), .mov (.t 0), []⟩ <|
              .op ⟨(some 139), .nilc (.t 138), []⟩ <|
              .op ⟨(some 140), .fieldA 4 (.t 139), []⟩ <|
              .op ⟨none, .store 1 (.t 140) (.c (.int .i64 4)), []⟩ <|
              .nil))) (.skip))))))))))) (
    .seq (.ops (
      .op ⟨(some 141), .mov (.t 0), []⟩ <|
      .op ⟨(some 142), .nilc (.t 141), []⟩ <|
      .op ⟨(some 143), .fieldA 4 (.t 142), []⟩ <|
      .op ⟨(some 144), .load1 (.t 143), []⟩ <|
      .op ⟨(some 145), .cmp .eql .i64 (.t 144) (.c (.int .i64 4)), []⟩ <|
      .op ⟨(some 4), .mov (.t 145), []⟩ <|
      .nil)) (
    .ret))))

def field_See_Step_hs : List (List Nat × List Nat) := []

end Wm.F
end

section
/- PRINTED by my tool (wip/wm/tool/Gen.lean): a function as one of my machine. -/
namespace Wm.F
open Wm
set_option maxRecDepth 100000

/-- 330: (*withy/iter.Walk).field -/
def iter_Walk_field : AFunc where
  closed := false
  nparams := 1
  ntmps := 51
  results := []
  body := .seq (.ops (
      .op ⟨(some 2), .mov (.t 0), []⟩ <|
      .op ⟨(some 3), .mov (.t 0), []⟩ <|
      .op ⟨(some 4), .nilc (.t 2), []⟩ <|
      .op ⟨(some 5), .fieldA 10 (.t 4), []⟩ <|
      .op ⟨none, .store 1 (.t 5) (.c .nilp), []⟩ <|
      .op ⟨(some 6), .nilc (.t 3), []⟩ <|
      .op ⟨(some 7), .fieldA 13 (.t 6), []⟩ <|
      .op ⟨none, .store 1 (.t 7) (.c (.int .i64 2)), []⟩ <|
      .nil)) (
    .seq (.ops (
      .op ⟨(some 8), .mov (.t 0), []⟩ <|
      .op ⟨(some 9), .nilc (.t 8), []⟩ <|
      .op ⟨(some 10), .fieldA 12 (.t 9), []⟩ <|
      .op ⟨(some 11), .load1 (.t 10), []⟩ <|
      .op ⟨(some 12), .mov (.t 0), []⟩ <|
      .op ⟨(some 13), .nilc (.t 12), []⟩ <|
      .op ⟨(some 14), .fieldA 11 (.t 13), []⟩ <|
      .op ⟨(some 15), .load1 (.t 14), []⟩ <|
      .op ⟨(some 16), .cmp .lss .i64 (.t 11) (.t 15), []⟩ <|
      .nil)) (
    .cond (.t 16) (.seq (.ops (
        .op ⟨(some 17), .mov (.t 0), []⟩ <|
        .op ⟨(some 18), .mov (.t 0), []⟩ <|
        .op ⟨(some 19), .nilc (.t 18), []⟩ <|
        .op ⟨(some 20), .fieldA 0 (.t 19), []⟩ <|
        .op ⟨(some 21), .loadN 6 (.t 20), []⟩ <|
        .op ⟨(some 22), .mov (.t 0), []⟩ <|
        .op ⟨(some 23), .nilc (.t 22), []⟩ <|
        .op ⟨(some 24), .fieldA 8 (.t 23), []⟩ <|
        .op ⟨(some 25), .load1 (.t 24), []⟩ <|
        .op ⟨(some 26), .indexA 1 (.t 25) (.c (.int .i64 0)), []⟩ <|
        .op ⟨(some 27), .load1 (.t 26), []⟩ <|
        .op ⟨(some 28), .mov (.t 0), []⟩ <|
        .op ⟨(some 29), .nilc (.t 28), []⟩ <|
        .op ⟨(some 30), .fieldA 12 (.t 29), []⟩ <|
        .op ⟨(some 31), .load1 (.t 30), []⟩ <|
        .op ⟨(some 32), .mov (.t 0), []⟩ <|
        .op ⟨(some 33), .nilc (.t 32), []⟩ <|
        .op ⟨(some 34), .fieldA 6 (.t 33), []⟩ <|
        .op ⟨(some 35), .load1 (.t 34), []⟩ <|
        .op ⟨(some 36), .mov (.t 0), []⟩ <|
        .op ⟨(some 37), .nilc (.t 36), []⟩ <|
        .op ⟨(some 38), .fieldA 7 (.t 37), []⟩ <|
        .op ⟨(some 39), .load1 (.t 38), []⟩ <|
        .op ⟨(some 40), .call 146 [(.t 21), (.t 27), (.t 31), (.t 35), (.t 39)], []⟩ <|
        .op ⟨(some 41), .nilc (.t 17), []⟩ <|
        .op ⟨(some 42), .fieldA 10 (.t 41), []⟩ <|
        .op ⟨none, .store 1 (.t 42) (.t 40), []⟩ <|
        .nil)) (
      .seq (.ops (
        .op ⟨(some 43), .mov (.t 0), []⟩ <|
        .op ⟨(some 44), .nilc (.t 43), []⟩ <|
        .op ⟨(some 45), .fieldA 10 (.t 44), []⟩ <|
        .op ⟨(some 46), .load1 (.t 45), []⟩ <|
        .op ⟨(some 47), .eq true .ptr (.t 46) (.c .nilp), []⟩ <|
        .nil)) (
      .cond (.t 47) (.ops (
          .op ⟨(some 48), .mov (.t 0), []⟩ <|
          .op ⟨(some 49), .nilc (.t 48), []⟩ <|
          .op ⟨(some 50), .fieldA 13 (.t 49), []⟩ <|
          .op ⟨none, .store 1 (.t 50) (.c (.int .i64 1)), []⟩ <|
          .nil)) (.skip)))) (.skip)))

def iter_Walk_field_hs : List (List Nat × List Nat) := []

end Wm.F
end

section
/- PRINTED by my tool (wip/wm/tool/Gen.lean): a function as one of my machine. -/
namespace Wm.F
open Wm
set_option maxRecDepth 100000

/-- 331: slices.Contains[[]int,int] -/
def slices_Contains___int_int_ : AFunc where
  closed := false
  nparams := 2
  ntmps := 9
  results := [.tmp 4]
  body := .seq (.ops (
      .op ⟨(some 4), .mov (.c (.bool false)), []⟩ <|
      .nil)) (
    .seq (.ops (
      .op ⟨(some 5), .mov (.t 0), []⟩ <|
      .op ⟨(some 6), .mov (.t 1), []⟩ <|
      .op ⟨(some 7), .call 404 [(.t 5), (.t 6)], []⟩ <|
      .op ⟨(some 8), .cmp .geq .i64 (.t 7) (.c (.int .i64 0)), []⟩ <|
      .op ⟨(some 4), .mov (.t 8), []⟩ <|
      .nil)) (
    .ret))

def slices_Contains___int_int__hs : List (List Nat × List Nat) := []

end Wm.F
end

section
/- PRINTED by my tool (wip/wm/tool/Gen.lean): a function as one of my machine. -/
namespace Wm.F
open Wm
set_option maxRecDepth 100000

/-- 555: (*withy/stack.Pop).Step -/
def stack_Pop_Step : AFunc where
  closed := false
  nparams := 2
  ntmps := 106
  results := [.tmp 4]
  body := .seq (.ops (
      .op ⟨(some 4), .mov (.c (.bool false)), []⟩ <|
      .nil)) (
    .seq (.seq (.ops (
      .op ⟨(some 5), .mov (.t 0), []⟩ <|
      .op ⟨(some 6), .eq false .ptr (.t 5) (.c .nilp), []⟩ <|
      .nil)) (
    .cond (.t 6) (.seq (.ops (
        .op ⟨(some 4), .mov (.c (.bool true)), []⟩ <|
        .nil)) (
      .ret)) (.skip))) (
    .seq (.seq (.ops (
      .op ⟨(some 7), .mov (.t 0), []⟩ <|
      .op ⟨(some 8), .nilc (.t 7), []⟩ <|
      .op ⟨(some 9), .fieldA 8 (.t 8), []⟩ <|
      .op ⟨(some 10), .load1 (.t 9), []⟩ <|
      .nil)) (
    .block 0 (.seq (.ops (
      .op ⟨(some 12), .cmp .eql .i64 (.t 10) (.c (.int .i64 0)), []⟩ <|
      .op ⟨(some 11), .mov (.t 12), []⟩ <|
      .nil)) (
    .cond (.t 11) (.seq (.ops (
        .op ⟨(some 13), .mov (.t 0), []⟩ <|
        .op ⟨(some 14), .mov (.t 1), []⟩ <|
        .op ⟨(some 15), .call 266 [(.t 14), (.c (.int .i64 3))], []⟩ <|
        .op ⟨(some 16), .nilc (.t 13), []⟩ <|
        .op ⟨(some 17), .fieldA 9 (.t 16), []⟩ <|
        .op ⟨none, .store 1 (.t 17) (.t 15), []⟩ <|
        .nil)) (
      .seq (.ops (
        .op ⟨(some 18), .mov (.t 0), []⟩ <|
        .op ⟨(some 19), .nilc (.t 18), []⟩ <|
        .op ⟨(some 20), .fieldA 8 (.t 19), []⟩ <|
        .op ⟨none, .store 1 (.t 20) (.c (.int .i64 1)), []⟩ <|
        .nil)) (
      .seq (.ops (
        .op ⟨(some 21), .mov (.t 0), []⟩ <|
        .op ⟨(some 22), .nilc (.t 21), []⟩ <|
        .op ⟨(some 23), .fieldA 2 (.t 22), []⟩ <|
        .op ⟨(some 24), .loadN 6 (.t 23), []⟩ <|
        .op ⟨(some 25), .mov (.t 0), []⟩ <|
        .op ⟨(some 26), .nilc (.t 25), []⟩ <|
        .op ⟨(some 27), .fieldA 9 (.t 26), []⟩ <|
        .op ⟨(some 28), .load1 (.t 27), []⟩ <|
        .op ⟨(some 29), .call 391 [(.t 24), (.t 28)], []⟩ <|
        .op ⟨(some 30), .cmp .lss .i64 (.t 29) (.c (.int .i64 0)), []⟩ <|
        .nil)) (
      .cond (.t 30) (.ops (
          .op ⟨(some 31), .mov (.t 0), []⟩ <|
          .op ⟨(some 32), .mov (.t 0), []⟩ <|
          .op ⟨(some 33), .nilc (.t 31), []⟩ <|
          .op ⟨(some 34), .fieldA 1 (.t 33), []⟩ <|
          .op ⟨none, .store 1 (.t 34) (.c (.bool true)), []⟩ <|
          .op ⟨(some 35), .nilc (.t 32), []⟩ <|
          .op ⟨(some 36), .fieldA 8 (.t 35), []⟩ <|
          .op ⟨none, .store 1 (.t 36) (.c (.int .i64 3)), []⟩ <|
          .nil)) (.skip))))) (.seq (.ops (
        .op ⟨(some 38), .cmp .eql .i64 (.t 10) (.c (.int .i64 1)), []⟩ <|
        .op ⟨(some 37), .mov (.t 38), []⟩ <|
        .nil)) (
      .cond (.t 37) (.seq (.ops (
          .op ⟨(some 39), .mov (.t 0), []⟩ <|
          .op ⟨(some 40), .mov (.t 0), []⟩ <|
          .op ⟨(some 41), .nilc (.t 40), []⟩ <|
          .op ⟨(some 42), .fieldA 2 (.t 41), []⟩ <|
          .op ⟨(some 43), .loadN 6 (.t 42), []⟩ <|
          .op ⟨(some 44), .mov (.t 1), []⟩ <|
          .op ⟨(some 45), .mov (.t 0), []⟩ <|
          .op ⟨(some 46), .nilc (.t 45), []⟩ <|
          .op ⟨(some 47), .fieldA 2 (.t 46), []⟩ <|
          .op ⟨(some 48), .loadN 6 (.t 47), []⟩ <|
          .op ⟨(some 49), .mov (.t 0), []⟩ <|
          .op ⟨(some 50), .nilc (.t 49), []⟩ <|
          .op ⟨(some 51), .fieldA 2 (.t 50), []⟩ <|
          .op ⟨(some 52), .loadN 6 (.t 51), []⟩ <|
          .op ⟨(some 53), .mov (.t 0), []⟩ <|
          .op ⟨(some 54), .nilc (.t 53), []⟩ <|
          .op ⟨(some 55), .fieldA 9 (.t 54), []⟩ <|
          .op ⟨(some 56), .load1 (.t 55), []⟩ <|
          .op ⟨(some 57), .call 391 [(.t 52), (.t 56)], [{ g := none, op := .loadN 6 (.t 47), d := 48 }, { g := none, op := .loadN 6 (.t 42), d := 43 }]⟩ <|
          .op ⟨(some 58), .call 293 [(.t 48), (.t 57)], [{ g := none, op := .loadN 6 (.t 42), d := 43 }]⟩ <|
          .op ⟨(some 59), .call 266 [(.t 44), (.t 58)], [{ g := none, op := .loadN 6 (.t 42), d := 43 }]⟩ <|
          .op ⟨(some 60), .call 392 [(.t 43), (.t 59)], []⟩ <|
          .op ⟨(some 61), .nilc (.t 39), []⟩ <|
          .op ⟨(some 62), .fieldA 10 (.t 61), []⟩ <|
          .op ⟨none, .store 1 (.t 62) (.t 60), []⟩ <|
          .nil)) (
        .ops (
          .op ⟨(some 63), .mov (.t 0), []⟩ <|
          .op ⟨(some 64), .nilc (.t 63), []⟩ <|
          .op ⟨(some 65), .fieldA 8 (.t 64), []⟩ <|
          .op ⟨none, .store 1 (.t 65) (.c (.int .i64 2)), []⟩ <|
          .nil))) (.seq (.ops (
          .op ⟨(some 67), .cmp .eql .i64 (.t 10) (.c (.int .i64 2)), []⟩ <|
          .op ⟨(some 66), .mov (.t 67), []⟩ <|
          .nil)) (
        .cond (.t 66) (.seq (.ops (
            .op ⟨(some 68), .mov (.t 0), []⟩ <|
            .op ⟨(some 69), .nilc (.t 68), []⟩ <|
            .op ⟨(some 70), .fieldA 8 (.t 69), []⟩ <|
            .op ⟨none, .store 1 (.t 70) (.c (.int .i64 0)), []⟩ <|
            .nil)) (
          .seq (.ops (
            .op ⟨(some 71), .mov (.t 1), []⟩ <|
            .op ⟨(some 72), .mov (.t 0), []⟩ <|
            .op ⟨(some 73), .nilc (.t 72), []⟩ <|
            .op ⟨(some 74), .fieldA 9 (.t 73), []⟩ <|
            .op ⟨(some 75), .load1 (.t 74), []⟩ <|
            .op ⟨(some 76), .mov (.t 0), []⟩ <|
            .op ⟨(some 77), .nilc (.t 76), []⟩ <|
            .op ⟨(some 78), .fieldA 9 (.t 77), []⟩ <|
            .op ⟨(some 79), .load1 (.t 78), []⟩ <|
            .op ⟨(some 80), .mov (.t 0), []⟩ <|
            .op ⟨(some 81), .nilc (.t 80), []⟩ <|
            .op ⟨(some 82), .fieldA 10 (.t 81), []⟩ <|
            .op ⟨(some 83), .load1 (.t 82), []⟩ <|
            .op ⟨(some 84), .call 461 [(.t 79), (.t 83)], [{ g := none, op := .load1 (.t 74), d := 75 }]⟩ <|
            .op ⟨(some 85), .call 269 [(.t 71), (.c (.int .i64 3)), (.t 75), (.t 84)], []⟩ <|
            .nil)) (
          .cond (.t 85) (.ops (
              .op ⟨(some 86), .mov (.t 0), []⟩ <|
              .op ⟨(some 87), .mov (.t 0), []⟩ <|
              .op ⟨(some 88), .mov (.t 0), []⟩ <|
              .op ⟨(some 89), .nilc (.t 88), []⟩ <|
              .op ⟨(some 90), .fieldA 2 (.t 89), []⟩ <|
              .op ⟨(some 91), .loadN 6 (.t 90), []⟩ <|
              .op ⟨(some 92), .mov (.t 0), []⟩ <|
              .op ⟨(some 93), .nilc (.t 92), []⟩ <|
              .op ⟨(some 94), .fieldA 9 (.t 93), []⟩ <|
              .op ⟨(some 95), .load1 (.t 94), []⟩ <|
              .op ⟨(some 96), .call 391 [(.t 91), (.t 95)], []⟩ <|
              .op ⟨(some 97), .nilc (.t 86), []⟩ <|
              .op ⟨(some 98), .fieldA 0 (.t 97), []⟩ <|
              .op ⟨none, .store 1 (.t 98) (.t 96), []⟩ <|
              .op ⟨(some 99), .nilc (.t 87), []⟩ <|
              .op ⟨(some 100), .fieldA 8 (.t 99), []⟩ <|
              .op ⟨none, .store 1 (.t 100) (.c (.int .i64 3)), []⟩ <|
              .nil)) (.skip)))) (.skip))))))))) (
    .seq (.ops (
      .op ⟨(some 101), .mov (.t 0), []⟩ <|
      .op ⟨(some 102), .nilc (.t 101), []⟩ <|
      .op ⟨(some 103), .fieldA 8 (.t 102), []⟩ <|
      .op ⟨(some 104), .load1 (.t 103), []⟩ <|
      .op ⟨(some 105), .cmp .eql .i64 (.t 104) (.c (.int .i64 3)), []⟩ <|
      .op ⟨(some 4), .mov (.t 105), []⟩ <|
      .nil)) (
    .ret))))

def stack_Pop_Step_hs : List (List Nat × List Nat) := []

end Wm.F
end

section
/- PRINTED by my tool (wip/wm/tool/Gen.lean): a function as one of my machine. -/
namespace Wm.F
open Wm
set_option maxRecDepth 100000

/-- 556: withy/head.Made -/
def head_Made : AFunc where
  closed := true
  nparams := 4
  ntmps := 25
  results := [.tmp 8, .tmp 9]
  body := .seq (.ops (
      .op ⟨(some 8), .mov (.c (.int .u64 0)), []⟩ <|
      .op ⟨(some 9), .mov (.c (.bool false)), []⟩ <|
      .nil)) (
    .seq (.seq (.ops (
      .op ⟨(some 10), .mov (.t 0), []⟩ <|
      .op ⟨(some 11), .cmp .neq .i64 (.t 10) (.c (.int .i64 1)), []⟩ <|
      .op ⟨(some 12), .mov (.t 11), []⟩ <|
      .grd 12 true [⟨(some 13), .mov (.t 0), []⟩,
          ⟨(some 14), .cmp .neq .i64 (.t 13) (.c (.int .i64 2)), []⟩] <|
      .op ⟨(some 15), .pick (.t 12) (.t 14) (.c (.bool false)), []⟩ <|
      .nil)) (
    .cond (.t 15) (.seq (.ops (
        .op ⟨(some 8), .mov (.c (.int .u64 0)), []⟩ <|
        .op ⟨(some 9), .mov (.c (.bool false)), []⟩ <|
        .nil)) (
      .ret)) (.skip))) (
    .seq (.ops (
      .op ⟨(some 16), .mov (.t 0), []⟩ <|
      .op ⟨(some 17), .mov (.t 3), []⟩ <|
      .op ⟨(some 18), .call 557 [(.t 17)], []⟩ <|
      .op ⟨(some 19), .mov (.t 1), []⟩ <|
      .op ⟨(some 20), .mov (.t 2), []⟩ <|
      .op ⟨(some 21), .build [(.int .i64 0), (.int .i64 0), (.bool false), (.int .i64 0), (.int .i64 0), (.int .i64 0)] [(0, 1, (.t 16)), (1, 1, (.t 18)), (3, 1, (.t 19)), (4, 1, (.t 20))], []⟩ <|
      .op ⟨(some 22), .call 382 [(.t 21)], []⟩ <|
      .op ⟨(some 23), .extract (.t 22) 0, []⟩ <|
      .op ⟨(some 24), .extract (.t 22) 1, []⟩ <|
      .op ⟨(some 8), .mov (.t 23), []⟩ <|
      .op ⟨(some 9), .mov (.t 24), []⟩ <|
      .nil)) (
    .ret)))

def head_Made_hs : List (List Nat × List Nat) := []

end Wm.F
end

section
/- PRINTED by my tool (wip/wm/tool/Gen.lean): a function as one of my machine. -/
namespace Wm.F
open Wm
set_option maxRecDepth 100000

/-- 302: withy/field.fresh -/
def field_fresh : AFunc where
  closed := false
  nparams := 4
  ntmps := 25
  results := [.tmp 8]
  body := .seq (.ops (
      .op ⟨(some 4), .box (.t 0), []⟩ <|
      .op ⟨(some 8), .mov (.c .nilp), []⟩ <|
      .nil)) (
    .seq (.ops (
      .op ⟨(some 10), .loadN 6 (.t 4), []⟩ <|
      .op ⟨(some 11), .mov (.t 1), []⟩ <|
      .op ⟨(some 12), .mov (.t 2), []⟩ <|
      .op ⟨(some 13), .call 305 [(.t 10), (.t 11), (.t 12)], []⟩ <|
      .op ⟨(some 9), .mov (.t 13), []⟩ <|
      .nil)) (
    .seq (.seq (.ops (
      .op ⟨(some 14), .mov (.t 9), []⟩ <|
      .op ⟨(some 15), .cmp .lss .i64 (.t 14) (.c (.int .i64 0)), []⟩ <|
      .op ⟨(some 16), .mov (.t 15), []⟩ <|
      .grd 16 false [⟨(some 17), .mov (.t 3), []⟩,
          ⟨(some 18), .eq false .ptr (.t 17) (.c .nilp), []⟩] <|
      .op ⟨(some 19), .pick (.t 16) (.c (.bool true)) (.t 18), []⟩ <|
      .nil)) (
    .cond (.t 19) (.seq (.ops (
        .op ⟨(some 8), .mov (.c .nilp), []⟩ <|
        .nil)) (
      .ret)) (.skip))) (
    .seq (.ops (
      .op ⟨(some 20), .loadN 6 (.t 4), []⟩ <|
      .op ⟨(some 21), .mov (.t 3), []⟩ <|
      .op ⟨(some 22), .mov (.t 9), []⟩ <|
      .op ⟨(some 23), .build [(.int .i64 0), (.int .i64 0), (.int .i64 0), (.int .i64 0), (.int .i64 0), (.int .i64 0), .nilp, (.int .i64 0), (.int .i64 0), (.int .i64 0), .nilp, (.int .i64 0)] [(0, 6, (.t 20)), (6, 1, (.t 21)), (7, 1, (.t 22))], []⟩ <|
      .op ⟨(some 24), .box (.t 23), []⟩ <|
      .op ⟨(some 8), .mov (.t 24), []⟩ <|
      .nil)) (
    .ret))))

def field_fresh_hs : List (List Nat × List Nat) := []

end Wm.F
end

section
/- PRINTED by my tool (wip/wm/tool/Gen.lean): a function as one of my machine. -/
namespace Wm.F
open Wm
set_option maxRecDepth 100000

/-- 303: (*withy/field.newest).step -/
def field_newest_step : AFunc where
  closed := false
  nparams := 2
  ntmps := 78
  results := [.tmp 4]
  body := .seq (.ops (
      .op ⟨(some 4), .mov (.c (.bool false)), []⟩ <|
      .nil)) (
    .seq (.seq (.ops (
      .op ⟨(some 5), .mov (.t 0), []⟩ <|
      .op ⟨(some 6), .nilc (.t 5), []⟩ <|
      .op ⟨(some 7), .fieldA 11 (.t 6), []⟩ <|
      .op ⟨(some 8), .load1 (.t 7), []⟩ <|
      .nil)) (
    .block 0 (.seq (.ops (
      .op ⟨(some 10), .cmp .eql .i64 (.t 8) (.c (.int .i64 0)), []⟩ <|
      .op ⟨(some 9), .mov (.t 10), []⟩ <|
      .nil)) (
    .cond (.t 9) (.seq (.ops (
        .op ⟨(some 11), .mov (.t 0), []⟩ <|
        .op ⟨(some 12), .mov (.t 0), []⟩ <|
        .op ⟨(some 13), .mov (.t 0), []⟩ <|
        .op ⟨(some 14), .nilc (.t 13), []⟩ <|
        .op ⟨(some 15), .fieldA 0 (.t 14), []⟩ <|
        .op ⟨(some 16), .loadN 6 (.t 15), []⟩ <|
        .op ⟨(some 17), .mov (.t 1), []⟩ <|
        .op ⟨(some 18), .mov (.t 0), []⟩ <|
        .op ⟨(some 19), .nilc (.t 18), []⟩ <|
        .op ⟨(some 20), .fieldA 7 (.t 19), []⟩ <|
        .op ⟨(some 21), .load1 (.t 20), []⟩ <|
        .op ⟨(some 24), .mov (.t 0), []⟩ <|
        .op ⟨(some 25), .nilc (.t 24), []⟩ <|
        .op ⟨(some 26), .fieldA 6 (.t 25), []⟩ <|
        .op ⟨(some 27), .load1 (.t 26), []⟩ <|
        .op ⟨(some 28), .nilc (.t 27), []⟩ <|
        .op ⟨(some 29), .fieldA 0 (.t 28), []⟩ <|
        .op ⟨(some 30), .load1 (.t 29), []⟩ <|
        .op ⟨(some 22), .call 266 [(.t 17), (.t 21)], [{ g := none, op := .load1 (.t 29), d := 30 }, { g := none, op := .load1 (.t 26), d := 27 }, { g := none, op := .loadN 6 (.t 15), d := 16 }]⟩ <|
        .op ⟨(some 23), .call 304 [(.t 16), (.t 22)], [{ g := none, op := .load1 (.t 29), d := 30 }, { g := none, op := .load1 (.t 26), d := 27 }]⟩ <|
        .op ⟨(some 31), .nilc (.t 11), []⟩ <|
        .op ⟨(some 32), .fieldA 8 (.t 31), []⟩ <|
        .op ⟨none, .store 1 (.t 32) (.t 23), []⟩ <|
        .op ⟨(some 33), .nilc (.t 12), []⟩ <|
        .op ⟨(some 34), .fieldA 9 (.t 33), []⟩ <|
        .op ⟨none, .store 1 (.t 34) (.t 30), []⟩ <|
        .nil)) (
      .seq (.ops (
        .op ⟨(some 35), .mov (.t 0), []⟩ <|
        .op ⟨(some 36), .nilc (.t 35), []⟩ <|
        .op ⟨(some 37), .fieldA 11 (.t 36), []⟩ <|
        .op ⟨none, .store 1 (.t 37) (.c (.int .i64 2)), []⟩ <|
        .nil)) (
      .seq (.ops (
        .op ⟨(some 38), .mov (.t 0), []⟩ <|
        .op ⟨(some 39), .nilc (.t 38), []⟩ <|
        .op ⟨(some 40), .fieldA 8 (.t 39), []⟩ <|
        .op ⟨(some 41), .load1 (.t 40), []⟩ <|
        .op ⟨(some 42), .cmp .geq .i64 (.t 41) (.c (.int .i64 0)), []⟩ <|
        .nil)) (
      .cond (.t 42) (.seq (.ops (
          .op ⟨(some 43), .mov (.t 0), []⟩ <|
          .op ⟨(some 44), .mov (.t 0), []⟩ <|
          .op ⟨(some 45), .nilc (.t 44), []⟩ <|
          .op ⟨(some 46), .fieldA 0 (.t 45), []⟩ <|
          .op ⟨(some 47), .loadN 6 (.t 46), []⟩ <|
          .op ⟨(some 48), .mov (.t 0), []⟩ <|
          .op ⟨(some 49), .nilc (.t 48), []⟩ <|
          .op ⟨(some 50), .fieldA 8 (.t 49), []⟩ <|
          .op ⟨(some 51), .load1 (.t 50), []⟩ <|
          .op ⟨(some 52), .mov (.t 0), []⟩ <|
          .op ⟨(some 53), .nilc (.t 52), []⟩ <|
          .op ⟨(some 54), .fieldA 6 (.t 53), []⟩ <|
          .op ⟨(some 55), .load1 (.t 54), []⟩ <|
          .op ⟨(some 56), .call 151 [(.t 47), (.t 51), (.t 55)], []⟩ <|
          .op ⟨(some 57), .nilc (.t 43), []⟩ <|
          .op ⟨(some 58), .fieldA 10 (.t 57), []⟩ <|
          .op ⟨none, .store 1 (.t 58) (.t 56), []⟩ <|
          .nil)) (
        .ops (
          .op ⟨(some 59), .mov (.t 0), []⟩ <|
          .op ⟨(some 60), .nilc (.t 59), []⟩ <|
          .op ⟨(some 61), .fieldA 11 (.t 60), []⟩ <|
          .op ⟨none, .store 1 (.t 61) (.c (.int .i64 1)), []⟩ <|
          .nil))) (.skip))))) (.seq (.ops (
        .op ⟨(some 63), .cmp .eql .i64 (.t 8) (.c (.int .i64 1)), []⟩ <|
        .op ⟨(some 62), .mov (.t 63), []⟩ <|
        .nil)) (
      .cond (.t 62) (.seq (.ops (
          .op ⟨(some 64), .mov (.t 0), []⟩ <|
          .op ⟨(some 65), .nilc (.t 64), []⟩ <|
          .op ⟨(some 66), .fieldA 10 (.t 65), []⟩ <|
          .op ⟨(some 67), .load1 (.t 66), []⟩ <|
          .op ⟨(some 68), .mov (.t 1), []⟩ <|
          .op ⟨(some 69), .call 150 [(.t 67), (.t 68)], []⟩ <|
          .nil)) (
        .cond (.t 69) (.ops (
            .op ⟨(some 70), .mov (.t 0), []⟩ <|
            .op ⟨(some 71), .nilc (.t 70), []⟩ <|
            .op ⟨(some 72), .fieldA 11 (.t 71), []⟩ <|
            .op ⟨none, .store 1 (.t 72) (.c (.int .i64 2)), []⟩ <|
            .nil)) (.skip))) (.skip))))))) (
    .seq (.ops (
      .op ⟨(some 73), .mov (.t 0), []⟩ <|
      .op ⟨(some 74), .nilc (.t 73), []⟩ <|
      .op ⟨(some 75), .fieldA 11 (.t 74), []⟩ <|
      .op ⟨(some 76), .load1 (.t 75), []⟩ <|
      .op ⟨(some 77), .cmp .eql .i64 (.t 76) (.c (.int .i64 2)), []⟩ <|
      .op ⟨(some 4), .mov (.t 77), []⟩ <|
      .nil)) (
    .ret)))

def field_newest_step_hs : List (List Nat × List Nat) := []

end Wm.F
end

section
/- PRINTED by my tool (wip/wm/tool/Gen.lean): a function as one of my machine. -/
namespace Wm.F
open Wm
set_option maxRecDepth 100000

/-- 304: withy/field.named -/
def field_named : AFunc where
  closed := true
  nparams := 2
  ntmps := 13
  results := [.tmp 4]
  body := .seq (.ops (
      .op ⟨(some 2), .box (.t 0), []⟩ <|
      .op ⟨(some 4), .mov (.c (.int .i64 0)), []⟩ <|
      .nil)) (
    .seq (.seq (.ops (
      .op ⟨(some 5), .mov (.t 1), []⟩ <|
      .op ⟨(some 6), .fieldA 0 (.t 2), []⟩ <|
      .op ⟨(some 7), .load1 (.t 6), []⟩ <|
      .op ⟨(some 8), .conv .u64 (.t 7), []⟩ <|
      .op ⟨(some 9), .cmp .gtr .u64 (.t 5) (.t 8), []⟩ <|
      .nil)) (
    .cond (.t 9) (.seq (.ops (
        .op ⟨(some 4), .mov (.c (.int .i64 (-1))), []⟩ <|
        .nil)) (
      .ret)) (.skip))) (
    .seq (.ops (
      .op ⟨(some 10), .mov (.t 1), []⟩ <|
      .op ⟨(some 11), .conv .i64 (.t 10), []⟩ <|
      .op ⟨(some 12), .arith .sub .i64 (.t 11) (.c (.int .i64 1)), []⟩ <|
      .op ⟨(some 4), .mov (.t 12), []⟩ <|
      .nil)) (
    .ret)))

def field_named_hs : List (List Nat × List Nat) := []

end Wm.F
end

section
/- PRINTED by my tool (wip/wm/tool/Gen.lean): a function as one of my machine. -/
namespace Wm.F
open Wm
set_option maxRecDepth 100000

/-- 306: (*withy/field.newest).point -/
def field_newest_point : AFunc where
  closed := false
  nparams := 1
  ntmps := 17
  results := [.tmp 2]
  body := .seq (.ops (
      .op ⟨(some 2), .mov (.c (.int .i64 0)), []⟩ <|
      .nil)) (
    .seq (.ops (
      .op ⟨(some 3), .mov (.t 0), []⟩ <|
      .op ⟨(some 4), .nilc (.t 3), []⟩ <|
      .op ⟨(some 5), .fieldA 9 (.t 4), []⟩ <|
      .op ⟨(some 6), .load1 (.t 5), []⟩ <|
      .op ⟨(some 7), .mov (.t 0), []⟩ <|
      .op ⟨(some 8), .nilc (.t 7), []⟩ <|
      .op ⟨(some 9), .fieldA 6 (.t 8), []⟩ <|
      .op ⟨(some 10), .load1 (.t 9), []⟩ <|
      .op ⟨(some 11), .mov (.t 0), []⟩ <|
      .op ⟨(some 12), .nilc (.t 11), []⟩ <|
      .op ⟨(some 13), .fieldA 8 (.t 12), []⟩ <|
      .op ⟨(some 14), .load1 (.t 13), []⟩ <|
      .op ⟨(some 15), .call 152 [(.t 10), (.t 14)], [{ g := none, op := .load1 (.t 5), d := 6 }]⟩ <|
      .op ⟨(some 16), .minmax true .i64 (.t 6) (.t 15), []⟩ <|
      .op ⟨(some 2), .mov (.t 16), []⟩ <|
      .nil)) (
    .ret))

def field_newest_point_hs : List (List Nat × List Nat) := []

end Wm.F
end

section
/- PRINTED by my tool (wip/wm/tool/Gen.lean): a function as one of my machine. -/
namespace Wm.F
open Wm
set_option maxRecDepth 100000

/-- 495: (*withy/root.Table).Take -/
def root_Table_Take : AFunc where
  closed := false
  nparams := 2
  ntmps := 63
  results := [.tmp 4, .tmp 5, .tmp 6]
  body := .seq (.ops (
      .op ⟨(some 4), .mov (.c (.int .i64 0)), []⟩ <|
      .op ⟨(some 5), .mov (.c (.int .u64 0)), []⟩ <|
      .op ⟨(some 6), .mov (.c (.bool false)), []⟩ <|
      .nil)) (
    .seq (.ops (
      .op ⟨(some 10), .mov (.t 0), []⟩ <|
      .op ⟨(some 11), .call 463 [(.t 10)], []⟩ <|
      .op ⟨(some 7), .mov (.t 11), []⟩ <|
      .nil)) (
    .seq (.seq (.ops (
      .op ⟨(some 12), .mov (.t 7), []⟩ <|
      .op ⟨(some 13), .cmp .lss .i64 (.t 12) (.c (.int .i64 0)), []⟩ <|
      .op ⟨(some 14), .mov (.t 13), []⟩ <|
      .grd 14 false [⟨(some 15), .mov (.t 1), []⟩,
          ⟨(some 16), .cmp .lss .i64 (.t 15) (.c (.int .i64 0)), []⟩] <|
      .op ⟨(some 17), .pick (.t 14) (.c (.bool true)) (.t 16), []⟩ <|
      .op ⟨(some 18), .mov (.t 17), []⟩ <|
      .grd 18 false [⟨(some 19), .mov (.t 1), []⟩,
          ⟨(some 20), .mov (.t 0), []⟩,
          ⟨(some 21), .nilc (.t 20), []⟩,
          ⟨(some 22), .fieldA 0 (.t 21), []⟩,
          ⟨(some 23), .fieldA 0 (.t 22), []⟩,
          ⟨(some 24), .load1 (.t 23), []⟩,
          ⟨(some 25), .cmp .geq .i64 (.t 19) (.t 24), []⟩] <|
      .op ⟨(some 26), .pick (.t 18) (.c (.bool true)) (.t 25), []⟩ <|
      .nil)) (
    .cond (.t 26) (.seq (.ops (
        .op ⟨(some 4), .mov (.c (.int .i64 0)), []⟩ <|
        .op ⟨(some 5), .mov (.c (.int .u64 0)), []⟩ <|
        .op ⟨(some 6), .mov (.c (.bool false)), []⟩ <|
        .nil)) (
      .ret)) (.skip))) (
    .seq (.ops (
      .op ⟨(some 27), .mov (.t 0), []⟩ <|
      .op ⟨(some 28), .nilc (.t 27), []⟩ <|
      .op ⟨(some 29), .fieldA 7 (.t 28), []⟩ <|
      .op ⟨(some 30), .load1 (.t 29), []⟩ <|
      .op ⟨(some 31), .mov (.t 7), []⟩ <|
      .op ⟨(some 32), .mov (.t 0), []⟩ <|
      .op ⟨(some 33), .nilc (.t 32), []⟩ <|
      .op ⟨(some 34), .fieldA 7 (.t 33), []⟩ <|
      .op ⟨(some 35), .load1 (.t 34), []⟩ <|
      .op ⟨(some 36), .mov (.t 7), []⟩ <|
      .op ⟨(some 37), .indexA 2 (.t 35) (.t 36), []⟩ <|
      .op ⟨(some 38), .fieldA 0 (.t 37), []⟩ <|
      .op ⟨(some 39), .load1 (.t 38), []⟩ <|
      .op ⟨(some 40), .arith .add .u64 (.t 39) (.c (.int .u64 1)), []⟩ <|
      .op ⟨(some 41), .mov (.t 1), []⟩ <|
      .op ⟨(some 42), .build [(.int .u64 0), (.int .i64 0)] [(0, 1, (.t 40)), (1, 1, (.t 41))], []⟩ <|
      .op ⟨(some 43), .indexA 2 (.t 30) (.t 31), []⟩ <|
      .op ⟨none, .store 2 (.t 43) (.t 42), []⟩ <|
      .nil)) (
    .seq (.ops (
      .op ⟨(some 45), .mov (.t 0), []⟩ <|
      .op ⟨(some 46), .nilc (.t 45), []⟩ <|
      .op ⟨(some 47), .fieldA 6 (.t 46), []⟩ <|
      .op ⟨(some 48), .load1 (.t 47), []⟩ <|
      .op ⟨(some 49), .mov (.t 7), []⟩ <|
      .op ⟨(some 50), .mov (.t 0), []⟩ <|
      .op ⟨(some 51), .nilc (.t 50), []⟩ <|
      .op ⟨(some 52), .fieldA 7 (.t 51), []⟩ <|
      .op ⟨(some 53), .load1 (.t 52), []⟩ <|
      .op ⟨(some 54), .mov (.t 7), []⟩ <|
      .op ⟨(some 55), .indexA 2 (.t 53) (.t 54), []⟩ <|
      .op ⟨(some 56), .fieldA 0 (.t 55), []⟩ <|
      .op ⟨(some 57), .load1 (.t 56), []⟩ <|
      .op ⟨(some 58), .call 472 [(.t 48), (.t 49), (.t 57)], []⟩ <|
      .op ⟨(some 44), .mov (.t 58), []⟩ <|
      .op ⟨(some 59), .extract (.t 44) 0, []⟩ <|
      .op ⟨(some 60), .extract (.t 44) 1, []⟩ <|
      .op ⟨(some 8), .mov (.t 59), []⟩ <|
      .op ⟨(some 9), .mov (.t 60), []⟩ <|
      .nil)) (
    .seq (.ops (
      .op ⟨(some 61), .mov (.t 7), []⟩ <|
      .op ⟨(some 62), .mov (.t 8), []⟩ <|
      .op ⟨(some 4), .mov (.t 61), []⟩ <|
      .op ⟨(some 5), .mov (.t 62), []⟩ <|
      .op ⟨(some 6), .mov (.c (.bool true)), []⟩ <|
      .nil)) (
    .ret))))))

def root_Table_Take_hs : List (List Nat × List Nat) := []

end Wm.F
end

section
/- PRINTED by my tool (wip/wm/tool/Gen.lean): a function as one of my machine. -/
namespace Wm.F
open Wm
set_option maxRecDepth 100000

/-- 150: (*withy/field.Stamp).Step -/
def field_Stamp_Step : AFunc where
  closed := false
  nparams := 2
  ntmps := 85
  results := [.tmp 4]
  body := .seq (.ops (
      .op ⟨(some 4), .mov (.c (.bool false)), []⟩ <|
      .nil)) (
    .seq (.seq (.ops (
      .op ⟨(some 6), .mov (.t 0), []⟩ <|
      .op ⟨(some 7), .eq false .ptr (.t 6) (.c .nilp), []⟩ <|
      .nil)) (
    .cond (.t 7) (.seq (.ops (
        .op ⟨(some 4), .mov (.c (.bool true)), []⟩ <|
        .nil)) (
      .ret)) (.skip))) (
    .seq (.ops (
      .op ⟨(some 8), .mov (.t 0), []⟩ <|
      .op ⟨(some 9), .nilc (.t 8), []⟩ <|
      .op ⟨(some 10), .fieldA 0 (.t 9), []⟩ <|
      .op ⟨(some 11), .loadN 6 (.t 10), []⟩ <|
      .op ⟨(some 12), .mov (.t 0), []⟩ <|
      .op ⟨(some 13), .nilc (.t 12), []⟩ <|
      .op ⟨(some 14), .fieldA 7 (.t 13), []⟩ <|
      .op ⟨(some 15), .load1 (.t 14), []⟩ <|
      .op ⟨(some 16), .call 305 [(.t 11), (.t 15), (.c (.int .i64 1))], []⟩ <|
      .op ⟨(some 5), .mov (.t 16), []⟩ <|
      .nil)) (
    .seq (.seq (.ops (
      .op ⟨(some 17), .mov (.t 0), []⟩ <|
      .op ⟨(some 18), .nilc (.t 17), []⟩ <|
      .op ⟨(some 19), .fieldA 8 (.t 18), []⟩ <|
      .op ⟨(some 20), .load1 (.t 19), []⟩ <|
      .nil)) (
    .block 0 (.seq (.ops (
      .op ⟨(some 22), .cmp .eql .i64 (.t 20) (.c (.int .i64 0)), []⟩ <|
      .op ⟨(some 21), .mov (.t 22), []⟩ <|
      .nil)) (
    .cond (.t 21) (.seq (.ops (
        .op ⟨(some 23), .mov (.t 0), []⟩ <|
        .op ⟨(some 24), .nilc (.t 23), []⟩ <|
        .op ⟨(some 25), .fieldA 8 (.t 24), []⟩ <|
        .op ⟨none, .store 1 (.t 25) (.c (.int .i64 1)), []⟩ <|
        .nil)) (
      .seq (.ops (
        .op ⟨(some 26), .mov (.t 1), []⟩ <|
        .op ⟨(some 27), .mov (.t 5), []⟩ <|
        .op ⟨(some 28), .call 266 [(.t 26), (.t 27)], []⟩ <|
        .op ⟨(some 29), .cmp .neq .u64 (.t 28) (.c (.int .u64 0)), []⟩ <|
        .nil)) (
      .cond (.t 29) (.ops (
          .op ⟨(some 30), .mov (.t 0), []⟩ <|
          .op ⟨(some 31), .nilc (.t 30), []⟩ <|
          .op ⟨(some 32), .fieldA 8 (.t 31), []⟩ <|
          .op ⟨none, .store 1 (.t 32) (.c (.int .i64 3)), []⟩ <|
          .nil)) (.skip)))) (.seq (.ops (
        .op ⟨(some 34), .cmp .eql .i64 (.t 20) (.c (.int .i64 1)), []⟩ <|
        .op ⟨(some 33), .mov (.t 34), []⟩ <|
        .nil)) (
      .cond (.t 33) (.seq (.ops (
          .op ⟨(some 35), .mov (.t 0), []⟩ <|
          .op ⟨(some 36), .mov (.t 0), []⟩ <|
          .op ⟨(some 37), .mov (.t 1), []⟩ <|
          .op ⟨(some 39), .mov (.t 0), []⟩ <|
          .op ⟨(some 40), .nilc (.t 39), []⟩ <|
          .op ⟨(some 41), .fieldA 6 (.t 40), []⟩ <|
          .op ⟨(some 42), .load1 (.t 41), []⟩ <|
          .op ⟨(some 43), .nilc (.t 42), []⟩ <|
          .op ⟨(some 44), .fieldA 0 (.t 43), []⟩ <|
          .op ⟨(some 45), .load1 (.t 44), []⟩ <|
          .op ⟨(some 38), .call 266 [(.t 37), (.c (.int .i64 0))], [{ g := none, op := .load1 (.t 44), d := 45 }, { g := none, op := .load1 (.t 41), d := 42 }]⟩ <|
          .op ⟨(some 46), .nilc (.t 35), []⟩ <|
          .op ⟨(some 47), .fieldA 9 (.t 46), []⟩ <|
          .op ⟨none, .store 1 (.t 47) (.t 38), []⟩ <|
          .op ⟨(some 48), .nilc (.t 36), []⟩ <|
          .op ⟨(some 49), .fieldA 10 (.t 48), []⟩ <|
          .op ⟨none, .store 1 (.t 49) (.t 45), []⟩ <|
          .nil)) (
        .ops (
          .op ⟨(some 50), .mov (.t 0), []⟩ <|
          .op ⟨(some 51), .nilc (.t 50), []⟩ <|
          .op ⟨(some 52), .fieldA 8 (.t 51), []⟩ <|
          .op ⟨none, .store 1 (.t 52) (.c (.int .i64 2)), []⟩ <|
          .nil))) (.seq (.ops (
          .op ⟨(some 54), .cmp .eql .i64 (.t 20) (.c (.int .i64 2)), []⟩ <|
          .op ⟨(some 53), .mov (.t 54), []⟩ <|
          .nil)) (
        .cond (.t 53) (.seq (.seq (.ops (
            .op ⟨(some 55), .mov (.t 1), []⟩ <|
            .op ⟨(some 56), .mov (.t 5), []⟩ <|
            .op ⟨(some 57), .mov (.t 0), []⟩ <|
            .op ⟨(some 58), .nilc (.t 57), []⟩ <|
            .op ⟨(some 59), .fieldA 9 (.t 58), []⟩ <|
            .op ⟨(some 60), .load1 (.t 59), []⟩ <|
            .op ⟨(some 61), .call 269 [(.t 55), (.t 56), (.c (.int .u64 0)), (.t 60)], []⟩ <|
            .nil)) (
          .cond (.t 61) (.ops (
              .op ⟨(some 62), .mov (.t 0), []⟩ <|
              .op ⟨(some 63), .nilc (.t 62), []⟩ <|
              .op ⟨(some 64), .fieldA 6 (.t 63), []⟩ <|
              .op ⟨(some 65), .load1 (.t 64), []⟩ <|
              .op ⟨(some 66), .nilc (.t 65), []⟩ <|
              .op ⟨(some 67), .fieldA 1 (.t 66), []⟩ <|
              .op ⟨(some 68), .load1 (.t 67), []⟩ <|
              .op ⟨(some 69), .mov (.t 0), []⟩ <|
              .op ⟨(some 70), .nilc (.t 69), []⟩ <|
              .op ⟨(some 71), .fieldA 7 (.t 70), []⟩ <|
              .op ⟨(some 72), .load1 (.t 71), []⟩ <|
              .op ⟨(some 73), .mov (.t 0), []⟩ <|
              .op ⟨(some 74), .nilc (.t 73), []⟩ <|
              .op ⟨(some 75), .fieldA 10 (.t 74), []⟩ <|
              .op ⟨(some 76), .load1 (.t 75), []⟩ <|
              .op ⟨none, .mapSet .int (.t 68) (.t 72) (.t 76), []⟩ <|
              .nil)) (.skip))) (
          .ops (
            .op ⟨(some 77), .mov (.t 0), []⟩ <|
            .op ⟨(some 78), .nilc (.t 77), []⟩ <|
            .op ⟨(some 79), .fieldA 8 (.t 78), []⟩ <|
            .op ⟨none, .store 1 (.t 79) (.c (.int .i64 3)), []⟩ <|
            .nil))) (.skip))))))))) (
    .seq (.ops (
      .op ⟨(some 80), .mov (.t 0), []⟩ <|
      .op ⟨(some 81), .nilc (.t 80), []⟩ <|
      .op ⟨(some 82), .fieldA 8 (.t 81), []⟩ <|
      .op ⟨(some 83), .load1 (.t 82), []⟩ <|
      .op ⟨(some 84), .cmp .eql .i64 (.t 83) (.c (.int .i64 3)), []⟩ <|
      .op ⟨(some 4), .mov (.t 84), []⟩ <|
      .nil)) (
    .ret)))))

def field_Stamp_Step_hs : List (List Nat × List Nat) := []

end Wm.F
end

section
/- PRINTED by my tool (wip/wm/tool/Gen.lean): a function as one of my machine. -/
namespace Wm.F
open Wm
set_option maxRecDepth 100000

/-- 151: withy/field.NewStamp -/
def field_NewStamp : AFunc where
  closed := false
  nparams := 3
  ntmps := 20
  results := [.tmp 6]
  body := .seq (.ops (
      .op ⟨(some 3), .box (.t 0), []⟩ <|
      .op ⟨(some 6), .mov (.c .nilp), []⟩ <|
      .nil)) (
    .seq (.seq (.ops (
      .op ⟨(some 7), .loadN 6 (.t 3), []⟩ <|
      .op ⟨(some 8), .mov (.t 1), []⟩ <|
      .op ⟨(some 9), .call 261 [(.t 7), (.t 8)], []⟩ <|
      .op ⟨(some 10), .cmp .lss .i64 (.t 9) (.c (.int .i64 0)), []⟩ <|
      .op ⟨(some 11), .mov (.t 10), []⟩ <|
      .grd 11 false [⟨(some 12), .mov (.t 2), []⟩,
          ⟨(some 13), .eq false .ptr (.t 12) (.c .nilp), []⟩] <|
      .op ⟨(some 14), .pick (.t 11) (.c (.bool true)) (.t 13), []⟩ <|
      .nil)) (
    .cond (.t 14) (.seq (.ops (
        .op ⟨(some 6), .mov (.c .nilp), []⟩ <|
        .nil)) (
      .ret)) (.skip))) (
    .seq (.ops (
      .op ⟨(some 15), .loadN 6 (.t 3), []⟩ <|
      .op ⟨(some 16), .mov (.t 2), []⟩ <|
      .op ⟨(some 17), .mov (.t 1), []⟩ <|
      .op ⟨(some 18), .build [(.int .i64 0), (.int .i64 0), (.int .i64 0), (.int .i64 0), (.int .i64 0), (.int .i64 0), .nilp, (.int .i64 0), (.int .i64 0), (.int .u64 0), (.int .i64 0)] [(0, 6, (.t 15)), (6, 1, (.t 16)), (7, 1, (.t 17))], []⟩ <|
      .op ⟨(some 19), .box (.t 18), []⟩ <|
      .op ⟨(some 6), .mov (.t 19), []⟩ <|
      .nil)) (
    .ret)))

def field_NewStamp_hs : List (List Nat × List Nat) := []

end Wm.F
end

section
/- PRINTED by my tool (wip/wm/tool/Gen.lean): a function as one of my machine. -/
namespace Wm.F
open Wm
set_option maxRecDepth 100000

/-- 152: (*withy/field.Book).Born -/
def field_Book_Born : AFunc where
  closed := false
  nparams := 2
  ntmps := 20
  results := [.tmp 4]
  body := .seq (.ops (
      .op ⟨(some 4), .mov (.c (.int .i64 0)), []⟩ <|
      .nil)) (
    .seq (.seq (.ops (
      .op ⟨(some 7), .mov (.t 0), []⟩ <|
      .op ⟨(some 8), .eq true .ptr (.t 7) (.c .nilp), []⟩ <|
      .nil)) (
    .cond (.t 8) (.seq (.ops (
        .op ⟨(some 10), .mov (.t 0), []⟩ <|
        .op ⟨(some 11), .nilc (.t 10), []⟩ <|
        .op ⟨(some 12), .fieldA 1 (.t 11), []⟩ <|
        .op ⟨(some 13), .load1 (.t 12), []⟩ <|
        .op ⟨(some 14), .mov (.t 1), []⟩ <|
        .op ⟨(some 15), .lookup .int (.int .i64 0) true (.t 13) (.t 14), []⟩ <|
        .op ⟨(some 9), .mov (.t 15), []⟩ <|
        .op ⟨(some 16), .extract (.t 9) 0, []⟩ <|
        .op ⟨(some 17), .extract (.t 9) 1, []⟩ <|
        .op ⟨(some 5), .mov (.t 16), []⟩ <|
        .op ⟨(some 6), .mov (.t 17), []⟩ <|
        .nil)) (
      .seq (.ops (
        .op ⟨(some 18), .mov (.t 6), []⟩ <|
        .nil)) (
      .cond (.t 18) (.seq (.ops (
          .op ⟨(some 19), .mov (.t 5), []⟩ <|
          .op ⟨(some 4), .mov (.t 19), []⟩ <|
          .nil)) (
        .ret)) (.skip)))) (.skip))) (
    .seq (.ops (
      .op ⟨(some 4), .mov (.c (.int .i64 (-1))), []⟩ <|
      .nil)) (
    .ret)))

def field_Book_Born_hs : List (List Nat × List Nat) := []

end Wm.F
end

section
/- PRINTED by my tool (wip/wm/tool/Gen.lean): a function as one of my machine. -/
namespace Wm.F
open Wm
set_option maxRecDepth 100000

/-- 307: (*withy/field.Lay).refuse -/
def field_Lay_refuse : AFunc where
  closed := false
  nparams := 1
  ntmps := 13
  results := []
  body := .ops (
      .op ⟨(some 2), .mov (.t 0), []⟩ <|
      .op ⟨(some 3), .mov (.t 0), []⟩ <|
      .op ⟨(some 4), .mov (.t 0), []⟩ <|
      .op ⟨(some 5), .nilc (.t 4), []⟩ <|
      .op ⟨(some 6), .fieldA 2 (.t 5), []⟩ <|
      .op ⟨(some 7), .load1 (.t 6), []⟩ <|
      .op ⟨(some 8), .call 306 [(.t 7)], []⟩ <|
      .op ⟨(some 9), .nilc (.t 2), []⟩ <|
      .op ⟨(some 10), .fieldA 1 (.t 9), []⟩ <|
      .op ⟨none, .store 1 (.t 10) (.t 8), []⟩ <|
      .op ⟨(some 11), .nilc (.t 3), []⟩ <|
      .op ⟨(some 12), .fieldA 8 (.t 11), []⟩ <|
      .op ⟨none, .store 1 (.t 12) (.c (.int .i64 6)), []⟩ <|
      .nil)

def field_Lay_refuse_hs : List (List Nat × List Nat) := []

end Wm.F
end

section
/- PRINTED by my tool (wip/wm/tool/Gen.lean): a function as one of my machine. -/
namespace Wm.F
open Wm
set_option maxRecDepth 100000

/-- 308: withy/turn.Fenced -/
def turn_Fenced : AFunc where
  closed := true
  nparams := 1
  ntmps := 11
  results := [.tmp 2]
  body := .seq (.ops (
      .op ⟨(some 2), .mov (.c (.bool false)), []⟩ <|
      .nil)) (
    .seq (.ops (
      .op ⟨(some 3), .mov (.t 0), []⟩ <|
      .op ⟨(some 4), .arith .rem .u64 (.t 3) (.c (.int .u64 4)), []⟩ <|
      .op ⟨(some 5), .cmp .eql .u64 (.t 4) (.c (.int .u64 1)), []⟩ <|
      .op ⟨(some 6), .mov (.t 5), []⟩ <|
      .grd 6 false [⟨(some 7), .mov (.t 0), []⟩,
          ⟨(some 8), .arith .rem .u64 (.t 7) (.c (.int .u64 4)), []⟩,
          ⟨(some 9), .cmp .eql .u64 (.t 8) (.c (.int .u64 2)), []⟩] <|
      .op ⟨(some 10), .pick (.t 6) (.c (.bool true)) (.t 9), []⟩ <|
      .op ⟨(some 2), .mov (.t 10), []⟩ <|
      .nil)) (
    .ret))

def turn_Fenced_hs : List (List Nat × List Nat) := []

end Wm.F
end

section
/- PRINTED by my tool (wip/wm/tool/Gen.lean): a function as one of my machine. -/
namespace Wm.F
open Wm
set_option maxRecDepth 100000

/-- 496: withy/tag.Entry -/
def tag_Entry : AFunc where
  closed := true
  nparams := 2
  ntmps := 11
  results := [.tmp 4, .tmp 5]
  body := .seq (.ops (
      .op ⟨(some 4), .mov (.c (.int .u64 0)), []⟩ <|
      .op ⟨(some 5), .mov (.c (.bool false)), []⟩ <|
      .nil)) (
    .seq (.ops (
      .op ⟨(some 6), .mov (.t 0), []⟩ <|
      .op ⟨(some 7), .mov (.t 1), []⟩ <|
      .op ⟨(some 8), .call 414 [(.t 6), (.t 7), (.c (.int .i64 32))], []⟩ <|
      .op ⟨(some 9), .extract (.t 8) 0, []⟩ <|
      .op ⟨(some 10), .extract (.t 8) 1, []⟩ <|
      .op ⟨(some 4), .mov (.t 9), []⟩ <|
      .op ⟨(some 5), .mov (.t 10), []⟩ <|
      .nil)) (
    .ret))

def tag_Entry_hs : List (List Nat × List Nat) := []

end Wm.F
end

section
/- PRINTED by my tool (wip/wm/tool/Gen.lean): a function as one of my machine. -/
namespace Wm.F
open Wm
set_option maxRecDepth 100000

/-- 413: (*withy/mem.Mem).Size -/
def mem_Mem_Size : AFunc where
  closed := false
  nparams := 1
  ntmps := 10
  results := [.tmp 2]
  body := .seq (.ops (
      .op ⟨(some 2), .mov (.c (.int .i64 0)), []⟩ <|
      .nil)) (
    .seq (.seq (.ops (
      .op ⟨(some 3), .mov (.t 0), []⟩ <|
      .op ⟨(some 4), .eq false .ptr (.t 3) (.c .nilp), []⟩ <|
      .nil)) (
    .cond (.t 4) (.seq (.ops (
        .op ⟨(some 2), .mov (.c (.int .i64 0)), []⟩ <|
        .nil)) (
      .ret)) (.skip))) (
    .seq (.ops (
      .op ⟨(some 5), .mov (.t 0), []⟩ <|
      .op ⟨(some 6), .nilc (.t 5), []⟩ <|
      .op ⟨(some 7), .fieldA 0 (.t 6), []⟩ <|
      .op ⟨(some 8), .load1 (.t 7), []⟩ <|
      .op ⟨(some 9), .lenSl (.t 8), []⟩ <|
      .op ⟨(some 2), .mov (.t 9), []⟩ <|
      .nil)) (
    .ret)))

def mem_Mem_Size_hs : List (List Nat × List Nat) := []

end Wm.F
end

section
/- PRINTED by my tool (wip/wm/tool/Gen.lean): a function as one of my machine. -/
namespace Wm.F
open Wm
set_option maxRecDepth 100000

/-- 396: withy/word.Get -/
def word_Get : AFunc where
  closed := true
  nparams := 3
  ntmps := 17
  results := [.tmp 6]
  body := .seq (.ops (
      .op ⟨(some 6), .mov (.c (.int .u64 0)), []⟩ <|
      .nil)) (
    .seq (.seq (.ops (
      .op ⟨(some 7), .mov (.t 1), []⟩ <|
      .op ⟨(some 8), .mov (.t 2), []⟩ <|
      .op ⟨(some 9), .call 441 [(.t 7), (.t 8)], []⟩ <|
      .op ⟨(some 10), .not (.t 9), []⟩ <|
      .nil)) (
    .cond (.t 10) (.seq (.ops (
        .op ⟨(some 6), .mov (.c (.int .u64 0)), []⟩ <|
        .nil)) (
      .ret)) (.skip))) (
    .seq (.ops (
      .op ⟨(some 11), .mov (.t 0), []⟩ <|
      .op ⟨(some 12), .mov (.t 1), []⟩ <|
      .op ⟨(some 13), .shift false .u64 .i64 (.t 11) (.t 12), []⟩ <|
      .op ⟨(some 14), .mov (.t 2), []⟩ <|
      .op ⟨(some 15), .call 449 [(.t 14)], []⟩ <|
      .op ⟨(some 16), .arith .and .u64 (.t 13) (.t 15), []⟩ <|
      .op ⟨(some 6), .mov (.t 16), []⟩ <|
      .nil)) (
    .ret)))

def word_Get_hs : List (List Nat × List Nat) := []

end Wm.F
end

section
/- PRINTED by my tool (wip/wm/tool/Gen.lean): a function as one of my machine. -/
namespace Wm.F
open Wm
set_option maxRecDepth 100000

/-- 441: withy/word.some -/
def word_some : AFunc where
  closed := true
  nparams := 2
  ntmps := 21
  results := [.tmp 4]
  body := .seq (.ops (
      .op ⟨(some 4), .mov (.c (.bool false)), []⟩ <|
      .nil)) (
    .seq (.ops (
      .op ⟨(some 5), .mov (.t 1), []⟩ <|
      .op ⟨(some 6), .cmp .geq .i64 (.t 5) (.c (.int .i64 1)), []⟩ <|
      .op ⟨(some 7), .mov (.t 6), []⟩ <|
      .grd 7 true [⟨(some 8), .mov (.t 1), []⟩,
          ⟨(some 9), .cmp .leq .i64 (.t 8) (.c (.int .i64 64)), []⟩] <|
      .op ⟨(some 10), .pick (.t 7) (.t 9) (.c (.bool false)), []⟩ <|
      .op ⟨(some 11), .mov (.t 10), []⟩ <|
      .grd 11 true [⟨(some 12), .mov (.t 0), []⟩,
          ⟨(some 13), .cmp .geq .i64 (.t 12) (.c (.int .i64 0)), []⟩] <|
      .op ⟨(some 14), .pick (.t 11) (.t 13) (.c (.bool false)), []⟩ <|
      .op ⟨(some 15), .mov (.t 14), []⟩ <|
      .grd 15 true [⟨(some 16), .mov (.t 0), []⟩,
          ⟨(some 17), .mov (.t 1), []⟩,
          ⟨(some 18), .arith .sub .i64 (.c (.int .i64 64)) (.t 17), []⟩,
          ⟨(some 19), .cmp .leq .i64 (.t 16) (.t 18), []⟩] <|
      .op ⟨(some 20), .pick (.t 15) (.t 19) (.c (.bool false)), []⟩ <|
      .op ⟨(some 4), .mov (.t 20), []⟩ <|
      .nil)) (
    .ret))

def word_some_hs : List (List Nat × List Nat) := []

end Wm.F
end

section
/- PRINTED by my tool (wip/wm/tool/Gen.lean): a function as one of my machine. -/
namespace Wm.F
open Wm
set_option maxRecDepth 100000

/-- 484: withy/word.Fits -/
def word_Fits : AFunc where
  closed := true
  nparams := 2
  ntmps := 17
  results := [.tmp 4]
  body := .seq (.ops (
      .op ⟨(some 4), .mov (.c (.bool false)), []⟩ <|
      .nil)) (
    .seq (.ops (
      .op ⟨(some 5), .mov (.t 1), []⟩ <|
      .op ⟨(some 6), .cmp .geq .i64 (.t 5) (.c (.int .i64 0)), []⟩ <|
      .op ⟨(some 7), .mov (.t 6), []⟩ <|
      .grd 7 true [⟨(some 8), .mov (.t 1), []⟩,
          ⟨(some 9), .cmp .gtr .i64 (.t 8) (.c (.int .i64 63)), []⟩,
          ⟨(some 10), .mov (.t 9), []⟩] <|
      .grd 10 false [⟨(some 11), .mov (.t 0), []⟩,
          ⟨(some 12), .mov (.t 1), []⟩,
          ⟨(some 13), .shift false .u64 .i64 (.t 11) (.t 12), []⟩,
          ⟨(some 14), .cmp .eql .u64 (.t 13) (.c (.int .u64 0)), []⟩] <|
      .grd 7 true [⟨(some 15), .pick (.t 10) (.c (.bool true)) (.t 14), []⟩] <|
      .op ⟨(some 16), .pick (.t 7) (.t 15) (.c (.bool false)), []⟩ <|
      .op ⟨(some 4), .mov (.t 16), []⟩ <|
      .nil)) (
    .ret))

def word_Fits_hs : List (List Nat × List Nat) := []

end Wm.F
end

section
/- PRINTED by my tool (wip/wm/tool/Gen.lean): a function as one of my machine. -/
namespace Wm.F
open Wm
set_option maxRecDepth 100000

/-- 267: withy/head.Shaded -/
def head_Shaded : AFunc where
  closed := true
  nparams := 2
  ntmps := 31
  results := [.tmp 4, .tmp 5]
  body := .seq (.ops (
      .op ⟨(some 4), .mov (.c (.int .u64 0)), []⟩ <|
      .op ⟨(some 5), .mov (.c (.bool false)), []⟩ <|
      .nil)) (
    .seq (.ops (
      .op ⟨(some 9), .mov (.t 0), []⟩ <|
      .op ⟨(some 10), .call 380 [(.t 9)], []⟩ <|
      .op ⟨(some 8), .mov (.t 10), []⟩ <|
      .op ⟨(some 11), .extract (.t 8) 0, []⟩ <|
      .op ⟨(some 12), .extract (.t 8) 1, []⟩ <|
      .op ⟨(some 6), .alloc [(.int .i64 0), (.int .i64 0), (.bool false), (.int .i64 0), (.int .i64 0), (.int .i64 0)], []⟩ <|
      .op ⟨none, .store 6 (.t 6) (.t 11), []⟩ <|
      .op ⟨(some 7), .mov (.t 12), []⟩ <|
      .nil)) (
    .seq (.seq (.ops (
      .op ⟨(some 13), .mov (.t 7), []⟩ <|
      .op ⟨(some 14), .not (.t 13), []⟩ <|
      .op ⟨(some 15), .mov (.t 14), []⟩ <|
      .grd 15 false [⟨(some 16), .fieldA 1 (.t 6), []⟩,
          ⟨(some 17), .load1 (.t 16), []⟩,
          ⟨(some 18), .mov (.t 1), []⟩,
          ⟨(some 19), .call 381 [(.t 18)], [{ g := (some (15, false)), op := .load1 (.t 16), d := 17 }]⟩,
          ⟨(some 20), .cmp .eql .i64 (.t 17) (.t 19), []⟩] <|
      .op ⟨(some 21), .pick (.t 15) (.c (.bool true)) (.t 20), []⟩ <|
      .nil)) (
    .cond (.t 21) (.seq (.ops (
        .op ⟨(some 22), .mov (.t 0), []⟩ <|
        .op ⟨(some 4), .mov (.t 22), []⟩ <|
        .op ⟨(some 5), .mov (.c (.bool false)), []⟩ <|
        .nil)) (
      .ret)) (.skip))) (
    .seq (.ops (
      .op ⟨(some 23), .mov (.t 1), []⟩ <|
      .op ⟨(some 24), .call 381 [(.t 23)], []⟩ <|
      .op ⟨(some 25), .fieldA 1 (.t 6), []⟩ <|
      .op ⟨none, .store 1 (.t 25) (.t 24), []⟩ <|
      .op ⟨(some 26), .fieldA 2 (.t 6), []⟩ <|
      .op ⟨none, .store 1 (.t 26) (.c (.bool true)), []⟩ <|
      .nil)) (
    .seq (.ops (
      .op ⟨(some 27), .loadN 6 (.t 6), []⟩ <|
      .op ⟨(some 28), .call 382 [(.t 27)], []⟩ <|
      .op ⟨(some 29), .extract (.t 28) 0, []⟩ <|
      .op ⟨(some 30), .extract (.t 28) 1, []⟩ <|
      .op ⟨(some 4), .mov (.t 29), []⟩ <|
      .op ⟨(some 5), .mov (.t 30), []⟩ <|
      .nil)) (
    .ret)))))

def head_Shaded_hs : List (List Nat × List Nat) := []

end Wm.F
end

section
/- PRINTED by my tool (wip/wm/tool/Gen.lean): a function as one of my machine. -/
namespace Wm.F
open Wm
set_option maxRecDepth 100000

/-- 268: (*withy/mem.Mem).Add -/
def mem_Mem_Add : AFunc where
  closed := false
  nparams := 3
  ntmps := 30
  results := [.tmp 6]
  body := .seq (.ops (
      .op ⟨(some 6), .mov (.c (.int .u64 0)), []⟩ <|
      .nil)) (
    .seq (.seq (.ops (
      .op ⟨(some 7), .mov (.t 0), []⟩ <|
      .op ⟨(some 8), .mov (.t 1), []⟩ <|
      .op ⟨(some 9), .call 346 [(.t 7), (.t 8)], []⟩ <|
      .op ⟨(some 10), .not (.t 9), []⟩ <|
      .nil)) (
    .cond (.t 10) (.seq (.ops (
        .op ⟨(some 6), .mov (.c (.int .u64 0)), []⟩ <|
        .nil)) (
      .ret)) (.skip))) (
    .seq (.ops (
      .op ⟨(some 11), .mov (.t 0), []⟩ <|
      .op ⟨(some 12), .mov (.t 1), []⟩ <|
      .op ⟨(some 13), .mov (.t 0), []⟩ <|
      .op ⟨(some 14), .nilc (.t 13), []⟩ <|
      .op ⟨(some 15), .fieldA 0 (.t 14), []⟩ <|
      .op ⟨(some 16), .load1 (.t 15), []⟩ <|
      .op ⟨(some 17), .mov (.t 1), []⟩ <|
      .op ⟨(some 18), .indexA 1 (.t 16) (.t 17), []⟩ <|
      .op ⟨(some 19), .load1 (.t 18), []⟩ <|
      .op ⟨(some 20), .mov (.t 2), []⟩ <|
      .op ⟨(some 21), .arith .add .u64 (.t 19) (.t 20), []⟩ <|
      .op ⟨(some 22), .call 347 [(.t 11), (.c (.int .i64 4)), (.t 12), (.t 21)], []⟩ <|
      .nil)) (
    .seq (.ops (
      .op ⟨(some 23), .mov (.t 0), []⟩ <|
      .op ⟨(some 24), .nilc (.t 23), []⟩ <|
      .op ⟨(some 25), .fieldA 0 (.t 24), []⟩ <|
      .op ⟨(some 26), .load1 (.t 25), []⟩ <|
      .op ⟨(some 27), .mov (.t 1), []⟩ <|
      .op ⟨(some 28), .indexA 1 (.t 26) (.t 27), []⟩ <|
      .op ⟨(some 29), .load1 (.t 28), []⟩ <|
      .op ⟨(some 6), .mov (.t 29), []⟩ <|
      .nil)) (
    .ret))))

def mem_Mem_Add_hs : List (List Nat × List Nat) := []

end Wm.F
end

section
/- PRINTED by my tool (wip/wm/tool/Gen.lean): a function as one of my machine. -/
namespace Wm.F
open Wm
set_option maxRecDepth 100000

/-- 146: withy/field.NewSee -/
def field_NewSee : AFunc where
  closed := false
  nparams := 5
  ntmps := 23
  results := [.tmp 10]
  body := .seq (.ops (
      .op ⟨(some 5), .box (.t 0), []⟩ <|
      .op ⟨(some 10), .mov (.c .nilp), []⟩ <|
      .nil)) (
    .seq (.ops (
      .op ⟨(some 12), .loadN 6 (.t 5), []⟩ <|
      .op ⟨(some 13), .mov (.t 1), []⟩ <|
      .op ⟨(some 14), .mov (.t 2), []⟩ <|
      .op ⟨(some 15), .mov (.t 4), []⟩ <|
      .op ⟨(some 16), .call 302 [(.t 12), (.t 13), (.t 14), (.t 15)], []⟩ <|
      .op ⟨(some 11), .mov (.t 16), []⟩ <|
      .nil)) (
    .seq (.seq (.ops (
      .op ⟨(some 17), .mov (.t 11), []⟩ <|
      .op ⟨(some 18), .eq false .ptr (.t 17) (.c .nilp), []⟩ <|
      .nil)) (
    .cond (.t 18) (.seq (.ops (
        .op ⟨(some 10), .mov (.c .nilp), []⟩ <|
        .nil)) (
      .ret)) (.skip))) (
    .seq (.ops (
      .op ⟨(some 19), .mov (.t 11), []⟩ <|
      .op ⟨(some 20), .mov (.t 3), []⟩ <|
      .op ⟨(some 21), .build [(.int .i64 0), .nilp, (.int .u64 0), (.int .i64 0), (.int .i64 0)] [(0, 1, (.c (.int .i64 (-1)))), (1, 1, (.t 19)), (2, 1, (.t 20))], []⟩ <|
      .op ⟨(some 22), .box (.t 21), []⟩ <|
      .op ⟨(some 10), .mov (.t 22), []⟩ <|
      .nil)) (
    .ret))))

def field_NewSee_hs : List (List Nat × List Nat) := []

end Wm.F
end

section
/- PRINTED by my tool (wip/wm/tool/Gen.lean): a function as one of my machine. -/
namespace Wm.F
open Wm
set_option maxRecDepth 100000

def slices_Index___int_int__c1 : ACode :=
  .seq (.ops (
    .op ⟨(some 9), .cmp .lss .i64 (.t 8) (.t 7), []⟩ <|
    .nil)) (
  .seq (.cond (.t 9) (.skip) (.exit 0)) (
  .seq (.block 1 (.seq (.ops (
    .op ⟨(some 10), .mov (.t 8), []⟩ <|
    .op ⟨(some 5), .mov (.t 10), []⟩ <|
    .nil)) (
  .seq (.ops (
    .op ⟨(some 11), .mov (.t 1), []⟩ <|
    .op ⟨(some 12), .mov (.t 0), []⟩ <|
    .op ⟨(some 13), .mov (.t 5), []⟩ <|
    .op ⟨(some 14), .indexA 1 (.t 12) (.t 13), []⟩ <|
    .op ⟨(some 15), .load1 (.t 14), []⟩ <|
    .op ⟨(some 16), .cmp .eql .i64 (.t 11) (.t 15), []⟩ <|
    .nil)) (
  .cond (.t 16) (.seq (.ops (
      .op ⟨(some 17), .mov (.t 5), []⟩ <|
      .op ⟨(some 4), .mov (.t 17), []⟩ <|
      .nil)) (
    .ret)) (.skip))))) (
  .ops (
    .op ⟨(some 18), .arith .add .i64 (.t 8) (.c (.int .i64 1)), []⟩ <|
    .op ⟨(some 8), .mov (.t 18), []⟩ <|
    .nil))))

def slices_Index___int_int__c0 : ACode :=
  .seq (.ops (
    .op ⟨(some 4), .mov (.c (.int .i64 (-1))), []⟩ <|
    .nil)) (
  .ret)

/-- 404: slices.Index[[]int,int] -/
def slices_Index___int_int_ : AFunc where
  closed := false
  nparams := 2
  ntmps := 19
  results := [.tmp 4]
  body := .seq (.ops (
      .op ⟨(some 4), .mov (.c (.int .i64 0)), []⟩ <|
      .nil)) (
    .seq (.seq (.ops (
      .op ⟨(some 6), .mov (.t 0), []⟩ <|
      .op ⟨(some 7), .lenSl (.t 6), []⟩ <|
      .op ⟨(some 8), .mov (.c (.int .i64 0)), []⟩ <|
      .nil)) (
    .block 0 (.loop [0, 1, 7, 8] [4] (slices_Index___int_int__c1)))) (
    slices_Index___int_int__c0))

def slices_Index___int_int__hs : List (List Nat × List Nat) := [([0, 1, 7, 8], [4])]

end Wm.F
end

section
/- PRINTED by my tool (wip/wm/tool/Gen.lean): a function as one of my machine. -/
namespace Wm.F
open Wm
set_option maxRecDepth 100000

/-- 391: withy/stack.first -/
def stack_first : AFunc where
  closed := true
  nparams := 2
  ntmps := 17
  results := [.tmp 4]
  body := .seq (.ops (
      .op ⟨(some 2), .box (.t 0), []⟩ <|
      .op ⟨(some 4), .mov (.c (.int .i64 0)), []⟩ <|
      .nil)) (
    .seq (.ops (
      .op ⟨(some 8), .mov (.t 1), []⟩ <|
      .op ⟨(some 9), .call 447 [(.t 8)], []⟩ <|
      .op ⟨(some 7), .mov (.t 9), []⟩ <|
      .op ⟨(some 10), .extract (.t 7) 0, []⟩ <|
      .op ⟨(some 11), .extract (.t 7) 1, []⟩ <|
      .op ⟨(some 5), .mov (.t 10), []⟩ <|
      .op ⟨(some 6), .mov (.t 11), []⟩ <|
      .nil)) (
    .seq (.seq (.ops (
      .op ⟨(some 12), .mov (.t 6), []⟩ <|
      .op ⟨(some 13), .fieldA 0 (.t 2), []⟩ <|
      .op ⟨(some 14), .load1 (.t 13), []⟩ <|
      .op ⟨(some 15), .cmp .geq .i64 (.t 12) (.t 14), []⟩ <|
      .nil)) (
    .cond (.t 15) (.seq (.ops (
        .op ⟨(some 4), .mov (.c (.int .i64 (-1))), []⟩ <|
        .nil)) (
      .ret)) (.skip))) (
    .seq (.ops (
      .op ⟨(some 16), .mov (.t 6), []⟩ <|
      .op ⟨(some 4), .mov (.t 16), []⟩ <|
      .nil)) (
    .ret))))

def stack_first_hs : List (List Nat × List Nat) := []

end Wm.F
end

section
/- PRINTED by my tool (wip/wm/tool/Gen.lean): a function as one of my machine. -/
namespace Wm.F
open Wm
set_option maxRecDepth 100000

/-- 392: withy/stack.linked -/
def stack_linked : AFunc where
  closed := true
  nparams := 2
  ntmps := 13
  results := [.tmp 4]
  body := .seq (.ops (
      .op ⟨(some 2), .box (.t 0), []⟩ <|
      .op ⟨(some 4), .mov (.c (.int .i64 0)), []⟩ <|
      .nil)) (
    .seq (.seq (.ops (
      .op ⟨(some 5), .mov (.t 1), []⟩ <|
      .op ⟨(some 6), .fieldA 0 (.t 2), []⟩ <|
      .op ⟨(some 7), .load1 (.t 6), []⟩ <|
      .op ⟨(some 8), .conv .u64 (.t 7), []⟩ <|
      .op ⟨(some 9), .cmp .gtr .u64 (.t 5) (.t 8), []⟩ <|
      .nil)) (
    .cond (.t 9) (.seq (.ops (
        .op ⟨(some 4), .mov (.c (.int .i64 (-1))), []⟩ <|
        .nil)) (
      .ret)) (.skip))) (
    .seq (.ops (
      .op ⟨(some 10), .mov (.t 1), []⟩ <|
      .op ⟨(some 11), .conv .i64 (.t 10), []⟩ <|
      .op ⟨(some 12), .arith .sub .i64 (.t 11) (.c (.int .i64 1)), []⟩ <|
      .op ⟨(some 4), .mov (.t 12), []⟩ <|
      .nil)) (
    .ret)))

def stack_linked_hs : List (List Nat × List Nat) := []

end Wm.F
end

section
/- PRINTED by my tool (wip/wm/tool/Gen.lean): a function as one of my machine. -/
namespace Wm.F
open Wm
set_option maxRecDepth 100000

/-- 461: withy/tag.Moved -/
def tag_Moved : AFunc where
  closed := true
  nparams := 2
  ntmps := 26
  results := [.tmp 4]
  body := .seq (.ops (
      .op ⟨(some 4), .mov (.c (.int .u64 0)), []⟩ <|
      .nil)) (
    .seq (.seq (.ops (
      .op ⟨(some 9), .mov (.t 1), []⟩ <|
      .op ⟨(some 10), .call 462 [(.t 9)], []⟩ <|
      .op ⟨(some 11), .not (.t 10), []⟩ <|
      .nil)) (
    .cond (.t 11) (.ops (
        .op ⟨(some 1), .mov (.c (.int .i64 (-1))), []⟩ <|
        .nil)) (.skip))) (
    .seq (.ops (
      .op ⟨(some 13), .mov (.t 0), []⟩ <|
      .op ⟨(some 14), .call 447 [(.t 13)], []⟩ <|
      .op ⟨(some 12), .mov (.t 14), []⟩ <|
      .op ⟨(some 15), .extract (.t 12) 0, []⟩ <|
      .op ⟨(some 16), .extract (.t 12) 1, []⟩ <|
      .op ⟨(some 5), .mov (.t 15), []⟩ <|
      .op ⟨(some 6), .mov (.t 16), []⟩ <|
      .nil)) (
    .seq (.ops (
      .op ⟨(some 18), .mov (.t 5), []⟩ <|
      .op ⟨(some 19), .arith .add .u64 (.t 18) (.c (.int .u64 1)), []⟩ <|
      .op ⟨(some 20), .arith .and .u64 (.t 19) (.c (.int .u64 281474976710655)), []⟩ <|
      .op ⟨(some 21), .mov (.t 1), []⟩ <|
      .op ⟨(some 22), .call 350 [(.t 20), (.t 21)], []⟩ <|
      .op ⟨(some 17), .mov (.t 22), []⟩ <|
      .op ⟨(some 23), .extract (.t 17) 0, []⟩ <|
      .op ⟨(some 24), .extract (.t 17) 1, []⟩ <|
      .op ⟨(some 7), .mov (.t 23), []⟩ <|
      .op ⟨(some 8), .mov (.t 24), []⟩ <|
      .nil)) (
    .seq (.ops (
      .op ⟨(some 25), .mov (.t 7), []⟩ <|
      .op ⟨(some 4), .mov (.t 25), []⟩ <|
      .nil)) (
    .ret)))))

def tag_Moved_hs : List (List Nat × List Nat) := []

end Wm.F
end

section
/- PRINTED by my tool (wip/wm/tool/Gen.lean): a function as one of my machine. -/
namespace Wm.F
open Wm
set_option maxRecDepth 100000

def head_Pack_c1 : ACode :=
  .seq (.ops (
    .op ⟨(some 20), .cmp .lss .i64 (.t 19) (.c (.int .i64 5)), []⟩ <|
    .nil)) (
  .seq (.cond (.t 20) (.skip) (.exit 0)) (
  .seq (.block 1 (.seq (.ops (
    .op ⟨(some 21), .indexAgg 5 1 false (.t 18) (.t 19), []⟩ <|
    .op ⟨(some 5), .mov (.t 21), []⟩ <|
    .nil)) (
  .seq (.ops (
    .op ⟨(some 22), .mov (.t 5), []⟩ <|
    .op ⟨(some 23), .cmp .lss .i64 (.t 22) (.c (.int .i64 0)), []⟩ <|
    .nil)) (
  .cond (.t 23) (.seq (.ops (
      .op ⟨(some 2), .mov (.c (.int .u64 0)), []⟩ <|
      .op ⟨(some 3), .mov (.c (.bool false)), []⟩ <|
      .nil)) (
    .ret)) (.skip))))) (
  .ops (
    .op ⟨(some 24), .arith .add .i64 (.t 19) (.c (.int .i64 1)), []⟩ <|
    .op ⟨(some 19), .mov (.t 24), []⟩ <|
    .nil))))

def head_Pack_c0 : ACode :=
  .seq (.ops (
    .op ⟨(some 26), .fieldA 0 (.t 1), []⟩ <|
    .op ⟨(some 27), .load1 (.t 26), []⟩ <|
    .op ⟨(some 28), .conv .u64 (.t 27), []⟩ <|
    .op ⟨(some 29), .build [(.int .i64 0), (.int .u64 0)] [(0, 1, (.c (.int .i64 3))), (1, 1, (.t 28))], []⟩ <|
    .op ⟨(some 30), .fieldA 1 (.t 1), []⟩ <|
    .op ⟨(some 31), .load1 (.t 30), []⟩ <|
    .op ⟨(some 32), .conv .u64 (.t 31), []⟩ <|
    .op ⟨(some 33), .build [(.int .i64 0), (.int .u64 0)] [(0, 1, (.c (.int .i64 1))), (1, 1, (.t 32))], []⟩ <|
    .op ⟨(some 34), .fieldA 2 (.t 1), []⟩ <|
    .op ⟨(some 35), .load1 (.t 34), []⟩ <|
    .op ⟨(some 38), .fieldA 3 (.t 1), []⟩ <|
    .op ⟨(some 39), .load1 (.t 38), []⟩ <|
    .op ⟨(some 40), .conv .u64 (.t 39), []⟩ <|
    .op ⟨(some 41), .build [(.int .i64 0), (.int .u64 0)] [(0, 1, (.c (.int .i64 4))), (1, 1, (.t 40))], []⟩ <|
    .op ⟨(some 42), .build [(.int .i64 0), (.int .u64 0)] [(0, 1, (.c (.int .i64 7)))], []⟩ <|
    .op ⟨(some 43), .fieldA 4 (.t 1), []⟩ <|
    .op ⟨(some 44), .load1 (.t 43), []⟩ <|
    .op ⟨(some 45), .conv .u64 (.t 44), []⟩ <|
    .op ⟨(some 46), .build [(.int .i64 0), (.int .u64 0)] [(0, 1, (.c (.int .i64 32))), (1, 1, (.t 45))], []⟩ <|
    .op ⟨(some 47), .fieldA 5 (.t 1), []⟩ <|
    .op ⟨(some 48), .load1 (.t 47), []⟩ <|
    .op ⟨(some 49), .conv .u64 (.t 48), []⟩ <|
    .op ⟨(some 50), .build [(.int .i64 0), (.int .u64 0)] [(0, 1, (.c (.int .i64 16))), (1, 1, (.t 49))], []⟩ <|
    .op ⟨(some 36), .call 444 [(.t 35)], [{ g := none, op := .load1 (.t 47), d := 48 }, { g := none, op := .load1 (.t 43), d := 44 }, { g := none, op := .load1 (.t 38), d := 39 }, { g := none, op := .load1 (.t 30), d := 31 }, { g := none, op := .load1 (.t 26), d := 27 }]⟩ <|
    .op ⟨(some 37), .build [(.int .i64 0), (.int .u64 0)] [(0, 1, (.c (.int .i64 1))), (1, 1, (.t 36))], []⟩ <|
    .op ⟨(some 51), .buildSl 2 7 [(.int .i64 0), (.int .u64 0)] [(0, 2, (.t 29)), (2, 2, (.t 33)), (4, 2, (.t 37)), (6, 2, (.t 41)), (8, 2, (.t 42)), (10, 2, (.t 46)), (12, 2, (.t 50))], []⟩ <|
    .op ⟨(some 52), .call 443 [(.t 51)], []⟩ <|
    .op ⟨(some 25), .mov (.t 52), []⟩ <|
    .op ⟨(some 53), .extract (.t 25) 0, []⟩ <|
    .op ⟨(some 54), .extract (.t 25) 1, []⟩ <|
    .op ⟨(some 6), .mov (.t 53), []⟩ <|
    .op ⟨(some 7), .mov (.t 54), []⟩ <|
    .nil)) (
  .seq (.seq (.ops (
    .op ⟨(some 55), .mov (.t 7), []⟩ <|
    .op ⟨(some 56), .not (.t 55), []⟩ <|
    .op ⟨(some 57), .mov (.t 56), []⟩ <|
    .grd 57 false [⟨(some 58), .fieldA 0 (.t 1), []⟩,
        ⟨(some 59), .load1 (.t 58), []⟩,
        ⟨(some 60), .cmp .gtr .i64 (.t 59) (.c (.int .i64 4)), []⟩] <|
    .op ⟨(some 61), .pick (.t 57) (.c (.bool true)) (.t 60), []⟩ <|
    .nil)) (
  .cond (.t 61) (.seq (.ops (
      .op ⟨(some 2), .mov (.c (.int .u64 0)), []⟩ <|
      .op ⟨(some 3), .mov (.c (.bool false)), []⟩ <|
      .nil)) (
    .ret)) (.skip))) (
  .seq (.ops (
    .op ⟨(some 62), .mov (.t 6), []⟩ <|
    .op ⟨(some 2), .mov (.t 62), []⟩ <|
    .op ⟨(some 3), .mov (.c (.bool true)), []⟩ <|
    .nil)) (
  .ret)))

/-- 382: withy/head.Pack -/
def head_Pack : AFunc where
  closed := true
  nparams := 1
  ntmps := 63
  results := [.tmp 2, .tmp 3]
  body := .seq (.ops (
      .op ⟨(some 1), .box (.t 0), []⟩ <|
      .op ⟨(some 2), .mov (.c (.int .u64 0)), []⟩ <|
      .op ⟨(some 3), .mov (.c (.bool false)), []⟩ <|
      .nil)) (
    .seq (.seq (.ops (
      .op ⟨(some 8), .fieldA 0 (.t 1), []⟩ <|
      .op ⟨(some 9), .load1 (.t 8), []⟩ <|
      .op ⟨(some 10), .fieldA 1 (.t 1), []⟩ <|
      .op ⟨(some 11), .load1 (.t 10), []⟩ <|
      .op ⟨(some 12), .fieldA 3 (.t 1), []⟩ <|
      .op ⟨(some 13), .load1 (.t 12), []⟩ <|
      .op ⟨(some 14), .fieldA 4 (.t 1), []⟩ <|
      .op ⟨(some 15), .load1 (.t 14), []⟩ <|
      .op ⟨(some 16), .fieldA 5 (.t 1), []⟩ <|
      .op ⟨(some 17), .load1 (.t 16), []⟩ <|
      .op ⟨(some 18), .build [(.int .i64 0), (.int .i64 0), (.int .i64 0), (.int .i64 0), (.int .i64 0)] [(0, 1, (.t 9)), (1, 1, (.t 11)), (2, 1, (.t 13)), (3, 1, (.t 15)), (4, 1, (.t 17))], []⟩ <|
      .op ⟨(some 19), .mov (.c (.int .i64 0)), []⟩ <|
      .nil)) (
    .block 0 (.loop [1, 18, 19] [1, 2, 3] (head_Pack_c1)))) (
    head_Pack_c0))

def head_Pack_hs : List (List Nat × List Nat) := [([1, 18, 19], [1, 2, 3])]

end Wm.F
end

section
/- PRINTED by my tool (wip/wm/tool/Gen.lean): a function as one of my machine. -/
namespace Wm.F
open Wm
set_option maxRecDepth 100000

/-- 557: withy/turn.Born -/
def turn_Born : AFunc where
  closed := true
  nparams := 1
  ntmps := 11
  results := [.tmp 2]
  body := .seq (.ops (
      .op ⟨(some 2), .mov (.c (.int .i64 0)), []⟩ <|
      .nil)) (
    .seq (.seq (.ops (
      .op ⟨(some 3), .mov (.t 0), []⟩ <|
      .op ⟨(some 4), .arith .rem .u64 (.t 3) (.c (.int .u64 4)), []⟩ <|
      .op ⟨(some 5), .cmp .eql .u64 (.t 4) (.c (.int .u64 0)), []⟩ <|
      .nil)) (
    .cond (.t 5) (.seq (.ops (
        .op ⟨(some 6), .mov (.t 0), []⟩ <|
        .op ⟨(some 7), .call 381 [(.t 6)], []⟩ <|
        .op ⟨(some 8), .arith .sub .i64 (.c (.int .i64 1)) (.t 7), []⟩ <|
        .op ⟨(some 2), .mov (.t 8), []⟩ <|
        .nil)) (
      .ret)) (.skip))) (
    .seq (.ops (
      .op ⟨(some 9), .mov (.t 0), []⟩ <|
      .op ⟨(some 10), .call 381 [(.t 9)], []⟩ <|
      .op ⟨(some 2), .mov (.t 10), []⟩ <|
      .nil)) (
    .ret)))

def turn_Born_hs : List (List Nat × List Nat) := []

end Wm.F
end

section
/- PRINTED by my tool (wip/wm/tool/Gen.lean): a function as one of my machine. -/
namespace Wm.F
open Wm
set_option maxRecDepth 100000

/-- 449: withy/word.mask -/
def word_mask : AFunc where
  closed := true
  nparams := 1
  ntmps := 6
  results := [.tmp 2]
  body := .seq (.ops (
      .op ⟨(some 2), .mov (.c (.int .u64 0)), []⟩ <|
      .nil)) (
    .seq (.ops (
      .op ⟨(some 3), .mov (.t 0), []⟩ <|
      .op ⟨(some 4), .shift true .u64 .i64 (.c (.int .u64 1)) (.t 3), []⟩ <|
      .op ⟨(some 5), .arith .sub .u64 (.t 4) (.c (.int .u64 1)), []⟩ <|
      .op ⟨(some 2), .mov (.t 5), []⟩ <|
      .nil)) (
    .ret))

def word_mask_hs : List (List Nat × List Nat) := []

end Wm.F
end

section
/- PRINTED by my tool (wip/wm/tool/Gen.lean): a function as one of my machine. -/
namespace Wm.F
open Wm
set_option maxRecDepth 100000

/-- 380: withy/head.lives -/
def head_lives : AFunc where
  closed := true
  nparams := 1
  ntmps := 23
  results := [.cell true 6 2, .tmp 3]
  body := .seq (.ops (
      .op ⟨(some 2), .alloc [(.int .i64 0), (.int .i64 0), (.bool false), (.int .i64 0), (.int .i64 0), (.int .i64 0)], []⟩ <|
      .op ⟨(some 3), .mov (.c (.bool false)), []⟩ <|
      .nil)) (
    .seq (.ops (
      .op ⟨(some 7), .mov (.t 0), []⟩ <|
      .op ⟨(some 8), .call 265 [(.t 7)], []⟩ <|
      .op ⟨(some 6), .mov (.t 8), []⟩ <|
      .op ⟨(some 9), .extract (.t 6) 0, []⟩ <|
      .op ⟨(some 10), .extract (.t 6) 1, []⟩ <|
      .op ⟨(some 4), .alloc [(.int .i64 0), (.int .i64 0), (.bool false), (.int .i64 0), (.int .i64 0), (.int .i64 0)], []⟩ <|
      .op ⟨none, .store 6 (.t 4) (.t 9), []⟩ <|
      .op ⟨(some 5), .mov (.t 10), []⟩ <|
      .nil)) (
    .seq (.ops (
      .op ⟨(some 11), .loadN 6 (.t 4), []⟩ <|
      .op ⟨(some 12), .mov (.t 5), []⟩ <|
      .op ⟨(some 13), .mov (.t 12), []⟩ <|
      .grd 13 true [⟨(some 14), .fieldA 0 (.t 4), []⟩,
          ⟨(some 15), .load1 (.t 14), []⟩,
          ⟨(some 16), .cmp .eql .i64 (.t 15) (.c (.int .i64 1)), []⟩,
          ⟨(some 17), .mov (.t 16), []⟩] <|
      .grd 17 false [⟨(some 18), .fieldA 0 (.t 4), []⟩,
          ⟨(some 19), .load1 (.t 18), []⟩,
          ⟨(some 20), .cmp .eql .i64 (.t 19) (.c (.int .i64 2)), []⟩] <|
      .grd 13 true [⟨(some 21), .pick (.t 17) (.c (.bool true)) (.t 20), []⟩] <|
      .op ⟨(some 22), .pick (.t 13) (.t 21) (.c (.bool false)), []⟩ <|
      .op ⟨none, .store 6 (.t 2) (.t 11), [{ g := (some (17, false)), op := .load1 (.t 18), d := 19 }]⟩ <|
      .op ⟨(some 3), .mov (.t 22), []⟩ <|
      .nil)) (
    .ret)))

def head_lives_hs : List (List Nat × List Nat) := []

end Wm.F
end

section
/- PRINTED by my tool (wip/wm/tool/Gen.lean): a function as one of my machine. -/
namespace Wm.F
open Wm
set_option maxRecDepth 100000

/-- 381: withy/turn.Black -/
def turn_Black : AFunc where
  closed := true
  nparams := 1
  ntmps := 8
  results := [.tmp 2]
  body := .seq (.ops (
      .op ⟨(some 2), .mov (.c (.int .i64 0)), []⟩ <|
      .nil)) (
    .seq (.ops (
      .op ⟨(some 3), .mov (.t 0), []⟩ <|
      .op ⟨(some 4), .call 442 [(.t 3)], []⟩ <|
      .op ⟨(some 5), .arith .add .u64 (.t 4) (.c (.int .u64 1)), []⟩ <|
      .op ⟨(some 6), .arith .rem .u64 (.t 5) (.c (.int .u64 2)), []⟩ <|
      .op ⟨(some 7), .conv .i64 (.t 6), []⟩ <|
      .op ⟨(some 2), .mov (.t 7), []⟩ <|
      .nil)) (
    .ret))

def turn_Black_hs : List (List Nat × List Nat) := []

end Wm.F
end

section
/- PRINTED by my tool (wip/wm/tool/Gen.lean): a function as one of my machine. -/
namespace Wm.F
open Wm
set_option maxRecDepth 100000

/-- 447: withy/tag.TopParts -/
def tag_TopParts : AFunc where
  closed := true
  nparams := 1
  ntmps := 10
  results := [.tmp 2, .tmp 3]
  body := .seq (.ops (
      .op ⟨(some 2), .mov (.c (.int .u64 0)), []⟩ <|
      .op ⟨(some 3), .mov (.c (.int .i64 0)), []⟩ <|
      .nil)) (
    .seq (.ops (
      .op ⟨(some 4), .mov (.t 0), []⟩ <|
      .op ⟨(some 5), .call 396 [(.t 4), (.c (.int .i64 16)), (.c (.int .i64 48))], []⟩ <|
      .op ⟨(some 6), .mov (.t 0), []⟩ <|
      .op ⟨(some 7), .call 396 [(.t 6), (.c (.int .i64 0)), (.c (.int .i64 16))], []⟩ <|
      .op ⟨(some 8), .conv .i64 (.t 7), []⟩ <|
      .op ⟨(some 9), .arith .sub .i64 (.t 8) (.c (.int .i64 1)), []⟩ <|
      .op ⟨(some 2), .mov (.t 5), []⟩ <|
      .op ⟨(some 3), .mov (.t 9), []⟩ <|
      .nil)) (
    .ret))

def tag_TopParts_hs : List (List Nat × List Nat) := []

end Wm.F
end

section
/- PRINTED by my tool (wip/wm/tool/Gen.lean): a function as one of my machine. -/
namespace Wm.F
open Wm
set_option maxRecDepth 100000

/-- 444: withy/head.bit -/
def head_bit : AFunc where
  closed := true
  nparams := 1
  ntmps := 4
  results := [.tmp 2]
  body := .seq (.ops (
      .op ⟨(some 2), .mov (.c (.int .u64 0)), []⟩ <|
      .nil)) (
    .seq (.seq (.ops (
      .op ⟨(some 3), .mov (.t 0), []⟩ <|
      .nil)) (
    .cond (.t 3) (.seq (.ops (
        .op ⟨(some 2), .mov (.c (.int .u64 1)), []⟩ <|
        .nil)) (
      .ret)) (.skip))) (
    .seq (.ops (
      .op ⟨(some 2), .mov (.c (.int .u64 0)), []⟩ <|
      .nil)) (
    .ret)))

def head_bit_hs : List (List Nat × List Nat) := []

end Wm.F
end

section
/- PRINTED by my tool (wip/wm/tool/Gen.lean): a function as one of my machine. -/
namespace Wm.F
open Wm
set_option maxRecDepth 100000

/-- 442: withy/turn.Cycle -/
def turn_Cycle : AFunc where
  closed := true
  nparams := 1
  ntmps := 5
  results := [.tmp 2]
  body := .seq (.ops (
      .op ⟨(some 2), .mov (.c (.int .u64 0)), []⟩ <|
      .nil)) (
    .seq (.ops (
      .op ⟨(some 3), .mov (.t 0), []⟩ <|
      .op ⟨(some 4), .arith .quo .u64 (.t 3) (.c (.int .u64 4)), []⟩ <|
      .op ⟨(some 2), .mov (.t 4), []⟩ <|
      .nil)) (
    .ret))

def turn_Cycle_hs : List (List Nat × List Nat) := []

end Wm.F
end

