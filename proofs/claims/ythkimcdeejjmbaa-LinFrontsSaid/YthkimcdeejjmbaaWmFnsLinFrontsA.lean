/- PRINTED by my tool: functions as those of my machine. -/
import Derived.Test.YthkimcdeejjmbaaWmCore
set_option linter.all false
section
open Wm
namespace Wm.F
def m (a b : Nat) (k : AIs) : AIs := .op ⟨some a, .mov (.t b), []⟩ k
def d (a i b : Nat) (k : AIs) : AIs := .op ⟨some a, .fieldA i (.t b), []⟩ k
def l (a b : Nat) (k : AIs) : AIs := .op ⟨some a, .load1 (.t b), []⟩ k
def n (a b : Nat) (k : AIs) : AIs := .op ⟨some a, .nilc (.t b), []⟩ k
def ln (a c b : Nat) (k : AIs) : AIs := .op ⟨some a, .loadN c (.t b), []⟩ k
def o (a : Nat) (x : AOp) (k : AIs) : AIs := .op ⟨some a, x, []⟩ k
def u (x : AOp) (k : AIs) : AIs := .op ⟨none, x, []⟩ k
def i (a : Nat) (x : AOp) : AI := ⟨some a, x, []⟩
end Wm.F

end
section
namespace Wm.F
open Wm
set_option maxRecDepth 100000

def withylaw19_LinFronts_c3 : ACode :=
  .ops (
   m 19 3 <| o 20 (.conv .u64 (.t 19)) <| m 21 2 <| o 22 (.lenSl (.t 21)) <| o 23 (.arith .add .i64 (.t 22) (.c (.int .i64 1))) <| o 24 (.conv .u64 (.t 23)) <|
   o 25 (.arith .rem .u64 (.t 20) (.t 24)) <| o 26 (.conv .i64 (.t 25)) <| m 9 26 <| .nil)

def withylaw19_LinFronts_c2 : ACode :=
  .seq (.ops (
   ln 27 6 4 <| m 28 1 <| m 29 2 <| m 30 9 <| o 31 (.slice 1 (.t 29) none (some (.t 30)) none) <| m 33 9 <| ln 34 6 4 <| m 35 1 <| m 36 2 <|
   .op ⟨(some 32), .call 205 [(.t 27), (.t 28), (.t 31)], [{ g := none, op := .loadN 6 (.t 4), d := 34 }]⟩ <| o 37 (.call 205 [(.t 34), (.t 35), (.t 36)]) <|
   o 38 (.minmax false .i64 (.t 33) (.t 37)) <| o 39 (.cmp .eql .i64 (.t 32) (.t 38)) <| m 40 39 <| .grd 40 true [i 41 (.call 204 [])] <|
   o 42 (.pick (.t 40) (.t 41) (.c (.bool false))) <| m 8 42 <| .nil)) (
  .ret)

def withylaw19_LinFronts_c1 : ACode :=
  .seq (.ops (
   m 10 1 <| o 11 (.lenSl (.t 10)) <| o 12 (.cmp .gtr .i64 (.t 11) (.c (.int .i64 40))) <| m 13 12 <| .grd 13 false [i 14 (.mov (.t 2)),
   i 15 (.lenSl (.t 14)),
   i 16 (.cmp .gtr .i64 (.t 15) (.c (.int .i64 40)))] <| o 17 (.pick (.t 13) (.c (.bool true)) (.t 16)) <| .nil)) (
  .cond (.t 17) (.seq (.ops (
   o 18 (.call 204 []) <| m 8 18 <| .nil)) (
   .ret)) (.skip))

def withylaw19_LinFronts_c0 : ACode :=
  .seq (.join [1, 2, 3, 4] [1, 2, 4, 9] (withylaw19_LinFronts_c3)) (
  withylaw19_LinFronts_c2)

def withylaw19_LinFronts : AFunc where
  closed := false
  nparams := 4
  ntmps := 43
  results := [.tmp 8]
  body := .seq (.ops (
   o 4 (.box (.t 0)) <| o 8 (.mov (.c (.bool false))) <| .nil)) (
   .seq (.join [1, 2, 3, 4] [1, 2, 3, 4, 8] (withylaw19_LinFronts_c1)) (
   withylaw19_LinFronts_c0))

def withylaw19_LinFronts_hs : List (List Nat × List Nat) := [([1000001, 1, 2, 3, 4], [1, 2, 3, 4, 8]), ([1000002, 1, 2, 3, 4], [1, 2, 4, 9])]

end Wm.F
end

section
namespace Wm.F
open Wm
set_option maxRecDepth 100000

def withylaw19_awake : AFunc where
  closed := true
  nparams := 0
  ntmps := 41
  results := [.tmp 0]
  body := .seq (.ops (
   o 0 (.mov (.c (.bool false))) <| .nil)) (
   .seq (.ops (
   o 5 (.build [(.int .i64 0), (.int .i64 0), (.int .u64 0), (.int .u64 0), (.int .u64 0)] [(0, 1, (.c (.int .i64 1))), (1, 1, (.c (.int .i64 1)))]) <|
   o 6 (.build [(.int .i64 0), (.int .u64 0), (.bool false)] [(1, 1, (.c (.int .u64 7)))]) <|
   o 7 (.build [(.int .i64 0), (.int .i64 0), (.int .i64 0), (.int .i64 0), (.int .i64 0), (.bool false), (.int .i64 0), (.int .i64 0), (.int .u64 0), (.int .u64 0), (.int .u64 0), (.int .i64 0), (.int .u64 0), (.bool false)] [(2, 1, (.c (.int .i64 1))), (3, 1, (.c (.int .i64 5))), (4, 1, (.c (.int .i64 5))), (6, 5, (.t 5)), (11, 3, (.t 6))]) <| o 8 (.build [(.int .i64 0), (.int .i64 0), (.int .u64 0), (.int .u64 0), (.int .u64 0)] [(0, 1, (.c (.int .i64 2))), (2, 1, (.c (.int .u64 7)))]) <| o 9 (.build [(.int .i64 0), (.int .u64 0), (.bool false)] [(0, 1, (.c (.int .i64 2)))]) <| o 10 (.build [(.int .i64 0), (.int .i64 0), (.int .i64 0), (.int .i64 0), (.int .i64 0), (.bool false), (.int .i64 0), (.int .i64 0), (.int .u64 0), (.int .u64 0), (.int .u64 0), (.int .i64 0), (.int .u64 0), (.bool false)] [(0, 1, (.c (.int .i64 1))), (2, 1, (.c (.int .i64 2))), (3, 1, (.c (.int .i64 2))), (4, 1, (.c (.int .i64 3))), (6, 5, (.t 8)), (11, 3, (.t 9))]) <| o 11 (.buildSl 14 2 [(.int .i64 0), (.int .i64 0), (.int .i64 0), (.int .i64 0), (.int .i64 0), (.bool false), (.int .i64 0), (.int .i64 0), (.int .u64 0), (.int .u64 0), (.int .u64 0), (.int .i64 0), (.int .u64 0), (.bool false)] [(0, 14, (.t 7)), (14, 14, (.t 10))]) <| m 1 11 <| .nil)) (
   .seq (.ops (
   o 13 (.call 348 []) <| m 14 1 <| o 15 (.call 208 [(.t 13), (.t 14)]) <| m 12 15 <| o 16 (.extract (.t 12) 0) <| o 17 (.extract (.t 12) 1) <| o 18 (.extract (.t 12) 2) <|
   m 2 16 <| m 3 17 <| m 4 18 <| .nil)) (
   .seq (.ops (
   o 19 (.call 348 []) <| m 20 1 <| o 21 (.call 206 [(.t 19), (.t 20)]) <| m 22 21 <| .grd 22 true [i 23 (.mov (.t 4)),
   i 24 (.cmp .eql .i64 (.t 23) (.c (.int .i64 0)))] <| o 25 (.pick (.t 22) (.t 24) (.c (.bool false))) <| m 26 25 <| .grd 26 true [i 27 (.mov (.t 3))] <|
   o 28 (.pick (.t 26) (.t 27) (.c (.bool false))) <| m 29 28 <| .grd 29 true [i 30 (.mov (.t 2)),
   i 31 (.lenSl (.t 30)),
   i 32 (.cmp .eql .i64 (.t 31) (.c (.int .i64 2)))] <| o 33 (.pick (.t 29) (.t 32) (.c (.bool false))) <| m 34 33 <| .grd 34 true [i 35 (.call 348 []),
   i 36 (.mov (.t 1)),
   i 37 (.mov (.t 2)),
   i 38 (.call 205 [(.t 35), (.t 36), (.t 37)]),
   i 39 (.cmp .eql .i64 (.t 38) (.c (.int .i64 2)))] <| o 40 (.pick (.t 34) (.t 39) (.c (.bool false))) <| m 0 40 <| .nil)) (
   .ret))))

def withylaw19_awake_hs : List (List Nat × List Nat) := []

end Wm.F
end

section
namespace Wm.F
open Wm
set_option maxRecDepth 100000

def lin_Replay_c1 : ACode :=
  .seq (.ops (
   o 15 (.cmp .lss .i64 (.t 14) (.t 13)) <| .nil)) (
  .seq (.cond (.t 15) (.skip) (.exit 0)) (
  .seq (.block 1 (.seq (.ops (
   m 16 14 <| o 17 (.indexA 1 (.t 12) (.t 14)) <| l 18 17 <| m 8 16 <| m 9 18 <| .nil)) (
  .seq (.ops (
   m 19 9 <| o 20 (.cmp .lss .i64 (.t 19) (.c (.int .i64 0))) <| m 21 20 <| .grd 21 false [i 22 (.mov (.t 9)),
   i 23 (.mov (.t 1)),
   i 24 (.lenSl (.t 23)),
   i 25 (.cmp .geq .i64 (.t 22) (.t 24))] <| o 26 (.pick (.t 21) (.c (.bool true)) (.t 25)) <| m 27 26 <| .grd 27 false [i 28 (.mov (.t 7)),
   i 29 (.mov (.t 1)),
   i 30 (.mov (.t 9)),
   i 31 (.indexA 14 (.t 29) (.t 30)),
   i 32 (.fieldA 0 (.t 31)),
   i 33 (.load1 (.t 32)),
   i 34 (.mov (.t 1)),
   i 35 (.mov (.t 9)),
   i 36 (.indexA 14 (.t 34) (.t 35)),
   i 37 (.fieldA 6 (.t 36)),
   i 38 (.loadN 5 (.t 37)),
   i 39 (.mov (.t 1)),
   i 40 (.mov (.t 9)),
   i 41 (.indexA 14 (.t 39) (.t 40)),
   i 42 (.fieldA 11 (.t 41)),
   i 43 (.loadN 3 (.t 42)),
   i 44 (.call 103 [(.t 28), (.t 33), (.t 38), (.t 43)]),
   i 45 (.not (.t 44))] <| o 46 (.pick (.t 27) (.c (.bool true)) (.t 45)) <| .nil)) (
  .cond (.t 46) (.seq (.ops (
   m 47 8 <| m 6 47 <| .nil)) (
   .ret)) (.skip))))) (
  .ops (
   o 48 (.arith .add .i64 (.t 14) (.c (.int .i64 1))) <| m 14 48 <| .nil))))

def lin_Replay_c0 : ACode :=
  .seq (.seq (.ops (
   m 49 7 <| o 50 (.eq false .ptr (.t 49) (.c .nilp)) <| .nil)) (
  .cond (.t 50) (.seq (.ops (
   o 6 (.mov (.c (.int .i64 0))) <| .nil)) (
   .ret)) (.skip))) (
  .seq (.ops (
   m 51 2 <| o 52 (.lenSl (.t 51)) <| m 6 52 <| .nil)) (
  .ret))

def lin_Replay : AFunc where
  closed := false
  nparams := 3
  ntmps := 53
  results := [.tmp 6]
  body := .seq (.ops (
   o 3 (.box (.t 0)) <| o 6 (.mov (.c (.int .i64 0))) <| .nil)) (
   .seq (.ops (
   ln 10 6 3 <| o 11 (.call 96 [(.t 10)]) <| m 7 11 <| .nil)) (
   .seq (.seq (.ops (
   m 12 2 <| o 13 (.lenSl (.t 12)) <| o 14 (.mov (.c (.int .i64 0))) <| .nil)) (
   .block 0 (.loop [1, 2, 7, 12, 13, 14] [2, 6, 7] (lin_Replay_c1)))) (
   lin_Replay_c0)))

def lin_Replay_hs : List (List Nat × List Nat) := [([1, 2, 7, 12, 13, 14], [2, 6, 7])]

end Wm.F
end

section
namespace Wm.F
open Wm
set_option maxRecDepth 100000

def lin_Points : AFunc where
  closed := false
  nparams := 2
  ntmps := 23
  results := [.tmp 4]
  body := .seq (.ops (
   o 2 (.box (.t 0)) <| o 4 (.mov (.c (.bool false))) <| .nil)) (
   .seq (.ops (
   ln 5 6 2 <| o 6 (.call 263 [(.t 5)]) <| m 7 6 <| .grd 7 true [i 8 (.mov (.t 1)),
   i 9 (.fieldA 2 (.t 2)),
   i 10 (.load1 (.t 9)),
   i 11 (.call 178 [(.t 8), (.t 10)])] <| o 12 (.pick (.t 7) (.t 11) (.c (.bool false))) <| m 13 12 <| .grd 13 true [i 14 (.loadN 6 (.t 2)),
   i 15 (.mov (.t 1)),
   i 16 (.mov (.t 1)),
   i 19 (.mov (.t 1)),
   i 20 (.lenSl (.t 19)),
   ⟨(some 17), .call 181 [(.t 16)], [{ g := (some (13, true)), op := .loadN 6 (.t 2), d := 14 }]⟩,
   i 18 (.call 205 [(.t 14), (.t 15), (.t 17)]),
   i 21 (.cmp .eql .i64 (.t 18) (.t 20))] <| o 22 (.pick (.t 13) (.t 21) (.c (.bool false))) <| m 4 22 <| .nil)) (
   .ret))

def lin_Points_hs : List (List Nat × List Nat) := []

end Wm.F
end

section
namespace Wm.F
open Wm
set_option maxRecDepth 100000

def lin_Search_c1 : ACode :=
  .alt 0 (.seq (.skip) (
   .seq (.seq (.ops (
   m 23 7 <| o 24 (.lenSl (.t 23)) <| m 25 1 <| o 26 (.lenSl (.t 25)) <| o 27 (.cmp .eql .i64 (.t 24) (.t 26)) <| .nil)) (
   .cond (.t 27) (.seq (.ops (
   m 28 7 <| m 4 28 <| o 5 (.mov (.c (.bool true))) <| o 6 (.mov (.c (.int .i64 0))) <| .nil)) (
   .ret)) (.skip))) (
   .seq (.skip) (
   .seq (.seq (.ops (
   m 29 9 <| m 30 1 <| o 31 (.lenSl (.t 30)) <| o 32 (.cmp .eql .i64 (.t 29) (.t 31)) <| .nil)) (
   .cond (.t 32) (.goto 1) (.skip))) (
   .seq (.seq (.ops (
   m 33 1 <| m 34 7 <| m 35 9 <| o 36 (.call 349 [(.t 33), (.t 34), (.t 35)]) <| .nil)) (
   .cond (.t 36) (.seq (.ops (
   m 37 8 <| m 38 7 <| o 39 (.lenSl (.t 38)) <| o 40 (.indexA 1 (.t 37) (.t 39)) <| l 41 40 <| o 42 (.call 115 [(.t 41)]) <| m 10 42 <| .nil)) (
   .seq (.ops (
   m 43 10 <| m 44 1 <| m 45 9 <| o 46 (.indexA 14 (.t 44) (.t 45)) <| d 47 0 46 <| l 48 47 <| m 49 1 <| m 50 9 <| o 51 (.indexA 14 (.t 49) (.t 50)) <| d 52 6 51 <| ln 53 5 52 <|
   m 54 1 <| m 55 9 <| o 56 (.indexA 14 (.t 54) (.t 55)) <| d 57 11 56 <| ln 58 3 57 <| o 59 (.call 103 [(.t 43), (.t 48), (.t 53), (.t 58)]) <| .nil)) (
   .cond (.t 59) (.seq (.ops (
   m 60 7 <| m 61 9 <| o 62 (.buildSl 1 1 [(.int .i64 0)] [(0, 1, (.t 61))]) <| o 63 (.append 1 8 (.t 60) (.t 62)) <| m 7 63 <| .nil)) (
   .seq (.ops (
   m 64 8 <| m 65 7 <| o 66 (.lenSl (.t 65)) <| m 67 7 <| o 68 (.lenSl (.t 67)) <| o 69 (.slice 1 (.t 64) none (some (.t 66)) (some (.t 68))) <| m 70 10 <|
   o 71 (.buildSl 1 1 [.nilp] [(0, 1, (.t 70))]) <| o 72 (.append 1 8 (.t 69) (.t 71)) <| m 8 72 <| .nil)) (
   .seq (.ops (
   o 9 (.mov (.c (.int .i64 0))) <| .nil)) (
   .goto 0)))) (.skip)))) (.skip))) (
   .seq (.ops (
   m 73 9 <| o 74 (.arith .add .i64 (.t 73) (.c (.int .i64 1))) <| m 9 74 <| .nil)) (
   .seq (.goto 2) (
   .seq (.skip) (
   .seq (.seq (.ops (
   m 75 7 <| o 76 (.lenSl (.t 75)) <| o 77 (.cmp .eql .i64 (.t 76) (.c (.int .i64 0))) <| .nil)) (
   .cond (.t 77) (.seq (.ops (
   o 4 (.mov (.c .nilsl)) <| o 5 (.mov (.c (.bool false))) <| o 6 (.mov (.c (.int .i64 0))) <| .nil)) (
   .ret)) (.skip))) (
   .seq (.ops (
   m 78 7 <| m 79 7 <| o 80 (.lenSl (.t 79)) <| o 81 (.arith .sub .i64 (.t 80) (.c (.int .i64 1))) <| o 82 (.indexA 1 (.t 78) (.t 81)) <| l 83 82 <|
   o 84 (.arith .add .i64 (.t 83) (.c (.int .i64 1))) <| m 9 84 <| .nil)) (
   .seq (.ops (
   m 85 7 <| m 86 7 <| o 87 (.lenSl (.t 86)) <| o 88 (.arith .sub .i64 (.t 87) (.c (.int .i64 1))) <| o 89 (.slice 1 (.t 85) none (some (.t 88)) none) <| m 7 89 <| .nil)) (
   .goto 2)))))))))))) (
  .alt 2 (.seq (.skip) (
   .seq (.seq (.ops (
   m 29 9 <| m 30 1 <| o 31 (.lenSl (.t 30)) <| o 32 (.cmp .eql .i64 (.t 29) (.t 31)) <| .nil)) (
   .cond (.t 32) (.goto 1) (.skip))) (
   .seq (.seq (.ops (
   m 33 1 <| m 34 7 <| m 35 9 <| o 36 (.call 349 [(.t 33), (.t 34), (.t 35)]) <| .nil)) (
   .cond (.t 36) (.seq (.ops (
   m 37 8 <| m 38 7 <| o 39 (.lenSl (.t 38)) <| o 40 (.indexA 1 (.t 37) (.t 39)) <| l 41 40 <| o 42 (.call 115 [(.t 41)]) <| m 10 42 <| .nil)) (
   .seq (.ops (
   m 43 10 <| m 44 1 <| m 45 9 <| o 46 (.indexA 14 (.t 44) (.t 45)) <| d 47 0 46 <| l 48 47 <| m 49 1 <| m 50 9 <| o 51 (.indexA 14 (.t 49) (.t 50)) <| d 52 6 51 <| ln 53 5 52 <|
   m 54 1 <| m 55 9 <| o 56 (.indexA 14 (.t 54) (.t 55)) <| d 57 11 56 <| ln 58 3 57 <| o 59 (.call 103 [(.t 43), (.t 48), (.t 53), (.t 58)]) <| .nil)) (
   .cond (.t 59) (.seq (.ops (
   m 60 7 <| m 61 9 <| o 62 (.buildSl 1 1 [(.int .i64 0)] [(0, 1, (.t 61))]) <| o 63 (.append 1 8 (.t 60) (.t 62)) <| m 7 63 <| .nil)) (
   .seq (.ops (
   m 64 8 <| m 65 7 <| o 66 (.lenSl (.t 65)) <| m 67 7 <| o 68 (.lenSl (.t 67)) <| o 69 (.slice 1 (.t 64) none (some (.t 66)) (some (.t 68))) <| m 70 10 <|
   o 71 (.buildSl 1 1 [.nilp] [(0, 1, (.t 70))]) <| o 72 (.append 1 8 (.t 69) (.t 71)) <| m 8 72 <| .nil)) (
   .seq (.ops (
   o 9 (.mov (.c (.int .i64 0))) <| .nil)) (
   .goto 0)))) (.skip)))) (.skip))) (
   .seq (.ops (
   m 73 9 <| o 74 (.arith .add .i64 (.t 73) (.c (.int .i64 1))) <| m 9 74 <| .nil)) (
   .seq (.goto 2) (
   .seq (.skip) (
   .seq (.seq (.ops (
   m 75 7 <| o 76 (.lenSl (.t 75)) <| o 77 (.cmp .eql .i64 (.t 76) (.c (.int .i64 0))) <| .nil)) (
   .cond (.t 77) (.seq (.ops (
   o 4 (.mov (.c .nilsl)) <| o 5 (.mov (.c (.bool false))) <| o 6 (.mov (.c (.int .i64 0))) <| .nil)) (
   .ret)) (.skip))) (
   .seq (.ops (
   m 78 7 <| m 79 7 <| o 80 (.lenSl (.t 79)) <| o 81 (.arith .sub .i64 (.t 80) (.c (.int .i64 1))) <| o 82 (.indexA 1 (.t 78) (.t 81)) <| l 83 82 <|
   o 84 (.arith .add .i64 (.t 83) (.c (.int .i64 1))) <| m 9 84 <| .nil)) (
   .seq (.ops (
   m 85 7 <| m 86 7 <| o 87 (.lenSl (.t 86)) <| o 88 (.arith .sub .i64 (.t 87) (.c (.int .i64 1))) <| o 89 (.slice 1 (.t 85) none (some (.t 88)) none) <| m 7 89 <| .nil)) (
   .goto 2)))))))))) (
  .alt 1 (.seq (.skip) (
   .seq (.seq (.ops (
   m 75 7 <| o 76 (.lenSl (.t 75)) <| o 77 (.cmp .eql .i64 (.t 76) (.c (.int .i64 0))) <| .nil)) (
   .cond (.t 77) (.seq (.ops (
   o 4 (.mov (.c .nilsl)) <| o 5 (.mov (.c (.bool false))) <| o 6 (.mov (.c (.int .i64 0))) <| .nil)) (
   .ret)) (.skip))) (
   .seq (.ops (
   m 78 7 <| m 79 7 <| o 80 (.lenSl (.t 79)) <| o 81 (.arith .sub .i64 (.t 80) (.c (.int .i64 1))) <| o 82 (.indexA 1 (.t 78) (.t 81)) <| l 83 82 <|
   o 84 (.arith .add .i64 (.t 83) (.c (.int .i64 1))) <| m 9 84 <| .nil)) (
   .seq (.ops (
   m 85 7 <| m 86 7 <| o 87 (.lenSl (.t 86)) <| o 88 (.arith .sub .i64 (.t 87) (.c (.int .i64 1))) <| o 89 (.slice 1 (.t 85) none (some (.t 88)) none) <| m 7 89 <| .nil)) (
   .goto 2))))) (
  .skip)))

def lin_Search_c0 : ACode :=
  .seq (.seq (.ops (
   ln 11 6 2 <| o 12 (.call 263 [(.t 11)]) <| o 13 (.not (.t 12)) <| .nil)) (
  .cond (.t 13) (.seq (.ops (
   o 4 (.mov (.c .nilsl)) <| o 5 (.mov (.c (.bool false))) <| o 6 (.mov (.c (.int .i64 1))) <| .nil)) (
   .ret)) (.skip))) (
  .seq (.seq (.ops (
   m 14 1 <| o 15 (.lenSl (.t 14)) <| o 16 (.cmp .gtr .i64 (.t 15) (.c (.int .i64 7))) <| .nil)) (
  .cond (.t 16) (.seq (.ops (
   o 4 (.mov (.c .nilsl)) <| o 5 (.mov (.c (.bool false))) <| o 6 (.mov (.c (.int .i64 10))) <| .nil)) (
   .ret)) (.skip))) (
  .seq (.ops (
   m 17 1 <| o 18 (.lenSl (.t 17)) <| o 19 (.mkSl 1 8 [(.int .i64 0)] (.c (.int .i64 0)) (.t 18)) <| m 7 19 <| .nil)) (
  .seq (.ops (
   ln 20 6 2 <| o 21 (.call 96 [(.t 20)]) <| o 22 (.buildSl 1 1 [.nilp] [(0, 1, (.t 21))]) <| m 8 22 <| .nil)) (
  .seq (.ops (
   o 9 (.mov (.c (.int .i64 0))) <| .nil)) (
  .seq (.skip) (
  .seq (.seq (.ops (
   m 23 7 <| o 24 (.lenSl (.t 23)) <| m 25 1 <| o 26 (.lenSl (.t 25)) <| o 27 (.cmp .eql .i64 (.t 24) (.t 26)) <| .nil)) (
  .cond (.t 27) (.seq (.ops (
   m 28 7 <| m 4 28 <| o 5 (.mov (.c (.bool true))) <| o 6 (.mov (.c (.int .i64 0))) <| .nil)) (
   .ret)) (.skip))) (
  .seq (.skip) (
  .seq (.seq (.ops (
   m 29 9 <| m 30 1 <| o 31 (.lenSl (.t 30)) <| o 32 (.cmp .eql .i64 (.t 29) (.t 31)) <| .nil)) (
  .cond (.t 32) (.goto 1) (.skip))) (
  .seq (.seq (.ops (
   m 33 1 <| m 34 7 <| m 35 9 <| o 36 (.call 349 [(.t 33), (.t 34), (.t 35)]) <| .nil)) (
  .cond (.t 36) (.seq (.ops (
   m 37 8 <| m 38 7 <| o 39 (.lenSl (.t 38)) <| o 40 (.indexA 1 (.t 37) (.t 39)) <| l 41 40 <| o 42 (.call 115 [(.t 41)]) <| m 10 42 <| .nil)) (
   .seq (.ops (
   m 43 10 <| m 44 1 <| m 45 9 <| o 46 (.indexA 14 (.t 44) (.t 45)) <| d 47 0 46 <| l 48 47 <| m 49 1 <| m 50 9 <| o 51 (.indexA 14 (.t 49) (.t 50)) <| d 52 6 51 <| ln 53 5 52 <|
   m 54 1 <| m 55 9 <| o 56 (.indexA 14 (.t 54) (.t 55)) <| d 57 11 56 <| ln 58 3 57 <| o 59 (.call 103 [(.t 43), (.t 48), (.t 53), (.t 58)]) <| .nil)) (
   .cond (.t 59) (.seq (.ops (
   m 60 7 <| m 61 9 <| o 62 (.buildSl 1 1 [(.int .i64 0)] [(0, 1, (.t 61))]) <| o 63 (.append 1 8 (.t 60) (.t 62)) <| m 7 63 <| .nil)) (
   .seq (.ops (
   m 64 8 <| m 65 7 <| o 66 (.lenSl (.t 65)) <| m 67 7 <| o 68 (.lenSl (.t 67)) <| o 69 (.slice 1 (.t 64) none (some (.t 66)) (some (.t 68))) <| m 70 10 <|
   o 71 (.buildSl 1 1 [.nilp] [(0, 1, (.t 70))]) <| o 72 (.append 1 8 (.t 69) (.t 71)) <| m 8 72 <| .nil)) (
   .seq (.ops (
   o 9 (.mov (.c (.int .i64 0))) <| .nil)) (
   .goto 0)))) (.skip)))) (.skip))) (
  .seq (.ops (
   m 73 9 <| o 74 (.arith .add .i64 (.t 73) (.c (.int .i64 1))) <| m 9 74 <| .nil)) (
  .seq (.goto 2) (
  .seq (.skip) (
  .seq (.seq (.ops (
   m 75 7 <| o 76 (.lenSl (.t 75)) <| o 77 (.cmp .eql .i64 (.t 76) (.c (.int .i64 0))) <| .nil)) (
  .cond (.t 77) (.seq (.ops (
   o 4 (.mov (.c .nilsl)) <| o 5 (.mov (.c (.bool false))) <| o 6 (.mov (.c (.int .i64 0))) <| .nil)) (
   .ret)) (.skip))) (
  .seq (.ops (
   m 78 7 <| m 79 7 <| o 80 (.lenSl (.t 79)) <| o 81 (.arith .sub .i64 (.t 80) (.c (.int .i64 1))) <| o 82 (.indexA 1 (.t 78) (.t 81)) <| l 83 82 <|
   o 84 (.arith .add .i64 (.t 83) (.c (.int .i64 1))) <| m 9 84 <| .nil)) (
  .seq (.ops (
   m 85 7 <| m 86 7 <| o 87 (.lenSl (.t 86)) <| o 88 (.arith .sub .i64 (.t 87) (.c (.int .i64 1))) <| o 89 (.slice 1 (.t 85) none (some (.t 88)) none) <| m 7 89 <| .nil)) (
  .goto 2))))))))))))))))

def lin_Search : AFunc where
  closed := false
  nparams := 2
  ntmps := 90
  results := [.tmp 4, .tmp 5, .tmp 6]
  body := .seq (.ops (
   o 2 (.box (.t 0)) <| o 4 (.mov (.c .nilsl)) <| o 5 (.mov (.c (.bool false))) <| o 6 (.mov (.c (.int .i64 0))) <| .nil)) (
   .scope [1, 7, 8, 9] [4, 5, 6] (lin_Search_c0) (lin_Search_c1))

def lin_Search_hs : List (List Nat × List Nat) := [([1, 7, 8, 9], [4, 5, 6])]

end Wm.F
end

section
namespace Wm.F
open Wm
set_option maxRecDepth 100000

def withylaw19_config : AFunc where
  closed := true
  nparams := 0
  ntmps := 2
  results := [.cell true 6 0]
  body := .seq (.ops (
   o 0 (.alloc [(.int .i64 0), (.int .i64 0), (.int .i64 0), (.int .i64 0), (.int .i64 0), (.int .i64 0)]) <| .nil)) (
   .seq (.ops (
   o 1 (.build [(.int .i64 0), (.int .i64 0), (.int .i64 0), (.int .i64 0), (.int .i64 0), (.int .i64 0)] [(0, 1, (.c (.int .i64 4))), (1, 1, (.c (.int .i64 2))), (2, 1, (.c (.int .i64 2))), (3, 1, (.c (.int .i64 3))), (4, 1, (.c (.int .i64 9)))]) <| u (.store 6 (.t 0) (.t 1)) <| .nil)) (
   .ret))

def withylaw19_config_hs : List (List Nat × List Nat) := []

end Wm.F
end

section
namespace Wm.F
open Wm
set_option maxRecDepth 100000

def model_New_c1 : ACode :=
  .seq (.ops (
   o 17 (.cmp .lss .i64 (.t 16) (.t 15)) <| .nil)) (
  .seq (.cond (.t 17) (.skip) (.exit 0)) (
  .seq (.block 1 (.ops (
   m 18 3 <| m 19 3 <| n 20 19 <| d 21 7 20 <| l 22 21 <| o 23 (.mkMap) <| o 24 (.buildSl 1 1 [.nilmap] [(0, 1, (.t 23))]) <| o 25 (.append 1 8 (.t 22) (.t 24)) <| n 26 18 <|
   d 27 7 26 <| u (.store 1 (.t 27) (.t 25)) <| .nil))) (
  .ops (
   o 28 (.arith .add .i64 (.t 16) (.c (.int .i64 1))) <| m 16 28 <| .nil))))

def model_New_c0 : ACode :=
  .seq (.ops (
   m 29 3 <| m 2 29 <| .nil)) (
  .ret)

def model_New : AFunc where
  closed := false
  nparams := 1
  ntmps := 30
  results := [.tmp 2]
  body := .seq (.ops (
   o 1 (.box (.t 0)) <| o 2 (.mov (.c .nilp)) <| .nil)) (
   .seq (.seq (.ops (
   ln 4 6 1 <| o 5 (.call 263 [(.t 4)]) <| o 6 (.not (.t 5)) <| .nil)) (
   .cond (.t 6) (.seq (.ops (
   o 2 (.mov (.c .nilp)) <| .nil)) (
   .ret)) (.skip))) (
   .seq (.ops (
   ln 7 6 1 <| d 8 2 1 <| l 9 8 <| o 10 (.mkSl 2 32 [(.int .u64 0), .nilsl] (.t 9) (.t 9)) <| o 11 (.mkMap) <|
   o 12 (.build [(.int .i64 0), (.int .i64 0), (.int .i64 0), (.int .i64 0), (.int .i64 0), (.int .i64 0), .nilsl, .nilsl, .nilsl, .nilmap] [(0, 6, (.t 7)), (8, 1, (.t 10)), (9, 1, (.t 11))]) <| o 13 (.box (.t 12)) <| m 3 13 <| .nil)) (
   .seq (.seq (.ops (
   d 14 2 1 <| l 15 14 <| o 16 (.mov (.c (.int .i64 0))) <| .nil)) (
   .block 0 (.loop [3, 15, 16] [3] (model_New_c1)))) (
   model_New_c0))))

def model_New_hs : List (List Nat × List Nat) := [([3, 15, 16], [3])]

end Wm.F
end

section
namespace Wm.F
open Wm
set_option maxRecDepth 100000

def model_Model_Does_c3 : ACode :=
  .ops (
   d 23 0 6 <| l 24 23 <| o 25 (.cmp .lss .i64 (.t 24) (.c (.int .i64 1))) <| m 26 25 <| .grd 26 false [i 27 (.fieldA 0 (.t 6)),
   i 28 (.load1 (.t 27)),
   i 29 (.cmp .gtr .i64 (.t 28) (.c (.int .i64 10)))] <| o 30 (.pick (.t 26) (.c (.bool true)) (.t 29)) <| m 22 30 <| .nil)

def model_Model_Does_c2 : ACode :=
  .cond (.t 22) (.ops (
   o 9 (.mov (.c (.int .i64 8))) <| .nil)) (.seq (.ops (
   d 32 0 6 <| l 33 32 <| o 34 (.cmp .eql .i64 (.t 33) (.c (.int .i64 1))) <| m 31 34 <| .nil)) (
   .cond (.t 31) (.ops (
   m 35 0 <| m 36 1 <| ln 37 5 6 <| o 38 (.call 280 [(.t 35), (.t 36), (.t 37)]) <| m 9 38 <| o 10 (.mov (.c (.bool true))) <| .nil)) (.seq (.ops (
   d 40 0 6 <| l 41 40 <| o 42 (.call 82 [(.t 41)]) <| m 39 42 <| .nil)) (
   .cond (.t 39) (.ops (
   m 43 0 <| m 44 1 <| ln 45 5 6 <| o 46 (.call 281 [(.t 43), (.t 44), (.t 45)]) <| m 9 46 <| .nil)) (.ops (
   m 15 0 <| m 16 1 <| ln 17 5 6 <| d 19 0 6 <| l 20 19 <| .op ⟨(some 18), .call 282 [(.t 15), (.t 16), (.t 17)], [{ g := none, op := .load1 (.t 19), d := 20 }]⟩ <|
   o 21 (.call 83 [(.t 20)]) <| m 9 18 <| m 10 21 <| .nil))))))

def model_Model_Does_c1 : ACode :=
  .block 0 (.seq (.join [0, 1, 6, 7, 10] [0, 1, 6, 7, 10, 22] (model_Model_Does_c3)) (
  model_Model_Does_c2))

def model_Model_Does_c0 : ACode :=
  .seq (.seq (.ops (
   m 47 9 <| o 48 (.cmp .neq .i64 (.t 47) (.c (.int .i64 0))) <| .nil)) (
  .cond (.t 48) (.seq (.ops (
   ln 49 3 7 <| m 50 9 <| o 51 (.build [(.int .i64 0), (.int .u64 0), (.bool false)] [(0, 1, (.t 50))]) <|
   o 52 (.eq false (.agg [(0, .int), (1, .int), (2, .bool)]) (.t 49) (.t 51)) <| m 8 52 <| .nil)) (
   .ret)) (.skip))) (
  .seq (.seq (.ops (
   d 53 0 7 <| l 54 53 <| o 55 (.cmp .eql .i64 (.t 54) (.c (.int .i64 4))) <| .nil)) (
  .cond (.t 55) (.seq (.ops (
   m 56 10 <| m 57 56 <| .grd 57 true [i 58 (.loadN 3 (.t 7)),
   i 59 (.build [(.int .i64 0), (.int .u64 0), (.bool false)] [(0, 1, (.c (.int .i64 4)))]),
   i 60 (.eq false (.agg [(0, .int), (1, .int), (2, .bool)]) (.t 58) (.t 59))] <| o 61 (.pick (.t 57) (.t 60) (.c (.bool false))) <| m 62 61 <|
   .grd 62 true [i 63 (.fieldA 0 (.t 6)),
   i 64 (.load1 (.t 63)),
   i 65 (.cmp .eql .i64 (.t 64) (.c (.int .i64 5))),
   i 66 (.mov (.t 65))] <| .grd 66 true [i 67 (.mov (.t 0)),
   i 68 (.mov (.t 1)),
   i 69 (.loadN 5 (.t 6)),
   i 70 (.call 283 [(.t 67), (.t 68), (.t 69)]),
   i 71 (.not (.t 70))] <| .grd 62 true [i 72 (.pick (.t 66) (.t 71) (.c (.bool false))),
   i 73 (.not (.t 72))] <| o 74 (.pick (.t 62) (.t 73) (.c (.bool false))) <| m 8 74 <| .nil)) (
   .ret)) (.skip))) (
  .seq (.ops (
   d 75 0 7 <| l 76 75 <| o 77 (.cmp .eql .i64 (.t 76) (.c (.int .i64 0))) <| m 78 77 <| .grd 78 true [i 79 (.mov (.t 0)),
   i 80 (.mov (.t 1)),
   i 81 (.loadN 5 (.t 6)),
   i 82 (.loadN 3 (.t 7)),
   i 83 (.call 284 [(.t 79), (.t 80), (.t 81), (.t 82)])] <| o 84 (.pick (.t 78) (.t 83) (.c (.bool false))) <| m 8 84 <| .nil)) (
  .ret)))

def model_Model_Does : AFunc where
  closed := false
  nparams := 4
  ntmps := 85
  results := [.tmp 8]
  body := .seq (.ops (
   o 6 (.box (.t 2)) <| o 7 (.box (.t 3)) <| o 8 (.mov (.c (.bool false))) <| .nil)) (
   .seq (.seq (.ops (
   m 11 0 <| m 12 1 <| o 13 (.call 279 [(.t 11), (.t 12)]) <| o 14 (.not (.t 13)) <| .nil)) (
   .cond (.t 14) (.seq (.ops (
   o 8 (.mov (.c (.bool false))) <| .nil)) (
   .ret)) (.skip))) (
   .seq (.ops (
   o 9 (.mov (.c (.int .i64 0))) <| .nil)) (
   .seq (.ops (
   o 10 (.mov (.c (.bool false))) <| .nil)) (
   .seq (.join [0, 1, 6, 7, 10] [0, 1, 6, 7, 9, 10] (model_Model_Does_c1)) (
   model_Model_Does_c0)))))

def model_Model_Does_hs : List (List Nat × List Nat) := [([1000006, 0, 1, 6, 7, 10], [0, 1, 6, 7, 9, 10]), ([1000000, 0, 1, 6, 7, 10], [0, 1, 6, 7, 10, 22])]

end Wm.F
end

section
namespace Wm.F
open Wm
set_option maxRecDepth 100000

def hist_Right_c3 : ACode :=
  .seq (.ops (
   o 33 (.cmp .lss .i64 (.t 32) (.t 31)) <| .nil)) (
  .seq (.cond (.t 33) (.skip) (.exit 2)) (
  .seq (.block 3 (.seq (.ops (
   o 34 (.indexA 1 (.t 30) (.t 32)) <| l 35 34 <| m 9 35 <| .nil)) (
  .seq (.ops (
   l 36 2 <| m 37 9 <| o 38 (.indexA 14 (.t 36) (.t 37)) <| ln 39 14 38 <|
   o 10 (.alloc [(.int .i64 0), (.int .i64 0), (.int .i64 0), (.int .i64 0), (.int .i64 0), (.bool false), (.int .i64 0), (.int .i64 0), (.int .u64 0), (.int .u64 0), (.int .u64 0), (.int .i64 0), (.int .u64 0), (.bool false)]) <| u (.store 14 (.t 10) (.t 39)) <| .nil)) (
  .seq (.seq (.ops (
   d 40 0 10 <| l 41 40 <| o 42 (.cmp .lss .i64 (.t 41) (.c (.int .i64 0))) <| m 43 42 <| .grd 43 false [i 44 (.fieldA 0 (.t 10)),
   i 45 (.load1 (.t 44)),
   i 46 (.mov (.t 1)),
   i 47 (.cmp .geq .i64 (.t 45) (.t 46))] <| o 48 (.pick (.t 43) (.c (.bool true)) (.t 47)) <| m 49 48 <| .grd 49 false [i 50 (.fieldA 2 (.t 10)),
   i 51 (.load1 (.t 50)),
   i 52 (.fieldA 3 (.t 10)),
   i 53 (.load1 (.t 52)),
   i 54 (.cmp .gtr .i64 (.t 51) (.t 53))] <| o 55 (.pick (.t 49) (.c (.bool true)) (.t 54)) <| m 56 55 <| .grd 56 false [i 57 (.fieldA 3 (.t 10)),
   i 58 (.load1 (.t 57)),
   i 59 (.fieldA 4 (.t 10)),
   i 60 (.load1 (.t 59)),
   i 61 (.cmp .gtr .i64 (.t 58) (.t 60))] <| o 62 (.pick (.t 56) (.c (.bool true)) (.t 61)) <| .nil)) (
  .cond (.t 62) (.seq (.ops (
   o 4 (.mov (.c (.bool false))) <| .nil)) (
   .ret)) (.skip))) (
  .seq (.seq (.ops (
   m 64 5 <| d 65 0 10 <| l 66 65 <|
   o 67 (.lookup .int (.agg [(.int .i64 0), (.int .i64 0), (.int .i64 0), (.int .i64 0), (.int .i64 0), (.bool false), (.int .i64 0), (.int .i64 0), (.int .u64 0), (.int .u64 0), (.int .u64 0), (.int .i64 0), (.int .u64 0), (.bool false)]) true (.t 64) (.t 66)) <| m 63 67 <| o 68 (.extract (.t 63) 0) <| o 69 (.extract (.t 63) 1) <| o 11 (.alloc [(.int .i64 0), (.int .i64 0), (.int .i64 0), (.int .i64 0), (.int .i64 0), (.bool false), (.int .i64 0), (.int .i64 0), (.int .u64 0), (.int .u64 0), (.int .u64 0), (.int .i64 0), (.int .u64 0), (.bool false)]) <| u (.store 14 (.t 11) (.t 68)) <| m 12 69 <| .nil)) (
  .seq (.ops (
   m 70 12 <| m 71 70 <| .grd 71 true [i 72 (.fieldA 1 (.t 11)),
   i 73 (.load1 (.t 72)),
   i 74 (.fieldA 1 (.t 10)),
   i 75 (.load1 (.t 74)),
   i 76 (.cmp .eql .i64 (.t 73) (.t 75)),
   i 77 (.mov (.t 76))] <| .grd 77 false [i 78 (.loadN 14 (.t 11)),
   i 79 (.loadN 14 (.t 10)),
   i 80 (.call 183 [(.t 78), (.t 79)]),
   i 81 (.not (.t 80))] <| .grd 71 true [i 82 (.pick (.t 77) (.c (.bool true)) (.t 81))] <| o 83 (.pick (.t 71) (.t 82) (.c (.bool false))) <| .nil)) (
  .cond (.t 83) (.seq (.ops (
   o 4 (.mov (.c (.bool false))) <| .nil)) (
   .ret)) (.skip)))) (
  .ops (
   m 84 5 <| d 85 0 10 <| l 86 85 <| ln 87 14 10 <| u (.mapSet .int (.t 84) (.t 86) (.t 87)) <| .nil))))))) (
  .ops (
   o 88 (.arith .add .i64 (.t 32) (.c (.int .i64 1))) <| m 32 88 <| .nil))))

def hist_Right_c2 : ACode :=
  .seq (.ops (
   o 4 (.mov (.c (.bool true))) <| .nil)) (
  .ret)

def hist_Right_c1 : ACode :=
  .seq (.ops (
   o 20 (.cmp .lss .i64 (.t 19) (.t 18)) <| .nil)) (
  .seq (.cond (.t 20) (.skip) (.exit 0)) (
  .seq (.block 1 (.seq (.ops (
   m 21 19 <| m 7 21 <| .nil)) (
  .ops (
   m 22 6 <| m 23 7 <| m 24 7 <| o 25 (.indexA 1 (.t 22) (.t 23)) <| u (.store 1 (.t 25) (.t 24)) <| .nil)))) (
  .ops (
   o 26 (.arith .add .i64 (.t 19) (.c (.int .i64 1))) <| m 19 26 <| .nil))))

def hist_Right_c0 : ACode :=
  .seq (.ops (
   m 27 6 <| o 28 (.mkFn 333 [(.t 2)]) <| o 29 (.call 332 [(.t 27), (.t 28)]) <| .nil)) (
  .seq (.seq (.ops (
   m 30 6 <| o 31 (.lenSl (.t 30)) <| o 32 (.mov (.c (.int .i64 0))) <| .nil)) (
  .block 2 (.loop [1, 2, 5, 30, 31, 32] [4] (hist_Right_c3)))) (
  hist_Right_c2))

def hist_Right : AFunc where
  closed := false
  nparams := 2
  ntmps := 89
  results := [.tmp 4]
  body := .seq (.ops (
   o 2 (.box (.t 0)) <| o 4 (.mov (.c (.bool false))) <| .nil)) (
   .seq (.ops (
   o 13 (.mkMap) <| m 5 13 <| .nil)) (
   .seq (.ops (
   l 14 2 <| o 15 (.lenSl (.t 14)) <| o 16 (.mkSl 1 8 [(.int .i64 0)] (.t 15) (.t 15)) <| m 6 16 <| .nil)) (
   .seq (.seq (.ops (
   m 17 6 <| o 18 (.lenSl (.t 17)) <| o 19 (.mov (.c (.int .i64 0))) <| .nil)) (
   .block 0 (.loop [1, 2, 5, 6, 18, 19] [1, 2, 5, 6] (hist_Right_c1)))) (
   hist_Right_c0))))

def hist_Right_hs : List (List Nat × List Nat) := [([1, 2, 5, 6, 18, 19], [1, 2, 5, 6]), ([1, 2, 5, 30, 31, 32], [4])]

end Wm.F
end

section
namespace Wm.F
open Wm
set_option maxRecDepth 100000

def hist_Order_c1 : ACode :=
  .seq (.ops (
   o 11 (.cmp .lss .i64 (.t 10) (.t 9)) <| .nil)) (
  .seq (.cond (.t 11) (.skip) (.exit 0)) (
  .seq (.block 1 (.seq (.ops (
   m 12 10 <| m 4 12 <| .nil)) (
  .ops (
   m 13 3 <| m 14 4 <| m 15 4 <| o 16 (.indexA 1 (.t 13) (.t 14)) <| u (.store 1 (.t 16) (.t 15)) <| .nil)))) (
  .ops (
   o 17 (.arith .add .i64 (.t 10) (.c (.int .i64 1))) <| m 10 17 <| .nil))))

def hist_Order_c0 : ACode :=
  .seq (.ops (
   m 18 3 <| o 19 (.mkFn 336 [(.t 1)]) <| o 20 (.call 335 [(.t 18), (.t 19)]) <| .nil)) (
  .seq (.ops (
   m 21 3 <| m 2 21 <| .nil)) (
  .ret))

def hist_Order : AFunc where
  closed := false
  nparams := 1
  ntmps := 22
  results := [.tmp 2]
  body := .seq (.ops (
   o 1 (.box (.t 0)) <| o 2 (.mov (.c .nilsl)) <| .nil)) (
   .seq (.ops (
   l 5 1 <| o 6 (.lenSl (.t 5)) <| o 7 (.mkSl 1 8 [(.int .i64 0)] (.t 6) (.t 6)) <| m 3 7 <| .nil)) (
   .seq (.seq (.ops (
   m 8 3 <| o 9 (.lenSl (.t 8)) <| o 10 (.mov (.c (.int .i64 0))) <| .nil)) (
   .block 0 (.loop [1, 3, 9, 10] [1, 3] (hist_Order_c1)))) (
   hist_Order_c0)))

def hist_Order_hs : List (List Nat × List Nat) := [([1, 3, 9, 10], [1, 3])]

end Wm.F
end

section
namespace Wm.F
open Wm
set_option maxRecDepth 100000

def plan_Right : AFunc where
  closed := true
  nparams := 1
  ntmps := 31
  results := [.tmp 2]
  body := .seq (.ops (
   o 1 (.box (.t 0)) <| o 2 (.mov (.c (.bool false))) <| .nil)) (
   .seq (.ops (
   d 3 0 1 <| l 4 3 <| o 5 (.call 376 [(.t 4), (.c (.int .i64 1)), (.c (.int .i64 64))]) <| m 6 5 <| .grd 6 true [i 7 (.fieldA 1 (.t 1)),
   i 8 (.load1 (.t 7)),
   i 9 (.call 376 [(.t 8), (.c (.int .i64 0)), (.c (.int .i64 8))])] <| o 10 (.pick (.t 6) (.t 9) (.c (.bool false))) <| m 11 10 <| .grd 11 true [i 12 (.fieldA 2 (.t 1)),
   i 13 (.load1 (.t 12)),
   i 14 (.call 376 [(.t 13), (.c (.int .i64 1)), (.c (.int .i64 8))])] <| o 15 (.pick (.t 11) (.t 14) (.c (.bool false))) <| m 16 15 <| .grd 16 true [i 17 (.fieldA 3 (.t 1)),
   i 18 (.load1 (.t 17)),
   i 19 (.call 376 [(.t 18), (.c (.int .i64 1)), (.c (.int .i64 16))])] <| o 20 (.pick (.t 16) (.t 19) (.c (.bool false))) <| m 21 20 <| .grd 21 true [i 22 (.fieldA 4 (.t 1)),
   i 23 (.load1 (.t 22)),
   i 24 (.call 376 [(.t 23), (.c (.int .i64 1)), (.c (.int .i64 1048576))])] <| o 25 (.pick (.t 21) (.t 24) (.c (.bool false))) <| m 26 25 <| .grd 26 true [i 27 (.fieldA 5 (.t 1)),
   i 28 (.load1 (.t 27)),
   i 29 (.call 376 [(.t 28), (.c (.int .i64 0)), (.c (.int .i64 64))])] <| o 30 (.pick (.t 26) (.t 29) (.c (.bool false))) <| m 2 30 <| .nil)) (
   .ret))

def plan_Right_hs : List (List Nat × List Nat) := []

end Wm.F
end

section
namespace Wm.F
open Wm
set_option maxRecDepth 100000

def model_Model_Copy_c3 : ACode :=
  .seq (.ops (
   o 53 (.cmp .lss .i64 (.t 52) (.t 51)) <| .nil)) (
  .seq (.cond (.t 53) (.skip) (.exit 2)) (
  .seq (.block 3 (.seq (.ops (
   o 54 (.indexA 1 (.t 50) (.t 52)) <| l 55 54 <| m 7 55 <| .nil)) (
  .ops (
   m 56 3 <| m 57 3 <| n 58 57 <| d 59 7 58 <| l 60 59 <| m 61 7 <| .op ⟨(some 62), .call 286 [(.t 61)], [{ g := none, op := .load1 (.t 59), d := 60 }]⟩ <|
   o 63 (.buildSl 1 1 [.nilmap] [(0, 1, (.t 62))]) <| o 64 (.append 1 8 (.t 60) (.t 63)) <| n 65 56 <| d 66 7 65 <| u (.store 1 (.t 66) (.t 64)) <| .nil)))) (
  .ops (
   o 67 (.arith .add .i64 (.t 52) (.c (.int .i64 1))) <| m 52 67 <| .nil))))

def model_Model_Copy_c2 : ACode :=
  .seq (.ops (
   m 68 3 <| m 2 68 <| .nil)) (
  .ret)

def model_Model_Copy_c1 : ACode :=
  .seq (.ops (
   o 32 (.cmp .lss .i64 (.t 31) (.t 30)) <| .nil)) (
  .seq (.cond (.t 32) (.skip) (.exit 0)) (
  .seq (.block 1 (.seq (.ops (
   o 33 (.indexA 1 (.t 29) (.t 31)) <| l 34 33 <| m 5 34 <| .nil)) (
  .ops (
   m 35 3 <| m 36 3 <| n 37 36 <| d 38 6 37 <| l 39 38 <| m 40 5 <| .op ⟨(some 41), .call 287 [(.t 40)], [{ g := none, op := .load1 (.t 38), d := 39 }]⟩ <|
   o 42 (.buildSl 1 1 [.nilsl] [(0, 1, (.t 41))]) <| o 43 (.append 1 24 (.t 39) (.t 42)) <| n 44 35 <| d 45 6 44 <| u (.store 1 (.t 45) (.t 43)) <| .nil)))) (
  .ops (
   o 46 (.arith .add .i64 (.t 31) (.c (.int .i64 1))) <| m 31 46 <| .nil))))

def model_Model_Copy_c0 : ACode :=
  .seq (.seq (.ops (
   m 47 0 <| n 48 47 <| d 49 7 48 <| l 50 49 <| o 51 (.lenSl (.t 50)) <| o 52 (.mov (.c (.int .i64 0))) <| .nil)) (
  .block 2 (.loop [3, 50, 51, 52] [3] (model_Model_Copy_c3)))) (
  model_Model_Copy_c2)

def model_Model_Copy : AFunc where
  closed := false
  nparams := 1
  ntmps := 69
  results := [.tmp 2]
  body := .seq (.ops (
   o 2 (.mov (.c .nilp)) <| .nil)) (
   .seq (.seq (.ops (
   m 8 0 <| o 9 (.eq false .ptr (.t 8) (.c .nilp)) <| .nil)) (
   .cond (.t 9) (.seq (.ops (
   o 2 (.mov (.c .nilp)) <| .nil)) (
   .ret)) (.skip))) (
   .seq (.ops (
   m 10 0 <| n 11 10 <| d 12 0 11 <| ln 13 6 12 <| m 14 0 <| n 15 14 <| d 16 8 15 <| l 17 16 <| m 19 0 <| n 20 19 <| d 21 9 20 <| l 22 21 <|
   .op ⟨(some 18), .call 285 [(.t 17)], [{ g := none, op := .load1 (.t 21), d := 22 }, { g := none, op := .loadN 6 (.t 12), d := 13 }]⟩ <|
   .op ⟨(some 23), .call 286 [(.t 22)], [{ g := none, op := .loadN 6 (.t 12), d := 13 }]⟩ <|
   o 24 (.build [(.int .i64 0), (.int .i64 0), (.int .i64 0), (.int .i64 0), (.int .i64 0), (.int .i64 0), .nilsl, .nilsl, .nilsl, .nilmap] [(0, 6, (.t 13)), (8, 1, (.t 18)), (9, 1, (.t 23))]) <| o 25 (.box (.t 24)) <| m 3 25 <| .nil)) (
   .seq (.seq (.ops (
   m 26 0 <| n 27 26 <| d 28 6 27 <| l 29 28 <| o 30 (.lenSl (.t 29)) <| o 31 (.mov (.c (.int .i64 0))) <| .nil)) (
   .block 0 (.loop [0, 3, 29, 30, 31] [0, 3] (model_Model_Copy_c1)))) (
   model_Model_Copy_c0))))

def model_Model_Copy_hs : List (List Nat × List Nat) := [([0, 3, 29, 30, 31], [0, 3]), ([3, 50, 51, 52], [3])]

end Wm.F
end

section
namespace Wm.F
open Wm
set_option maxRecDepth 100000

def lin_may_c1 : ACode :=
  .seq (.ops (
   o 15 (.cmp .lss .i64 (.t 14) (.t 13)) <| .nil)) (
  .seq (.cond (.t 15) (.skip) (.exit 0)) (
  .seq (.block 1 (.seq (.ops (
   m 16 14 <| o 17 (.indexA 14 (.t 12) (.t 14)) <| ln 18 14 17 <|
   o 8 (.alloc [(.int .i64 0), (.int .i64 0), (.int .i64 0), (.int .i64 0), (.int .i64 0), (.bool false), (.int .i64 0), (.int .i64 0), (.int .u64 0), (.int .u64 0), (.int .u64 0), (.int .i64 0), (.int .u64 0), (.bool false)]) <| m 7 16 <| u (.store 14 (.t 8) (.t 18)) <| .nil)) (
  .seq (.ops (
   m 19 7 <| m 20 2 <| o 21 (.cmp .neq .i64 (.t 19) (.t 20)) <| m 22 21 <| .grd 22 true [i 23 (.mov (.t 1)),
   i 24 (.mov (.t 7)),
   i 25 (.call 331 [(.t 23), (.t 24)]),
   i 26 (.not (.t 25))] <| o 27 (.pick (.t 22) (.t 26) (.c (.bool false))) <| m 28 27 <| .grd 28 true [i 29 (.loadN 14 (.t 8)),
   i 30 (.mov (.t 0)),
   i 31 (.mov (.t 2)),
   i 32 (.indexA 14 (.t 30) (.t 31)),
   i 33 (.loadN 14 (.t 32)),
   i 34 (.call 183 [(.t 29), (.t 33)])] <| o 35 (.pick (.t 28) (.t 34) (.c (.bool false))) <| .nil)) (
  .cond (.t 35) (.seq (.ops (
   o 6 (.mov (.c (.bool false))) <| .nil)) (
   .ret)) (.skip))))) (
  .ops (
   o 36 (.arith .add .i64 (.t 14) (.c (.int .i64 1))) <| m 14 36 <| .nil))))

def lin_may_c0 : ACode :=
  .seq (.ops (
   o 6 (.mov (.c (.bool true))) <| .nil)) (
  .ret)

def lin_may : AFunc where
  closed := false
  nparams := 3
  ntmps := 37
  results := [.tmp 6]
  body := .seq (.ops (
   o 6 (.mov (.c (.bool false))) <| .nil)) (
   .seq (.seq (.ops (
   m 9 1 <| m 10 2 <| o 11 (.call 331 [(.t 9), (.t 10)]) <| .nil)) (
   .cond (.t 11) (.seq (.ops (
   o 6 (.mov (.c (.bool false))) <| .nil)) (
   .ret)) (.skip))) (
   .seq (.seq (.ops (
   m 12 0 <| o 13 (.lenSl (.t 12)) <| o 14 (.mov (.c (.int .i64 0))) <| .nil)) (
   .block 0 (.loop [0, 1, 2, 12, 13, 14] [6] (lin_may_c1)))) (
   lin_may_c0)))

def lin_may_hs : List (List Nat × List Nat) := [([0, 1, 2, 12, 13, 14], [6])]

end Wm.F
end

section
namespace Wm.F
open Wm
set_option maxRecDepth 100000

def op_Walk : AFunc where
  closed := true
  nparams := 1
  ntmps := 9
  results := [.tmp 2]
  body := .seq (.ops (
   o 2 (.mov (.c (.bool false))) <| .nil)) (
   .seq (.ops (
   m 3 0 <| o 4 (.cmp .eql .i64 (.t 3) (.c (.int .i64 9))) <| m 5 4 <| .grd 5 false [i 6 (.mov (.t 0)),
   i 7 (.cmp .eql .i64 (.t 6) (.c (.int .i64 10)))] <| o 8 (.pick (.t 5) (.c (.bool true)) (.t 7)) <| m 2 8 <| .nil)) (
   .ret))

def op_Walk_hs : List (List Nat × List Nat) := []

end Wm.F
end

section
namespace Wm.F
open Wm
set_option maxRecDepth 100000

def op_Writes : AFunc where
  closed := true
  nparams := 1
  ntmps := 9
  results := [.tmp 2]
  body := .seq (.ops (
   o 2 (.mov (.c (.bool false))) <| .nil)) (
   .seq (.ops (
   m 3 0 <| o 4 (.cmp .geq .i64 (.t 3) (.c (.int .i64 3))) <| m 5 4 <| .grd 5 true [i 6 (.mov (.t 0)),
   i 7 (.cmp .leq .i64 (.t 6) (.c (.int .i64 5)))] <| o 8 (.pick (.t 5) (.t 7) (.c (.bool false))) <| m 2 8 <| .nil)) (
   .ret))

def op_Writes_hs : List (List Nat × List Nat) := []

end Wm.F
end

section
namespace Wm.F
open Wm
set_option maxRecDepth 100000

def model_Model_client : AFunc where
  closed := false
  nparams := 2
  ntmps := 20
  results := [.tmp 4]
  body := .seq (.ops (
   o 4 (.mov (.c (.bool false))) <| .nil)) (
   .seq (.ops (
   m 5 0 <| o 6 (.eq true .ptr (.t 5) (.c .nilp)) <| m 7 6 <| .grd 7 true [i 8 (.mov (.t 1)),
   i 9 (.cmp .geq .i64 (.t 8) (.c (.int .i64 0)))] <| o 10 (.pick (.t 7) (.t 9) (.c (.bool false))) <| m 11 10 <| .grd 11 true [i 12 (.mov (.t 1)),
   i 13 (.mov (.t 0)),
   i 14 (.nilc (.t 13)),
   i 15 (.fieldA 0 (.t 14)),
   i 16 (.fieldA 2 (.t 15)),
   i 17 (.load1 (.t 16)),
   i 18 (.cmp .lss .i64 (.t 12) (.t 17))] <| o 19 (.pick (.t 11) (.t 18) (.c (.bool false))) <| m 4 19 <| .nil)) (
   .ret))

def model_Model_client_hs : List (List Nat × List Nat) := []

end Wm.F
end

section
namespace Wm.F
open Wm
set_option maxRecDepth 100000

def model_Model_makes_c2 : ACode :=
  .ops (
   d 8 1 5 <| l 9 8 <| o 10 (.cmp .lss .i64 (.t 9) (.c (.int .i64 0))) <| m 11 10 <| .grd 11 false [i 12 (.fieldA 1 (.t 5)),
   i 13 (.load1 (.t 12)),
   i 14 (.mov (.t 0)),
   i 15 (.nilc (.t 14)),
   i 16 (.fieldA 0 (.t 15)),
   i 17 (.fieldA 1 (.t 16)),
   i 18 (.load1 (.t 17)),
   i 19 (.cmp .gtr .i64 (.t 13) (.t 18))] <| o 20 (.pick (.t 11) (.c (.bool true)) (.t 19)) <| m 7 20 <| .nil)

def model_Model_makes_c1 : ACode :=
  .cond (.t 7) (.seq (.ops (
   o 6 (.mov (.c (.int .i64 1))) <| .nil)) (
   .ret)) (.seq (.ops (
   m 22 0 <| m 23 1 <| m 25 0 <| n 26 25 <| d 27 0 26 <| d 28 3 27 <| l 29 28 <| .op ⟨(some 24), .call 105 [(.t 22), (.t 23)], [{ g := none, op := .load1 (.t 28), d := 29 }]⟩ <|
   o 30 (.cmp .geq .i64 (.t 24) (.t 29)) <| m 21 30 <| .nil)) (
   .cond (.t 21) (.seq (.ops (
   o 6 (.mov (.c (.int .i64 5))) <| .nil)) (
   .ret)) (.skip)))

def model_Model_makes_c0 : ACode :=
  .seq (.ops (
   o 6 (.mov (.c (.int .i64 0))) <| .nil)) (
  .ret)

def model_Model_makes : AFunc where
  closed := false
  nparams := 3
  ntmps := 31
  results := [.tmp 6]
  body := .seq (.ops (
   o 5 (.box (.t 2)) <| o 6 (.mov (.c (.int .i64 0))) <| .nil)) (
   .seq (.block 0 (.seq (.join [0, 1, 5] [0, 1, 7] (model_Model_makes_c2)) (
   model_Model_makes_c1))) (
   model_Model_makes_c0))

def model_Model_makes_hs : List (List Nat × List Nat) := [([1000002, 0, 1, 5], [0, 1, 7])]

end Wm.F
end

section
namespace Wm.F
open Wm
set_option maxRecDepth 100000

def model_Model_goes_c2 : ACode :=
  .ops (
   d 16 2 5 <| l 17 16 <| o 18 (.cmp .eql .u64 (.t 17) (.c (.int .u64 0))) <| m 19 18 <| .grd 19 false [i 20 (.fieldA 0 (.t 7)),
   i 21 (.load1 (.t 20)),
   i 22 (.fieldA 2 (.t 5)),
   i 23 (.load1 (.t 22)),
   i 24 (.cmp .neq .u64 (.t 21) (.t 23))] <| o 25 (.pick (.t 19) (.c (.bool true)) (.t 24)) <| m 15 25 <| .nil)

def model_Model_goes_c1 : ACode :=
  .cond (.t 15) (.seq (.ops (
   o 6 (.mov (.c (.int .i64 6))) <| .nil)) (
   .ret)) (.seq (.ops (
   d 27 0 5 <| l 28 27 <| o 29 (.cmp .eql .i64 (.t 28) (.c (.int .i64 10))) <| m 26 29 <| .nil)) (
   .cond (.t 26) (.seq (.ops (
   o 6 (.mov (.c (.int .i64 0))) <| .nil)) (
   .ret)) (.seq (.ops (
   d 31 1 7 <| l 32 31 <| o 33 (.lenSl (.t 32)) <| o 34 (.cmp .eql .i64 (.t 33) (.c (.int .i64 0))) <| m 30 34 <| .nil)) (
   .cond (.t 30) (.seq (.ops (
   o 6 (.mov (.c (.int .i64 6))) <| .nil)) (
   .ret)) (.seq (.ops (
   m 36 0 <| m 37 1 <| m 39 0 <| n 40 39 <| d 41 0 40 <| d 42 3 41 <| l 43 42 <| .op ⟨(some 38), .call 105 [(.t 36), (.t 37)], [{ g := none, op := .load1 (.t 42), d := 43 }]⟩ <|
   o 44 (.cmp .geq .i64 (.t 38) (.t 43)) <| m 35 44 <| .nil)) (
   .cond (.t 35) (.seq (.ops (
   o 6 (.mov (.c (.int .i64 5))) <| .nil)) (
   .ret)) (.skip)))))))

def model_Model_goes_c0 : ACode :=
  .seq (.ops (
   o 6 (.mov (.c (.int .i64 0))) <| .nil)) (
  .ret)

def model_Model_goes : AFunc where
  closed := false
  nparams := 3
  ntmps := 45
  results := [.tmp 6]
  body := .seq (.ops (
   o 5 (.box (.t 2)) <| o 6 (.mov (.c (.int .i64 0))) <| .nil)) (
   .seq (.ops (
   m 8 0 <| n 9 8 <| d 10 8 9 <| l 11 10 <| m 12 1 <| o 13 (.indexA 2 (.t 11) (.t 12)) <| ln 14 2 13 <| o 7 (.alloc [(.int .u64 0), .nilsl]) <| u (.store 2 (.t 7) (.t 14)) <|
   .nil)) (
   .seq (.block 0 (.seq (.join [0, 1, 5, 7] [0, 1, 5, 7, 15] (model_Model_goes_c2)) (
   model_Model_goes_c1))) (
   model_Model_goes_c0)))

def model_Model_goes_hs : List (List Nat × List Nat) := [([1000003, 0, 1, 5, 7], [0, 1, 5, 7, 15])]

end Wm.F
end

section
namespace Wm.F
open Wm
set_option maxRecDepth 100000

def model_Model_asks_c8 : ACode :=
  .ops (
   d 90 0 5 <| l 91 90 <| o 92 (.cmp .eql .i64 (.t 91) (.c (.int .i64 2))) <| m 93 92 <| .grd 93 true [i 94 (.mov (.t 0)),
   i 95 (.nilc (.t 94)),
   i 96 (.fieldA 6 (.t 95)),
   i 97 (.load1 (.t 96)),
   i 98 (.mov (.t 7)),
   i 99 (.indexA 1 (.t 97) (.t 98)),
   i 100 (.load1 (.t 99)),
   i 101 (.fieldA 1 (.t 5)),
   i 102 (.load1 (.t 101)),
   i 103 (.indexA 1 (.t 100) (.t 102)),
   i 104 (.load1 (.t 103)),
   i 105 (.cmp .geq .i64 (.t 104) (.c (.int .i64 0)))] <| o 106 (.pick (.t 93) (.t 105) (.c (.bool false))) <| m 107 106 <| .grd 107 true [i 108 (.mov (.t 0)),
   i 109 (.mov (.t 1)),
   i 111 (.mov (.t 0)),
   i 112 (.nilc (.t 111)),
   i 113 (.fieldA 0 (.t 112)),
   i 114 (.fieldA 3 (.t 113)),
   i 115 (.load1 (.t 114)),
   ⟨(some 110), .call 105 [(.t 108), (.t 109)], [{ g := (some (107, true)), op := .load1 (.t 114), d := 115 }]⟩,
   i 116 (.cmp .geq .i64 (.t 110) (.t 115))] <| o 117 (.pick (.t 107) (.t 116) (.c (.bool false))) <| m 89 117 <| .nil)

def model_Model_asks_c7 : ACode :=
  .cond (.t 89) (.seq (.ops (
   o 6 (.mov (.c (.int .i64 5))) <| .nil)) (
   .ret)) (.seq (.ops (
   d 119 0 5 <| l 120 119 <| o 121 (.cmp .eql .i64 (.t 120) (.c (.int .i64 8))) <| m 122 121 <| .grd 122 true [i 123 (.mov (.t 0)),
   i 124 (.nilc (.t 123)),
   i 125 (.fieldA 8 (.t 124)),
   i 126 (.load1 (.t 125)),
   i 127 (.mov (.t 1)),
   i 128 (.indexA 2 (.t 126) (.t 127)),
   i 129 (.fieldA 0 (.t 128)),
   i 130 (.load1 (.t 129)),
   i 131 (.cmp .neq .u64 (.t 130) (.c (.int .u64 0)))] <| o 132 (.pick (.t 122) (.t 131) (.c (.bool false))) <| m 118 132 <| .nil)) (
   .cond (.t 118) (.seq (.ops (
   o 6 (.mov (.c (.int .i64 7))) <| .nil)) (
   .ret)) (.skip)))

def model_Model_asks_c6 : ACode :=
  .ops (
   d 63 0 5 <| l 64 63 <| o 65 (.cmp .eql .i64 (.t 64) (.c (.int .i64 2))) <| m 66 65 <| .grd 66 false [i 67 (.fieldA 0 (.t 5)),
   i 68 (.load1 (.t 67)),
   i 69 (.call 83 [(.t 68)])] <| o 70 (.pick (.t 66) (.c (.bool true)) (.t 69)) <| m 71 70 <| .grd 71 true [i 72 (.fieldA 1 (.t 5)),
   i 73 (.load1 (.t 72)),
   i 74 (.cmp .lss .i64 (.t 73) (.c (.int .i64 0))),
   i 75 (.mov (.t 74))] <| .grd 75 false [i 76 (.fieldA 1 (.t 5)),
   i 77 (.load1 (.t 76)),
   i 78 (.mov (.t 0)),
   i 79 (.nilc (.t 78)),
   i 80 (.fieldA 6 (.t 79)),
   i 81 (.load1 (.t 80)),
   i 82 (.mov (.t 7)),
   i 83 (.indexA 1 (.t 81) (.t 82)),
   i 84 (.load1 (.t 83)),
   i 85 (.lenSl (.t 84)),
   i 86 (.cmp .geq .i64 (.t 77) (.t 85))] <| .grd 71 true [i 87 (.pick (.t 75) (.c (.bool true)) (.t 86))] <| o 88 (.pick (.t 71) (.t 87) (.c (.bool false))) <| m 62 88 <| .nil)

def model_Model_asks_c5 : ACode :=
  .cond (.t 62) (.seq (.ops (
   o 6 (.mov (.c (.int .i64 3))) <| .nil)) (
   .ret)) (.seq (.join [0, 1, 5, 7] [0, 1, 5, 89] (model_Model_asks_c8)) (
   model_Model_asks_c7))

def model_Model_asks_c4 : ACode :=
  .seq (.ops (
   o 6 (.mov (.c (.int .i64 0))) <| .nil)) (
  .ret)

def model_Model_asks_c3 : ACode :=
  .seq (.ops (
   o 19 (.cmp .eql .i64 (.t 17) (.c (.int .i64 3))) <| m 18 19 <| .nil)) (
  .cond (.t 18) (.skip) (.ops (
   o 20 (.cmp .eql .i64 (.t 17) (.c (.int .i64 7))) <| m 18 20 <| .nil)))

def model_Model_asks_c2 : ACode :=
  .cond (.t 18) (.ops (
   m 21 8 <| m 22 21 <| .grd 22 true [i 23 (.mov (.t 0)),
   i 24 (.mov (.t 1)),
   i 25 (.fieldA 3 (.t 5)),
   i 26 (.load1 (.t 25)),
   i 27 (.call 106 [(.t 23), (.t 24), (.t 26)]),
   i 28 (.cmp .geq .i64 (.t 27) (.c (.int .i64 0)))] <| o 29 (.pick (.t 22) (.t 28) (.c (.bool false))) <| m 8 29 <| .nil)) (.seq (.ops (
   o 31 (.cmp .eql .i64 (.t 17) (.c (.int .i64 5))) <| m 30 31 <| .nil)) (
   .cond (.t 30) (.ops (
   m 32 8 <| m 33 32 <| .grd 33 true [i 34 (.fieldA 3 (.t 5)),
   i 35 (.load1 (.t 34)),
   i 36 (.cmp .eql .u64 (.t 35) (.c (.int .u64 0))),
   i 37 (.mov (.t 36))] <| .grd 37 false [i 38 (.mov (.t 0)),
   i 39 (.mov (.t 1)),
   i 40 (.fieldA 3 (.t 5)),
   i 41 (.load1 (.t 40)),
   i 42 (.call 106 [(.t 38), (.t 39), (.t 41)]),
   i 43 (.cmp .geq .i64 (.t 42) (.c (.int .i64 0)))] <| .grd 33 true [i 44 (.pick (.t 37) (.c (.bool true)) (.t 43))] <| o 45 (.pick (.t 33) (.t 44) (.c (.bool false))) <|
   m 46 45 <| .grd 46 true [i 47 (.fieldA 4 (.t 5)),
   i 48 (.load1 (.t 47)),
   i 49 (.cmp .eql .u64 (.t 48) (.c (.int .u64 0))),
   i 50 (.mov (.t 49))] <| .grd 50 false [i 51 (.mov (.t 0)),
   i 52 (.mov (.t 1)),
   i 53 (.fieldA 4 (.t 5)),
   i 54 (.load1 (.t 53)),
   i 55 (.call 106 [(.t 51), (.t 52), (.t 54)]),
   i 56 (.cmp .geq .i64 (.t 55) (.c (.int .i64 0)))] <| .grd 46 true [i 57 (.pick (.t 50) (.c (.bool true)) (.t 56))] <| o 58 (.pick (.t 46) (.t 57) (.c (.bool false))) <|
   m 8 58 <| .nil)) (.skip)))

def model_Model_asks_c1 : ACode :=
  .seq (.ops (
   d 16 0 5 <| l 17 16 <| .nil)) (
  .block 0 (.seq (.join [0, 1, 5, 7, 8, 17] [0, 1, 5, 7, 8, 17, 18] (model_Model_asks_c3)) (
  model_Model_asks_c2)))

def model_Model_asks_c0 : ACode :=
  .seq (.block 1 (.seq (.ops (
   m 60 8 <| o 61 (.not (.t 60)) <| m 59 61 <| .nil)) (
  .cond (.t 59) (.seq (.ops (
   o 6 (.mov (.c (.int .i64 2))) <| .nil)) (
   .ret)) (.seq (.join [0, 1, 5, 7] [0, 1, 5, 7, 62] (model_Model_asks_c6)) (
   model_Model_asks_c5))))) (
  model_Model_asks_c4)

def model_Model_asks : AFunc where
  closed := false
  nparams := 3
  ntmps := 133
  results := [.tmp 6]
  body := .seq (.ops (
   o 5 (.box (.t 2)) <| o 6 (.mov (.c (.int .i64 0))) <| .nil)) (
   .seq (.ops (
   m 9 0 <| m 10 1 <| d 11 2 5 <| l 12 11 <| o 13 (.call 106 [(.t 9), (.t 10), (.t 12)]) <| m 7 13 <| .nil)) (
   .seq (.ops (
   m 14 7 <| o 15 (.cmp .geq .i64 (.t 14) (.c (.int .i64 0))) <| m 8 15 <| .nil)) (
   .seq (.join [0, 1, 5, 7, 8] [0, 1, 5, 7, 8] (model_Model_asks_c1)) (
   model_Model_asks_c0))))

def model_Model_asks_hs : List (List Nat × List Nat) := [([1000003, 0, 1, 5, 7, 8], [0, 1, 5, 7, 8]), ([1000001, 0, 1, 5, 7, 8, 17], [0, 1, 5, 7, 8, 17, 18]), ([1000005, 0, 1, 5, 7], [0, 1, 5, 7, 62]), ([1000001, 0, 1, 5, 7], [0, 1, 5, 89])]

end Wm.F
end

section
namespace Wm.F
open Wm
set_option maxRecDepth 100000

def model_Model_matches : AFunc where
  closed := false
  nparams := 3
  ntmps := 22
  results := [.tmp 6]
  body := .seq (.ops (
   o 5 (.box (.t 2)) <| o 6 (.mov (.c (.bool false))) <| .nil)) (
   .seq (.ops (
   m 7 0 <| m 8 0 <| m 9 1 <| d 10 2 5 <| l 11 10 <| d 13 1 5 <| l 14 13 <| m 16 0 <| m 17 1 <| d 18 4 5 <| l 19 18 <|
   .op ⟨(some 12), .call 106 [(.t 8), (.t 9), (.t 11)], [{ g := none, op := .load1 (.t 18), d := 19 }, { g := none, op := .load1 (.t 13), d := 14 }]⟩ <|
   .op ⟨(some 15), .call 116 [(.t 7), (.t 12), (.t 14)], [{ g := none, op := .load1 (.t 18), d := 19 }]⟩ <| o 20 (.call 106 [(.t 16), (.t 17), (.t 19)]) <|
   o 21 (.cmp .eql .i64 (.t 15) (.t 20)) <| m 6 21 <| .nil)) (
   .ret))

def model_Model_matches_hs : List (List Nat × List Nat) := []

end Wm.F
end

section
namespace Wm.F
open Wm
set_option maxRecDepth 100000

def model_Model_done_c8 : ACode :=
  .seq (.ops (
   d 75 0 6 <| l 76 75 <| .nil)) (
  .block 1 (.seq (.ops (
   o 78 (.cmp .eql .i64 (.t 76) (.c (.int .i64 1))) <| m 77 78 <| .nil)) (
  .cond (.t 77) (.seq (.ops (
   m 79 0 <| m 80 0 <| n 81 80 <| d 82 6 81 <| l 83 82 <| d 85 1 6 <| l 86 85 <| o 84 (.buildSl 1 1 [(.int .i64 0)] [(0, 1, (.c (.int .i64 (-1))))]) <|
   .op ⟨(some 87), .call 384 [(.t 84), (.t 86)], [{ g := none, op := .load1 (.t 82), d := 83 }]⟩ <| o 88 (.buildSl 1 1 [.nilsl] [(0, 1, (.t 87))]) <|
   o 89 (.append 1 24 (.t 83) (.t 88)) <| n 90 79 <| d 91 6 90 <| u (.store 1 (.t 91) (.t 89)) <| .nil)) (
   .ops (
   m 92 0 <| m 93 1 <| d 94 1 7 <| l 95 94 <| m 96 0 <| n 97 96 <| d 98 6 97 <| l 99 98 <| o 100 (.lenSl (.t 99)) <| o 101 (.arith .sub .i64 (.t 100) (.c (.int .i64 1))) <|
   o 102 (.call 385 [(.t 92), (.t 93), (.t 95), (.t 101)]) <| .nil))) (.seq (.ops (
   o 104 (.cmp .eql .i64 (.t 76) (.c (.int .i64 2))) <| m 103 104 <| .nil)) (
   .cond (.t 103) (.seq (.ops (
   m 105 10 <| .nil)) (
   .cond (.t 105) (.ops (
   m 106 0 <| m 107 1 <| d 108 1 7 <| l 109 108 <| m 110 0 <| n 111 110 <| d 112 6 111 <| l 113 112 <| m 114 9 <| o 115 (.indexA 1 (.t 113) (.t 114)) <| l 116 115 <| d 117 1 6 <|
   l 118 117 <| o 119 (.indexA 1 (.t 116) (.t 118)) <| l 120 119 <| o 121 (.call 385 [(.t 106), (.t 107), (.t 109), (.t 120)]) <| .nil)) (.skip))) (.seq (.ops (
   o 123 (.cmp .eql .i64 (.t 76) (.c (.int .i64 3))) <| m 122 123 <| .nil)) (
   .cond (.t 122) (.ops (
   m 124 0 <| n 125 124 <| d 126 6 125 <| l 127 126 <| m 128 9 <| o 129 (.indexA 1 (.t 127) (.t 128)) <| l 130 129 <| d 131 1 6 <| l 132 131 <| m 133 0 <| m 134 1 <| d 135 3 6 <|
   l 136 135 <|
   .op ⟨(some 137), .call 106 [(.t 133), (.t 134), (.t 136)], [{ g := none, op := .load1 (.t 131), d := 132 }, { g := none, op := .load1 (.t 129), d := 130 }, { g := none, op := .load1 (.t 126), d := 127 }]⟩ <| o 138 (.indexA 1 (.t 130) (.t 132)) <| u (.store 1 (.t 138) (.t 137)) <| .nil)) (.seq (.ops (
   o 140 (.cmp .eql .i64 (.t 76) (.c (.int .i64 4))) <| m 139 140 <| .nil)) (
   .cond (.t 139) (.ops (
   m 141 0 <| n 142 141 <| d 143 6 142 <| l 144 143 <| m 145 9 <| o 146 (.indexA 1 (.t 144) (.t 145)) <| l 147 146 <| d 148 1 6 <| l 149 148 <|
   o 150 (.indexA 1 (.t 147) (.t 149)) <| u (.store 1 (.t 150) (.c (.int .i64 (-1)))) <| .nil)) (.seq (.ops (
   o 152 (.cmp .eql .i64 (.t 76) (.c (.int .i64 5))) <| m 151 152 <| .nil)) (
   .cond (.t 151) (.seq (.ops (
   m 153 11 <| .nil)) (
   .cond (.t 153) (.ops (
   m 154 0 <| n 155 154 <| d 156 6 155 <| l 157 156 <| m 158 9 <| o 159 (.indexA 1 (.t 157) (.t 158)) <| l 160 159 <| d 161 1 6 <| l 162 161 <| m 163 0 <| m 164 1 <| d 165 3 6 <|
   l 166 165 <|
   .op ⟨(some 167), .call 106 [(.t 163), (.t 164), (.t 166)], [{ g := none, op := .load1 (.t 161), d := 162 }, { g := none, op := .load1 (.t 159), d := 160 }, { g := none, op := .load1 (.t 156), d := 157 }]⟩ <| o 168 (.indexA 1 (.t 160) (.t 162)) <| u (.store 1 (.t 168) (.t 167)) <| .nil)) (.skip))) (.seq (.ops (
   o 170 (.cmp .eql .i64 (.t 76) (.c (.int .i64 6))) <| m 169 170 <| .nil)) (
   .cond (.t 169) (.ops (
   m 171 0 <| n 172 171 <| d 173 7 172 <| l 174 173 <| m 175 1 <| o 176 (.indexA 1 (.t 174) (.t 175)) <| l 177 176 <| d 178 2 6 <| l 179 178 <|
   u (.mapDel .int (.t 177) (.t 179)) <| .nil)) (.seq (.ops (
   o 181 (.cmp .eql .i64 (.t 76) (.c (.int .i64 8))) <| m 180 181 <| .nil)) (
   .cond (.t 180) (.seq (.ops (
   m 182 0 <| n 183 182 <| d 184 9 183 <| l 185 184 <| d 186 1 7 <| l 187 186 <| u (.mapSet .int (.t 185) (.t 187) (.c (.int .i64 1))) <| .nil)) (
   .ops (
   m 188 0 <| n 189 188 <| d 190 8 189 <| l 191 190 <| m 192 1 <| d 193 1 7 <| l 194 193 <| m 195 0 <| m 196 9 <|
   .op ⟨(some 197), .call 386 [(.t 195), (.t 196)], [{ g := none, op := .load1 (.t 193), d := 194 }, { g := none, op := .load1 (.t 190), d := 191 }]⟩ <|
   o 198 (.build [(.int .u64 0), .nilsl] [(0, 1, (.t 194)), (1, 1, (.t 197))]) <| o 199 (.indexA 2 (.t 191) (.t 192)) <| u (.store 2 (.t 199) (.t 198)) <| .nil))) (.seq (.ops (
   o 201 (.cmp .eql .i64 (.t 76) (.c (.int .i64 9))) <| m 200 201 <| .nil)) (
   .cond (.t 200) (.seq (.ops (
   m 202 0 <| m 203 1 <| d 204 1 7 <| l 205 204 <| m 206 0 <| n 207 206 <| d 208 8 207 <| l 209 208 <| m 210 1 <| o 211 (.indexA 2 (.t 209) (.t 210)) <| d 212 1 211 <|
   l 213 212 <| o 214 (.indexA 1 (.t 213) (.c (.int .i64 0))) <| l 215 214 <| o 216 (.call 385 [(.t 202), (.t 203), (.t 205), (.t 215)]) <| .nil)) (
   .ops (
   m 217 0 <| n 218 217 <| d 219 8 218 <| l 220 219 <| m 221 1 <| m 222 0 <| n 223 222 <| d 224 8 223 <| l 225 224 <| m 226 1 <| o 227 (.indexA 2 (.t 225) (.t 226)) <|
   d 228 1 227 <| l 229 228 <| o 230 (.slice 1 (.t 229) (some (.c (.int .i64 1))) none none) <| o 231 (.indexA 2 (.t 220) (.t 221)) <| d 232 1 231 <|
   u (.store 1 (.t 232) (.t 230)) <| .nil))) (.seq (.ops (
   o 234 (.cmp .eql .i64 (.t 76) (.c (.int .i64 10))) <| m 233 234 <| .nil)) (
   .cond (.t 233) (.ops (
   m 235 0 <| n 236 235 <| d 237 8 236 <| l 238 237 <| m 239 1 <| o 240 (.build [(.int .u64 0), .nilsl] []) <| o 241 (.indexA 2 (.t 238) (.t 239)) <|
   u (.store 2 (.t 241) (.t 240)) <| .nil)) (.skip))))))))))))))))))))

def model_Model_done_c7 : ACode :=
  .seq (.ops (
   o 8 (.mov (.c (.bool true))) <| .nil)) (
  .ret)

def model_Model_done_c6 : ACode :=
  .ops (
   d 52 2 7 <| l 53 52 <| m 54 11 <| o 55 (.eq true .bool (.t 53) (.t 54)) <| m 56 55 <| .grd 56 false [i 57 (.mov (.t 10)),
   i 58 (.mov (.t 57))] <| .grd 58 true [i 59 (.mov (.t 0)),
   i 60 (.fieldA 1 (.t 7)),
   i 61 (.load1 (.t 60)),
   i 62 (.call 383 [(.t 59), (.t 61)]),
   i 63 (.not (.t 62))] <| .grd 56 false [i 64 (.pick (.t 58) (.t 63) (.c (.bool false)))] <| o 65 (.pick (.t 56) (.c (.bool true)) (.t 64)) <| m 66 65 <|
   .grd 66 false [i 67 (.mov (.t 10)),
   i 68 (.not (.t 67)),
   i 69 (.mov (.t 68))] <| .grd 69 true [i 70 (.fieldA 1 (.t 7)),
   i 71 (.load1 (.t 70)),
   i 72 (.cmp .neq .u64 (.t 71) (.c (.int .u64 0)))] <| .grd 66 false [i 73 (.pick (.t 69) (.t 72) (.c (.bool false)))] <| o 74 (.pick (.t 66) (.c (.bool true)) (.t 73)) <| .nil)

def model_Model_done_c5 : ACode :=
  .cond (.t 74) (.seq (.ops (
   o 8 (.mov (.c (.bool false))) <| .nil)) (
   .ret)) (.skip)

def model_Model_done_c4 : ACode :=
  .seq (.join [0, 1, 6, 7, 9, 10, 11] [] (model_Model_done_c8)) (
  model_Model_done_c7)

def model_Model_done_c3 : ACode :=
  .seq (.ops (
   o 20 (.cmp .eql .i64 (.t 18) (.c (.int .i64 1))) <| m 19 20 <| .nil)) (
  .cond (.t 19) (.skip) (.seq (.ops (
   o 21 (.cmp .eql .i64 (.t 18) (.c (.int .i64 8))) <| m 19 21 <| .nil)) (
   .cond (.t 19) (.skip) (.ops (
   o 22 (.cmp .eql .i64 (.t 18) (.c (.int .i64 9))) <| m 19 22 <| .nil)))))

def model_Model_done_c2 : ACode :=
  .cond (.t 19) (.ops (
   o 10 (.mov (.c (.bool true))) <| .nil)) (.seq (.ops (
   o 24 (.cmp .eql .i64 (.t 18) (.c (.int .i64 2))) <| m 23 24 <| .nil)) (
   .cond (.t 23) (.ops (
   m 25 0 <| n 26 25 <| d 27 6 26 <| l 28 27 <| m 29 9 <| o 30 (.indexA 1 (.t 28) (.t 29)) <| l 31 30 <| d 32 1 6 <| l 33 32 <| o 34 (.indexA 1 (.t 31) (.t 33)) <| l 35 34 <|
   o 36 (.cmp .geq .i64 (.t 35) (.c (.int .i64 0))) <| m 10 36 <| .nil)) (.seq (.ops (
   o 38 (.cmp .eql .i64 (.t 18) (.c (.int .i64 5))) <| m 37 38 <| .nil)) (
   .cond (.t 37) (.ops (
   m 39 0 <| m 40 1 <| ln 41 5 6 <| o 42 (.call 283 [(.t 39), (.t 40), (.t 41)]) <| m 11 42 <| .nil)) (.seq (.ops (
   o 44 (.cmp .eql .i64 (.t 18) (.c (.int .i64 7))) <| m 43 44 <| .nil)) (
   .cond (.t 43) (.ops (
   m 45 9 <| m 46 0 <| m 47 1 <| d 48 3 6 <| l 49 48 <| o 50 (.call 106 [(.t 46), (.t 47), (.t 49)]) <| o 51 (.cmp .eql .i64 (.t 45) (.t 50)) <| m 11 51 <| .nil)) (.skip)))))))

def model_Model_done_c1 : ACode :=
  .seq (.ops (
   d 17 0 6 <| l 18 17 <| .nil)) (
  .block 0 (.seq (.join [0, 1, 6, 7, 9, 10, 11, 18] [0, 1, 6, 7, 9, 10, 11, 18, 19] (model_Model_done_c3)) (
  model_Model_done_c2)))

def model_Model_done_c0 : ACode :=
  .seq (.seq (.join [0, 1, 6, 7, 9, 10, 11] [0, 1, 6, 7, 9, 10, 11, 74] (model_Model_done_c6)) (
  model_Model_done_c5)) (
  model_Model_done_c4)

def model_Model_done : AFunc where
  closed := false
  nparams := 4
  ntmps := 242
  results := [.tmp 8]
  body := .seq (.ops (
   o 6 (.box (.t 2)) <| o 7 (.box (.t 3)) <| o 8 (.mov (.c (.bool false))) <| .nil)) (
   .seq (.ops (
   m 12 0 <| m 13 1 <| d 14 2 6 <| l 15 14 <| o 16 (.call 106 [(.t 12), (.t 13), (.t 15)]) <| m 9 16 <| .nil)) (
   .seq (.ops (
   o 10 (.mov (.c (.bool false))) <| o 11 (.mov (.c (.bool false))) <| .nil)) (
   .seq (.join [0, 1, 6, 7, 9, 10, 11] [0, 1, 6, 7, 9, 10, 11] (model_Model_done_c1)) (
   model_Model_done_c0))))

def model_Model_done_hs : List (List Nat × List Nat) := [([1000003, 0, 1, 6, 7, 9, 10, 11], [0, 1, 6, 7, 9, 10, 11]), ([1000001, 0, 1, 6, 7, 9, 10, 11, 18], [0, 1, 6, 7, 9, 10, 11, 18, 19]), ([1000006, 0, 1, 6, 7, 9, 10, 11], [0, 1, 6, 7, 9, 10, 11, 74]), ([1000001, 0, 1, 6, 7, 9, 10, 11], [])]

end Wm.F
end

section
namespace Wm.F
open Wm
set_option maxRecDepth 100000

def hist_Ahead : AFunc where
  closed := true
  nparams := 2
  ntmps := 10
  results := [.tmp 4]
  body := .seq (.ops (
   o 2 (.box (.t 0)) <| o 3 (.box (.t 1)) <| o 4 (.mov (.c (.bool false))) <| .nil)) (
   .seq (.ops (
   d 5 4 2 <| l 6 5 <| d 7 2 3 <| l 8 7 <| o 9 (.cmp .lss .i64 (.t 6) (.t 8)) <| m 4 9 <| .nil)) (
   .ret))

def hist_Ahead_hs : List (List Nat × List Nat) := []

end Wm.F
end

section
namespace Wm.F
open Wm
set_option maxRecDepth 100000

def slices_SortFunc___int_int_ : AFunc where
  closed := false
  nparams := 2
  ntmps := 14
  results := []
  body := .seq (.ops (
   m 5 0 <| o 6 (.lenSl (.t 5)) <| m 4 6 <| .nil)) (
   .ops (
   m 7 0 <| m 8 4 <| m 9 4 <| o 10 (.conv .u64 (.t 9)) <| o 11 (.call 406 [(.t 10)]) <| m 12 1 <| o 13 (.call 405 [(.t 7), (.c (.int .i64 0)), (.t 8), (.t 11), (.t 12)]) <| .nil))

def slices_SortFunc___int_int__hs : List (List Nat × List Nat) := []

end Wm.F
end

section
namespace Wm.F
open Wm
set_option maxRecDepth 100000

def hist_Right_1 : AFunc where
  closed := false
  nparams := 3
  ntmps := 17
  results := [.tmp 5]
  body := .seq (.ops (
   o 5 (.mov (.c (.int .i64 0))) <| .nil)) (
   .seq (.ops (
   l 6 2 <| m 7 0 <| o 8 (.indexA 14 (.t 6) (.t 7)) <| d 9 1 8 <| l 10 9 <| l 11 2 <| m 12 1 <| o 13 (.indexA 14 (.t 11) (.t 12)) <| d 14 1 13 <| l 15 14 <|
   o 16 (.call 334 [(.t 10), (.t 15)]) <| m 5 16 <| .nil)) (
   .ret))

def hist_Right_1_hs : List (List Nat × List Nat) := []

end Wm.F
end

section
namespace Wm.F
open Wm
set_option maxRecDepth 100000

def slices_SortStableFunc___int_int_ : AFunc where
  closed := false
  nparams := 2
  ntmps := 9
  results := []
  body := .ops (
   m 4 0 <| m 5 0 <| o 6 (.lenSl (.t 5)) <| m 7 1 <| o 8 (.call 408 [(.t 4), (.t 6), (.t 7)]) <| .nil)

def slices_SortStableFunc___int_int__hs : List (List Nat × List Nat) := []

end Wm.F
end

section
namespace Wm.F
open Wm
set_option maxRecDepth 100000

def hist_Order_1 : AFunc where
  closed := false
  nparams := 3
  ntmps := 38
  results := [.tmp 5]
  body := .seq (.ops (
   o 5 (.mov (.c (.int .i64 0))) <| .nil)) (
   .seq (.ops (
   l 8 2 <| m 9 0 <| o 10 (.indexA 14 (.t 8) (.t 9)) <| ln 11 14 10 <| l 12 2 <| m 13 1 <| o 14 (.indexA 14 (.t 12) (.t 13)) <| ln 15 14 14 <|
   o 6 (.alloc [(.int .i64 0), (.int .i64 0), (.int .i64 0), (.int .i64 0), (.int .i64 0), (.bool false), (.int .i64 0), (.int .i64 0), (.int .u64 0), (.int .u64 0), (.int .u64 0), (.int .i64 0), (.int .u64 0), (.bool false)]) <| o 7 (.alloc [(.int .i64 0), (.int .i64 0), (.int .i64 0), (.int .i64 0), (.int .i64 0), (.bool false), (.int .i64 0), (.int .i64 0), (.int .u64 0), (.int .u64 0), (.int .u64 0), (.int .i64 0), (.int .u64 0), (.bool false)]) <| .op ⟨none, .store 14 (.t 6) (.t 11), [{ g := none, op := .loadN 14 (.t 14), d := 15 }, { g := none, op := .load1 (.t 2), d := 12 }]⟩ <| u (.store 14 (.t 7) (.t 15)) <| .nil)) (
   .seq (.ops (
   d 16 3 6 <| l 17 16 <| d 18 3 7 <| l 19 18 <| ln 21 14 6 <| ln 23 14 7 <| d 26 0 6 <| l 27 26 <| d 28 0 7 <| l 29 28 <| d 31 1 6 <| l 32 31 <| d 33 1 7 <| l 34 33 <|
   .op ⟨(some 20), .call 334 [(.t 17), (.t 19)], [{ g := none, op := .load1 (.t 33), d := 34 }, { g := none, op := .load1 (.t 31), d := 32 }, { g := none, op := .load1 (.t 28), d := 29 }, { g := none, op := .load1 (.t 26), d := 27 }, { g := none, op := .loadN 14 (.t 7), d := 23 }, { g := none, op := .loadN 14 (.t 6), d := 21 }]⟩ <| .op ⟨(some 22), .call 338 [(.t 21)], [{ g := none, op := .load1 (.t 33), d := 34 }, { g := none, op := .load1 (.t 31), d := 32 }, { g := none, op := .load1 (.t 28), d := 29 }, { g := none, op := .load1 (.t 26), d := 27 }, { g := none, op := .loadN 14 (.t 7), d := 23 }]⟩ <| .op ⟨(some 24), .call 338 [(.t 23)], [{ g := none, op := .load1 (.t 33), d := 34 }, { g := none, op := .load1 (.t 31), d := 32 }, { g := none, op := .load1 (.t 28), d := 29 }, { g := none, op := .load1 (.t 26), d := 27 }]⟩ <| .op ⟨(some 25), .call 334 [(.t 22), (.t 24)], [{ g := none, op := .load1 (.t 33), d := 34 }, { g := none, op := .load1 (.t 31), d := 32 }, { g := none, op := .load1 (.t 28), d := 29 }, { g := none, op := .load1 (.t 26), d := 27 }]⟩ <| .op ⟨(some 30), .call 334 [(.t 27), (.t 29)], [{ g := none, op := .load1 (.t 33), d := 34 }, { g := none, op := .load1 (.t 31), d := 32 }]⟩ <| o 35 (.call 334 [(.t 32), (.t 34)]) <| o 36 (.buildSl 1 4 [(.int .i64 0)] [(0, 1, (.t 20)), (1, 1, (.t 25)), (2, 1, (.t 30)), (3, 1, (.t 35))]) <| o 37 (.call 337 [(.t 36)]) <| m 5 37 <| .nil)) (
   .ret)))

def hist_Order_1_hs : List (List Nat × List Nat) := []

end Wm.F
end

section
namespace Wm.F
open Wm
set_option maxRecDepth 100000

def plan_between : AFunc where
  closed := true
  nparams := 3
  ntmps := 15
  results := [.tmp 6]
  body := .seq (.ops (
   o 6 (.mov (.c (.bool false))) <| .nil)) (
   .seq (.ops (
   m 7 0 <| m 8 1 <| o 9 (.cmp .geq .i64 (.t 7) (.t 8)) <| m 10 9 <| .grd 10 true [i 11 (.mov (.t 0)),
   i 12 (.mov (.t 2)),
   i 13 (.cmp .leq .i64 (.t 11) (.t 12))] <| o 14 (.pick (.t 10) (.t 13) (.c (.bool false))) <| m 6 14 <| .nil)) (
   .ret))

def plan_between_hs : List (List Nat × List Nat) := []

end Wm.F
end

section
namespace Wm.F
open Wm
set_option maxRecDepth 100000

def slices_Clone___model_walk_model_walk_ : AFunc where
  closed := false
  nparams := 1
  ntmps := 8
  results := [.tmp 2]
  body := .seq (.ops (
   o 2 (.mov (.c .nilsl)) <| .nil)) (
   .seq (.seq (.ops (
   m 3 0 <| o 4 (.eq false .sl (.t 3) (.c .nilsl)) <| .nil)) (
   .cond (.t 4) (.seq (.ops (
   o 2 (.mov (.c .nilsl)) <| .nil)) (
   .ret)) (.skip))) (
   .seq (.ops (
   o 5 (.buildSl 2 0 [(.int .u64 0), .nilsl] []) <| m 6 0 <| o 7 (.append 2 32 (.t 5) (.t 6)) <| m 2 7 <| .nil)) (
   .ret)))

def slices_Clone___model_walk_model_walk__hs : List (List Nat × List Nat) := []

end Wm.F
end

section
namespace Wm.F
open Wm
set_option maxRecDepth 100000

def maps_Clone_map_uint64_int_uint64_int_ : AFunc where
  closed := false
  nparams := 1
  ntmps := 9
  results := [.tmp 2]
  body := .seq (.ops (
   o 2 (.mov (.c .nilmap)) <| .nil)) (
   .seq (.seq (.ops (
   m 3 0 <| o 4 (.eq false .map (.t 3) (.c .nilmap)) <| .nil)) (
   .cond (.t 4) (.seq (.ops (
   o 2 (.mov (.c .nilmap)) <| .nil)) (
   .ret)) (.skip))) (
   .seq (.ops (
   m 5 0 <| o 6 (.mkIfc 159 (.t 5)) <| o 7 (.cloneM (.t 6)) <| o 8 (.asrt 159 (.t 7)) <| m 2 8 <| .nil)) (
   .ret)))

def maps_Clone_map_uint64_int_uint64_int__hs : List (List Nat × List Nat) := []

end Wm.F
end

section
namespace Wm.F
open Wm
set_option maxRecDepth 100000

def slices_Clone___int_int_ : AFunc where
  closed := false
  nparams := 1
  ntmps := 8
  results := [.tmp 2]
  body := .seq (.ops (
   o 2 (.mov (.c .nilsl)) <| .nil)) (
   .seq (.seq (.ops (
   m 3 0 <| o 4 (.eq false .sl (.t 3) (.c .nilsl)) <| .nil)) (
   .cond (.t 4) (.seq (.ops (
   o 2 (.mov (.c .nilsl)) <| .nil)) (
   .ret)) (.skip))) (
   .seq (.ops (
   o 5 (.buildSl 1 0 [(.int .i64 0)] []) <| m 6 0 <| o 7 (.append 1 8 (.t 5) (.t 6)) <| m 2 7 <| .nil)) (
   .ret)))

def slices_Clone___int_int__hs : List (List Nat × List Nat) := []

end Wm.F
end

section
namespace Wm.F
open Wm
set_option maxRecDepth 100000

def slices_Contains___int_int_ : AFunc where
  closed := false
  nparams := 2
  ntmps := 9
  results := [.tmp 4]
  body := .seq (.ops (
   o 4 (.mov (.c (.bool false))) <| .nil)) (
   .seq (.ops (
   m 5 0 <| m 6 1 <| o 7 (.call 404 [(.t 5), (.t 6)]) <| o 8 (.cmp .geq .i64 (.t 7) (.c (.int .i64 0))) <| m 4 8 <| .nil)) (
   .ret))

def slices_Contains___int_int__hs : List (List Nat × List Nat) := []

end Wm.F
end

section
namespace Wm.F
open Wm
set_option maxRecDepth 100000

def model_Model_Held : AFunc where
  closed := false
  nparams := 2
  ntmps := 17
  results := [.tmp 4]
  body := .seq (.ops (
   o 4 (.mov (.c (.int .i64 0))) <| .nil)) (
   .seq (.seq (.ops (
   m 5 0 <| m 6 1 <| o 7 (.call 279 [(.t 5), (.t 6)]) <| o 8 (.not (.t 7)) <| .nil)) (
   .cond (.t 8) (.seq (.ops (
   o 4 (.mov (.c (.int .i64 0))) <| .nil)) (
   .ret)) (.skip))) (
   .seq (.ops (
   m 9 0 <| n 10 9 <| d 11 7 10 <| l 12 11 <| m 13 1 <| o 14 (.indexA 1 (.t 12) (.t 13)) <| l 15 14 <| o 16 (.lenMap (.t 15)) <| m 4 16 <| .nil)) (
   .ret)))

def model_Model_Held_hs : List (List Nat × List Nat) := []

end Wm.F
end

section
namespace Wm.F
open Wm
set_option maxRecDepth 100000

def model_Model_Node : AFunc where
  closed := false
  nparams := 3
  ntmps := 26
  results := [.tmp 6]
  body := .seq (.ops (
   o 6 (.mov (.c (.int .i64 0))) <| .nil)) (
   .seq (.seq (.ops (
   m 9 0 <| m 10 1 <| o 11 (.call 279 [(.t 9), (.t 10)]) <| .nil)) (
   .cond (.t 11) (.seq (.ops (
   m 13 0 <| n 14 13 <| d 15 7 14 <| l 16 15 <| m 17 1 <| o 18 (.indexA 1 (.t 16) (.t 17)) <| l 19 18 <| m 20 2 <| o 21 (.lookup .int (.int .i64 0) true (.t 19) (.t 20)) <|
   m 12 21 <| o 22 (.extract (.t 12) 0) <| o 23 (.extract (.t 12) 1) <| m 7 22 <| m 8 23 <| .nil)) (
   .seq (.ops (
   m 24 8 <| .nil)) (
   .cond (.t 24) (.seq (.ops (
   m 25 7 <| m 6 25 <| .nil)) (
   .ret)) (.skip)))) (.skip))) (
   .seq (.ops (
   o 6 (.mov (.c (.int .i64 (-1)))) <| .nil)) (
   .ret)))

def model_Model_Node_hs : List (List Nat × List Nat) := []

end Wm.F
end

section
namespace Wm.F
open Wm
set_option maxRecDepth 100000

def model_Model_Field : AFunc where
  closed := false
  nparams := 3
  ntmps := 48
  results := [.tmp 6]
  body := .seq (.ops (
   o 6 (.mov (.c (.int .i64 0))) <| .nil)) (
   .seq (.seq (.ops (
   m 7 0 <| o 8 (.eq false .ptr (.t 7) (.c .nilp)) <| m 9 8 <| .grd 9 false [i 10 (.mov (.t 1)),
   i 11 (.cmp .lss .i64 (.t 10) (.c (.int .i64 0)))] <| o 12 (.pick (.t 9) (.c (.bool true)) (.t 11)) <| m 13 12 <| .grd 13 false [i 14 (.mov (.t 1)),
   i 15 (.mov (.t 0)),
   i 16 (.nilc (.t 15)),
   i 17 (.fieldA 6 (.t 16)),
   i 18 (.load1 (.t 17)),
   i 19 (.lenSl (.t 18)),
   i 20 (.cmp .geq .i64 (.t 14) (.t 19))] <| o 21 (.pick (.t 13) (.c (.bool true)) (.t 20)) <| m 22 21 <| .grd 22 false [i 23 (.mov (.t 2)),
   i 24 (.cmp .lss .i64 (.t 23) (.c (.int .i64 0)))] <| o 25 (.pick (.t 22) (.c (.bool true)) (.t 24)) <| m 26 25 <| .grd 26 false [i 27 (.mov (.t 2)),
   i 28 (.mov (.t 0)),
   i 29 (.nilc (.t 28)),
   i 30 (.fieldA 6 (.t 29)),
   i 31 (.load1 (.t 30)),
   i 32 (.mov (.t 1)),
   i 33 (.indexA 1 (.t 31) (.t 32)),
   i 34 (.load1 (.t 33)),
   i 35 (.lenSl (.t 34)),
   i 36 (.cmp .geq .i64 (.t 27) (.t 35))] <| o 37 (.pick (.t 26) (.c (.bool true)) (.t 36)) <| .nil)) (
   .cond (.t 37) (.seq (.ops (
   o 6 (.mov (.c (.int .i64 (-1)))) <| .nil)) (
   .ret)) (.skip))) (
   .seq (.ops (
   m 38 0 <| n 39 38 <| d 40 6 39 <| l 41 40 <| m 42 1 <| o 43 (.indexA 1 (.t 41) (.t 42)) <| l 44 43 <| m 45 2 <| o 46 (.indexA 1 (.t 44) (.t 45)) <| l 47 46 <| m 6 47 <| .nil)) (
   .ret)))

def model_Model_Field_hs : List (List Nat × List Nat) := []

end Wm.F
end

section
namespace Wm.F
open Wm
set_option maxRecDepth 100000

def model_Model_fresh : AFunc where
  closed := false
  nparams := 2
  ntmps := 16
  results := [.tmp 4]
  body := .seq (.ops (
   o 4 (.mov (.c (.bool false))) <| .nil)) (
   .seq (.ops (
   m 5 1 <| o 6 (.cmp .neq .u64 (.t 5) (.c (.int .u64 0))) <| m 7 6 <| .grd 7 true [i 8 (.mov (.t 0)),
   i 9 (.nilc (.t 8)),
   i 10 (.fieldA 9 (.t 9)),
   i 11 (.load1 (.t 10)),
   i 12 (.mov (.t 1)),
   i 13 (.lookup .int (.int .i64 0) false (.t 11) (.t 12)),
   i 14 (.cmp .eql .i64 (.t 13) (.c (.int .i64 0)))] <| o 15 (.pick (.t 7) (.t 14) (.c (.bool false))) <| m 4 15 <| .nil)) (
   .ret))

def model_Model_fresh_hs : List (List Nat × List Nat) := []

end Wm.F
end

section
namespace Wm.F
open Wm
set_option maxRecDepth 100000

def slices_Repeat___int_int__c1 : ACode :=
  .seq (.seq (.ops (
   m 34 8 <| m 35 7 <| o 36 (.lenSl (.t 35)) <| o 37 (.cmp .lss .i64 (.t 34) (.t 36)) <| .nil)) (
  .cond (.t 37) (.skip) (.exit 0))) (
  .block 1 (.ops (
   m 38 8 <| m 39 7 <| m 40 8 <| o 41 (.slice 1 (.t 39) (some (.t 40)) none none) <| m 42 7 <| m 43 8 <| o 44 (.slice 1 (.t 42) none (some (.t 43)) none) <|
   o 45 (.copy 1 (.t 41) (.t 44)) <| o 46 (.arith .add .i64 (.t 38) (.t 45)) <| m 8 46 <| .nil)))

def slices_Repeat___int_int__c0 : ACode :=
  .seq (.ops (
   m 47 7 <| m 4 47 <| .nil)) (
  .ret)

def slices_Repeat___int_int_ : AFunc where
  closed := false
  nparams := 2
  ntmps := 48
  results := [.tmp 4]
  body := .seq (.ops (
   o 4 (.mov (.c .nilsl)) <| .nil)) (
   .seq (.seq (.ops (
   m 9 1 <| o 10 (.cmp .lss .i64 (.t 9) (.c (.int .i64 0))) <| .nil)) (
   .cond (.t 10) (.ops (
   .op ⟨(some 11), .mkIfc 9 (.c (.str ⟨⟨[99, 97, 110, 110, 111, 116, 32, 98, 101, 32, 110, 101, 103, 97, 116, 105, 118, 101]⟩⟩)), []⟩ <| u (.extract (.c (.tup [])) 0) <|
   .nil)) (.skip))) (
   .seq (.ops (
   m 13 0 <| o 14 (.lenSl (.t 13)) <| o 15 (.conv .u64 (.t 14)) <| m 16 1 <| o 17 (.conv .u64 (.t 16)) <| o 18 (.call 445 [(.t 15), (.t 17)]) <| m 12 18 <|
   o 19 (.extract (.t 12) 0) <| o 20 (.extract (.t 12) 1) <| m 5 19 <| m 6 20 <| .nil)) (
   .seq (.seq (.ops (
   m 21 5 <| o 22 (.cmp .gtr .u64 (.t 21) (.c (.int .u64 0))) <| m 23 22 <| .grd 23 false [i 24 (.mov (.t 6)),
   i 25 (.cmp .gtr .u64 (.t 24) (.c (.int .u64 9223372036854775807)))] <| o 26 (.pick (.t 23) (.c (.bool true)) (.t 25)) <| .nil)) (
   .cond (.t 26) (.ops (
   .op ⟨(some 27), .mkIfc 9 (.c (.str ⟨⟨[116, 104, 101, 32, 114, 101, 115, 117, 108, 116, 32, 111, 102, 32, 40, 108, 101, 110, 40, 120, 41, 32, 42, 32, 99, 111, 117, 110, 116, 41, 32, 111, 118, 101, 114, 102, 108, 111, 119, 115]⟩⟩)), []⟩ <| u (.extract (.c (.tup [])) 0) <| .nil)) (.skip))) (
   .seq (.ops (
   m 28 6 <| o 29 (.conv .i64 (.t 28)) <| o 30 (.mkSl 1 8 [(.int .i64 0)] (.t 29) (.t 29)) <| m 7 30 <| .nil)) (
   .seq (.ops (
   m 31 7 <| m 32 0 <| o 33 (.copy 1 (.t 31) (.t 32)) <| m 8 33 <| .nil)) (
   .seq (.block 0 (.loop [7, 8] [7] (slices_Repeat___int_int__c1))) (
   slices_Repeat___int_int__c0)))))))

def slices_Repeat___int_int__hs : List (List Nat × List Nat) := [([7, 8], [7])]

end Wm.F
end

section
namespace Wm.F
open Wm
set_option maxRecDepth 100000

def model_Model_hold : AFunc where
  closed := false
  nparams := 4
  ntmps := 22
  results := []
  body := .seq (.ops (
   m 8 0 <| n 9 8 <| d 10 9 9 <| l 11 10 <| m 12 2 <| u (.mapSet .int (.t 11) (.t 12) (.c (.int .i64 1))) <| .nil)) (
   .ops (
   m 13 0 <| n 14 13 <| d 15 7 14 <| l 16 15 <| m 17 1 <| o 18 (.indexA 1 (.t 16) (.t 17)) <| l 19 18 <| m 20 2 <| m 21 3 <| u (.mapSet .int (.t 19) (.t 20) (.t 21)) <| .nil))

def model_Model_hold_hs : List (List Nat × List Nat) := []

end Wm.F
end

section
namespace Wm.F
open Wm
set_option maxRecDepth 100000

def model_Model_reached_c3 : ACode :=
  .seq (.ops (
   o 29 (.cmp .lss .i64 (.t 28) (.t 27)) <| .nil)) (
  .seq (.cond (.t 29) (.skip) (.exit 2)) (
  .seq (.block 3 (.seq (.ops (
   o 30 (.indexA 1 (.t 26) (.t 28)) <| l 31 30 <| m 8 31 <| .nil)) (
  .seq (.ops (
   m 32 8 <| o 33 (.cmp .geq .i64 (.t 32) (.c (.int .i64 0))) <| m 34 33 <| .grd 34 true [i 35 (.mov (.t 5)),
   i 36 (.mov (.t 8)),
   i 37 (.call 331 [(.t 35), (.t 36)]),
   i 38 (.not (.t 37))] <| o 39 (.pick (.t 34) (.t 38) (.c (.bool false))) <| .nil)) (
  .cond (.t 39) (.ops (
   m 40 5 <| m 41 8 <| o 42 (.buildSl 1 1 [(.int .i64 0)] [(0, 1, (.t 41))]) <| o 43 (.append 1 8 (.t 40) (.t 42)) <| m 5 43 <| .nil)) (.skip))))) (
  .ops (
   o 44 (.arith .add .i64 (.t 28) (.c (.int .i64 1))) <| m 28 44 <| .nil))))

def model_Model_reached_c2 : ACode :=
  .ops (
   m 15 6 <| o 16 (.arith .add .i64 (.t 15) (.c (.int .i64 1))) <| m 6 16 <| .nil)

def model_Model_reached_c1 : ACode :=
  .seq (.seq (.ops (
   m 11 6 <| m 12 5 <| o 13 (.lenSl (.t 12)) <| o 14 (.cmp .lss .i64 (.t 11) (.t 13)) <| .nil)) (
  .cond (.t 14) (.skip) (.exit 0))) (
  .seq (.block 1 (.seq (.ops (
   m 17 0 <| n 18 17 <| d 19 6 18 <| l 20 19 <| m 21 5 <| m 22 6 <| o 23 (.indexA 1 (.t 21) (.t 22)) <| l 24 23 <| o 25 (.indexA 1 (.t 20) (.t 24)) <| l 26 25 <|
   o 27 (.lenSl (.t 26)) <| o 28 (.mov (.c (.int .i64 0))) <| .nil)) (
  .block 2 (.loop [0, 5, 6, 26, 27, 28] [0, 5, 6] (model_Model_reached_c3))))) (
  model_Model_reached_c2))

def model_Model_reached_c0 : ACode :=
  .seq (.ops (
   m 45 5 <| m 4 45 <| .nil)) (
  .ret)

def model_Model_reached : AFunc where
  closed := false
  nparams := 2
  ntmps := 46
  results := [.tmp 4]
  body := .seq (.ops (
   o 4 (.mov (.c .nilsl)) <| .nil)) (
   .seq (.ops (
   m 9 1 <| o 10 (.buildSl 1 1 [(.int .i64 0)] [(0, 1, (.t 9))]) <| m 5 10 <| .nil)) (
   .seq (.seq (.ops (
   o 6 (.mov (.c (.int .i64 0))) <| .nil)) (
   .block 0 (.loop [0, 5, 6] [5] (model_Model_reached_c1)))) (
   model_Model_reached_c0)))

def model_Model_reached_hs : List (List Nat × List Nat) := [([0, 5, 6], [5]), ([0, 5, 6, 26, 27, 28], [0, 5, 6])]

end Wm.F
end

section
namespace Wm.F
open Wm
set_option maxRecDepth 100000

def slices_pdqsortCmpFunc_int__c10 : ACode :=
  .seq (.ops (
   m 81 1 <| o 82 (.cmp .gtr .i64 (.t 81) (.c (.int .i64 0))) <| m 83 82 <| .grd 83 true [i 84 (.mov (.t 4)),
   i 85 (.mov (.t 0)),
   i 86 (.mov (.t 1)),
   i 87 (.arith .sub .i64 (.t 86) (.c (.int .i64 1))),
   i 88 (.indexA 1 (.t 85) (.t 87)),
   i 89 (.load1 (.t 88)),
   i 90 (.mov (.t 0)),
   i 91 (.mov (.t 13)),
   i 92 (.indexA 1 (.t 90) (.t 91)),
   i 93 (.load1 (.t 92)),
   i 94 (.callv (.t 84) [(.t 89), (.t 93)]),
   i 95 (.cmp .lss .i64 (.t 94) (.c (.int .i64 0))),
   i 96 (.not (.t 95))] <| o 97 (.pick (.t 83) (.t 96) (.c (.bool false))) <| .nil)) (
  .cond (.t 97) (.seq (.ops (
   m 98 0 <| m 99 1 <| m 100 2 <| m 101 13 <| m 102 4 <| o 103 (.call 456 [(.t 98), (.t 99), (.t 100), (.t 101), (.t 102)]) <| m 15 103 <| .nil)) (
   .seq (.ops (
   m 104 15 <| m 1 104 <| .nil)) (
   .exit 1))) (.skip))

def slices_pdqsortCmpFunc_int__c9 : ACode :=
  .seq (.ops (
   m 106 0 <| m 107 1 <| m 108 2 <| m 109 13 <| m 110 4 <| o 111 (.call 457 [(.t 106), (.t 107), (.t 108), (.t 109), (.t 110)]) <| m 105 111 <| o 112 (.extract (.t 105) 0) <|
   o 113 (.extract (.t 105) 1) <| m 16 112 <| m 17 113 <| .nil)) (
  .seq (.ops (
   m 114 17 <| m 11 114 <| .nil)) (
  .seq (.ops (
   m 115 16 <| m 116 1 <| o 117 (.arith .sub .i64 (.t 115) (.t 116)) <| m 118 2 <| m 119 16 <| o 120 (.arith .sub .i64 (.t 118) (.t 119)) <| m 18 117 <| m 19 120 <| .nil)) (
  .seq (.ops (
   m 121 12 <| o 122 (.arith .quo .i64 (.t 121) (.c (.int .i64 8))) <| m 20 122 <| .nil)) (
  .seq (.ops (
   m 123 18 <| m 124 19 <| o 125 (.cmp .lss .i64 (.t 123) (.t 124)) <| .nil)) (
  .cond (.t 125) (.seq (.ops (
   m 126 18 <| m 127 20 <| o 128 (.cmp .geq .i64 (.t 126) (.t 127)) <| m 10 128 <| .nil)) (
   .seq (.ops (
   m 129 0 <| m 130 1 <| m 131 16 <| m 132 3 <| m 133 4 <| o 134 (.call 405 [(.t 129), (.t 130), (.t 131), (.t 132), (.t 133)]) <| .nil)) (
   .ops (
   m 135 16 <| o 136 (.arith .add .i64 (.t 135) (.c (.int .i64 1))) <| m 1 136 <| .nil)))) (.seq (.ops (
   m 137 19 <| m 138 20 <| o 139 (.cmp .geq .i64 (.t 137) (.t 138)) <| m 10 139 <| .nil)) (
   .seq (.ops (
   m 140 0 <| m 141 16 <| o 142 (.arith .add .i64 (.t 141) (.c (.int .i64 1))) <| m 143 2 <| m 144 3 <| m 145 4 <|
   o 146 (.call 405 [(.t 140), (.t 142), (.t 143), (.t 144), (.t 145)]) <| .nil)) (
   .ops (
   m 147 16 <| m 2 147 <| .nil)))))))))

def slices_pdqsortCmpFunc_int__c8 : ACode :=
  .ops (
   m 68 10 <| m 69 68 <| .grd 69 true [i 70 (.mov (.t 11))] <| o 71 (.pick (.t 69) (.t 70) (.c (.bool false))) <| m 72 71 <| .grd 72 true [i 73 (.mov (.t 14)),
   i 74 (.cmp .eql .i64 (.t 73) (.c (.int .i64 1)))] <| o 75 (.pick (.t 72) (.t 74) (.c (.bool false))) <| .nil)

def slices_pdqsortCmpFunc_int__c7 : ACode :=
  .cond (.t 75) (.seq (.ops (
   m 76 0 <| m 77 1 <| m 78 2 <| m 79 4 <| o 80 (.call 455 [(.t 76), (.t 77), (.t 78), (.t 79)]) <| .nil)) (
   .cond (.t 80) (.ret) (.skip))) (.skip)

def slices_pdqsortCmpFunc_int__c6 : ACode :=
  .seq (.join [0, 1, 2, 3, 4, 10, 11, 12, 13, 14] [0, 1, 2, 3, 4, 10, 11, 12, 13, 75] (slices_pdqsortCmpFunc_int__c8)) (
  slices_pdqsortCmpFunc_int__c7)

def slices_pdqsortCmpFunc_int__c5 : ACode :=
  .seq (.join [0, 1, 2, 3, 4, 10, 11, 12, 13] [0, 1, 2, 3, 4, 10, 11, 12, 13] (slices_pdqsortCmpFunc_int__c10)) (
  slices_pdqsortCmpFunc_int__c9)

def slices_pdqsortCmpFunc_int__c4 : ACode :=
  .seq (.ops (
   m 55 14 <| o 56 (.cmp .eql .i64 (.t 55) (.c (.int .i64 2))) <| .nil)) (
  .cond (.t 56) (.seq (.ops (
   m 57 0 <| m 58 1 <| m 59 2 <| m 60 4 <| o 61 (.call 454 [(.t 57), (.t 58), (.t 59), (.t 60)]) <| .nil)) (
   .seq (.ops (
   m 62 2 <| o 63 (.arith .sub .i64 (.t 62) (.c (.int .i64 1))) <| m 64 13 <| m 65 1 <| o 66 (.arith .sub .i64 (.t 64) (.t 65)) <| o 67 (.arith .sub .i64 (.t 63) (.t 66)) <|
   m 13 67 <| .nil)) (
   .ops (
   o 14 (.mov (.c (.int .i64 1))) <| .nil)))) (.skip))

def slices_pdqsortCmpFunc_int__c3 : ACode :=
  .seq (.join [0, 1, 2, 3, 4, 10, 11, 12, 13, 14] [0, 1, 2, 3, 4, 10, 11, 12, 13] (slices_pdqsortCmpFunc_int__c6)) (
  slices_pdqsortCmpFunc_int__c5)

def slices_pdqsortCmpFunc_int__c2 : ACode :=
  .seq (.ops (
   m 38 10 <| o 39 (.not (.t 38)) <| .nil)) (
  .cond (.t 39) (.seq (.ops (
   m 40 0 <| m 41 1 <| m 42 2 <| m 43 4 <| o 44 (.call 452 [(.t 40), (.t 41), (.t 42), (.t 43)]) <| .nil)) (
   .ops (
   m 45 3 <| o 46 (.arith .sub .i64 (.t 45) (.c (.int .i64 1))) <| m 3 46 <| .nil))) (.skip))

def slices_pdqsortCmpFunc_int__c1 : ACode :=
  .seq (.ops (
   m 48 0 <| m 49 1 <| m 50 2 <| m 51 4 <| o 52 (.call 453 [(.t 48), (.t 49), (.t 50), (.t 51)]) <| m 47 52 <| o 53 (.extract (.t 47) 0) <| o 54 (.extract (.t 47) 1) <| m 13 53 <|
   m 14 54 <| .nil)) (
  .seq (.join [0, 1, 2, 3, 4, 10, 11, 12, 13, 14] [0, 1, 2, 3, 4, 10, 11, 12, 13, 14] (slices_pdqsortCmpFunc_int__c4)) (
  slices_pdqsortCmpFunc_int__c3))

def slices_pdqsortCmpFunc_int__c0 : ACode :=
  .block 1 (.seq (.ops (
   m 21 2 <| m 22 1 <| o 23 (.arith .sub .i64 (.t 21) (.t 22)) <| m 12 23 <| .nil)) (
  .seq (.seq (.ops (
   m 24 12 <| o 25 (.cmp .leq .i64 (.t 24) (.c (.int .i64 12))) <| .nil)) (
  .cond (.t 25) (.seq (.ops (
   m 26 0 <| m 27 1 <| m 28 2 <| m 29 4 <| o 30 (.call 450 [(.t 26), (.t 27), (.t 28), (.t 29)]) <| .nil)) (
   .ret)) (.skip))) (
  .seq (.seq (.ops (
   m 31 3 <| o 32 (.cmp .eql .i64 (.t 31) (.c (.int .i64 0))) <| .nil)) (
  .cond (.t 32) (.seq (.ops (
   m 33 0 <| m 34 1 <| m 35 2 <| m 36 4 <| o 37 (.call 451 [(.t 33), (.t 34), (.t 35), (.t 36)]) <| .nil)) (
   .ret)) (.skip))) (
  .seq (.join [0, 1, 2, 3, 4, 10, 11, 12] [0, 1, 2, 3, 4, 10, 11, 12] (slices_pdqsortCmpFunc_int__c2)) (
  slices_pdqsortCmpFunc_int__c1)))))

def slices_pdqsortCmpFunc_int_ : AFunc where
  closed := false
  nparams := 5
  ntmps := 148
  results := []
  body := .seq (.ops (
   o 10 (.mov (.c (.bool true))) <| .nil)) (
   .seq (.ops (
   o 11 (.mov (.c (.bool true))) <| .nil)) (
   .block 0 (.loop [0, 1, 2, 3, 4, 10, 11] [] (slices_pdqsortCmpFunc_int__c0))))

def slices_pdqsortCmpFunc_int__hs : List (List Nat × List Nat) := [([0, 1, 2, 3, 4, 10, 11], []), ([1000007, 0, 1, 2, 3, 4, 10, 11, 12], [0, 1, 2, 3, 4, 10, 11, 12]), ([1000003, 0, 1, 2, 3, 4, 10, 11, 12, 13, 14], [0, 1, 2, 3, 4, 10, 11, 12, 13, 14]), ([1000003, 0, 1, 2, 3, 4, 10, 11, 12, 13, 14], [0, 1, 2, 3, 4, 10, 11, 12, 13]), ([1000000, 0, 1, 2, 3, 4, 10, 11, 12, 13, 14], [0, 1, 2, 3, 4, 10, 11, 12, 13, 75]), ([1000001, 0, 1, 2, 3, 4, 10, 11, 12, 13], [0, 1, 2, 3, 4, 10, 11, 12, 13])]

end Wm.F
end

section
namespace Wm.F
open Wm
set_option maxRecDepth 100000

def math_bits_Len : AFunc where
  closed := true
  nparams := 1
  ntmps := 8
  results := [.tmp 2]
  body := .seq (.ops (
   o 2 (.mov (.c (.int .i64 0))) <| .nil)) (
   .seq (.cond (.c (.bool false)) (.seq (.ops (
   m 3 0 <| o 4 (.conv .u32 (.t 3)) <| o 5 (.call 458 [(.t 4)]) <| m 2 5 <| .nil)) (
   .ret)) (.skip)) (
   .seq (.ops (
   m 6 0 <| o 7 (.call 459 [(.t 6)]) <| m 2 7 <| .nil)) (
   .ret)))

def math_bits_Len_hs : List (List Nat × List Nat) := []

end Wm.F
end

section
namespace Wm.F
open Wm
set_option maxRecDepth 100000

def cmp_Compare_int_ : AFunc where
  closed := true
  nparams := 2
  ntmps := 20
  results := [.tmp 4]
  body := .seq (.ops (
   o 4 (.mov (.c (.int .i64 0))) <| .nil)) (
   .seq (.ops (
   m 7 0 <| o 8 (.call 407 [(.t 7)]) <| m 5 8 <| .nil)) (
   .seq (.ops (
   m 9 1 <| o 10 (.call 407 [(.t 9)]) <| m 6 10 <| .nil)) (
   .seq (.seq (.ops (
   m 11 5 <| .nil)) (
   .cond (.t 11) (.seq (.seq (.ops (
   m 12 6 <| .nil)) (
   .cond (.t 12) (.seq (.ops (
   o 4 (.mov (.c (.int .i64 0))) <| .nil)) (
   .ret)) (.skip))) (
   .seq (.ops (
   o 4 (.mov (.c (.int .i64 (-1)))) <| .nil)) (
   .ret))) (.skip))) (
   .seq (.seq (.ops (
   m 13 6 <| .nil)) (
   .cond (.t 13) (.seq (.ops (
   o 4 (.mov (.c (.int .i64 1))) <| .nil)) (
   .ret)) (.skip))) (
   .seq (.seq (.ops (
   m 14 0 <| m 15 1 <| o 16 (.cmp .lss .i64 (.t 14) (.t 15)) <| .nil)) (
   .cond (.t 16) (.seq (.ops (
   o 4 (.mov (.c (.int .i64 (-1)))) <| .nil)) (
   .ret)) (.skip))) (
   .seq (.seq (.ops (
   m 17 0 <| m 18 1 <| o 19 (.cmp .gtr .i64 (.t 17) (.t 18)) <| .nil)) (
   .cond (.t 19) (.seq (.ops (
   o 4 (.mov (.c (.int .i64 1))) <| .nil)) (
   .ret)) (.skip))) (
   .seq (.ops (
   o 4 (.mov (.c (.int .i64 0))) <| .nil)) (
   .ret))))))))

def cmp_Compare_int__hs : List (List Nat × List Nat) := []

end Wm.F
end

section
namespace Wm.F
open Wm
set_option maxRecDepth 100000

def slices_stableCmpFunc_int__c4 : ACode :=
  .seq (.seq (.ops (
   m 33 8 <| m 34 1 <| o 35 (.cmp .leq .i64 (.t 33) (.t 34)) <| .nil)) (
  .cond (.t 35) (.skip) (.exit 4))) (
  .block 5 (.seq (.ops (
   m 36 0 <| m 37 7 <| m 38 7 <| m 39 6 <| o 40 (.arith .add .i64 (.t 38) (.t 39)) <| m 41 8 <| m 42 2 <| o 43 (.call 460 [(.t 36), (.t 37), (.t 40), (.t 41), (.t 42)]) <| .nil)) (
  .seq (.ops (
   m 44 8 <| m 7 44 <| .nil)) (
  .ops (
   m 45 8 <| m 46 6 <| o 47 (.arith .mul .i64 (.c (.int .i64 2)) (.t 46)) <| o 48 (.arith .add .i64 (.t 45) (.t 47)) <| m 8 48 <| .nil)))))

def slices_stableCmpFunc_int__c3 : ACode :=
  .seq (.seq (.ops (
   m 49 7 <| m 50 6 <| o 51 (.arith .add .i64 (.t 49) (.t 50)) <| m 9 51 <| .nil)) (
  .seq (.ops (
   m 52 9 <| m 53 1 <| o 54 (.cmp .lss .i64 (.t 52) (.t 53)) <| .nil)) (
  .cond (.t 54) (.ops (
   m 55 0 <| m 56 7 <| m 57 9 <| m 58 1 <| m 59 2 <| o 60 (.call 460 [(.t 55), (.t 56), (.t 57), (.t 58), (.t 59)]) <| .nil)) (.skip)))) (
  .ops (
   m 61 6 <| o 62 (.arith .mul .i64 (.t 61) (.c (.int .i64 2))) <| m 6 62 <| .nil))

def slices_stableCmpFunc_int__c2 : ACode :=
  .seq (.seq (.ops (
   m 28 6 <| m 29 1 <| o 30 (.cmp .lss .i64 (.t 28) (.t 29)) <| .nil)) (
  .cond (.t 30) (.skip) (.exit 2))) (
  .block 3 (.seq (.ops (
   m 31 6 <| o 32 (.arith .mul .i64 (.c (.int .i64 2)) (.t 31)) <| o 7 (.mov (.c (.int .i64 0))) <| m 8 32 <| .nil)) (
  .seq (.block 4 (.loop [0, 1, 2, 6, 7, 8] [0, 1, 2, 6, 7] (slices_stableCmpFunc_int__c4))) (
  slices_stableCmpFunc_int__c3))))

def slices_stableCmpFunc_int__c1 : ACode :=
  .seq (.seq (.ops (
   m 11 8 <| m 12 1 <| o 13 (.cmp .leq .i64 (.t 11) (.t 12)) <| .nil)) (
  .cond (.t 13) (.skip) (.exit 0))) (
  .block 1 (.seq (.ops (
   m 14 0 <| m 15 7 <| m 16 8 <| m 17 2 <| o 18 (.call 450 [(.t 14), (.t 15), (.t 16), (.t 17)]) <| .nil)) (
  .seq (.ops (
   m 19 8 <| m 7 19 <| .nil)) (
  .ops (
   m 20 8 <| m 21 6 <| o 22 (.arith .add .i64 (.t 20) (.t 21)) <| m 8 22 <| .nil)))))

def slices_stableCmpFunc_int__c0 : ACode :=
  .seq (.ops (
   m 23 0 <| m 24 7 <| m 25 1 <| m 26 2 <| o 27 (.call 450 [(.t 23), (.t 24), (.t 25), (.t 26)]) <| .nil)) (
  .block 2 (.loop [0, 1, 2, 6] [] (slices_stableCmpFunc_int__c2)))

def slices_stableCmpFunc_int_ : AFunc where
  closed := false
  nparams := 3
  ntmps := 63
  results := []
  body := .seq (.ops (
   o 6 (.mov (.c (.int .i64 20))) <| .nil)) (
   .seq (.ops (
   m 10 6 <| o 7 (.mov (.c (.int .i64 0))) <| m 8 10 <| .nil)) (
   .seq (.block 0 (.loop [0, 1, 2, 6, 7, 8] [0, 1, 2, 6, 7] (slices_stableCmpFunc_int__c1))) (
   slices_stableCmpFunc_int__c0)))

def slices_stableCmpFunc_int__hs : List (List Nat × List Nat) := [([0, 1, 2, 6, 7, 8], [0, 1, 2, 6, 7]), ([0, 1, 2, 6], []), ([0, 1, 2, 6, 7, 8], [0, 1, 2, 6, 7])]

end Wm.F
end

section
namespace Wm.F
open Wm
set_option maxRecDepth 100000

def cmp_Or_int__c1 : ACode :=
  .seq (.ops (
   o 9 (.cmp .lss .i64 (.t 8) (.t 7)) <| .nil)) (
  .seq (.cond (.t 9) (.skip) (.exit 0)) (
  .seq (.block 1 (.seq (.ops (
   o 10 (.indexA 1 (.t 6) (.t 8)) <| l 11 10 <| m 5 11 <| .nil)) (
  .seq (.ops (
   m 12 5 <| m 13 3 <| o 14 (.cmp .neq .i64 (.t 12) (.t 13)) <| .nil)) (
  .cond (.t 14) (.seq (.ops (
   m 15 5 <| m 2 15 <| .nil)) (
   .ret)) (.skip))))) (
  .ops (
   o 16 (.arith .add .i64 (.t 8) (.c (.int .i64 1))) <| m 8 16 <| .nil))))

def cmp_Or_int__c0 : ACode :=
  .seq (.ops (
   m 17 3 <| m 2 17 <| .nil)) (
  .ret)

def cmp_Or_int_ : AFunc where
  closed := false
  nparams := 1
  ntmps := 18
  results := [.tmp 2]
  body := .seq (.ops (
   o 2 (.mov (.c (.int .i64 0))) <| .nil)) (
   .seq (.ops (
   o 3 (.mov (.c (.int .i64 0))) <| .nil)) (
   .seq (.seq (.ops (
   m 6 0 <| o 7 (.lenSl (.t 6)) <| o 8 (.mov (.c (.int .i64 0))) <| .nil)) (
   .block 0 (.loop [3, 6, 7, 8] [2, 3] (cmp_Or_int__c1)))) (
   cmp_Or_int__c0)))

def cmp_Or_int__hs : List (List Nat × List Nat) := [([3, 6, 7, 8], [2, 3])]

end Wm.F
end

section
namespace Wm.F
open Wm
set_option maxRecDepth 100000

def hist_behind : AFunc where
  closed := true
  nparams := 1
  ntmps := 5
  results := [.tmp 2]
  body := .seq (.ops (
   o 1 (.box (.t 0)) <| o 2 (.mov (.c (.int .i64 0))) <| .nil)) (
   .seq (.seq (.ops (
   d 3 5 1 <| l 4 3 <| .nil)) (
   .cond (.t 4) (.seq (.ops (
   o 2 (.mov (.c (.int .i64 1))) <| .nil)) (
   .ret)) (.skip))) (
   .seq (.ops (
   o 2 (.mov (.c (.int .i64 0))) <| .nil)) (
   .ret)))

def hist_behind_hs : List (List Nat × List Nat) := []

end Wm.F
end

section
namespace Wm.F
open Wm
set_option maxRecDepth 100000

def slices_Index___int_int__c1 : ACode :=
  .seq (.ops (
   o 9 (.cmp .lss .i64 (.t 8) (.t 7)) <| .nil)) (
  .seq (.cond (.t 9) (.skip) (.exit 0)) (
  .seq (.block 1 (.seq (.ops (
   m 10 8 <| m 5 10 <| .nil)) (
  .seq (.ops (
   m 11 1 <| m 12 0 <| m 13 5 <| o 14 (.indexA 1 (.t 12) (.t 13)) <| l 15 14 <| o 16 (.cmp .eql .i64 (.t 11) (.t 15)) <| .nil)) (
  .cond (.t 16) (.seq (.ops (
   m 17 5 <| m 4 17 <| .nil)) (
   .ret)) (.skip))))) (
  .ops (
   o 18 (.arith .add .i64 (.t 8) (.c (.int .i64 1))) <| m 8 18 <| .nil))))

def slices_Index___int_int__c0 : ACode :=
  .seq (.ops (
   o 4 (.mov (.c (.int .i64 (-1)))) <| .nil)) (
  .ret)

def slices_Index___int_int_ : AFunc where
  closed := false
  nparams := 2
  ntmps := 19
  results := [.tmp 4]
  body := .seq (.ops (
   o 4 (.mov (.c (.int .i64 0))) <| .nil)) (
   .seq (.seq (.ops (
   m 6 0 <| o 7 (.lenSl (.t 6)) <| o 8 (.mov (.c (.int .i64 0))) <| .nil)) (
   .block 0 (.loop [0, 1, 7, 8] [4] (slices_Index___int_int__c1)))) (
   slices_Index___int_int__c0))

def slices_Index___int_int__hs : List (List Nat × List Nat) := [([0, 1, 7, 8], [4])]

end Wm.F
end

section
namespace Wm.F
open Wm
set_option maxRecDepth 100000

def math_bits_Mul : AFunc where
  closed := true
  nparams := 2
  ntmps := 30
  results := [.tmp 4, .tmp 5]
  body := .seq (.ops (
   o 4 (.mov (.c (.int .u64 0))) <| o 5 (.mov (.c (.int .u64 0))) <| .nil)) (
   .seq (.cond (.c (.bool false)) (.seq (.ops (
   m 11 0 <| o 12 (.conv .u32 (.t 11)) <| m 13 1 <| o 14 (.conv .u32 (.t 13)) <| o 15 (.call 485 [(.t 12), (.t 14)]) <| m 10 15 <| o 16 (.extract (.t 10) 0) <|
   o 17 (.extract (.t 10) 1) <| m 6 16 <| m 7 17 <| .nil)) (
   .seq (.ops (
   m 18 6 <| o 19 (.conv .u64 (.t 18)) <| m 20 7 <| o 21 (.conv .u64 (.t 20)) <| m 4 19 <| m 5 21 <| .nil)) (
   .ret))) (.skip)) (
   .seq (.ops (
   m 23 0 <| m 24 1 <| o 25 (.call 486 [(.t 23), (.t 24)]) <| m 22 25 <| o 26 (.extract (.t 22) 0) <| o 27 (.extract (.t 22) 1) <| m 8 26 <| m 9 27 <| .nil)) (
   .seq (.ops (
   m 28 8 <| m 29 9 <| m 4 28 <| m 5 29 <| .nil)) (
   .ret))))

def math_bits_Mul_hs : List (List Nat × List Nat) := []

end Wm.F
end

section
namespace Wm.F
open Wm
set_option maxRecDepth 100000

def slices_insertionSortCmpFunc_int__c2 : ACode :=
  .seq (.seq (.ops (
   m 18 9 <| m 19 1 <| o 20 (.cmp .gtr .i64 (.t 18) (.t 19)) <| m 21 20 <| .grd 21 true [i 22 (.mov (.t 3)),
   i 23 (.mov (.t 0)),
   i 24 (.mov (.t 9)),
   i 25 (.indexA 1 (.t 23) (.t 24)),
   i 26 (.load1 (.t 25)),
   i 27 (.mov (.t 0)),
   i 28 (.mov (.t 9)),
   i 29 (.arith .sub .i64 (.t 28) (.c (.int .i64 1))),
   i 30 (.indexA 1 (.t 27) (.t 29)),
   i 31 (.load1 (.t 30)),
   i 32 (.callv (.t 22) [(.t 26), (.t 31)]),
   i 33 (.cmp .lss .i64 (.t 32) (.c (.int .i64 0)))] <| o 34 (.pick (.t 21) (.t 33) (.c (.bool false))) <| .nil)) (
  .cond (.t 34) (.skip) (.exit 2))) (
  .seq (.block 3 (.ops (
   m 37 0 <| m 38 9 <| m 39 0 <| m 40 9 <| o 41 (.arith .sub .i64 (.t 40) (.c (.int .i64 1))) <| m 42 0 <| m 43 9 <| o 44 (.arith .sub .i64 (.t 43) (.c (.int .i64 1))) <|
   o 45 (.indexA 1 (.t 42) (.t 44)) <| l 46 45 <| m 47 0 <| m 48 9 <| o 49 (.indexA 1 (.t 47) (.t 48)) <| l 50 49 <| o 51 (.indexA 1 (.t 37) (.t 38)) <|
   u (.store 1 (.t 51) (.t 46)) <| o 52 (.indexA 1 (.t 39) (.t 41)) <| u (.store 1 (.t 52) (.t 50)) <| .nil))) (
  .ops (
   m 35 9 <| o 36 (.arith .sub .i64 (.t 35) (.c (.int .i64 1))) <| m 9 36 <| .nil)))

def slices_insertionSortCmpFunc_int__c1 : ACode :=
  .ops (
   m 15 8 <| o 16 (.arith .add .i64 (.t 15) (.c (.int .i64 1))) <| m 8 16 <| .nil)

def slices_insertionSortCmpFunc_int__c0 : ACode :=
  .seq (.seq (.ops (
   m 12 8 <| m 13 2 <| o 14 (.cmp .lss .i64 (.t 12) (.t 13)) <| .nil)) (
  .cond (.t 14) (.skip) (.exit 0))) (
  .seq (.block 1 (.seq (.ops (
   m 17 8 <| m 9 17 <| .nil)) (
  .block 2 (.loop [0, 1, 2, 3, 8, 9] [0, 1, 2, 3, 8] (slices_insertionSortCmpFunc_int__c2))))) (
  slices_insertionSortCmpFunc_int__c1))

def slices_insertionSortCmpFunc_int_ : AFunc where
  closed := false
  nparams := 4
  ntmps := 53
  results := []
  body := .seq (.ops (
   m 10 1 <| o 11 (.arith .add .i64 (.t 10) (.c (.int .i64 1))) <| m 8 11 <| .nil)) (
   .block 0 (.loop [0, 1, 2, 3, 8] [] (slices_insertionSortCmpFunc_int__c0)))

def slices_insertionSortCmpFunc_int__hs : List (List Nat × List Nat) := [([0, 1, 2, 3, 8], []), ([0, 1, 2, 3, 8, 9], [0, 1, 2, 3, 8])]

end Wm.F
end

section
namespace Wm.F
open Wm
set_option maxRecDepth 100000

def slices_heapSortCmpFunc_int__c2 : ACode :=
  .seq (.seq (.ops (
   m 32 12 <| o 33 (.cmp .geq .i64 (.t 32) (.c (.int .i64 0))) <| .nil)) (
  .cond (.t 33) (.skip) (.exit 2))) (
  .seq (.block 3 (.seq (.ops (
   m 36 0 <| m 37 8 <| m 38 0 <| m 39 8 <| m 40 12 <| o 41 (.arith .add .i64 (.t 39) (.t 40)) <| m 42 0 <| m 43 8 <| m 44 12 <| o 45 (.arith .add .i64 (.t 43) (.t 44)) <|
   o 46 (.indexA 1 (.t 42) (.t 45)) <| l 47 46 <| m 48 0 <| m 49 8 <| o 50 (.indexA 1 (.t 48) (.t 49)) <| l 51 50 <| o 52 (.indexA 1 (.t 36) (.t 37)) <|
   u (.store 1 (.t 52) (.t 47)) <| o 53 (.indexA 1 (.t 38) (.t 41)) <| u (.store 1 (.t 53) (.t 51)) <| .nil)) (
  .ops (
   m 54 0 <| m 55 9 <| m 56 12 <| m 57 8 <| m 58 3 <| o 59 (.call 487 [(.t 54), (.t 55), (.t 56), (.t 57), (.t 58)]) <| .nil)))) (
  .ops (
   m 34 12 <| o 35 (.arith .sub .i64 (.t 34) (.c (.int .i64 1))) <| m 12 35 <| .nil)))

def slices_heapSortCmpFunc_int__c1 : ACode :=
  .seq (.seq (.ops (
   m 20 11 <| o 21 (.cmp .geq .i64 (.t 20) (.c (.int .i64 0))) <| .nil)) (
  .cond (.t 21) (.skip) (.exit 0))) (
  .seq (.block 1 (.ops (
   m 24 0 <| m 25 11 <| m 26 10 <| m 27 8 <| m 28 3 <| o 29 (.call 487 [(.t 24), (.t 25), (.t 26), (.t 27), (.t 28)]) <| .nil))) (
  .ops (
   m 22 11 <| o 23 (.arith .sub .i64 (.t 22) (.c (.int .i64 1))) <| m 11 23 <| .nil)))

def slices_heapSortCmpFunc_int__c0 : ACode :=
  .seq (.ops (
   m 30 10 <| o 31 (.arith .sub .i64 (.t 30) (.c (.int .i64 1))) <| m 12 31 <| .nil)) (
  .block 2 (.loop [0, 3, 8, 9, 12] [] (slices_heapSortCmpFunc_int__c2)))

def slices_heapSortCmpFunc_int_ : AFunc where
  closed := false
  nparams := 4
  ntmps := 60
  results := []
  body := .seq (.ops (
   m 13 1 <| m 8 13 <| .nil)) (
   .seq (.ops (
   o 9 (.mov (.c (.int .i64 0))) <| .nil)) (
   .seq (.ops (
   m 14 2 <| m 15 1 <| o 16 (.arith .sub .i64 (.t 14) (.t 15)) <| m 10 16 <| .nil)) (
   .seq (.seq (.ops (
   m 17 10 <| o 18 (.arith .sub .i64 (.t 17) (.c (.int .i64 1))) <| o 19 (.arith .quo .i64 (.t 18) (.c (.int .i64 2))) <| m 11 19 <| .nil)) (
   .block 0 (.loop [0, 3, 8, 9, 10, 11] [0, 3, 8, 9, 10] (slices_heapSortCmpFunc_int__c1)))) (
   slices_heapSortCmpFunc_int__c0))))

def slices_heapSortCmpFunc_int__hs : List (List Nat × List Nat) := [([0, 3, 8, 9, 10, 11], [0, 3, 8, 9, 10]), ([0, 3, 8, 9, 12], [])]

end Wm.F
end

section
namespace Wm.F
open Wm
set_option maxRecDepth 100000

def slices_breakPatternsCmpFunc_int__c8 : ACode :=
  .seq (.ops (
   m 43 12 <| m 44 8 <| o 45 (.cmp .geq .i64 (.t 43) (.t 44)) <| .nil)) (
  .cond (.t 45) (.ops (
   m 46 12 <| m 47 8 <| o 48 (.arith .sub .i64 (.t 46) (.t 47)) <| m 12 48 <| .nil)) (.skip))

def slices_breakPatternsCmpFunc_int__c7 : ACode :=
  .ops (
   m 49 0 <| m 50 11 <| m 51 0 <| m 52 1 <| m 53 12 <| o 54 (.arith .add .i64 (.t 52) (.t 53)) <| m 55 0 <| m 56 1 <| m 57 12 <| o 58 (.arith .add .i64 (.t 56) (.t 57)) <|
   o 59 (.indexA 1 (.t 55) (.t 58)) <| l 60 59 <| m 61 0 <| m 62 11 <| o 63 (.indexA 1 (.t 61) (.t 62)) <| l 64 63 <| o 65 (.indexA 1 (.t 49) (.t 50)) <|
   u (.store 1 (.t 65) (.t 60)) <| o 66 (.indexA 1 (.t 51) (.t 54)) <| u (.store 1 (.t 66) (.t 64)) <| .nil)

def slices_breakPatternsCmpFunc_int__c6 : ACode :=
  .ops (
   o 38 (.call 489 [(.t 9)]) <| m 39 10 <| o 40 (.arith .sub .u64 (.t 39) (.c (.int .u64 1))) <| o 41 (.arith .and .u64 (.t 38) (.t 40)) <| o 42 (.conv .i64 (.t 41)) <| m 12 42 <|
   .nil)

def slices_breakPatternsCmpFunc_int__c5 : ACode :=
  .seq (.join [0, 1, 8, 9, 10, 11, 12] [0, 1, 8, 9, 10, 11, 12] (slices_breakPatternsCmpFunc_int__c8)) (
  slices_breakPatternsCmpFunc_int__c7)

def slices_breakPatternsCmpFunc_int__c4 : ACode :=
  .ops (
   m 36 11 <| o 37 (.arith .add .i64 (.t 36) (.c (.int .i64 1))) <| m 11 37 <| .nil)

def slices_breakPatternsCmpFunc_int__c3 : ACode :=
  .ops (
   m 28 11 <| m 29 1 <| m 30 8 <| o 31 (.arith .quo .i64 (.t 30) (.c (.int .i64 4))) <| o 32 (.arith .mul .i64 (.t 31) (.c (.int .i64 2))) <|
   o 33 (.arith .add .i64 (.t 29) (.t 32)) <| o 34 (.arith .add .i64 (.t 33) (.c (.int .i64 1))) <| o 35 (.cmp .leq .i64 (.t 28) (.t 34)) <| .nil)

def slices_breakPatternsCmpFunc_int__c2 : ACode :=
  .cond (.t 35) (.skip) (.exit 0)

def slices_breakPatternsCmpFunc_int__c1 : ACode :=
  .seq (.block 1 (.seq (.join [0, 1, 8, 9, 10, 11] [0, 1, 8, 9, 10, 11, 12] (slices_breakPatternsCmpFunc_int__c6)) (
  slices_breakPatternsCmpFunc_int__c5))) (
  slices_breakPatternsCmpFunc_int__c4)

def slices_breakPatternsCmpFunc_int__c0 : ACode :=
  .seq (.seq (.join [0, 1, 8, 9, 10, 11] [0, 1, 8, 9, 10, 11, 35] (slices_breakPatternsCmpFunc_int__c3)) (
  slices_breakPatternsCmpFunc_int__c2)) (
  slices_breakPatternsCmpFunc_int__c1)

def slices_breakPatternsCmpFunc_int_ : AFunc where
  closed := false
  nparams := 4
  ntmps := 67
  results := []
  body := .seq (.ops (
   m 13 2 <| m 14 1 <| o 15 (.arith .sub .i64 (.t 13) (.t 14)) <| m 8 15 <| .nil)) (
   .seq (.ops (
   m 16 8 <| o 17 (.cmp .geq .i64 (.t 16) (.c (.int .i64 8))) <| .nil)) (
   .cond (.t 17) (.seq (.ops (
   m 18 8 <| o 19 (.conv .u64 (.t 18)) <| o 9 (.alloc [(.int .u64 0)]) <| u (.store 1 (.t 9) (.t 19)) <| .nil)) (
   .seq (.ops (
   m 20 8 <| o 21 (.call 488 [(.t 20)]) <| m 10 21 <| .nil)) (
   .seq (.ops (
   m 22 1 <| m 23 8 <| o 24 (.arith .quo .i64 (.t 23) (.c (.int .i64 4))) <| o 25 (.arith .mul .i64 (.t 24) (.c (.int .i64 2))) <| o 26 (.arith .add .i64 (.t 22) (.t 25)) <|
   o 27 (.arith .sub .i64 (.t 26) (.c (.int .i64 1))) <| m 11 27 <| .nil)) (
   .block 0 (.loop [0, 1, 8, 9, 10, 11] [] (slices_breakPatternsCmpFunc_int__c0)))))) (.skip)))

def slices_breakPatternsCmpFunc_int__hs : List (List Nat × List Nat) := [([0, 1, 8, 9, 10, 11], []), ([1000001, 0, 1, 8, 9, 10, 11], [0, 1, 8, 9, 10, 11, 35]), ([1000001, 0, 1, 8, 9, 10, 11], [0, 1, 8, 9, 10, 11, 12]), ([1000000, 0, 1, 8, 9, 10, 11, 12], [0, 1, 8, 9, 10, 11, 12])]

end Wm.F
end

section
namespace Wm.F
open Wm
set_option maxRecDepth 100000

def slices_choosePivotCmpFunc_int_ : AFunc where
  closed := false
  nparams := 4
  ntmps := 63
  results := [.tmp 8, .tmp 9]
  body := .seq (.ops (
   o 8 (.mov (.c (.int .i64 0))) <| o 9 (.mov (.c (.int .i64 0))) <| .nil)) (
   .seq (.ops (
   m 15 2 <| m 16 1 <| o 17 (.arith .sub .i64 (.t 15) (.t 16)) <| m 10 17 <| .nil)) (
   .seq (.ops (
   o 11 (.alloc [(.int .i64 0)]) <| .nil)) (
   .seq (.ops (
   m 18 1 <| m 19 10 <| o 20 (.arith .quo .i64 (.t 19) (.c (.int .i64 4))) <| o 21 (.arith .mul .i64 (.t 20) (.c (.int .i64 1))) <| o 22 (.arith .add .i64 (.t 18) (.t 21)) <|
   m 12 22 <| .nil)) (
   .seq (.ops (
   m 23 1 <| m 24 10 <| o 25 (.arith .quo .i64 (.t 24) (.c (.int .i64 4))) <| o 26 (.arith .mul .i64 (.t 25) (.c (.int .i64 2))) <| o 27 (.arith .add .i64 (.t 23) (.t 26)) <|
   m 13 27 <| .nil)) (
   .seq (.ops (
   m 28 1 <| m 29 10 <| o 30 (.arith .quo .i64 (.t 29) (.c (.int .i64 4))) <| o 31 (.arith .mul .i64 (.t 30) (.c (.int .i64 3))) <| o 32 (.arith .add .i64 (.t 28) (.t 31)) <|
   m 14 32 <| .nil)) (
   .seq (.seq (.ops (
   m 33 10 <| o 34 (.cmp .geq .i64 (.t 33) (.c (.int .i64 8))) <| .nil)) (
   .cond (.t 34) (.seq (.seq (.ops (
   m 35 10 <| o 36 (.cmp .geq .i64 (.t 35) (.c (.int .i64 50))) <| .nil)) (
   .cond (.t 36) (.seq (.ops (
   m 37 0 <| m 38 12 <| m 39 3 <| o 40 (.call 490 [(.t 37), (.t 38), (.t 11), (.t 39)]) <| m 12 40 <| .nil)) (
   .seq (.ops (
   m 41 0 <| m 42 13 <| m 43 3 <| o 44 (.call 490 [(.t 41), (.t 42), (.t 11), (.t 43)]) <| m 13 44 <| .nil)) (
   .ops (
   m 45 0 <| m 46 14 <| m 47 3 <| o 48 (.call 490 [(.t 45), (.t 46), (.t 11), (.t 47)]) <| m 14 48 <| .nil)))) (.skip))) (
   .ops (
   m 49 0 <| m 50 12 <| m 51 13 <| m 52 14 <| m 53 3 <| o 54 (.call 491 [(.t 49), (.t 50), (.t 51), (.t 52), (.t 11), (.t 53)]) <| m 13 54 <| .nil))) (.skip))) (
   .seq (.ops (
   l 55 11 <| .nil)) (
   .block 0 (.seq (.ops (
   o 58 (.cmp .eql .i64 (.t 55) (.c (.int .i64 0))) <| m 57 58 <| .nil)) (
   .cond (.t 57) (.seq (.ops (
   m 59 13 <| m 8 59 <| o 9 (.mov (.c (.int .i64 1))) <| .nil)) (
   .ret)) (.seq (.ops (
   o 61 (.cmp .eql .i64 (.t 55) (.c (.int .i64 12))) <| m 60 61 <| .nil)) (
   .cond (.t 60) (.seq (.ops (
   m 62 13 <| m 8 62 <| o 9 (.mov (.c (.int .i64 2))) <| .nil)) (
   .ret)) (.seq (.ops (
   m 56 13 <| m 8 56 <| o 9 (.mov (.c (.int .i64 0))) <| .nil)) (
   .ret))))))))))))))

def slices_choosePivotCmpFunc_int__hs : List (List Nat × List Nat) := []

end Wm.F
end

section
namespace Wm.F
open Wm
set_option maxRecDepth 100000

def slices_reverseRangeCmpFunc_int__c0 : ACode :=
  .seq (.seq (.ops (
   m 13 8 <| m 14 9 <| o 15 (.cmp .lss .i64 (.t 13) (.t 14)) <| .nil)) (
  .cond (.t 15) (.skip) (.exit 0))) (
  .block 1 (.seq (.ops (
   m 16 0 <| m 17 8 <| m 18 0 <| m 19 9 <| m 20 0 <| m 21 9 <| o 22 (.indexA 1 (.t 20) (.t 21)) <| l 23 22 <| m 24 0 <| m 25 8 <| o 26 (.indexA 1 (.t 24) (.t 25)) <| l 27 26 <|
   o 28 (.indexA 1 (.t 16) (.t 17)) <| u (.store 1 (.t 28) (.t 23)) <| o 29 (.indexA 1 (.t 18) (.t 19)) <| u (.store 1 (.t 29) (.t 27)) <| .nil)) (
  .seq (.ops (
   m 30 8 <| o 31 (.arith .add .i64 (.t 30) (.c (.int .i64 1))) <| m 8 31 <| .nil)) (
  .ops (
   m 32 9 <| o 33 (.arith .sub .i64 (.t 32) (.c (.int .i64 1))) <| m 9 33 <| .nil)))))

def slices_reverseRangeCmpFunc_int_ : AFunc where
  closed := false
  nparams := 4
  ntmps := 34
  results := []
  body := .seq (.ops (
   m 10 1 <| m 8 10 <| .nil)) (
   .seq (.ops (
   m 11 2 <| o 12 (.arith .sub .i64 (.t 11) (.c (.int .i64 1))) <| m 9 12 <| .nil)) (
   .block 0 (.loop [0, 8, 9] [] (slices_reverseRangeCmpFunc_int__c0))))

def slices_reverseRangeCmpFunc_int__hs : List (List Nat × List Nat) := [([0, 8, 9], [])]

end Wm.F
end

section
namespace Wm.F
open Wm
set_option maxRecDepth 100000

def slices_partialInsertionSortCmpFunc_int__c7 : ACode :=
  .seq (.seq (.ops (
   m 107 12 <| m 108 2 <| o 109 (.cmp .lss .i64 (.t 107) (.t 108)) <| .nil)) (
  .cond (.t 109) (.skip) (.exit 6))) (
  .seq (.block 7 (.seq (.seq (.ops (
   m 112 3 <| m 113 0 <| m 114 12 <| o 115 (.indexA 1 (.t 113) (.t 114)) <| l 116 115 <| m 117 0 <| m 118 12 <| o 119 (.arith .sub .i64 (.t 118) (.c (.int .i64 1))) <|
   o 120 (.indexA 1 (.t 117) (.t 119)) <| l 121 120 <| o 122 (.callv (.t 112) [(.t 116), (.t 121)]) <| o 123 (.cmp .lss .i64 (.t 122) (.c (.int .i64 0))) <|
   o 124 (.not (.t 123)) <| .nil)) (
  .cond (.t 124) (.exit 6) (.skip))) (
  .ops (
   m 125 0 <| m 126 12 <| m 127 0 <| m 128 12 <| o 129 (.arith .sub .i64 (.t 128) (.c (.int .i64 1))) <| m 130 0 <| m 131 12 <|
   o 132 (.arith .sub .i64 (.t 131) (.c (.int .i64 1))) <| o 133 (.indexA 1 (.t 130) (.t 132)) <| l 134 133 <| m 135 0 <| m 136 12 <| o 137 (.indexA 1 (.t 135) (.t 136)) <|
   l 138 137 <| o 139 (.indexA 1 (.t 125) (.t 126)) <| u (.store 1 (.t 139) (.t 134)) <| o 140 (.indexA 1 (.t 127) (.t 129)) <| u (.store 1 (.t 140) (.t 138)) <| .nil)))) (
  .ops (
   m 110 12 <| o 111 (.arith .add .i64 (.t 110) (.c (.int .i64 1))) <| m 12 111 <| .nil)))

def slices_partialInsertionSortCmpFunc_int__c6 : ACode :=
  .seq (.seq (.ops (
   m 68 11 <| o 69 (.cmp .geq .i64 (.t 68) (.c (.int .i64 1))) <| .nil)) (
  .cond (.t 69) (.skip) (.exit 4))) (
  .seq (.block 5 (.seq (.seq (.ops (
   m 72 3 <| m 73 0 <| m 74 11 <| o 75 (.indexA 1 (.t 73) (.t 74)) <| l 76 75 <| m 77 0 <| m 78 11 <| o 79 (.arith .sub .i64 (.t 78) (.c (.int .i64 1))) <|
   o 80 (.indexA 1 (.t 77) (.t 79)) <| l 81 80 <| o 82 (.callv (.t 72) [(.t 76), (.t 81)]) <| o 83 (.cmp .lss .i64 (.t 82) (.c (.int .i64 0))) <| o 84 (.not (.t 83)) <| .nil)) (
  .cond (.t 84) (.exit 4) (.skip))) (
  .ops (
   m 85 0 <| m 86 11 <| m 87 0 <| m 88 11 <| o 89 (.arith .sub .i64 (.t 88) (.c (.int .i64 1))) <| m 90 0 <| m 91 11 <| o 92 (.arith .sub .i64 (.t 91) (.c (.int .i64 1))) <|
   o 93 (.indexA 1 (.t 90) (.t 92)) <| l 94 93 <| m 95 0 <| m 96 11 <| o 97 (.indexA 1 (.t 95) (.t 96)) <| l 98 97 <| o 99 (.indexA 1 (.t 85) (.t 86)) <|
   u (.store 1 (.t 99) (.t 94)) <| o 100 (.indexA 1 (.t 87) (.t 89)) <| u (.store 1 (.t 100) (.t 98)) <| .nil)))) (
  .ops (
   m 70 11 <| o 71 (.arith .sub .i64 (.t 70) (.c (.int .i64 1))) <| m 11 71 <| .nil)))

def slices_partialInsertionSortCmpFunc_int__c5 : ACode :=
  .seq (.ops (
   m 101 2 <| m 102 9 <| o 103 (.arith .sub .i64 (.t 101) (.t 102)) <| o 104 (.cmp .geq .i64 (.t 103) (.c (.int .i64 2))) <| .nil)) (
  .cond (.t 104) (.seq (.ops (
   m 105 9 <| o 106 (.arith .add .i64 (.t 105) (.c (.int .i64 1))) <| m 12 106 <| .nil)) (
   .block 6 (.loop [0, 1, 2, 3, 9, 10, 12] [0, 1, 2, 3, 9, 10] (slices_partialInsertionSortCmpFunc_int__c7)))) (.skip))

def slices_partialInsertionSortCmpFunc_int__c4 : ACode :=
  .seq (.seq (.ops (
   m 19 9 <| m 20 2 <| o 21 (.cmp .lss .i64 (.t 19) (.t 20)) <| m 22 21 <| .grd 22 true [i 23 (.mov (.t 3)),
   i 24 (.mov (.t 0)),
   i 25 (.mov (.t 9)),
   i 26 (.indexA 1 (.t 24) (.t 25)),
   i 27 (.load1 (.t 26)),
   i 28 (.mov (.t 0)),
   i 29 (.mov (.t 9)),
   i 30 (.arith .sub .i64 (.t 29) (.c (.int .i64 1))),
   i 31 (.indexA 1 (.t 28) (.t 30)),
   i 32 (.load1 (.t 31)),
   i 33 (.callv (.t 23) [(.t 27), (.t 32)]),
   i 34 (.cmp .lss .i64 (.t 33) (.c (.int .i64 0))),
   i 35 (.not (.t 34))] <| o 36 (.pick (.t 22) (.t 35) (.c (.bool false))) <| .nil)) (
  .cond (.t 36) (.skip) (.exit 2))) (
  .block 3 (.ops (
   m 37 9 <| o 38 (.arith .add .i64 (.t 37) (.c (.int .i64 1))) <| m 9 38 <| .nil)))

def slices_partialInsertionSortCmpFunc_int__c3 : ACode :=
  .seq (.seq (.ops (
   m 39 9 <| m 40 2 <| o 41 (.cmp .eql .i64 (.t 39) (.t 40)) <| .nil)) (
  .cond (.t 41) (.seq (.ops (
   o 8 (.mov (.c (.bool true))) <| .nil)) (
   .ret)) (.skip))) (
  .seq (.seq (.ops (
   m 42 2 <| m 43 1 <| o 44 (.arith .sub .i64 (.t 42) (.t 43)) <| o 45 (.cmp .lss .i64 (.t 44) (.c (.int .i64 50))) <| .nil)) (
  .cond (.t 45) (.seq (.ops (
   o 8 (.mov (.c (.bool false))) <| .nil)) (
   .ret)) (.skip))) (
  .seq (.ops (
   m 46 0 <| m 47 9 <| m 48 0 <| m 49 9 <| o 50 (.arith .sub .i64 (.t 49) (.c (.int .i64 1))) <| m 51 0 <| m 52 9 <| o 53 (.arith .sub .i64 (.t 52) (.c (.int .i64 1))) <|
   o 54 (.indexA 1 (.t 51) (.t 53)) <| l 55 54 <| m 56 0 <| m 57 9 <| o 58 (.indexA 1 (.t 56) (.t 57)) <| l 59 58 <| o 60 (.indexA 1 (.t 46) (.t 47)) <|
   u (.store 1 (.t 60) (.t 55)) <| o 61 (.indexA 1 (.t 48) (.t 50)) <| u (.store 1 (.t 61) (.t 59)) <| .nil)) (
  .seq (.seq (.ops (
   m 62 9 <| m 63 1 <| o 64 (.arith .sub .i64 (.t 62) (.t 63)) <| o 65 (.cmp .geq .i64 (.t 64) (.c (.int .i64 2))) <| .nil)) (
  .cond (.t 65) (.seq (.ops (
   m 66 9 <| o 67 (.arith .sub .i64 (.t 66) (.c (.int .i64 1))) <| m 11 67 <| .nil)) (
   .block 4 (.loop [0, 1, 2, 3, 9, 10, 11] [0, 1, 2, 3, 9, 10] (slices_partialInsertionSortCmpFunc_int__c6)))) (.skip))) (
  slices_partialInsertionSortCmpFunc_int__c5))))

def slices_partialInsertionSortCmpFunc_int__c2 : ACode :=
  .ops (
   m 17 10 <| o 18 (.arith .add .i64 (.t 17) (.c (.int .i64 1))) <| m 10 18 <| .nil)

def slices_partialInsertionSortCmpFunc_int__c1 : ACode :=
  .seq (.seq (.ops (
   m 15 10 <| o 16 (.cmp .lss .i64 (.t 15) (.c (.int .i64 5))) <| .nil)) (
  .cond (.t 16) (.skip) (.exit 0))) (
  .seq (.block 1 (.seq (.block 2 (.loop [0, 1, 2, 3, 9, 10] [0, 1, 2, 3, 9, 10] (slices_partialInsertionSortCmpFunc_int__c4))) (
  slices_partialInsertionSortCmpFunc_int__c3))) (
  slices_partialInsertionSortCmpFunc_int__c2))

def slices_partialInsertionSortCmpFunc_int__c0 : ACode :=
  .seq (.ops (
   o 8 (.mov (.c (.bool false))) <| .nil)) (
  .ret)

def slices_partialInsertionSortCmpFunc_int_ : AFunc where
  closed := false
  nparams := 4
  ntmps := 141
  results := [.tmp 8]
  body := .seq (.ops (
   o 8 (.mov (.c (.bool false))) <| .nil)) (
   .seq (.ops (
   m 13 1 <| o 14 (.arith .add .i64 (.t 13) (.c (.int .i64 1))) <| m 9 14 <| .nil)) (
   .seq (.seq (.ops (
   o 10 (.mov (.c (.int .i64 0))) <| .nil)) (
   .block 0 (.loop [0, 1, 2, 3, 9, 10] [8] (slices_partialInsertionSortCmpFunc_int__c1)))) (
   slices_partialInsertionSortCmpFunc_int__c0)))

def slices_partialInsertionSortCmpFunc_int__hs : List (List Nat × List Nat) := [([0, 1, 2, 3, 9, 10], [8]), ([0, 1, 2, 3, 9, 10], [0, 1, 2, 3, 9, 10]), ([0, 1, 2, 3, 9, 10, 11], [0, 1, 2, 3, 9, 10]), ([0, 1, 2, 3, 9, 10, 12], [0, 1, 2, 3, 9, 10])]

end Wm.F
end

section
namespace Wm.F
open Wm
set_option maxRecDepth 100000

def slices_partitionEqualCmpFunc_int__c5 : ACode :=
  .seq (.seq (.ops (
   m 50 11 <| m 51 12 <| o 52 (.cmp .leq .i64 (.t 50) (.t 51)) <| m 53 52 <| .grd 53 true [i 54 (.mov (.t 4)),
   i 55 (.mov (.t 0)),
   i 56 (.mov (.t 1)),
   i 57 (.indexA 1 (.t 55) (.t 56)),
   i 58 (.load1 (.t 57)),
   i 59 (.mov (.t 0)),
   i 60 (.mov (.t 12)),
   i 61 (.indexA 1 (.t 59) (.t 60)),
   i 62 (.load1 (.t 61)),
   i 63 (.callv (.t 54) [(.t 58), (.t 62)]),
   i 64 (.cmp .lss .i64 (.t 63) (.c (.int .i64 0)))] <| o 65 (.pick (.t 53) (.t 64) (.c (.bool false))) <| .nil)) (
  .cond (.t 65) (.skip) (.exit 4))) (
  .block 5 (.ops (
   m 66 12 <| o 67 (.arith .sub .i64 (.t 66) (.c (.int .i64 1))) <| m 12 67 <| .nil)))

def slices_partitionEqualCmpFunc_int__c4 : ACode :=
  .seq (.seq (.ops (
   m 68 11 <| m 69 12 <| o 70 (.cmp .gtr .i64 (.t 68) (.t 69)) <| .nil)) (
  .cond (.t 70) (.exit 0) (.skip))) (
  .seq (.ops (
   m 71 0 <| m 72 11 <| m 73 0 <| m 74 12 <| m 75 0 <| m 76 12 <| o 77 (.indexA 1 (.t 75) (.t 76)) <| l 78 77 <| m 79 0 <| m 80 11 <| o 81 (.indexA 1 (.t 79) (.t 80)) <|
   l 82 81 <| o 83 (.indexA 1 (.t 71) (.t 72)) <| u (.store 1 (.t 83) (.t 78)) <| o 84 (.indexA 1 (.t 73) (.t 74)) <| u (.store 1 (.t 84) (.t 82)) <| .nil)) (
  .seq (.ops (
   m 85 11 <| o 86 (.arith .add .i64 (.t 85) (.c (.int .i64 1))) <| m 11 86 <| .nil)) (
  .ops (
   m 87 12 <| o 88 (.arith .sub .i64 (.t 87) (.c (.int .i64 1))) <| m 12 88 <| .nil))))

def slices_partitionEqualCmpFunc_int__c3 : ACode :=
  .seq (.seq (.ops (
   m 31 11 <| m 32 12 <| o 33 (.cmp .leq .i64 (.t 31) (.t 32)) <| m 34 33 <| .grd 34 true [i 35 (.mov (.t 4)),
   i 36 (.mov (.t 0)),
   i 37 (.mov (.t 1)),
   i 38 (.indexA 1 (.t 36) (.t 37)),
   i 39 (.load1 (.t 38)),
   i 40 (.mov (.t 0)),
   i 41 (.mov (.t 11)),
   i 42 (.indexA 1 (.t 40) (.t 41)),
   i 43 (.load1 (.t 42)),
   i 44 (.callv (.t 35) [(.t 39), (.t 43)]),
   i 45 (.cmp .lss .i64 (.t 44) (.c (.int .i64 0))),
   i 46 (.not (.t 45))] <| o 47 (.pick (.t 34) (.t 46) (.c (.bool false))) <| .nil)) (
  .cond (.t 47) (.skip) (.exit 2))) (
  .block 3 (.ops (
   m 48 11 <| o 49 (.arith .add .i64 (.t 48) (.c (.int .i64 1))) <| m 11 49 <| .nil)))

def slices_partitionEqualCmpFunc_int__c2 : ACode :=
  .seq (.block 4 (.loop [0, 1, 4, 11, 12] [0, 1, 4, 11, 12] (slices_partitionEqualCmpFunc_int__c5))) (
  slices_partitionEqualCmpFunc_int__c4)

def slices_partitionEqualCmpFunc_int__c1 : ACode :=
  .block 1 (.seq (.block 2 (.loop [0, 1, 4, 11, 12] [0, 1, 4, 11, 12] (slices_partitionEqualCmpFunc_int__c3))) (
  slices_partitionEqualCmpFunc_int__c2))

def slices_partitionEqualCmpFunc_int__c0 : ACode :=
  .seq (.ops (
   m 89 11 <| m 10 89 <| .nil)) (
  .ret)

def slices_partitionEqualCmpFunc_int_ : AFunc where
  closed := false
  nparams := 5
  ntmps := 90
  results := [.tmp 10]
  body := .seq (.ops (
   o 10 (.mov (.c (.int .i64 0))) <| .nil)) (
   .seq (.ops (
   m 13 0 <| m 14 1 <| m 15 0 <| m 16 3 <| m 17 0 <| m 18 3 <| o 19 (.indexA 1 (.t 17) (.t 18)) <| l 20 19 <| m 21 0 <| m 22 1 <| o 23 (.indexA 1 (.t 21) (.t 22)) <| l 24 23 <|
   o 25 (.indexA 1 (.t 13) (.t 14)) <| u (.store 1 (.t 25) (.t 20)) <| o 26 (.indexA 1 (.t 15) (.t 16)) <| u (.store 1 (.t 26) (.t 24)) <| .nil)) (
   .seq (.ops (
   m 27 1 <| o 28 (.arith .add .i64 (.t 27) (.c (.int .i64 1))) <| m 29 2 <| o 30 (.arith .sub .i64 (.t 29) (.c (.int .i64 1))) <| m 11 28 <| m 12 30 <| .nil)) (
   .seq (.block 0 (.loop [0, 1, 4, 11, 12] [11] (slices_partitionEqualCmpFunc_int__c1))) (
   slices_partitionEqualCmpFunc_int__c0))))

def slices_partitionEqualCmpFunc_int__hs : List (List Nat × List Nat) := [([0, 1, 4, 11, 12], [11]), ([0, 1, 4, 11, 12], [0, 1, 4, 11, 12]), ([0, 1, 4, 11, 12], [0, 1, 4, 11, 12])]

end Wm.F
end

section
namespace Wm.F
open Wm
set_option maxRecDepth 100000

def slices_partitionCmpFunc_int__c9 : ACode :=
  .seq (.seq (.ops (
   m 123 12 <| m 124 13 <| o 125 (.cmp .leq .i64 (.t 123) (.t 124)) <| m 126 125 <| .grd 126 true [i 127 (.mov (.t 4)),
   i 128 (.mov (.t 0)),
   i 129 (.mov (.t 13)),
   i 130 (.indexA 1 (.t 128) (.t 129)),
   i 131 (.load1 (.t 130)),
   i 132 (.mov (.t 0)),
   i 133 (.mov (.t 1)),
   i 134 (.indexA 1 (.t 132) (.t 133)),
   i 135 (.load1 (.t 134)),
   i 136 (.callv (.t 127) [(.t 131), (.t 135)]),
   i 137 (.cmp .lss .i64 (.t 136) (.c (.int .i64 0))),
   i 138 (.not (.t 137))] <| o 139 (.pick (.t 126) (.t 138) (.c (.bool false))) <| .nil)) (
  .cond (.t 139) (.skip) (.exit 8))) (
  .block 9 (.ops (
   m 140 13 <| o 141 (.arith .sub .i64 (.t 140) (.c (.int .i64 1))) <| m 13 141 <| .nil)))

def slices_partitionCmpFunc_int__c8 : ACode :=
  .seq (.seq (.ops (
   m 142 12 <| m 143 13 <| o 144 (.cmp .gtr .i64 (.t 142) (.t 143)) <| .nil)) (
  .cond (.t 144) (.exit 4) (.skip))) (
  .seq (.ops (
   m 145 0 <| m 146 12 <| m 147 0 <| m 148 13 <| m 149 0 <| m 150 13 <| o 151 (.indexA 1 (.t 149) (.t 150)) <| l 152 151 <| m 153 0 <| m 154 12 <|
   o 155 (.indexA 1 (.t 153) (.t 154)) <| l 156 155 <| o 157 (.indexA 1 (.t 145) (.t 146)) <| u (.store 1 (.t 157) (.t 152)) <| o 158 (.indexA 1 (.t 147) (.t 148)) <|
   u (.store 1 (.t 158) (.t 156)) <| .nil)) (
  .seq (.ops (
   m 159 12 <| o 160 (.arith .add .i64 (.t 159) (.c (.int .i64 1))) <| m 12 160 <| .nil)) (
  .ops (
   m 161 13 <| o 162 (.arith .sub .i64 (.t 161) (.c (.int .i64 1))) <| m 13 162 <| .nil))))

def slices_partitionCmpFunc_int__c7 : ACode :=
  .seq (.seq (.ops (
   m 105 12 <| m 106 13 <| o 107 (.cmp .leq .i64 (.t 105) (.t 106)) <| m 108 107 <| .grd 108 true [i 109 (.mov (.t 4)),
   i 110 (.mov (.t 0)),
   i 111 (.mov (.t 12)),
   i 112 (.indexA 1 (.t 110) (.t 111)),
   i 113 (.load1 (.t 112)),
   i 114 (.mov (.t 0)),
   i 115 (.mov (.t 1)),
   i 116 (.indexA 1 (.t 114) (.t 115)),
   i 117 (.load1 (.t 116)),
   i 118 (.callv (.t 109) [(.t 113), (.t 117)]),
   i 119 (.cmp .lss .i64 (.t 118) (.c (.int .i64 0)))] <| o 120 (.pick (.t 108) (.t 119) (.c (.bool false))) <| .nil)) (
  .cond (.t 120) (.skip) (.exit 6))) (
  .block 7 (.ops (
   m 121 12 <| o 122 (.arith .add .i64 (.t 121) (.c (.int .i64 1))) <| m 12 122 <| .nil)))

def slices_partitionCmpFunc_int__c6 : ACode :=
  .seq (.block 8 (.loop [0, 1, 4, 12, 13] [0, 1, 4, 12, 13] (slices_partitionCmpFunc_int__c9))) (
  slices_partitionCmpFunc_int__c8)

def slices_partitionCmpFunc_int__c5 : ACode :=
  .block 5 (.seq (.block 6 (.loop [0, 1, 4, 12, 13] [0, 1, 4, 12, 13] (slices_partitionCmpFunc_int__c7))) (
  slices_partitionCmpFunc_int__c6))

def slices_partitionCmpFunc_int__c4 : ACode :=
  .seq (.ops (
   m 163 0 <| m 164 13 <| m 165 0 <| m 166 1 <| m 167 0 <| m 168 1 <| o 169 (.indexA 1 (.t 167) (.t 168)) <| l 170 169 <| m 171 0 <| m 172 13 <|
   o 173 (.indexA 1 (.t 171) (.t 172)) <| l 174 173 <| o 175 (.indexA 1 (.t 163) (.t 164)) <| u (.store 1 (.t 175) (.t 170)) <| o 176 (.indexA 1 (.t 165) (.t 166)) <|
   u (.store 1 (.t 176) (.t 174)) <| .nil)) (
  .seq (.ops (
   m 177 13 <| m 10 177 <| o 11 (.mov (.c (.bool false))) <| .nil)) (
  .ret))

def slices_partitionCmpFunc_int__c3 : ACode :=
  .seq (.seq (.ops (
   m 50 12 <| m 51 13 <| o 52 (.cmp .leq .i64 (.t 50) (.t 51)) <| m 53 52 <| .grd 53 true [i 54 (.mov (.t 4)),
   i 55 (.mov (.t 0)),
   i 56 (.mov (.t 13)),
   i 57 (.indexA 1 (.t 55) (.t 56)),
   i 58 (.load1 (.t 57)),
   i 59 (.mov (.t 0)),
   i 60 (.mov (.t 1)),
   i 61 (.indexA 1 (.t 59) (.t 60)),
   i 62 (.load1 (.t 61)),
   i 63 (.callv (.t 54) [(.t 58), (.t 62)]),
   i 64 (.cmp .lss .i64 (.t 63) (.c (.int .i64 0))),
   i 65 (.not (.t 64))] <| o 66 (.pick (.t 53) (.t 65) (.c (.bool false))) <| .nil)) (
  .cond (.t 66) (.skip) (.exit 2))) (
  .block 3 (.ops (
   m 67 13 <| o 68 (.arith .sub .i64 (.t 67) (.c (.int .i64 1))) <| m 13 68 <| .nil)))

def slices_partitionCmpFunc_int__c2 : ACode :=
  .seq (.seq (.ops (
   m 69 12 <| m 70 13 <| o 71 (.cmp .gtr .i64 (.t 69) (.t 70)) <| .nil)) (
  .cond (.t 71) (.seq (.ops (
   m 72 0 <| m 73 13 <| m 74 0 <| m 75 1 <| m 76 0 <| m 77 1 <| o 78 (.indexA 1 (.t 76) (.t 77)) <| l 79 78 <| m 80 0 <| m 81 13 <| o 82 (.indexA 1 (.t 80) (.t 81)) <| l 83 82 <|
   o 84 (.indexA 1 (.t 72) (.t 73)) <| u (.store 1 (.t 84) (.t 79)) <| o 85 (.indexA 1 (.t 74) (.t 75)) <| u (.store 1 (.t 85) (.t 83)) <| .nil)) (
   .seq (.ops (
   m 86 13 <| m 10 86 <| o 11 (.mov (.c (.bool true))) <| .nil)) (
   .ret))) (.skip))) (
  .seq (.ops (
   m 87 0 <| m 88 12 <| m 89 0 <| m 90 13 <| m 91 0 <| m 92 13 <| o 93 (.indexA 1 (.t 91) (.t 92)) <| l 94 93 <| m 95 0 <| m 96 12 <| o 97 (.indexA 1 (.t 95) (.t 96)) <|
   l 98 97 <| o 99 (.indexA 1 (.t 87) (.t 88)) <| u (.store 1 (.t 99) (.t 94)) <| o 100 (.indexA 1 (.t 89) (.t 90)) <| u (.store 1 (.t 100) (.t 98)) <| .nil)) (
  .seq (.ops (
   m 101 12 <| o 102 (.arith .add .i64 (.t 101) (.c (.int .i64 1))) <| m 12 102 <| .nil)) (
  .seq (.ops (
   m 103 13 <| o 104 (.arith .sub .i64 (.t 103) (.c (.int .i64 1))) <| m 13 104 <| .nil)) (
  .seq (.block 4 (.loop [0, 1, 4, 12, 13] [0, 1, 13] (slices_partitionCmpFunc_int__c5))) (
  slices_partitionCmpFunc_int__c4)))))

def slices_partitionCmpFunc_int__c1 : ACode :=
  .seq (.seq (.ops (
   m 32 12 <| m 33 13 <| o 34 (.cmp .leq .i64 (.t 32) (.t 33)) <| m 35 34 <| .grd 35 true [i 36 (.mov (.t 4)),
   i 37 (.mov (.t 0)),
   i 38 (.mov (.t 12)),
   i 39 (.indexA 1 (.t 37) (.t 38)),
   i 40 (.load1 (.t 39)),
   i 41 (.mov (.t 0)),
   i 42 (.mov (.t 1)),
   i 43 (.indexA 1 (.t 41) (.t 42)),
   i 44 (.load1 (.t 43)),
   i 45 (.callv (.t 36) [(.t 40), (.t 44)]),
   i 46 (.cmp .lss .i64 (.t 45) (.c (.int .i64 0)))] <| o 47 (.pick (.t 35) (.t 46) (.c (.bool false))) <| .nil)) (
  .cond (.t 47) (.skip) (.exit 0))) (
  .block 1 (.ops (
   m 48 12 <| o 49 (.arith .add .i64 (.t 48) (.c (.int .i64 1))) <| m 12 49 <| .nil)))

def slices_partitionCmpFunc_int__c0 : ACode :=
  .seq (.block 2 (.loop [0, 1, 4, 12, 13] [0, 1, 4, 12, 13] (slices_partitionCmpFunc_int__c3))) (
  slices_partitionCmpFunc_int__c2)

def slices_partitionCmpFunc_int_ : AFunc where
  closed := false
  nparams := 5
  ntmps := 178
  results := [.tmp 10, .tmp 11]
  body := .seq (.ops (
   o 10 (.mov (.c (.int .i64 0))) <| o 11 (.mov (.c (.bool false))) <| .nil)) (
   .seq (.ops (
   m 14 0 <| m 15 1 <| m 16 0 <| m 17 3 <| m 18 0 <| m 19 3 <| o 20 (.indexA 1 (.t 18) (.t 19)) <| l 21 20 <| m 22 0 <| m 23 1 <| o 24 (.indexA 1 (.t 22) (.t 23)) <| l 25 24 <|
   o 26 (.indexA 1 (.t 14) (.t 15)) <| u (.store 1 (.t 26) (.t 21)) <| o 27 (.indexA 1 (.t 16) (.t 17)) <| u (.store 1 (.t 27) (.t 25)) <| .nil)) (
   .seq (.ops (
   m 28 1 <| o 29 (.arith .add .i64 (.t 28) (.c (.int .i64 1))) <| m 30 2 <| o 31 (.arith .sub .i64 (.t 30) (.c (.int .i64 1))) <| m 12 29 <| m 13 31 <| .nil)) (
   .seq (.block 0 (.loop [0, 1, 4, 12, 13] [0, 1, 4, 12, 13] (slices_partitionCmpFunc_int__c1))) (
   slices_partitionCmpFunc_int__c0))))

def slices_partitionCmpFunc_int__hs : List (List Nat × List Nat) := [([0, 1, 4, 12, 13], [0, 1, 4, 12, 13]), ([0, 1, 4, 12, 13], [0, 1, 4, 12, 13]), ([0, 1, 4, 12, 13], [0, 1, 13]), ([0, 1, 4, 12, 13], [0, 1, 4, 12, 13]), ([0, 1, 4, 12, 13], [0, 1, 4, 12, 13])]

end Wm.F
end

section
namespace Wm.F
open Wm
set_option maxRecDepth 100000

def math_bits_Len32 : AFunc where
  closed := true
  nparams := 1
  ntmps := 19
  results := [.tmp 2]
  body := .seq (.ops (
   o 2 (.mov (.c (.int .i64 0))) <| .nil)) (
   .seq (.seq (.ops (
   m 3 0 <| o 4 (.cmp .geq .u32 (.t 3) (.c (.int .u32 65536))) <| .nil)) (
   .cond (.t 4) (.seq (.ops (
   m 5 0 <| o 6 (.shift false .u32 .u64 (.t 5) (.c (.int .u64 16))) <| m 0 6 <| .nil)) (
   .ops (
   o 2 (.mov (.c (.int .i64 16))) <| .nil))) (.skip))) (
   .seq (.seq (.ops (
   m 7 0 <| o 8 (.cmp .geq .u32 (.t 7) (.c (.int .u32 256))) <| .nil)) (
   .cond (.t 8) (.seq (.ops (
   m 9 0 <| o 10 (.shift false .u32 .u64 (.t 9) (.c (.int .u64 8))) <| m 0 10 <| .nil)) (
   .ops (
   m 11 2 <| o 12 (.arith .add .i64 (.t 11) (.c (.int .i64 8))) <| m 2 12 <| .nil))) (.skip))) (
   .seq (.ops (
   m 13 2 <| m 14 0 <| o 15 (.conv .u8 (.t 14)) <|
   .op ⟨(some 16), .indexStr (.c (.str ⟨⟨[0, 1, 2, 2, 3, 3, 3, 3, 4, 4, 4, 4, 4, 4, 4, 4, 5, 5, 5, 5, 5, 5, 5, 5, 5, 5, 5, 5, 5, 5, 5, 5, 6, 6, 6, 6, 6, 6, 6, 6, 6, 6, 6, 6, 6, 6, 6, 6, 6, 6, 6, 6, 6, 6, 6, 6, 6, 6, 6, 6, 6, 6, 6, 6, 7, 7, 7, 7, 7, 7, 7, 7, 7, 7, 7, 7, 7, 7, 7, 7, 7, 7, 7, 7, 7, 7, 7, 7, 7, 7, 7, 7, 7, 7, 7, 7, 7, 7, 7, 7, 7, 7, 7, 7, 7, 7, 7, 7, 7, 7, 7, 7, 7, 7, 7, 7, 7, 7, 7, 7, 7, 7, 7, 7, 7, 7, 7, 7, 8, 8, 8, 8, 8, 8, 8, 8, 8, 8, 8, 8, 8, 8, 8, 8, 8, 8, 8, 8, 8, 8, 8, 8, 8, 8, 8, 8, 8, 8, 8, 8, 8, 8, 8, 8, 8, 8, 8, 8, 8, 8, 8, 8, 8, 8, 8, 8, 8, 8, 8, 8, 8, 8, 8, 8, 8, 8, 8, 8, 8, 8, 8, 8, 8, 8, 8, 8, 8, 8, 8, 8, 8, 8, 8, 8, 8, 8, 8, 8, 8, 8, 8, 8, 8, 8, 8, 8, 8, 8, 8, 8, 8, 8, 8, 8, 8, 8, 8, 8, 8, 8, 8, 8, 8, 8, 8, 8, 8, 8, 8, 8, 8, 8, 8, 8, 8, 8, 8, 8, 8, 8, 8, 8, 8, 8, 8, 8]⟩⟩)) (.t 15), []⟩ <| o 17 (.conv .i64 (.t 16)) <| o 18 (.arith .add .i64 (.t 13) (.t 17)) <| m 2 18 <| .nil)) (
   .ret))))

def math_bits_Len32_hs : List (List Nat × List Nat) := []

end Wm.F
end

section
namespace Wm.F
open Wm
set_option maxRecDepth 100000

def math_bits_Len64 : AFunc where
  closed := true
  nparams := 1
  ntmps := 25
  results := [.tmp 2]
  body := .seq (.ops (
   o 2 (.mov (.c (.int .i64 0))) <| .nil)) (
   .seq (.seq (.ops (
   m 3 0 <| o 4 (.cmp .geq .u64 (.t 3) (.c (.int .u64 4294967296))) <| .nil)) (
   .cond (.t 4) (.seq (.ops (
   m 5 0 <| o 6 (.shift false .u64 .u64 (.t 5) (.c (.int .u64 32))) <| m 0 6 <| .nil)) (
   .ops (
   o 2 (.mov (.c (.int .i64 32))) <| .nil))) (.skip))) (
   .seq (.seq (.ops (
   m 7 0 <| o 8 (.cmp .geq .u64 (.t 7) (.c (.int .u64 65536))) <| .nil)) (
   .cond (.t 8) (.seq (.ops (
   m 9 0 <| o 10 (.shift false .u64 .u64 (.t 9) (.c (.int .u64 16))) <| m 0 10 <| .nil)) (
   .ops (
   m 11 2 <| o 12 (.arith .add .i64 (.t 11) (.c (.int .i64 16))) <| m 2 12 <| .nil))) (.skip))) (
   .seq (.seq (.ops (
   m 13 0 <| o 14 (.cmp .geq .u64 (.t 13) (.c (.int .u64 256))) <| .nil)) (
   .cond (.t 14) (.seq (.ops (
   m 15 0 <| o 16 (.shift false .u64 .u64 (.t 15) (.c (.int .u64 8))) <| m 0 16 <| .nil)) (
   .ops (
   m 17 2 <| o 18 (.arith .add .i64 (.t 17) (.c (.int .i64 8))) <| m 2 18 <| .nil))) (.skip))) (
   .seq (.ops (
   m 19 2 <| m 20 0 <| o 21 (.conv .u8 (.t 20)) <|
   .op ⟨(some 22), .indexStr (.c (.str ⟨⟨[0, 1, 2, 2, 3, 3, 3, 3, 4, 4, 4, 4, 4, 4, 4, 4, 5, 5, 5, 5, 5, 5, 5, 5, 5, 5, 5, 5, 5, 5, 5, 5, 6, 6, 6, 6, 6, 6, 6, 6, 6, 6, 6, 6, 6, 6, 6, 6, 6, 6, 6, 6, 6, 6, 6, 6, 6, 6, 6, 6, 6, 6, 6, 6, 7, 7, 7, 7, 7, 7, 7, 7, 7, 7, 7, 7, 7, 7, 7, 7, 7, 7, 7, 7, 7, 7, 7, 7, 7, 7, 7, 7, 7, 7, 7, 7, 7, 7, 7, 7, 7, 7, 7, 7, 7, 7, 7, 7, 7, 7, 7, 7, 7, 7, 7, 7, 7, 7, 7, 7, 7, 7, 7, 7, 7, 7, 7, 7, 8, 8, 8, 8, 8, 8, 8, 8, 8, 8, 8, 8, 8, 8, 8, 8, 8, 8, 8, 8, 8, 8, 8, 8, 8, 8, 8, 8, 8, 8, 8, 8, 8, 8, 8, 8, 8, 8, 8, 8, 8, 8, 8, 8, 8, 8, 8, 8, 8, 8, 8, 8, 8, 8, 8, 8, 8, 8, 8, 8, 8, 8, 8, 8, 8, 8, 8, 8, 8, 8, 8, 8, 8, 8, 8, 8, 8, 8, 8, 8, 8, 8, 8, 8, 8, 8, 8, 8, 8, 8, 8, 8, 8, 8, 8, 8, 8, 8, 8, 8, 8, 8, 8, 8, 8, 8, 8, 8, 8, 8, 8, 8, 8, 8, 8, 8, 8, 8, 8, 8, 8, 8, 8, 8, 8, 8, 8, 8]⟩⟩)) (.t 21), []⟩ <| o 23 (.conv .i64 (.t 22)) <| o 24 (.arith .add .i64 (.t 19) (.t 23)) <| m 2 24 <| .nil)) (
   .ret)))))

def math_bits_Len64_hs : List (List Nat × List Nat) := []

end Wm.F
end

section
namespace Wm.F
open Wm
set_option maxRecDepth 100000

def cmp_isNaN_int_ : AFunc where
  closed := true
  nparams := 1
  ntmps := 6
  results := [.tmp 2]
  body := .seq (.ops (
   o 2 (.mov (.c (.bool false))) <| .nil)) (
   .seq (.ops (
   m 3 0 <| m 4 0 <| o 5 (.cmp .neq .i64 (.t 3) (.t 4)) <| m 2 5 <| .nil)) (
   .ret))

def cmp_isNaN_int__hs : List (List Nat × List Nat) := []

end Wm.F
end

section
namespace Wm.F
open Wm
set_option maxRecDepth 100000

def slices_symMergeCmpFunc_int__c17 : ACode :=
  .seq (.ops (
   m 192 1 <| m 193 20 <| o 194 (.cmp .lss .i64 (.t 192) (.t 193)) <| m 195 194 <| .grd 195 true [i 196 (.mov (.t 20)),
   i 197 (.mov (.t 18)),
   i 198 (.cmp .lss .i64 (.t 196) (.t 197))] <| o 199 (.pick (.t 195) (.t 198) (.c (.bool false))) <| .nil)) (
  .cond (.t 199) (.ops (
   m 200 0 <| m 201 1 <| m 202 20 <| m 203 18 <| m 204 4 <| o 205 (.call 460 [(.t 200), (.t 201), (.t 202), (.t 203), (.t 204)]) <| .nil)) (.skip))

def slices_symMergeCmpFunc_int__c16 : ACode :=
  .seq (.ops (
   m 206 18 <| m 207 24 <| o 208 (.cmp .lss .i64 (.t 206) (.t 207)) <| m 209 208 <| .grd 209 true [i 210 (.mov (.t 24)),
   i 211 (.mov (.t 3)),
   i 212 (.cmp .lss .i64 (.t 210) (.t 211))] <| o 213 (.pick (.t 209) (.t 212) (.c (.bool false))) <| .nil)) (
  .cond (.t 213) (.ops (
   m 214 0 <| m 215 18 <| m 216 24 <| m 217 3 <| m 218 4 <| o 219 (.call 460 [(.t 214), (.t 215), (.t 216), (.t 217), (.t 218)]) <| .nil)) (.skip))

def slices_symMergeCmpFunc_int__c15 : ACode :=
  .seq (.ops (
   m 178 20 <| m 179 2 <| o 180 (.cmp .lss .i64 (.t 178) (.t 179)) <| m 181 180 <| .grd 181 true [i 182 (.mov (.t 2)),
   i 183 (.mov (.t 24)),
   i 184 (.cmp .lss .i64 (.t 182) (.t 183))] <| o 185 (.pick (.t 181) (.t 184) (.c (.bool false))) <| .nil)) (
  .cond (.t 185) (.ops (
   m 186 0 <| m 187 20 <| m 188 2 <| m 189 24 <| m 190 4 <| o 191 (.call 492 [(.t 186), (.t 187), (.t 188), (.t 189), (.t 190)]) <| .nil)) (.skip))

def slices_symMergeCmpFunc_int__c14 : ACode :=
  .seq (.join [0, 1, 3, 4, 18, 20, 24] [0, 3, 4, 18, 24] (slices_symMergeCmpFunc_int__c17)) (
  slices_symMergeCmpFunc_int__c16)

def slices_symMergeCmpFunc_int__c13 : ACode :=
  .seq (.seq (.ops (
   m 149 20 <| m 150 21 <| o 151 (.cmp .lss .i64 (.t 149) (.t 150)) <| .nil)) (
  .cond (.t 151) (.skip) (.exit 8))) (
  .block 9 (.seq (.ops (
   m 152 20 <| m 153 21 <| o 154 (.arith .add .i64 (.t 152) (.t 153)) <| o 155 (.conv .u64 (.t 154)) <| o 156 (.shift false .u64 .u64 (.t 155) (.c (.int .u64 1))) <|
   o 157 (.conv .i64 (.t 156)) <| m 23 157 <| .nil)) (
  .seq (.ops (
   m 158 4 <| m 159 0 <| m 160 22 <| m 161 23 <| o 162 (.arith .sub .i64 (.t 160) (.t 161)) <| o 163 (.indexA 1 (.t 159) (.t 162)) <| l 164 163 <| m 165 0 <| m 166 23 <|
   o 167 (.indexA 1 (.t 165) (.t 166)) <| l 168 167 <| o 169 (.callv (.t 158) [(.t 164), (.t 168)]) <| o 170 (.cmp .lss .i64 (.t 169) (.c (.int .i64 0))) <|
   o 171 (.not (.t 170)) <| .nil)) (
  .cond (.t 171) (.ops (
   m 172 23 <| o 173 (.arith .add .i64 (.t 172) (.c (.int .i64 1))) <| m 20 173 <| .nil)) (.ops (
   m 174 23 <| m 21 174 <| .nil))))))

def slices_symMergeCmpFunc_int__c12 : ACode :=
  .seq (.ops (
   m 175 19 <| m 176 20 <| o 177 (.arith .sub .i64 (.t 175) (.t 176)) <| m 24 177 <| .nil)) (
  .seq (.join [0, 1, 2, 3, 4, 18, 20, 24] [0, 1, 3, 4, 18, 20, 24] (slices_symMergeCmpFunc_int__c15)) (
  slices_symMergeCmpFunc_int__c14))

def slices_symMergeCmpFunc_int__c11 : ACode :=
  .seq (.ops (
   m 138 2 <| m 139 18 <| o 140 (.cmp .gtr .i64 (.t 138) (.t 139)) <| .nil)) (
  .cond (.t 140) (.seq (.ops (
   m 141 19 <| m 142 3 <| o 143 (.arith .sub .i64 (.t 141) (.t 142)) <| m 20 143 <| .nil)) (
   .ops (
   m 144 18 <| m 21 144 <| .nil))) (.seq (.ops (
   m 145 1 <| m 20 145 <| .nil)) (
   .ops (
   m 146 2 <| m 21 146 <| .nil))))

def slices_symMergeCmpFunc_int__c10 : ACode :=
  .seq (.ops (
   m 147 19 <| o 148 (.arith .sub .i64 (.t 147) (.c (.int .i64 1))) <| m 22 148 <| .nil)) (
  .seq (.block 8 (.loop [0, 1, 2, 3, 4, 18, 19, 20, 21, 22] [0, 1, 2, 3, 4, 18, 19, 20] (slices_symMergeCmpFunc_int__c13))) (
  slices_symMergeCmpFunc_int__c12))

def slices_symMergeCmpFunc_int__c9 : ACode :=
  .seq (.seq (.ops (
   m 108 17 <| m 109 14 <| o 110 (.cmp .gtr .i64 (.t 108) (.t 109)) <| .nil)) (
  .cond (.t 110) (.skip) (.exit 6))) (
  .seq (.block 7 (.ops (
   m 113 0 <| m 114 17 <| m 115 0 <| m 116 17 <| o 117 (.arith .sub .i64 (.t 116) (.c (.int .i64 1))) <| m 118 0 <| m 119 17 <|
   o 120 (.arith .sub .i64 (.t 119) (.c (.int .i64 1))) <| o 121 (.indexA 1 (.t 118) (.t 120)) <| l 122 121 <| m 123 0 <| m 124 17 <| o 125 (.indexA 1 (.t 123) (.t 124)) <|
   l 126 125 <| o 127 (.indexA 1 (.t 113) (.t 114)) <| u (.store 1 (.t 127) (.t 122)) <| o 128 (.indexA 1 (.t 115) (.t 117)) <| u (.store 1 (.t 128) (.t 126)) <| .nil))) (
  .ops (
   m 111 17 <| o 112 (.arith .sub .i64 (.t 111) (.c (.int .i64 1))) <| m 17 112 <| .nil)))

def slices_symMergeCmpFunc_int__c8 : ACode :=
  .ret

def slices_symMergeCmpFunc_int__c7 : ACode :=
  .seq (.seq (.ops (
   m 83 14 <| m 84 15 <| o 85 (.cmp .lss .i64 (.t 83) (.t 84)) <| .nil)) (
  .cond (.t 85) (.skip) (.exit 4))) (
  .block 5 (.seq (.ops (
   m 86 14 <| m 87 15 <| o 88 (.arith .add .i64 (.t 86) (.t 87)) <| o 89 (.conv .u64 (.t 88)) <| o 90 (.shift false .u64 .u64 (.t 89) (.c (.int .u64 1))) <|
   o 91 (.conv .i64 (.t 90)) <| m 16 91 <| .nil)) (
  .seq (.ops (
   m 92 4 <| m 93 0 <| m 94 2 <| o 95 (.indexA 1 (.t 93) (.t 94)) <| l 96 95 <| m 97 0 <| m 98 16 <| o 99 (.indexA 1 (.t 97) (.t 98)) <| l 100 99 <|
   o 101 (.callv (.t 92) [(.t 96), (.t 100)]) <| o 102 (.cmp .lss .i64 (.t 101) (.c (.int .i64 0))) <| o 103 (.not (.t 102)) <| .nil)) (
  .cond (.t 103) (.ops (
   m 104 16 <| o 105 (.arith .add .i64 (.t 104) (.c (.int .i64 1))) <| m 14 105 <| .nil)) (.ops (
   m 106 16 <| m 15 106 <| .nil))))))

def slices_symMergeCmpFunc_int__c6 : ACode :=
  .seq (.seq (.ops (
   m 107 2 <| m 17 107 <| .nil)) (
  .block 6 (.loop [0, 14, 17] [] (slices_symMergeCmpFunc_int__c9)))) (
  slices_symMergeCmpFunc_int__c8)

def slices_symMergeCmpFunc_int__c5 : ACode :=
  .seq (.ops (
   m 129 1 <| m 130 3 <| o 131 (.arith .add .i64 (.t 129) (.t 130)) <| o 132 (.conv .u64 (.t 131)) <| o 133 (.shift false .u64 .u64 (.t 132) (.c (.int .u64 1))) <|
   o 134 (.conv .i64 (.t 133)) <| m 18 134 <| .nil)) (
  .seq (.ops (
   m 135 18 <| m 136 2 <| o 137 (.arith .add .i64 (.t 135) (.t 136)) <| m 19 137 <| .nil)) (
  .seq (.ops (
   o 20 (.mov (.c (.int .i64 0))) <| o 21 (.mov (.c (.int .i64 0))) <| .nil)) (
  .seq (.join [0, 1, 2, 3, 4, 18, 19] [0, 1, 2, 3, 4, 18, 19, 20, 21] (slices_symMergeCmpFunc_int__c11)) (
  slices_symMergeCmpFunc_int__c10))))

def slices_symMergeCmpFunc_int__c4 : ACode :=
  .seq (.seq (.ops (
   m 55 13 <| m 56 10 <| o 57 (.arith .sub .i64 (.t 56) (.c (.int .i64 1))) <| o 58 (.cmp .lss .i64 (.t 55) (.t 57)) <| .nil)) (
  .cond (.t 58) (.skip) (.exit 2))) (
  .seq (.block 3 (.ops (
   m 61 0 <| m 62 13 <| m 63 0 <| m 64 13 <| o 65 (.arith .add .i64 (.t 64) (.c (.int .i64 1))) <| m 66 0 <| m 67 13 <| o 68 (.arith .add .i64 (.t 67) (.c (.int .i64 1))) <|
   o 69 (.indexA 1 (.t 66) (.t 68)) <| l 70 69 <| m 71 0 <| m 72 13 <| o 73 (.indexA 1 (.t 71) (.t 72)) <| l 74 73 <| o 75 (.indexA 1 (.t 61) (.t 62)) <|
   u (.store 1 (.t 75) (.t 70)) <| o 76 (.indexA 1 (.t 63) (.t 65)) <| u (.store 1 (.t 76) (.t 74)) <| .nil))) (
  .ops (
   m 59 13 <| o 60 (.arith .add .i64 (.t 59) (.c (.int .i64 1))) <| m 13 60 <| .nil)))

def slices_symMergeCmpFunc_int__c3 : ACode :=
  .ret

def slices_symMergeCmpFunc_int__c2 : ACode :=
  .seq (.seq (.ops (
   m 31 10 <| m 32 11 <| o 33 (.cmp .lss .i64 (.t 31) (.t 32)) <| .nil)) (
  .cond (.t 33) (.skip) (.exit 0))) (
  .block 1 (.seq (.ops (
   m 34 10 <| m 35 11 <| o 36 (.arith .add .i64 (.t 34) (.t 35)) <| o 37 (.conv .u64 (.t 36)) <| o 38 (.shift false .u64 .u64 (.t 37) (.c (.int .u64 1))) <|
   o 39 (.conv .i64 (.t 38)) <| m 12 39 <| .nil)) (
  .seq (.ops (
   m 40 4 <| m 41 0 <| m 42 12 <| o 43 (.indexA 1 (.t 41) (.t 42)) <| l 44 43 <| m 45 0 <| m 46 1 <| o 47 (.indexA 1 (.t 45) (.t 46)) <| l 48 47 <|
   o 49 (.callv (.t 40) [(.t 44), (.t 48)]) <| o 50 (.cmp .lss .i64 (.t 49) (.c (.int .i64 0))) <| .nil)) (
  .cond (.t 50) (.ops (
   m 51 12 <| o 52 (.arith .add .i64 (.t 51) (.c (.int .i64 1))) <| m 10 52 <| .nil)) (.ops (
   m 53 12 <| m 11 53 <| .nil))))))

def slices_symMergeCmpFunc_int__c1 : ACode :=
  .seq (.seq (.ops (
   m 54 1 <| m 13 54 <| .nil)) (
  .block 2 (.loop [0, 10, 13] [] (slices_symMergeCmpFunc_int__c4)))) (
  slices_symMergeCmpFunc_int__c3)

def slices_symMergeCmpFunc_int__c0 : ACode :=
  .seq (.seq (.ops (
   m 77 3 <| m 78 2 <| o 79 (.arith .sub .i64 (.t 77) (.t 78)) <| o 80 (.cmp .eql .i64 (.t 79) (.c (.int .i64 1))) <| .nil)) (
  .cond (.t 80) (.seq (.ops (
   m 81 1 <| m 14 81 <| .nil)) (
   .seq (.ops (
   m 82 2 <| m 15 82 <| .nil)) (
   .seq (.block 4 (.loop [0, 2, 4, 14, 15] [0, 2, 14] (slices_symMergeCmpFunc_int__c7))) (
   slices_symMergeCmpFunc_int__c6)))) (.skip))) (
  slices_symMergeCmpFunc_int__c5)

def slices_symMergeCmpFunc_int_ : AFunc where
  closed := false
  nparams := 5
  ntmps := 220
  results := []
  body := .seq (.seq (.ops (
   m 25 2 <| m 26 1 <| o 27 (.arith .sub .i64 (.t 25) (.t 26)) <| o 28 (.cmp .eql .i64 (.t 27) (.c (.int .i64 1))) <| .nil)) (
   .cond (.t 28) (.seq (.ops (
   m 29 2 <| m 10 29 <| .nil)) (
   .seq (.ops (
   m 30 3 <| m 11 30 <| .nil)) (
   .seq (.block 0 (.loop [0, 1, 4, 10, 11] [0, 1, 10] (slices_symMergeCmpFunc_int__c2))) (
   slices_symMergeCmpFunc_int__c1)))) (.skip))) (
   slices_symMergeCmpFunc_int__c0)

def slices_symMergeCmpFunc_int__hs : List (List Nat × List Nat) := [([0, 1, 4, 10, 11], [0, 1, 10]), ([0, 10, 13], []), ([0, 2, 4, 14, 15], [0, 2, 14]), ([0, 14, 17], []), ([1000006, 0, 1, 2, 3, 4, 18, 19], [0, 1, 2, 3, 4, 18, 19, 20, 21]), ([0, 1, 2, 3, 4, 18, 19, 20, 21, 22], [0, 1, 2, 3, 4, 18, 19, 20]), ([1000005, 0, 1, 2, 3, 4, 18, 20, 24], [0, 1, 3, 4, 18, 20, 24]), ([1000001, 0, 1, 3, 4, 18, 20, 24], [0, 3, 4, 18, 24])]

end Wm.F
end

section
namespace Wm.F
open Wm
set_option maxRecDepth 100000

def math_bits_Mul32 : AFunc where
  closed := true
  nparams := 2
  ntmps := 17
  results := [.tmp 4, .tmp 5]
  body := .seq (.ops (
   o 4 (.mov (.c (.int .u32 0))) <| o 5 (.mov (.c (.int .u32 0))) <| .nil)) (
   .seq (.ops (
   m 7 0 <| o 8 (.conv .u64 (.t 7)) <| m 9 1 <| o 10 (.conv .u64 (.t 9)) <| o 11 (.arith .mul .u64 (.t 8) (.t 10)) <| m 6 11 <| .nil)) (
   .seq (.ops (
   m 12 6 <| o 13 (.shift false .u64 .u64 (.t 12) (.c (.int .u64 32))) <| o 14 (.conv .u32 (.t 13)) <| m 15 6 <| o 16 (.conv .u32 (.t 15)) <| m 4 14 <| m 5 16 <| .nil)) (
   .ret)))

def math_bits_Mul32_hs : List (List Nat × List Nat) := []

end Wm.F
end

section
namespace Wm.F
open Wm
set_option maxRecDepth 100000

def math_bits_Mul64 : AFunc where
  closed := true
  nparams := 2
  ntmps := 51
  results := [.tmp 4, .tmp 5]
  body := .seq (.ops (
   o 4 (.mov (.c (.int .u64 0))) <| o 5 (.mov (.c (.int .u64 0))) <| .nil)) (
   .seq (.ops (
   m 14 0 <| o 15 (.arith .and .u64 (.t 14) (.c (.int .u64 4294967295))) <| m 6 15 <| .nil)) (
   .seq (.ops (
   m 16 0 <| o 17 (.shift false .u64 .u64 (.t 16) (.c (.int .u64 32))) <| m 7 17 <| .nil)) (
   .seq (.ops (
   m 18 1 <| o 19 (.arith .and .u64 (.t 18) (.c (.int .u64 4294967295))) <| m 8 19 <| .nil)) (
   .seq (.ops (
   m 20 1 <| o 21 (.shift false .u64 .u64 (.t 20) (.c (.int .u64 32))) <| m 9 21 <| .nil)) (
   .seq (.ops (
   m 22 6 <| m 23 8 <| o 24 (.arith .mul .u64 (.t 22) (.t 23)) <| m 10 24 <| .nil)) (
   .seq (.ops (
   m 25 7 <| m 26 8 <| o 27 (.arith .mul .u64 (.t 25) (.t 26)) <| m 28 10 <| o 29 (.shift false .u64 .u64 (.t 28) (.c (.int .u64 32))) <|
   o 30 (.arith .add .u64 (.t 27) (.t 29)) <| m 11 30 <| .nil)) (
   .seq (.ops (
   m 31 11 <| o 32 (.arith .and .u64 (.t 31) (.c (.int .u64 4294967295))) <| m 12 32 <| .nil)) (
   .seq (.ops (
   m 33 11 <| o 34 (.shift false .u64 .u64 (.t 33) (.c (.int .u64 32))) <| m 13 34 <| .nil)) (
   .seq (.ops (
   m 35 12 <| m 36 6 <| m 37 9 <| o 38 (.arith .mul .u64 (.t 36) (.t 37)) <| o 39 (.arith .add .u64 (.t 35) (.t 38)) <| m 12 39 <| .nil)) (
   .seq (.ops (
   m 40 7 <| m 41 9 <| o 42 (.arith .mul .u64 (.t 40) (.t 41)) <| m 43 13 <| o 44 (.arith .add .u64 (.t 42) (.t 43)) <| m 45 12 <|
   o 46 (.shift false .u64 .u64 (.t 45) (.c (.int .u64 32))) <| o 47 (.arith .add .u64 (.t 44) (.t 46)) <| m 4 47 <| .nil)) (
   .seq (.ops (
   m 48 0 <| m 49 1 <| o 50 (.arith .mul .u64 (.t 48) (.t 49)) <| m 5 50 <| .nil)) (
   .ret))))))))))))

def math_bits_Mul64_hs : List (List Nat × List Nat) := []

end Wm.F
end

section
namespace Wm.F
open Wm
set_option maxRecDepth 100000

def slices_siftDownCmpFunc_int__c0 : ACode :=
  .block 1 (.seq (.ops (
   m 13 10 <| o 14 (.arith .mul .i64 (.c (.int .i64 2)) (.t 13)) <| o 15 (.arith .add .i64 (.t 14) (.c (.int .i64 1))) <| m 11 15 <| .nil)) (
  .seq (.seq (.ops (
   m 16 11 <| m 17 2 <| o 18 (.cmp .geq .i64 (.t 16) (.t 17)) <| .nil)) (
  .cond (.t 18) (.exit 0) (.skip))) (
  .seq (.seq (.ops (
   m 19 11 <| o 20 (.arith .add .i64 (.t 19) (.c (.int .i64 1))) <| m 21 2 <| o 22 (.cmp .lss .i64 (.t 20) (.t 21)) <| m 23 22 <| .grd 23 true [i 24 (.mov (.t 4)),
   i 25 (.mov (.t 0)),
   i 26 (.mov (.t 3)),
   i 27 (.mov (.t 11)),
   i 28 (.arith .add .i64 (.t 26) (.t 27)),
   i 29 (.indexA 1 (.t 25) (.t 28)),
   i 30 (.load1 (.t 29)),
   i 31 (.mov (.t 0)),
   i 32 (.mov (.t 3)),
   i 33 (.mov (.t 11)),
   i 34 (.arith .add .i64 (.t 32) (.t 33)),
   i 35 (.arith .add .i64 (.t 34) (.c (.int .i64 1))),
   i 36 (.indexA 1 (.t 31) (.t 35)),
   i 37 (.load1 (.t 36)),
   i 38 (.callv (.t 24) [(.t 30), (.t 37)]),
   i 39 (.cmp .lss .i64 (.t 38) (.c (.int .i64 0)))] <| o 40 (.pick (.t 23) (.t 39) (.c (.bool false))) <| .nil)) (
  .cond (.t 40) (.ops (
   m 41 11 <| o 42 (.arith .add .i64 (.t 41) (.c (.int .i64 1))) <| m 11 42 <| .nil)) (.skip))) (
  .seq (.seq (.ops (
   m 43 4 <| m 44 0 <| m 45 3 <| m 46 10 <| o 47 (.arith .add .i64 (.t 45) (.t 46)) <| o 48 (.indexA 1 (.t 44) (.t 47)) <| l 49 48 <| m 50 0 <| m 51 3 <| m 52 11 <|
   o 53 (.arith .add .i64 (.t 51) (.t 52)) <| o 54 (.indexA 1 (.t 50) (.t 53)) <| l 55 54 <| o 56 (.callv (.t 43) [(.t 49), (.t 55)]) <|
   o 57 (.cmp .lss .i64 (.t 56) (.c (.int .i64 0))) <| o 58 (.not (.t 57)) <| .nil)) (
  .cond (.t 58) (.ret) (.skip))) (
  .seq (.ops (
   m 59 0 <| m 60 3 <| m 61 10 <| o 62 (.arith .add .i64 (.t 60) (.t 61)) <| m 63 0 <| m 64 3 <| m 65 11 <| o 66 (.arith .add .i64 (.t 64) (.t 65)) <| m 67 0 <| m 68 3 <|
   m 69 11 <| o 70 (.arith .add .i64 (.t 68) (.t 69)) <| o 71 (.indexA 1 (.t 67) (.t 70)) <| l 72 71 <| m 73 0 <| m 74 3 <| m 75 10 <| o 76 (.arith .add .i64 (.t 74) (.t 75)) <|
   o 77 (.indexA 1 (.t 73) (.t 76)) <| l 78 77 <| o 79 (.indexA 1 (.t 59) (.t 62)) <| u (.store 1 (.t 79) (.t 72)) <| o 80 (.indexA 1 (.t 63) (.t 66)) <|
   u (.store 1 (.t 80) (.t 78)) <| .nil)) (
  .ops (
   m 81 11 <| m 10 81 <| .nil)))))))

def slices_siftDownCmpFunc_int_ : AFunc where
  closed := false
  nparams := 5
  ntmps := 82
  results := []
  body := .seq (.ops (
   m 12 1 <| m 10 12 <| .nil)) (
   .block 0 (.loop [0, 2, 3, 4, 10] [] (slices_siftDownCmpFunc_int__c0)))

def slices_siftDownCmpFunc_int__hs : List (List Nat × List Nat) := [([0, 2, 3, 4, 10], [])]

end Wm.F
end

section
namespace Wm.F
open Wm
set_option maxRecDepth 100000

def slices_nextPowerOfTwo : AFunc where
  closed := true
  nparams := 1
  ntmps := 7
  results := [.tmp 2]
  body := .seq (.ops (
   o 2 (.mov (.c (.int .u64 0))) <| .nil)) (
   .seq (.ops (
   m 3 0 <| o 4 (.conv .u64 (.t 3)) <| o 5 (.call 406 [(.t 4)]) <| o 6 (.shift true .u64 .i64 (.c (.int .u64 1)) (.t 5)) <| m 2 6 <| .nil)) (
   .ret))

def slices_nextPowerOfTwo_hs : List (List Nat × List Nat) := []

end Wm.F
end

section
namespace Wm.F
open Wm
set_option maxRecDepth 100000

def slices_xorshift_Next : AFunc where
  closed := false
  nparams := 1
  ntmps := 33
  results := [.tmp 2]
  body := .seq (.ops (
   o 2 (.mov (.c (.int .u64 0))) <| .nil)) (
   .seq (.ops (
   m 3 0 <| n 4 3 <| l 5 4 <| m 6 0 <| n 7 6 <| l 8 7 <| o 9 (.shift true .u64 .u64 (.t 8) (.c (.int .u64 13))) <| o 10 (.arith .xor .u64 (.t 5) (.t 9)) <| n 11 3 <|
   u (.store 1 (.t 11) (.t 10)) <| .nil)) (
   .seq (.ops (
   m 12 0 <| n 13 12 <| l 14 13 <| m 15 0 <| n 16 15 <| l 17 16 <| o 18 (.shift false .u64 .u64 (.t 17) (.c (.int .u64 7))) <| o 19 (.arith .xor .u64 (.t 14) (.t 18)) <|
   n 20 12 <| u (.store 1 (.t 20) (.t 19)) <| .nil)) (
   .seq (.ops (
   m 21 0 <| n 22 21 <| l 23 22 <| m 24 0 <| n 25 24 <| l 26 25 <| o 27 (.shift true .u64 .u64 (.t 26) (.c (.int .u64 17))) <| o 28 (.arith .xor .u64 (.t 23) (.t 27)) <|
   n 29 21 <| u (.store 1 (.t 29) (.t 28)) <| .nil)) (
   .seq (.ops (
   m 30 0 <| n 31 30 <| l 32 31 <| m 2 32 <| .nil)) (
   .ret)))))

def slices_xorshift_Next_hs : List (List Nat × List Nat) := []

end Wm.F
end

section
namespace Wm.F
open Wm
set_option maxRecDepth 100000

def slices_medianAdjacentCmpFunc_int_ : AFunc where
  closed := false
  nparams := 4
  ntmps := 18
  results := [.tmp 8]
  body := .seq (.ops (
   o 8 (.mov (.c (.int .i64 0))) <| .nil)) (
   .seq (.ops (
   m 9 0 <| m 10 1 <| o 11 (.arith .sub .i64 (.t 10) (.c (.int .i64 1))) <| m 12 1 <| m 13 1 <| o 14 (.arith .add .i64 (.t 13) (.c (.int .i64 1))) <| m 15 2 <| m 16 3 <|
   o 17 (.call 491 [(.t 9), (.t 11), (.t 12), (.t 14), (.t 15), (.t 16)]) <| m 8 17 <| .nil)) (
   .ret))

def slices_medianAdjacentCmpFunc_int__hs : List (List Nat × List Nat) := []

end Wm.F
end

section
namespace Wm.F
open Wm
set_option maxRecDepth 100000

def slices_medianCmpFunc_int_ : AFunc where
  closed := false
  nparams := 6
  ntmps := 41
  results := [.tmp 12]
  body := .seq (.ops (
   o 12 (.mov (.c (.int .i64 0))) <| .nil)) (
   .seq (.ops (
   m 14 0 <| m 15 1 <| m 16 2 <| m 17 4 <| m 18 5 <| o 19 (.call 512 [(.t 14), (.t 15), (.t 16), (.t 17), (.t 18)]) <| m 13 19 <| o 20 (.extract (.t 13) 0) <|
   o 21 (.extract (.t 13) 1) <| m 1 20 <| m 2 21 <| .nil)) (
   .seq (.ops (
   m 23 0 <| m 24 2 <| m 25 3 <| m 26 4 <| m 27 5 <| o 28 (.call 512 [(.t 23), (.t 24), (.t 25), (.t 26), (.t 27)]) <| m 22 28 <| o 29 (.extract (.t 22) 0) <|
   o 30 (.extract (.t 22) 1) <| m 2 29 <| m 3 30 <| .nil)) (
   .seq (.ops (
   m 32 0 <| m 33 1 <| m 34 2 <| m 35 4 <| m 36 5 <| o 37 (.call 512 [(.t 32), (.t 33), (.t 34), (.t 35), (.t 36)]) <| m 31 37 <| o 38 (.extract (.t 31) 0) <|
   o 39 (.extract (.t 31) 1) <| m 1 38 <| m 2 39 <| .nil)) (
   .seq (.ops (
   m 40 2 <| m 12 40 <| .nil)) (
   .ret)))))

def slices_medianCmpFunc_int__hs : List (List Nat × List Nat) := []

end Wm.F
end

section
namespace Wm.F
open Wm
set_option maxRecDepth 100000

def slices_rotateCmpFunc_int__c1 : ACode :=
  .seq (.seq (.ops (
   m 18 10 <| m 19 11 <| o 20 (.cmp .neq .i64 (.t 18) (.t 19)) <| .nil)) (
  .cond (.t 20) (.skip) (.exit 0))) (
  .block 1 (.seq (.ops (
   m 21 10 <| m 22 11 <| o 23 (.cmp .gtr .i64 (.t 21) (.t 22)) <| .nil)) (
  .cond (.t 23) (.seq (.ops (
   m 24 0 <| m 25 2 <| m 26 10 <| o 27 (.arith .sub .i64 (.t 25) (.t 26)) <| m 28 2 <| m 29 11 <| m 30 4 <| o 31 (.call 513 [(.t 24), (.t 27), (.t 28), (.t 29), (.t 30)]) <|
   .nil)) (
   .ops (
   m 32 10 <| m 33 11 <| o 34 (.arith .sub .i64 (.t 32) (.t 33)) <| m 10 34 <| .nil))) (.seq (.ops (
   m 35 0 <| m 36 2 <| m 37 10 <| o 38 (.arith .sub .i64 (.t 36) (.t 37)) <| m 39 2 <| m 40 11 <| o 41 (.arith .add .i64 (.t 39) (.t 40)) <| m 42 10 <|
   o 43 (.arith .sub .i64 (.t 41) (.t 42)) <| m 44 10 <| m 45 4 <| o 46 (.call 513 [(.t 35), (.t 38), (.t 43), (.t 44), (.t 45)]) <| .nil)) (
   .ops (
   m 47 11 <| m 48 10 <| o 49 (.arith .sub .i64 (.t 47) (.t 48)) <| m 11 49 <| .nil))))))

def slices_rotateCmpFunc_int__c0 : ACode :=
  .ops (
   m 50 0 <| m 51 2 <| m 52 10 <| o 53 (.arith .sub .i64 (.t 51) (.t 52)) <| m 54 2 <| m 55 10 <| m 56 4 <| o 57 (.call 513 [(.t 50), (.t 53), (.t 54), (.t 55), (.t 56)]) <| .nil)

def slices_rotateCmpFunc_int_ : AFunc where
  closed := false
  nparams := 5
  ntmps := 58
  results := []
  body := .seq (.ops (
   m 12 2 <| m 13 1 <| o 14 (.arith .sub .i64 (.t 12) (.t 13)) <| m 10 14 <| .nil)) (
   .seq (.ops (
   m 15 3 <| m 16 2 <| o 17 (.arith .sub .i64 (.t 15) (.t 16)) <| m 11 17 <| .nil)) (
   .seq (.block 0 (.loop [0, 2, 4, 10, 11] [0, 2, 4, 10] (slices_rotateCmpFunc_int__c1))) (
   slices_rotateCmpFunc_int__c0)))

def slices_rotateCmpFunc_int__hs : List (List Nat × List Nat) := [([0, 2, 4, 10, 11], [0, 2, 4, 10])]

end Wm.F
end

section
namespace Wm.F
open Wm
set_option maxRecDepth 100000

def slices_order2CmpFunc_int_ : AFunc where
  closed := false
  nparams := 5
  ntmps := 32
  results := [.tmp 10, .tmp 11]
  body := .seq (.ops (
   o 10 (.mov (.c (.int .i64 0))) <| o 11 (.mov (.c (.int .i64 0))) <| .nil)) (
   .seq (.seq (.ops (
   m 12 4 <| m 13 0 <| m 14 2 <| o 15 (.indexA 1 (.t 13) (.t 14)) <| l 16 15 <| m 17 0 <| m 18 1 <| o 19 (.indexA 1 (.t 17) (.t 18)) <| l 20 19 <|
   o 21 (.callv (.t 12) [(.t 16), (.t 20)]) <| o 22 (.cmp .lss .i64 (.t 21) (.c (.int .i64 0))) <| .nil)) (
   .cond (.t 22) (.seq (.ops (
   m 23 3 <| n 24 23 <| l 25 24 <| o 26 (.arith .add .i64 (.t 25) (.c (.int .i64 1))) <| n 27 23 <| u (.store 1 (.t 27) (.t 26)) <| .nil)) (
   .seq (.ops (
   m 28 2 <| m 29 1 <| m 10 28 <| m 11 29 <| .nil)) (
   .ret))) (.skip))) (
   .seq (.ops (
   m 30 1 <| m 31 2 <| m 10 30 <| m 11 31 <| .nil)) (
   .ret)))

def slices_order2CmpFunc_int__hs : List (List Nat × List Nat) := []

end Wm.F
end

section
namespace Wm.F
open Wm
set_option maxRecDepth 100000

def slices_swapRangeCmpFunc_int__c0 : ACode :=
  .seq (.seq (.ops (
   m 11 10 <| m 12 3 <| o 13 (.cmp .lss .i64 (.t 11) (.t 12)) <| .nil)) (
  .cond (.t 13) (.skip) (.exit 0))) (
  .seq (.block 1 (.ops (
   m 16 0 <| m 17 1 <| m 18 10 <| o 19 (.arith .add .i64 (.t 17) (.t 18)) <| m 20 0 <| m 21 2 <| m 22 10 <| o 23 (.arith .add .i64 (.t 21) (.t 22)) <| m 24 0 <| m 25 2 <|
   m 26 10 <| o 27 (.arith .add .i64 (.t 25) (.t 26)) <| o 28 (.indexA 1 (.t 24) (.t 27)) <| l 29 28 <| m 30 0 <| m 31 1 <| m 32 10 <| o 33 (.arith .add .i64 (.t 31) (.t 32)) <|
   o 34 (.indexA 1 (.t 30) (.t 33)) <| l 35 34 <| o 36 (.indexA 1 (.t 16) (.t 19)) <| u (.store 1 (.t 36) (.t 29)) <| o 37 (.indexA 1 (.t 20) (.t 23)) <|
   u (.store 1 (.t 37) (.t 35)) <| .nil))) (
  .ops (
   m 14 10 <| o 15 (.arith .add .i64 (.t 14) (.c (.int .i64 1))) <| m 10 15 <| .nil)))

def slices_swapRangeCmpFunc_int_ : AFunc where
  closed := false
  nparams := 5
  ntmps := 38
  results := []
  body := .seq (.ops (
   o 10 (.mov (.c (.int .i64 0))) <| .nil)) (
   .block 0 (.loop [0, 1, 2, 3, 10] [] (slices_swapRangeCmpFunc_int__c0)))

def slices_swapRangeCmpFunc_int__hs : List (List Nat × List Nat) := [([0, 1, 2, 3, 10], [])]

end Wm.F
end

