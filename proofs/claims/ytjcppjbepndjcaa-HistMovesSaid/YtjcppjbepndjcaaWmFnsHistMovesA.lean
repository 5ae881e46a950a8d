/- PRINTED by my tool: functions as those of my machine. -/
import Derived.Test.YtjcppjbepndjcaaWmCore
set_option linter.all false
section
open Wm
namespace Wm.F
def m (a b : Nat) (k : AIs) : AIs := .op ⟨some a, .mov (.t b), []⟩ k
def d (a i b : Nat) (k : AIs) : AIs := .op ⟨some a, .fieldA i (.t b), []⟩ k
def l (a b : Nat) (k : AIs) : AIs := .op ⟨some a, .load1 (.t b), []⟩ k
def n (a b : Nat) (k : AIs) : AIs := .op ⟨some a, .nilc (.t b), []⟩ k
def ln (a c b : Nat) (k : AIs) : AIs := .op ⟨some a, .loadN c (.t b), []⟩ k
def o (a : Nat) (x : AOp) (k : AIs) : AIs := .op ⟨some a, x, []⟩ k
def u (x : AOp) (k : AIs) : AIs := .op ⟨none, x, []⟩ k
def i (a : Nat) (x : AOp) : AI := ⟨some a, x, []⟩
end Wm.F

end
section
namespace Wm.F
open Wm
set_option maxRecDepth 100000

def withylaw18_HistMoves_c1 : ACode :=
  .seq (.seq (.ops (
   m 15 8 <| m 16 0 <| o 17 (.lenSl (.t 16)) <| o 18 (.cmp .lss .i64 (.t 15) (.t 17)) <| .nil)) (
  .cond (.t 18) (.skip) (.exit 0))) (
  .seq (.block 1 (.seq (.ops (
   m 21 0 <| m 22 8 <| o 23 (.indexA 14 (.t 21) (.t 22)) <| ln 24 14 23 <|
   o 9 (.alloc [(.int .i64 0), (.int .i64 0), (.int .i64 0), (.int .i64 0), (.int .i64 0), (.bool false), (.int .i64 0), (.int .i64 0), (.int .u64 0), (.int .u64 0), (.int .u64 0), (.int .i64 0), (.int .u64 0), (.bool false)]) <| u (.store 14 (.t 9) (.t 24)) <| .nil)) (
  .seq (.seq (.ops (
   d 25 2 9 <| l 26 25 <| o 27 (.call 187 [(.t 26)]) <| m 28 27 <| .grd 28 false [i 29 (.fieldA 3 (.t 9)),
   i 30 (.load1 (.t 29)),
   i 31 (.call 187 [(.t 30)])] <| o 32 (.pick (.t 28) (.c (.bool true)) (.t 31)) <| m 33 32 <| .grd 33 false [i 34 (.fieldA 4 (.t 9)),
   i 35 (.load1 (.t 34)),
   i 36 (.call 187 [(.t 35)])] <| o 37 (.pick (.t 33) (.c (.bool true)) (.t 36)) <| .nil)) (
  .cond (.t 37) (.seq (.ops (
   o 38 (.call 180 []) <| m 6 38 <| .nil)) (
   .ret)) (.skip))) (
  .seq (.ops (
   d 39 2 9 <| l 40 39 <| m 41 2 <| o 42 (.conv .i64 (.t 41)) <| o 43 (.arith .add .i64 (.t 40) (.t 42)) <| d 44 2 9 <| u (.store 1 (.t 44) (.t 43)) <| .nil)) (
  .seq (.ops (
   d 45 3 9 <| l 46 45 <| m 47 2 <| o 48 (.conv .i64 (.t 47)) <| o 49 (.arith .add .i64 (.t 46) (.t 48)) <| d 50 3 9 <| u (.store 1 (.t 50) (.t 49)) <| .nil)) (
  .seq (.ops (
   d 51 4 9 <| l 52 51 <| m 53 2 <| o 54 (.conv .i64 (.t 53)) <| o 55 (.arith .add .i64 (.t 52) (.t 54)) <| d 56 4 9 <| u (.store 1 (.t 56) (.t 55)) <| .nil)) (
  .ops (
   m 57 7 <| ln 58 14 9 <|
   o 59 (.buildSl 14 1 [(.int .i64 0), (.int .i64 0), (.int .i64 0), (.int .i64 0), (.int .i64 0), (.bool false), (.int .i64 0), (.int .i64 0), (.int .u64 0), (.int .u64 0), (.int .u64 0), (.int .i64 0), (.int .u64 0), (.bool false)] [(0, 14, (.t 58))]) <| o 60 (.append 14 112 (.t 57) (.t 59)) <| m 7 60 <| .nil)))))))) (
  .ops (
   m 19 8 <| o 20 (.arith .add .i64 (.t 19) (.c (.int .i64 1))) <| m 8 20 <| .nil)))

def withylaw18_HistMoves_c0 : ACode :=
  .seq (.ops (
   m 61 0 <| o 62 (.call 181 [(.t 61)]) <| m 10 62 <| .nil)) (
  .seq (.ops (
   m 63 7 <| m 64 1 <| o 65 (.call 178 [(.t 63), (.t 64)]) <| m 66 0 <| m 67 1 <| o 68 (.call 178 [(.t 66), (.t 67)]) <| o 69 (.eq false .bool (.t 65) (.t 68)) <| m 70 69 <|
   .grd 70 true [i 71 (.mov (.t 7)),
   i 72 (.mov (.t 10)),
   i 73 (.call 185 [(.t 71), (.t 72)]),
   i 74 (.mov (.t 0)),
   i 75 (.mov (.t 10)),
   i 76 (.call 185 [(.t 74), (.t 75)]),
   i 77 (.eq false .bool (.t 73) (.t 76))] <| o 78 (.pick (.t 70) (.t 77) (.c (.bool false))) <| m 79 78 <| .grd 79 true [i 80 (.call 180 [])] <|
   o 81 (.pick (.t 79) (.t 80) (.c (.bool false))) <| m 6 81 <| .nil)) (
  .ret))

def withylaw18_HistMoves : AFunc where
  closed := false
  nparams := 3
  ntmps := 82
  results := [.tmp 6]
  body := .seq (.ops (
   o 6 (.mov (.c (.bool false))) <| .nil)) (
   .seq (.seq (.ops (
   m 11 0 <| o 12 (.lenSl (.t 11)) <| o 13 (.cmp .gtr .i64 (.t 12) (.c (.int .i64 60))) <| .nil)) (
   .cond (.t 13) (.seq (.ops (
   o 14 (.call 180 []) <| m 6 14 <| .nil)) (
   .ret)) (.skip))) (
   .seq (.ops (
   o 7 (.mov (.c .nilsl)) <| .nil)) (
   .seq (.seq (.ops (
   o 8 (.mov (.c (.int .i64 0))) <| .nil)) (
   .block 0 (.loop [0, 1, 2, 7, 8] [0, 1, 6, 7] (withylaw18_HistMoves_c1)))) (
   withylaw18_HistMoves_c0))))

def withylaw18_HistMoves_hs : List (List Nat × List Nat) := [([0, 1, 2, 7, 8], [0, 1, 6, 7])]

end Wm.F
end

section
namespace Wm.F
open Wm
set_option maxRecDepth 100000

def hist_Right_c3 : ACode :=
  .seq (.ops (
   o 33 (.cmp .lss .i64 (.t 32) (.t 31)) <| .nil)) (
  .seq (.cond (.t 33) (.skip) (.exit 2)) (
  .seq (.block 3 (.seq (.ops (
   o 34 (.indexA 1 (.t 30) (.t 32)) <| l 35 34 <| m 9 35 <| .nil)) (
  .seq (.ops (
   l 36 2 <| m 37 9 <| o 38 (.indexA 14 (.t 36) (.t 37)) <| ln 39 14 38 <|
   o 10 (.alloc [(.int .i64 0), (.int .i64 0), (.int .i64 0), (.int .i64 0), (.int .i64 0), (.bool false), (.int .i64 0), (.int .i64 0), (.int .u64 0), (.int .u64 0), (.int .u64 0), (.int .i64 0), (.int .u64 0), (.bool false)]) <| u (.store 14 (.t 10) (.t 39)) <| .nil)) (
  .seq (.seq (.ops (
   d 40 0 10 <| l 41 40 <| o 42 (.cmp .lss .i64 (.t 41) (.c (.int .i64 0))) <| m 43 42 <| .grd 43 false [i 44 (.fieldA 0 (.t 10)),
   i 45 (.load1 (.t 44)),
   i 46 (.mov (.t 1)),
   i 47 (.cmp .geq .i64 (.t 45) (.t 46))] <| o 48 (.pick (.t 43) (.c (.bool true)) (.t 47)) <| m 49 48 <| .grd 49 false [i 50 (.fieldA 2 (.t 10)),
   i 51 (.load1 (.t 50)),
   i 52 (.fieldA 3 (.t 10)),
   i 53 (.load1 (.t 52)),
   i 54 (.cmp .gtr .i64 (.t 51) (.t 53))] <| o 55 (.pick (.t 49) (.c (.bool true)) (.t 54)) <| m 56 55 <| .grd 56 false [i 57 (.fieldA 3 (.t 10)),
   i 58 (.load1 (.t 57)),
   i 59 (.fieldA 4 (.t 10)),
   i 60 (.load1 (.t 59)),
   i 61 (.cmp .gtr .i64 (.t 58) (.t 60))] <| o 62 (.pick (.t 56) (.c (.bool true)) (.t 61)) <| .nil)) (
  .cond (.t 62) (.seq (.ops (
   o 4 (.mov (.c (.bool false))) <| .nil)) (
   .ret)) (.skip))) (
  .seq (.seq (.ops (
   m 64 5 <| d 65 0 10 <| l 66 65 <|
   o 67 (.lookup .int (.agg [(.int .i64 0), (.int .i64 0), (.int .i64 0), (.int .i64 0), (.int .i64 0), (.bool false), (.int .i64 0), (.int .i64 0), (.int .u64 0), (.int .u64 0), (.int .u64 0), (.int .i64 0), (.int .u64 0), (.bool false)]) true (.t 64) (.t 66)) <| m 63 67 <| o 68 (.extract (.t 63) 0) <| o 69 (.extract (.t 63) 1) <| o 11 (.alloc [(.int .i64 0), (.int .i64 0), (.int .i64 0), (.int .i64 0), (.int .i64 0), (.bool false), (.int .i64 0), (.int .i64 0), (.int .u64 0), (.int .u64 0), (.int .u64 0), (.int .i64 0), (.int .u64 0), (.bool false)]) <| u (.store 14 (.t 11) (.t 68)) <| m 12 69 <| .nil)) (
  .seq (.ops (
   m 70 12 <| m 71 70 <| .grd 71 true [i 72 (.fieldA 1 (.t 11)),
   i 73 (.load1 (.t 72)),
   i 74 (.fieldA 1 (.t 10)),
   i 75 (.load1 (.t 74)),
   i 76 (.cmp .eql .i64 (.t 73) (.t 75)),
   i 77 (.mov (.t 76))] <| .grd 77 false [i 78 (.loadN 14 (.t 11)),
   i 79 (.loadN 14 (.t 10)),
   i 80 (.call 183 [(.t 78), (.t 79)]),
   i 81 (.not (.t 80))] <| .grd 71 true [i 82 (.pick (.t 77) (.c (.bool true)) (.t 81))] <| o 83 (.pick (.t 71) (.t 82) (.c (.bool false))) <| .nil)) (
  .cond (.t 83) (.seq (.ops (
   o 4 (.mov (.c (.bool false))) <| .nil)) (
   .ret)) (.skip)))) (
  .ops (
   m 84 5 <| d 85 0 10 <| l 86 85 <| ln 87 14 10 <| u (.mapSet .int (.t 84) (.t 86) (.t 87)) <| .nil))))))) (
  .ops (
   o 88 (.arith .add .i64 (.t 32) (.c (.int .i64 1))) <| m 32 88 <| .nil))))

def hist_Right_c2 : ACode :=
  .seq (.ops (
   o 4 (.mov (.c (.bool true))) <| .nil)) (
  .ret)

def hist_Right_c1 : ACode :=
  .seq (.ops (
   o 20 (.cmp .lss .i64 (.t 19) (.t 18)) <| .nil)) (
  .seq (.cond (.t 20) (.skip) (.exit 0)) (
  .seq (.block 1 (.seq (.ops (
   m 21 19 <| m 7 21 <| .nil)) (
  .ops (
   m 22 6 <| m 23 7 <| m 24 7 <| o 25 (.indexA 1 (.t 22) (.t 23)) <| u (.store 1 (.t 25) (.t 24)) <| .nil)))) (
  .ops (
   o 26 (.arith .add .i64 (.t 19) (.c (.int .i64 1))) <| m 19 26 <| .nil))))

def hist_Right_c0 : ACode :=
  .seq (.ops (
   m 27 6 <| o 28 (.mkFn 333 [(.t 2)]) <| o 29 (.call 332 [(.t 27), (.t 28)]) <| .nil)) (
  .seq (.seq (.ops (
   m 30 6 <| o 31 (.lenSl (.t 30)) <| o 32 (.mov (.c (.int .i64 0))) <| .nil)) (
  .block 2 (.loop [1, 2, 5, 30, 31, 32] [4] (hist_Right_c3)))) (
  hist_Right_c2))

def hist_Right : AFunc where
  closed := false
  nparams := 2
  ntmps := 89
  results := [.tmp 4]
  body := .seq (.ops (
   o 2 (.box (.t 0)) <| o 4 (.mov (.c (.bool false))) <| .nil)) (
   .seq (.ops (
   o 13 (.mkMap) <| m 5 13 <| .nil)) (
   .seq (.ops (
   l 14 2 <| o 15 (.lenSl (.t 14)) <| o 16 (.mkSl 1 8 [(.int .i64 0)] (.t 15) (.t 15)) <| m 6 16 <| .nil)) (
   .seq (.seq (.ops (
   m 17 6 <| o 18 (.lenSl (.t 17)) <| o 19 (.mov (.c (.int .i64 0))) <| .nil)) (
   .block 0 (.loop [1, 2, 5, 6, 18, 19] [1, 2, 5, 6] (hist_Right_c1)))) (
   hist_Right_c0))))

def hist_Right_hs : List (List Nat × List Nat) := [([1, 2, 5, 6, 18, 19], [1, 2, 5, 6]), ([1, 2, 5, 30, 31, 32], [4])]

end Wm.F
end

section
namespace Wm.F
open Wm
set_option maxRecDepth 100000

def withylaw18_awake : AFunc where
  closed := true
  nparams := 0
  ntmps := 52
  results := [.tmp 0]
  body := .seq (.ops (
   o 0 (.mov (.c (.bool false))) <| .nil)) (
   .seq (.ops (
   o 3 (.build [(.int .i64 0), (.int .i64 0), (.int .i64 0), (.int .i64 0), (.int .i64 0), (.bool false), (.int .i64 0), (.int .i64 0), (.int .u64 0), (.int .u64 0), (.int .u64 0), (.int .i64 0), (.int .u64 0), (.bool false)] [(2, 1, (.c (.int .i64 1))), (3, 1, (.c (.int .i64 4))), (4, 1, (.c (.int .i64 5)))]) <| o 4 (.build [(.int .i64 0), (.int .i64 0), (.int .i64 0), (.int .i64 0), (.int .i64 0), (.bool false), (.int .i64 0), (.int .i64 0), (.int .u64 0), (.int .u64 0), (.int .u64 0), (.int .i64 0), (.int .u64 0), (.bool false)] [(0, 1, (.c (.int .i64 1))), (2, 1, (.c (.int .i64 2))), (3, 1, (.c (.int .i64 2))), (4, 1, (.c (.int .i64 3)))]) <| o 5 (.buildSl 14 2 [(.int .i64 0), (.int .i64 0), (.int .i64 0), (.int .i64 0), (.int .i64 0), (.bool false), (.int .i64 0), (.int .i64 0), (.int .u64 0), (.int .u64 0), (.int .u64 0), (.int .i64 0), (.int .u64 0), (.bool false)] [(0, 14, (.t 3)), (14, 14, (.t 4))]) <| m 1 5 <| .nil)) (
   .seq (.ops (
   m 6 1 <| o 7 (.call 181 [(.t 6)]) <| m 2 7 <| .nil)) (
   .seq (.ops (
   m 8 2 <| o 9 (.lenSl (.t 8)) <| o 10 (.cmp .eql .i64 (.t 9) (.c (.int .i64 2))) <| m 11 10 <| .grd 11 true [i 12 (.mov (.t 2)),
   i 13 (.indexA 1 (.t 12) (.c (.int .i64 0))),
   i 14 (.load1 (.t 13)),
   i 15 (.cmp .eql .i64 (.t 14) (.c (.int .i64 1)))] <| o 16 (.pick (.t 11) (.t 15) (.c (.bool false))) <| m 17 16 <| .grd 17 true [i 18 (.mov (.t 2)),
   i 19 (.indexA 1 (.t 18) (.c (.int .i64 1))),
   i 20 (.load1 (.t 19)),
   i 21 (.cmp .eql .i64 (.t 20) (.c (.int .i64 0)))] <| o 22 (.pick (.t 17) (.t 21) (.c (.bool false))) <| m 23 22 <| .grd 23 true [i 24 (.mov (.t 1)),
   i 25 (.mov (.t 2)),
   i 26 (.call 185 [(.t 24), (.t 25)])] <| o 27 (.pick (.t 23) (.t 26) (.c (.bool false))) <| m 28 27 <| .grd 28 true [i 29 (.mov (.t 1)),
   i 30 (.call 178 [(.t 29), (.c (.int .i64 2))])] <| o 31 (.pick (.t 28) (.t 30) (.c (.bool false))) <| m 32 31 <| .grd 32 true [i 33 (.mov (.t 1)),
   i 34 (.indexA 14 (.t 33) (.c (.int .i64 0))),
   i 35 (.loadN 14 (.t 34)),
   i 36 (.mov (.t 1)),
   i 37 (.indexA 14 (.t 36) (.c (.int .i64 1))),
   i 38 (.loadN 14 (.t 37)),
   i 39 (.call 183 [(.t 35), (.t 38)]),
   i 40 (.not (.t 39))] <| o 41 (.pick (.t 32) (.t 40) (.c (.bool false))) <| m 42 41 <| .grd 42 true [i 43 (.mov (.t 1)),
   i 44 (.indexA 14 (.t 43) (.c (.int .i64 1))),
   i 45 (.loadN 14 (.t 44)),
   i 46 (.mov (.t 1)),
   i 47 (.indexA 14 (.t 46) (.c (.int .i64 0))),
   i 48 (.loadN 14 (.t 47)),
   i 49 (.call 183 [(.t 45), (.t 48)]),
   i 50 (.not (.t 49))] <| o 51 (.pick (.t 42) (.t 50) (.c (.bool false))) <| m 0 51 <| .nil)) (
   .ret))))

def withylaw18_awake_hs : List (List Nat × List Nat) := []

end Wm.F
end

section
namespace Wm.F
open Wm
set_option maxRecDepth 100000

def hist_Order_c1 : ACode :=
  .seq (.ops (
   o 11 (.cmp .lss .i64 (.t 10) (.t 9)) <| .nil)) (
  .seq (.cond (.t 11) (.skip) (.exit 0)) (
  .seq (.block 1 (.seq (.ops (
   m 12 10 <| m 4 12 <| .nil)) (
  .ops (
   m 13 3 <| m 14 4 <| m 15 4 <| o 16 (.indexA 1 (.t 13) (.t 14)) <| u (.store 1 (.t 16) (.t 15)) <| .nil)))) (
  .ops (
   o 17 (.arith .add .i64 (.t 10) (.c (.int .i64 1))) <| m 10 17 <| .nil))))

def hist_Order_c0 : ACode :=
  .seq (.ops (
   m 18 3 <| o 19 (.mkFn 336 [(.t 1)]) <| o 20 (.call 335 [(.t 18), (.t 19)]) <| .nil)) (
  .seq (.ops (
   m 21 3 <| m 2 21 <| .nil)) (
  .ret))

def hist_Order : AFunc where
  closed := false
  nparams := 1
  ntmps := 22
  results := [.tmp 2]
  body := .seq (.ops (
   o 1 (.box (.t 0)) <| o 2 (.mov (.c .nilsl)) <| .nil)) (
   .seq (.ops (
   l 5 1 <| o 6 (.lenSl (.t 5)) <| o 7 (.mkSl 1 8 [(.int .i64 0)] (.t 6) (.t 6)) <| m 3 7 <| .nil)) (
   .seq (.seq (.ops (
   m 8 3 <| o 9 (.lenSl (.t 8)) <| o 10 (.mov (.c (.int .i64 0))) <| .nil)) (
   .block 0 (.loop [1, 3, 9, 10] [1, 3] (hist_Order_c1)))) (
   hist_Order_c0)))

def hist_Order_hs : List (List Nat × List Nat) := [([1, 3, 9, 10], [1, 3])]

end Wm.F
end

section
namespace Wm.F
open Wm
set_option maxRecDepth 100000

def hist_Respects_c1 : ACode :=
  .seq (.ops (
   o 20 (.cmp .lss .i64 (.t 19) (.t 18)) <| .nil)) (
  .seq (.cond (.t 20) (.skip) (.exit 0)) (
  .seq (.block 1 (.seq (.ops (
   m 21 19 <| o 22 (.indexA 1 (.t 17) (.t 19)) <| l 23 22 <| m 7 21 <| m 8 23 <| .nil)) (
  .seq (.seq (.ops (
   m 24 8 <| o 25 (.cmp .lss .i64 (.t 24) (.c (.int .i64 0))) <| m 26 25 <| .grd 26 false [i 27 (.mov (.t 8)),
   i 28 (.mov (.t 0)),
   i 29 (.lenSl (.t 28)),
   i 30 (.cmp .geq .i64 (.t 27) (.t 29))] <| o 31 (.pick (.t 26) (.c (.bool true)) (.t 30)) <| m 32 31 <| .grd 32 false [i 33 (.mov (.t 5)),
   i 34 (.mov (.t 8)),
   i 35 (.indexA 1 (.t 33) (.t 34)),
   i 36 (.load1 (.t 35))] <| o 37 (.pick (.t 32) (.c (.bool true)) (.t 36)) <| .nil)) (
  .cond (.t 37) (.seq (.ops (
   o 4 (.mov (.c (.bool false))) <| .nil)) (
   .ret)) (.skip))) (
  .seq (.ops (
   m 38 5 <| m 39 8 <| o 40 (.indexA 1 (.t 38) (.t 39)) <| u (.store 1 (.t 40) (.c (.bool true))) <| .nil)) (
  .seq (.seq (.ops (
   m 41 7 <| o 42 (.cmp .gtr .i64 (.t 41) (.c (.int .i64 0))) <| m 43 42 <| .grd 43 true [i 44 (.mov (.t 0)),
   i 45 (.mov (.t 8)),
   i 46 (.indexA 14 (.t 44) (.t 45)),
   i 47 (.fieldA 4 (.t 46)),
   i 48 (.load1 (.t 47)),
   i 49 (.mov (.t 6)),
   i 50 (.cmp .lss .i64 (.t 48) (.t 49))] <| o 51 (.pick (.t 43) (.t 50) (.c (.bool false))) <| .nil)) (
  .cond (.t 51) (.seq (.ops (
   o 4 (.mov (.c (.bool false))) <| .nil)) (
   .ret)) (.skip))) (
  .seq (.ops (
   m 52 7 <| o 53 (.cmp .eql .i64 (.t 52) (.c (.int .i64 0))) <| m 54 53 <| .grd 54 false [i 55 (.mov (.t 0)),
   i 56 (.mov (.t 8)),
   i 57 (.indexA 14 (.t 55) (.t 56)),
   i 58 (.fieldA 2 (.t 57)),
   i 59 (.load1 (.t 58)),
   i 60 (.mov (.t 6)),
   i 61 (.cmp .gtr .i64 (.t 59) (.t 60))] <| o 62 (.pick (.t 54) (.c (.bool true)) (.t 61)) <| .nil)) (
  .cond (.t 62) (.ops (
   m 63 0 <| m 64 8 <| o 65 (.indexA 14 (.t 63) (.t 64)) <| d 66 2 65 <| l 67 66 <| m 6 67 <| .nil)) (.skip)))))))) (
  .ops (
   o 68 (.arith .add .i64 (.t 19) (.c (.int .i64 1))) <| m 19 68 <| .nil))))

def hist_Respects_c0 : ACode :=
  .seq (.ops (
   o 4 (.mov (.c (.bool true))) <| .nil)) (
  .ret)

def hist_Respects : AFunc where
  closed := false
  nparams := 2
  ntmps := 69
  results := [.tmp 4]
  body := .seq (.ops (
   o 4 (.mov (.c (.bool false))) <| .nil)) (
   .seq (.seq (.ops (
   m 9 1 <| o 10 (.lenSl (.t 9)) <| m 11 0 <| o 12 (.lenSl (.t 11)) <| o 13 (.cmp .neq .i64 (.t 10) (.t 12)) <| .nil)) (
   .cond (.t 13) (.seq (.ops (
   o 4 (.mov (.c (.bool false))) <| .nil)) (
   .ret)) (.skip))) (
   .seq (.ops (
   m 14 0 <| o 15 (.lenSl (.t 14)) <| o 16 (.mkSl 1 1 [(.bool false)] (.t 15) (.t 15)) <| m 5 16 <| .nil)) (
   .seq (.ops (
   o 6 (.mov (.c (.int .i64 0))) <| .nil)) (
   .seq (.seq (.ops (
   m 17 1 <| o 18 (.lenSl (.t 17)) <| o 19 (.mov (.c (.int .i64 0))) <| .nil)) (
   .block 0 (.loop [0, 5, 6, 17, 18, 19] [4] (hist_Respects_c1)))) (
   hist_Respects_c0)))))

def hist_Respects_hs : List (List Nat × List Nat) := [([0, 5, 6, 17, 18, 19], [4])]

end Wm.F
end

section
namespace Wm.F
open Wm
set_option maxRecDepth 100000

def withylaw18_far : AFunc where
  closed := true
  nparams := 1
  ntmps := 9
  results := [.tmp 2]
  body := .seq (.ops (
   o 2 (.mov (.c (.bool false))) <| .nil)) (
   .seq (.ops (
   m 3 0 <| o 4 (.cmp .gtr .i64 (.t 3) (.c (.int .i64 1099511627776))) <| m 5 4 <| .grd 5 false [i 6 (.mov (.t 0)),
   i 7 (.cmp .lss .i64 (.t 6) (.c (.int .i64 (-1099511627776))))] <| o 8 (.pick (.t 5) (.c (.bool true)) (.t 7)) <| m 2 8 <| .nil)) (
   .ret))

def withylaw18_far_hs : List (List Nat × List Nat) := []

end Wm.F
end

section
namespace Wm.F
open Wm
set_option maxRecDepth 100000

def hist_Ahead : AFunc where
  closed := true
  nparams := 2
  ntmps := 10
  results := [.tmp 4]
  body := .seq (.ops (
   o 2 (.box (.t 0)) <| o 3 (.box (.t 1)) <| o 4 (.mov (.c (.bool false))) <| .nil)) (
   .seq (.ops (
   d 5 4 2 <| l 6 5 <| d 7 2 3 <| l 8 7 <| o 9 (.cmp .lss .i64 (.t 6) (.t 8)) <| m 4 9 <| .nil)) (
   .ret))

def hist_Ahead_hs : List (List Nat × List Nat) := []

end Wm.F
end

section
namespace Wm.F
open Wm
set_option maxRecDepth 100000

def slices_SortFunc___int_int_ : AFunc where
  closed := false
  nparams := 2
  ntmps := 14
  results := []
  body := .seq (.ops (
   m 5 0 <| o 6 (.lenSl (.t 5)) <| m 4 6 <| .nil)) (
   .ops (
   m 7 0 <| m 8 4 <| m 9 4 <| o 10 (.conv .u64 (.t 9)) <| o 11 (.call 406 [(.t 10)]) <| m 12 1 <| o 13 (.call 405 [(.t 7), (.c (.int .i64 0)), (.t 8), (.t 11), (.t 12)]) <| .nil))

def slices_SortFunc___int_int__hs : List (List Nat × List Nat) := []

end Wm.F
end

section
namespace Wm.F
open Wm
set_option maxRecDepth 100000

def hist_Right_1 : AFunc where
  closed := false
  nparams := 3
  ntmps := 17
  results := [.tmp 5]
  body := .seq (.ops (
   o 5 (.mov (.c (.int .i64 0))) <| .nil)) (
   .seq (.ops (
   l 6 2 <| m 7 0 <| o 8 (.indexA 14 (.t 6) (.t 7)) <| d 9 1 8 <| l 10 9 <| l 11 2 <| m 12 1 <| o 13 (.indexA 14 (.t 11) (.t 12)) <| d 14 1 13 <| l 15 14 <|
   o 16 (.call 334 [(.t 10), (.t 15)]) <| m 5 16 <| .nil)) (
   .ret))

def hist_Right_1_hs : List (List Nat × List Nat) := []

end Wm.F
end

section
namespace Wm.F
open Wm
set_option maxRecDepth 100000

def slices_SortStableFunc___int_int_ : AFunc where
  closed := false
  nparams := 2
  ntmps := 9
  results := []
  body := .ops (
   m 4 0 <| m 5 0 <| o 6 (.lenSl (.t 5)) <| m 7 1 <| o 8 (.call 408 [(.t 4), (.t 6), (.t 7)]) <| .nil)

def slices_SortStableFunc___int_int__hs : List (List Nat × List Nat) := []

end Wm.F
end

section
namespace Wm.F
open Wm
set_option maxRecDepth 100000

def hist_Order_1 : AFunc where
  closed := false
  nparams := 3
  ntmps := 38
  results := [.tmp 5]
  body := .seq (.ops (
   o 5 (.mov (.c (.int .i64 0))) <| .nil)) (
   .seq (.ops (
   l 8 2 <| m 9 0 <| o 10 (.indexA 14 (.t 8) (.t 9)) <| ln 11 14 10 <| l 12 2 <| m 13 1 <| o 14 (.indexA 14 (.t 12) (.t 13)) <| ln 15 14 14 <|
   o 6 (.alloc [(.int .i64 0), (.int .i64 0), (.int .i64 0), (.int .i64 0), (.int .i64 0), (.bool false), (.int .i64 0), (.int .i64 0), (.int .u64 0), (.int .u64 0), (.int .u64 0), (.int .i64 0), (.int .u64 0), (.bool false)]) <| o 7 (.alloc [(.int .i64 0), (.int .i64 0), (.int .i64 0), (.int .i64 0), (.int .i64 0), (.bool false), (.int .i64 0), (.int .i64 0), (.int .u64 0), (.int .u64 0), (.int .u64 0), (.int .i64 0), (.int .u64 0), (.bool false)]) <| .op ⟨none, .store 14 (.t 6) (.t 11), [{ g := none, op := .loadN 14 (.t 14), d := 15 }, { g := none, op := .load1 (.t 2), d := 12 }]⟩ <| u (.store 14 (.t 7) (.t 15)) <| .nil)) (
   .seq (.ops (
   d 16 3 6 <| l 17 16 <| d 18 3 7 <| l 19 18 <| ln 21 14 6 <| ln 23 14 7 <| d 26 0 6 <| l 27 26 <| d 28 0 7 <| l 29 28 <| d 31 1 6 <| l 32 31 <| d 33 1 7 <| l 34 33 <|
   .op ⟨(some 20), .call 334 [(.t 17), (.t 19)], [{ g := none, op := .load1 (.t 33), d := 34 }, { g := none, op := .load1 (.t 31), d := 32 }, { g := none, op := .load1 (.t 28), d := 29 }, { g := none, op := .load1 (.t 26), d := 27 }, { g := none, op := .loadN 14 (.t 7), d := 23 }, { g := none, op := .loadN 14 (.t 6), d := 21 }]⟩ <| .op ⟨(some 22), .call 338 [(.t 21)], [{ g := none, op := .load1 (.t 33), d := 34 }, { g := none, op := .load1 (.t 31), d := 32 }, { g := none, op := .load1 (.t 28), d := 29 }, { g := none, op := .load1 (.t 26), d := 27 }, { g := none, op := .loadN 14 (.t 7), d := 23 }]⟩ <| .op ⟨(some 24), .call 338 [(.t 23)], [{ g := none, op := .load1 (.t 33), d := 34 }, { g := none, op := .load1 (.t 31), d := 32 }, { g := none, op := .load1 (.t 28), d := 29 }, { g := none, op := .load1 (.t 26), d := 27 }]⟩ <| .op ⟨(some 25), .call 334 [(.t 22), (.t 24)], [{ g := none, op := .load1 (.t 33), d := 34 }, { g := none, op := .load1 (.t 31), d := 32 }, { g := none, op := .load1 (.t 28), d := 29 }, { g := none, op := .load1 (.t 26), d := 27 }]⟩ <| .op ⟨(some 30), .call 334 [(.t 27), (.t 29)], [{ g := none, op := .load1 (.t 33), d := 34 }, { g := none, op := .load1 (.t 31), d := 32 }]⟩ <| o 35 (.call 334 [(.t 32), (.t 34)]) <| o 36 (.buildSl 1 4 [(.int .i64 0)] [(0, 1, (.t 20)), (1, 1, (.t 25)), (2, 1, (.t 30)), (3, 1, (.t 35))]) <| o 37 (.call 337 [(.t 36)]) <| m 5 37 <| .nil)) (
   .ret)))

def hist_Order_1_hs : List (List Nat × List Nat) := []

end Wm.F
end

section
namespace Wm.F
open Wm
set_option maxRecDepth 100000

def slices_pdqsortCmpFunc_int__c10 : ACode :=
  .seq (.ops (
   m 81 1 <| o 82 (.cmp .gtr .i64 (.t 81) (.c (.int .i64 0))) <| m 83 82 <| .grd 83 true [i 84 (.mov (.t 4)),
   i 85 (.mov (.t 0)),
   i 86 (.mov (.t 1)),
   i 87 (.arith .sub .i64 (.t 86) (.c (.int .i64 1))),
   i 88 (.indexA 1 (.t 85) (.t 87)),
   i 89 (.load1 (.t 88)),
   i 90 (.mov (.t 0)),
   i 91 (.mov (.t 13)),
   i 92 (.indexA 1 (.t 90) (.t 91)),
   i 93 (.load1 (.t 92)),
   i 94 (.callv (.t 84) [(.t 89), (.t 93)]),
   i 95 (.cmp .lss .i64 (.t 94) (.c (.int .i64 0))),
   i 96 (.not (.t 95))] <| o 97 (.pick (.t 83) (.t 96) (.c (.bool false))) <| .nil)) (
  .cond (.t 97) (.seq (.ops (
   m 98 0 <| m 99 1 <| m 100 2 <| m 101 13 <| m 102 4 <| o 103 (.call 456 [(.t 98), (.t 99), (.t 100), (.t 101), (.t 102)]) <| m 15 103 <| .nil)) (
   .seq (.ops (
   m 104 15 <| m 1 104 <| .nil)) (
   .exit 1))) (.skip))

def slices_pdqsortCmpFunc_int__c9 : ACode :=
  .seq (.ops (
   m 106 0 <| m 107 1 <| m 108 2 <| m 109 13 <| m 110 4 <| o 111 (.call 457 [(.t 106), (.t 107), (.t 108), (.t 109), (.t 110)]) <| m 105 111 <| o 112 (.extract (.t 105) 0) <|
   o 113 (.extract (.t 105) 1) <| m 16 112 <| m 17 113 <| .nil)) (
  .seq (.ops (
   m 114 17 <| m 11 114 <| .nil)) (
  .seq (.ops (
   m 115 16 <| m 116 1 <| o 117 (.arith .sub .i64 (.t 115) (.t 116)) <| m 118 2 <| m 119 16 <| o 120 (.arith .sub .i64 (.t 118) (.t 119)) <| m 18 117 <| m 19 120 <| .nil)) (
  .seq (.ops (
   m 121 12 <| o 122 (.arith .quo .i64 (.t 121) (.c (.int .i64 8))) <| m 20 122 <| .nil)) (
  .seq (.ops (
   m 123 18 <| m 124 19 <| o 125 (.cmp .lss .i64 (.t 123) (.t 124)) <| .nil)) (
  .cond (.t 125) (.seq (.ops (
   m 126 18 <| m 127 20 <| o 128 (.cmp .geq .i64 (.t 126) (.t 127)) <| m 10 128 <| .nil)) (
   .seq (.ops (
   m 129 0 <| m 130 1 <| m 131 16 <| m 132 3 <| m 133 4 <| o 134 (.call 405 [(.t 129), (.t 130), (.t 131), (.t 132), (.t 133)]) <| .nil)) (
   .ops (
   m 135 16 <| o 136 (.arith .add .i64 (.t 135) (.c (.int .i64 1))) <| m 1 136 <| .nil)))) (.seq (.ops (
   m 137 19 <| m 138 20 <| o 139 (.cmp .geq .i64 (.t 137) (.t 138)) <| m 10 139 <| .nil)) (
   .seq (.ops (
   m 140 0 <| m 141 16 <| o 142 (.arith .add .i64 (.t 141) (.c (.int .i64 1))) <| m 143 2 <| m 144 3 <| m 145 4 <|
   o 146 (.call 405 [(.t 140), (.t 142), (.t 143), (.t 144), (.t 145)]) <| .nil)) (
   .ops (
   m 147 16 <| m 2 147 <| .nil)))))))))

def slices_pdqsortCmpFunc_int__c8 : ACode :=
  .ops (
   m 68 10 <| m 69 68 <| .grd 69 true [i 70 (.mov (.t 11))] <| o 71 (.pick (.t 69) (.t 70) (.c (.bool false))) <| m 72 71 <| .grd 72 true [i 73 (.mov (.t 14)),
   i 74 (.cmp .eql .i64 (.t 73) (.c (.int .i64 1)))] <| o 75 (.pick (.t 72) (.t 74) (.c (.bool false))) <| .nil)

def slices_pdqsortCmpFunc_int__c7 : ACode :=
  .cond (.t 75) (.seq (.ops (
   m 76 0 <| m 77 1 <| m 78 2 <| m 79 4 <| o 80 (.call 455 [(.t 76), (.t 77), (.t 78), (.t 79)]) <| .nil)) (
   .cond (.t 80) (.ret) (.skip))) (.skip)

def slices_pdqsortCmpFunc_int__c6 : ACode :=
  .seq (.join [0, 1, 2, 3, 4, 10, 11, 12, 13, 14] [0, 1, 2, 3, 4, 10, 11, 12, 13, 75] (slices_pdqsortCmpFunc_int__c8)) (
  slices_pdqsortCmpFunc_int__c7)

def slices_pdqsortCmpFunc_int__c5 : ACode :=
  .seq (.join [0, 1, 2, 3, 4, 10, 11, 12, 13] [0, 1, 2, 3, 4, 10, 11, 12, 13] (slices_pdqsortCmpFunc_int__c10)) (
  slices_pdqsortCmpFunc_int__c9)

def slices_pdqsortCmpFunc_int__c4 : ACode :=
  .seq (.ops (
   m 55 14 <| o 56 (.cmp .eql .i64 (.t 55) (.c (.int .i64 2))) <| .nil)) (
  .cond (.t 56) (.seq (.ops (
   m 57 0 <| m 58 1 <| m 59 2 <| m 60 4 <| o 61 (.call 454 [(.t 57), (.t 58), (.t 59), (.t 60)]) <| .nil)) (
   .seq (.ops (
   m 62 2 <| o 63 (.arith .sub .i64 (.t 62) (.c (.int .i64 1))) <| m 64 13 <| m 65 1 <| o 66 (.arith .sub .i64 (.t 64) (.t 65)) <| o 67 (.arith .sub .i64 (.t 63) (.t 66)) <|
   m 13 67 <| .nil)) (
   .ops (
   o 14 (.mov (.c (.int .i64 1))) <| .nil)))) (.skip))

def slices_pdqsortCmpFunc_int__c3 : ACode :=
  .seq (.join [0, 1, 2, 3, 4, 10, 11, 12, 13, 14] [0, 1, 2, 3, 4, 10, 11, 12, 13] (slices_pdqsortCmpFunc_int__c6)) (
  slices_pdqsortCmpFunc_int__c5)

def slices_pdqsortCmpFunc_int__c2 : ACode :=
  .seq (.ops (
   m 38 10 <| o 39 (.not (.t 38)) <| .nil)) (
  .cond (.t 39) (.seq (.ops (
   m 40 0 <| m 41 1 <| m 42 2 <| m 43 4 <| o 44 (.call 452 [(.t 40), (.t 41), (.t 42), (.t 43)]) <| .nil)) (
   .ops (
   m 45 3 <| o 46 (.arith .sub .i64 (.t 45) (.c (.int .i64 1))) <| m 3 46 <| .nil))) (.skip))

def slices_pdqsortCmpFunc_int__c1 : ACode :=
  .seq (.ops (
   m 48 0 <| m 49 1 <| m 50 2 <| m 51 4 <| o 52 (.call 453 [(.t 48), (.t 49), (.t 50), (.t 51)]) <| m 47 52 <| o 53 (.extract (.t 47) 0) <| o 54 (.extract (.t 47) 1) <| m 13 53 <|
   m 14 54 <| .nil)) (
  .seq (.join [0, 1, 2, 3, 4, 10, 11, 12, 13, 14] [0, 1, 2, 3, 4, 10, 11, 12, 13, 14] (slices_pdqsortCmpFunc_int__c4)) (
  slices_pdqsortCmpFunc_int__c3))

def slices_pdqsortCmpFunc_int__c0 : ACode :=
  .block 1 (.seq (.ops (
   m 21 2 <| m 22 1 <| o 23 (.arith .sub .i64 (.t 21) (.t 22)) <| m 12 23 <| .nil)) (
  .seq (.seq (.ops (
   m 24 12 <| o 25 (.cmp .leq .i64 (.t 24) (.c (.int .i64 12))) <| .nil)) (
  .cond (.t 25) (.seq (.ops (
   m 26 0 <| m 27 1 <| m 28 2 <| m 29 4 <| o 30 (.call 450 [(.t 26), (.t 27), (.t 28), (.t 29)]) <| .nil)) (
   .ret)) (.skip))) (
  .seq (.seq (.ops (
   m 31 3 <| o 32 (.cmp .eql .i64 (.t 31) (.c (.int .i64 0))) <| .nil)) (
  .cond (.t 32) (.seq (.ops (
   m 33 0 <| m 34 1 <| m 35 2 <| m 36 4 <| o 37 (.call 451 [(.t 33), (.t 34), (.t 35), (.t 36)]) <| .nil)) (
   .ret)) (.skip))) (
  .seq (.join [0, 1, 2, 3, 4, 10, 11, 12] [0, 1, 2, 3, 4, 10, 11, 12] (slices_pdqsortCmpFunc_int__c2)) (
  slices_pdqsortCmpFunc_int__c1)))))

def slices_pdqsortCmpFunc_int_ : AFunc where
  closed := false
  nparams := 5
  ntmps := 148
  results := []
  body := .seq (.ops (
   o 10 (.mov (.c (.bool true))) <| .nil)) (
   .seq (.ops (
   o 11 (.mov (.c (.bool true))) <| .nil)) (
   .block 0 (.loop [0, 1, 2, 3, 4, 10, 11] [] (slices_pdqsortCmpFunc_int__c0))))

def slices_pdqsortCmpFunc_int__hs : List (List Nat × List Nat) := [([0, 1, 2, 3, 4, 10, 11], []), ([1000007, 0, 1, 2, 3, 4, 10, 11, 12], [0, 1, 2, 3, 4, 10, 11, 12]), ([1000003, 0, 1, 2, 3, 4, 10, 11, 12, 13, 14], [0, 1, 2, 3, 4, 10, 11, 12, 13, 14]), ([1000003, 0, 1, 2, 3, 4, 10, 11, 12, 13, 14], [0, 1, 2, 3, 4, 10, 11, 12, 13]), ([1000000, 0, 1, 2, 3, 4, 10, 11, 12, 13, 14], [0, 1, 2, 3, 4, 10, 11, 12, 13, 75]), ([1000001, 0, 1, 2, 3, 4, 10, 11, 12, 13], [0, 1, 2, 3, 4, 10, 11, 12, 13])]

end Wm.F
end

section
namespace Wm.F
open Wm
set_option maxRecDepth 100000

def math_bits_Len : AFunc where
  closed := true
  nparams := 1
  ntmps := 8
  results := [.tmp 2]
  body := .seq (.ops (
   o 2 (.mov (.c (.int .i64 0))) <| .nil)) (
   .seq (.cond (.c (.bool false)) (.seq (.ops (
   m 3 0 <| o 4 (.conv .u32 (.t 3)) <| o 5 (.call 458 [(.t 4)]) <| m 2 5 <| .nil)) (
   .ret)) (.skip)) (
   .seq (.ops (
   m 6 0 <| o 7 (.call 459 [(.t 6)]) <| m 2 7 <| .nil)) (
   .ret)))

def math_bits_Len_hs : List (List Nat × List Nat) := []

end Wm.F
end

section
namespace Wm.F
open Wm
set_option maxRecDepth 100000

def cmp_Compare_int_ : AFunc where
  closed := true
  nparams := 2
  ntmps := 20
  results := [.tmp 4]
  body := .seq (.ops (
   o 4 (.mov (.c (.int .i64 0))) <| .nil)) (
   .seq (.ops (
   m 7 0 <| o 8 (.call 407 [(.t 7)]) <| m 5 8 <| .nil)) (
   .seq (.ops (
   m 9 1 <| o 10 (.call 407 [(.t 9)]) <| m 6 10 <| .nil)) (
   .seq (.seq (.ops (
   m 11 5 <| .nil)) (
   .cond (.t 11) (.seq (.seq (.ops (
   m 12 6 <| .nil)) (
   .cond (.t 12) (.seq (.ops (
   o 4 (.mov (.c (.int .i64 0))) <| .nil)) (
   .ret)) (.skip))) (
   .seq (.ops (
   o 4 (.mov (.c (.int .i64 (-1)))) <| .nil)) (
   .ret))) (.skip))) (
   .seq (.seq (.ops (
   m 13 6 <| .nil)) (
   .cond (.t 13) (.seq (.ops (
   o 4 (.mov (.c (.int .i64 1))) <| .nil)) (
   .ret)) (.skip))) (
   .seq (.seq (.ops (
   m 14 0 <| m 15 1 <| o 16 (.cmp .lss .i64 (.t 14) (.t 15)) <| .nil)) (
   .cond (.t 16) (.seq (.ops (
   o 4 (.mov (.c (.int .i64 (-1)))) <| .nil)) (
   .ret)) (.skip))) (
   .seq (.seq (.ops (
   m 17 0 <| m 18 1 <| o 19 (.cmp .gtr .i64 (.t 17) (.t 18)) <| .nil)) (
   .cond (.t 19) (.seq (.ops (
   o 4 (.mov (.c (.int .i64 1))) <| .nil)) (
   .ret)) (.skip))) (
   .seq (.ops (
   o 4 (.mov (.c (.int .i64 0))) <| .nil)) (
   .ret))))))))

def cmp_Compare_int__hs : List (List Nat × List Nat) := []

end Wm.F
end

section
namespace Wm.F
open Wm
set_option maxRecDepth 100000

def slices_stableCmpFunc_int__c4 : ACode :=
  .seq (.seq (.ops (
   m 33 8 <| m 34 1 <| o 35 (.cmp .leq .i64 (.t 33) (.t 34)) <| .nil)) (
  .cond (.t 35) (.skip) (.exit 4))) (
  .block 5 (.seq (.ops (
   m 36 0 <| m 37 7 <| m 38 7 <| m 39 6 <| o 40 (.arith .add .i64 (.t 38) (.t 39)) <| m 41 8 <| m 42 2 <| o 43 (.call 460 [(.t 36), (.t 37), (.t 40), (.t 41), (.t 42)]) <| .nil)) (
  .seq (.ops (
   m 44 8 <| m 7 44 <| .nil)) (
  .ops (
   m 45 8 <| m 46 6 <| o 47 (.arith .mul .i64 (.c (.int .i64 2)) (.t 46)) <| o 48 (.arith .add .i64 (.t 45) (.t 47)) <| m 8 48 <| .nil)))))

def slices_stableCmpFunc_int__c3 : ACode :=
  .seq (.seq (.ops (
   m 49 7 <| m 50 6 <| o 51 (.arith .add .i64 (.t 49) (.t 50)) <| m 9 51 <| .nil)) (
  .seq (.ops (
   m 52 9 <| m 53 1 <| o 54 (.cmp .lss .i64 (.t 52) (.t 53)) <| .nil)) (
  .cond (.t 54) (.ops (
   m 55 0 <| m 56 7 <| m 57 9 <| m 58 1 <| m 59 2 <| o 60 (.call 460 [(.t 55), (.t 56), (.t 57), (.t 58), (.t 59)]) <| .nil)) (.skip)))) (
  .ops (
   m 61 6 <| o 62 (.arith .mul .i64 (.t 61) (.c (.int .i64 2))) <| m 6 62 <| .nil))

def slices_stableCmpFunc_int__c2 : ACode :=
  .seq (.seq (.ops (
   m 28 6 <| m 29 1 <| o 30 (.cmp .lss .i64 (.t 28) (.t 29)) <| .nil)) (
  .cond (.t 30) (.skip) (.exit 2))) (
  .block 3 (.seq (.ops (
   m 31 6 <| o 32 (.arith .mul .i64 (.c (.int .i64 2)) (.t 31)) <| o 7 (.mov (.c (.int .i64 0))) <| m 8 32 <| .nil)) (
  .seq (.block 4 (.loop [0, 1, 2, 6, 7, 8] [0, 1, 2, 6, 7] (slices_stableCmpFunc_int__c4))) (
  slices_stableCmpFunc_int__c3))))

def slices_stableCmpFunc_int__c1 : ACode :=
  .seq (.seq (.ops (
   m 11 8 <| m 12 1 <| o 13 (.cmp .leq .i64 (.t 11) (.t 12)) <| .nil)) (
  .cond (.t 13) (.skip) (.exit 0))) (
  .block 1 (.seq (.ops (
   m 14 0 <| m 15 7 <| m 16 8 <| m 17 2 <| o 18 (.call 450 [(.t 14), (.t 15), (.t 16), (.t 17)]) <| .nil)) (
  .seq (.ops (
   m 19 8 <| m 7 19 <| .nil)) (
  .ops (
   m 20 8 <| m 21 6 <| o 22 (.arith .add .i64 (.t 20) (.t 21)) <| m 8 22 <| .nil)))))

def slices_stableCmpFunc_int__c0 : ACode :=
  .seq (.ops (
   m 23 0 <| m 24 7 <| m 25 1 <| m 26 2 <| o 27 (.call 450 [(.t 23), (.t 24), (.t 25), (.t 26)]) <| .nil)) (
  .block 2 (.loop [0, 1, 2, 6] [] (slices_stableCmpFunc_int__c2)))

def slices_stableCmpFunc_int_ : AFunc where
  closed := false
  nparams := 3
  ntmps := 63
  results := []
  body := .seq (.ops (
   o 6 (.mov (.c (.int .i64 20))) <| .nil)) (
   .seq (.ops (
   m 10 6 <| o 7 (.mov (.c (.int .i64 0))) <| m 8 10 <| .nil)) (
   .seq (.block 0 (.loop [0, 1, 2, 6, 7, 8] [0, 1, 2, 6, 7] (slices_stableCmpFunc_int__c1))) (
   slices_stableCmpFunc_int__c0)))

def slices_stableCmpFunc_int__hs : List (List Nat × List Nat) := [([0, 1, 2, 6, 7, 8], [0, 1, 2, 6, 7]), ([0, 1, 2, 6], []), ([0, 1, 2, 6, 7, 8], [0, 1, 2, 6, 7])]

end Wm.F
end

section
namespace Wm.F
open Wm
set_option maxRecDepth 100000

def cmp_Or_int__c1 : ACode :=
  .seq (.ops (
   o 9 (.cmp .lss .i64 (.t 8) (.t 7)) <| .nil)) (
  .seq (.cond (.t 9) (.skip) (.exit 0)) (
  .seq (.block 1 (.seq (.ops (
   o 10 (.indexA 1 (.t 6) (.t 8)) <| l 11 10 <| m 5 11 <| .nil)) (
  .seq (.ops (
   m 12 5 <| m 13 3 <| o 14 (.cmp .neq .i64 (.t 12) (.t 13)) <| .nil)) (
  .cond (.t 14) (.seq (.ops (
   m 15 5 <| m 2 15 <| .nil)) (
   .ret)) (.skip))))) (
  .ops (
   o 16 (.arith .add .i64 (.t 8) (.c (.int .i64 1))) <| m 8 16 <| .nil))))

def cmp_Or_int__c0 : ACode :=
  .seq (.ops (
   m 17 3 <| m 2 17 <| .nil)) (
  .ret)

def cmp_Or_int_ : AFunc where
  closed := false
  nparams := 1
  ntmps := 18
  results := [.tmp 2]
  body := .seq (.ops (
   o 2 (.mov (.c (.int .i64 0))) <| .nil)) (
   .seq (.ops (
   o 3 (.mov (.c (.int .i64 0))) <| .nil)) (
   .seq (.seq (.ops (
   m 6 0 <| o 7 (.lenSl (.t 6)) <| o 8 (.mov (.c (.int .i64 0))) <| .nil)) (
   .block 0 (.loop [3, 6, 7, 8] [2, 3] (cmp_Or_int__c1)))) (
   cmp_Or_int__c0)))

def cmp_Or_int__hs : List (List Nat × List Nat) := [([3, 6, 7, 8], [2, 3])]

end Wm.F
end

section
namespace Wm.F
open Wm
set_option maxRecDepth 100000

def hist_behind : AFunc where
  closed := true
  nparams := 1
  ntmps := 5
  results := [.tmp 2]
  body := .seq (.ops (
   o 1 (.box (.t 0)) <| o 2 (.mov (.c (.int .i64 0))) <| .nil)) (
   .seq (.seq (.ops (
   d 3 5 1 <| l 4 3 <| .nil)) (
   .cond (.t 4) (.seq (.ops (
   o 2 (.mov (.c (.int .i64 1))) <| .nil)) (
   .ret)) (.skip))) (
   .seq (.ops (
   o 2 (.mov (.c (.int .i64 0))) <| .nil)) (
   .ret)))

def hist_behind_hs : List (List Nat × List Nat) := []

end Wm.F
end

section
namespace Wm.F
open Wm
set_option maxRecDepth 100000

def slices_insertionSortCmpFunc_int__c2 : ACode :=
  .seq (.seq (.ops (
   m 18 9 <| m 19 1 <| o 20 (.cmp .gtr .i64 (.t 18) (.t 19)) <| m 21 20 <| .grd 21 true [i 22 (.mov (.t 3)),
   i 23 (.mov (.t 0)),
   i 24 (.mov (.t 9)),
   i 25 (.indexA 1 (.t 23) (.t 24)),
   i 26 (.load1 (.t 25)),
   i 27 (.mov (.t 0)),
   i 28 (.mov (.t 9)),
   i 29 (.arith .sub .i64 (.t 28) (.c (.int .i64 1))),
   i 30 (.indexA 1 (.t 27) (.t 29)),
   i 31 (.load1 (.t 30)),
   i 32 (.callv (.t 22) [(.t 26), (.t 31)]),
   i 33 (.cmp .lss .i64 (.t 32) (.c (.int .i64 0)))] <| o 34 (.pick (.t 21) (.t 33) (.c (.bool false))) <| .nil)) (
  .cond (.t 34) (.skip) (.exit 2))) (
  .seq (.block 3 (.ops (
   m 37 0 <| m 38 9 <| m 39 0 <| m 40 9 <| o 41 (.arith .sub .i64 (.t 40) (.c (.int .i64 1))) <| m 42 0 <| m 43 9 <| o 44 (.arith .sub .i64 (.t 43) (.c (.int .i64 1))) <|
   o 45 (.indexA 1 (.t 42) (.t 44)) <| l 46 45 <| m 47 0 <| m 48 9 <| o 49 (.indexA 1 (.t 47) (.t 48)) <| l 50 49 <| o 51 (.indexA 1 (.t 37) (.t 38)) <|
   u (.store 1 (.t 51) (.t 46)) <| o 52 (.indexA 1 (.t 39) (.t 41)) <| u (.store 1 (.t 52) (.t 50)) <| .nil))) (
  .ops (
   m 35 9 <| o 36 (.arith .sub .i64 (.t 35) (.c (.int .i64 1))) <| m 9 36 <| .nil)))

def slices_insertionSortCmpFunc_int__c1 : ACode :=
  .ops (
   m 15 8 <| o 16 (.arith .add .i64 (.t 15) (.c (.int .i64 1))) <| m 8 16 <| .nil)

def slices_insertionSortCmpFunc_int__c0 : ACode :=
  .seq (.seq (.ops (
   m 12 8 <| m 13 2 <| o 14 (.cmp .lss .i64 (.t 12) (.t 13)) <| .nil)) (
  .cond (.t 14) (.skip) (.exit 0))) (
  .seq (.block 1 (.seq (.ops (
   m 17 8 <| m 9 17 <| .nil)) (
  .block 2 (.loop [0, 1, 2, 3, 8, 9] [0, 1, 2, 3, 8] (slices_insertionSortCmpFunc_int__c2))))) (
  slices_insertionSortCmpFunc_int__c1))

def slices_insertionSortCmpFunc_int_ : AFunc where
  closed := false
  nparams := 4
  ntmps := 53
  results := []
  body := .seq (.ops (
   m 10 1 <| o 11 (.arith .add .i64 (.t 10) (.c (.int .i64 1))) <| m 8 11 <| .nil)) (
   .block 0 (.loop [0, 1, 2, 3, 8] [] (slices_insertionSortCmpFunc_int__c0)))

def slices_insertionSortCmpFunc_int__hs : List (List Nat × List Nat) := [([0, 1, 2, 3, 8], []), ([0, 1, 2, 3, 8, 9], [0, 1, 2, 3, 8])]

end Wm.F
end

section
namespace Wm.F
open Wm
set_option maxRecDepth 100000

def slices_heapSortCmpFunc_int__c2 : ACode :=
  .seq (.seq (.ops (
   m 32 12 <| o 33 (.cmp .geq .i64 (.t 32) (.c (.int .i64 0))) <| .nil)) (
  .cond (.t 33) (.skip) (.exit 2))) (
  .seq (.block 3 (.seq (.ops (
   m 36 0 <| m 37 8 <| m 38 0 <| m 39 8 <| m 40 12 <| o 41 (.arith .add .i64 (.t 39) (.t 40)) <| m 42 0 <| m 43 8 <| m 44 12 <| o 45 (.arith .add .i64 (.t 43) (.t 44)) <|
   o 46 (.indexA 1 (.t 42) (.t 45)) <| l 47 46 <| m 48 0 <| m 49 8 <| o 50 (.indexA 1 (.t 48) (.t 49)) <| l 51 50 <| o 52 (.indexA 1 (.t 36) (.t 37)) <|
   u (.store 1 (.t 52) (.t 47)) <| o 53 (.indexA 1 (.t 38) (.t 41)) <| u (.store 1 (.t 53) (.t 51)) <| .nil)) (
  .ops (
   m 54 0 <| m 55 9 <| m 56 12 <| m 57 8 <| m 58 3 <| o 59 (.call 487 [(.t 54), (.t 55), (.t 56), (.t 57), (.t 58)]) <| .nil)))) (
  .ops (
   m 34 12 <| o 35 (.arith .sub .i64 (.t 34) (.c (.int .i64 1))) <| m 12 35 <| .nil)))

def slices_heapSortCmpFunc_int__c1 : ACode :=
  .seq (.seq (.ops (
   m 20 11 <| o 21 (.cmp .geq .i64 (.t 20) (.c (.int .i64 0))) <| .nil)) (
  .cond (.t 21) (.skip) (.exit 0))) (
  .seq (.block 1 (.ops (
   m 24 0 <| m 25 11 <| m 26 10 <| m 27 8 <| m 28 3 <| o 29 (.call 487 [(.t 24), (.t 25), (.t 26), (.t 27), (.t 28)]) <| .nil))) (
  .ops (
   m 22 11 <| o 23 (.arith .sub .i64 (.t 22) (.c (.int .i64 1))) <| m 11 23 <| .nil)))

def slices_heapSortCmpFunc_int__c0 : ACode :=
  .seq (.ops (
   m 30 10 <| o 31 (.arith .sub .i64 (.t 30) (.c (.int .i64 1))) <| m 12 31 <| .nil)) (
  .block 2 (.loop [0, 3, 8, 9, 12] [] (slices_heapSortCmpFunc_int__c2)))

def slices_heapSortCmpFunc_int_ : AFunc where
  closed := false
  nparams := 4
  ntmps := 60
  results := []
  body := .seq (.ops (
   m 13 1 <| m 8 13 <| .nil)) (
   .seq (.ops (
   o 9 (.mov (.c (.int .i64 0))) <| .nil)) (
   .seq (.ops (
   m 14 2 <| m 15 1 <| o 16 (.arith .sub .i64 (.t 14) (.t 15)) <| m 10 16 <| .nil)) (
   .seq (.seq (.ops (
   m 17 10 <| o 18 (.arith .sub .i64 (.t 17) (.c (.int .i64 1))) <| o 19 (.arith .quo .i64 (.t 18) (.c (.int .i64 2))) <| m 11 19 <| .nil)) (
   .block 0 (.loop [0, 3, 8, 9, 10, 11] [0, 3, 8, 9, 10] (slices_heapSortCmpFunc_int__c1)))) (
   slices_heapSortCmpFunc_int__c0))))

def slices_heapSortCmpFunc_int__hs : List (List Nat × List Nat) := [([0, 3, 8, 9, 10, 11], [0, 3, 8, 9, 10]), ([0, 3, 8, 9, 12], [])]

end Wm.F
end

section
namespace Wm.F
open Wm
set_option maxRecDepth 100000

def slices_breakPatternsCmpFunc_int__c8 : ACode :=
  .seq (.ops (
   m 43 12 <| m 44 8 <| o 45 (.cmp .geq .i64 (.t 43) (.t 44)) <| .nil)) (
  .cond (.t 45) (.ops (
   m 46 12 <| m 47 8 <| o 48 (.arith .sub .i64 (.t 46) (.t 47)) <| m 12 48 <| .nil)) (.skip))

def slices_breakPatternsCmpFunc_int__c7 : ACode :=
  .ops (
   m 49 0 <| m 50 11 <| m 51 0 <| m 52 1 <| m 53 12 <| o 54 (.arith .add .i64 (.t 52) (.t 53)) <| m 55 0 <| m 56 1 <| m 57 12 <| o 58 (.arith .add .i64 (.t 56) (.t 57)) <|
   o 59 (.indexA 1 (.t 55) (.t 58)) <| l 60 59 <| m 61 0 <| m 62 11 <| o 63 (.indexA 1 (.t 61) (.t 62)) <| l 64 63 <| o 65 (.indexA 1 (.t 49) (.t 50)) <|
   u (.store 1 (.t 65) (.t 60)) <| o 66 (.indexA 1 (.t 51) (.t 54)) <| u (.store 1 (.t 66) (.t 64)) <| .nil)

def slices_breakPatternsCmpFunc_int__c6 : ACode :=
  .ops (
   o 38 (.call 489 [(.t 9)]) <| m 39 10 <| o 40 (.arith .sub .u64 (.t 39) (.c (.int .u64 1))) <| o 41 (.arith .and .u64 (.t 38) (.t 40)) <| o 42 (.conv .i64 (.t 41)) <| m 12 42 <|
   .nil)

def slices_breakPatternsCmpFunc_int__c5 : ACode :=
  .seq (.join [0, 1, 8, 9, 10, 11, 12] [0, 1, 8, 9, 10, 11, 12] (slices_breakPatternsCmpFunc_int__c8)) (
  slices_breakPatternsCmpFunc_int__c7)

def slices_breakPatternsCmpFunc_int__c4 : ACode :=
  .ops (
   m 36 11 <| o 37 (.arith .add .i64 (.t 36) (.c (.int .i64 1))) <| m 11 37 <| .nil)

def slices_breakPatternsCmpFunc_int__c3 : ACode :=
  .ops (
   m 28 11 <| m 29 1 <| m 30 8 <| o 31 (.arith .quo .i64 (.t 30) (.c (.int .i64 4))) <| o 32 (.arith .mul .i64 (.t 31) (.c (.int .i64 2))) <|
   o 33 (.arith .add .i64 (.t 29) (.t 32)) <| o 34 (.arith .add .i64 (.t 33) (.c (.int .i64 1))) <| o 35 (.cmp .leq .i64 (.t 28) (.t 34)) <| .nil)

def slices_breakPatternsCmpFunc_int__c2 : ACode :=
  .cond (.t 35) (.skip) (.exit 0)

def slices_breakPatternsCmpFunc_int__c1 : ACode :=
  .seq (.block 1 (.seq (.join [0, 1, 8, 9, 10, 11] [0, 1, 8, 9, 10, 11, 12] (slices_breakPatternsCmpFunc_int__c6)) (
  slices_breakPatternsCmpFunc_int__c5))) (
  slices_breakPatternsCmpFunc_int__c4)

def slices_breakPatternsCmpFunc_int__c0 : ACode :=
  .seq (.seq (.join [0, 1, 8, 9, 10, 11] [0, 1, 8, 9, 10, 11, 35] (slices_breakPatternsCmpFunc_int__c3)) (
  slices_breakPatternsCmpFunc_int__c2)) (
  slices_breakPatternsCmpFunc_int__c1)

def slices_breakPatternsCmpFunc_int_ : AFunc where
  closed := false
  nparams := 4
  ntmps := 67
  results := []
  body := .seq (.ops (
   m 13 2 <| m 14 1 <| o 15 (.arith .sub .i64 (.t 13) (.t 14)) <| m 8 15 <| .nil)) (
   .seq (.ops (
   m 16 8 <| o 17 (.cmp .geq .i64 (.t 16) (.c (.int .i64 8))) <| .nil)) (
   .cond (.t 17) (.seq (.ops (
   m 18 8 <| o 19 (.conv .u64 (.t 18)) <| o 9 (.alloc [(.int .u64 0)]) <| u (.store 1 (.t 9) (.t 19)) <| .nil)) (
   .seq (.ops (
   m 20 8 <| o 21 (.call 488 [(.t 20)]) <| m 10 21 <| .nil)) (
   .seq (.ops (
   m 22 1 <| m 23 8 <| o 24 (.arith .quo .i64 (.t 23) (.c (.int .i64 4))) <| o 25 (.arith .mul .i64 (.t 24) (.c (.int .i64 2))) <| o 26 (.arith .add .i64 (.t 22) (.t 25)) <|
   o 27 (.arith .sub .i64 (.t 26) (.c (.int .i64 1))) <| m 11 27 <| .nil)) (
   .block 0 (.loop [0, 1, 8, 9, 10, 11] [] (slices_breakPatternsCmpFunc_int__c0)))))) (.skip)))

def slices_breakPatternsCmpFunc_int__hs : List (List Nat × List Nat) := [([0, 1, 8, 9, 10, 11], []), ([1000001, 0, 1, 8, 9, 10, 11], [0, 1, 8, 9, 10, 11, 35]), ([1000001, 0, 1, 8, 9, 10, 11], [0, 1, 8, 9, 10, 11, 12]), ([1000000, 0, 1, 8, 9, 10, 11, 12], [0, 1, 8, 9, 10, 11, 12])]

end Wm.F
end

section
namespace Wm.F
open Wm
set_option maxRecDepth 100000

def slices_choosePivotCmpFunc_int_ : AFunc where
  closed := false
  nparams := 4
  ntmps := 63
  results := [.tmp 8, .tmp 9]
  body := .seq (.ops (
   o 8 (.mov (.c (.int .i64 0))) <| o 9 (.mov (.c (.int .i64 0))) <| .nil)) (
   .seq (.ops (
   m 15 2 <| m 16 1 <| o 17 (.arith .sub .i64 (.t 15) (.t 16)) <| m 10 17 <| .nil)) (
   .seq (.ops (
   o 11 (.alloc [(.int .i64 0)]) <| .nil)) (
   .seq (.ops (
   m 18 1 <| m 19 10 <| o 20 (.arith .quo .i64 (.t 19) (.c (.int .i64 4))) <| o 21 (.arith .mul .i64 (.t 20) (.c (.int .i64 1))) <| o 22 (.arith .add .i64 (.t 18) (.t 21)) <|
   m 12 22 <| .nil)) (
   .seq (.ops (
   m 23 1 <| m 24 10 <| o 25 (.arith .quo .i64 (.t 24) (.c (.int .i64 4))) <| o 26 (.arith .mul .i64 (.t 25) (.c (.int .i64 2))) <| o 27 (.arith .add .i64 (.t 23) (.t 26)) <|
   m 13 27 <| .nil)) (
   .seq (.ops (
   m 28 1 <| m 29 10 <| o 30 (.arith .quo .i64 (.t 29) (.c (.int .i64 4))) <| o 31 (.arith .mul .i64 (.t 30) (.c (.int .i64 3))) <| o 32 (.arith .add .i64 (.t 28) (.t 31)) <|
   m 14 32 <| .nil)) (
   .seq (.seq (.ops (
   m 33 10 <| o 34 (.cmp .geq .i64 (.t 33) (.c (.int .i64 8))) <| .nil)) (
   .cond (.t 34) (.seq (.seq (.ops (
   m 35 10 <| o 36 (.cmp .geq .i64 (.t 35) (.c (.int .i64 50))) <| .nil)) (
   .cond (.t 36) (.seq (.ops (
   m 37 0 <| m 38 12 <| m 39 3 <| o 40 (.call 490 [(.t 37), (.t 38), (.t 11), (.t 39)]) <| m 12 40 <| .nil)) (
   .seq (.ops (
   m 41 0 <| m 42 13 <| m 43 3 <| o 44 (.call 490 [(.t 41), (.t 42), (.t 11), (.t 43)]) <| m 13 44 <| .nil)) (
   .ops (
   m 45 0 <| m 46 14 <| m 47 3 <| o 48 (.call 490 [(.t 45), (.t 46), (.t 11), (.t 47)]) <| m 14 48 <| .nil)))) (.skip))) (
   .ops (
   m 49 0 <| m 50 12 <| m 51 13 <| m 52 14 <| m 53 3 <| o 54 (.call 491 [(.t 49), (.t 50), (.t 51), (.t 52), (.t 11), (.t 53)]) <| m 13 54 <| .nil))) (.skip))) (
   .seq (.ops (
   l 55 11 <| .nil)) (
   .block 0 (.seq (.ops (
   o 58 (.cmp .eql .i64 (.t 55) (.c (.int .i64 0))) <| m 57 58 <| .nil)) (
   .cond (.t 57) (.seq (.ops (
   m 59 13 <| m 8 59 <| o 9 (.mov (.c (.int .i64 1))) <| .nil)) (
   .ret)) (.seq (.ops (
   o 61 (.cmp .eql .i64 (.t 55) (.c (.int .i64 12))) <| m 60 61 <| .nil)) (
   .cond (.t 60) (.seq (.ops (
   m 62 13 <| m 8 62 <| o 9 (.mov (.c (.int .i64 2))) <| .nil)) (
   .ret)) (.seq (.ops (
   m 56 13 <| m 8 56 <| o 9 (.mov (.c (.int .i64 0))) <| .nil)) (
   .ret))))))))))))))

def slices_choosePivotCmpFunc_int__hs : List (List Nat × List Nat) := []

end Wm.F
end

section
namespace Wm.F
open Wm
set_option maxRecDepth 100000

def slices_reverseRangeCmpFunc_int__c0 : ACode :=
  .seq (.seq (.ops (
   m 13 8 <| m 14 9 <| o 15 (.cmp .lss .i64 (.t 13) (.t 14)) <| .nil)) (
  .cond (.t 15) (.skip) (.exit 0))) (
  .block 1 (.seq (.ops (
   m 16 0 <| m 17 8 <| m 18 0 <| m 19 9 <| m 20 0 <| m 21 9 <| o 22 (.indexA 1 (.t 20) (.t 21)) <| l 23 22 <| m 24 0 <| m 25 8 <| o 26 (.indexA 1 (.t 24) (.t 25)) <| l 27 26 <|
   o 28 (.indexA 1 (.t 16) (.t 17)) <| u (.store 1 (.t 28) (.t 23)) <| o 29 (.indexA 1 (.t 18) (.t 19)) <| u (.store 1 (.t 29) (.t 27)) <| .nil)) (
  .seq (.ops (
   m 30 8 <| o 31 (.arith .add .i64 (.t 30) (.c (.int .i64 1))) <| m 8 31 <| .nil)) (
  .ops (
   m 32 9 <| o 33 (.arith .sub .i64 (.t 32) (.c (.int .i64 1))) <| m 9 33 <| .nil)))))

def slices_reverseRangeCmpFunc_int_ : AFunc where
  closed := false
  nparams := 4
  ntmps := 34
  results := []
  body := .seq (.ops (
   m 10 1 <| m 8 10 <| .nil)) (
   .seq (.ops (
   m 11 2 <| o 12 (.arith .sub .i64 (.t 11) (.c (.int .i64 1))) <| m 9 12 <| .nil)) (
   .block 0 (.loop [0, 8, 9] [] (slices_reverseRangeCmpFunc_int__c0))))

def slices_reverseRangeCmpFunc_int__hs : List (List Nat × List Nat) := [([0, 8, 9], [])]

end Wm.F
end

section
namespace Wm.F
open Wm
set_option maxRecDepth 100000

def slices_partialInsertionSortCmpFunc_int__c7 : ACode :=
  .seq (.seq (.ops (
   m 107 12 <| m 108 2 <| o 109 (.cmp .lss .i64 (.t 107) (.t 108)) <| .nil)) (
  .cond (.t 109) (.skip) (.exit 6))) (
  .seq (.block 7 (.seq (.seq (.ops (
   m 112 3 <| m 113 0 <| m 114 12 <| o 115 (.indexA 1 (.t 113) (.t 114)) <| l 116 115 <| m 117 0 <| m 118 12 <| o 119 (.arith .sub .i64 (.t 118) (.c (.int .i64 1))) <|
   o 120 (.indexA 1 (.t 117) (.t 119)) <| l 121 120 <| o 122 (.callv (.t 112) [(.t 116), (.t 121)]) <| o 123 (.cmp .lss .i64 (.t 122) (.c (.int .i64 0))) <|
   o 124 (.not (.t 123)) <| .nil)) (
  .cond (.t 124) (.exit 6) (.skip))) (
  .ops (
   m 125 0 <| m 126 12 <| m 127 0 <| m 128 12 <| o 129 (.arith .sub .i64 (.t 128) (.c (.int .i64 1))) <| m 130 0 <| m 131 12 <|
   o 132 (.arith .sub .i64 (.t 131) (.c (.int .i64 1))) <| o 133 (.indexA 1 (.t 130) (.t 132)) <| l 134 133 <| m 135 0 <| m 136 12 <| o 137 (.indexA 1 (.t 135) (.t 136)) <|
   l 138 137 <| o 139 (.indexA 1 (.t 125) (.t 126)) <| u (.store 1 (.t 139) (.t 134)) <| o 140 (.indexA 1 (.t 127) (.t 129)) <| u (.store 1 (.t 140) (.t 138)) <| .nil)))) (
  .ops (
   m 110 12 <| o 111 (.arith .add .i64 (.t 110) (.c (.int .i64 1))) <| m 12 111 <| .nil)))

def slices_partialInsertionSortCmpFunc_int__c6 : ACode :=
  .seq (.seq (.ops (
   m 68 11 <| o 69 (.cmp .geq .i64 (.t 68) (.c (.int .i64 1))) <| .nil)) (
  .cond (.t 69) (.skip) (.exit 4))) (
  .seq (.block 5 (.seq (.seq (.ops (
   m 72 3 <| m 73 0 <| m 74 11 <| o 75 (.indexA 1 (.t 73) (.t 74)) <| l 76 75 <| m 77 0 <| m 78 11 <| o 79 (.arith .sub .i64 (.t 78) (.c (.int .i64 1))) <|
   o 80 (.indexA 1 (.t 77) (.t 79)) <| l 81 80 <| o 82 (.callv (.t 72) [(.t 76), (.t 81)]) <| o 83 (.cmp .lss .i64 (.t 82) (.c (.int .i64 0))) <| o 84 (.not (.t 83)) <| .nil)) (
  .cond (.t 84) (.exit 4) (.skip))) (
  .ops (
   m 85 0 <| m 86 11 <| m 87 0 <| m 88 11 <| o 89 (.arith .sub .i64 (.t 88) (.c (.int .i64 1))) <| m 90 0 <| m 91 11 <| o 92 (.arith .sub .i64 (.t 91) (.c (.int .i64 1))) <|
   o 93 (.indexA 1 (.t 90) (.t 92)) <| l 94 93 <| m 95 0 <| m 96 11 <| o 97 (.indexA 1 (.t 95) (.t 96)) <| l 98 97 <| o 99 (.indexA 1 (.t 85) (.t 86)) <|
   u (.store 1 (.t 99) (.t 94)) <| o 100 (.indexA 1 (.t 87) (.t 89)) <| u (.store 1 (.t 100) (.t 98)) <| .nil)))) (
  .ops (
   m 70 11 <| o 71 (.arith .sub .i64 (.t 70) (.c (.int .i64 1))) <| m 11 71 <| .nil)))

def slices_partialInsertionSortCmpFunc_int__c5 : ACode :=
  .seq (.ops (
   m 101 2 <| m 102 9 <| o 103 (.arith .sub .i64 (.t 101) (.t 102)) <| o 104 (.cmp .geq .i64 (.t 103) (.c (.int .i64 2))) <| .nil)) (
  .cond (.t 104) (.seq (.ops (
   m 105 9 <| o 106 (.arith .add .i64 (.t 105) (.c (.int .i64 1))) <| m 12 106 <| .nil)) (
   .block 6 (.loop [0, 1, 2, 3, 9, 10, 12] [0, 1, 2, 3, 9, 10] (slices_partialInsertionSortCmpFunc_int__c7)))) (.skip))

def slices_partialInsertionSortCmpFunc_int__c4 : ACode :=
  .seq (.seq (.ops (
   m 19 9 <| m 20 2 <| o 21 (.cmp .lss .i64 (.t 19) (.t 20)) <| m 22 21 <| .grd 22 true [i 23 (.mov (.t 3)),
   i 24 (.mov (.t 0)),
   i 25 (.mov (.t 9)),
   i 26 (.indexA 1 (.t 24) (.t 25)),
   i 27 (.load1 (.t 26)),
   i 28 (.mov (.t 0)),
   i 29 (.mov (.t 9)),
   i 30 (.arith .sub .i64 (.t 29) (.c (.int .i64 1))),
   i 31 (.indexA 1 (.t 28) (.t 30)),
   i 32 (.load1 (.t 31)),
   i 33 (.callv (.t 23) [(.t 27), (.t 32)]),
   i 34 (.cmp .lss .i64 (.t 33) (.c (.int .i64 0))),
   i 35 (.not (.t 34))] <| o 36 (.pick (.t 22) (.t 35) (.c (.bool false))) <| .nil)) (
  .cond (.t 36) (.skip) (.exit 2))) (
  .block 3 (.ops (
   m 37 9 <| o 38 (.arith .add .i64 (.t 37) (.c (.int .i64 1))) <| m 9 38 <| .nil)))

def slices_partialInsertionSortCmpFunc_int__c3 : ACode :=
  .seq (.seq (.ops (
   m 39 9 <| m 40 2 <| o 41 (.cmp .eql .i64 (.t 39) (.t 40)) <| .nil)) (
  .cond (.t 41) (.seq (.ops (
   o 8 (.mov (.c (.bool true))) <| .nil)) (
   .ret)) (.skip))) (
  .seq (.seq (.ops (
   m 42 2 <| m 43 1 <| o 44 (.arith .sub .i64 (.t 42) (.t 43)) <| o 45 (.cmp .lss .i64 (.t 44) (.c (.int .i64 50))) <| .nil)) (
  .cond (.t 45) (.seq (.ops (
   o 8 (.mov (.c (.bool false))) <| .nil)) (
   .ret)) (.skip))) (
  .seq (.ops (
   m 46 0 <| m 47 9 <| m 48 0 <| m 49 9 <| o 50 (.arith .sub .i64 (.t 49) (.c (.int .i64 1))) <| m 51 0 <| m 52 9 <| o 53 (.arith .sub .i64 (.t 52) (.c (.int .i64 1))) <|
   o 54 (.indexA 1 (.t 51) (.t 53)) <| l 55 54 <| m 56 0 <| m 57 9 <| o 58 (.indexA 1 (.t 56) (.t 57)) <| l 59 58 <| o 60 (.indexA 1 (.t 46) (.t 47)) <|
   u (.store 1 (.t 60) (.t 55)) <| o 61 (.indexA 1 (.t 48) (.t 50)) <| u (.store 1 (.t 61) (.t 59)) <| .nil)) (
  .seq (.seq (.ops (
   m 62 9 <| m 63 1 <| o 64 (.arith .sub .i64 (.t 62) (.t 63)) <| o 65 (.cmp .geq .i64 (.t 64) (.c (.int .i64 2))) <| .nil)) (
  .cond (.t 65) (.seq (.ops (
   m 66 9 <| o 67 (.arith .sub .i64 (.t 66) (.c (.int .i64 1))) <| m 11 67 <| .nil)) (
   .block 4 (.loop [0, 1, 2, 3, 9, 10, 11] [0, 1, 2, 3, 9, 10] (slices_partialInsertionSortCmpFunc_int__c6)))) (.skip))) (
  slices_partialInsertionSortCmpFunc_int__c5))))

def slices_partialInsertionSortCmpFunc_int__c2 : ACode :=
  .ops (
   m 17 10 <| o 18 (.arith .add .i64 (.t 17) (.c (.int .i64 1))) <| m 10 18 <| .nil)

def slices_partialInsertionSortCmpFunc_int__c1 : ACode :=
  .seq (.seq (.ops (
   m 15 10 <| o 16 (.cmp .lss .i64 (.t 15) (.c (.int .i64 5))) <| .nil)) (
  .cond (.t 16) (.skip) (.exit 0))) (
  .seq (.block 1 (.seq (.block 2 (.loop [0, 1, 2, 3, 9, 10] [0, 1, 2, 3, 9, 10] (slices_partialInsertionSortCmpFunc_int__c4))) (
  slices_partialInsertionSortCmpFunc_int__c3))) (
  slices_partialInsertionSortCmpFunc_int__c2))

def slices_partialInsertionSortCmpFunc_int__c0 : ACode :=
  .seq (.ops (
   o 8 (.mov (.c (.bool false))) <| .nil)) (
  .ret)

def slices_partialInsertionSortCmpFunc_int_ : AFunc where
  closed := false
  nparams := 4
  ntmps := 141
  results := [.tmp 8]
  body := .seq (.ops (
   o 8 (.mov (.c (.bool false))) <| .nil)) (
   .seq (.ops (
   m 13 1 <| o 14 (.arith .add .i64 (.t 13) (.c (.int .i64 1))) <| m 9 14 <| .nil)) (
   .seq (.seq (.ops (
   o 10 (.mov (.c (.int .i64 0))) <| .nil)) (
   .block 0 (.loop [0, 1, 2, 3, 9, 10] [8] (slices_partialInsertionSortCmpFunc_int__c1)))) (
   slices_partialInsertionSortCmpFunc_int__c0)))

def slices_partialInsertionSortCmpFunc_int__hs : List (List Nat × List Nat) := [([0, 1, 2, 3, 9, 10], [8]), ([0, 1, 2, 3, 9, 10], [0, 1, 2, 3, 9, 10]), ([0, 1, 2, 3, 9, 10, 11], [0, 1, 2, 3, 9, 10]), ([0, 1, 2, 3, 9, 10, 12], [0, 1, 2, 3, 9, 10])]

end Wm.F
end

section
namespace Wm.F
open Wm
set_option maxRecDepth 100000

def slices_partitionEqualCmpFunc_int__c5 : ACode :=
  .seq (.seq (.ops (
   m 50 11 <| m 51 12 <| o 52 (.cmp .leq .i64 (.t 50) (.t 51)) <| m 53 52 <| .grd 53 true [i 54 (.mov (.t 4)),
   i 55 (.mov (.t 0)),
   i 56 (.mov (.t 1)),
   i 57 (.indexA 1 (.t 55) (.t 56)),
   i 58 (.load1 (.t 57)),
   i 59 (.mov (.t 0)),
   i 60 (.mov (.t 12)),
   i 61 (.indexA 1 (.t 59) (.t 60)),
   i 62 (.load1 (.t 61)),
   i 63 (.callv (.t 54) [(.t 58), (.t 62)]),
   i 64 (.cmp .lss .i64 (.t 63) (.c (.int .i64 0)))] <| o 65 (.pick (.t 53) (.t 64) (.c (.bool false))) <| .nil)) (
  .cond (.t 65) (.skip) (.exit 4))) (
  .block 5 (.ops (
   m 66 12 <| o 67 (.arith .sub .i64 (.t 66) (.c (.int .i64 1))) <| m 12 67 <| .nil)))

def slices_partitionEqualCmpFunc_int__c4 : ACode :=
  .seq (.seq (.ops (
   m 68 11 <| m 69 12 <| o 70 (.cmp .gtr .i64 (.t 68) (.t 69)) <| .nil)) (
  .cond (.t 70) (.exit 0) (.skip))) (
  .seq (.ops (
   m 71 0 <| m 72 11 <| m 73 0 <| m 74 12 <| m 75 0 <| m 76 12 <| o 77 (.indexA 1 (.t 75) (.t 76)) <| l 78 77 <| m 79 0 <| m 80 11 <| o 81 (.indexA 1 (.t 79) (.t 80)) <|
   l 82 81 <| o 83 (.indexA 1 (.t 71) (.t 72)) <| u (.store 1 (.t 83) (.t 78)) <| o 84 (.indexA 1 (.t 73) (.t 74)) <| u (.store 1 (.t 84) (.t 82)) <| .nil)) (
  .seq (.ops (
   m 85 11 <| o 86 (.arith .add .i64 (.t 85) (.c (.int .i64 1))) <| m 11 86 <| .nil)) (
  .ops (
   m 87 12 <| o 88 (.arith .sub .i64 (.t 87) (.c (.int .i64 1))) <| m 12 88 <| .nil))))

def slices_partitionEqualCmpFunc_int__c3 : ACode :=
  .seq (.seq (.ops (
   m 31 11 <| m 32 12 <| o 33 (.cmp .leq .i64 (.t 31) (.t 32)) <| m 34 33 <| .grd 34 true [i 35 (.mov (.t 4)),
   i 36 (.mov (.t 0)),
   i 37 (.mov (.t 1)),
   i 38 (.indexA 1 (.t 36) (.t 37)),
   i 39 (.load1 (.t 38)),
   i 40 (.mov (.t 0)),
   i 41 (.mov (.t 11)),
   i 42 (.indexA 1 (.t 40) (.t 41)),
   i 43 (.load1 (.t 42)),
   i 44 (.callv (.t 35) [(.t 39), (.t 43)]),
   i 45 (.cmp .lss .i64 (.t 44) (.c (.int .i64 0))),
   i 46 (.not (.t 45))] <| o 47 (.pick (.t 34) (.t 46) (.c (.bool false))) <| .nil)) (
  .cond (.t 47) (.skip) (.exit 2))) (
  .block 3 (.ops (
   m 48 11 <| o 49 (.arith .add .i64 (.t 48) (.c (.int .i64 1))) <| m 11 49 <| .nil)))

def slices_partitionEqualCmpFunc_int__c2 : ACode :=
  .seq (.block 4 (.loop [0, 1, 4, 11, 12] [0, 1, 4, 11, 12] (slices_partitionEqualCmpFunc_int__c5))) (
  slices_partitionEqualCmpFunc_int__c4)

def slices_partitionEqualCmpFunc_int__c1 : ACode :=
  .block 1 (.seq (.block 2 (.loop [0, 1, 4, 11, 12] [0, 1, 4, 11, 12] (slices_partitionEqualCmpFunc_int__c3))) (
  slices_partitionEqualCmpFunc_int__c2))

def slices_partitionEqualCmpFunc_int__c0 : ACode :=
  .seq (.ops (
   m 89 11 <| m 10 89 <| .nil)) (
  .ret)

def slices_partitionEqualCmpFunc_int_ : AFunc where
  closed := false
  nparams := 5
  ntmps := 90
  results := [.tmp 10]
  body := .seq (.ops (
   o 10 (.mov (.c (.int .i64 0))) <| .nil)) (
   .seq (.ops (
   m 13 0 <| m 14 1 <| m 15 0 <| m 16 3 <| m 17 0 <| m 18 3 <| o 19 (.indexA 1 (.t 17) (.t 18)) <| l 20 19 <| m 21 0 <| m 22 1 <| o 23 (.indexA 1 (.t 21) (.t 22)) <| l 24 23 <|
   o 25 (.indexA 1 (.t 13) (.t 14)) <| u (.store 1 (.t 25) (.t 20)) <| o 26 (.indexA 1 (.t 15) (.t 16)) <| u (.store 1 (.t 26) (.t 24)) <| .nil)) (
   .seq (.ops (
   m 27 1 <| o 28 (.arith .add .i64 (.t 27) (.c (.int .i64 1))) <| m 29 2 <| o 30 (.arith .sub .i64 (.t 29) (.c (.int .i64 1))) <| m 11 28 <| m 12 30 <| .nil)) (
   .seq (.block 0 (.loop [0, 1, 4, 11, 12] [11] (slices_partitionEqualCmpFunc_int__c1))) (
   slices_partitionEqualCmpFunc_int__c0))))

def slices_partitionEqualCmpFunc_int__hs : List (List Nat × List Nat) := [([0, 1, 4, 11, 12], [11]), ([0, 1, 4, 11, 12], [0, 1, 4, 11, 12]), ([0, 1, 4, 11, 12], [0, 1, 4, 11, 12])]

end Wm.F
end

section
namespace Wm.F
open Wm
set_option maxRecDepth 100000

def slices_partitionCmpFunc_int__c9 : ACode :=
  .seq (.seq (.ops (
   m 123 12 <| m 124 13 <| o 125 (.cmp .leq .i64 (.t 123) (.t 124)) <| m 126 125 <| .grd 126 true [i 127 (.mov (.t 4)),
   i 128 (.mov (.t 0)),
   i 129 (.mov (.t 13)),
   i 130 (.indexA 1 (.t 128) (.t 129)),
   i 131 (.load1 (.t 130)),
   i 132 (.mov (.t 0)),
   i 133 (.mov (.t 1)),
   i 134 (.indexA 1 (.t 132) (.t 133)),
   i 135 (.load1 (.t 134)),
   i 136 (.callv (.t 127) [(.t 131), (.t 135)]),
   i 137 (.cmp .lss .i64 (.t 136) (.c (.int .i64 0))),
   i 138 (.not (.t 137))] <| o 139 (.pick (.t 126) (.t 138) (.c (.bool false))) <| .nil)) (
  .cond (.t 139) (.skip) (.exit 8))) (
  .block 9 (.ops (
   m 140 13 <| o 141 (.arith .sub .i64 (.t 140) (.c (.int .i64 1))) <| m 13 141 <| .nil)))

def slices_partitionCmpFunc_int__c8 : ACode :=
  .seq (.seq (.ops (
   m 142 12 <| m 143 13 <| o 144 (.cmp .gtr .i64 (.t 142) (.t 143)) <| .nil)) (
  .cond (.t 144) (.exit 4) (.skip))) (
  .seq (.ops (
   m 145 0 <| m 146 12 <| m 147 0 <| m 148 13 <| m 149 0 <| m 150 13 <| o 151 (.indexA 1 (.t 149) (.t 150)) <| l 152 151 <| m 153 0 <| m 154 12 <|
   o 155 (.indexA 1 (.t 153) (.t 154)) <| l 156 155 <| o 157 (.indexA 1 (.t 145) (.t 146)) <| u (.store 1 (.t 157) (.t 152)) <| o 158 (.indexA 1 (.t 147) (.t 148)) <|
   u (.store 1 (.t 158) (.t 156)) <| .nil)) (
  .seq (.ops (
   m 159 12 <| o 160 (.arith .add .i64 (.t 159) (.c (.int .i64 1))) <| m 12 160 <| .nil)) (
  .ops (
   m 161 13 <| o 162 (.arith .sub .i64 (.t 161) (.c (.int .i64 1))) <| m 13 162 <| .nil))))

def slices_partitionCmpFunc_int__c7 : ACode :=
  .seq (.seq (.ops (
   m 105 12 <| m 106 13 <| o 107 (.cmp .leq .i64 (.t 105) (.t 106)) <| m 108 107 <| .grd 108 true [i 109 (.mov (.t 4)),
   i 110 (.mov (.t 0)),
   i 111 (.mov (.t 12)),
   i 112 (.indexA 1 (.t 110) (.t 111)),
   i 113 (.load1 (.t 112)),
   i 114 (.mov (.t 0)),
   i 115 (.mov (.t 1)),
   i 116 (.indexA 1 (.t 114) (.t 115)),
   i 117 (.load1 (.t 116)),
   i 118 (.callv (.t 109) [(.t 113), (.t 117)]),
   i 119 (.cmp .lss .i64 (.t 118) (.c (.int .i64 0)))] <| o 120 (.pick (.t 108) (.t 119) (.c (.bool false))) <| .nil)) (
  .cond (.t 120) (.skip) (.exit 6))) (
  .block 7 (.ops (
   m 121 12 <| o 122 (.arith .add .i64 (.t 121) (.c (.int .i64 1))) <| m 12 122 <| .nil)))

def slices_partitionCmpFunc_int__c6 : ACode :=
  .seq (.block 8 (.loop [0, 1, 4, 12, 13] [0, 1, 4, 12, 13] (slices_partitionCmpFunc_int__c9))) (
  slices_partitionCmpFunc_int__c8)

def slices_partitionCmpFunc_int__c5 : ACode :=
  .block 5 (.seq (.block 6 (.loop [0, 1, 4, 12, 13] [0, 1, 4, 12, 13] (slices_partitionCmpFunc_int__c7))) (
  slices_partitionCmpFunc_int__c6))

def slices_partitionCmpFunc_int__c4 : ACode :=
  .seq (.ops (
   m 163 0 <| m 164 13 <| m 165 0 <| m 166 1 <| m 167 0 <| m 168 1 <| o 169 (.indexA 1 (.t 167) (.t 168)) <| l 170 169 <| m 171 0 <| m 172 13 <|
   o 173 (.indexA 1 (.t 171) (.t 172)) <| l 174 173 <| o 175 (.indexA 1 (.t 163) (.t 164)) <| u (.store 1 (.t 175) (.t 170)) <| o 176 (.indexA 1 (.t 165) (.t 166)) <|
   u (.store 1 (.t 176) (.t 174)) <| .nil)) (
  .seq (.ops (
   m 177 13 <| m 10 177 <| o 11 (.mov (.c (.bool false))) <| .nil)) (
  .ret))

def slices_partitionCmpFunc_int__c3 : ACode :=
  .seq (.seq (.ops (
   m 50 12 <| m 51 13 <| o 52 (.cmp .leq .i64 (.t 50) (.t 51)) <| m 53 52 <| .grd 53 true [i 54 (.mov (.t 4)),
   i 55 (.mov (.t 0)),
   i 56 (.mov (.t 13)),
   i 57 (.indexA 1 (.t 55) (.t 56)),
   i 58 (.load1 (.t 57)),
   i 59 (.mov (.t 0)),
   i 60 (.mov (.t 1)),
   i 61 (.indexA 1 (.t 59) (.t 60)),
   i 62 (.load1 (.t 61)),
   i 63 (.callv (.t 54) [(.t 58), (.t 62)]),
   i 64 (.cmp .lss .i64 (.t 63) (.c (.int .i64 0))),
   i 65 (.not (.t 64))] <| o 66 (.pick (.t 53) (.t 65) (.c (.bool false))) <| .nil)) (
  .cond (.t 66) (.skip) (.exit 2))) (
  .block 3 (.ops (
   m 67 13 <| o 68 (.arith .sub .i64 (.t 67) (.c (.int .i64 1))) <| m 13 68 <| .nil)))

def slices_partitionCmpFunc_int__c2 : ACode :=
  .seq (.seq (.ops (
   m 69 12 <| m 70 13 <| o 71 (.cmp .gtr .i64 (.t 69) (.t 70)) <| .nil)) (
  .cond (.t 71) (.seq (.ops (
   m 72 0 <| m 73 13 <| m 74 0 <| m 75 1 <| m 76 0 <| m 77 1 <| o 78 (.indexA 1 (.t 76) (.t 77)) <| l 79 78 <| m 80 0 <| m 81 13 <| o 82 (.indexA 1 (.t 80) (.t 81)) <| l 83 82 <|
   o 84 (.indexA 1 (.t 72) (.t 73)) <| u (.store 1 (.t 84) (.t 79)) <| o 85 (.indexA 1 (.t 74) (.t 75)) <| u (.store 1 (.t 85) (.t 83)) <| .nil)) (
   .seq (.ops (
   m 86 13 <| m 10 86 <| o 11 (.mov (.c (.bool true))) <| .nil)) (
   .ret))) (.skip))) (
  .seq (.ops (
   m 87 0 <| m 88 12 <| m 89 0 <| m 90 13 <| m 91 0 <| m 92 13 <| o 93 (.indexA 1 (.t 91) (.t 92)) <| l 94 93 <| m 95 0 <| m 96 12 <| o 97 (.indexA 1 (.t 95) (.t 96)) <|
   l 98 97 <| o 99 (.indexA 1 (.t 87) (.t 88)) <| u (.store 1 (.t 99) (.t 94)) <| o 100 (.indexA 1 (.t 89) (.t 90)) <| u (.store 1 (.t 100) (.t 98)) <| .nil)) (
  .seq (.ops (
   m 101 12 <| o 102 (.arith .add .i64 (.t 101) (.c (.int .i64 1))) <| m 12 102 <| .nil)) (
  .seq (.ops (
   m 103 13 <| o 104 (.arith .sub .i64 (.t 103) (.c (.int .i64 1))) <| m 13 104 <| .nil)) (
  .seq (.block 4 (.loop [0, 1, 4, 12, 13] [0, 1, 13] (slices_partitionCmpFunc_int__c5))) (
  slices_partitionCmpFunc_int__c4)))))

def slices_partitionCmpFunc_int__c1 : ACode :=
  .seq (.seq (.ops (
   m 32 12 <| m 33 13 <| o 34 (.cmp .leq .i64 (.t 32) (.t 33)) <| m 35 34 <| .grd 35 true [i 36 (.mov (.t 4)),
   i 37 (.mov (.t 0)),
   i 38 (.mov (.t 12)),
   i 39 (.indexA 1 (.t 37) (.t 38)),
   i 40 (.load1 (.t 39)),
   i 41 (.mov (.t 0)),
   i 42 (.mov (.t 1)),
   i 43 (.indexA 1 (.t 41) (.t 42)),
   i 44 (.load1 (.t 43)),
   i 45 (.callv (.t 36) [(.t 40), (.t 44)]),
   i 46 (.cmp .lss .i64 (.t 45) (.c (.int .i64 0)))] <| o 47 (.pick (.t 35) (.t 46) (.c (.bool false))) <| .nil)) (
  .cond (.t 47) (.skip) (.exit 0))) (
  .block 1 (.ops (
   m 48 12 <| o 49 (.arith .add .i64 (.t 48) (.c (.int .i64 1))) <| m 12 49 <| .nil)))

def slices_partitionCmpFunc_int__c0 : ACode :=
  .seq (.block 2 (.loop [0, 1, 4, 12, 13] [0, 1, 4, 12, 13] (slices_partitionCmpFunc_int__c3))) (
  slices_partitionCmpFunc_int__c2)

def slices_partitionCmpFunc_int_ : AFunc where
  closed := false
  nparams := 5
  ntmps := 178
  results := [.tmp 10, .tmp 11]
  body := .seq (.ops (
   o 10 (.mov (.c (.int .i64 0))) <| o 11 (.mov (.c (.bool false))) <| .nil)) (
   .seq (.ops (
   m 14 0 <| m 15 1 <| m 16 0 <| m 17 3 <| m 18 0 <| m 19 3 <| o 20 (.indexA 1 (.t 18) (.t 19)) <| l 21 20 <| m 22 0 <| m 23 1 <| o 24 (.indexA 1 (.t 22) (.t 23)) <| l 25 24 <|
   o 26 (.indexA 1 (.t 14) (.t 15)) <| u (.store 1 (.t 26) (.t 21)) <| o 27 (.indexA 1 (.t 16) (.t 17)) <| u (.store 1 (.t 27) (.t 25)) <| .nil)) (
   .seq (.ops (
   m 28 1 <| o 29 (.arith .add .i64 (.t 28) (.c (.int .i64 1))) <| m 30 2 <| o 31 (.arith .sub .i64 (.t 30) (.c (.int .i64 1))) <| m 12 29 <| m 13 31 <| .nil)) (
   .seq (.block 0 (.loop [0, 1, 4, 12, 13] [0, 1, 4, 12, 13] (slices_partitionCmpFunc_int__c1))) (
   slices_partitionCmpFunc_int__c0))))

def slices_partitionCmpFunc_int__hs : List (List Nat × List Nat) := [([0, 1, 4, 12, 13], [0, 1, 4, 12, 13]), ([0, 1, 4, 12, 13], [0, 1, 4, 12, 13]), ([0, 1, 4, 12, 13], [0, 1, 13]), ([0, 1, 4, 12, 13], [0, 1, 4, 12, 13]), ([0, 1, 4, 12, 13], [0, 1, 4, 12, 13])]

end Wm.F
end

section
namespace Wm.F
open Wm
set_option maxRecDepth 100000

def math_bits_Len32 : AFunc where
  closed := true
  nparams := 1
  ntmps := 19
  results := [.tmp 2]
  body := .seq (.ops (
   o 2 (.mov (.c (.int .i64 0))) <| .nil)) (
   .seq (.seq (.ops (
   m 3 0 <| o 4 (.cmp .geq .u32 (.t 3) (.c (.int .u32 65536))) <| .nil)) (
   .cond (.t 4) (.seq (.ops (
   m 5 0 <| o 6 (.shift false .u32 .u64 (.t 5) (.c (.int .u64 16))) <| m 0 6 <| .nil)) (
   .ops (
   o 2 (.mov (.c (.int .i64 16))) <| .nil))) (.skip))) (
   .seq (.seq (.ops (
   m 7 0 <| o 8 (.cmp .geq .u32 (.t 7) (.c (.int .u32 256))) <| .nil)) (
   .cond (.t 8) (.seq (.ops (
   m 9 0 <| o 10 (.shift false .u32 .u64 (.t 9) (.c (.int .u64 8))) <| m 0 10 <| .nil)) (
   .ops (
   m 11 2 <| o 12 (.arith .add .i64 (.t 11) (.c (.int .i64 8))) <| m 2 12 <| .nil))) (.skip))) (
   .seq (.ops (
   m 13 2 <| m 14 0 <| o 15 (.conv .u8 (.t 14)) <|
   .op ⟨(some 16), .indexStr (.c (.str ⟨⟨[0, 1, 2, 2, 3, 3, 3, 3, 4, 4, 4, 4, 4, 4, 4, 4, 5, 5, 5, 5, 5, 5, 5, 5, 5, 5, 5, 5, 5, 5, 5, 5, 6, 6, 6, 6, 6, 6, 6, 6, 6, 6, 6, 6, 6, 6, 6, 6, 6, 6, 6, 6, 6, 6, 6, 6, 6, 6, 6, 6, 6, 6, 6, 6, 7, 7, 7, 7, 7, 7, 7, 7, 7, 7, 7, 7, 7, 7, 7, 7, 7, 7, 7, 7, 7, 7, 7, 7, 7, 7, 7, 7, 7, 7, 7, 7, 7, 7, 7, 7, 7, 7, 7, 7, 7, 7, 7, 7, 7, 7, 7, 7, 7, 7, 7, 7, 7, 7, 7, 7, 7, 7, 7, 7, 7, 7, 7, 7, 8, 8, 8, 8, 8, 8, 8, 8, 8, 8, 8, 8, 8, 8, 8, 8, 8, 8, 8, 8, 8, 8, 8, 8, 8, 8, 8, 8, 8, 8, 8, 8, 8, 8, 8, 8, 8, 8, 8, 8, 8, 8, 8, 8, 8, 8, 8, 8, 8, 8, 8, 8, 8, 8, 8, 8, 8, 8, 8, 8, 8, 8, 8, 8, 8, 8, 8, 8, 8, 8, 8, 8, 8, 8, 8, 8, 8, 8, 8, 8, 8, 8, 8, 8, 8, 8, 8, 8, 8, 8, 8, 8, 8, 8, 8, 8, 8, 8, 8, 8, 8, 8, 8, 8, 8, 8, 8, 8, 8, 8, 8, 8, 8, 8, 8, 8, 8, 8, 8, 8, 8, 8, 8, 8, 8, 8, 8, 8]⟩⟩)) (.t 15), []⟩ <| o 17 (.conv .i64 (.t 16)) <| o 18 (.arith .add .i64 (.t 13) (.t 17)) <| m 2 18 <| .nil)) (
   .ret))))

def math_bits_Len32_hs : List (List Nat × List Nat) := []

end Wm.F
end

section
namespace Wm.F
open Wm
set_option maxRecDepth 100000

def math_bits_Len64 : AFunc where
  closed := true
  nparams := 1
  ntmps := 25
  results := [.tmp 2]
  body := .seq (.ops (
   o 2 (.mov (.c (.int .i64 0))) <| .nil)) (
   .seq (.seq (.ops (
   m 3 0 <| o 4 (.cmp .geq .u64 (.t 3) (.c (.int .u64 4294967296))) <| .nil)) (
   .cond (.t 4) (.seq (.ops (
   m 5 0 <| o 6 (.shift false .u64 .u64 (.t 5) (.c (.int .u64 32))) <| m 0 6 <| .nil)) (
   .ops (
   o 2 (.mov (.c (.int .i64 32))) <| .nil))) (.skip))) (
   .seq (.seq (.ops (
   m 7 0 <| o 8 (.cmp .geq .u64 (.t 7) (.c (.int .u64 65536))) <| .nil)) (
   .cond (.t 8) (.seq (.ops (
   m 9 0 <| o 10 (.shift false .u64 .u64 (.t 9) (.c (.int .u64 16))) <| m 0 10 <| .nil)) (
   .ops (
   m 11 2 <| o 12 (.arith .add .i64 (.t 11) (.c (.int .i64 16))) <| m 2 12 <| .nil))) (.skip))) (
   .seq (.seq (.ops (
   m 13 0 <| o 14 (.cmp .geq .u64 (.t 13) (.c (.int .u64 256))) <| .nil)) (
   .cond (.t 14) (.seq (.ops (
   m 15 0 <| o 16 (.shift false .u64 .u64 (.t 15) (.c (.int .u64 8))) <| m 0 16 <| .nil)) (
   .ops (
   m 17 2 <| o 18 (.arith .add .i64 (.t 17) (.c (.int .i64 8))) <| m 2 18 <| .nil))) (.skip))) (
   .seq (.ops (
   m 19 2 <| m 20 0 <| o 21 (.conv .u8 (.t 20)) <|
   .op ⟨(some 22), .indexStr (.c (.str ⟨⟨[0, 1, 2, 2, 3, 3, 3, 3, 4, 4, 4, 4, 4, 4, 4, 4, 5, 5, 5, 5, 5, 5, 5, 5, 5, 5, 5, 5, 5, 5, 5, 5, 6, 6, 6, 6, 6, 6, 6, 6, 6, 6, 6, 6, 6, 6, 6, 6, 6, 6, 6, 6, 6, 6, 6, 6, 6, 6, 6, 6, 6, 6, 6, 6, 7, 7, 7, 7, 7, 7, 7, 7, 7, 7, 7, 7, 7, 7, 7, 7, 7, 7, 7, 7, 7, 7, 7, 7, 7, 7, 7, 7, 7, 7, 7, 7, 7, 7, 7, 7, 7, 7, 7, 7, 7, 7, 7, 7, 7, 7, 7, 7, 7, 7, 7, 7, 7, 7, 7, 7, 7, 7, 7, 7, 7, 7, 7, 7, 8, 8, 8, 8, 8, 8, 8, 8, 8, 8, 8, 8, 8, 8, 8, 8, 8, 8, 8, 8, 8, 8, 8, 8, 8, 8, 8, 8, 8, 8, 8, 8, 8, 8, 8, 8, 8, 8, 8, 8, 8, 8, 8, 8, 8, 8, 8, 8, 8, 8, 8, 8, 8, 8, 8, 8, 8, 8, 8, 8, 8, 8, 8, 8, 8, 8, 8, 8, 8, 8, 8, 8, 8, 8, 8, 8, 8, 8, 8, 8, 8, 8, 8, 8, 8, 8, 8, 8, 8, 8, 8, 8, 8, 8, 8, 8, 8, 8, 8, 8, 8, 8, 8, 8, 8, 8, 8, 8, 8, 8, 8, 8, 8, 8, 8, 8, 8, 8, 8, 8, 8, 8, 8, 8, 8, 8, 8, 8]⟩⟩)) (.t 21), []⟩ <| o 23 (.conv .i64 (.t 22)) <| o 24 (.arith .add .i64 (.t 19) (.t 23)) <| m 2 24 <| .nil)) (
   .ret)))))

def math_bits_Len64_hs : List (List Nat × List Nat) := []

end Wm.F
end

section
namespace Wm.F
open Wm
set_option maxRecDepth 100000

def cmp_isNaN_int_ : AFunc where
  closed := true
  nparams := 1
  ntmps := 6
  results := [.tmp 2]
  body := .seq (.ops (
   o 2 (.mov (.c (.bool false))) <| .nil)) (
   .seq (.ops (
   m 3 0 <| m 4 0 <| o 5 (.cmp .neq .i64 (.t 3) (.t 4)) <| m 2 5 <| .nil)) (
   .ret))

def cmp_isNaN_int__hs : List (List Nat × List Nat) := []

end Wm.F
end

section
namespace Wm.F
open Wm
set_option maxRecDepth 100000

def slices_symMergeCmpFunc_int__c17 : ACode :=
  .seq (.ops (
   m 192 1 <| m 193 20 <| o 194 (.cmp .lss .i64 (.t 192) (.t 193)) <| m 195 194 <| .grd 195 true [i 196 (.mov (.t 20)),
   i 197 (.mov (.t 18)),
   i 198 (.cmp .lss .i64 (.t 196) (.t 197))] <| o 199 (.pick (.t 195) (.t 198) (.c (.bool false))) <| .nil)) (
  .cond (.t 199) (.ops (
   m 200 0 <| m 201 1 <| m 202 20 <| m 203 18 <| m 204 4 <| o 205 (.call 460 [(.t 200), (.t 201), (.t 202), (.t 203), (.t 204)]) <| .nil)) (.skip))

def slices_symMergeCmpFunc_int__c16 : ACode :=
  .seq (.ops (
   m 206 18 <| m 207 24 <| o 208 (.cmp .lss .i64 (.t 206) (.t 207)) <| m 209 208 <| .grd 209 true [i 210 (.mov (.t 24)),
   i 211 (.mov (.t 3)),
   i 212 (.cmp .lss .i64 (.t 210) (.t 211))] <| o 213 (.pick (.t 209) (.t 212) (.c (.bool false))) <| .nil)) (
  .cond (.t 213) (.ops (
   m 214 0 <| m 215 18 <| m 216 24 <| m 217 3 <| m 218 4 <| o 219 (.call 460 [(.t 214), (.t 215), (.t 216), (.t 217), (.t 218)]) <| .nil)) (.skip))

def slices_symMergeCmpFunc_int__c15 : ACode :=
  .seq (.ops (
   m 178 20 <| m 179 2 <| o 180 (.cmp .lss .i64 (.t 178) (.t 179)) <| m 181 180 <| .grd 181 true [i 182 (.mov (.t 2)),
   i 183 (.mov (.t 24)),
   i 184 (.cmp .lss .i64 (.t 182) (.t 183))] <| o 185 (.pick (.t 181) (.t 184) (.c (.bool false))) <| .nil)) (
  .cond (.t 185) (.ops (
   m 186 0 <| m 187 20 <| m 188 2 <| m 189 24 <| m 190 4 <| o 191 (.call 492 [(.t 186), (.t 187), (.t 188), (.t 189), (.t 190)]) <| .nil)) (.skip))

def slices_symMergeCmpFunc_int__c14 : ACode :=
  .seq (.join [0, 1, 3, 4, 18, 20, 24] [0, 3, 4, 18, 24] (slices_symMergeCmpFunc_int__c17)) (
  slices_symMergeCmpFunc_int__c16)

def slices_symMergeCmpFunc_int__c13 : ACode :=
  .seq (.seq (.ops (
   m 149 20 <| m 150 21 <| o 151 (.cmp .lss .i64 (.t 149) (.t 150)) <| .nil)) (
  .cond (.t 151) (.skip) (.exit 8))) (
  .block 9 (.seq (.ops (
   m 152 20 <| m 153 21 <| o 154 (.arith .add .i64 (.t 152) (.t 153)) <| o 155 (.conv .u64 (.t 154)) <| o 156 (.shift false .u64 .u64 (.t 155) (.c (.int .u64 1))) <|
   o 157 (.conv .i64 (.t 156)) <| m 23 157 <| .nil)) (
  .seq (.ops (
   m 158 4 <| m 159 0 <| m 160 22 <| m 161 23 <| o 162 (.arith .sub .i64 (.t 160) (.t 161)) <| o 163 (.indexA 1 (.t 159) (.t 162)) <| l 164 163 <| m 165 0 <| m 166 23 <|
   o 167 (.indexA 1 (.t 165) (.t 166)) <| l 168 167 <| o 169 (.callv (.t 158) [(.t 164), (.t 168)]) <| o 170 (.cmp .lss .i64 (.t 169) (.c (.int .i64 0))) <|
   o 171 (.not (.t 170)) <| .nil)) (
  .cond (.t 171) (.ops (
   m 172 23 <| o 173 (.arith .add .i64 (.t 172) (.c (.int .i64 1))) <| m 20 173 <| .nil)) (.ops (
   m 174 23 <| m 21 174 <| .nil))))))

def slices_symMergeCmpFunc_int__c12 : ACode :=
  .seq (.ops (
   m 175 19 <| m 176 20 <| o 177 (.arith .sub .i64 (.t 175) (.t 176)) <| m 24 177 <| .nil)) (
  .seq (.join [0, 1, 2, 3, 4, 18, 20, 24] [0, 1, 3, 4, 18, 20, 24] (slices_symMergeCmpFunc_int__c15)) (
  slices_symMergeCmpFunc_int__c14))

def slices_symMergeCmpFunc_int__c11 : ACode :=
  .seq (.ops (
   m 138 2 <| m 139 18 <| o 140 (.cmp .gtr .i64 (.t 138) (.t 139)) <| .nil)) (
  .cond (.t 140) (.seq (.ops (
   m 141 19 <| m 142 3 <| o 143 (.arith .sub .i64 (.t 141) (.t 142)) <| m 20 143 <| .nil)) (
   .ops (
   m 144 18 <| m 21 144 <| .nil))) (.seq (.ops (
   m 145 1 <| m 20 145 <| .nil)) (
   .ops (
   m 146 2 <| m 21 146 <| .nil))))

def slices_symMergeCmpFunc_int__c10 : ACode :=
  .seq (.ops (
   m 147 19 <| o 148 (.arith .sub .i64 (.t 147) (.c (.int .i64 1))) <| m 22 148 <| .nil)) (
  .seq (.block 8 (.loop [0, 1, 2, 3, 4, 18, 19, 20, 21, 22] [0, 1, 2, 3, 4, 18, 19, 20] (slices_symMergeCmpFunc_int__c13))) (
  slices_symMergeCmpFunc_int__c12))

def slices_symMergeCmpFunc_int__c9 : ACode :=
  .seq (.seq (.ops (
   m 108 17 <| m 109 14 <| o 110 (.cmp .gtr .i64 (.t 108) (.t 109)) <| .nil)) (
  .cond (.t 110) (.skip) (.exit 6))) (
  .seq (.block 7 (.ops (
   m 113 0 <| m 114 17 <| m 115 0 <| m 116 17 <| o 117 (.arith .sub .i64 (.t 116) (.c (.int .i64 1))) <| m 118 0 <| m 119 17 <|
   o 120 (.arith .sub .i64 (.t 119) (.c (.int .i64 1))) <| o 121 (.indexA 1 (.t 118) (.t 120)) <| l 122 121 <| m 123 0 <| m 124 17 <| o 125 (.indexA 1 (.t 123) (.t 124)) <|
   l 126 125 <| o 127 (.indexA 1 (.t 113) (.t 114)) <| u (.store 1 (.t 127) (.t 122)) <| o 128 (.indexA 1 (.t 115) (.t 117)) <| u (.store 1 (.t 128) (.t 126)) <| .nil))) (
  .ops (
   m 111 17 <| o 112 (.arith .sub .i64 (.t 111) (.c (.int .i64 1))) <| m 17 112 <| .nil)))

def slices_symMergeCmpFunc_int__c8 : ACode :=
  .ret

def slices_symMergeCmpFunc_int__c7 : ACode :=
  .seq (.seq (.ops (
   m 83 14 <| m 84 15 <| o 85 (.cmp .lss .i64 (.t 83) (.t 84)) <| .nil)) (
  .cond (.t 85) (.skip) (.exit 4))) (
  .block 5 (.seq (.ops (
   m 86 14 <| m 87 15 <| o 88 (.arith .add .i64 (.t 86) (.t 87)) <| o 89 (.conv .u64 (.t 88)) <| o 90 (.shift false .u64 .u64 (.t 89) (.c (.int .u64 1))) <|
   o 91 (.conv .i64 (.t 90)) <| m 16 91 <| .nil)) (
  .seq (.ops (
   m 92 4 <| m 93 0 <| m 94 2 <| o 95 (.indexA 1 (.t 93) (.t 94)) <| l 96 95 <| m 97 0 <| m 98 16 <| o 99 (.indexA 1 (.t 97) (.t 98)) <| l 100 99 <|
   o 101 (.callv (.t 92) [(.t 96), (.t 100)]) <| o 102 (.cmp .lss .i64 (.t 101) (.c (.int .i64 0))) <| o 103 (.not (.t 102)) <| .nil)) (
  .cond (.t 103) (.ops (
   m 104 16 <| o 105 (.arith .add .i64 (.t 104) (.c (.int .i64 1))) <| m 14 105 <| .nil)) (.ops (
   m 106 16 <| m 15 106 <| .nil))))))

def slices_symMergeCmpFunc_int__c6 : ACode :=
  .seq (.seq (.ops (
   m 107 2 <| m 17 107 <| .nil)) (
  .block 6 (.loop [0, 14, 17] [] (slices_symMergeCmpFunc_int__c9)))) (
  slices_symMergeCmpFunc_int__c8)

def slices_symMergeCmpFunc_int__c5 : ACode :=
  .seq (.ops (
   m 129 1 <| m 130 3 <| o 131 (.arith .add .i64 (.t 129) (.t 130)) <| o 132 (.conv .u64 (.t 131)) <| o 133 (.shift false .u64 .u64 (.t 132) (.c (.int .u64 1))) <|
   o 134 (.conv .i64 (.t 133)) <| m 18 134 <| .nil)) (
  .seq (.ops (
   m 135 18 <| m 136 2 <| o 137 (.arith .add .i64 (.t 135) (.t 136)) <| m 19 137 <| .nil)) (
  .seq (.ops (
   o 20 (.mov (.c (.int .i64 0))) <| o 21 (.mov (.c (.int .i64 0))) <| .nil)) (
  .seq (.join [0, 1, 2, 3, 4, 18, 19] [0, 1, 2, 3, 4, 18, 19, 20, 21] (slices_symMergeCmpFunc_int__c11)) (
  slices_symMergeCmpFunc_int__c10))))

def slices_symMergeCmpFunc_int__c4 : ACode :=
  .seq (.seq (.ops (
   m 55 13 <| m 56 10 <| o 57 (.arith .sub .i64 (.t 56) (.c (.int .i64 1))) <| o 58 (.cmp .lss .i64 (.t 55) (.t 57)) <| .nil)) (
  .cond (.t 58) (.skip) (.exit 2))) (
  .seq (.block 3 (.ops (
   m 61 0 <| m 62 13 <| m 63 0 <| m 64 13 <| o 65 (.arith .add .i64 (.t 64) (.c (.int .i64 1))) <| m 66 0 <| m 67 13 <| o 68 (.arith .add .i64 (.t 67) (.c (.int .i64 1))) <|
   o 69 (.indexA 1 (.t 66) (.t 68)) <| l 70 69 <| m 71 0 <| m 72 13 <| o 73 (.indexA 1 (.t 71) (.t 72)) <| l 74 73 <| o 75 (.indexA 1 (.t 61) (.t 62)) <|
   u (.store 1 (.t 75) (.t 70)) <| o 76 (.indexA 1 (.t 63) (.t 65)) <| u (.store 1 (.t 76) (.t 74)) <| .nil))) (
  .ops (
   m 59 13 <| o 60 (.arith .add .i64 (.t 59) (.c (.int .i64 1))) <| m 13 60 <| .nil)))

def slices_symMergeCmpFunc_int__c3 : ACode :=
  .ret

def slices_symMergeCmpFunc_int__c2 : ACode :=
  .seq (.seq (.ops (
   m 31 10 <| m 32 11 <| o 33 (.cmp .lss .i64 (.t 31) (.t 32)) <| .nil)) (
  .cond (.t 33) (.skip) (.exit 0))) (
  .block 1 (.seq (.ops (
   m 34 10 <| m 35 11 <| o 36 (.arith .add .i64 (.t 34) (.t 35)) <| o 37 (.conv .u64 (.t 36)) <| o 38 (.shift false .u64 .u64 (.t 37) (.c (.int .u64 1))) <|
   o 39 (.conv .i64 (.t 38)) <| m 12 39 <| .nil)) (
  .seq (.ops (
   m 40 4 <| m 41 0 <| m 42 12 <| o 43 (.indexA 1 (.t 41) (.t 42)) <| l 44 43 <| m 45 0 <| m 46 1 <| o 47 (.indexA 1 (.t 45) (.t 46)) <| l 48 47 <|
   o 49 (.callv (.t 40) [(.t 44), (.t 48)]) <| o 50 (.cmp .lss .i64 (.t 49) (.c (.int .i64 0))) <| .nil)) (
  .cond (.t 50) (.ops (
   m 51 12 <| o 52 (.arith .add .i64 (.t 51) (.c (.int .i64 1))) <| m 10 52 <| .nil)) (.ops (
   m 53 12 <| m 11 53 <| .nil))))))

def slices_symMergeCmpFunc_int__c1 : ACode :=
  .seq (.seq (.ops (
   m 54 1 <| m 13 54 <| .nil)) (
  .block 2 (.loop [0, 10, 13] [] (slices_symMergeCmpFunc_int__c4)))) (
  slices_symMergeCmpFunc_int__c3)

def slices_symMergeCmpFunc_int__c0 : ACode :=
  .seq (.seq (.ops (
   m 77 3 <| m 78 2 <| o 79 (.arith .sub .i64 (.t 77) (.t 78)) <| o 80 (.cmp .eql .i64 (.t 79) (.c (.int .i64 1))) <| .nil)) (
  .cond (.t 80) (.seq (.ops (
   m 81 1 <| m 14 81 <| .nil)) (
   .seq (.ops (
   m 82 2 <| m 15 82 <| .nil)) (
   .seq (.block 4 (.loop [0, 2, 4, 14, 15] [0, 2, 14] (slices_symMergeCmpFunc_int__c7))) (
   slices_symMergeCmpFunc_int__c6)))) (.skip))) (
  slices_symMergeCmpFunc_int__c5)

def slices_symMergeCmpFunc_int_ : AFunc where
  closed := false
  nparams := 5
  ntmps := 220
  results := []
  body := .seq (.seq (.ops (
   m 25 2 <| m 26 1 <| o 27 (.arith .sub .i64 (.t 25) (.t 26)) <| o 28 (.cmp .eql .i64 (.t 27) (.c (.int .i64 1))) <| .nil)) (
   .cond (.t 28) (.seq (.ops (
   m 29 2 <| m 10 29 <| .nil)) (
   .seq (.ops (
   m 30 3 <| m 11 30 <| .nil)) (
   .seq (.block 0 (.loop [0, 1, 4, 10, 11] [0, 1, 10] (slices_symMergeCmpFunc_int__c2))) (
   slices_symMergeCmpFunc_int__c1)))) (.skip))) (
   slices_symMergeCmpFunc_int__c0)

def slices_symMergeCmpFunc_int__hs : List (List Nat × List Nat) := [([0, 1, 4, 10, 11], [0, 1, 10]), ([0, 10, 13], []), ([0, 2, 4, 14, 15], [0, 2, 14]), ([0, 14, 17], []), ([1000006, 0, 1, 2, 3, 4, 18, 19], [0, 1, 2, 3, 4, 18, 19, 20, 21]), ([0, 1, 2, 3, 4, 18, 19, 20, 21, 22], [0, 1, 2, 3, 4, 18, 19, 20]), ([1000005, 0, 1, 2, 3, 4, 18, 20, 24], [0, 1, 3, 4, 18, 20, 24]), ([1000001, 0, 1, 3, 4, 18, 20, 24], [0, 3, 4, 18, 24])]

end Wm.F
end

section
namespace Wm.F
open Wm
set_option maxRecDepth 100000

def slices_siftDownCmpFunc_int__c0 : ACode :=
  .block 1 (.seq (.ops (
   m 13 10 <| o 14 (.arith .mul .i64 (.c (.int .i64 2)) (.t 13)) <| o 15 (.arith .add .i64 (.t 14) (.c (.int .i64 1))) <| m 11 15 <| .nil)) (
  .seq (.seq (.ops (
   m 16 11 <| m 17 2 <| o 18 (.cmp .geq .i64 (.t 16) (.t 17)) <| .nil)) (
  .cond (.t 18) (.exit 0) (.skip))) (
  .seq (.seq (.ops (
   m 19 11 <| o 20 (.arith .add .i64 (.t 19) (.c (.int .i64 1))) <| m 21 2 <| o 22 (.cmp .lss .i64 (.t 20) (.t 21)) <| m 23 22 <| .grd 23 true [i 24 (.mov (.t 4)),
   i 25 (.mov (.t 0)),
   i 26 (.mov (.t 3)),
   i 27 (.mov (.t 11)),
   i 28 (.arith .add .i64 (.t 26) (.t 27)),
   i 29 (.indexA 1 (.t 25) (.t 28)),
   i 30 (.load1 (.t 29)),
   i 31 (.mov (.t 0)),
   i 32 (.mov (.t 3)),
   i 33 (.mov (.t 11)),
   i 34 (.arith .add .i64 (.t 32) (.t 33)),
   i 35 (.arith .add .i64 (.t 34) (.c (.int .i64 1))),
   i 36 (.indexA 1 (.t 31) (.t 35)),
   i 37 (.load1 (.t 36)),
   i 38 (.callv (.t 24) [(.t 30), (.t 37)]),
   i 39 (.cmp .lss .i64 (.t 38) (.c (.int .i64 0)))] <| o 40 (.pick (.t 23) (.t 39) (.c (.bool false))) <| .nil)) (
  .cond (.t 40) (.ops (
   m 41 11 <| o 42 (.arith .add .i64 (.t 41) (.c (.int .i64 1))) <| m 11 42 <| .nil)) (.skip))) (
  .seq (.seq (.ops (
   m 43 4 <| m 44 0 <| m 45 3 <| m 46 10 <| o 47 (.arith .add .i64 (.t 45) (.t 46)) <| o 48 (.indexA 1 (.t 44) (.t 47)) <| l 49 48 <| m 50 0 <| m 51 3 <| m 52 11 <|
   o 53 (.arith .add .i64 (.t 51) (.t 52)) <| o 54 (.indexA 1 (.t 50) (.t 53)) <| l 55 54 <| o 56 (.callv (.t 43) [(.t 49), (.t 55)]) <|
   o 57 (.cmp .lss .i64 (.t 56) (.c (.int .i64 0))) <| o 58 (.not (.t 57)) <| .nil)) (
  .cond (.t 58) (.ret) (.skip))) (
  .seq (.ops (
   m 59 0 <| m 60 3 <| m 61 10 <| o 62 (.arith .add .i64 (.t 60) (.t 61)) <| m 63 0 <| m 64 3 <| m 65 11 <| o 66 (.arith .add .i64 (.t 64) (.t 65)) <| m 67 0 <| m 68 3 <|
   m 69 11 <| o 70 (.arith .add .i64 (.t 68) (.t 69)) <| o 71 (.indexA 1 (.t 67) (.t 70)) <| l 72 71 <| m 73 0 <| m 74 3 <| m 75 10 <| o 76 (.arith .add .i64 (.t 74) (.t 75)) <|
   o 77 (.indexA 1 (.t 73) (.t 76)) <| l 78 77 <| o 79 (.indexA 1 (.t 59) (.t 62)) <| u (.store 1 (.t 79) (.t 72)) <| o 80 (.indexA 1 (.t 63) (.t 66)) <|
   u (.store 1 (.t 80) (.t 78)) <| .nil)) (
  .ops (
   m 81 11 <| m 10 81 <| .nil)))))))

def slices_siftDownCmpFunc_int_ : AFunc where
  closed := false
  nparams := 5
  ntmps := 82
  results := []
  body := .seq (.ops (
   m 12 1 <| m 10 12 <| .nil)) (
   .block 0 (.loop [0, 2, 3, 4, 10] [] (slices_siftDownCmpFunc_int__c0)))

def slices_siftDownCmpFunc_int__hs : List (List Nat × List Nat) := [([0, 2, 3, 4, 10], [])]

end Wm.F
end

section
namespace Wm.F
open Wm
set_option maxRecDepth 100000

def slices_nextPowerOfTwo : AFunc where
  closed := true
  nparams := 1
  ntmps := 7
  results := [.tmp 2]
  body := .seq (.ops (
   o 2 (.mov (.c (.int .u64 0))) <| .nil)) (
   .seq (.ops (
   m 3 0 <| o 4 (.conv .u64 (.t 3)) <| o 5 (.call 406 [(.t 4)]) <| o 6 (.shift true .u64 .i64 (.c (.int .u64 1)) (.t 5)) <| m 2 6 <| .nil)) (
   .ret))

def slices_nextPowerOfTwo_hs : List (List Nat × List Nat) := []

end Wm.F
end

section
namespace Wm.F
open Wm
set_option maxRecDepth 100000

def slices_xorshift_Next : AFunc where
  closed := false
  nparams := 1
  ntmps := 33
  results := [.tmp 2]
  body := .seq (.ops (
   o 2 (.mov (.c (.int .u64 0))) <| .nil)) (
   .seq (.ops (
   m 3 0 <| n 4 3 <| l 5 4 <| m 6 0 <| n 7 6 <| l 8 7 <| o 9 (.shift true .u64 .u64 (.t 8) (.c (.int .u64 13))) <| o 10 (.arith .xor .u64 (.t 5) (.t 9)) <| n 11 3 <|
   u (.store 1 (.t 11) (.t 10)) <| .nil)) (
   .seq (.ops (
   m 12 0 <| n 13 12 <| l 14 13 <| m 15 0 <| n 16 15 <| l 17 16 <| o 18 (.shift false .u64 .u64 (.t 17) (.c (.int .u64 7))) <| o 19 (.arith .xor .u64 (.t 14) (.t 18)) <|
   n 20 12 <| u (.store 1 (.t 20) (.t 19)) <| .nil)) (
   .seq (.ops (
   m 21 0 <| n 22 21 <| l 23 22 <| m 24 0 <| n 25 24 <| l 26 25 <| o 27 (.shift true .u64 .u64 (.t 26) (.c (.int .u64 17))) <| o 28 (.arith .xor .u64 (.t 23) (.t 27)) <|
   n 29 21 <| u (.store 1 (.t 29) (.t 28)) <| .nil)) (
   .seq (.ops (
   m 30 0 <| n 31 30 <| l 32 31 <| m 2 32 <| .nil)) (
   .ret)))))

def slices_xorshift_Next_hs : List (List Nat × List Nat) := []

end Wm.F
end

section
namespace Wm.F
open Wm
set_option maxRecDepth 100000

def slices_medianAdjacentCmpFunc_int_ : AFunc where
  closed := false
  nparams := 4
  ntmps := 18
  results := [.tmp 8]
  body := .seq (.ops (
   o 8 (.mov (.c (.int .i64 0))) <| .nil)) (
   .seq (.ops (
   m 9 0 <| m 10 1 <| o 11 (.arith .sub .i64 (.t 10) (.c (.int .i64 1))) <| m 12 1 <| m 13 1 <| o 14 (.arith .add .i64 (.t 13) (.c (.int .i64 1))) <| m 15 2 <| m 16 3 <|
   o 17 (.call 491 [(.t 9), (.t 11), (.t 12), (.t 14), (.t 15), (.t 16)]) <| m 8 17 <| .nil)) (
   .ret))

def slices_medianAdjacentCmpFunc_int__hs : List (List Nat × List Nat) := []

end Wm.F
end

section
namespace Wm.F
open Wm
set_option maxRecDepth 100000

def slices_medianCmpFunc_int_ : AFunc where
  closed := false
  nparams := 6
  ntmps := 41
  results := [.tmp 12]
  body := .seq (.ops (
   o 12 (.mov (.c (.int .i64 0))) <| .nil)) (
   .seq (.ops (
   m 14 0 <| m 15 1 <| m 16 2 <| m 17 4 <| m 18 5 <| o 19 (.call 512 [(.t 14), (.t 15), (.t 16), (.t 17), (.t 18)]) <| m 13 19 <| o 20 (.extract (.t 13) 0) <|
   o 21 (.extract (.t 13) 1) <| m 1 20 <| m 2 21 <| .nil)) (
   .seq (.ops (
   m 23 0 <| m 24 2 <| m 25 3 <| m 26 4 <| m 27 5 <| o 28 (.call 512 [(.t 23), (.t 24), (.t 25), (.t 26), (.t 27)]) <| m 22 28 <| o 29 (.extract (.t 22) 0) <|
   o 30 (.extract (.t 22) 1) <| m 2 29 <| m 3 30 <| .nil)) (
   .seq (.ops (
   m 32 0 <| m 33 1 <| m 34 2 <| m 35 4 <| m 36 5 <| o 37 (.call 512 [(.t 32), (.t 33), (.t 34), (.t 35), (.t 36)]) <| m 31 37 <| o 38 (.extract (.t 31) 0) <|
   o 39 (.extract (.t 31) 1) <| m 1 38 <| m 2 39 <| .nil)) (
   .seq (.ops (
   m 40 2 <| m 12 40 <| .nil)) (
   .ret)))))

def slices_medianCmpFunc_int__hs : List (List Nat × List Nat) := []

end Wm.F
end

section
namespace Wm.F
open Wm
set_option maxRecDepth 100000

def slices_rotateCmpFunc_int__c1 : ACode :=
  .seq (.seq (.ops (
   m 18 10 <| m 19 11 <| o 20 (.cmp .neq .i64 (.t 18) (.t 19)) <| .nil)) (
  .cond (.t 20) (.skip) (.exit 0))) (
  .block 1 (.seq (.ops (
   m 21 10 <| m 22 11 <| o 23 (.cmp .gtr .i64 (.t 21) (.t 22)) <| .nil)) (
  .cond (.t 23) (.seq (.ops (
   m 24 0 <| m 25 2 <| m 26 10 <| o 27 (.arith .sub .i64 (.t 25) (.t 26)) <| m 28 2 <| m 29 11 <| m 30 4 <| o 31 (.call 513 [(.t 24), (.t 27), (.t 28), (.t 29), (.t 30)]) <|
   .nil)) (
   .ops (
   m 32 10 <| m 33 11 <| o 34 (.arith .sub .i64 (.t 32) (.t 33)) <| m 10 34 <| .nil))) (.seq (.ops (
   m 35 0 <| m 36 2 <| m 37 10 <| o 38 (.arith .sub .i64 (.t 36) (.t 37)) <| m 39 2 <| m 40 11 <| o 41 (.arith .add .i64 (.t 39) (.t 40)) <| m 42 10 <|
   o 43 (.arith .sub .i64 (.t 41) (.t 42)) <| m 44 10 <| m 45 4 <| o 46 (.call 513 [(.t 35), (.t 38), (.t 43), (.t 44), (.t 45)]) <| .nil)) (
   .ops (
   m 47 11 <| m 48 10 <| o 49 (.arith .sub .i64 (.t 47) (.t 48)) <| m 11 49 <| .nil))))))

def slices_rotateCmpFunc_int__c0 : ACode :=
  .ops (
   m 50 0 <| m 51 2 <| m 52 10 <| o 53 (.arith .sub .i64 (.t 51) (.t 52)) <| m 54 2 <| m 55 10 <| m 56 4 <| o 57 (.call 513 [(.t 50), (.t 53), (.t 54), (.t 55), (.t 56)]) <| .nil)

def slices_rotateCmpFunc_int_ : AFunc where
  closed := false
  nparams := 5
  ntmps := 58
  results := []
  body := .seq (.ops (
   m 12 2 <| m 13 1 <| o 14 (.arith .sub .i64 (.t 12) (.t 13)) <| m 10 14 <| .nil)) (
   .seq (.ops (
   m 15 3 <| m 16 2 <| o 17 (.arith .sub .i64 (.t 15) (.t 16)) <| m 11 17 <| .nil)) (
   .seq (.block 0 (.loop [0, 2, 4, 10, 11] [0, 2, 4, 10] (slices_rotateCmpFunc_int__c1))) (
   slices_rotateCmpFunc_int__c0)))

def slices_rotateCmpFunc_int__hs : List (List Nat × List Nat) := [([0, 2, 4, 10, 11], [0, 2, 4, 10])]

end Wm.F
end

section
namespace Wm.F
open Wm
set_option maxRecDepth 100000

def slices_order2CmpFunc_int_ : AFunc where
  closed := false
  nparams := 5
  ntmps := 32
  results := [.tmp 10, .tmp 11]
  body := .seq (.ops (
   o 10 (.mov (.c (.int .i64 0))) <| o 11 (.mov (.c (.int .i64 0))) <| .nil)) (
   .seq (.seq (.ops (
   m 12 4 <| m 13 0 <| m 14 2 <| o 15 (.indexA 1 (.t 13) (.t 14)) <| l 16 15 <| m 17 0 <| m 18 1 <| o 19 (.indexA 1 (.t 17) (.t 18)) <| l 20 19 <|
   o 21 (.callv (.t 12) [(.t 16), (.t 20)]) <| o 22 (.cmp .lss .i64 (.t 21) (.c (.int .i64 0))) <| .nil)) (
   .cond (.t 22) (.seq (.ops (
   m 23 3 <| n 24 23 <| l 25 24 <| o 26 (.arith .add .i64 (.t 25) (.c (.int .i64 1))) <| n 27 23 <| u (.store 1 (.t 27) (.t 26)) <| .nil)) (
   .seq (.ops (
   m 28 2 <| m 29 1 <| m 10 28 <| m 11 29 <| .nil)) (
   .ret))) (.skip))) (
   .seq (.ops (
   m 30 1 <| m 31 2 <| m 10 30 <| m 11 31 <| .nil)) (
   .ret)))

def slices_order2CmpFunc_int__hs : List (List Nat × List Nat) := []

end Wm.F
end

section
namespace Wm.F
open Wm
set_option maxRecDepth 100000

def slices_swapRangeCmpFunc_int__c0 : ACode :=
  .seq (.seq (.ops (
   m 11 10 <| m 12 3 <| o 13 (.cmp .lss .i64 (.t 11) (.t 12)) <| .nil)) (
  .cond (.t 13) (.skip) (.exit 0))) (
  .seq (.block 1 (.ops (
   m 16 0 <| m 17 1 <| m 18 10 <| o 19 (.arith .add .i64 (.t 17) (.t 18)) <| m 20 0 <| m 21 2 <| m 22 10 <| o 23 (.arith .add .i64 (.t 21) (.t 22)) <| m 24 0 <| m 25 2 <|
   m 26 10 <| o 27 (.arith .add .i64 (.t 25) (.t 26)) <| o 28 (.indexA 1 (.t 24) (.t 27)) <| l 29 28 <| m 30 0 <| m 31 1 <| m 32 10 <| o 33 (.arith .add .i64 (.t 31) (.t 32)) <|
   o 34 (.indexA 1 (.t 30) (.t 33)) <| l 35 34 <| o 36 (.indexA 1 (.t 16) (.t 19)) <| u (.store 1 (.t 36) (.t 29)) <| o 37 (.indexA 1 (.t 20) (.t 23)) <|
   u (.store 1 (.t 37) (.t 35)) <| .nil))) (
  .ops (
   m 14 10 <| o 15 (.arith .add .i64 (.t 14) (.c (.int .i64 1))) <| m 10 15 <| .nil)))

def slices_swapRangeCmpFunc_int_ : AFunc where
  closed := false
  nparams := 5
  ntmps := 38
  results := []
  body := .seq (.ops (
   o 10 (.mov (.c (.int .i64 0))) <| .nil)) (
   .block 0 (.loop [0, 1, 2, 3, 10] [] (slices_swapRangeCmpFunc_int__c0)))

def slices_swapRangeCmpFunc_int__hs : List (List Nat × List Nat) := [([0, 1, 2, 3, 10], [])]

end Wm.F
end

