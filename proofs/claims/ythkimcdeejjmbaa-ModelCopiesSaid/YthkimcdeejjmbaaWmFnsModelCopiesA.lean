/- PRINTED by my tool: functions as those of my machine. -/
import Derived.Test.YthkimcdeejjmbaaWmCore
set_option linter.all false
section
open Wm
namespace Wm.F
def m (a b : Nat) (k : AIs) : AIs := .op ⟨some a, .mov (.t b), []⟩ k
def d (a i b : Nat) (k : AIs) : AIs := .op ⟨some a, .fieldA i (.t b), []⟩ k
def l (a b : Nat) (k : AIs) : AIs := .op ⟨some a, .load1 (.t b), []⟩ k
def n (a b : Nat) (k : AIs) : AIs := .op ⟨some a, .nilc (.t b), []⟩ k
def ln (a c b : Nat) (k : AIs) : AIs := .op ⟨some a, .loadN c (.t b), []⟩ k
def o (a : Nat) (x : AOp) (k : AIs) : AIs := .op ⟨some a, x, []⟩ k
def u (x : AOp) (k : AIs) : AIs := .op ⟨none, x, []⟩ k
def i (a : Nat) (x : AOp) : AI := ⟨some a, x, []⟩
end Wm.F

end
section
namespace Wm.F
open Wm
set_option maxRecDepth 100000

def withylaw17_ModelCopies : AFunc where
  closed := false
  nparams := 3
  ntmps := 84
  results := [.tmp 6]
  body := .seq (.ops (
   o 6 (.mov (.c (.bool false))) <| .nil)) (
   .seq (.ops (
   o 13 (.call 97 []) <| o 14 (.call 96 [(.t 13)]) <| o 15 (.call 97 []) <| o 16 (.call 96 [(.t 15)]) <| m 7 14 <| m 8 16 <| .nil)) (
   .seq (.seq (.ops (
   m 17 0 <| o 18 (.lenSl (.t 17)) <| o 19 (.cmp .gtr .i64 (.t 18) (.c (.int .i64 80))) <| m 20 19 <| .grd 20 false [i 21 (.mov (.t 1)),
   i 22 (.lenSl (.t 21)),
   i 23 (.cmp .gtr .i64 (.t 22) (.c (.int .i64 80)))] <| o 24 (.pick (.t 20) (.c (.bool true)) (.t 23)) <| m 25 24 <| .grd 25 false [i 26 (.mov (.t 2)),
   i 27 (.lenSl (.t 26)),
   i 28 (.cmp .gtr .i64 (.t 27) (.c (.int .i64 80)))] <| o 29 (.pick (.t 25) (.c (.bool true)) (.t 28)) <| m 30 29 <| .grd 30 false [i 31 (.call 98 []),
   i 32 (.not (.t 31))] <| o 33 (.pick (.t 30) (.c (.bool true)) (.t 32)) <| .nil)) (
   .cond (.t 33) (.seq (.ops (
   o 34 (.call 98 []) <| m 6 34 <| .nil)) (
   .ret)) (.skip))) (
   .seq (.ops (
   m 35 7 <| m 36 0 <| o 37 (.call 114 [(.t 35), (.t 36)]) <| .nil)) (
   .seq (.ops (
   m 38 8 <| m 39 0 <| o 40 (.call 114 [(.t 38), (.t 39)]) <| .nil)) (
   .seq (.ops (
   m 41 7 <| o 42 (.call 115 [(.t 41)]) <| m 9 42 <| .nil)) (
   .seq (.seq (.ops (
   m 43 9 <| o 44 (.eq false .ptr (.t 43) (.c .nilp)) <| .nil)) (
   .cond (.t 44) (.seq (.ops (
   o 6 (.mov (.c (.bool false))) <| .nil)) (
   .ret)) (.skip))) (
   .seq (.ops (
   m 45 9 <| m 46 2 <| o 47 (.call 114 [(.t 45), (.t 46)]) <| .nil)) (
   .seq (.ops (
   m 48 7 <| m 49 1 <| o 50 (.call 114 [(.t 48), (.t 49)]) <| m 51 8 <| m 52 1 <| o 53 (.call 114 [(.t 51), (.t 52)]) <| m 10 50 <| m 11 53 <| .nil)) (
   .seq (.ops (
   o 12 (.mov (.c .nilp)) <| .nil)) (
   .seq (.ops (
   m 54 10 <| m 55 11 <| o 56 (.eq false .str (.t 54) (.t 55)) <| m 57 56 <| .grd 57 true [i 58 (.mov (.t 12)),
   i 59 (.call 115 [(.t 58)]),
   i 60 (.eq false .ptr (.t 59) (.c .nilp))] <| o 61 (.pick (.t 57) (.t 60) (.c (.bool false))) <| m 62 61 <| .grd 62 true [i 63 (.mov (.t 12)),
   i 64 (.build [(.int .i64 0), (.int .i64 0), (.int .u64 0), (.int .u64 0), (.int .u64 0)] [(0, 1, (.c (.int .i64 1)))]),
   i 65 (.build [(.int .i64 0), (.int .u64 0), (.bool false)] [(1, 1, (.c (.int .u64 1)))]),
   i 66 (.call 103 [(.t 63), (.c (.int .i64 0)), (.t 64), (.t 65)]),
   i 67 (.not (.t 66))] <| o 68 (.pick (.t 62) (.t 67) (.c (.bool false))) <| m 69 68 <| .grd 69 true [i 70 (.mov (.t 12)),
   i 71 (.call 105 [(.t 70), (.c (.int .i64 0))]),
   i 72 (.cmp .eql .i64 (.t 71) (.c (.int .i64 0)))] <| o 73 (.pick (.t 69) (.t 72) (.c (.bool false))) <| m 74 73 <| .grd 74 true [i 75 (.mov (.t 12)),
   i 76 (.call 106 [(.t 75), (.c (.int .i64 0)), (.c (.int .u64 1))]),
   i 77 (.cmp .eql .i64 (.t 76) (.c (.int .i64 (-1))))] <| o 78 (.pick (.t 74) (.t 77) (.c (.bool false))) <| m 79 78 <| .grd 79 true [i 80 (.mov (.t 12)),
   i 81 (.call 116 [(.t 80), (.c (.int .i64 0)), (.c (.int .i64 0))]),
   i 82 (.cmp .eql .i64 (.t 81) (.c (.int .i64 (-1))))] <| o 83 (.pick (.t 79) (.t 82) (.c (.bool false))) <| m 6 83 <| .nil)) (
   .ret)))))))))))

def withylaw17_ModelCopies_hs : List (List Nat × List Nat) := []

end Wm.F
end

section
namespace Wm.F
open Wm
set_option maxRecDepth 100000

def model_New_c1 : ACode :=
  .seq (.ops (
   o 17 (.cmp .lss .i64 (.t 16) (.t 15)) <| .nil)) (
  .seq (.cond (.t 17) (.skip) (.exit 0)) (
  .seq (.block 1 (.ops (
   m 18 3 <| m 19 3 <| n 20 19 <| d 21 7 20 <| l 22 21 <| o 23 (.mkMap) <| o 24 (.buildSl 1 1 [.nilmap] [(0, 1, (.t 23))]) <| o 25 (.append 1 8 (.t 22) (.t 24)) <| n 26 18 <|
   d 27 7 26 <| u (.store 1 (.t 27) (.t 25)) <| .nil))) (
  .ops (
   o 28 (.arith .add .i64 (.t 16) (.c (.int .i64 1))) <| m 16 28 <| .nil))))

def model_New_c0 : ACode :=
  .seq (.ops (
   m 29 3 <| m 2 29 <| .nil)) (
  .ret)

def model_New : AFunc where
  closed := false
  nparams := 1
  ntmps := 30
  results := [.tmp 2]
  body := .seq (.ops (
   o 1 (.box (.t 0)) <| o 2 (.mov (.c .nilp)) <| .nil)) (
   .seq (.seq (.ops (
   ln 4 6 1 <| o 5 (.call 263 [(.t 4)]) <| o 6 (.not (.t 5)) <| .nil)) (
   .cond (.t 6) (.seq (.ops (
   o 2 (.mov (.c .nilp)) <| .nil)) (
   .ret)) (.skip))) (
   .seq (.ops (
   ln 7 6 1 <| d 8 2 1 <| l 9 8 <| o 10 (.mkSl 2 32 [(.int .u64 0), .nilsl] (.t 9) (.t 9)) <| o 11 (.mkMap) <|
   o 12 (.build [(.int .i64 0), (.int .i64 0), (.int .i64 0), (.int .i64 0), (.int .i64 0), (.int .i64 0), .nilsl, .nilsl, .nilsl, .nilmap] [(0, 6, (.t 7)), (8, 1, (.t 10)), (9, 1, (.t 11))]) <| o 13 (.box (.t 12)) <| m 3 13 <| .nil)) (
   .seq (.seq (.ops (
   d 14 2 1 <| l 15 14 <| o 16 (.mov (.c (.int .i64 0))) <| .nil)) (
   .block 0 (.loop [3, 15, 16] [3] (model_New_c1)))) (
   model_New_c0))))

def model_New_hs : List (List Nat × List Nat) := [([3, 15, 16], [3])]

end Wm.F
end

section
namespace Wm.F
open Wm
set_option maxRecDepth 100000

def withylaw17_config : AFunc where
  closed := true
  nparams := 0
  ntmps := 2
  results := [.cell true 6 0]
  body := .seq (.ops (
   o 0 (.alloc [(.int .i64 0), (.int .i64 0), (.int .i64 0), (.int .i64 0), (.int .i64 0), (.int .i64 0)]) <| .nil)) (
   .seq (.ops (
   o 1 (.build [(.int .i64 0), (.int .i64 0), (.int .i64 0), (.int .i64 0), (.int .i64 0), (.int .i64 0)] [(0, 1, (.c (.int .i64 4))), (1, 1, (.c (.int .i64 2))), (2, 1, (.c (.int .i64 2))), (3, 1, (.c (.int .i64 3))), (4, 1, (.c (.int .i64 9)))]) <| u (.store 6 (.t 0) (.t 1)) <| .nil)) (
   .ret))

def withylaw17_config_hs : List (List Nat × List Nat) := []

end Wm.F
end

section
namespace Wm.F
open Wm
set_option maxRecDepth 100000

def withylaw17_awake : AFunc where
  closed := true
  nparams := 0
  ntmps := 69
  results := [.tmp 0]
  body := .seq (.ops (
   o 0 (.mov (.c (.bool false))) <| .nil)) (
   .seq (.ops (
   o 4 (.call 97 []) <| o 5 (.call 96 [(.t 4)]) <| m 1 5 <| .nil)) (
   .seq (.ops (
   m 6 1 <| o 7 (.build [(.int .i64 0), (.int .i64 0), (.int .u64 0), (.int .u64 0), (.int .u64 0)] [(0, 1, (.c (.int .i64 1))), (1, 1, (.c (.int .i64 1)))]) <|
   o 8 (.build [(.int .i64 0), (.int .u64 0), (.bool false)] [(1, 1, (.c (.int .u64 5)))]) <| o 9 (.call 103 [(.t 6), (.c (.int .i64 0)), (.t 7), (.t 8)]) <| m 10 9 <|
   .grd 10 true [i 11 (.mov (.t 1)),
   i 12 (.build [(.int .i64 0), (.int .i64 0), (.int .u64 0), (.int .u64 0), (.int .u64 0)] [(0, 1, (.c (.int .i64 3))), (2, 1, (.c (.int .u64 5))), (3, 1, (.c (.int .u64 5)))]),
   i 13 (.build [(.int .i64 0), (.int .u64 0), (.bool false)] []),
   i 14 (.call 103 [(.t 11), (.c (.int .i64 0)), (.t 12), (.t 13)])] <| o 15 (.pick (.t 10) (.t 14) (.c (.bool false))) <| m 16 15 <| .grd 16 true [i 17 (.mov (.t 1)),
   i 18 (.build [(.int .i64 0), (.int .i64 0), (.int .u64 0), (.int .u64 0), (.int .u64 0)] [(0, 1, (.c (.int .i64 2))), (2, 1, (.c (.int .u64 5)))]),
   i 19 (.build [(.int .i64 0), (.int .u64 0), (.bool false)] [(1, 1, (.c (.int .u64 6)))]),
   i 20 (.call 103 [(.t 17), (.c (.int .i64 0)), (.t 18), (.t 19)])] <| o 21 (.pick (.t 16) (.t 20) (.c (.bool false))) <| m 22 21 <| .grd 22 true [i 23 (.mov (.t 1)),
   i 24 (.build [(.int .i64 0), (.int .i64 0), (.int .u64 0), (.int .u64 0), (.int .u64 0)] [(0, 1, (.c (.int .i64 7))), (2, 1, (.c (.int .u64 5))), (3, 1, (.c (.int .u64 6)))]),
   i 25 (.build [(.int .i64 0), (.int .u64 0), (.bool false)] [(2, 1, (.c (.bool true)))]),
   i 26 (.call 103 [(.t 23), (.c (.int .i64 0)), (.t 24), (.t 25)])] <| o 27 (.pick (.t 22) (.t 26) (.c (.bool false))) <| m 2 27 <| .nil)) (
   .seq (.ops (
   m 28 1 <| o 29 (.build [(.int .i64 0), (.int .i64 0), (.int .u64 0), (.int .u64 0), (.int .u64 0)] [(0, 1, (.c (.int .i64 8))), (2, 1, (.c (.int .u64 5)))]) <|
   o 30 (.build [(.int .i64 0), (.int .u64 0), (.bool false)] [(1, 1, (.c (.int .u64 9)))]) <| o 31 (.call 103 [(.t 28), (.c (.int .i64 0)), (.t 29), (.t 30)]) <| m 32 31 <|
   .grd 32 true [i 33 (.mov (.t 1)),
   i 34 (.build [(.int .i64 0), (.int .i64 0), (.int .u64 0), (.int .u64 0), (.int .u64 0)] [(0, 1, (.c (.int .i64 4))), (2, 1, (.c (.int .u64 5)))]),
   i 35 (.build [(.int .i64 0), (.int .u64 0), (.bool false)] []),
   i 36 (.call 103 [(.t 33), (.c (.int .i64 0)), (.t 34), (.t 35)])] <| o 37 (.pick (.t 32) (.t 36) (.c (.bool false))) <| m 38 37 <| .grd 38 true [i 39 (.mov (.t 1)),
   i 40 (.build [(.int .i64 0), (.int .i64 0), (.int .u64 0), (.int .u64 0), (.int .u64 0)] [(0, 1, (.c (.int .i64 9))), (2, 1, (.c (.int .u64 9)))]),
   i 41 (.build [(.int .i64 0), (.int .u64 0), (.bool false)] [(1, 1, (.c (.int .u64 7)))]),
   i 42 (.call 103 [(.t 39), (.c (.int .i64 0)), (.t 40), (.t 41)])] <| o 43 (.pick (.t 38) (.t 42) (.c (.bool false))) <| m 44 43 <| .grd 44 true [i 45 (.mov (.t 1)),
   i 46 (.build [(.int .i64 0), (.int .i64 0), (.int .u64 0), (.int .u64 0), (.int .u64 0)] [(0, 1, (.c (.int .i64 9))), (2, 1, (.c (.int .u64 9)))]),
   i 47 (.build [(.int .i64 0), (.int .u64 0), (.bool false)] [(0, 1, (.c (.int .i64 6)))]),
   i 48 (.call 103 [(.t 45), (.c (.int .i64 0)), (.t 46), (.t 47)])] <| o 49 (.pick (.t 44) (.t 48) (.c (.bool false))) <| m 3 49 <| .nil)) (
   .seq (.ops (
   m 50 2 <| m 51 50 <| .grd 51 true [i 52 (.mov (.t 3))] <| o 53 (.pick (.t 51) (.t 52) (.c (.bool false))) <| m 54 53 <| .grd 54 true [i 55 (.mov (.t 1)),
   i 56 (.call 105 [(.t 55), (.c (.int .i64 0))]),
   i 57 (.cmp .eql .i64 (.t 56) (.c (.int .i64 3)))] <| o 58 (.pick (.t 54) (.t 57) (.c (.bool false))) <| m 59 58 <| .grd 59 true [i 60 (.mov (.t 1)),
   i 61 (.call 106 [(.t 60), (.c (.int .i64 0)), (.c (.int .u64 7))]),
   i 62 (.cmp .eql .i64 (.t 61) (.c (.int .i64 0)))] <| o 63 (.pick (.t 59) (.t 62) (.c (.bool false))) <| m 64 63 <| .grd 64 true [i 65 (.mov (.t 1)),
   i 66 (.call 116 [(.t 65), (.c (.int .i64 0)), (.c (.int .i64 0))]),
   i 67 (.cmp .eql .i64 (.t 66) (.c (.int .i64 (-1))))] <| o 68 (.pick (.t 64) (.t 67) (.c (.bool false))) <| m 0 68 <| .nil)) (
   .ret)))))

def withylaw17_awake_hs : List (List Nat × List Nat) := []

end Wm.F
end

section
namespace Wm.F
open Wm
set_option maxRecDepth 100000

def model_Model_Does_c3 : ACode :=
  .ops (
   d 23 0 6 <| l 24 23 <| o 25 (.cmp .lss .i64 (.t 24) (.c (.int .i64 1))) <| m 26 25 <| .grd 26 false [i 27 (.fieldA 0 (.t 6)),
   i 28 (.load1 (.t 27)),
   i 29 (.cmp .gtr .i64 (.t 28) (.c (.int .i64 10)))] <| o 30 (.pick (.t 26) (.c (.bool true)) (.t 29)) <| m 22 30 <| .nil)

def model_Model_Does_c2 : ACode :=
  .cond (.t 22) (.ops (
   o 9 (.mov (.c (.int .i64 8))) <| .nil)) (.seq (.ops (
   d 32 0 6 <| l 33 32 <| o 34 (.cmp .eql .i64 (.t 33) (.c (.int .i64 1))) <| m 31 34 <| .nil)) (
   .cond (.t 31) (.ops (
   m 35 0 <| m 36 1 <| ln 37 5 6 <| o 38 (.call 280 [(.t 35), (.t 36), (.t 37)]) <| m 9 38 <| o 10 (.mov (.c (.bool true))) <| .nil)) (.seq (.ops (
   d 40 0 6 <| l 41 40 <| o 42 (.call 82 [(.t 41)]) <| m 39 42 <| .nil)) (
   .cond (.t 39) (.ops (
   m 43 0 <| m 44 1 <| ln 45 5 6 <| o 46 (.call 281 [(.t 43), (.t 44), (.t 45)]) <| m 9 46 <| .nil)) (.ops (
   m 15 0 <| m 16 1 <| ln 17 5 6 <| d 19 0 6 <| l 20 19 <| .op ⟨(some 18), .call 282 [(.t 15), (.t 16), (.t 17)], [{ g := none, op := .load1 (.t 19), d := 20 }]⟩ <|
   o 21 (.call 83 [(.t 20)]) <| m 9 18 <| m 10 21 <| .nil))))))

def model_Model_Does_c1 : ACode :=
  .block 0 (.seq (.join [0, 1, 6, 7, 10] [0, 1, 6, 7, 10, 22] (model_Model_Does_c3)) (
  model_Model_Does_c2))

def model_Model_Does_c0 : ACode :=
  .seq (.seq (.ops (
   m 47 9 <| o 48 (.cmp .neq .i64 (.t 47) (.c (.int .i64 0))) <| .nil)) (
  .cond (.t 48) (.seq (.ops (
   ln 49 3 7 <| m 50 9 <| o 51 (.build [(.int .i64 0), (.int .u64 0), (.bool false)] [(0, 1, (.t 50))]) <|
   o 52 (.eq false (.agg [(0, .int), (1, .int), (2, .bool)]) (.t 49) (.t 51)) <| m 8 52 <| .nil)) (
   .ret)) (.skip))) (
  .seq (.seq (.ops (
   d 53 0 7 <| l 54 53 <| o 55 (.cmp .eql .i64 (.t 54) (.c (.int .i64 4))) <| .nil)) (
  .cond (.t 55) (.seq (.ops (
   m 56 10 <| m 57 56 <| .grd 57 true [i 58 (.loadN 3 (.t 7)),
   i 59 (.build [(.int .i64 0), (.int .u64 0), (.bool false)] [(0, 1, (.c (.int .i64 4)))]),
   i 60 (.eq false (.agg [(0, .int), (1, .int), (2, .bool)]) (.t 58) (.t 59))] <| o 61 (.pick (.t 57) (.t 60) (.c (.bool false))) <| m 62 61 <|
   .grd 62 true [i 63 (.fieldA 0 (.t 6)),
   i 64 (.load1 (.t 63)),
   i 65 (.cmp .eql .i64 (.t 64) (.c (.int .i64 5))),
   i 66 (.mov (.t 65))] <| .grd 66 true [i 67 (.mov (.t 0)),
   i 68 (.mov (.t 1)),
   i 69 (.loadN 5 (.t 6)),
   i 70 (.call 283 [(.t 67), (.t 68), (.t 69)]),
   i 71 (.not (.t 70))] <| .grd 62 true [i 72 (.pick (.t 66) (.t 71) (.c (.bool false))),
   i 73 (.not (.t 72))] <| o 74 (.pick (.t 62) (.t 73) (.c (.bool false))) <| m 8 74 <| .nil)) (
   .ret)) (.skip))) (
  .seq (.ops (
   d 75 0 7 <| l 76 75 <| o 77 (.cmp .eql .i64 (.t 76) (.c (.int .i64 0))) <| m 78 77 <| .grd 78 true [i 79 (.mov (.t 0)),
   i 80 (.mov (.t 1)),
   i 81 (.loadN 5 (.t 6)),
   i 82 (.loadN 3 (.t 7)),
   i 83 (.call 284 [(.t 79), (.t 80), (.t 81), (.t 82)])] <| o 84 (.pick (.t 78) (.t 83) (.c (.bool false))) <| m 8 84 <| .nil)) (
  .ret)))

def model_Model_Does : AFunc where
  closed := false
  nparams := 4
  ntmps := 85
  results := [.tmp 8]
  body := .seq (.ops (
   o 6 (.box (.t 2)) <| o 7 (.box (.t 3)) <| o 8 (.mov (.c (.bool false))) <| .nil)) (
   .seq (.seq (.ops (
   m 11 0 <| m 12 1 <| o 13 (.call 279 [(.t 11), (.t 12)]) <| o 14 (.not (.t 13)) <| .nil)) (
   .cond (.t 14) (.seq (.ops (
   o 8 (.mov (.c (.bool false))) <| .nil)) (
   .ret)) (.skip))) (
   .seq (.ops (
   o 9 (.mov (.c (.int .i64 0))) <| .nil)) (
   .seq (.ops (
   o 10 (.mov (.c (.bool false))) <| .nil)) (
   .seq (.join [0, 1, 6, 7, 10] [0, 1, 6, 7, 9, 10] (model_Model_Does_c1)) (
   model_Model_Does_c0)))))

def model_Model_Does_hs : List (List Nat × List Nat) := [([1000006, 0, 1, 6, 7, 10], [0, 1, 6, 7, 9, 10]), ([1000000, 0, 1, 6, 7, 10], [0, 1, 6, 7, 10, 22])]

end Wm.F
end

section
namespace Wm.F
open Wm
set_option maxRecDepth 100000

def model_Model_Held : AFunc where
  closed := false
  nparams := 2
  ntmps := 17
  results := [.tmp 4]
  body := .seq (.ops (
   o 4 (.mov (.c (.int .i64 0))) <| .nil)) (
   .seq (.seq (.ops (
   m 5 0 <| m 6 1 <| o 7 (.call 279 [(.t 5), (.t 6)]) <| o 8 (.not (.t 7)) <| .nil)) (
   .cond (.t 8) (.seq (.ops (
   o 4 (.mov (.c (.int .i64 0))) <| .nil)) (
   .ret)) (.skip))) (
   .seq (.ops (
   m 9 0 <| n 10 9 <| d 11 7 10 <| l 12 11 <| m 13 1 <| o 14 (.indexA 1 (.t 12) (.t 13)) <| l 15 14 <| o 16 (.lenMap (.t 15)) <| m 4 16 <| .nil)) (
   .ret)))

def model_Model_Held_hs : List (List Nat × List Nat) := []

end Wm.F
end

section
namespace Wm.F
open Wm
set_option maxRecDepth 100000

def model_Model_Node : AFunc where
  closed := false
  nparams := 3
  ntmps := 26
  results := [.tmp 6]
  body := .seq (.ops (
   o 6 (.mov (.c (.int .i64 0))) <| .nil)) (
   .seq (.seq (.ops (
   m 9 0 <| m 10 1 <| o 11 (.call 279 [(.t 9), (.t 10)]) <| .nil)) (
   .cond (.t 11) (.seq (.ops (
   m 13 0 <| n 14 13 <| d 15 7 14 <| l 16 15 <| m 17 1 <| o 18 (.indexA 1 (.t 16) (.t 17)) <| l 19 18 <| m 20 2 <| o 21 (.lookup .int (.int .i64 0) true (.t 19) (.t 20)) <|
   m 12 21 <| o 22 (.extract (.t 12) 0) <| o 23 (.extract (.t 12) 1) <| m 7 22 <| m 8 23 <| .nil)) (
   .seq (.ops (
   m 24 8 <| .nil)) (
   .cond (.t 24) (.seq (.ops (
   m 25 7 <| m 6 25 <| .nil)) (
   .ret)) (.skip)))) (.skip))) (
   .seq (.ops (
   o 6 (.mov (.c (.int .i64 (-1)))) <| .nil)) (
   .ret)))

def model_Model_Node_hs : List (List Nat × List Nat) := []

end Wm.F
end

section
namespace Wm.F
open Wm
set_option maxRecDepth 100000

def withylaw17_plays_c6 : ACode :=
  .ops (
   d 48 0 7 <| l 49 48 <| o 50 (.cmp .eql .i64 (.t 49) (.c (.int .i64 1))) <| m 51 50 <| .grd 51 false [i 52 (.fieldA 0 (.t 7)),
   i 53 (.load1 (.t 52)),
   i 54 (.cmp .eql .i64 (.t 53) (.c (.int .i64 2)))] <| o 55 (.pick (.t 51) (.c (.bool true)) (.t 54)) <| m 56 55 <| .grd 56 false [i 57 (.fieldA 0 (.t 7)),
   i 58 (.load1 (.t 57)),
   i 59 (.cmp .eql .i64 (.t 58) (.c (.int .i64 8)))] <| o 60 (.pick (.t 56) (.c (.bool true)) (.t 59)) <| m 61 60 <| .grd 61 false [i 62 (.fieldA 0 (.t 7)),
   i 63 (.load1 (.t 62)),
   i 64 (.cmp .eql .i64 (.t 63) (.c (.int .i64 9)))] <| o 65 (.pick (.t 61) (.c (.bool true)) (.t 64)) <| .nil)

def withylaw17_plays_c5 : ACode :=
  .cond (.t 65) (.ops (
   m 66 6 <| o 67 (.arith .add .i64 (.c (.int .i64 1000)) (.t 66)) <| o 68 (.conv .u64 (.t 67)) <| d 69 1 8 <| u (.store 1 (.t 69) (.t 68)) <| .nil)) (.skip)

def withylaw17_plays_c4 : ACode :=
  .seq (.join [0, 1, 5, 6, 7, 8] [0, 1, 5, 6, 7, 8, 65] (withylaw17_plays_c6)) (
  withylaw17_plays_c5)

def withylaw17_plays_c3 : ACode :=
  .seq (.ops (
   m 70 0 <| m 71 1 <| m 72 6 <| o 73 (.indexA 10 (.t 71) (.t 72)) <| d 74 0 73 <| l 75 74 <| ln 76 5 7 <| ln 77 3 8 <| o 78 (.call 103 [(.t 70), (.t 75), (.t 76), (.t 77)]) <|
   .nil)) (
  .cond (.t 78) (.ops (
   m 79 5 <| .op ⟨(some 80), .cat (.t 79) (.c (.str ⟨⟨[121]⟩⟩)), []⟩ <| m 5 80 <| .nil)) (.ops (
   m 81 5 <| .op ⟨(some 82), .cat (.t 81) (.c (.str ⟨⟨[110]⟩⟩)), []⟩ <| m 5 82 <| .nil)))

def withylaw17_plays_c2 : ACode :=
  .ops (
   m 13 6 <| o 14 (.arith .add .i64 (.t 13) (.c (.int .i64 1))) <| m 6 14 <| .nil)

def withylaw17_plays_c1 : ACode :=
  .seq (.seq (.ops (
   m 9 6 <| m 10 1 <| o 11 (.lenSl (.t 10)) <| o 12 (.cmp .lss .i64 (.t 9) (.t 11)) <| .nil)) (
  .cond (.t 12) (.skip) (.exit 0))) (
  .seq (.block 1 (.seq (.ops (
   m 15 1 <| m 16 6 <| o 17 (.indexA 10 (.t 15) (.t 16)) <| d 18 1 17 <| l 19 18 <| m 20 1 <| m 21 6 <| o 22 (.indexA 10 (.t 20) (.t 21)) <| d 23 2 22 <| l 24 23 <| m 25 1 <|
   m 26 6 <| o 27 (.indexA 10 (.t 25) (.t 26)) <| d 28 3 27 <| l 29 28 <| o 30 (.arith .add .i64 (.c (.int .i64 1000)) (.t 29)) <| o 31 (.conv .u64 (.t 30)) <| m 32 1 <| m 33 6 <|
   o 34 (.indexA 10 (.t 32) (.t 33)) <| d 35 4 34 <| l 36 35 <| o 37 (.arith .add .i64 (.c (.int .i64 1000)) (.t 36)) <| o 38 (.conv .u64 (.t 37)) <| m 39 1 <| m 40 6 <|
   o 41 (.indexA 10 (.t 39) (.t 40)) <| d 42 5 41 <| l 43 42 <| o 44 (.arith .add .i64 (.c (.int .i64 1000)) (.t 43)) <| o 45 (.conv .u64 (.t 44)) <|
   o 46 (.build [(.int .i64 0), (.int .i64 0), (.int .u64 0), (.int .u64 0), (.int .u64 0)] [(0, 1, (.t 19)), (1, 1, (.t 24)), (2, 1, (.t 31)), (3, 1, (.t 38)), (4, 1, (.t 45))]) <| o 7 (.alloc [(.int .i64 0), (.int .i64 0), (.int .u64 0), (.int .u64 0), (.int .u64 0)]) <| u (.store 5 (.t 7) (.t 46)) <| .nil)) (
  .seq (.ops (
   o 47 (.build [(.int .i64 0), (.int .u64 0), (.bool false)] []) <| o 8 (.alloc [(.int .i64 0), (.int .u64 0), (.bool false)]) <| u (.store 3 (.t 8) (.t 47)) <| .nil)) (
  .seq (.join [0, 1, 5, 6, 7, 8] [0, 1, 5, 6, 7, 8] (withylaw17_plays_c4)) (
  withylaw17_plays_c3))))) (
  withylaw17_plays_c2))

def withylaw17_plays_c0 : ACode :=
  .seq (.ops (
   m 83 5 <| m 4 83 <| .nil)) (
  .ret)

def withylaw17_plays : AFunc where
  closed := false
  nparams := 2
  ntmps := 84
  results := [.tmp 4]
  body := .seq (.ops (
   .op ⟨(some 4), .mov (.c (.str ⟨⟨[]⟩⟩)), []⟩ <| .nil)) (
   .seq (.ops (
   .op ⟨(some 5), .mov (.c (.str ⟨⟨[]⟩⟩)), []⟩ <| .nil)) (
   .seq (.seq (.ops (
   o 6 (.mov (.c (.int .i64 0))) <| .nil)) (
   .block 0 (.loop [0, 1, 5, 6] [5] (withylaw17_plays_c1)))) (
   withylaw17_plays_c0)))

def withylaw17_plays_hs : List (List Nat × List Nat) := [([0, 1, 5, 6], [5]), ([1000005, 0, 1, 5, 6, 7, 8], [0, 1, 5, 6, 7, 8]), ([1000000, 0, 1, 5, 6, 7, 8], [0, 1, 5, 6, 7, 8, 65])]

end Wm.F
end

section
namespace Wm.F
open Wm
set_option maxRecDepth 100000

def model_Model_Copy_c3 : ACode :=
  .seq (.ops (
   o 53 (.cmp .lss .i64 (.t 52) (.t 51)) <| .nil)) (
  .seq (.cond (.t 53) (.skip) (.exit 2)) (
  .seq (.block 3 (.seq (.ops (
   o 54 (.indexA 1 (.t 50) (.t 52)) <| l 55 54 <| m 7 55 <| .nil)) (
  .ops (
   m 56 3 <| m 57 3 <| n 58 57 <| d 59 7 58 <| l 60 59 <| m 61 7 <| .op ⟨(some 62), .call 286 [(.t 61)], [{ g := none, op := .load1 (.t 59), d := 60 }]⟩ <|
   o 63 (.buildSl 1 1 [.nilmap] [(0, 1, (.t 62))]) <| o 64 (.append 1 8 (.t 60) (.t 63)) <| n 65 56 <| d 66 7 65 <| u (.store 1 (.t 66) (.t 64)) <| .nil)))) (
  .ops (
   o 67 (.arith .add .i64 (.t 52) (.c (.int .i64 1))) <| m 52 67 <| .nil))))

def model_Model_Copy_c2 : ACode :=
  .seq (.ops (
   m 68 3 <| m 2 68 <| .nil)) (
  .ret)

def model_Model_Copy_c1 : ACode :=
  .seq (.ops (
   o 32 (.cmp .lss .i64 (.t 31) (.t 30)) <| .nil)) (
  .seq (.cond (.t 32) (.skip) (.exit 0)) (
  .seq (.block 1 (.seq (.ops (
   o 33 (.indexA 1 (.t 29) (.t 31)) <| l 34 33 <| m 5 34 <| .nil)) (
  .ops (
   m 35 3 <| m 36 3 <| n 37 36 <| d 38 6 37 <| l 39 38 <| m 40 5 <| .op ⟨(some 41), .call 287 [(.t 40)], [{ g := none, op := .load1 (.t 38), d := 39 }]⟩ <|
   o 42 (.buildSl 1 1 [.nilsl] [(0, 1, (.t 41))]) <| o 43 (.append 1 24 (.t 39) (.t 42)) <| n 44 35 <| d 45 6 44 <| u (.store 1 (.t 45) (.t 43)) <| .nil)))) (
  .ops (
   o 46 (.arith .add .i64 (.t 31) (.c (.int .i64 1))) <| m 31 46 <| .nil))))

def model_Model_Copy_c0 : ACode :=
  .seq (.seq (.ops (
   m 47 0 <| n 48 47 <| d 49 7 48 <| l 50 49 <| o 51 (.lenSl (.t 50)) <| o 52 (.mov (.c (.int .i64 0))) <| .nil)) (
  .block 2 (.loop [3, 50, 51, 52] [3] (model_Model_Copy_c3)))) (
  model_Model_Copy_c2)

def model_Model_Copy : AFunc where
  closed := false
  nparams := 1
  ntmps := 69
  results := [.tmp 2]
  body := .seq (.ops (
   o 2 (.mov (.c .nilp)) <| .nil)) (
   .seq (.seq (.ops (
   m 8 0 <| o 9 (.eq false .ptr (.t 8) (.c .nilp)) <| .nil)) (
   .cond (.t 9) (.seq (.ops (
   o 2 (.mov (.c .nilp)) <| .nil)) (
   .ret)) (.skip))) (
   .seq (.ops (
   m 10 0 <| n 11 10 <| d 12 0 11 <| ln 13 6 12 <| m 14 0 <| n 15 14 <| d 16 8 15 <| l 17 16 <| m 19 0 <| n 20 19 <| d 21 9 20 <| l 22 21 <|
   .op ⟨(some 18), .call 285 [(.t 17)], [{ g := none, op := .load1 (.t 21), d := 22 }, { g := none, op := .loadN 6 (.t 12), d := 13 }]⟩ <|
   .op ⟨(some 23), .call 286 [(.t 22)], [{ g := none, op := .loadN 6 (.t 12), d := 13 }]⟩ <|
   o 24 (.build [(.int .i64 0), (.int .i64 0), (.int .i64 0), (.int .i64 0), (.int .i64 0), (.int .i64 0), .nilsl, .nilsl, .nilsl, .nilmap] [(0, 6, (.t 13)), (8, 1, (.t 18)), (9, 1, (.t 23))]) <| o 25 (.box (.t 24)) <| m 3 25 <| .nil)) (
   .seq (.seq (.ops (
   m 26 0 <| n 27 26 <| d 28 6 27 <| l 29 28 <| o 30 (.lenSl (.t 29)) <| o 31 (.mov (.c (.int .i64 0))) <| .nil)) (
   .block 0 (.loop [0, 3, 29, 30, 31] [0, 3] (model_Model_Copy_c1)))) (
   model_Model_Copy_c0))))

def model_Model_Copy_hs : List (List Nat × List Nat) := [([0, 3, 29, 30, 31], [0, 3]), ([3, 50, 51, 52], [3])]

end Wm.F
end

section
namespace Wm.F
open Wm
set_option maxRecDepth 100000

def model_Model_Field : AFunc where
  closed := false
  nparams := 3
  ntmps := 48
  results := [.tmp 6]
  body := .seq (.ops (
   o 6 (.mov (.c (.int .i64 0))) <| .nil)) (
   .seq (.seq (.ops (
   m 7 0 <| o 8 (.eq false .ptr (.t 7) (.c .nilp)) <| m 9 8 <| .grd 9 false [i 10 (.mov (.t 1)),
   i 11 (.cmp .lss .i64 (.t 10) (.c (.int .i64 0)))] <| o 12 (.pick (.t 9) (.c (.bool true)) (.t 11)) <| m 13 12 <| .grd 13 false [i 14 (.mov (.t 1)),
   i 15 (.mov (.t 0)),
   i 16 (.nilc (.t 15)),
   i 17 (.fieldA 6 (.t 16)),
   i 18 (.load1 (.t 17)),
   i 19 (.lenSl (.t 18)),
   i 20 (.cmp .geq .i64 (.t 14) (.t 19))] <| o 21 (.pick (.t 13) (.c (.bool true)) (.t 20)) <| m 22 21 <| .grd 22 false [i 23 (.mov (.t 2)),
   i 24 (.cmp .lss .i64 (.t 23) (.c (.int .i64 0)))] <| o 25 (.pick (.t 22) (.c (.bool true)) (.t 24)) <| m 26 25 <| .grd 26 false [i 27 (.mov (.t 2)),
   i 28 (.mov (.t 0)),
   i 29 (.nilc (.t 28)),
   i 30 (.fieldA 6 (.t 29)),
   i 31 (.load1 (.t 30)),
   i 32 (.mov (.t 1)),
   i 33 (.indexA 1 (.t 31) (.t 32)),
   i 34 (.load1 (.t 33)),
   i 35 (.lenSl (.t 34)),
   i 36 (.cmp .geq .i64 (.t 27) (.t 35))] <| o 37 (.pick (.t 26) (.c (.bool true)) (.t 36)) <| .nil)) (
   .cond (.t 37) (.seq (.ops (
   o 6 (.mov (.c (.int .i64 (-1)))) <| .nil)) (
   .ret)) (.skip))) (
   .seq (.ops (
   m 38 0 <| n 39 38 <| d 40 6 39 <| l 41 40 <| m 42 1 <| o 43 (.indexA 1 (.t 41) (.t 42)) <| l 44 43 <| m 45 2 <| o 46 (.indexA 1 (.t 44) (.t 45)) <| l 47 46 <| m 6 47 <| .nil)) (
   .ret)))

def model_Model_Field_hs : List (List Nat × List Nat) := []

end Wm.F
end

section
namespace Wm.F
open Wm
set_option maxRecDepth 100000

def plan_Right : AFunc where
  closed := true
  nparams := 1
  ntmps := 31
  results := [.tmp 2]
  body := .seq (.ops (
   o 1 (.box (.t 0)) <| o 2 (.mov (.c (.bool false))) <| .nil)) (
   .seq (.ops (
   d 3 0 1 <| l 4 3 <| o 5 (.call 376 [(.t 4), (.c (.int .i64 1)), (.c (.int .i64 64))]) <| m 6 5 <| .grd 6 true [i 7 (.fieldA 1 (.t 1)),
   i 8 (.load1 (.t 7)),
   i 9 (.call 376 [(.t 8), (.c (.int .i64 0)), (.c (.int .i64 8))])] <| o 10 (.pick (.t 6) (.t 9) (.c (.bool false))) <| m 11 10 <| .grd 11 true [i 12 (.fieldA 2 (.t 1)),
   i 13 (.load1 (.t 12)),
   i 14 (.call 376 [(.t 13), (.c (.int .i64 1)), (.c (.int .i64 8))])] <| o 15 (.pick (.t 11) (.t 14) (.c (.bool false))) <| m 16 15 <| .grd 16 true [i 17 (.fieldA 3 (.t 1)),
   i 18 (.load1 (.t 17)),
   i 19 (.call 376 [(.t 18), (.c (.int .i64 1)), (.c (.int .i64 16))])] <| o 20 (.pick (.t 16) (.t 19) (.c (.bool false))) <| m 21 20 <| .grd 21 true [i 22 (.fieldA 4 (.t 1)),
   i 23 (.load1 (.t 22)),
   i 24 (.call 376 [(.t 23), (.c (.int .i64 1)), (.c (.int .i64 1048576))])] <| o 25 (.pick (.t 21) (.t 24) (.c (.bool false))) <| m 26 25 <| .grd 26 true [i 27 (.fieldA 5 (.t 1)),
   i 28 (.load1 (.t 27)),
   i 29 (.call 376 [(.t 28), (.c (.int .i64 0)), (.c (.int .i64 64))])] <| o 30 (.pick (.t 26) (.t 29) (.c (.bool false))) <| m 2 30 <| .nil)) (
   .ret))

def plan_Right_hs : List (List Nat × List Nat) := []

end Wm.F
end

section
namespace Wm.F
open Wm
set_option maxRecDepth 100000

def op_Walk : AFunc where
  closed := true
  nparams := 1
  ntmps := 9
  results := [.tmp 2]
  body := .seq (.ops (
   o 2 (.mov (.c (.bool false))) <| .nil)) (
   .seq (.ops (
   m 3 0 <| o 4 (.cmp .eql .i64 (.t 3) (.c (.int .i64 9))) <| m 5 4 <| .grd 5 false [i 6 (.mov (.t 0)),
   i 7 (.cmp .eql .i64 (.t 6) (.c (.int .i64 10)))] <| o 8 (.pick (.t 5) (.c (.bool true)) (.t 7)) <| m 2 8 <| .nil)) (
   .ret))

def op_Walk_hs : List (List Nat × List Nat) := []

end Wm.F
end

section
namespace Wm.F
open Wm
set_option maxRecDepth 100000

def op_Writes : AFunc where
  closed := true
  nparams := 1
  ntmps := 9
  results := [.tmp 2]
  body := .seq (.ops (
   o 2 (.mov (.c (.bool false))) <| .nil)) (
   .seq (.ops (
   m 3 0 <| o 4 (.cmp .geq .i64 (.t 3) (.c (.int .i64 3))) <| m 5 4 <| .grd 5 true [i 6 (.mov (.t 0)),
   i 7 (.cmp .leq .i64 (.t 6) (.c (.int .i64 5)))] <| o 8 (.pick (.t 5) (.t 7) (.c (.bool false))) <| m 2 8 <| .nil)) (
   .ret))

def op_Writes_hs : List (List Nat × List Nat) := []

end Wm.F
end

section
namespace Wm.F
open Wm
set_option maxRecDepth 100000

def model_Model_client : AFunc where
  closed := false
  nparams := 2
  ntmps := 20
  results := [.tmp 4]
  body := .seq (.ops (
   o 4 (.mov (.c (.bool false))) <| .nil)) (
   .seq (.ops (
   m 5 0 <| o 6 (.eq true .ptr (.t 5) (.c .nilp)) <| m 7 6 <| .grd 7 true [i 8 (.mov (.t 1)),
   i 9 (.cmp .geq .i64 (.t 8) (.c (.int .i64 0)))] <| o 10 (.pick (.t 7) (.t 9) (.c (.bool false))) <| m 11 10 <| .grd 11 true [i 12 (.mov (.t 1)),
   i 13 (.mov (.t 0)),
   i 14 (.nilc (.t 13)),
   i 15 (.fieldA 0 (.t 14)),
   i 16 (.fieldA 2 (.t 15)),
   i 17 (.load1 (.t 16)),
   i 18 (.cmp .lss .i64 (.t 12) (.t 17))] <| o 19 (.pick (.t 11) (.t 18) (.c (.bool false))) <| m 4 19 <| .nil)) (
   .ret))

def model_Model_client_hs : List (List Nat × List Nat) := []

end Wm.F
end

section
namespace Wm.F
open Wm
set_option maxRecDepth 100000

def model_Model_makes_c2 : ACode :=
  .ops (
   d 8 1 5 <| l 9 8 <| o 10 (.cmp .lss .i64 (.t 9) (.c (.int .i64 0))) <| m 11 10 <| .grd 11 false [i 12 (.fieldA 1 (.t 5)),
   i 13 (.load1 (.t 12)),
   i 14 (.mov (.t 0)),
   i 15 (.nilc (.t 14)),
   i 16 (.fieldA 0 (.t 15)),
   i 17 (.fieldA 1 (.t 16)),
   i 18 (.load1 (.t 17)),
   i 19 (.cmp .gtr .i64 (.t 13) (.t 18))] <| o 20 (.pick (.t 11) (.c (.bool true)) (.t 19)) <| m 7 20 <| .nil)

def model_Model_makes_c1 : ACode :=
  .cond (.t 7) (.seq (.ops (
   o 6 (.mov (.c (.int .i64 1))) <| .nil)) (
   .ret)) (.seq (.ops (
   m 22 0 <| m 23 1 <| m 25 0 <| n 26 25 <| d 27 0 26 <| d 28 3 27 <| l 29 28 <| .op ⟨(some 24), .call 105 [(.t 22), (.t 23)], [{ g := none, op := .load1 (.t 28), d := 29 }]⟩ <|
   o 30 (.cmp .geq .i64 (.t 24) (.t 29)) <| m 21 30 <| .nil)) (
   .cond (.t 21) (.seq (.ops (
   o 6 (.mov (.c (.int .i64 5))) <| .nil)) (
   .ret)) (.skip)))

def model_Model_makes_c0 : ACode :=
  .seq (.ops (
   o 6 (.mov (.c (.int .i64 0))) <| .nil)) (
  .ret)

def model_Model_makes : AFunc where
  closed := false
  nparams := 3
  ntmps := 31
  results := [.tmp 6]
  body := .seq (.ops (
   o 5 (.box (.t 2)) <| o 6 (.mov (.c (.int .i64 0))) <| .nil)) (
   .seq (.block 0 (.seq (.join [0, 1, 5] [0, 1, 7] (model_Model_makes_c2)) (
   model_Model_makes_c1))) (
   model_Model_makes_c0))

def model_Model_makes_hs : List (List Nat × List Nat) := [([1000002, 0, 1, 5], [0, 1, 7])]

end Wm.F
end

section
namespace Wm.F
open Wm
set_option maxRecDepth 100000

def model_Model_goes_c2 : ACode :=
  .ops (
   d 16 2 5 <| l 17 16 <| o 18 (.cmp .eql .u64 (.t 17) (.c (.int .u64 0))) <| m 19 18 <| .grd 19 false [i 20 (.fieldA 0 (.t 7)),
   i 21 (.load1 (.t 20)),
   i 22 (.fieldA 2 (.t 5)),
   i 23 (.load1 (.t 22)),
   i 24 (.cmp .neq .u64 (.t 21) (.t 23))] <| o 25 (.pick (.t 19) (.c (.bool true)) (.t 24)) <| m 15 25 <| .nil)

def model_Model_goes_c1 : ACode :=
  .cond (.t 15) (.seq (.ops (
   o 6 (.mov (.c (.int .i64 6))) <| .nil)) (
   .ret)) (.seq (.ops (
   d 27 0 5 <| l 28 27 <| o 29 (.cmp .eql .i64 (.t 28) (.c (.int .i64 10))) <| m 26 29 <| .nil)) (
   .cond (.t 26) (.seq (.ops (
   o 6 (.mov (.c (.int .i64 0))) <| .nil)) (
   .ret)) (.seq (.ops (
   d 31 1 7 <| l 32 31 <| o 33 (.lenSl (.t 32)) <| o 34 (.cmp .eql .i64 (.t 33) (.c (.int .i64 0))) <| m 30 34 <| .nil)) (
   .cond (.t 30) (.seq (.ops (
   o 6 (.mov (.c (.int .i64 6))) <| .nil)) (
   .ret)) (.seq (.ops (
   m 36 0 <| m 37 1 <| m 39 0 <| n 40 39 <| d 41 0 40 <| d 42 3 41 <| l 43 42 <| .op ⟨(some 38), .call 105 [(.t 36), (.t 37)], [{ g := none, op := .load1 (.t 42), d := 43 }]⟩ <|
   o 44 (.cmp .geq .i64 (.t 38) (.t 43)) <| m 35 44 <| .nil)) (
   .cond (.t 35) (.seq (.ops (
   o 6 (.mov (.c (.int .i64 5))) <| .nil)) (
   .ret)) (.skip)))))))

def model_Model_goes_c0 : ACode :=
  .seq (.ops (
   o 6 (.mov (.c (.int .i64 0))) <| .nil)) (
  .ret)

def model_Model_goes : AFunc where
  closed := false
  nparams := 3
  ntmps := 45
  results := [.tmp 6]
  body := .seq (.ops (
   o 5 (.box (.t 2)) <| o 6 (.mov (.c (.int .i64 0))) <| .nil)) (
   .seq (.ops (
   m 8 0 <| n 9 8 <| d 10 8 9 <| l 11 10 <| m 12 1 <| o 13 (.indexA 2 (.t 11) (.t 12)) <| ln 14 2 13 <| o 7 (.alloc [(.int .u64 0), .nilsl]) <| u (.store 2 (.t 7) (.t 14)) <|
   .nil)) (
   .seq (.block 0 (.seq (.join [0, 1, 5, 7] [0, 1, 5, 7, 15] (model_Model_goes_c2)) (
   model_Model_goes_c1))) (
   model_Model_goes_c0)))

def model_Model_goes_hs : List (List Nat × List Nat) := [([1000003, 0, 1, 5, 7], [0, 1, 5, 7, 15])]

end Wm.F
end

section
namespace Wm.F
open Wm
set_option maxRecDepth 100000

def model_Model_asks_c8 : ACode :=
  .ops (
   d 90 0 5 <| l 91 90 <| o 92 (.cmp .eql .i64 (.t 91) (.c (.int .i64 2))) <| m 93 92 <| .grd 93 true [i 94 (.mov (.t 0)),
   i 95 (.nilc (.t 94)),
   i 96 (.fieldA 6 (.t 95)),
   i 97 (.load1 (.t 96)),
   i 98 (.mov (.t 7)),
   i 99 (.indexA 1 (.t 97) (.t 98)),
   i 100 (.load1 (.t 99)),
   i 101 (.fieldA 1 (.t 5)),
   i 102 (.load1 (.t 101)),
   i 103 (.indexA 1 (.t 100) (.t 102)),
   i 104 (.load1 (.t 103)),
   i 105 (.cmp .geq .i64 (.t 104) (.c (.int .i64 0)))] <| o 106 (.pick (.t 93) (.t 105) (.c (.bool false))) <| m 107 106 <| .grd 107 true [i 108 (.mov (.t 0)),
   i 109 (.mov (.t 1)),
   i 111 (.mov (.t 0)),
   i 112 (.nilc (.t 111)),
   i 113 (.fieldA 0 (.t 112)),
   i 114 (.fieldA 3 (.t 113)),
   i 115 (.load1 (.t 114)),
   ⟨(some 110), .call 105 [(.t 108), (.t 109)], [{ g := (some (107, true)), op := .load1 (.t 114), d := 115 }]⟩,
   i 116 (.cmp .geq .i64 (.t 110) (.t 115))] <| o 117 (.pick (.t 107) (.t 116) (.c (.bool false))) <| m 89 117 <| .nil)

def model_Model_asks_c7 : ACode :=
  .cond (.t 89) (.seq (.ops (
   o 6 (.mov (.c (.int .i64 5))) <| .nil)) (
   .ret)) (.seq (.ops (
   d 119 0 5 <| l 120 119 <| o 121 (.cmp .eql .i64 (.t 120) (.c (.int .i64 8))) <| m 122 121 <| .grd 122 true [i 123 (.mov (.t 0)),
   i 124 (.nilc (.t 123)),
   i 125 (.fieldA 8 (.t 124)),
   i 126 (.load1 (.t 125)),
   i 127 (.mov (.t 1)),
   i 128 (.indexA 2 (.t 126) (.t 127)),
   i 129 (.fieldA 0 (.t 128)),
   i 130 (.load1 (.t 129)),
   i 131 (.cmp .neq .u64 (.t 130) (.c (.int .u64 0)))] <| o 132 (.pick (.t 122) (.t 131) (.c (.bool false))) <| m 118 132 <| .nil)) (
   .cond (.t 118) (.seq (.ops (
   o 6 (.mov (.c (.int .i64 7))) <| .nil)) (
   .ret)) (.skip)))

def model_Model_asks_c6 : ACode :=
  .ops (
   d 63 0 5 <| l 64 63 <| o 65 (.cmp .eql .i64 (.t 64) (.c (.int .i64 2))) <| m 66 65 <| .grd 66 false [i 67 (.fieldA 0 (.t 5)),
   i 68 (.load1 (.t 67)),
   i 69 (.call 83 [(.t 68)])] <| o 70 (.pick (.t 66) (.c (.bool true)) (.t 69)) <| m 71 70 <| .grd 71 true [i 72 (.fieldA 1 (.t 5)),
   i 73 (.load1 (.t 72)),
   i 74 (.cmp .lss .i64 (.t 73) (.c (.int .i64 0))),
   i 75 (.mov (.t 74))] <| .grd 75 false [i 76 (.fieldA 1 (.t 5)),
   i 77 (.load1 (.t 76)),
   i 78 (.mov (.t 0)),
   i 79 (.nilc (.t 78)),
   i 80 (.fieldA 6 (.t 79)),
   i 81 (.load1 (.t 80)),
   i 82 (.mov (.t 7)),
   i 83 (.indexA 1 (.t 81) (.t 82)),
   i 84 (.load1 (.t 83)),
   i 85 (.lenSl (.t 84)),
   i 86 (.cmp .geq .i64 (.t 77) (.t 85))] <| .grd 71 true [i 87 (.pick (.t 75) (.c (.bool true)) (.t 86))] <| o 88 (.pick (.t 71) (.t 87) (.c (.bool false))) <| m 62 88 <| .nil)

def model_Model_asks_c5 : ACode :=
  .cond (.t 62) (.seq (.ops (
   o 6 (.mov (.c (.int .i64 3))) <| .nil)) (
   .ret)) (.seq (.join [0, 1, 5, 7] [0, 1, 5, 89] (model_Model_asks_c8)) (
   model_Model_asks_c7))

def model_Model_asks_c4 : ACode :=
  .seq (.ops (
   o 6 (.mov (.c (.int .i64 0))) <| .nil)) (
  .ret)

def model_Model_asks_c3 : ACode :=
  .seq (.ops (
   o 19 (.cmp .eql .i64 (.t 17) (.c (.int .i64 3))) <| m 18 19 <| .nil)) (
  .cond (.t 18) (.skip) (.ops (
   o 20 (.cmp .eql .i64 (.t 17) (.c (.int .i64 7))) <| m 18 20 <| .nil)))

def model_Model_asks_c2 : ACode :=
  .cond (.t 18) (.ops (
   m 21 8 <| m 22 21 <| .grd 22 true [i 23 (.mov (.t 0)),
   i 24 (.mov (.t 1)),
   i 25 (.fieldA 3 (.t 5)),
   i 26 (.load1 (.t 25)),
   i 27 (.call 106 [(.t 23), (.t 24), (.t 26)]),
   i 28 (.cmp .geq .i64 (.t 27) (.c (.int .i64 0)))] <| o 29 (.pick (.t 22) (.t 28) (.c (.bool false))) <| m 8 29 <| .nil)) (.seq (.ops (
   o 31 (.cmp .eql .i64 (.t 17) (.c (.int .i64 5))) <| m 30 31 <| .nil)) (
   .cond (.t 30) (.ops (
   m 32 8 <| m 33 32 <| .grd 33 true [i 34 (.fieldA 3 (.t 5)),
   i 35 (.load1 (.t 34)),
   i 36 (.cmp .eql .u64 (.t 35) (.c (.int .u64 0))),
   i 37 (.mov (.t 36))] <| .grd 37 false [i 38 (.mov (.t 0)),
   i 39 (.mov (.t 1)),
   i 40 (.fieldA 3 (.t 5)),
   i 41 (.load1 (.t 40)),
   i 42 (.call 106 [(.t 38), (.t 39), (.t 41)]),
   i 43 (.cmp .geq .i64 (.t 42) (.c (.int .i64 0)))] <| .grd 33 true [i 44 (.pick (.t 37) (.c (.bool true)) (.t 43))] <| o 45 (.pick (.t 33) (.t 44) (.c (.bool false))) <|
   m 46 45 <| .grd 46 true [i 47 (.fieldA 4 (.t 5)),
   i 48 (.load1 (.t 47)),
   i 49 (.cmp .eql .u64 (.t 48) (.c (.int .u64 0))),
   i 50 (.mov (.t 49))] <| .grd 50 false [i 51 (.mov (.t 0)),
   i 52 (.mov (.t 1)),
   i 53 (.fieldA 4 (.t 5)),
   i 54 (.load1 (.t 53)),
   i 55 (.call 106 [(.t 51), (.t 52), (.t 54)]),
   i 56 (.cmp .geq .i64 (.t 55) (.c (.int .i64 0)))] <| .grd 46 true [i 57 (.pick (.t 50) (.c (.bool true)) (.t 56))] <| o 58 (.pick (.t 46) (.t 57) (.c (.bool false))) <|
   m 8 58 <| .nil)) (.skip)))

def model_Model_asks_c1 : ACode :=
  .seq (.ops (
   d 16 0 5 <| l 17 16 <| .nil)) (
  .block 0 (.seq (.join [0, 1, 5, 7, 8, 17] [0, 1, 5, 7, 8, 17, 18] (model_Model_asks_c3)) (
  model_Model_asks_c2)))

def model_Model_asks_c0 : ACode :=
  .seq (.block 1 (.seq (.ops (
   m 60 8 <| o 61 (.not (.t 60)) <| m 59 61 <| .nil)) (
  .cond (.t 59) (.seq (.ops (
   o 6 (.mov (.c (.int .i64 2))) <| .nil)) (
   .ret)) (.seq (.join [0, 1, 5, 7] [0, 1, 5, 7, 62] (model_Model_asks_c6)) (
   model_Model_asks_c5))))) (
  model_Model_asks_c4)

def model_Model_asks : AFunc where
  closed := false
  nparams := 3
  ntmps := 133
  results := [.tmp 6]
  body := .seq (.ops (
   o 5 (.box (.t 2)) <| o 6 (.mov (.c (.int .i64 0))) <| .nil)) (
   .seq (.ops (
   m 9 0 <| m 10 1 <| d 11 2 5 <| l 12 11 <| o 13 (.call 106 [(.t 9), (.t 10), (.t 12)]) <| m 7 13 <| .nil)) (
   .seq (.ops (
   m 14 7 <| o 15 (.cmp .geq .i64 (.t 14) (.c (.int .i64 0))) <| m 8 15 <| .nil)) (
   .seq (.join [0, 1, 5, 7, 8] [0, 1, 5, 7, 8] (model_Model_asks_c1)) (
   model_Model_asks_c0))))

def model_Model_asks_hs : List (List Nat × List Nat) := [([1000003, 0, 1, 5, 7, 8], [0, 1, 5, 7, 8]), ([1000001, 0, 1, 5, 7, 8, 17], [0, 1, 5, 7, 8, 17, 18]), ([1000005, 0, 1, 5, 7], [0, 1, 5, 7, 62]), ([1000001, 0, 1, 5, 7], [0, 1, 5, 89])]

end Wm.F
end

section
namespace Wm.F
open Wm
set_option maxRecDepth 100000

def model_Model_matches : AFunc where
  closed := false
  nparams := 3
  ntmps := 22
  results := [.tmp 6]
  body := .seq (.ops (
   o 5 (.box (.t 2)) <| o 6 (.mov (.c (.bool false))) <| .nil)) (
   .seq (.ops (
   m 7 0 <| m 8 0 <| m 9 1 <| d 10 2 5 <| l 11 10 <| d 13 1 5 <| l 14 13 <| m 16 0 <| m 17 1 <| d 18 4 5 <| l 19 18 <|
   .op ⟨(some 12), .call 106 [(.t 8), (.t 9), (.t 11)], [{ g := none, op := .load1 (.t 18), d := 19 }, { g := none, op := .load1 (.t 13), d := 14 }]⟩ <|
   .op ⟨(some 15), .call 116 [(.t 7), (.t 12), (.t 14)], [{ g := none, op := .load1 (.t 18), d := 19 }]⟩ <| o 20 (.call 106 [(.t 16), (.t 17), (.t 19)]) <|
   o 21 (.cmp .eql .i64 (.t 15) (.t 20)) <| m 6 21 <| .nil)) (
   .ret))

def model_Model_matches_hs : List (List Nat × List Nat) := []

end Wm.F
end

section
namespace Wm.F
open Wm
set_option maxRecDepth 100000

def model_Model_done_c8 : ACode :=
  .seq (.ops (
   d 75 0 6 <| l 76 75 <| .nil)) (
  .block 1 (.seq (.ops (
   o 78 (.cmp .eql .i64 (.t 76) (.c (.int .i64 1))) <| m 77 78 <| .nil)) (
  .cond (.t 77) (.seq (.ops (
   m 79 0 <| m 80 0 <| n 81 80 <| d 82 6 81 <| l 83 82 <| d 85 1 6 <| l 86 85 <| o 84 (.buildSl 1 1 [(.int .i64 0)] [(0, 1, (.c (.int .i64 (-1))))]) <|
   .op ⟨(some 87), .call 384 [(.t 84), (.t 86)], [{ g := none, op := .load1 (.t 82), d := 83 }]⟩ <| o 88 (.buildSl 1 1 [.nilsl] [(0, 1, (.t 87))]) <|
   o 89 (.append 1 24 (.t 83) (.t 88)) <| n 90 79 <| d 91 6 90 <| u (.store 1 (.t 91) (.t 89)) <| .nil)) (
   .ops (
   m 92 0 <| m 93 1 <| d 94 1 7 <| l 95 94 <| m 96 0 <| n 97 96 <| d 98 6 97 <| l 99 98 <| o 100 (.lenSl (.t 99)) <| o 101 (.arith .sub .i64 (.t 100) (.c (.int .i64 1))) <|
   o 102 (.call 385 [(.t 92), (.t 93), (.t 95), (.t 101)]) <| .nil))) (.seq (.ops (
   o 104 (.cmp .eql .i64 (.t 76) (.c (.int .i64 2))) <| m 103 104 <| .nil)) (
   .cond (.t 103) (.seq (.ops (
   m 105 10 <| .nil)) (
   .cond (.t 105) (.ops (
   m 106 0 <| m 107 1 <| d 108 1 7 <| l 109 108 <| m 110 0 <| n 111 110 <| d 112 6 111 <| l 113 112 <| m 114 9 <| o 115 (.indexA 1 (.t 113) (.t 114)) <| l 116 115 <| d 117 1 6 <|
   l 118 117 <| o 119 (.indexA 1 (.t 116) (.t 118)) <| l 120 119 <| o 121 (.call 385 [(.t 106), (.t 107), (.t 109), (.t 120)]) <| .nil)) (.skip))) (.seq (.ops (
   o 123 (.cmp .eql .i64 (.t 76) (.c (.int .i64 3))) <| m 122 123 <| .nil)) (
   .cond (.t 122) (.ops (
   m 124 0 <| n 125 124 <| d 126 6 125 <| l 127 126 <| m 128 9 <| o 129 (.indexA 1 (.t 127) (.t 128)) <| l 130 129 <| d 131 1 6 <| l 132 131 <| m 133 0 <| m 134 1 <| d 135 3 6 <|
   l 136 135 <|
   .op ⟨(some 137), .call 106 [(.t 133), (.t 134), (.t 136)], [{ g := none, op := .load1 (.t 131), d := 132 }, { g := none, op := .load1 (.t 129), d := 130 }, { g := none, op := .load1 (.t 126), d := 127 }]⟩ <| o 138 (.indexA 1 (.t 130) (.t 132)) <| u (.store 1 (.t 138) (.t 137)) <| .nil)) (.seq (.ops (
   o 140 (.cmp .eql .i64 (.t 76) (.c (.int .i64 4))) <| m 139 140 <| .nil)) (
   .cond (.t 139) (.ops (
   m 141 0 <| n 142 141 <| d 143 6 142 <| l 144 143 <| m 145 9 <| o 146 (.indexA 1 (.t 144) (.t 145)) <| l 147 146 <| d 148 1 6 <| l 149 148 <|
   o 150 (.indexA 1 (.t 147) (.t 149)) <| u (.store 1 (.t 150) (.c (.int .i64 (-1)))) <| .nil)) (.seq (.ops (
   o 152 (.cmp .eql .i64 (.t 76) (.c (.int .i64 5))) <| m 151 152 <| .nil)) (
   .cond (.t 151) (.seq (.ops (
   m 153 11 <| .nil)) (
   .cond (.t 153) (.ops (
   m 154 0 <| n 155 154 <| d 156 6 155 <| l 157 156 <| m 158 9 <| o 159 (.indexA 1 (.t 157) (.t 158)) <| l 160 159 <| d 161 1 6 <| l 162 161 <| m 163 0 <| m 164 1 <| d 165 3 6 <|
   l 166 165 <|
   .op ⟨(some 167), .call 106 [(.t 163), (.t 164), (.t 166)], [{ g := none, op := .load1 (.t 161), d := 162 }, { g := none, op := .load1 (.t 159), d := 160 }, { g := none, op := .load1 (.t 156), d := 157 }]⟩ <| o 168 (.indexA 1 (.t 160) (.t 162)) <| u (.store 1 (.t 168) (.t 167)) <| .nil)) (.skip))) (.seq (.ops (
   o 170 (.cmp .eql .i64 (.t 76) (.c (.int .i64 6))) <| m 169 170 <| .nil)) (
   .cond (.t 169) (.ops (
   m 171 0 <| n 172 171 <| d 173 7 172 <| l 174 173 <| m 175 1 <| o 176 (.indexA 1 (.t 174) (.t 175)) <| l 177 176 <| d 178 2 6 <| l 179 178 <|
   u (.mapDel .int (.t 177) (.t 179)) <| .nil)) (.seq (.ops (
   o 181 (.cmp .eql .i64 (.t 76) (.c (.int .i64 8))) <| m 180 181 <| .nil)) (
   .cond (.t 180) (.seq (.ops (
   m 182 0 <| n 183 182 <| d 184 9 183 <| l 185 184 <| d 186 1 7 <| l 187 186 <| u (.mapSet .int (.t 185) (.t 187) (.c (.int .i64 1))) <| .nil)) (
   .ops (
   m 188 0 <| n 189 188 <| d 190 8 189 <| l 191 190 <| m 192 1 <| d 193 1 7 <| l 194 193 <| m 195 0 <| m 196 9 <|
   .op ⟨(some 197), .call 386 [(.t 195), (.t 196)], [{ g := none, op := .load1 (.t 193), d := 194 }, { g := none, op := .load1 (.t 190), d := 191 }]⟩ <|
   o 198 (.build [(.int .u64 0), .nilsl] [(0, 1, (.t 194)), (1, 1, (.t 197))]) <| o 199 (.indexA 2 (.t 191) (.t 192)) <| u (.store 2 (.t 199) (.t 198)) <| .nil))) (.seq (.ops (
   o 201 (.cmp .eql .i64 (.t 76) (.c (.int .i64 9))) <| m 200 201 <| .nil)) (
   .cond (.t 200) (.seq (.ops (
   m 202 0 <| m 203 1 <| d 204 1 7 <| l 205 204 <| m 206 0 <| n 207 206 <| d 208 8 207 <| l 209 208 <| m 210 1 <| o 211 (.indexA 2 (.t 209) (.t 210)) <| d 212 1 211 <|
   l 213 212 <| o 214 (.indexA 1 (.t 213) (.c (.int .i64 0))) <| l 215 214 <| o 216 (.call 385 [(.t 202), (.t 203), (.t 205), (.t 215)]) <| .nil)) (
   .ops (
   m 217 0 <| n 218 217 <| d 219 8 218 <| l 220 219 <| m 221 1 <| m 222 0 <| n 223 222 <| d 224 8 223 <| l 225 224 <| m 226 1 <| o 227 (.indexA 2 (.t 225) (.t 226)) <|
   d 228 1 227 <| l 229 228 <| o 230 (.slice 1 (.t 229) (some (.c (.int .i64 1))) none none) <| o 231 (.indexA 2 (.t 220) (.t 221)) <| d 232 1 231 <|
   u (.store 1 (.t 232) (.t 230)) <| .nil))) (.seq (.ops (
   o 234 (.cmp .eql .i64 (.t 76) (.c (.int .i64 10))) <| m 233 234 <| .nil)) (
   .cond (.t 233) (.ops (
   m 235 0 <| n 236 235 <| d 237 8 236 <| l 238 237 <| m 239 1 <| o 240 (.build [(.int .u64 0), .nilsl] []) <| o 241 (.indexA 2 (.t 238) (.t 239)) <|
   u (.store 2 (.t 241) (.t 240)) <| .nil)) (.skip))))))))))))))))))))

def model_Model_done_c7 : ACode :=
  .seq (.ops (
   o 8 (.mov (.c (.bool true))) <| .nil)) (
  .ret)

def model_Model_done_c6 : ACode :=
  .ops (
   d 52 2 7 <| l 53 52 <| m 54 11 <| o 55 (.eq true .bool (.t 53) (.t 54)) <| m 56 55 <| .grd 56 false [i 57 (.mov (.t 10)),
   i 58 (.mov (.t 57))] <| .grd 58 true [i 59 (.mov (.t 0)),
   i 60 (.fieldA 1 (.t 7)),
   i 61 (.load1 (.t 60)),
   i 62 (.call 383 [(.t 59), (.t 61)]),
   i 63 (.not (.t 62))] <| .grd 56 false [i 64 (.pick (.t 58) (.t 63) (.c (.bool false)))] <| o 65 (.pick (.t 56) (.c (.bool true)) (.t 64)) <| m 66 65 <|
   .grd 66 false [i 67 (.mov (.t 10)),
   i 68 (.not (.t 67)),
   i 69 (.mov (.t 68))] <| .grd 69 true [i 70 (.fieldA 1 (.t 7)),
   i 71 (.load1 (.t 70)),
   i 72 (.cmp .neq .u64 (.t 71) (.c (.int .u64 0)))] <| .grd 66 false [i 73 (.pick (.t 69) (.t 72) (.c (.bool false)))] <| o 74 (.pick (.t 66) (.c (.bool true)) (.t 73)) <| .nil)

def model_Model_done_c5 : ACode :=
  .cond (.t 74) (.seq (.ops (
   o 8 (.mov (.c (.bool false))) <| .nil)) (
   .ret)) (.skip)

def model_Model_done_c4 : ACode :=
  .seq (.join [0, 1, 6, 7, 9, 10, 11] [] (model_Model_done_c8)) (
  model_Model_done_c7)

def model_Model_done_c3 : ACode :=
  .seq (.ops (
   o 20 (.cmp .eql .i64 (.t 18) (.c (.int .i64 1))) <| m 19 20 <| .nil)) (
  .cond (.t 19) (.skip) (.seq (.ops (
   o 21 (.cmp .eql .i64 (.t 18) (.c (.int .i64 8))) <| m 19 21 <| .nil)) (
   .cond (.t 19) (.skip) (.ops (
   o 22 (.cmp .eql .i64 (.t 18) (.c (.int .i64 9))) <| m 19 22 <| .nil)))))

def model_Model_done_c2 : ACode :=
  .cond (.t 19) (.ops (
   o 10 (.mov (.c (.bool true))) <| .nil)) (.seq (.ops (
   o 24 (.cmp .eql .i64 (.t 18) (.c (.int .i64 2))) <| m 23 24 <| .nil)) (
   .cond (.t 23) (.ops (
   m 25 0 <| n 26 25 <| d 27 6 26 <| l 28 27 <| m 29 9 <| o 30 (.indexA 1 (.t 28) (.t 29)) <| l 31 30 <| d 32 1 6 <| l 33 32 <| o 34 (.indexA 1 (.t 31) (.t 33)) <| l 35 34 <|
   o 36 (.cmp .geq .i64 (.t 35) (.c (.int .i64 0))) <| m 10 36 <| .nil)) (.seq (.ops (
   o 38 (.cmp .eql .i64 (.t 18) (.c (.int .i64 5))) <| m 37 38 <| .nil)) (
   .cond (.t 37) (.ops (
   m 39 0 <| m 40 1 <| ln 41 5 6 <| o 42 (.call 283 [(.t 39), (.t 40), (.t 41)]) <| m 11 42 <| .nil)) (.seq (.ops (
   o 44 (.cmp .eql .i64 (.t 18) (.c (.int .i64 7))) <| m 43 44 <| .nil)) (
   .cond (.t 43) (.ops (
   m 45 9 <| m 46 0 <| m 47 1 <| d 48 3 6 <| l 49 48 <| o 50 (.call 106 [(.t 46), (.t 47), (.t 49)]) <| o 51 (.cmp .eql .i64 (.t 45) (.t 50)) <| m 11 51 <| .nil)) (.skip)))))))

def model_Model_done_c1 : ACode :=
  .seq (.ops (
   d 17 0 6 <| l 18 17 <| .nil)) (
  .block 0 (.seq (.join [0, 1, 6, 7, 9, 10, 11, 18] [0, 1, 6, 7, 9, 10, 11, 18, 19] (model_Model_done_c3)) (
  model_Model_done_c2)))

def model_Model_done_c0 : ACode :=
  .seq (.seq (.join [0, 1, 6, 7, 9, 10, 11] [0, 1, 6, 7, 9, 10, 11, 74] (model_Model_done_c6)) (
  model_Model_done_c5)) (
  model_Model_done_c4)

def model_Model_done : AFunc where
  closed := false
  nparams := 4
  ntmps := 242
  results := [.tmp 8]
  body := .seq (.ops (
   o 6 (.box (.t 2)) <| o 7 (.box (.t 3)) <| o 8 (.mov (.c (.bool false))) <| .nil)) (
   .seq (.ops (
   m 12 0 <| m 13 1 <| d 14 2 6 <| l 15 14 <| o 16 (.call 106 [(.t 12), (.t 13), (.t 15)]) <| m 9 16 <| .nil)) (
   .seq (.ops (
   o 10 (.mov (.c (.bool false))) <| o 11 (.mov (.c (.bool false))) <| .nil)) (
   .seq (.join [0, 1, 6, 7, 9, 10, 11] [0, 1, 6, 7, 9, 10, 11] (model_Model_done_c1)) (
   model_Model_done_c0))))

def model_Model_done_hs : List (List Nat × List Nat) := [([1000003, 0, 1, 6, 7, 9, 10, 11], [0, 1, 6, 7, 9, 10, 11]), ([1000001, 0, 1, 6, 7, 9, 10, 11, 18], [0, 1, 6, 7, 9, 10, 11, 18, 19]), ([1000006, 0, 1, 6, 7, 9, 10, 11], [0, 1, 6, 7, 9, 10, 11, 74]), ([1000001, 0, 1, 6, 7, 9, 10, 11], [])]

end Wm.F
end

section
namespace Wm.F
open Wm
set_option maxRecDepth 100000

def slices_Clone___model_walk_model_walk_ : AFunc where
  closed := false
  nparams := 1
  ntmps := 8
  results := [.tmp 2]
  body := .seq (.ops (
   o 2 (.mov (.c .nilsl)) <| .nil)) (
   .seq (.seq (.ops (
   m 3 0 <| o 4 (.eq false .sl (.t 3) (.c .nilsl)) <| .nil)) (
   .cond (.t 4) (.seq (.ops (
   o 2 (.mov (.c .nilsl)) <| .nil)) (
   .ret)) (.skip))) (
   .seq (.ops (
   o 5 (.buildSl 2 0 [(.int .u64 0), .nilsl] []) <| m 6 0 <| o 7 (.append 2 32 (.t 5) (.t 6)) <| m 2 7 <| .nil)) (
   .ret)))

def slices_Clone___model_walk_model_walk__hs : List (List Nat × List Nat) := []

end Wm.F
end

section
namespace Wm.F
open Wm
set_option maxRecDepth 100000

def maps_Clone_map_uint64_int_uint64_int_ : AFunc where
  closed := false
  nparams := 1
  ntmps := 9
  results := [.tmp 2]
  body := .seq (.ops (
   o 2 (.mov (.c .nilmap)) <| .nil)) (
   .seq (.seq (.ops (
   m 3 0 <| o 4 (.eq false .map (.t 3) (.c .nilmap)) <| .nil)) (
   .cond (.t 4) (.seq (.ops (
   o 2 (.mov (.c .nilmap)) <| .nil)) (
   .ret)) (.skip))) (
   .seq (.ops (
   m 5 0 <| o 6 (.mkIfc 159 (.t 5)) <| o 7 (.cloneM (.t 6)) <| o 8 (.asrt 159 (.t 7)) <| m 2 8 <| .nil)) (
   .ret)))

def maps_Clone_map_uint64_int_uint64_int__hs : List (List Nat × List Nat) := []

end Wm.F
end

section
namespace Wm.F
open Wm
set_option maxRecDepth 100000

def slices_Clone___int_int_ : AFunc where
  closed := false
  nparams := 1
  ntmps := 8
  results := [.tmp 2]
  body := .seq (.ops (
   o 2 (.mov (.c .nilsl)) <| .nil)) (
   .seq (.seq (.ops (
   m 3 0 <| o 4 (.eq false .sl (.t 3) (.c .nilsl)) <| .nil)) (
   .cond (.t 4) (.seq (.ops (
   o 2 (.mov (.c .nilsl)) <| .nil)) (
   .ret)) (.skip))) (
   .seq (.ops (
   o 5 (.buildSl 1 0 [(.int .i64 0)] []) <| m 6 0 <| o 7 (.append 1 8 (.t 5) (.t 6)) <| m 2 7 <| .nil)) (
   .ret)))

def slices_Clone___int_int__hs : List (List Nat × List Nat) := []

end Wm.F
end

section
namespace Wm.F
open Wm
set_option maxRecDepth 100000

def plan_between : AFunc where
  closed := true
  nparams := 3
  ntmps := 15
  results := [.tmp 6]
  body := .seq (.ops (
   o 6 (.mov (.c (.bool false))) <| .nil)) (
   .seq (.ops (
   m 7 0 <| m 8 1 <| o 9 (.cmp .geq .i64 (.t 7) (.t 8)) <| m 10 9 <| .grd 10 true [i 11 (.mov (.t 0)),
   i 12 (.mov (.t 2)),
   i 13 (.cmp .leq .i64 (.t 11) (.t 12))] <| o 14 (.pick (.t 10) (.t 13) (.c (.bool false))) <| m 6 14 <| .nil)) (
   .ret))

def plan_between_hs : List (List Nat × List Nat) := []

end Wm.F
end

section
namespace Wm.F
open Wm
set_option maxRecDepth 100000

def model_Model_fresh : AFunc where
  closed := false
  nparams := 2
  ntmps := 16
  results := [.tmp 4]
  body := .seq (.ops (
   o 4 (.mov (.c (.bool false))) <| .nil)) (
   .seq (.ops (
   m 5 1 <| o 6 (.cmp .neq .u64 (.t 5) (.c (.int .u64 0))) <| m 7 6 <| .grd 7 true [i 8 (.mov (.t 0)),
   i 9 (.nilc (.t 8)),
   i 10 (.fieldA 9 (.t 9)),
   i 11 (.load1 (.t 10)),
   i 12 (.mov (.t 1)),
   i 13 (.lookup .int (.int .i64 0) false (.t 11) (.t 12)),
   i 14 (.cmp .eql .i64 (.t 13) (.c (.int .i64 0)))] <| o 15 (.pick (.t 7) (.t 14) (.c (.bool false))) <| m 4 15 <| .nil)) (
   .ret))

def model_Model_fresh_hs : List (List Nat × List Nat) := []

end Wm.F
end

section
namespace Wm.F
open Wm
set_option maxRecDepth 100000

def slices_Repeat___int_int__c1 : ACode :=
  .seq (.seq (.ops (
   m 34 8 <| m 35 7 <| o 36 (.lenSl (.t 35)) <| o 37 (.cmp .lss .i64 (.t 34) (.t 36)) <| .nil)) (
  .cond (.t 37) (.skip) (.exit 0))) (
  .block 1 (.ops (
   m 38 8 <| m 39 7 <| m 40 8 <| o 41 (.slice 1 (.t 39) (some (.t 40)) none none) <| m 42 7 <| m 43 8 <| o 44 (.slice 1 (.t 42) none (some (.t 43)) none) <|
   o 45 (.copy 1 (.t 41) (.t 44)) <| o 46 (.arith .add .i64 (.t 38) (.t 45)) <| m 8 46 <| .nil)))

def slices_Repeat___int_int__c0 : ACode :=
  .seq (.ops (
   m 47 7 <| m 4 47 <| .nil)) (
  .ret)

def slices_Repeat___int_int_ : AFunc where
  closed := false
  nparams := 2
  ntmps := 48
  results := [.tmp 4]
  body := .seq (.ops (
   o 4 (.mov (.c .nilsl)) <| .nil)) (
   .seq (.seq (.ops (
   m 9 1 <| o 10 (.cmp .lss .i64 (.t 9) (.c (.int .i64 0))) <| .nil)) (
   .cond (.t 10) (.ops (
   .op ⟨(some 11), .mkIfc 9 (.c (.str ⟨⟨[99, 97, 110, 110, 111, 116, 32, 98, 101, 32, 110, 101, 103, 97, 116, 105, 118, 101]⟩⟩)), []⟩ <| u (.extract (.c (.tup [])) 0) <|
   .nil)) (.skip))) (
   .seq (.ops (
   m 13 0 <| o 14 (.lenSl (.t 13)) <| o 15 (.conv .u64 (.t 14)) <| m 16 1 <| o 17 (.conv .u64 (.t 16)) <| o 18 (.call 445 [(.t 15), (.t 17)]) <| m 12 18 <|
   o 19 (.extract (.t 12) 0) <| o 20 (.extract (.t 12) 1) <| m 5 19 <| m 6 20 <| .nil)) (
   .seq (.seq (.ops (
   m 21 5 <| o 22 (.cmp .gtr .u64 (.t 21) (.c (.int .u64 0))) <| m 23 22 <| .grd 23 false [i 24 (.mov (.t 6)),
   i 25 (.cmp .gtr .u64 (.t 24) (.c (.int .u64 9223372036854775807)))] <| o 26 (.pick (.t 23) (.c (.bool true)) (.t 25)) <| .nil)) (
   .cond (.t 26) (.ops (
   .op ⟨(some 27), .mkIfc 9 (.c (.str ⟨⟨[116, 104, 101, 32, 114, 101, 115, 117, 108, 116, 32, 111, 102, 32, 40, 108, 101, 110, 40, 120, 41, 32, 42, 32, 99, 111, 117, 110, 116, 41, 32, 111, 118, 101, 114, 102, 108, 111, 119, 115]⟩⟩)), []⟩ <| u (.extract (.c (.tup [])) 0) <| .nil)) (.skip))) (
   .seq (.ops (
   m 28 6 <| o 29 (.conv .i64 (.t 28)) <| o 30 (.mkSl 1 8 [(.int .i64 0)] (.t 29) (.t 29)) <| m 7 30 <| .nil)) (
   .seq (.ops (
   m 31 7 <| m 32 0 <| o 33 (.copy 1 (.t 31) (.t 32)) <| m 8 33 <| .nil)) (
   .seq (.block 0 (.loop [7, 8] [7] (slices_Repeat___int_int__c1))) (
   slices_Repeat___int_int__c0)))))))

def slices_Repeat___int_int__hs : List (List Nat × List Nat) := [([7, 8], [7])]

end Wm.F
end

section
namespace Wm.F
open Wm
set_option maxRecDepth 100000

def model_Model_hold : AFunc where
  closed := false
  nparams := 4
  ntmps := 22
  results := []
  body := .seq (.ops (
   m 8 0 <| n 9 8 <| d 10 9 9 <| l 11 10 <| m 12 2 <| u (.mapSet .int (.t 11) (.t 12) (.c (.int .i64 1))) <| .nil)) (
   .ops (
   m 13 0 <| n 14 13 <| d 15 7 14 <| l 16 15 <| m 17 1 <| o 18 (.indexA 1 (.t 16) (.t 17)) <| l 19 18 <| m 20 2 <| m 21 3 <| u (.mapSet .int (.t 19) (.t 20) (.t 21)) <| .nil))

def model_Model_hold_hs : List (List Nat × List Nat) := []

end Wm.F
end

section
namespace Wm.F
open Wm
set_option maxRecDepth 100000

def model_Model_reached_c3 : ACode :=
  .seq (.ops (
   o 29 (.cmp .lss .i64 (.t 28) (.t 27)) <| .nil)) (
  .seq (.cond (.t 29) (.skip) (.exit 2)) (
  .seq (.block 3 (.seq (.ops (
   o 30 (.indexA 1 (.t 26) (.t 28)) <| l 31 30 <| m 8 31 <| .nil)) (
  .seq (.ops (
   m 32 8 <| o 33 (.cmp .geq .i64 (.t 32) (.c (.int .i64 0))) <| m 34 33 <| .grd 34 true [i 35 (.mov (.t 5)),
   i 36 (.mov (.t 8)),
   i 37 (.call 331 [(.t 35), (.t 36)]),
   i 38 (.not (.t 37))] <| o 39 (.pick (.t 34) (.t 38) (.c (.bool false))) <| .nil)) (
  .cond (.t 39) (.ops (
   m 40 5 <| m 41 8 <| o 42 (.buildSl 1 1 [(.int .i64 0)] [(0, 1, (.t 41))]) <| o 43 (.append 1 8 (.t 40) (.t 42)) <| m 5 43 <| .nil)) (.skip))))) (
  .ops (
   o 44 (.arith .add .i64 (.t 28) (.c (.int .i64 1))) <| m 28 44 <| .nil))))

def model_Model_reached_c2 : ACode :=
  .ops (
   m 15 6 <| o 16 (.arith .add .i64 (.t 15) (.c (.int .i64 1))) <| m 6 16 <| .nil)

def model_Model_reached_c1 : ACode :=
  .seq (.seq (.ops (
   m 11 6 <| m 12 5 <| o 13 (.lenSl (.t 12)) <| o 14 (.cmp .lss .i64 (.t 11) (.t 13)) <| .nil)) (
  .cond (.t 14) (.skip) (.exit 0))) (
  .seq (.block 1 (.seq (.ops (
   m 17 0 <| n 18 17 <| d 19 6 18 <| l 20 19 <| m 21 5 <| m 22 6 <| o 23 (.indexA 1 (.t 21) (.t 22)) <| l 24 23 <| o 25 (.indexA 1 (.t 20) (.t 24)) <| l 26 25 <|
   o 27 (.lenSl (.t 26)) <| o 28 (.mov (.c (.int .i64 0))) <| .nil)) (
  .block 2 (.loop [0, 5, 6, 26, 27, 28] [0, 5, 6] (model_Model_reached_c3))))) (
  model_Model_reached_c2))

def model_Model_reached_c0 : ACode :=
  .seq (.ops (
   m 45 5 <| m 4 45 <| .nil)) (
  .ret)

def model_Model_reached : AFunc where
  closed := false
  nparams := 2
  ntmps := 46
  results := [.tmp 4]
  body := .seq (.ops (
   o 4 (.mov (.c .nilsl)) <| .nil)) (
   .seq (.ops (
   m 9 1 <| o 10 (.buildSl 1 1 [(.int .i64 0)] [(0, 1, (.t 9))]) <| m 5 10 <| .nil)) (
   .seq (.seq (.ops (
   o 6 (.mov (.c (.int .i64 0))) <| .nil)) (
   .block 0 (.loop [0, 5, 6] [5] (model_Model_reached_c1)))) (
   model_Model_reached_c0)))

def model_Model_reached_hs : List (List Nat × List Nat) := [([0, 5, 6], [5]), ([0, 5, 6, 26, 27, 28], [0, 5, 6])]

end Wm.F
end

section
namespace Wm.F
open Wm
set_option maxRecDepth 100000

def math_bits_Mul : AFunc where
  closed := true
  nparams := 2
  ntmps := 30
  results := [.tmp 4, .tmp 5]
  body := .seq (.ops (
   o 4 (.mov (.c (.int .u64 0))) <| o 5 (.mov (.c (.int .u64 0))) <| .nil)) (
   .seq (.cond (.c (.bool false)) (.seq (.ops (
   m 11 0 <| o 12 (.conv .u32 (.t 11)) <| m 13 1 <| o 14 (.conv .u32 (.t 13)) <| o 15 (.call 485 [(.t 12), (.t 14)]) <| m 10 15 <| o 16 (.extract (.t 10) 0) <|
   o 17 (.extract (.t 10) 1) <| m 6 16 <| m 7 17 <| .nil)) (
   .seq (.ops (
   m 18 6 <| o 19 (.conv .u64 (.t 18)) <| m 20 7 <| o 21 (.conv .u64 (.t 20)) <| m 4 19 <| m 5 21 <| .nil)) (
   .ret))) (.skip)) (
   .seq (.ops (
   m 23 0 <| m 24 1 <| o 25 (.call 486 [(.t 23), (.t 24)]) <| m 22 25 <| o 26 (.extract (.t 22) 0) <| o 27 (.extract (.t 22) 1) <| m 8 26 <| m 9 27 <| .nil)) (
   .seq (.ops (
   m 28 8 <| m 29 9 <| m 4 28 <| m 5 29 <| .nil)) (
   .ret))))

def math_bits_Mul_hs : List (List Nat × List Nat) := []

end Wm.F
end

section
namespace Wm.F
open Wm
set_option maxRecDepth 100000

def slices_Contains___int_int_ : AFunc where
  closed := false
  nparams := 2
  ntmps := 9
  results := [.tmp 4]
  body := .seq (.ops (
   o 4 (.mov (.c (.bool false))) <| .nil)) (
   .seq (.ops (
   m 5 0 <| m 6 1 <| o 7 (.call 404 [(.t 5), (.t 6)]) <| o 8 (.cmp .geq .i64 (.t 7) (.c (.int .i64 0))) <| m 4 8 <| .nil)) (
   .ret))

def slices_Contains___int_int__hs : List (List Nat × List Nat) := []

end Wm.F
end

section
namespace Wm.F
open Wm
set_option maxRecDepth 100000

def math_bits_Mul32 : AFunc where
  closed := true
  nparams := 2
  ntmps := 17
  results := [.tmp 4, .tmp 5]
  body := .seq (.ops (
   o 4 (.mov (.c (.int .u32 0))) <| o 5 (.mov (.c (.int .u32 0))) <| .nil)) (
   .seq (.ops (
   m 7 0 <| o 8 (.conv .u64 (.t 7)) <| m 9 1 <| o 10 (.conv .u64 (.t 9)) <| o 11 (.arith .mul .u64 (.t 8) (.t 10)) <| m 6 11 <| .nil)) (
   .seq (.ops (
   m 12 6 <| o 13 (.shift false .u64 .u64 (.t 12) (.c (.int .u64 32))) <| o 14 (.conv .u32 (.t 13)) <| m 15 6 <| o 16 (.conv .u32 (.t 15)) <| m 4 14 <| m 5 16 <| .nil)) (
   .ret)))

def math_bits_Mul32_hs : List (List Nat × List Nat) := []

end Wm.F
end

section
namespace Wm.F
open Wm
set_option maxRecDepth 100000

def math_bits_Mul64 : AFunc where
  closed := true
  nparams := 2
  ntmps := 51
  results := [.tmp 4, .tmp 5]
  body := .seq (.ops (
   o 4 (.mov (.c (.int .u64 0))) <| o 5 (.mov (.c (.int .u64 0))) <| .nil)) (
   .seq (.ops (
   m 14 0 <| o 15 (.arith .and .u64 (.t 14) (.c (.int .u64 4294967295))) <| m 6 15 <| .nil)) (
   .seq (.ops (
   m 16 0 <| o 17 (.shift false .u64 .u64 (.t 16) (.c (.int .u64 32))) <| m 7 17 <| .nil)) (
   .seq (.ops (
   m 18 1 <| o 19 (.arith .and .u64 (.t 18) (.c (.int .u64 4294967295))) <| m 8 19 <| .nil)) (
   .seq (.ops (
   m 20 1 <| o 21 (.shift false .u64 .u64 (.t 20) (.c (.int .u64 32))) <| m 9 21 <| .nil)) (
   .seq (.ops (
   m 22 6 <| m 23 8 <| o 24 (.arith .mul .u64 (.t 22) (.t 23)) <| m 10 24 <| .nil)) (
   .seq (.ops (
   m 25 7 <| m 26 8 <| o 27 (.arith .mul .u64 (.t 25) (.t 26)) <| m 28 10 <| o 29 (.shift false .u64 .u64 (.t 28) (.c (.int .u64 32))) <|
   o 30 (.arith .add .u64 (.t 27) (.t 29)) <| m 11 30 <| .nil)) (
   .seq (.ops (
   m 31 11 <| o 32 (.arith .and .u64 (.t 31) (.c (.int .u64 4294967295))) <| m 12 32 <| .nil)) (
   .seq (.ops (
   m 33 11 <| o 34 (.shift false .u64 .u64 (.t 33) (.c (.int .u64 32))) <| m 13 34 <| .nil)) (
   .seq (.ops (
   m 35 12 <| m 36 6 <| m 37 9 <| o 38 (.arith .mul .u64 (.t 36) (.t 37)) <| o 39 (.arith .add .u64 (.t 35) (.t 38)) <| m 12 39 <| .nil)) (
   .seq (.ops (
   m 40 7 <| m 41 9 <| o 42 (.arith .mul .u64 (.t 40) (.t 41)) <| m 43 13 <| o 44 (.arith .add .u64 (.t 42) (.t 43)) <| m 45 12 <|
   o 46 (.shift false .u64 .u64 (.t 45) (.c (.int .u64 32))) <| o 47 (.arith .add .u64 (.t 44) (.t 46)) <| m 4 47 <| .nil)) (
   .seq (.ops (
   m 48 0 <| m 49 1 <| o 50 (.arith .mul .u64 (.t 48) (.t 49)) <| m 5 50 <| .nil)) (
   .ret))))))))))))

def math_bits_Mul64_hs : List (List Nat × List Nat) := []

end Wm.F
end

section
namespace Wm.F
open Wm
set_option maxRecDepth 100000

def slices_Index___int_int__c1 : ACode :=
  .seq (.ops (
   o 9 (.cmp .lss .i64 (.t 8) (.t 7)) <| .nil)) (
  .seq (.cond (.t 9) (.skip) (.exit 0)) (
  .seq (.block 1 (.seq (.ops (
   m 10 8 <| m 5 10 <| .nil)) (
  .seq (.ops (
   m 11 1 <| m 12 0 <| m 13 5 <| o 14 (.indexA 1 (.t 12) (.t 13)) <| l 15 14 <| o 16 (.cmp .eql .i64 (.t 11) (.t 15)) <| .nil)) (
  .cond (.t 16) (.seq (.ops (
   m 17 5 <| m 4 17 <| .nil)) (
   .ret)) (.skip))))) (
  .ops (
   o 18 (.arith .add .i64 (.t 8) (.c (.int .i64 1))) <| m 8 18 <| .nil))))

def slices_Index___int_int__c0 : ACode :=
  .seq (.ops (
   o 4 (.mov (.c (.int .i64 (-1)))) <| .nil)) (
  .ret)

def slices_Index___int_int_ : AFunc where
  closed := false
  nparams := 2
  ntmps := 19
  results := [.tmp 4]
  body := .seq (.ops (
   o 4 (.mov (.c (.int .i64 0))) <| .nil)) (
   .seq (.seq (.ops (
   m 6 0 <| o 7 (.lenSl (.t 6)) <| o 8 (.mov (.c (.int .i64 0))) <| .nil)) (
   .block 0 (.loop [0, 1, 7, 8] [4] (slices_Index___int_int__c1)))) (
   slices_Index___int_int__c0))

def slices_Index___int_int__hs : List (List Nat × List Nat) := [([0, 1, 7, 8], [4])]

end Wm.F
end

