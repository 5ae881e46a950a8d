/- PRINTED by my tool: functions as those of my machine. -/
import Derived.Test.YtjcppjbepndjcaaWmCore
set_option linter.all false
section
open Wm
namespace Wm.F
def m (a b : Nat) (k : AIs) : AIs := .op ⟨some a, .mov (.t b), []⟩ k
def d (a i b : Nat) (k : AIs) : AIs := .op ⟨some a, .fieldA i (.t b), []⟩ k
def l (a b : Nat) (k : AIs) : AIs := .op ⟨some a, .load1 (.t b), []⟩ k
def n (a b : Nat) (k : AIs) : AIs := .op ⟨some a, .nilc (.t b), []⟩ k
def ln (a c b : Nat) (k : AIs) : AIs := .op ⟨some a, .loadN c (.t b), []⟩ k
def o (a : Nat) (x : AOp) (k : AIs) : AIs := .op ⟨some a, x, []⟩ k
def u (x : AOp) (k : AIs) : AIs := .op ⟨none, x, []⟩ k
def i (a : Nat) (x : AOp) : AI := ⟨some a, x, []⟩
end Wm.F

end
section
/- PRINTED by my tool (wip/wm/tool/Gen.lean): a function as one of my machine. -/
namespace Wm.F
open Wm
set_option maxRecDepth 100000

/-- 25: withy/withylaw13.MarkFound -/
def withylaw13_MarkFound : AFunc where
  closed := false
  nparams := 6
  ntmps := 65
  results := [.tmp 12]
  body := .seq (.ops (
   o 6 (.box (.t 0)) <| o 12 (.mov (.c (.bool false))) <| .nil)) (
   .seq (.seq (.ops (
   m 14 1 <| o 15 (.lenSl (.t 14)) <| o 16 (.cmp .gtr .i64 (.t 15) (.c (.int .i64 20))) <| m 17 16 <| .grd 17 false [i 18 (.mov (.t 2)),
   i 19 (.lenSl (.t 18)),
   i 20 (.cmp .gtr .i64 (.t 19) (.c (.int .i64 700)))] <| o 21 (.pick (.t 17) (.c (.bool true)) (.t 20)) <| m 22 21 <| .grd 22 false [i 23 (.call 154 []),
   i 24 (.not (.t 23))] <| o 25 (.pick (.t 22) (.c (.bool true)) (.t 24)) <| .nil)) (
   .cond (.t 25) (.seq (.ops (
   m 26 1 <| o 27 (.lenSl (.t 26)) <| o 28 (.cmp .gtr .i64 (.t 27) (.c (.int .i64 20))) <| m 29 28 <| .grd 29 false [i 30 (.mov (.t 2)),
   i 31 (.lenSl (.t 30)),
   i 32 (.cmp .gtr .i64 (.t 31) (.c (.int .i64 700)))] <| o 33 (.pick (.t 29) (.c (.bool true)) (.t 32)) <| m 34 33 <| .grd 34 true [i 35 (.call 154 [])] <|
   o 36 (.pick (.t 34) (.t 35) (.c (.bool false))) <| m 12 36 <| .nil)) (
   .ret)) (.skip))) (
   .seq (.seq (.ops (
   m 37 5 <| .nil)) (
   .cond (.t 37) (.seq (.ops (
   ln 38 6 6 <| m 39 2 <| m 40 4 <| ln 42 6 6 <| m 43 2 <| m 44 4 <| .op ⟨(some 41), .call 155 [(.t 38), (.t 39), (.t 40)], [{ g := none, op := .loadN 6 (.t 6), d := 42 }]⟩ <|
   o 45 (.call 156 [(.t 42), (.t 43), (.t 44)]) <| o 46 (.call 124 [(.t 41), (.t 45)]) <| m 12 46 <| .nil)) (
   .ret)) (.skip))) (
   .seq (.ops (
   ln 47 6 6 <| o 48 (.call 92 [(.t 47)]) <| u (.store 6 (.t 6) (.t 48)) <| .nil)) (
   .seq (.ops (
   ln 49 6 6 <| m 50 1 <| m 51 4 <| m 53 2 <| m 54 3 <| .op ⟨(some 52), .call 157 [(.t 50), (.t 51)], [{ g := none, op := .loadN 6 (.t 6), d := 49 }]⟩ <|
   o 55 (.call 121 [(.t 49), (.t 52), (.t 53), (.t 54)]) <| m 13 55 <| .nil)) (
   .seq (.ops (
   ln 56 6 6 <| m 57 13 <| m 58 4 <| ln 60 6 6 <| m 61 13 <| m 62 4 <| .op ⟨(some 59), .call 155 [(.t 56), (.t 57), (.t 58)], [{ g := none, op := .loadN 6 (.t 6), d := 60 }]⟩ <|
   o 63 (.call 156 [(.t 60), (.t 61), (.t 62)]) <| o 64 (.call 124 [(.t 59), (.t 63)]) <| m 12 64 <| .nil)) (
   .ret))))))

def withylaw13_MarkFound_hs : List (List Nat × List Nat) := []

end Wm.F
end

section
/- PRINTED by my tool (wip/wm/tool/Gen.lean): a function as one of my machine. -/
namespace Wm.F
open Wm
set_option maxRecDepth 100000

/-- 92: withy/withyref06.Fit -/
def withyref06_Fit : AFunc where
  closed := true
  nparams := 1
  ntmps := 22
  results := [.cell true 6 2]
  body := .seq (.ops (
   o 1 (.box (.t 0)) <| o 2 (.alloc [(.int .i64 0), (.int .i64 0), (.int .i64 0), (.int .i64 0), (.int .i64 0), (.int .i64 0)]) <| .nil)) (
   .seq (.ops (
   d 3 0 1 <| l 4 3 <| d 6 1 1 <| l 7 6 <| d 9 2 1 <| l 10 9 <| d 12 3 1 <| l 13 12 <| d 15 4 1 <| l 16 15 <| d 18 5 1 <| l 19 18 <|
   .op ⟨(some 5), .call 270 [(.t 4), (.c (.int .i64 1)), (.c (.int .i64 12))], [{ g := none, op := .load1 (.t 18), d := 19 }, { g := none, op := .load1 (.t 15), d := 16 }, { g := none, op := .load1 (.t 12), d := 13 }, { g := none, op := .load1 (.t 9), d := 10 }, { g := none, op := .load1 (.t 6), d := 7 }]⟩ <| .op ⟨(some 8), .call 270 [(.t 7), (.c (.int .i64 0)), (.c (.int .i64 4))], [{ g := none, op := .load1 (.t 18), d := 19 }, { g := none, op := .load1 (.t 15), d := 16 }, { g := none, op := .load1 (.t 12), d := 13 }, { g := none, op := .load1 (.t 9), d := 10 }]⟩ <| .op ⟨(some 11), .call 270 [(.t 10), (.c (.int .i64 1)), (.c (.int .i64 4))], [{ g := none, op := .load1 (.t 18), d := 19 }, { g := none, op := .load1 (.t 15), d := 16 }, { g := none, op := .load1 (.t 12), d := 13 }]⟩ <| .op ⟨(some 14), .call 270 [(.t 13), (.c (.int .i64 1)), (.c (.int .i64 4))], [{ g := none, op := .load1 (.t 18), d := 19 }, { g := none, op := .load1 (.t 15), d := 16 }]⟩ <| .op ⟨(some 17), .call 270 [(.t 16), (.c (.int .i64 1)), (.c (.int .i64 40))], [{ g := none, op := .load1 (.t 18), d := 19 }]⟩ <| o 20 (.call 270 [(.t 19), (.c (.int .i64 0)), (.c (.int .i64 6))]) <| o 21 (.build [(.int .i64 0), (.int .i64 0), (.int .i64 0), (.int .i64 0), (.int .i64 0), (.int .i64 0)] [(0, 1, (.t 5)), (1, 1, (.t 8)), (2, 1, (.t 11)), (3, 1, (.t 14)), (4, 1, (.t 17)), (5, 1, (.t 20))]) <| u (.store 6 (.t 2) (.t 21)) <| .nil)) (
   .ret))

def withyref06_Fit_hs : List (List Nat × List Nat) := []

end Wm.F
end

section
/- PRINTED by my tool (wip/wm/tool/Gen.lean): a function as one of my machine. -/
namespace Wm.F
open Wm
set_option maxRecDepth 100000

def withyref13_Laid_c8 : ACode :=
  .seq (.seq (.ops (
   m 151 17 <| m 152 3 <| o 153 (.lenSl (.t 152)) <| o 154 (.cmp .lss .i64 (.t 151) (.t 153)) <| m 155 154 <| .grd 155 true [i 156 (.mov (.t 17)),
   i 157 (.fieldA 2 (.t 4)),
   i 158 (.load1 (.t 157)),
   i 159 (.cmp .lss .i64 (.t 156) (.t 158))] <| o 160 (.pick (.t 155) (.t 159) (.c (.bool false))) <| .nil)) (
  .cond (.t 160) (.skip) (.exit 6))) (
  .seq (.block 7 (.ops (
   m 163 9 <| ln 164 6 4 <| m 165 17 <|
   .op ⟨(some 166), .build [(.str ⟨⟨[]⟩⟩), (.int .i64 0), (.int .i64 0)] [(0, 1, (.c (.str ⟨⟨[118, 105, 101, 119]⟩⟩))), (1, 1, (.t 165))], []⟩ <| m 168 3 <| m 169 17 <|
   o 170 (.indexA 1 (.t 168) (.t 169)) <| l 171 170 <| .op ⟨(some 167), .call 108 [(.t 164), (.t 166)], [{ g := none, op := .load1 (.t 170), d := 171 }]⟩ <|
   o 172 (.indexA 1 (.t 163) (.t 167)) <| u (.store 1 (.t 172) (.t 171)) <| .nil))) (
  .ops (
   m 161 17 <| o 162 (.arith .add .i64 (.t 161) (.c (.int .i64 1))) <| m 17 162 <| .nil)))

def withyref13_Laid_c7 : ACode :=
  .seq (.ops (
   m 173 9 <| ln 174 6 4 <| m 175 9 <| o 176 (.call 297 [(.t 174), (.t 175)]) <| o 177 (.conv .u64 (.t 176)) <| o 178 (.indexA 1 (.t 173) (.c (.int .i64 2))) <|
   u (.store 1 (.t 178) (.t 177)) <| .nil)) (
  .seq (.ops (
   m 179 9 <| m 8 179 <| .nil)) (
  .ret))

def withyref13_Laid_c6 : ACode :=
  .seq (.seq (.ops (
   m 100 14 <| m 101 2 <| o 102 (.lenSl (.t 101)) <| o 103 (.cmp .lss .i64 (.t 100) (.t 102)) <| m 104 103 <| .grd 104 true [i 105 (.mov (.t 14)),
   i 106 (.fieldA 2 (.t 4)),
   i 107 (.load1 (.t 106)),
   i 108 (.fieldA 3 (.t 4)),
   i 109 (.load1 (.t 108)),
   i 110 (.arith .add .i64 (.t 109) (.c (.int .i64 1))),
   i 111 (.arith .mul .i64 (.t 107) (.t 110)),
   i 112 (.cmp .lss .i64 (.t 105) (.t 111))] <| o 113 (.pick (.t 104) (.t 112) (.c (.bool false))) <| .nil)) (
  .cond (.t 113) (.skip) (.exit 4))) (
  .seq (.block 5 (.seq (.ops (
   m 116 14 <| d 117 2 4 <| l 118 117 <| o 119 (.arith .rem .i64 (.t 116) (.t 118)) <| m 15 119 <| .nil)) (
  .seq (.ops (
   m 120 14 <| d 121 2 4 <| l 122 121 <| o 123 (.arith .quo .i64 (.t 120) (.t 122)) <| m 16 123 <| .nil)) (
  .seq (.ops (
   m 124 16 <| d 125 3 4 <| l 126 125 <| o 127 (.cmp .lss .i64 (.t 124) (.t 126)) <| .nil)) (
  .cond (.t 127) (.ops (
   m 128 9 <| ln 129 6 4 <| m 130 15 <| m 131 16 <|
   .op ⟨(some 132), .build [(.str ⟨⟨[]⟩⟩), (.int .i64 0), (.int .i64 0)] [(0, 1, (.c (.str ⟨⟨[101, 110, 116, 114, 121]⟩⟩))), (1, 1, (.t 130)), (2, 1, (.t 131))], []⟩ <| m 134 2 <|
   m 135 14 <| o 136 (.indexA 1 (.t 134) (.t 135)) <| l 137 136 <| o 138 (.arith .rem .u64 (.t 137) (.c (.int .u64 20))) <|
   .op ⟨(some 133), .call 108 [(.t 129), (.t 132)], [{ g := none, op := .load1 (.t 136), d := 137 }]⟩ <| o 139 (.indexA 1 (.t 128) (.t 133)) <| u (.store 1 (.t 139) (.t 138)) <|
   .nil)) (.ops (
   m 140 9 <| ln 141 6 4 <| m 142 15 <|
   .op ⟨(some 143), .build [(.str ⟨⟨[]⟩⟩), (.int .i64 0), (.int .i64 0)] [(0, 1, (.c (.str ⟨⟨[115, 116, 97, 114, 116]⟩⟩))), (1, 1, (.t 142))], []⟩ <| m 145 2 <| m 146 14 <|
   o 147 (.indexA 1 (.t 145) (.t 146)) <| l 148 147 <| o 149 (.arith .rem .u64 (.t 148) (.c (.int .u64 20))) <|
   .op ⟨(some 144), .call 108 [(.t 141), (.t 143)], [{ g := none, op := .load1 (.t 147), d := 148 }]⟩ <| o 150 (.indexA 1 (.t 140) (.t 144)) <| u (.store 1 (.t 150) (.t 149)) <|
   .nil))))))) (
  .ops (
   m 114 14 <| o 115 (.arith .add .i64 (.t 114) (.c (.int .i64 1))) <| m 14 115 <| .nil)))

def withyref13_Laid_c5 : ACode :=
  .seq (.seq (.ops (
   o 17 (.mov (.c (.int .i64 0))) <| .nil)) (
  .block 6 (.loop [3, 4, 9, 17] [4, 9] (withyref13_Laid_c8)))) (
  withyref13_Laid_c7)

def withyref13_Laid_c4 : ACode :=
  .seq (.seq (.ops (
   m 45 13 <| ln 46 6 4 <| o 47 (.call 149 [(.t 46)]) <| o 48 (.cmp .lss .i64 (.t 45) (.t 47)) <| m 49 48 <| .grd 49 true [i 50 (.mov (.t 13)),
   i 51 (.mov (.t 1)),
   i 52 (.mov (.t 11)),
   i 53 (.indexA 7 (.t 51) (.t 52)),
   i 54 (.fieldA 6 (.t 53)),
   i 55 (.load1 (.t 54)),
   i 56 (.lenSl (.t 55)),
   i 57 (.cmp .lss .i64 (.t 50) (.t 56))] <| o 58 (.pick (.t 49) (.t 57) (.c (.bool false))) <| .nil)) (
  .cond (.t 58) (.skip) (.exit 2))) (
  .seq (.block 3 (.ops (
   m 61 9 <| ln 62 6 4 <| m 63 11 <| m 64 13 <|
   .op ⟨(some 65), .build [(.str ⟨⟨[]⟩⟩), (.int .i64 0), (.int .i64 0)] [(0, 1, (.c (.str ⟨⟨[98, 111, 100, 121]⟩⟩))), (1, 1, (.t 63)), (2, 1, (.t 64))], []⟩ <| m 67 1 <|
   m 68 11 <| o 69 (.indexA 7 (.t 67) (.t 68)) <| d 70 6 69 <| l 71 70 <| m 72 13 <| o 73 (.indexA 1 (.t 71) (.t 72)) <| l 74 73 <|
   .op ⟨(some 66), .call 108 [(.t 62), (.t 65)], [{ g := none, op := .load1 (.t 73), d := 74 }, { g := none, op := .load1 (.t 70), d := 71 }]⟩ <|
   o 75 (.indexA 1 (.t 61) (.t 66)) <| u (.store 1 (.t 75) (.t 74)) <| .nil))) (
  .ops (
   m 59 13 <| o 60 (.arith .add .i64 (.t 59) (.c (.int .i64 1))) <| m 13 60 <| .nil)))

def withyref13_Laid_c3 : ACode :=
  .seq (.ops (
   m 76 9 <| ln 77 6 4 <| m 78 11 <|
   .op ⟨(some 79), .build [(.str ⟨⟨[]⟩⟩), (.int .i64 0), (.int .i64 0)] [(0, 1, (.c (.str ⟨⟨[104, 101, 97, 100, 101, 114]⟩⟩))), (1, 1, (.t 78))], []⟩ <| ln 81 6 12 <|
   .op ⟨(some 80), .call 108 [(.t 77), (.t 79)], [{ g := none, op := .loadN 6 (.t 12), d := 81 }]⟩ <| o 82 (.call 111 [(.t 81)]) <| o 83 (.indexA 1 (.t 76) (.t 80)) <|
   u (.store 1 (.t 83) (.t 82)) <| .nil)) (
  .seq (.ops (
   d 84 0 12 <| l 85 84 <| o 86 (.cmp .eql .i64 (.t 85) (.c (.int .i64 0))) <| .nil)) (
  .cond (.t 86) (.seq (.ops (
   m 87 9 <| ln 88 6 4 <| m 89 11 <| .op ⟨(some 90), .build [(.str ⟨⟨[]⟩⟩), (.int .i64 0), (.int .i64 0)] [(0, 1, (.c (.str ⟨⟨[108, 105, 110, 107]⟩⟩))), (1, 1, (.t 89))], []⟩ <|
   o 91 (.call 108 [(.t 88), (.t 90)]) <| m 92 10 <| o 93 (.indexA 1 (.t 87) (.t 91)) <| u (.store 1 (.t 93) (.t 92)) <| .nil)) (
   .ops (
   m 94 11 <| o 95 (.arith .add .i64 (.t 94) (.c (.int .i64 1))) <| o 96 (.conv .u64 (.t 95)) <| m 10 96 <| .nil))) (.skip)))

def withyref13_Laid_c2 : ACode :=
  .ops (
   m 25 11 <| o 26 (.arith .sub .i64 (.t 25) (.c (.int .i64 1))) <| m 11 26 <| .nil)

def withyref13_Laid_c1 : ACode :=
  .seq (.seq (.ops (
   m 23 11 <| o 24 (.cmp .geq .i64 (.t 23) (.c (.int .i64 0))) <| .nil)) (
  .cond (.t 24) (.skip) (.exit 0))) (
  .seq (.block 1 (.seq (.ops (
   o 27 (.build [(.int .i64 0), (.int .i64 0), (.bool false), (.int .i64 0), (.int .i64 0), (.int .i64 0)] []) <|
   o 12 (.alloc [(.int .i64 0), (.int .i64 0), (.bool false), (.int .i64 0), (.int .i64 0), (.int .i64 0)]) <| u (.store 6 (.t 12) (.t 27)) <| .nil)) (
  .seq (.seq (.ops (
   m 28 11 <| m 29 1 <| o 30 (.lenSl (.t 29)) <| o 31 (.cmp .lss .i64 (.t 28) (.t 30)) <| m 32 31 <| .grd 32 true [i 33 (.mov (.t 1)),
   i 34 (.mov (.t 11)),
   i 35 (.indexA 7 (.t 33) (.t 34)),
   i 36 (.fieldA 0 (.t 35)),
   i 37 (.loadN 6 (.t 36)),
   i 38 (.call 202 [(.t 37)])] <| o 39 (.pick (.t 32) (.t 38) (.c (.bool false))) <| .nil)) (
  .cond (.t 39) (.seq (.ops (
   m 40 1 <| m 41 11 <| o 42 (.indexA 7 (.t 40) (.t 41)) <| d 43 0 42 <| ln 44 6 43 <| u (.store 6 (.t 12) (.t 44)) <| .nil)) (
   .seq (.ops (
   o 13 (.mov (.c (.int .i64 0))) <| .nil)) (
   .block 2 (.loop [1, 2, 3, 4, 9, 10, 11, 12, 13] [1, 2, 3, 4, 9, 10, 11, 12] (withyref13_Laid_c4))))) (.skip))) (
  withyref13_Laid_c3)))) (
  withyref13_Laid_c2))

def withyref13_Laid_c0 : ACode :=
  .seq (.ops (
   m 97 9 <| m 98 10 <| o 99 (.indexA 1 (.t 97) (.c (.int .i64 3))) <| u (.store 1 (.t 99) (.t 98)) <| .nil)) (
  .seq (.seq (.ops (
   o 14 (.mov (.c (.int .i64 0))) <| .nil)) (
  .block 4 (.loop [2, 3, 4, 9, 14] [3, 4, 9] (withyref13_Laid_c6)))) (
  withyref13_Laid_c5))

/-- 121: withy/withyref13.Laid -/
def withyref13_Laid : AFunc where
  closed := false
  nparams := 4
  ntmps := 180
  results := [.tmp 8]
  body := .seq (.ops (
   o 4 (.box (.t 0)) <| o 8 (.mov (.c .nilsl)) <| .nil)) (
   .seq (.ops (
   ln 18 6 4 <| o 19 (.call 86 [(.t 18)]) <| m 9 19 <| .nil)) (
   .seq (.ops (
   o 10 (.mov (.c (.int .u64 0))) <| .nil)) (
   .seq (.seq (.ops (
   d 20 0 4 <| l 21 20 <| o 22 (.arith .sub .i64 (.t 21) (.c (.int .i64 1))) <| m 11 22 <| .nil)) (
   .block 0 (.loop [1, 2, 3, 4, 9, 10, 11] [2, 3, 4, 9, 10] (withyref13_Laid_c1)))) (
   withyref13_Laid_c0))))

def withyref13_Laid_hs : List (List Nat × List Nat) := [([1, 2, 3, 4, 9, 10, 11], [2, 3, 4, 9, 10]), ([1, 2, 3, 4, 9, 10, 11, 12, 13], [1, 2, 3, 4, 9, 10, 11, 12]), ([2, 3, 4, 9, 14], [3, 4, 9]), ([3, 4, 9, 17], [4, 9])]

end Wm.F
end

section
/- PRINTED by my tool (wip/wm/tool/Gen.lean): a function as one of my machine. -/
namespace Wm.F
open Wm
set_option maxRecDepth 100000

def withyref13_Same_c1 : ACode :=
  .seq (.seq (.ops (
   m 11 5 <| m 12 0 <| o 13 (.lenSl (.t 12)) <| o 14 (.cmp .lss .i64 (.t 11) (.t 13)) <| .nil)) (
  .cond (.t 14) (.skip) (.exit 0))) (
  .seq (.block 1 (.seq (.ops (
   m 17 0 <| m 18 5 <| o 19 (.indexA 1 (.t 17) (.t 18)) <| l 20 19 <| m 21 1 <| m 22 5 <| o 23 (.indexA 1 (.t 21) (.t 22)) <| l 24 23 <| o 25 (.eq true .bool (.t 20) (.t 24)) <|
   .nil)) (
  .cond (.t 25) (.seq (.ops (
   o 4 (.mov (.c (.bool false))) <| .nil)) (
   .ret)) (.skip)))) (
  .ops (
   m 15 5 <| o 16 (.arith .add .i64 (.t 15) (.c (.int .i64 1))) <| m 5 16 <| .nil)))

def withyref13_Same_c0 : ACode :=
  .seq (.ops (
   o 4 (.mov (.c (.bool true))) <| .nil)) (
  .ret)

/-- 124: withy/withyref13.Same -/
def withyref13_Same : AFunc where
  closed := false
  nparams := 2
  ntmps := 26
  results := [.tmp 4]
  body := .seq (.ops (
   o 4 (.mov (.c (.bool false))) <| .nil)) (
   .seq (.seq (.ops (
   m 6 0 <| o 7 (.lenSl (.t 6)) <| m 8 1 <| o 9 (.lenSl (.t 8)) <| o 10 (.cmp .neq .i64 (.t 7) (.t 9)) <| .nil)) (
   .cond (.t 10) (.seq (.ops (
   o 4 (.mov (.c (.bool false))) <| .nil)) (
   .ret)) (.skip))) (
   .seq (.seq (.ops (
   o 5 (.mov (.c (.int .i64 0))) <| .nil)) (
   .block 0 (.loop [0, 1, 5] [4] (withyref13_Same_c1)))) (
   withyref13_Same_c0)))

def withyref13_Same_hs : List (List Nat × List Nat) := [([0, 1, 5], [4])]

end Wm.F
end

section
/- PRINTED by my tool (wip/wm/tool/Gen.lean): a function as one of my machine. -/
namespace Wm.F
open Wm
set_option maxRecDepth 100000

/-- 154: withy/withylaw13.awake -/
def withylaw13_awake : AFunc where
  closed := true
  nparams := 0
  ntmps := 61
  results := [.tmp 0]
  body := .seq (.ops (
   o 0 (.mov (.c (.bool false))) <| .nil)) (
   .seq (.ops (
   o 7 (.call 313 []) <| m 6 7 <| o 8 (.extract (.t 6) 0) <| o 9 (.extract (.t 6) 1) <|
   o 1 (.alloc [(.int .i64 0), (.int .i64 0), (.int .i64 0), (.int .i64 0), (.int .i64 0), (.int .i64 0)]) <| u (.store 6 (.t 1) (.t 8)) <| m 2 9 <| .nil)) (
   .seq (.ops (
   m 10 2 <| o 11 (.call 198 [(.t 10)]) <| m 3 11 <| .nil)) (
   .seq (.ops (
   ln 12 6 1 <| o 13 (.call 158 [(.t 12), (.c (.int .u64 2))]) <| m 4 13 <| .nil)) (
   .seq (.seq (.ops (
   m 14 4 <| o 15 (.eq false .ptr (.t 14) (.c .nilp)) <| m 16 15 <| .grd 16 false [i 17 (.mov (.t 3)),
   i 18 (.eq false .ptr (.t 17) (.c .nilp))] <| o 19 (.pick (.t 16) (.c (.bool true)) (.t 18)) <| m 20 19 <| .grd 20 false [i 21 (.mov (.t 4)),
   i 22 (.mov (.t 3)),
   i 23 (.call 314 [(.t 21), (.t 22), (.c (.int .i64 2000))]),
   i 24 (.not (.t 23))] <| o 25 (.pick (.t 20) (.c (.bool true)) (.t 24)) <| .nil)) (
   .cond (.t 25) (.seq (.ops (
   o 0 (.mov (.c (.bool false))) <| .nil)) (
   .ret)) (.skip))) (
   .seq (.ops (
   ln 26 6 1 <| m 27 2 <| o 28 (.call 155 [(.t 26), (.t 27), (.c (.int .u64 2))]) <| m 5 28 <| .nil)) (
   .seq (.ops (
   m 29 5 <| o 30 (.lenSl (.t 29)) <| o 31 (.cmp .eql .i64 (.t 30) (.c (.int .i64 4))) <| m 32 31 <| .grd 32 true [i 33 (.mov (.t 5)),
   i 34 (.indexA 1 (.t 33) (.c (.int .i64 0))),
   i 35 (.load1 (.t 34))] <| o 36 (.pick (.t 32) (.t 35) (.c (.bool false))) <| m 37 36 <| .grd 37 true [i 38 (.mov (.t 5)),
   i 39 (.indexA 1 (.t 38) (.c (.int .i64 1))),
   i 40 (.load1 (.t 39))] <| o 41 (.pick (.t 37) (.t 40) (.c (.bool false))) <| m 42 41 <| .grd 42 true [i 43 (.mov (.t 5)),
   i 44 (.indexA 1 (.t 43) (.c (.int .i64 2))),
   i 45 (.load1 (.t 44))] <| o 46 (.pick (.t 42) (.t 45) (.c (.bool false))) <| m 47 46 <| .grd 47 true [i 48 (.mov (.t 5)),
   i 49 (.indexA 1 (.t 48) (.c (.int .i64 3))),
   i 50 (.load1 (.t 49)),
   i 51 (.not (.t 50))] <| o 52 (.pick (.t 47) (.t 51) (.c (.bool false))) <| m 53 52 <| .grd 53 true [i 54 (.mov (.t 5)),
   i 55 (.loadN 6 (.t 1)),
   i 56 (.mov (.t 3)),
   ⟨(some 57), .call 94 [(.t 56)], [{ g := (some (53, true)), op := .loadN 6 (.t 1), d := 55 }]⟩,
   i 58 (.call 315 [(.t 55), (.t 57), (.c (.int .u64 2))]),
   i 59 (.call 124 [(.t 54), (.t 58)])] <| o 60 (.pick (.t 53) (.t 59) (.c (.bool false))) <| m 0 60 <| .nil)) (
   .ret)))))))

def withylaw13_awake_hs : List (List Nat × List Nat) := []

end Wm.F
end

section
/- PRINTED by my tool (wip/wm/tool/Gen.lean): a function as one of my machine. -/
namespace Wm.F
open Wm
set_option maxRecDepth 100000

def mark_Found_c12 : ACode :=
  .seq (.ops (
   o 137 (.cmp .lss .i64 (.t 136) (.t 135)) <| .nil)) (
  .seq (.cond (.t 137) (.skip) (.exit 7)) (
  .seq (.block 8 (.seq (.ops (
   m 138 136 <| m 22 138 <| .nil)) (
  .seq (.ops (
   ln 139 6 3 <| m 140 19 <| m 141 22 <| o 142 (.call 305 [(.t 139), (.t 140), (.t 141)]) <| m 23 142 <| .nil)) (
  .seq (.ops (
   m 143 23 <| o 144 (.cmp .geq .i64 (.t 143) (.c (.int .i64 0))) <| .nil)) (
  .cond (.t 144) (.ops (
   m 145 10 <| m 146 7 <| l 147 4 <| m 148 23 <| o 149 (.indexA 1 (.t 147) (.t 148)) <| l 150 149 <| o 151 (.call 320 [(.t 146), (.t 150)]) <|
   o 152 (.callv (.t 145) [(.t 151)]) <| .nil)) (.skip)))))) (
  .ops (
   o 153 (.arith .add .i64 (.t 136) (.c (.int .i64 1))) <| m 136 153 <| .nil))))

def mark_Found_c11 : ACode :=
  .goto 0

def mark_Found_c10 : ACode :=
  .seq (.ops (
   o 137 (.cmp .lss .i64 (.t 136) (.t 135)) <| .nil)) (
  .seq (.cond (.t 137) (.skip) (.exit 7)) (
  .seq (.block 8 (.seq (.ops (
   m 138 136 <| m 22 138 <| .nil)) (
  .seq (.ops (
   ln 139 6 3 <| m 140 19 <| m 141 22 <| o 142 (.call 305 [(.t 139), (.t 140), (.t 141)]) <| m 23 142 <| .nil)) (
  .seq (.ops (
   m 143 23 <| o 144 (.cmp .geq .i64 (.t 143) (.c (.int .i64 0))) <| .nil)) (
  .cond (.t 144) (.ops (
   m 145 10 <| m 146 7 <| l 147 4 <| m 148 23 <| o 149 (.indexA 1 (.t 147) (.t 148)) <| l 150 149 <| o 151 (.call 320 [(.t 146), (.t 150)]) <|
   o 152 (.callv (.t 145) [(.t 151)]) <| .nil)) (.skip)))))) (
  .ops (
   o 153 (.arith .add .i64 (.t 136) (.c (.int .i64 1))) <| m 136 153 <| .nil))))

def mark_Found_c9 : ACode :=
  .goto 0

def mark_Found_c8 : ACode :=
  .seq (.ops (
   o 83 (.cmp .lss .i64 (.t 82) (.t 81)) <| .nil)) (
  .seq (.cond (.t 83) (.skip) (.exit 4)) (
  .seq (.block 5 (.seq (.ops (
   m 84 82 <| m 16 84 <| .nil)) (
  .seq (.ops (
   l 86 4 <| ln 87 6 3 <| m 88 15 <| m 89 16 <| .op ⟨(some 90), .call 319 [(.t 87), (.t 88), (.t 89)], [{ g := none, op := .load1 (.t 4), d := 86 }]⟩ <|
   o 91 (.indexA 1 (.t 86) (.t 90)) <| l 92 91 <| o 93 (.call 318 [(.t 92)]) <| m 85 93 <| o 94 (.extract (.t 85) 0) <| o 95 (.extract (.t 85) 1) <| m 17 94 <| m 18 95 <| .nil)) (
  .ops (
   m 96 10 <| m 97 18 <| o 98 (.callv (.t 96) [(.t 97)]) <| .nil))))) (
  .ops (
   o 99 (.arith .add .i64 (.t 82) (.c (.int .i64 1))) <| m 82 99 <| .nil))))

def mark_Found_c7 : ACode :=
  .ops (
   m 100 10 <| m 101 7 <| l 102 4 <| ln 103 6 3 <| m 104 15 <| .op ⟨(some 105), .call 321 [(.t 103), (.t 104)], [{ g := none, op := .load1 (.t 4), d := 102 }]⟩ <|
   o 106 (.indexA 1 (.t 102) (.t 105)) <| l 107 106 <| o 108 (.call 320 [(.t 101), (.t 107)]) <| o 109 (.callv (.t 100) [(.t 108)]) <| .nil)

def mark_Found_c6 : ACode :=
  .ops (
   o 110 (.arith .add .i64 (.t 77) (.c (.int .i64 1))) <| m 77 110 <| .nil)

def mark_Found_c5 : ACode :=
  .seq (.ops (
   o 78 (.cmp .lss .i64 (.t 77) (.t 76)) <| .nil)) (
  .seq (.cond (.t 78) (.skip) (.exit 2)) (
  .seq (.block 3 (.seq (.ops (
   m 79 77 <| m 15 79 <| .nil)) (
  .seq (.seq (.ops (
   d 80 3 3 <| l 81 80 <| o 82 (.mov (.c (.int .i64 0))) <| .nil)) (
  .block 4 (.loop [3, 4, 7, 8, 9, 10, 15, 76, 77, 81, 82] [3, 4, 7, 8, 9, 10, 15, 76, 77] (mark_Found_c8)))) (
  mark_Found_c7)))) (
  mark_Found_c6)))

def mark_Found_c4 : ACode :=
  .seq (.skip) (
  .seq (.seq (.ops (
   l 111 9 <| o 112 (.lenSl (.t 111)) <| o 113 (.cmp .eql .i64 (.t 112) (.c (.int .i64 0))) <| .nil)) (
  .cond (.t 113) (.seq (.ops (
   l 114 8 <| m 6 114 <| .nil)) (
   .ret)) (.skip))) (
  .seq (.ops (
   l 115 9 <| o 116 (.indexA 1 (.t 115) (.c (.int .i64 0))) <| l 117 116 <| m 19 117 <| .nil)) (
  .seq (.ops (
   l 118 9 <| o 119 (.slice 1 (.t 118) (some (.c (.int .i64 1))) none none) <| u (.store 1 (.t 9) (.t 119)) <| .nil)) (
  .seq (.ops (
   l 121 4 <| ln 122 6 3 <| m 123 19 <| .op ⟨(some 124), .call 261 [(.t 122), (.t 123)], [{ g := none, op := .load1 (.t 4), d := 121 }]⟩ <| o 125 (.indexA 1 (.t 121) (.t 124)) <|
   l 126 125 <| o 127 (.call 265 [(.t 126)]) <| m 120 127 <| o 128 (.extract (.t 120) 0) <| o 129 (.extract (.t 120) 1) <|
   o 20 (.alloc [(.int .i64 0), (.int .i64 0), (.bool false), (.int .i64 0), (.int .i64 0), (.int .i64 0)]) <| u (.store 6 (.t 20) (.t 128)) <| m 21 129 <| .nil)) (
  .seq (.seq (.ops (
   d 130 0 20 <| l 131 130 <| .nil)) (
  .block 6 (.seq (.ops (
   o 133 (.cmp .eql .i64 (.t 131) (.c (.int .i64 1))) <| m 132 133 <| .nil)) (
  .cond (.t 132) (.seq (.ops (
   d 134 3 20 <| l 135 134 <| o 136 (.mov (.c (.int .i64 0))) <| .nil)) (
   .block 7 (.loop [3, 4, 7, 8, 9, 10, 19, 135, 136] [3, 4, 7, 8, 9, 10] (mark_Found_c10)))) (.seq (.ops (
   o 155 (.cmp .eql .i64 (.t 131) (.c (.int .i64 2))) <| m 154 155 <| .nil)) (
   .cond (.t 154) (.seq (.ops (
   m 156 10 <| m 157 7 <| l 158 4 <| ln 159 6 3 <| m 160 19 <|
   .op ⟨(some 161), .call 305 [(.t 159), (.t 160), (.c (.int .i64 0))], [{ g := none, op := .load1 (.t 4), d := 158 }]⟩ <| o 162 (.indexA 1 (.t 158) (.t 161)) <| l 163 162 <|
   o 164 (.call 320 [(.t 157), (.t 163)]) <| o 165 (.callv (.t 156) [(.t 164)]) <| .nil)) (
   .ops (
   m 166 10 <| m 167 7 <| l 168 4 <| ln 169 6 3 <| m 170 19 <|
   .op ⟨(some 171), .call 305 [(.t 169), (.t 170), (.c (.int .i64 2))], [{ g := none, op := .load1 (.t 4), d := 168 }]⟩ <| o 172 (.indexA 1 (.t 168) (.t 171)) <| l 173 172 <|
   o 174 (.call 320 [(.t 167), (.t 173)]) <| o 175 (.callv (.t 166) [(.t 174)]) <| .nil))) (.skip))))))) (
  mark_Found_c9))))))

def mark_Found_c3 : ACode :=
  .seq (.ops (
   o 46 (.cmp .lss .i64 (.t 45) (.t 44)) <| .nil)) (
  .seq (.cond (.t 46) (.skip) (.exit 0)) (
  .seq (.block 1 (.seq (.ops (
   m 47 45 <| m 11 47 <| .nil)) (
  .seq (.ops (
   l 48 4 <| ln 49 6 3 <| m 50 11 <| .op ⟨(some 51), .call 261 [(.t 49), (.t 50)], [{ g := none, op := .load1 (.t 4), d := 48 }]⟩ <| o 52 (.indexA 1 (.t 48) (.t 51)) <| l 53 52 <|
   m 12 53 <| .nil)) (
  .seq (.seq (.ops (
   m 55 12 <| o 56 (.call 265 [(.t 55)]) <| m 54 56 <| o 57 (.extract (.t 54) 0) <| o 58 (.extract (.t 54) 1) <|
   o 13 (.alloc [(.int .i64 0), (.int .i64 0), (.bool false), (.int .i64 0), (.int .i64 0), (.int .i64 0)]) <| u (.store 6 (.t 13) (.t 57)) <| m 14 58 <| .nil)) (
  .seq (.ops (
   m 59 14 <| m 60 59 <| .grd 60 true [i 61 (.fieldA 2 (.t 13)),
   i 62 (.load1 (.t 61))] <| o 63 (.pick (.t 60) (.t 62) (.c (.bool false))) <| .nil)) (
  .cond (.t 63) (.ops (
   l 64 9 <| m 65 11 <| o 66 (.buildSl 1 1 [(.int .i64 0)] [(0, 1, (.t 65))]) <| o 67 (.append 1 8 (.t 64) (.t 66)) <| u (.store 1 (.t 9) (.t 67)) <| .nil)) (.skip)))) (
  .ops (
   l 68 8 <| m 69 11 <| m 70 12 <| l 71 5 <| .op ⟨(some 72), .call 317 [(.t 70), (.t 71)], [{ g := none, op := .load1 (.t 8), d := 68 }]⟩ <| o 73 (.indexA 1 (.t 68) (.t 69)) <|
   u (.store 1 (.t 73) (.t 72)) <| .nil)))))) (
  .ops (
   o 74 (.arith .add .i64 (.t 45) (.c (.int .i64 1))) <| m 45 74 <| .nil))))

def mark_Found_c2 : ACode :=
  .seq (.seq (.ops (
   d 75 2 3 <| l 76 75 <| o 77 (.mov (.c (.int .i64 0))) <| .nil)) (
  .block 2 (.loop [3, 4, 7, 8, 9, 10, 76, 77] [3, 4, 7, 8, 9, 10] (mark_Found_c5)))) (
  mark_Found_c4)

def mark_Found_c1 : ACode :=
  .alt 0 (.seq (.skip) (
   .seq (.seq (.ops (
   l 111 9 <| o 112 (.lenSl (.t 111)) <| o 113 (.cmp .eql .i64 (.t 112) (.c (.int .i64 0))) <| .nil)) (
   .cond (.t 113) (.seq (.ops (
   l 114 8 <| m 6 114 <| .nil)) (
   .ret)) (.skip))) (
   .seq (.ops (
   l 115 9 <| o 116 (.indexA 1 (.t 115) (.c (.int .i64 0))) <| l 117 116 <| m 19 117 <| .nil)) (
   .seq (.ops (
   l 118 9 <| o 119 (.slice 1 (.t 118) (some (.c (.int .i64 1))) none none) <| u (.store 1 (.t 9) (.t 119)) <| .nil)) (
   .seq (.ops (
   l 121 4 <| ln 122 6 3 <| m 123 19 <| .op ⟨(some 124), .call 261 [(.t 122), (.t 123)], [{ g := none, op := .load1 (.t 4), d := 121 }]⟩ <| o 125 (.indexA 1 (.t 121) (.t 124)) <|
   l 126 125 <| o 127 (.call 265 [(.t 126)]) <| m 120 127 <| o 128 (.extract (.t 120) 0) <| o 129 (.extract (.t 120) 1) <|
   o 20 (.alloc [(.int .i64 0), (.int .i64 0), (.bool false), (.int .i64 0), (.int .i64 0), (.int .i64 0)]) <| u (.store 6 (.t 20) (.t 128)) <| m 21 129 <| .nil)) (
   .seq (.seq (.ops (
   d 130 0 20 <| l 131 130 <| .nil)) (
   .block 6 (.seq (.ops (
   o 133 (.cmp .eql .i64 (.t 131) (.c (.int .i64 1))) <| m 132 133 <| .nil)) (
   .cond (.t 132) (.seq (.ops (
   d 134 3 20 <| l 135 134 <| o 136 (.mov (.c (.int .i64 0))) <| .nil)) (
   .block 7 (.loop [3, 4, 7, 8, 9, 10, 19, 135, 136] [3, 4, 7, 8, 9, 10] (mark_Found_c12)))) (.seq (.ops (
   o 155 (.cmp .eql .i64 (.t 131) (.c (.int .i64 2))) <| m 154 155 <| .nil)) (
   .cond (.t 154) (.seq (.ops (
   m 156 10 <| m 157 7 <| l 158 4 <| ln 159 6 3 <| m 160 19 <|
   .op ⟨(some 161), .call 305 [(.t 159), (.t 160), (.c (.int .i64 0))], [{ g := none, op := .load1 (.t 4), d := 158 }]⟩ <| o 162 (.indexA 1 (.t 158) (.t 161)) <| l 163 162 <|
   o 164 (.call 320 [(.t 157), (.t 163)]) <| o 165 (.callv (.t 156) [(.t 164)]) <| .nil)) (
   .ops (
   m 166 10 <| m 167 7 <| l 168 4 <| ln 169 6 3 <| m 170 19 <|
   .op ⟨(some 171), .call 305 [(.t 169), (.t 170), (.c (.int .i64 2))], [{ g := none, op := .load1 (.t 4), d := 168 }]⟩ <| o 172 (.indexA 1 (.t 168) (.t 171)) <| l 173 172 <|
   o 174 (.call 320 [(.t 167), (.t 173)]) <| o 175 (.callv (.t 166) [(.t 174)]) <| .nil))) (.skip))))))) (
   mark_Found_c11))))))) (
  .skip)

def mark_Found_c0 : ACode :=
  .seq (.seq (.ops (
   ln 24 6 3 <| o 25 (.call 263 [(.t 24)]) <| o 26 (.not (.t 25)) <| m 27 26 <| .grd 27 false [i 28 (.load1 (.t 4)),
   i 29 (.lenSl (.t 28)),
   i 30 (.loadN 6 (.t 3)),
   ⟨(some 31), .call 264 [(.t 30)], [{ g := (some (27, false)), op := .load1 (.t 4), d := 28 }]⟩,
   i 32 (.cmp .neq .i64 (.t 29) (.t 31))] <| o 33 (.pick (.t 27) (.c (.bool true)) (.t 32)) <| .nil)) (
  .cond (.t 33) (.seq (.ops (
   o 6 (.mov (.c .nilsl)) <| .nil)) (
   .ret)) (.skip))) (
  .seq (.ops (
   ln 34 6 3 <| l 35 5 <|
   o 36 (.build [(.int .i64 0), (.int .i64 0), (.int .i64 0), (.int .i64 0), (.int .i64 0), (.int .i64 0), (.int .i64 0), (.int .i64 0), (.int .u64 0), (.int .i64 0), (.int .u64 0), (.int .i64 0), (.int .i64 0), (.int .i64 0), (.int .i64 0), (.int .i64 0), (.int .u64 0), (.int .u64 0), .nilsl, .nilp, (.int .i64 0)] [(2, 6, (.t 34)), (8, 1, (.t 35))]) <| o 37 (.box (.t 36)) <| m 7 37 <| .nil)) (
  .seq (.ops (
   d 38 0 3 <| l 39 38 <| o 40 (.mkSl 1 1 [(.bool false)] (.t 39) (.t 39)) <| o 41 (.buildSl 1 0 [(.int .i64 0)] []) <| o 8 (.alloc [.nilsl]) <| o 9 (.alloc [.nilsl]) <|
   u (.store 1 (.t 8) (.t 40)) <| u (.store 1 (.t 9) (.t 41)) <| .nil)) (
  .seq (.ops (
   o 42 (.mkFn 316 [(.t 3), (.t 8), (.t 4), (.t 5), (.t 9)]) <| m 10 42 <| .nil)) (
  .seq (.seq (.ops (
   d 43 0 3 <| l 44 43 <| o 45 (.mov (.c (.int .i64 0))) <| .nil)) (
  .block 0 (.loop [3, 4, 5, 7, 8, 9, 10, 44, 45] [3, 4, 7, 8, 9, 10] (mark_Found_c3)))) (
  mark_Found_c2)))))

/-- 155: withy/mark.Found -/
def mark_Found : AFunc where
  closed := false
  nparams := 3
  ntmps := 176
  results := [.tmp 6]
  body := .seq (.ops (
   o 3 (.box (.t 0)) <| o 4 (.box (.t 1)) <| o 5 (.box (.t 2)) <| o 6 (.mov (.c .nilsl)) <| .nil)) (
   .scope [3, 4, 7, 8, 9, 10] [6] (mark_Found_c0) (mark_Found_c1))

def mark_Found_hs : List (List Nat × List Nat) := [([3, 4, 7, 8, 9, 10], [6]), ([3, 4, 5, 7, 8, 9, 10, 44, 45], [3, 4, 7, 8, 9, 10]), ([3, 4, 7, 8, 9, 10, 76, 77], [3, 4, 7, 8, 9, 10]), ([3, 4, 7, 8, 9, 10, 15, 76, 77, 81, 82], [3, 4, 7, 8, 9, 10, 15, 76, 77]), ([3, 4, 7, 8, 9, 10, 19, 135, 136], [3, 4, 7, 8, 9, 10]), ([3, 4, 7, 8, 9, 10, 19, 135, 136], [3, 4, 7, 8, 9, 10])]

end Wm.F
end

section
/- PRINTED by my tool (wip/wm/tool/Gen.lean): a function as one of my machine. -/
namespace Wm.F
open Wm
set_option maxRecDepth 100000

def withyref13_Found_c5 : ACode :=
  .seq (.seq (.ops (
   m 83 14 <| m 84 12 <| o 85 (.lenSl (.t 84)) <| o 86 (.cmp .lss .i64 (.t 83) (.t 85)) <| .nil)) (
  .cond (.t 86) (.skip) (.exit 4))) (
  .seq (.block 5 (.seq (.ops (
   m 89 12 <| m 90 14 <| o 91 (.indexA 1 (.t 89) (.t 90)) <| l 92 91 <| m 15 92 <| .nil)) (
  .seq (.seq (.ops (
   m 93 7 <| m 94 15 <| o 95 (.indexA 1 (.t 93) (.t 94)) <| l 96 95 <| m 97 96 <| .grd 97 false [i 98 (.loadN 6 (.t 3)),
   i 99 (.mov (.t 1)),
   i 100 (.mov (.t 15)),
   ⟨(some 101), .call 322 [(.t 98), (.t 99), (.c (.str ⟨⟨[104, 101, 97, 100, 101, 114]⟩⟩)), (.t 100), (.c (.int .i64 0))], []⟩,
   i 102 (.call 112 [(.t 101)]),
   i 103 (.not (.t 102))] <| o 104 (.pick (.t 97) (.c (.bool true)) (.t 103)) <| .nil)) (
  .cond (.t 104) (.exit 5) (.skip))) (
  .seq (.ops (
   m 105 7 <| m 106 15 <| o 107 (.indexA 1 (.t 105) (.t 106)) <| u (.store 1 (.t 107) (.c (.bool true))) <| .nil)) (
  .seq (.ops (
   m 108 8 <| m 109 15 <| o 110 (.indexA 1 (.t 108) (.t 109)) <| l 111 110 <| o 112 (.not (.t 111)) <| .nil)) (
  .cond (.t 112) (.seq (.ops (
   m 113 8 <| m 114 15 <| o 115 (.indexA 1 (.t 113) (.t 114)) <| u (.store 1 (.t 115) (.c (.bool true))) <| .nil)) (
   .ops (
   m 116 12 <| ln 117 6 3 <| m 118 1 <| m 119 15 <| o 120 (.call 324 [(.t 117), (.t 118), (.t 119)]) <| o 121 (.append 1 8 (.t 116) (.t 120)) <| m 12 121 <| .nil))) (.skip))))))) (
  .ops (
   m 87 14 <| o 88 (.arith .add .i64 (.t 87) (.c (.int .i64 1))) <| m 14 88 <| .nil)))

def withyref13_Found_c4 : ACode :=
  .seq (.ops (
   m 122 7 <| m 6 122 <| .nil)) (
  .ret)

def withyref13_Found_c3 : ACode :=
  .seq (.seq (.ops (
   m 67 13 <| d 68 0 3 <| l 69 68 <| o 70 (.cmp .lss .i64 (.t 67) (.t 69)) <| .nil)) (
  .cond (.t 70) (.skip) (.exit 2))) (
  .seq (.block 3 (.seq (.ops (
   m 73 8 <| m 74 13 <| o 75 (.indexA 1 (.t 73) (.t 74)) <| l 76 75 <| .nil)) (
  .cond (.t 76) (.ops (
   m 77 12 <| ln 78 6 3 <| m 79 1 <| m 80 13 <| o 81 (.call 324 [(.t 78), (.t 79), (.t 80)]) <| o 82 (.append 1 8 (.t 77) (.t 81)) <| m 12 82 <| .nil)) (.skip)))) (
  .ops (
   m 71 13 <| o 72 (.arith .add .i64 (.t 71) (.c (.int .i64 1))) <| m 13 72 <| .nil)))

def withyref13_Found_c2 : ACode :=
  .seq (.seq (.ops (
   o 14 (.mov (.c (.int .i64 0))) <| .nil)) (
  .block 4 (.loop [1, 3, 7, 8, 12, 14] [7] (withyref13_Found_c5)))) (
  withyref13_Found_c4)

def withyref13_Found_c1 : ACode :=
  .seq (.seq (.ops (
   m 33 9 <| d 34 0 3 <| l 35 34 <| o 36 (.cmp .lss .i64 (.t 33) (.t 35)) <| .nil)) (
  .cond (.t 36) (.skip) (.exit 0))) (
  .seq (.block 1 (.seq (.ops (
   ln 40 6 3 <| m 41 1 <| m 42 9 <| .op ⟨(some 43), .call 322 [(.t 40), (.t 41), (.c (.str ⟨⟨[104, 101, 97, 100, 101, 114]⟩⟩)), (.t 42), (.c (.int .i64 0))], []⟩ <|
   o 44 (.call 109 [(.t 43)]) <| m 39 44 <| o 45 (.extract (.t 39) 0) <| o 46 (.extract (.t 39) 1) <|
   o 10 (.alloc [(.int .i64 0), (.int .i64 0), (.bool false), (.int .i64 0), (.int .i64 0), (.int .i64 0)]) <| u (.store 6 (.t 10) (.t 45)) <| m 11 46 <| .nil)) (
  .seq (.ops (
   m 47 7 <| m 48 9 <| ln 49 6 3 <| m 50 1 <| m 51 9 <|
   .op ⟨(some 52), .call 322 [(.t 49), (.t 50), (.c (.str ⟨⟨[104, 101, 97, 100, 101, 114]⟩⟩)), (.t 51), (.c (.int .i64 0))], []⟩ <| m 53 2 <|
   o 54 (.call 113 [(.t 52), (.t 53)]) <| o 55 (.indexA 1 (.t 47) (.t 48)) <| u (.store 1 (.t 55) (.t 54)) <| .nil)) (
  .ops (
   m 56 8 <| m 57 9 <| m 58 11 <| m 59 58 <| .grd 59 true [i 60 (.fieldA 2 (.t 10)),
   i 61 (.load1 (.t 60))] <| o 62 (.pick (.t 59) (.t 61) (.c (.bool false))) <| o 63 (.indexA 1 (.t 56) (.t 57)) <| u (.store 1 (.t 63) (.t 62)) <| .nil))))) (
  .ops (
   m 37 9 <| o 38 (.arith .add .i64 (.t 37) (.c (.int .i64 1))) <| m 9 38 <| .nil)))

def withyref13_Found_c0 : ACode :=
  .seq (.ops (
   ln 64 6 3 <| m 65 1 <| o 66 (.call 323 [(.t 64), (.t 65)]) <| m 12 66 <| .nil)) (
  .seq (.seq (.ops (
   o 13 (.mov (.c (.int .i64 0))) <| .nil)) (
  .block 2 (.loop [1, 3, 7, 8, 12, 13] [1, 3, 7, 8, 12] (withyref13_Found_c3)))) (
  withyref13_Found_c2))

/-- 156: withy/withyref13.Found -/
def withyref13_Found : AFunc where
  closed := false
  nparams := 3
  ntmps := 123
  results := [.tmp 6]
  body := .seq (.ops (
   o 3 (.box (.t 0)) <| o 6 (.mov (.c .nilsl)) <| .nil)) (
   .seq (.seq (.ops (
   ln 16 6 3 <| o 17 (.call 85 [(.t 16)]) <| o 18 (.not (.t 17)) <| m 19 18 <| .grd 19 false [i 20 (.mov (.t 1)),
   i 21 (.lenSl (.t 20)),
   i 22 (.loadN 6 (.t 3)),
   i 23 (.call 87 [(.t 22)]),
   i 24 (.lenSl (.t 23)),
   i 25 (.cmp .neq .i64 (.t 21) (.t 24))] <| o 26 (.pick (.t 19) (.c (.bool true)) (.t 25)) <| .nil)) (
   .cond (.t 26) (.seq (.ops (
   o 6 (.mov (.c .nilsl)) <| .nil)) (
   .ret)) (.skip))) (
   .seq (.ops (
   d 27 0 3 <| l 28 27 <| o 29 (.mkSl 1 1 [(.bool false)] (.t 28) (.t 28)) <| m 7 29 <| .nil)) (
   .seq (.ops (
   d 30 0 3 <| l 31 30 <| o 32 (.mkSl 1 1 [(.bool false)] (.t 31) (.t 31)) <| m 8 32 <| .nil)) (
   .seq (.seq (.ops (
   o 9 (.mov (.c (.int .i64 0))) <| .nil)) (
   .block 0 (.loop [1, 2, 3, 7, 8, 9] [1, 3, 7, 8] (withyref13_Found_c1)))) (
   withyref13_Found_c0)))))

def withyref13_Found_hs : List (List Nat × List Nat) := [([1, 2, 3, 7, 8, 9], [1, 3, 7, 8]), ([1, 3, 7, 8, 12, 13], [1, 3, 7, 8, 12]), ([1, 3, 7, 8, 12, 14], [7])]

end Wm.F
end

section
/- PRINTED by my tool (wip/wm/tool/Gen.lean): a function as one of my machine. -/
namespace Wm.F
open Wm
set_option maxRecDepth 100000

def withyref13_Sane_c1 : ACode :=
  .seq (.seq (.ops (
   m 8 6 <| m 9 0 <| o 10 (.lenSl (.t 9)) <| o 11 (.cmp .lss .i64 (.t 8) (.t 10)) <| m 12 11 <| .grd 12 true [i 13 (.mov (.t 6)),
   i 14 (.cmp .leq .i64 (.t 13) (.c (.int .i64 20)))] <| o 15 (.pick (.t 12) (.t 14) (.c (.bool false))) <| .nil)) (
  .cond (.t 15) (.skip) (.exit 0))) (
  .seq (.block 1 (.seq (.ops (
   m 18 0 <| m 19 6 <| o 20 (.indexA 7 (.t 18) (.t 19)) <| ln 21 7 20 <|
   o 7 (.alloc [(.int .i64 0), (.int .i64 0), (.bool false), (.int .i64 0), (.int .i64 0), (.int .i64 0), .nilsl]) <| u (.store 7 (.t 7) (.t 21)) <| .nil)) (
  .seq (.ops (
   d 22 0 7 <| d 23 2 22 <| l 24 23 <| m 25 24 <| .grd 25 true [i 26 (.fieldA 0 (.t 7)),
   i 27 (.fieldA 1 (.t 26)),
   i 28 (.load1 (.t 27)),
   i 29 (.mov (.t 1)),
   ⟨(some 30), .call 110 [(.t 29)], [{ g := (some (25, true)), op := .load1 (.t 27), d := 28 }]⟩,
   i 31 (.cmp .eql .i64 (.t 28) (.t 30))] <| o 32 (.pick (.t 25) (.t 31) (.c (.bool false))) <| d 33 0 7 <| d 34 2 33 <| u (.store 1 (.t 34) (.t 32)) <| .nil)) (
  .ops (
   m 35 5 <| ln 36 7 7 <| o 37 (.buildSl 7 1 [(.int .i64 0), (.int .i64 0), (.bool false), (.int .i64 0), (.int .i64 0), (.int .i64 0), .nilsl] [(0, 7, (.t 36))]) <|
   o 38 (.append 7 72 (.t 35) (.t 37)) <| m 5 38 <| .nil))))) (
  .ops (
   m 16 6 <| o 17 (.arith .add .i64 (.t 16) (.c (.int .i64 1))) <| m 6 17 <| .nil)))

def withyref13_Sane_c0 : ACode :=
  .seq (.ops (
   m 39 5 <| m 4 39 <| .nil)) (
  .ret)

/-- 157: withy/withyref13.Sane -/
def withyref13_Sane : AFunc where
  closed := false
  nparams := 2
  ntmps := 40
  results := [.tmp 4]
  body := .seq (.ops (
   o 4 (.mov (.c .nilsl)) <| .nil)) (
   .seq (.ops (
   o 5 (.mov (.c .nilsl)) <| .nil)) (
   .seq (.seq (.ops (
   o 6 (.mov (.c (.int .i64 0))) <| .nil)) (
   .block 0 (.loop [0, 1, 5, 6] [5] (withyref13_Sane_c1)))) (
   withyref13_Sane_c0)))

def withyref13_Sane_hs : List (List Nat × List Nat) := [([0, 1, 5, 6], [5])]

end Wm.F
end

section
/- PRINTED by my tool (wip/wm/tool/Gen.lean): a function as one of my machine. -/
namespace Wm.F
open Wm
set_option maxRecDepth 100000

/-- 270: withy/withyref06.fit -/
def withyref06_fit : AFunc where
  closed := true
  nparams := 3
  ntmps := 18
  results := [.tmp 6]
  body := .seq (.ops (
   o 6 (.mov (.c (.int .i64 0))) <| .nil)) (
   .seq (.ops (
   m 7 1 <| m 8 0 <| o 9 (.conv .u64 (.t 8)) <| m 10 2 <| m 11 1 <| o 12 (.arith .sub .i64 (.t 10) (.t 11)) <| o 13 (.arith .add .i64 (.t 12) (.c (.int .i64 1))) <|
   o 14 (.conv .u64 (.t 13)) <| o 15 (.arith .rem .u64 (.t 9) (.t 14)) <| o 16 (.conv .i64 (.t 15)) <| o 17 (.arith .add .i64 (.t 7) (.t 16)) <| m 6 17 <| .nil)) (
   .ret))

def withyref06_fit_hs : List (List Nat × List Nat) := []

end Wm.F
end

section
/- PRINTED by my tool (wip/wm/tool/Gen.lean): a function as one of my machine. -/
namespace Wm.F
open Wm
set_option maxRecDepth 100000

def withyref06_Memory_c1 : ACode :=
  .seq (.seq (.ops (
   m 15 5 <| m 16 3 <| o 17 (.lenSl (.t 16)) <| o 18 (.cmp .lss .i64 (.t 15) (.t 17)) <| .nil)) (
  .cond (.t 18) (.skip) (.exit 0))) (
  .seq (.block 1 (.seq (.ops (
   m 21 3 <| m 22 5 <| o 23 (.indexA 3 (.t 21) (.t 22)) <| d 24 0 23 <| l 25 24 <| .op ⟨(some 26), .eq false .str (.t 25) (.c (.str ⟨⟨[108, 105, 110, 107]⟩⟩)), []⟩ <| m 27 26 <|
   .grd 27 true [i 28 (.mov (.t 3)),
   i 29 (.mov (.t 5)),
   i 30 (.indexA 3 (.t 28) (.t 29)),
   i 31 (.fieldA 1 (.t 30)),
   i 32 (.load1 (.t 31)),
   i 33 (.arith .add .i64 (.t 32) (.c (.int .i64 1))),
   i 34 (.fieldA 0 (.t 1)),
   i 35 (.load1 (.t 34)),
   i 36 (.cmp .lss .i64 (.t 33) (.t 35))] <| o 37 (.pick (.t 27) (.t 36) (.c (.bool false))) <| .nil)) (
  .cond (.t 37) (.ops (
   m 38 4 <| m 39 5 <| m 40 3 <| m 41 5 <| o 42 (.indexA 3 (.t 40) (.t 41)) <| d 43 1 42 <| l 44 43 <| o 45 (.arith .add .i64 (.t 44) (.c (.int .i64 2))) <|
   o 46 (.conv .u64 (.t 45)) <| o 47 (.indexA 1 (.t 38) (.t 39)) <| u (.store 1 (.t 47) (.t 46)) <| .nil)) (.skip)))) (
  .ops (
   m 19 5 <| o 20 (.arith .add .i64 (.t 19) (.c (.int .i64 1))) <| m 5 20 <| .nil)))

def withyref06_Memory_c0 : ACode :=
  .seq (.ops (
   m 48 4 <| m 2 48 <| .nil)) (
  .ret)

/-- 86: withy/withyref06.Memory -/
def withyref06_Memory : AFunc where
  closed := false
  nparams := 1
  ntmps := 49
  results := [.tmp 2]
  body := .seq (.ops (
   o 1 (.box (.t 0)) <| o 2 (.mov (.c .nilsl)) <| .nil)) (
   .seq (.ops (
   ln 6 6 1 <| o 7 (.call 87 [(.t 6)]) <| m 3 7 <| .nil)) (
   .seq (.ops (
   m 8 3 <| o 9 (.lenSl (.t 8)) <| o 10 (.mkSl 1 8 [(.int .u64 0)] (.t 9) (.t 9)) <| m 4 10 <| .nil)) (
   .seq (.ops (
   m 11 4 <| o 12 (.indexA 1 (.t 11) (.c (.int .i64 0))) <| u (.store 1 (.t 12) (.c (.int .u64 1))) <| .nil)) (
   .seq (.ops (
   m 13 4 <| o 14 (.indexA 1 (.t 13) (.c (.int .i64 3))) <| u (.store 1 (.t 14) (.c (.int .u64 1))) <| .nil)) (
   .seq (.seq (.ops (
   o 5 (.mov (.c (.int .i64 0))) <| .nil)) (
   .block 0 (.loop [1, 3, 4, 5] [4] (withyref06_Memory_c1)))) (
   withyref06_Memory_c0))))))

def withyref06_Memory_hs : List (List Nat × List Nat) := [([1, 3, 4, 5], [4])]

end Wm.F
end

section
/- PRINTED by my tool (wip/wm/tool/Gen.lean): a function as one of my machine. -/
namespace Wm.F
open Wm
set_option maxRecDepth 100000

def withyref06_At_c1 : ACode :=
  .seq (.seq (.ops (
   m 12 6 <| m 13 5 <| o 14 (.lenSl (.t 13)) <| o 15 (.cmp .lss .i64 (.t 12) (.t 14)) <| .nil)) (
  .cond (.t 15) (.skip) (.exit 0))) (
  .seq (.block 1 (.seq (.ops (
   m 18 5 <| m 19 6 <| o 20 (.indexA 3 (.t 18) (.t 19)) <| ln 21 3 20 <| ln 22 3 3 <| o 23 (.eq false (.agg [(0, .str), (1, .int), (2, .int)]) (.t 21) (.t 22)) <| .nil)) (
  .cond (.t 23) (.seq (.ops (
   m 24 6 <| m 4 24 <| .nil)) (
   .ret)) (.skip)))) (
  .ops (
   m 16 6 <| o 17 (.arith .add .i64 (.t 16) (.c (.int .i64 1))) <| m 6 17 <| .nil)))

def withyref06_At_c0 : ACode :=
  .seq (.ops (
   o 4 (.mov (.c (.int .i64 (-1)))) <| .nil)) (
  .ret)

/-- 108: withy/withyref06.At -/
def withyref06_At : AFunc where
  closed := true
  nparams := 2
  ntmps := 25
  results := [.tmp 4]
  body := .seq (.ops (
   o 2 (.box (.t 0)) <| o 3 (.box (.t 1)) <| o 4 (.mov (.c (.int .i64 0))) <| .nil)) (
   .seq (.seq (.ops (
   ln 7 6 2 <| o 8 (.call 85 [(.t 7)]) <| o 9 (.not (.t 8)) <| .nil)) (
   .cond (.t 9) (.seq (.ops (
   o 4 (.mov (.c (.int .i64 (-1)))) <| .nil)) (
   .ret)) (.skip))) (
   .seq (.ops (
   ln 10 6 2 <| o 11 (.call 87 [(.t 10)]) <| m 5 11 <| .nil)) (
   .seq (.seq (.ops (
   o 6 (.mov (.c (.int .i64 0))) <| .nil)) (
   .block 0 (.loop [3, 5, 6] [4] (withyref06_At_c1)))) (
   withyref06_At_c0))))

def withyref06_At_hs : List (List Nat × List Nat) := [([3, 5, 6], [4])]

end Wm.F
end

section
/- PRINTED by my tool (wip/wm/tool/Gen.lean): a function as one of my machine. -/
namespace Wm.F
open Wm
set_option maxRecDepth 100000

/-- 111: withy/withyref04.Pack -/
def withyref04_Pack : AFunc where
  closed := true
  nparams := 1
  ntmps := 32
  results := [.tmp 2]
  body := .seq (.ops (
   o 1 (.box (.t 0)) <| o 2 (.mov (.c (.int .u64 0))) <| .nil)) (
   .seq (.ops (
   d 4 0 1 <| l 5 4 <| o 6 (.conv .u64 (.t 5)) <| d 7 1 1 <| l 8 7 <| o 9 (.conv .u64 (.t 8)) <| o 10 (.arith .mul .u64 (.c (.int .u64 8)) (.t 9)) <|
   o 11 (.arith .add .u64 (.t 6) (.t 10)) <| d 12 3 1 <| l 13 12 <| o 14 (.conv .u64 (.t 13)) <| o 15 (.arith .mul .u64 (.c (.int .u64 32)) (.t 14)) <|
   o 16 (.arith .add .u64 (.t 11) (.t 15)) <| d 17 4 1 <| l 18 17 <| o 19 (.conv .u64 (.t 18)) <| o 20 (.arith .mul .u64 (.c (.int .u64 65536)) (.t 19)) <|
   o 21 (.arith .add .u64 (.t 16) (.t 20)) <| d 22 5 1 <| l 23 22 <| o 24 (.conv .u64 (.t 23)) <| o 25 (.arith .mul .u64 (.c (.int .u64 281474976710656)) (.t 24)) <|
   o 26 (.arith .add .u64 (.t 21) (.t 25)) <| m 3 26 <| .nil)) (
   .seq (.seq (.ops (
   d 27 2 1 <| l 28 27 <| .nil)) (
   .cond (.t 28) (.ops (
   m 29 3 <| o 30 (.arith .add .u64 (.t 29) (.c (.int .u64 16))) <| m 3 30 <| .nil)) (.skip))) (
   .seq (.ops (
   m 31 3 <| m 2 31 <| .nil)) (
   .ret))))

def withyref04_Pack_hs : List (List Nat × List Nat) := []

end Wm.F
end

section
/- PRINTED by my tool (wip/wm/tool/Gen.lean): a function as one of my machine. -/
namespace Wm.F
open Wm
set_option maxRecDepth 100000

/-- 149: withy/withyref06.Room -/
def withyref06_Room : AFunc where
  closed := true
  nparams := 1
  ntmps := 8
  results := [.tmp 2]
  body := .seq (.ops (
   o 1 (.box (.t 0)) <| o 2 (.mov (.c (.int .i64 0))) <| .nil)) (
   .seq (.seq (.ops (
   d 3 1 1 <| l 4 3 <| o 5 (.cmp .lss .i64 (.t 4) (.c (.int .i64 3))) <| .nil)) (
   .cond (.t 5) (.seq (.ops (
   o 2 (.mov (.c (.int .i64 3))) <| .nil)) (
   .ret)) (.skip))) (
   .seq (.ops (
   d 6 1 1 <| l 7 6 <| m 2 7 <| .nil)) (
   .ret)))

def withyref06_Room_hs : List (List Nat × List Nat) := []

end Wm.F
end

section
/- PRINTED by my tool (wip/wm/tool/Gen.lean): a function as one of my machine. -/
namespace Wm.F
open Wm
set_option maxRecDepth 100000

/-- 202: withy/withyref04.Right -/
def withyref04_Right : AFunc where
  closed := true
  nparams := 1
  ntmps := 51
  results := [.tmp 2]
  body := .seq (.ops (
   o 1 (.box (.t 0)) <| o 2 (.mov (.c (.bool false))) <| .nil)) (
   .seq (.ops (
   d 3 0 1 <| l 4 3 <| o 5 (.cmp .geq .i64 (.t 4) (.c (.int .i64 0))) <| m 6 5 <| .grd 6 true [i 7 (.fieldA 0 (.t 1)),
   i 8 (.load1 (.t 7)),
   i 9 (.cmp .leq .i64 (.t 8) (.c (.int .i64 4)))] <| o 10 (.pick (.t 6) (.t 9) (.c (.bool false))) <| m 11 10 <| .grd 11 true [i 12 (.fieldA 1 (.t 1)),
   i 13 (.load1 (.t 12)),
   i 14 (.cmp .eql .i64 (.t 13) (.c (.int .i64 0))),
   i 15 (.mov (.t 14))] <| .grd 15 false [i 16 (.fieldA 1 (.t 1)),
   i 17 (.load1 (.t 16)),
   i 18 (.cmp .eql .i64 (.t 17) (.c (.int .i64 1)))] <| .grd 11 true [i 19 (.pick (.t 15) (.c (.bool true)) (.t 18))] <| o 20 (.pick (.t 11) (.t 19) (.c (.bool false))) <|
   m 21 20 <| .grd 21 true [i 22 (.fieldA 3 (.t 1)),
   i 23 (.load1 (.t 22)),
   i 24 (.cmp .geq .i64 (.t 23) (.c (.int .i64 0)))] <| o 25 (.pick (.t 21) (.t 24) (.c (.bool false))) <| m 26 25 <| .grd 26 true [i 27 (.fieldA 3 (.t 1)),
   i 28 (.load1 (.t 27)),
   i 29 (.cmp .leq .i64 (.t 28) (.c (.int .i64 15)))] <| o 30 (.pick (.t 26) (.t 29) (.c (.bool false))) <| m 31 30 <| .grd 31 true [i 32 (.fieldA 4 (.t 1)),
   i 33 (.load1 (.t 32)),
   i 34 (.cmp .geq .i64 (.t 33) (.c (.int .i64 0)))] <| o 35 (.pick (.t 31) (.t 34) (.c (.bool false))) <| m 36 35 <| .grd 36 true [i 37 (.fieldA 4 (.t 1)),
   i 38 (.load1 (.t 37)),
   i 39 (.cmp .leq .i64 (.t 38) (.c (.int .i64 4294967295)))] <| o 40 (.pick (.t 36) (.t 39) (.c (.bool false))) <| m 41 40 <| .grd 41 true [i 42 (.fieldA 5 (.t 1)),
   i 43 (.load1 (.t 42)),
   i 44 (.cmp .geq .i64 (.t 43) (.c (.int .i64 0)))] <| o 45 (.pick (.t 41) (.t 44) (.c (.bool false))) <| m 46 45 <| .grd 46 true [i 47 (.fieldA 5 (.t 1)),
   i 48 (.load1 (.t 47)),
   i 49 (.cmp .leq .i64 (.t 48) (.c (.int .i64 65535)))] <| o 50 (.pick (.t 46) (.t 49) (.c (.bool false))) <| m 2 50 <| .nil)) (
   .ret))

def withyref04_Right_hs : List (List Nat × List Nat) := []

end Wm.F
end

section
/- PRINTED by my tool (wip/wm/tool/Gen.lean): a function as one of my machine. -/
namespace Wm.F
open Wm
set_option maxRecDepth 100000

def withyref13_Grays_c1 : ACode :=
  .seq (.seq (.ops (
   m 9 6 <| d 10 0 2 <| l 11 10 <| o 12 (.cmp .lss .i64 (.t 9) (.t 11)) <| .nil)) (
  .cond (.t 12) (.skip) (.exit 0))) (
  .seq (.block 1 (.seq (.ops (
   ln 16 6 2 <| m 17 1 <| m 18 6 <| .op ⟨(some 19), .call 322 [(.t 16), (.t 17), (.c (.str ⟨⟨[104, 101, 97, 100, 101, 114]⟩⟩)), (.t 18), (.c (.int .i64 0))], []⟩ <|
   o 20 (.call 109 [(.t 19)]) <| m 15 20 <| o 21 (.extract (.t 15) 0) <| o 22 (.extract (.t 15) 1) <|
   o 7 (.alloc [(.int .i64 0), (.int .i64 0), (.bool false), (.int .i64 0), (.int .i64 0), (.int .i64 0)]) <| u (.store 6 (.t 7) (.t 21)) <| m 8 22 <| .nil)) (
  .seq (.ops (
   m 23 8 <| m 24 23 <| .grd 24 true [i 25 (.fieldA 2 (.t 7)),
   i 26 (.load1 (.t 25))] <| o 27 (.pick (.t 24) (.t 26) (.c (.bool false))) <| .nil)) (
  .cond (.t 27) (.ops (
   m 28 5 <| o 29 (.arith .add .i64 (.t 28) (.c (.int .i64 1))) <| m 5 29 <| .nil)) (.skip))))) (
  .ops (
   m 13 6 <| o 14 (.arith .add .i64 (.t 13) (.c (.int .i64 1))) <| m 6 14 <| .nil)))

def withyref13_Grays_c0 : ACode :=
  .seq (.ops (
   m 30 5 <| m 4 30 <| .nil)) (
  .ret)

/-- 297: withy/withyref13.Grays -/
def withyref13_Grays : AFunc where
  closed := false
  nparams := 2
  ntmps := 31
  results := [.tmp 4]
  body := .seq (.ops (
   o 2 (.box (.t 0)) <| o 4 (.mov (.c (.int .i64 0))) <| .nil)) (
   .seq (.ops (
   o 5 (.mov (.c (.int .i64 0))) <| .nil)) (
   .seq (.seq (.ops (
   o 6 (.mov (.c (.int .i64 0))) <| .nil)) (
   .block 0 (.loop [1, 2, 5, 6] [5] (withyref13_Grays_c1)))) (
   withyref13_Grays_c0)))

def withyref13_Grays_hs : List (List Nat × List Nat) := [([1, 2, 5, 6], [5])]

end Wm.F
end

section
/- PRINTED by my tool (wip/wm/tool/Gen.lean): a function as one of my machine. -/
namespace Wm.F
open Wm
set_option maxRecDepth 100000

/-- 94: (*withy/mem.Mem).Words -/
def mem_Mem_Words : AFunc where
  closed := false
  nparams := 1
  ntmps := 10
  results := [.tmp 2]
  body := .seq (.ops (
   o 2 (.mov (.c .nilsl)) <| .nil)) (
   .seq (.seq (.ops (
   m 3 0 <| o 4 (.eq false .ptr (.t 3) (.c .nilp)) <| .nil)) (
   .cond (.t 4) (.seq (.ops (
   o 2 (.mov (.c .nilsl)) <| .nil)) (
   .ret)) (.skip))) (
   .seq (.ops (
   m 5 0 <| n 6 5 <| d 7 0 6 <| l 8 7 <| o 9 (.call 271 [(.t 8)]) <| m 2 9 <| .nil)) (
   .ret)))

def mem_Mem_Words_hs : List (List Nat × List Nat) := []

end Wm.F
end

section
/- PRINTED by my tool (wip/wm/tool/Gen.lean): a function as one of my machine. -/
namespace Wm.F
open Wm
set_option maxRecDepth 100000

/-- 158: withy/mark.NewMark -/
def mark_NewMark : AFunc where
  closed := false
  nparams := 2
  ntmps := 12
  results := [.tmp 4]
  body := .seq (.ops (
   o 2 (.box (.t 0)) <| o 4 (.mov (.c .nilp)) <| .nil)) (
   .seq (.seq (.ops (
   ln 5 6 2 <| o 6 (.call 263 [(.t 5)]) <| o 7 (.not (.t 6)) <| .nil)) (
   .cond (.t 7) (.seq (.ops (
   o 4 (.mov (.c .nilp)) <| .nil)) (
   .ret)) (.skip))) (
   .seq (.ops (
   ln 8 6 2 <| m 9 1 <|
   o 10 (.build [(.int .i64 0), (.int .i64 0), (.int .i64 0), (.int .i64 0), (.int .i64 0), (.int .i64 0), (.int .i64 0), (.int .i64 0), (.int .u64 0), (.int .i64 0), (.int .u64 0), (.int .i64 0), (.int .i64 0), (.int .i64 0), (.int .i64 0), (.int .i64 0), (.int .u64 0), (.int .u64 0), .nilsl, .nilp, (.int .i64 0)] [(2, 6, (.t 8)), (8, 1, (.t 9))]) <| o 11 (.box (.t 10)) <| m 4 11 <| .nil)) (
   .ret)))

def mark_NewMark_hs : List (List Nat × List Nat) := []

end Wm.F
end

section
/- PRINTED by my tool (wip/wm/tool/Gen.lean): a function as one of my machine. -/
namespace Wm.F
open Wm
set_option maxRecDepth 100000

/-- 198: withy/mem.Of -/
def mem_Of : AFunc where
  closed := false
  nparams := 1
  ntmps := 10
  results := [.tmp 2]
  body := .seq (.ops (
   o 2 (.mov (.c .nilp)) <| .nil)) (
   .seq (.seq (.ops (
   m 3 0 <| o 4 (.lenSl (.t 3)) <| o 5 (.cmp .gtr .i64 (.t 4) (.c (.int .i64 65536))) <| .nil)) (
   .cond (.t 5) (.seq (.ops (
   o 2 (.mov (.c .nilp)) <| .nil)) (
   .ret)) (.skip))) (
   .seq (.ops (
   m 6 0 <| o 7 (.call 271 [(.t 6)]) <| o 8 (.build [.nilsl, (.int .i64 0), (.int .i64 0), (.int .i64 0), (.int .u64 0), (.int .u64 0)] [(0, 1, (.t 7))]) <| o 9 (.box (.t 8)) <|
   m 2 9 <| .nil)) (
   .ret)))

def mem_Of_hs : List (List Nat × List Nat) := []

end Wm.F
end

section
/- PRINTED by my tool (wip/wm/tool/Gen.lean): a function as one of my machine. -/
namespace Wm.F
open Wm
set_option maxRecDepth 100000

/-- 313: withy/withylaw13.small -/
def withylaw13_small : AFunc where
  closed := false
  nparams := 0
  ntmps := 21
  results := [.cell true 6 0, .tmp 1]
  body := .seq (.ops (
   o 0 (.alloc [(.int .i64 0), (.int .i64 0), (.int .i64 0), (.int .i64 0), (.int .i64 0), (.int .i64 0)]) <| o 1 (.mov (.c .nilsl)) <| .nil)) (
   .seq (.ops (
   o 4 (.build [(.int .i64 0), (.int .i64 0), (.int .i64 0), (.int .i64 0), (.int .i64 0), (.int .i64 0)] [(0, 1, (.c (.int .i64 4))), (1, 1, (.c (.int .i64 1))), (2, 1, (.c (.int .i64 1))), (3, 1, (.c (.int .i64 1))), (4, 1, (.c (.int .i64 9)))]) <| o 2 (.alloc [(.int .i64 0), (.int .i64 0), (.int .i64 0), (.int .i64 0), (.int .i64 0), (.int .i64 0)]) <| u (.store 6 (.t 2) (.t 4)) <| .nil)) (
   .seq (.ops (
   o 5 (.build [(.int .i64 0), (.int .i64 0), (.bool false), (.int .i64 0), (.int .i64 0), (.int .i64 0)] [(0, 1, (.c (.int .i64 1))), (3, 1, (.c (.int .i64 1)))]) <|
   o 3 (.alloc [(.int .i64 0), (.int .i64 0), (.bool false), (.int .i64 0), (.int .i64 0), (.int .i64 0)]) <| u (.store 6 (.t 3) (.t 5)) <| .nil)) (
   .seq (.ops (
   ln 6 6 2 <| ln 7 6 2 <| ln 8 6 3 <| o 11 (.build [(.int .i64 0), (.int .i64 0), (.bool false), (.int .i64 0), (.int .i64 0), (.int .i64 0)] [(0, 1, (.c (.int .i64 2)))]) <|
   ln 14 6 3 <| o 15 (.build [(.int .i64 0), (.int .i64 0), (.bool false), (.int .i64 0), (.int .i64 0), (.int .i64 0), .nilsl] [(0, 6, (.t 14))]) <| ln 16 6 3 <|
   o 17 (.build [(.int .i64 0), (.int .i64 0), (.bool false), (.int .i64 0), (.int .i64 0), (.int .i64 0), .nilsl] [(0, 6, (.t 16))]) <|
   o 9 (.buildSl 1 1 [(.int .u64 0)] [(0, 1, (.c (.int .u64 2)))]) <|
   o 10 (.build [(.int .i64 0), (.int .i64 0), (.bool false), (.int .i64 0), (.int .i64 0), (.int .i64 0), .nilsl] [(0, 6, (.t 8)), (6, 1, (.t 9))]) <|
   o 12 (.buildSl 1 3 [(.int .u64 0)] [(0, 1, (.c (.int .u64 3))), (1, 1, (.c (.int .u64 1))), (2, 1, (.c (.int .u64 0)))]) <|
   o 13 (.build [(.int .i64 0), (.int .i64 0), (.bool false), (.int .i64 0), (.int .i64 0), (.int .i64 0), .nilsl] [(0, 6, (.t 11)), (6, 1, (.t 12))]) <|
   o 18 (.buildSl 7 4 [(.int .i64 0), (.int .i64 0), (.bool false), (.int .i64 0), (.int .i64 0), (.int .i64 0), .nilsl] [(0, 7, (.t 10)), (7, 7, (.t 13)), (14, 7, (.t 15)), (21, 7, (.t 17))]) <| o 19 (.buildSl 1 1 [(.int .u64 0)] [(0, 1, (.c (.int .u64 1)))]) <| .op ⟨(some 20), .call 121 [(.t 7), (.t 18), (.t 19), (.c .nilsl)], [{ g := none, op := .loadN 6 (.t 2), d := 6 }]⟩ <| u (.store 6 (.t 0) (.t 6)) <| m 1 20 <| .nil)) (
   .ret))))

def withylaw13_small_hs : List (List Nat × List Nat) := []

end Wm.F
end

section
/- PRINTED by my tool (wip/wm/tool/Gen.lean): a function as one of my machine. -/
namespace Wm.F
open Wm
set_option maxRecDepth 100000

def withylaw13_ends_c1 : ACode :=
  .seq (.seq (.ops (
   m 10 7 <| m 11 2 <| o 12 (.cmp .lss .i64 (.t 10) (.t 11)) <| .nil)) (
  .cond (.t 12) (.skip) (.exit 0))) (
  .seq (.block 1 (.seq (.ops (
   m 15 1 <| o 16 (.call 107 [(.t 15)]) <| m 8 16 <| .nil)) (
  .seq (.ops (
   m 17 0 <| m 18 1 <| o 19 (.call 159 [(.t 17), (.t 18)]) <| m 9 19 <| .nil)) (
  .seq (.seq (.ops (
   m 20 1 <| o 21 (.call 107 [(.t 20)]) <| m 22 8 <| o 23 (.arith .add .i64 (.t 22) (.c (.int .i64 1))) <| o 24 (.cmp .gtr .i64 (.t 21) (.t 23)) <| .nil)) (
  .cond (.t 24) (.seq (.ops (
   o 6 (.mov (.c (.bool false))) <| .nil)) (
   .ret)) (.skip))) (
  .seq (.ops (
   m 25 9 <| .nil)) (
  .cond (.t 25) (.seq (.ops (
   o 6 (.mov (.c (.bool true))) <| .nil)) (
   .ret)) (.skip))))))) (
  .ops (
   m 13 7 <| o 14 (.arith .add .i64 (.t 13) (.c (.int .i64 1))) <| m 7 14 <| .nil)))

def withylaw13_ends_c0 : ACode :=
  .seq (.ops (
   o 6 (.mov (.c (.bool false))) <| .nil)) (
  .ret)

/-- 314: withy/withylaw13.ends -/
def withylaw13_ends : AFunc where
  closed := false
  nparams := 3
  ntmps := 26
  results := [.tmp 6]
  body := .seq (.ops (
   o 6 (.mov (.c (.bool false))) <| .nil)) (
   .seq (.seq (.ops (
   o 7 (.mov (.c (.int .i64 0))) <| .nil)) (
   .block 0 (.loop [0, 1, 2, 7] [6] (withylaw13_ends_c1)))) (
   withylaw13_ends_c0))

def withylaw13_ends_hs : List (List Nat × List Nat) := [([0, 1, 2, 7], [6])]

end Wm.F
end

section
/- PRINTED by my tool (wip/wm/tool/Gen.lean): a function as one of my machine. -/
namespace Wm.F
open Wm
set_option maxRecDepth 100000

def withylaw13_marked_c1 : ACode :=
  .seq (.seq (.ops (
   m 9 8 <| d 10 0 3 <| l 11 10 <| o 12 (.cmp .lss .i64 (.t 9) (.t 11)) <| .nil)) (
  .cond (.t 12) (.skip) (.exit 0))) (
  .seq (.block 1 (.ops (
   m 15 7 <| m 16 1 <| ln 17 6 3 <| m 18 8 <|
   .op ⟨(some 19), .build [(.str ⟨⟨[]⟩⟩), (.int .i64 0), (.int .i64 0)] [(0, 1, (.c (.str ⟨⟨[104, 101, 97, 100, 101, 114]⟩⟩))), (1, 1, (.t 18))], []⟩ <|
   o 20 (.call 108 [(.t 17), (.t 19)]) <| o 21 (.indexA 1 (.t 16) (.t 20)) <| l 22 21 <| m 23 2 <| o 24 (.call 113 [(.t 22), (.t 23)]) <|
   o 25 (.buildSl 1 1 [(.bool false)] [(0, 1, (.t 24))]) <| o 26 (.append 1 1 (.t 15) (.t 25)) <| m 7 26 <| .nil))) (
  .ops (
   m 13 8 <| o 14 (.arith .add .i64 (.t 13) (.c (.int .i64 1))) <| m 8 14 <| .nil)))

def withylaw13_marked_c0 : ACode :=
  .seq (.ops (
   m 27 7 <| m 6 27 <| .nil)) (
  .ret)

/-- 315: withy/withylaw13.marked -/
def withylaw13_marked : AFunc where
  closed := false
  nparams := 3
  ntmps := 28
  results := [.tmp 6]
  body := .seq (.ops (
   o 3 (.box (.t 0)) <| o 6 (.mov (.c .nilsl)) <| .nil)) (
   .seq (.ops (
   o 7 (.mov (.c .nilsl)) <| .nil)) (
   .seq (.seq (.ops (
   o 8 (.mov (.c (.int .i64 0))) <| .nil)) (
   .block 0 (.loop [1, 2, 3, 7, 8] [7] (withylaw13_marked_c1)))) (
   withylaw13_marked_c0)))

def withylaw13_marked_hs : List (List Nat × List Nat) := [([1, 2, 3, 7, 8], [7])]

end Wm.F
end

section
/- PRINTED by my tool (wip/wm/tool/Gen.lean): a function as one of my machine. -/
namespace Wm.F
open Wm
set_option maxRecDepth 100000

/-- 261: withy/plan.Header -/
def plan_Header : AFunc where
  closed := true
  nparams := 2
  ntmps := 8
  results := [.tmp 4]
  body := .seq (.ops (
   o 2 (.box (.t 0)) <| o 4 (.mov (.c (.int .i64 0))) <| .nil)) (
   .seq (.ops (
   ln 5 6 2 <| m 6 1 <| o 7 (.call 375 [(.t 5), (.t 6), (.c (.int .i64 0))]) <| m 4 7 <| .nil)) (
   .ret))

def plan_Header_hs : List (List Nat × List Nat) := []

end Wm.F
end

section
/- PRINTED by my tool (wip/wm/tool/Gen.lean): a function as one of my machine. -/
namespace Wm.F
open Wm
set_option maxRecDepth 100000

/-- 263: withy/plan.Right -/
def plan_Right : AFunc where
  closed := true
  nparams := 1
  ntmps := 31
  results := [.tmp 2]
  body := .seq (.ops (
   o 1 (.box (.t 0)) <| o 2 (.mov (.c (.bool false))) <| .nil)) (
   .seq (.ops (
   d 3 0 1 <| l 4 3 <| o 5 (.call 376 [(.t 4), (.c (.int .i64 1)), (.c (.int .i64 64))]) <| m 6 5 <| .grd 6 true [i 7 (.fieldA 1 (.t 1)),
   i 8 (.load1 (.t 7)),
   i 9 (.call 376 [(.t 8), (.c (.int .i64 0)), (.c (.int .i64 8))])] <| o 10 (.pick (.t 6) (.t 9) (.c (.bool false))) <| m 11 10 <| .grd 11 true [i 12 (.fieldA 2 (.t 1)),
   i 13 (.load1 (.t 12)),
   i 14 (.call 376 [(.t 13), (.c (.int .i64 1)), (.c (.int .i64 8))])] <| o 15 (.pick (.t 11) (.t 14) (.c (.bool false))) <| m 16 15 <| .grd 16 true [i 17 (.fieldA 3 (.t 1)),
   i 18 (.load1 (.t 17)),
   i 19 (.call 376 [(.t 18), (.c (.int .i64 1)), (.c (.int .i64 16))])] <| o 20 (.pick (.t 16) (.t 19) (.c (.bool false))) <| m 21 20 <| .grd 21 true [i 22 (.fieldA 4 (.t 1)),
   i 23 (.load1 (.t 22)),
   i 24 (.call 376 [(.t 23), (.c (.int .i64 1)), (.c (.int .i64 1048576))])] <| o 25 (.pick (.t 21) (.t 24) (.c (.bool false))) <| m 26 25 <| .grd 26 true [i 27 (.fieldA 5 (.t 1)),
   i 28 (.load1 (.t 27)),
   i 29 (.call 376 [(.t 28), (.c (.int .i64 0)), (.c (.int .i64 64))])] <| o 30 (.pick (.t 26) (.t 29) (.c (.bool false))) <| m 2 30 <| .nil)) (
   .ret))

def plan_Right_hs : List (List Nat × List Nat) := []

end Wm.F
end

section
/- PRINTED by my tool (wip/wm/tool/Gen.lean): a function as one of my machine. -/
namespace Wm.F
open Wm
set_option maxRecDepth 100000

/-- 264: withy/plan.Size -/
def plan_Size : AFunc where
  closed := true
  nparams := 1
  ntmps := 14
  results := [.tmp 2]
  body := .seq (.ops (
   o 1 (.box (.t 0)) <| o 2 (.mov (.c (.int .i64 0))) <| .nil)) (
   .seq (.seq (.ops (
   ln 3 6 1 <| o 4 (.call 263 [(.t 3)]) <| o 5 (.not (.t 4)) <| .nil)) (
   .cond (.t 5) (.seq (.ops (
   o 2 (.mov (.c (.int .i64 0))) <| .nil)) (
   .ret)) (.skip))) (
   .seq (.ops (
   ln 6 6 1 <| d 8 0 1 <| l 9 8 <| ln 10 6 1 <| .op ⟨(some 7), .call 377 [(.t 6)], [{ g := none, op := .loadN 6 (.t 1), d := 10 }, { g := none, op := .load1 (.t 8), d := 9 }]⟩ <|
   .op ⟨(some 11), .call 378 [(.t 10)], [{ g := none, op := .load1 (.t 8), d := 9 }]⟩ <| o 12 (.arith .mul .i64 (.t 9) (.t 11)) <| o 13 (.arith .add .i64 (.t 7) (.t 12)) <|
   m 2 13 <| .nil)) (
   .ret)))

def plan_Size_hs : List (List Nat × List Nat) := []

end Wm.F
end

section
/- PRINTED by my tool (wip/wm/tool/Gen.lean): a function as one of my machine. -/
namespace Wm.F
open Wm
set_option maxRecDepth 100000

/-- 265: withy/head.Unpack -/
def head_Unpack : AFunc where
  closed := true
  nparams := 1
  ntmps := 53
  results := [.cell true 6 2, .tmp 3]
  body := .seq (.ops (
   o 2 (.alloc [(.int .i64 0), (.int .i64 0), (.bool false), (.int .i64 0), (.int .i64 0), (.int .i64 0)]) <| o 3 (.mov (.c (.bool false))) <| .nil)) (
   .seq (.ops (
   m 7 0 <|
   o 8 (.buildSl 1 7 [(.int .i64 0)] [(0, 1, (.c (.int .i64 3))), (1, 1, (.c (.int .i64 1))), (2, 1, (.c (.int .i64 1))), (3, 1, (.c (.int .i64 4))), (4, 1, (.c (.int .i64 7))), (5, 1, (.c (.int .i64 32))), (6, 1, (.c (.int .i64 16)))]) <| o 9 (.call 379 [(.t 7), (.t 8)]) <| m 6 9 <| o 10 (.extract (.t 6) 0) <| o 11 (.extract (.t 6) 1) <| m 4 10 <| m 5 11 <| .nil)) (
   .seq (.seq (.ops (
   m 12 4 <| o 13 (.lenSl (.t 12)) <| o 14 (.cmp .lss .i64 (.t 13) (.c (.int .i64 7))) <| m 15 14 <| .grd 15 false [i 16 (.mov (.t 4)),
   i 17 (.indexA 1 (.t 16) (.c (.int .i64 0))),
   i 18 (.load1 (.t 17)),
   i 19 (.cmp .gtr .u64 (.t 18) (.c (.int .u64 4)))] <| o 20 (.pick (.t 15) (.c (.bool true)) (.t 19)) <| m 21 20 <| .grd 21 false [i 22 (.mov (.t 4)),
   i 23 (.indexA 1 (.t 22) (.c (.int .i64 4))),
   i 24 (.load1 (.t 23)),
   i 25 (.cmp .neq .u64 (.t 24) (.c (.int .u64 0)))] <| o 26 (.pick (.t 21) (.c (.bool true)) (.t 25)) <| .nil)) (
   .cond (.t 26) (.seq (.ops (
   o 27 (.build [(.int .i64 0), (.int .i64 0), (.bool false), (.int .i64 0), (.int .i64 0), (.int .i64 0)] []) <| u (.store 6 (.t 2) (.t 27)) <| o 3 (.mov (.c (.bool false))) <|
   .nil)) (
   .ret)) (.skip))) (
   .seq (.ops (
   m 28 4 <| o 29 (.indexA 1 (.t 28) (.c (.int .i64 0))) <| l 30 29 <| o 31 (.conv .i64 (.t 30)) <| m 32 4 <| o 33 (.indexA 1 (.t 32) (.c (.int .i64 1))) <| l 34 33 <|
   o 35 (.conv .i64 (.t 34)) <| m 36 4 <| o 37 (.indexA 1 (.t 36) (.c (.int .i64 2))) <| l 38 37 <| o 39 (.cmp .eql .u64 (.t 38) (.c (.int .u64 1))) <| m 40 4 <|
   o 41 (.indexA 1 (.t 40) (.c (.int .i64 3))) <| l 42 41 <| o 43 (.conv .i64 (.t 42)) <| m 44 4 <| o 45 (.indexA 1 (.t 44) (.c (.int .i64 5))) <| l 46 45 <|
   o 47 (.conv .i64 (.t 46)) <| m 48 4 <| o 49 (.indexA 1 (.t 48) (.c (.int .i64 6))) <| l 50 49 <| o 51 (.conv .i64 (.t 50)) <|
   o 52 (.build [(.int .i64 0), (.int .i64 0), (.bool false), (.int .i64 0), (.int .i64 0), (.int .i64 0)] [(0, 1, (.t 31)), (1, 1, (.t 35)), (2, 1, (.t 39)), (3, 1, (.t 43)), (4, 1, (.t 47)), (5, 1, (.t 51))]) <| u (.store 6 (.t 2) (.t 52)) <| o 3 (.mov (.c (.bool true))) <| .nil)) (
   .ret))))

def head_Unpack_hs : List (List Nat × List Nat) := []

end Wm.F
end

section
/- PRINTED by my tool (wip/wm/tool/Gen.lean): a function as one of my machine. -/
namespace Wm.F
open Wm
set_option maxRecDepth 100000

/-- 305: withy/plan.Body -/
def plan_Body : AFunc where
  closed := true
  nparams := 3
  ntmps := 18
  results := [.tmp 6]
  body := .seq (.ops (
   o 3 (.box (.t 0)) <| o 6 (.mov (.c (.int .i64 0))) <| .nil)) (
   .seq (.seq (.ops (
   m 7 2 <| o 8 (.cmp .lss .i64 (.t 7) (.c (.int .i64 0))) <| m 9 8 <| .grd 9 false [i 10 (.mov (.t 2)),
   i 11 (.cmp .gtr .i64 (.t 10) (.c (.int .i64 8)))] <| o 12 (.pick (.t 9) (.c (.bool true)) (.t 11)) <| .nil)) (
   .cond (.t 12) (.seq (.ops (
   o 6 (.mov (.c (.int .i64 (-1)))) <| .nil)) (
   .ret)) (.skip))) (
   .seq (.ops (
   ln 13 6 3 <| m 14 1 <| m 15 2 <| o 16 (.arith .add .i64 (.c (.int .i64 2)) (.t 15)) <| o 17 (.call 375 [(.t 13), (.t 14), (.t 16)]) <| m 6 17 <| .nil)) (
   .ret)))

def plan_Body_hs : List (List Nat × List Nat) := []

end Wm.F
end

section
/- PRINTED by my tool (wip/wm/tool/Gen.lean): a function as one of my machine. -/
namespace Wm.F
open Wm
set_option maxRecDepth 100000

/-- 316: withy/mark.Found$1 -/
def mark_Found_1 : AFunc where
  closed := false
  nparams := 6
  ntmps := 42
  results := []
  body := .seq (.seq (.ops (
   m 9 0 <| o 10 (.cmp .lss .i64 (.t 9) (.c (.int .i64 0))) <| m 11 10 <| .grd 11 false [i 12 (.mov (.t 0)),
   i 13 (.fieldA 0 (.t 1)),
   i 14 (.load1 (.t 13)),
   i 15 (.cmp .geq .i64 (.t 12) (.t 14))] <| o 16 (.pick (.t 11) (.c (.bool true)) (.t 15)) <| m 17 16 <| .grd 17 false [i 18 (.load1 (.t 2)),
   i 19 (.mov (.t 0)),
   i 20 (.indexA 1 (.t 18) (.t 19)),
   i 21 (.load1 (.t 20))] <| o 22 (.pick (.t 17) (.c (.bool true)) (.t 21)) <| .nil)) (
   .cond (.t 22) (.ret) (.skip))) (
   .seq (.ops (
   l 24 3 <| ln 25 6 1 <| m 26 0 <| l 30 4 <|
   .op ⟨(some 27), .call 261 [(.t 25), (.t 26)], [{ g := none, op := .load1 (.t 4), d := 30 }, { g := none, op := .load1 (.t 3), d := 24 }]⟩ <| o 28 (.indexA 1 (.t 24) (.t 27)) <|
   l 29 28 <| o 31 (.call 267 [(.t 29), (.t 30)]) <| m 23 31 <| o 32 (.extract (.t 23) 0) <| o 33 (.extract (.t 23) 1) <| m 7 32 <| m 8 33 <| .nil)) (
   .seq (.ops (
   m 34 8 <| .nil)) (
   .cond (.t 34) (.seq (.ops (
   l 35 2 <| m 36 0 <| o 37 (.indexA 1 (.t 35) (.t 36)) <| u (.store 1 (.t 37) (.c (.bool true))) <| .nil)) (
   .ops (
   l 38 5 <| m 39 0 <| o 40 (.buildSl 1 1 [(.int .i64 0)] [(0, 1, (.t 39))]) <| o 41 (.append 1 8 (.t 38) (.t 40)) <| u (.store 1 (.t 5) (.t 41)) <| .nil))) (.skip))))

def mark_Found_1_hs : List (List Nat × List Nat) := []

end Wm.F
end

section
/- PRINTED by my tool (wip/wm/tool/Gen.lean): a function as one of my machine. -/
namespace Wm.F
open Wm
set_option maxRecDepth 100000

/-- 317: withy/head.Marked -/
def head_Marked : AFunc where
  closed := true
  nparams := 2
  ntmps := 20
  results := [.tmp 4]
  body := .seq (.ops (
   o 4 (.mov (.c (.bool false))) <| .nil)) (
   .seq (.ops (
   m 8 0 <| o 9 (.call 380 [(.t 8)]) <| m 7 9 <| o 10 (.extract (.t 7) 0) <| o 11 (.extract (.t 7) 1) <|
   o 5 (.alloc [(.int .i64 0), (.int .i64 0), (.bool false), (.int .i64 0), (.int .i64 0), (.int .i64 0)]) <| u (.store 6 (.t 5) (.t 10)) <| m 6 11 <| .nil)) (
   .seq (.ops (
   m 12 6 <| m 13 12 <| .grd 13 true [i 14 (.fieldA 1 (.t 5)),
   i 15 (.load1 (.t 14)),
   i 16 (.mov (.t 1)),
   ⟨(some 17), .call 381 [(.t 16)], [{ g := (some (13, true)), op := .load1 (.t 14), d := 15 }]⟩,
   i 18 (.cmp .eql .i64 (.t 15) (.t 17))] <| o 19 (.pick (.t 13) (.t 18) (.c (.bool false))) <| m 4 19 <| .nil)) (
   .ret)))

def head_Marked_hs : List (List Nat × List Nat) := []

end Wm.F
end

section
/- PRINTED by my tool (wip/wm/tool/Gen.lean): a function as one of my machine. -/
namespace Wm.F
open Wm
set_option maxRecDepth 100000

/-- 318: withy/tag.EntryParts -/
def tag_EntryParts : AFunc where
  closed := true
  nparams := 1
  ntmps := 10
  results := [.tmp 2, .tmp 3]
  body := .seq (.ops (
   o 2 (.mov (.c (.int .u64 0))) <| o 3 (.mov (.c (.int .i64 0))) <| .nil)) (
   .seq (.ops (
   m 4 0 <| o 5 (.call 396 [(.t 4), (.c (.int .i64 32)), (.c (.int .i64 32))]) <| m 6 0 <| o 7 (.call 396 [(.t 6), (.c (.int .i64 0)), (.c (.int .i64 32))]) <|
   o 8 (.conv .i64 (.t 7)) <| o 9 (.arith .sub .i64 (.t 8) (.c (.int .i64 1))) <| m 2 5 <| m 3 9 <| .nil)) (
   .ret))

def tag_EntryParts_hs : List (List Nat × List Nat) := []

end Wm.F
end

section
/- PRINTED by my tool (wip/wm/tool/Gen.lean): a function as one of my machine. -/
namespace Wm.F
open Wm
set_option maxRecDepth 100000

/-- 319: withy/plan.Entry -/
def plan_Entry : AFunc where
  closed := true
  nparams := 3
  ntmps := 13
  results := [.tmp 6]
  body := .seq (.ops (
   o 3 (.box (.t 0)) <| o 6 (.mov (.c (.int .i64 0))) <| .nil)) (
   .seq (.ops (
   ln 7 6 3 <| m 8 1 <| d 9 3 3 <| l 10 9 <| m 11 2 <| o 12 (.call 397 [(.t 7), (.t 8), (.c (.int .i64 1)), (.t 10), (.t 11)]) <| m 6 12 <| .nil)) (
   .ret))

def plan_Entry_hs : List (List Nat × List Nat) := []

end Wm.F
end

section
/- PRINTED by my tool (wip/wm/tool/Gen.lean): a function as one of my machine. -/
namespace Wm.F
open Wm
set_option maxRecDepth 100000

/-- 320: (*withy/mark.Mark).named -/
def mark_Mark_named : AFunc where
  closed := false
  nparams := 2
  ntmps := 16
  results := [.tmp 4]
  body := .seq (.ops (
   o 4 (.mov (.c (.int .i64 0))) <| .nil)) (
   .seq (.seq (.ops (
   m 5 1 <| m 6 0 <| n 7 6 <| d 8 2 7 <| d 9 0 8 <| l 10 9 <| o 11 (.conv .u64 (.t 10)) <| o 12 (.cmp .gtr .u64 (.t 5) (.t 11)) <| .nil)) (
   .cond (.t 12) (.seq (.ops (
   o 4 (.mov (.c (.int .i64 (-1)))) <| .nil)) (
   .ret)) (.skip))) (
   .seq (.ops (
   m 13 1 <| o 14 (.conv .i64 (.t 13)) <| o 15 (.arith .sub .i64 (.t 14) (.c (.int .i64 1))) <| m 4 15 <| .nil)) (
   .ret)))

def mark_Mark_named_hs : List (List Nat × List Nat) := []

end Wm.F
end

section
/- PRINTED by my tool (wip/wm/tool/Gen.lean): a function as one of my machine. -/
namespace Wm.F
open Wm
set_option maxRecDepth 100000

/-- 321: withy/plan.Start -/
def plan_Start : AFunc where
  closed := true
  nparams := 2
  ntmps := 11
  results := [.tmp 4]
  body := .seq (.ops (
   o 2 (.box (.t 0)) <| o 4 (.mov (.c (.int .i64 0))) <| .nil)) (
   .seq (.ops (
   ln 5 6 2 <| m 6 1 <| d 7 3 2 <| l 8 7 <| o 9 (.arith .add .i64 (.c (.int .i64 1)) (.t 8)) <|
   o 10 (.call 397 [(.t 5), (.t 6), (.t 9), (.c (.int .i64 2)), (.c (.int .i64 1))]) <| m 4 10 <| .nil)) (
   .ret))

def plan_Start_hs : List (List Nat × List Nat) := []

end Wm.F
end

section
/- PRINTED by my tool (wip/wm/tool/Gen.lean): a function as one of my machine. -/
namespace Wm.F
open Wm
set_option maxRecDepth 100000

/-- 85: withy/withyref06.Right -/
def withyref06_Right : AFunc where
  closed := true
  nparams := 1
  ntmps := 61
  results := [.tmp 2]
  body := .seq (.ops (
   o 1 (.box (.t 0)) <| o 2 (.mov (.c (.bool false))) <| .nil)) (
   .seq (.ops (
   d 3 0 1 <| l 4 3 <| o 5 (.cmp .geq .i64 (.t 4) (.c (.int .i64 1))) <| m 6 5 <| .grd 6 true [i 7 (.fieldA 0 (.t 1)),
   i 8 (.load1 (.t 7)),
   i 9 (.cmp .leq .i64 (.t 8) (.c (.int .i64 64)))] <| o 10 (.pick (.t 6) (.t 9) (.c (.bool false))) <| m 11 10 <| .grd 11 true [i 12 (.fieldA 1 (.t 1)),
   i 13 (.load1 (.t 12)),
   i 14 (.cmp .geq .i64 (.t 13) (.c (.int .i64 0)))] <| o 15 (.pick (.t 11) (.t 14) (.c (.bool false))) <| m 16 15 <| .grd 16 true [i 17 (.fieldA 1 (.t 1)),
   i 18 (.load1 (.t 17)),
   i 19 (.cmp .leq .i64 (.t 18) (.c (.int .i64 8)))] <| o 20 (.pick (.t 16) (.t 19) (.c (.bool false))) <| m 21 20 <| .grd 21 true [i 22 (.fieldA 2 (.t 1)),
   i 23 (.load1 (.t 22)),
   i 24 (.cmp .geq .i64 (.t 23) (.c (.int .i64 1)))] <| o 25 (.pick (.t 21) (.t 24) (.c (.bool false))) <| m 26 25 <| .grd 26 true [i 27 (.fieldA 2 (.t 1)),
   i 28 (.load1 (.t 27)),
   i 29 (.cmp .leq .i64 (.t 28) (.c (.int .i64 8)))] <| o 30 (.pick (.t 26) (.t 29) (.c (.bool false))) <| m 31 30 <| .grd 31 true [i 32 (.fieldA 3 (.t 1)),
   i 33 (.load1 (.t 32)),
   i 34 (.cmp .geq .i64 (.t 33) (.c (.int .i64 1)))] <| o 35 (.pick (.t 31) (.t 34) (.c (.bool false))) <| m 36 35 <| .grd 36 true [i 37 (.fieldA 3 (.t 1)),
   i 38 (.load1 (.t 37)),
   i 39 (.cmp .leq .i64 (.t 38) (.c (.int .i64 16)))] <| o 40 (.pick (.t 36) (.t 39) (.c (.bool false))) <| m 41 40 <| .grd 41 true [i 42 (.fieldA 4 (.t 1)),
   i 43 (.load1 (.t 42)),
   i 44 (.cmp .geq .i64 (.t 43) (.c (.int .i64 1)))] <| o 45 (.pick (.t 41) (.t 44) (.c (.bool false))) <| m 46 45 <| .grd 46 true [i 47 (.fieldA 4 (.t 1)),
   i 48 (.load1 (.t 47)),
   i 49 (.cmp .leq .i64 (.t 48) (.c (.int .i64 1048576)))] <| o 50 (.pick (.t 46) (.t 49) (.c (.bool false))) <| m 51 50 <| .grd 51 true [i 52 (.fieldA 5 (.t 1)),
   i 53 (.load1 (.t 52)),
   i 54 (.cmp .geq .i64 (.t 53) (.c (.int .i64 0)))] <| o 55 (.pick (.t 51) (.t 54) (.c (.bool false))) <| m 56 55 <| .grd 56 true [i 57 (.fieldA 5 (.t 1)),
   i 58 (.load1 (.t 57)),
   i 59 (.cmp .leq .i64 (.t 58) (.c (.int .i64 64)))] <| o 60 (.pick (.t 56) (.t 59) (.c (.bool false))) <| m 2 60 <| .nil)) (
   .ret))

def withyref06_Right_hs : List (List Nat × List Nat) := []

end Wm.F
end

section
/- PRINTED by my tool (wip/wm/tool/Gen.lean): a function as one of my machine. -/
namespace Wm.F
open Wm
set_option maxRecDepth 100000

def withyref06_Words_c11 : ACode :=
  .seq (.seq (.ops (
   m 70 9 <| ln 71 6 1 <| o 72 (.call 149 [(.t 71)]) <| o 73 (.cmp .lss .i64 (.t 70) (.t 72)) <| .nil)) (
  .cond (.t 73) (.skip) (.exit 10))) (
  .seq (.block 11 (.ops (
   m 76 3 <| m 77 8 <| m 78 9 <|
   .op ⟨(some 79), .build [(.str ⟨⟨[]⟩⟩), (.int .i64 0), (.int .i64 0)] [(0, 1, (.c (.str ⟨⟨[98, 111, 100, 121]⟩⟩))), (1, 1, (.t 77)), (2, 1, (.t 78))], []⟩ <|
   .op ⟨(some 80), .buildSl 3 1 [(.str ⟨⟨[]⟩⟩), (.int .i64 0), (.int .i64 0)] [(0, 3, (.t 79))], []⟩ <| o 81 (.append 3 32 (.t 76) (.t 80)) <| m 3 81 <| .nil))) (
  .ops (
   m 74 9 <| o 75 (.arith .add .i64 (.t 74) (.c (.int .i64 1))) <| m 9 75 <| .nil)))

def withyref06_Words_c10 : ACode :=
  .ops (
   m 61 8 <| o 62 (.arith .add .i64 (.t 61) (.c (.int .i64 1))) <| m 8 62 <| .nil)

def withyref06_Words_c9 : ACode :=
  .seq (.seq (.ops (
   m 57 8 <| d 58 0 1 <| l 59 58 <| o 60 (.cmp .lss .i64 (.t 57) (.t 59)) <| .nil)) (
  .cond (.t 60) (.skip) (.exit 8))) (
  .seq (.block 9 (.seq (.ops (
   m 63 3 <| m 64 8 <|
   .op ⟨(some 65), .build [(.str ⟨⟨[]⟩⟩), (.int .i64 0), (.int .i64 0)] [(0, 1, (.c (.str ⟨⟨[104, 101, 97, 100, 101, 114]⟩⟩))), (1, 1, (.t 64)), (2, 1, (.c (.int .i64 0)))], []⟩ <| m 66 8 <| .op ⟨(some 67), .build [(.str ⟨⟨[]⟩⟩), (.int .i64 0), (.int .i64 0)] [(0, 1, (.c (.str ⟨⟨[108, 105, 110, 107]⟩⟩))), (1, 1, (.t 66)), (2, 1, (.c (.int .i64 0)))], []⟩ <| .op ⟨(some 68), .buildSl 3 2 [(.str ⟨⟨[]⟩⟩), (.int .i64 0), (.int .i64 0)] [(0, 3, (.t 65)), (3, 3, (.t 67))], []⟩ <| o 69 (.append 3 32 (.t 63) (.t 68)) <| m 3 69 <| .nil)) (
  .seq (.ops (
   o 9 (.mov (.c (.int .i64 0))) <| .nil)) (
  .block 10 (.loop [1, 3, 8, 9] [1, 3, 8] (withyref06_Words_c11)))))) (
  withyref06_Words_c10))

def withyref06_Words_c8 : ACode :=
  .seq (.ops (
   m 82 3 <| m 2 82 <| .nil)) (
  .ret)

def withyref06_Words_c7 : ACode :=
  .seq (.seq (.ops (
   m 44 7 <| d 45 2 1 <| l 46 45 <| o 47 (.cmp .lss .i64 (.t 44) (.t 46)) <| .nil)) (
  .cond (.t 47) (.skip) (.exit 6))) (
  .seq (.block 7 (.ops (
   m 50 3 <| m 51 7 <|
   .op ⟨(some 52), .build [(.str ⟨⟨[]⟩⟩), (.int .i64 0), (.int .i64 0)] [(0, 1, (.c (.str ⟨⟨[118, 105, 101, 119]⟩⟩))), (1, 1, (.t 51)), (2, 1, (.c (.int .i64 0)))], []⟩ <|
   m 53 7 <|
   .op ⟨(some 54), .build [(.str ⟨⟨[]⟩⟩), (.int .i64 0), (.int .i64 0)] [(0, 1, (.c (.str ⟨⟨[115, 116, 97, 114, 116]⟩⟩))), (1, 1, (.t 53)), (2, 1, (.c (.int .i64 0)))], []⟩ <|
   .op ⟨(some 55), .buildSl 3 2 [(.str ⟨⟨[]⟩⟩), (.int .i64 0), (.int .i64 0)] [(0, 3, (.t 52)), (3, 3, (.t 54))], []⟩ <| o 56 (.append 3 32 (.t 50) (.t 55)) <| m 3 56 <| .nil))) (
  .ops (
   m 48 7 <| o 49 (.arith .add .i64 (.t 48) (.c (.int .i64 1))) <| m 7 49 <| .nil)))

def withyref06_Words_c6 : ACode :=
  .seq (.seq (.ops (
   o 8 (.mov (.c (.int .i64 0))) <| .nil)) (
  .block 8 (.loop [1, 3, 8] [3] (withyref06_Words_c9)))) (
  withyref06_Words_c8)

def withyref06_Words_c5 : ACode :=
  .seq (.seq (.ops (
   m 32 6 <| d 33 3 1 <| l 34 33 <| o 35 (.cmp .lss .i64 (.t 32) (.t 34)) <| .nil)) (
  .cond (.t 35) (.skip) (.exit 4))) (
  .seq (.block 5 (.ops (
   m 38 3 <| m 39 5 <| m 40 6 <|
   .op ⟨(some 41), .build [(.str ⟨⟨[]⟩⟩), (.int .i64 0), (.int .i64 0)] [(0, 1, (.c (.str ⟨⟨[101, 110, 116, 114, 121]⟩⟩))), (1, 1, (.t 39)), (2, 1, (.t 40))], []⟩ <|
   .op ⟨(some 42), .buildSl 3 1 [(.str ⟨⟨[]⟩⟩), (.int .i64 0), (.int .i64 0)] [(0, 3, (.t 41))], []⟩ <| o 43 (.append 3 32 (.t 38) (.t 42)) <| m 3 43 <| .nil))) (
  .ops (
   m 36 6 <| o 37 (.arith .add .i64 (.t 36) (.c (.int .i64 1))) <| m 6 37 <| .nil)))

def withyref06_Words_c4 : ACode :=
  .ops (
   m 30 5 <| o 31 (.arith .add .i64 (.t 30) (.c (.int .i64 1))) <| m 5 31 <| .nil)

def withyref06_Words_c3 : ACode :=
  .seq (.seq (.ops (
   m 26 5 <| d 27 2 1 <| l 28 27 <| o 29 (.cmp .lss .i64 (.t 26) (.t 28)) <| .nil)) (
  .cond (.t 29) (.skip) (.exit 2))) (
  .seq (.block 3 (.seq (.ops (
   o 6 (.mov (.c (.int .i64 0))) <| .nil)) (
  .block 4 (.loop [1, 3, 5, 6] [1, 3, 5] (withyref06_Words_c5))))) (
  withyref06_Words_c4))

def withyref06_Words_c2 : ACode :=
  .seq (.seq (.ops (
   o 7 (.mov (.c (.int .i64 0))) <| .nil)) (
  .block 6 (.loop [1, 3, 7] [1, 3] (withyref06_Words_c7)))) (
  withyref06_Words_c6)

def withyref06_Words_c1 : ACode :=
  .seq (.seq (.ops (
   m 15 4 <| d 16 2 1 <| l 17 16 <| o 18 (.cmp .lss .i64 (.t 15) (.t 17)) <| .nil)) (
  .cond (.t 18) (.skip) (.exit 0))) (
  .seq (.block 1 (.ops (
   m 21 3 <| m 22 4 <|
   .op ⟨(some 23), .build [(.str ⟨⟨[]⟩⟩), (.int .i64 0), (.int .i64 0)] [(0, 1, (.c (.str ⟨⟨[112, 105, 110]⟩⟩))), (1, 1, (.t 22)), (2, 1, (.c (.int .i64 0)))], []⟩ <|
   .op ⟨(some 24), .buildSl 3 1 [(.str ⟨⟨[]⟩⟩), (.int .i64 0), (.int .i64 0)] [(0, 3, (.t 23))], []⟩ <| o 25 (.append 3 32 (.t 21) (.t 24)) <| m 3 25 <| .nil))) (
  .ops (
   m 19 4 <| o 20 (.arith .add .i64 (.t 19) (.c (.int .i64 1))) <| m 4 20 <| .nil)))

def withyref06_Words_c0 : ACode :=
  .seq (.seq (.ops (
   o 5 (.mov (.c (.int .i64 0))) <| .nil)) (
  .block 2 (.loop [1, 3, 5] [1, 3] (withyref06_Words_c3)))) (
  withyref06_Words_c2)

/-- 87: withy/withyref06.Words -/
def withyref06_Words : AFunc where
  closed := false
  nparams := 1
  ntmps := 83
  results := [.tmp 2]
  body := .seq (.ops (
   o 1 (.box (.t 0)) <| o 2 (.mov (.c .nilsl)) <| .nil)) (
   .seq (.ops (
   .op ⟨(some 10), .build [(.str ⟨⟨[]⟩⟩), (.int .i64 0), (.int .i64 0)] [(0, 1, (.c (.str ⟨⟨[99, 108, 111, 99, 107]⟩⟩)))], []⟩ <|
   .op ⟨(some 11), .build [(.str ⟨⟨[]⟩⟩), (.int .i64 0), (.int .i64 0)] [(0, 1, (.c (.str ⟨⟨[101, 112, 111, 99, 104]⟩⟩)))], []⟩ <|
   .op ⟨(some 12), .build [(.str ⟨⟨[]⟩⟩), (.int .i64 0), (.int .i64 0)] [(0, 1, (.c (.str ⟨⟨[103, 114, 97, 121, 115]⟩⟩)))], []⟩ <|
   .op ⟨(some 13), .build [(.str ⟨⟨[]⟩⟩), (.int .i64 0), (.int .i64 0)] [(0, 1, (.c (.str ⟨⟨[116, 111, 112]⟩⟩)))], []⟩ <|
   .op ⟨(some 14), .buildSl 3 4 [(.str ⟨⟨[]⟩⟩), (.int .i64 0), (.int .i64 0)] [(0, 3, (.t 10)), (3, 3, (.t 11)), (6, 3, (.t 12)), (9, 3, (.t 13))], []⟩ <| m 3 14 <| .nil)) (
   .seq (.seq (.ops (
   o 4 (.mov (.c (.int .i64 0))) <| .nil)) (
   .block 0 (.loop [1, 3, 4] [1, 3] (withyref06_Words_c1)))) (
   withyref06_Words_c0)))

def withyref06_Words_hs : List (List Nat × List Nat) := [([1, 3, 4], [1, 3]), ([1, 3, 5], [1, 3]), ([1, 3, 5, 6], [1, 3, 5]), ([1, 3, 7], [1, 3]), ([1, 3, 8], [3]), ([1, 3, 8, 9], [1, 3, 8])]

end Wm.F
end

section
/- PRINTED by my tool (wip/wm/tool/Gen.lean): a function as one of my machine. -/
namespace Wm.F
open Wm
set_option maxRecDepth 100000

/-- 109: withy/withyref04.Unpack -/
def withyref04_Unpack : AFunc where
  closed := true
  nparams := 1
  ntmps := 39
  results := [.cell true 6 2, .tmp 3]
  body := .seq (.ops (
   o 2 (.alloc [(.int .i64 0), (.int .i64 0), (.bool false), (.int .i64 0), (.int .i64 0), (.int .i64 0)]) <| o 3 (.mov (.c (.bool false))) <| .nil)) (
   .seq (.ops (
   m 5 0 <| o 6 (.arith .rem .u64 (.t 5) (.c (.int .u64 8))) <| o 7 (.conv .i64 (.t 6)) <| m 8 0 <| o 9 (.arith .quo .u64 (.t 8) (.c (.int .u64 8))) <|
   o 10 (.arith .rem .u64 (.t 9) (.c (.int .u64 2))) <| o 11 (.conv .i64 (.t 10)) <| m 12 0 <| o 13 (.arith .quo .u64 (.t 12) (.c (.int .u64 16))) <|
   o 14 (.arith .rem .u64 (.t 13) (.c (.int .u64 2))) <| o 15 (.cmp .eql .u64 (.t 14) (.c (.int .u64 1))) <| m 16 0 <| o 17 (.arith .quo .u64 (.t 16) (.c (.int .u64 32))) <|
   o 18 (.arith .rem .u64 (.t 17) (.c (.int .u64 16))) <| o 19 (.conv .i64 (.t 18)) <| m 20 0 <| o 21 (.arith .quo .u64 (.t 20) (.c (.int .u64 65536))) <|
   o 22 (.arith .rem .u64 (.t 21) (.c (.int .u64 4294967296))) <| o 23 (.conv .i64 (.t 22)) <| m 24 0 <| o 25 (.arith .quo .u64 (.t 24) (.c (.int .u64 281474976710656))) <|
   o 26 (.conv .i64 (.t 25)) <|
   o 27 (.build [(.int .i64 0), (.int .i64 0), (.bool false), (.int .i64 0), (.int .i64 0), (.int .i64 0)] [(0, 1, (.t 7)), (1, 1, (.t 11)), (2, 1, (.t 15)), (3, 1, (.t 19)), (4, 1, (.t 23)), (5, 1, (.t 26))]) <| o 4 (.alloc [(.int .i64 0), (.int .i64 0), (.bool false), (.int .i64 0), (.int .i64 0), (.int .i64 0)]) <| u (.store 6 (.t 4) (.t 27)) <| .nil)) (
   .seq (.seq (.ops (
   d 28 0 4 <| l 29 28 <| o 30 (.cmp .gtr .i64 (.t 29) (.c (.int .i64 4))) <| m 31 30 <| .grd 31 false [i 32 (.mov (.t 0)),
   i 33 (.arith .quo .u64 (.t 32) (.c (.int .u64 512))),
   i 34 (.arith .rem .u64 (.t 33) (.c (.int .u64 128))),
   i 35 (.cmp .neq .u64 (.t 34) (.c (.int .u64 0)))] <| o 36 (.pick (.t 31) (.c (.bool true)) (.t 35)) <| .nil)) (
   .cond (.t 36) (.seq (.ops (
   o 37 (.build [(.int .i64 0), (.int .i64 0), (.bool false), (.int .i64 0), (.int .i64 0), (.int .i64 0)] []) <| u (.store 6 (.t 2) (.t 37)) <| o 3 (.mov (.c (.bool false))) <|
   .nil)) (
   .ret)) (.skip))) (
   .seq (.ops (
   ln 38 6 4 <| u (.store 6 (.t 2) (.t 38)) <| o 3 (.mov (.c (.bool true))) <| .nil)) (
   .ret))))

def withyref04_Unpack_hs : List (List Nat × List Nat) := []

end Wm.F
end

section
/- PRINTED by my tool (wip/wm/tool/Gen.lean): a function as one of my machine. -/
namespace Wm.F
open Wm
set_option maxRecDepth 100000

/-- 112: withy/withyref04.Lives -/
def withyref04_Lives : AFunc where
  closed := true
  nparams := 1
  ntmps := 21
  results := [.tmp 2]
  body := .seq (.ops (
   o 2 (.mov (.c (.bool false))) <| .nil)) (
   .seq (.ops (
   m 6 0 <| o 7 (.call 109 [(.t 6)]) <| m 5 7 <| o 8 (.extract (.t 5) 0) <| o 9 (.extract (.t 5) 1) <|
   o 3 (.alloc [(.int .i64 0), (.int .i64 0), (.bool false), (.int .i64 0), (.int .i64 0), (.int .i64 0)]) <| u (.store 6 (.t 3) (.t 8)) <| m 4 9 <| .nil)) (
   .seq (.ops (
   m 10 4 <| m 11 10 <| .grd 11 true [i 12 (.fieldA 0 (.t 3)),
   i 13 (.load1 (.t 12)),
   i 14 (.cmp .eql .i64 (.t 13) (.c (.int .i64 1))),
   i 15 (.mov (.t 14))] <| .grd 15 false [i 16 (.fieldA 0 (.t 3)),
   i 17 (.load1 (.t 16)),
   i 18 (.cmp .eql .i64 (.t 17) (.c (.int .i64 2)))] <| .grd 11 true [i 19 (.pick (.t 15) (.c (.bool true)) (.t 18))] <| o 20 (.pick (.t 11) (.t 19) (.c (.bool false))) <|
   m 2 20 <| .nil)) (
   .ret)))

def withyref04_Lives_hs : List (List Nat × List Nat) := []

end Wm.F
end

section
/- PRINTED by my tool (wip/wm/tool/Gen.lean): a function as one of my machine. -/
namespace Wm.F
open Wm
set_option maxRecDepth 100000

/-- 113: withy/withyref04.Marked -/
def withyref04_Marked : AFunc where
  closed := true
  nparams := 2
  ntmps := 21
  results := [.tmp 4]
  body := .seq (.ops (
   o 4 (.mov (.c (.bool false))) <| .nil)) (
   .seq (.ops (
   m 8 0 <| o 9 (.call 109 [(.t 8)]) <| m 7 9 <| o 10 (.extract (.t 7) 0) <| o 11 (.extract (.t 7) 1) <|
   o 5 (.alloc [(.int .i64 0), (.int .i64 0), (.bool false), (.int .i64 0), (.int .i64 0), (.int .i64 0)]) <| u (.store 6 (.t 5) (.t 10)) <| m 6 11 <| .nil)) (
   .seq (.ops (
   m 12 0 <| o 13 (.call 112 [(.t 12)]) <| m 14 13 <| .grd 14 true [i 15 (.fieldA 1 (.t 5)),
   i 16 (.load1 (.t 15)),
   i 17 (.mov (.t 1)),
   ⟨(some 18), .call 110 [(.t 17)], [{ g := (some (14, true)), op := .load1 (.t 15), d := 16 }]⟩,
   i 19 (.cmp .eql .i64 (.t 16) (.t 18))] <| o 20 (.pick (.t 14) (.t 19) (.c (.bool false))) <| m 4 20 <| .nil)) (
   .ret)))

def withyref04_Marked_hs : List (List Nat × List Nat) := []

end Wm.F
end

section
/- PRINTED by my tool (wip/wm/tool/Gen.lean): a function as one of my machine. -/
namespace Wm.F
open Wm
set_option maxRecDepth 100000

/-- 322: withy/withyref13.at -/
def withyref13_at : AFunc where
  closed := false
  nparams := 5
  ntmps := 24
  results := [.tmp 10]
  body := .seq (.ops (
   o 5 (.box (.t 0)) <| o 10 (.mov (.c (.int .u64 0))) <| .nil)) (
   .seq (.ops (
   ln 12 6 5 <| m 13 2 <| m 14 3 <| m 15 4 <| .op ⟨(some 16), .build [(.str ⟨⟨[]⟩⟩), (.int .i64 0), (.int .i64 0)] [(0, 1, (.t 13)), (1, 1, (.t 14)), (2, 1, (.t 15))], []⟩ <|
   o 17 (.call 108 [(.t 12), (.t 16)]) <| m 11 17 <| .nil)) (
   .seq (.seq (.ops (
   m 18 11 <| o 19 (.cmp .lss .i64 (.t 18) (.c (.int .i64 0))) <| .nil)) (
   .cond (.t 19) (.seq (.ops (
   o 10 (.mov (.c (.int .u64 0))) <| .nil)) (
   .ret)) (.skip))) (
   .seq (.ops (
   m 20 1 <| m 21 11 <| o 22 (.indexA 1 (.t 20) (.t 21)) <| l 23 22 <| m 10 23 <| .nil)) (
   .ret))))

def withyref13_at_hs : List (List Nat × List Nat) := []

end Wm.F
end

section
/- PRINTED by my tool (wip/wm/tool/Gen.lean): a function as one of my machine. -/
namespace Wm.F
open Wm
set_option maxRecDepth 100000

def withyref13_Roots_c4 : ACode :=
  .seq (.seq (.ops (
   m 16 7 <| d 17 3 2 <| l 18 17 <| o 19 (.cmp .lss .i64 (.t 16) (.t 18)) <| .nil)) (
  .cond (.t 19) (.skip) (.exit 2))) (
  .seq (.block 3 (.seq (.ops (
   ln 22 6 2 <| ln 23 6 2 <| m 24 1 <| m 25 6 <| m 26 7 <|
   .op ⟨(some 27), .call 322 [(.t 23), (.t 24), (.c (.str ⟨⟨[101, 110, 116, 114, 121]⟩⟩)), (.t 25), (.t 26)], [{ g := none, op := .loadN 6 (.t 2), d := 22 }]⟩ <|
   o 28 (.arith .rem .u64 (.t 27) (.c (.int .u64 4294967296))) <| o 29 (.call 398 [(.t 22), (.t 28)]) <| m 8 29 <| .nil)) (
  .seq (.ops (
   m 30 8 <| o 31 (.cmp .geq .i64 (.t 30) (.c (.int .i64 0))) <| .nil)) (
  .cond (.t 31) (.ops (
   m 32 5 <| m 33 8 <| o 34 (.buildSl 1 1 [(.int .i64 0)] [(0, 1, (.t 33))]) <| o 35 (.append 1 8 (.t 32) (.t 34)) <| m 5 35 <| .nil)) (.skip))))) (
  .ops (
   m 20 7 <| o 21 (.arith .add .i64 (.t 20) (.c (.int .i64 1))) <| m 7 21 <| .nil)))

def withyref13_Roots_c3 : ACode :=
  .seq (.ops (
   ln 36 6 2 <| ln 37 6 2 <| m 38 1 <| m 39 6 <|
   .op ⟨(some 40), .call 322 [(.t 37), (.t 38), (.c (.str ⟨⟨[115, 116, 97, 114, 116]⟩⟩)), (.t 39), (.c (.int .i64 0))], [{ g := none, op := .loadN 6 (.t 2), d := 36 }]⟩ <|
   o 41 (.call 398 [(.t 36), (.t 40)]) <| m 9 41 <| .nil)) (
  .seq (.ops (
   m 42 9 <| o 43 (.cmp .geq .i64 (.t 42) (.c (.int .i64 0))) <| .nil)) (
  .cond (.t 43) (.ops (
   m 44 5 <| m 45 9 <| o 46 (.buildSl 1 1 [(.int .i64 0)] [(0, 1, (.t 45))]) <| o 47 (.append 1 8 (.t 44) (.t 46)) <| m 5 47 <| .nil)) (.skip)))

def withyref13_Roots_c2 : ACode :=
  .ops (
   m 14 6 <| o 15 (.arith .add .i64 (.t 14) (.c (.int .i64 1))) <| m 6 15 <| .nil)

def withyref13_Roots_c1 : ACode :=
  .seq (.seq (.ops (
   m 10 6 <| d 11 2 2 <| l 12 11 <| o 13 (.cmp .lss .i64 (.t 10) (.t 12)) <| .nil)) (
  .cond (.t 13) (.skip) (.exit 0))) (
  .seq (.block 1 (.seq (.seq (.ops (
   o 7 (.mov (.c (.int .i64 0))) <| .nil)) (
  .block 2 (.loop [1, 2, 5, 6, 7] [1, 2, 5, 6] (withyref13_Roots_c4)))) (
  withyref13_Roots_c3))) (
  withyref13_Roots_c2))

def withyref13_Roots_c0 : ACode :=
  .seq (.ops (
   m 48 5 <| m 4 48 <| .nil)) (
  .ret)

/-- 323: withy/withyref13.Roots -/
def withyref13_Roots : AFunc where
  closed := false
  nparams := 2
  ntmps := 49
  results := [.tmp 4]
  body := .seq (.ops (
   o 2 (.box (.t 0)) <| o 4 (.mov (.c .nilsl)) <| .nil)) (
   .seq (.ops (
   o 5 (.mov (.c .nilsl)) <| .nil)) (
   .seq (.seq (.ops (
   o 6 (.mov (.c (.int .i64 0))) <| .nil)) (
   .block 0 (.loop [1, 2, 5, 6] [5] (withyref13_Roots_c1)))) (
   withyref13_Roots_c0)))

def withyref13_Roots_hs : List (List Nat × List Nat) := [([1, 2, 5, 6], [5]), ([1, 2, 5, 6, 7], [1, 2, 5, 6])]

end Wm.F
end

section
/- PRINTED by my tool (wip/wm/tool/Gen.lean): a function as one of my machine. -/
namespace Wm.F
open Wm
set_option maxRecDepth 100000

def withyref13_Names_c1 : ACode :=
  .seq (.seq (.ops (
   m 21 10 <| o 22 (.cmp .lss .i64 (.t 21) (.c (.int .i64 15))) <| .nil)) (
  .cond (.t 22) (.skip) (.exit 0))) (
  .seq (.block 1 (.seq (.ops (
   d 25 0 7 <| l 26 25 <| o 27 (.cmp .eql .i64 (.t 26) (.c (.int .i64 1))) <| m 28 27 <| .grd 28 true [i 29 (.mov (.t 10)),
   i 30 (.fieldA 3 (.t 7)),
   i 31 (.load1 (.t 30)),
   i 32 (.cmp .lss .i64 (.t 29) (.t 31))] <| o 33 (.pick (.t 28) (.t 32) (.c (.bool false))) <| m 34 33 <| .grd 34 false [i 35 (.fieldA 0 (.t 7)),
   i 36 (.load1 (.t 35)),
   i 37 (.cmp .eql .i64 (.t 36) (.c (.int .i64 2))),
   i 38 (.mov (.t 37))] <| .grd 38 true [i 39 (.mov (.t 10)),
   i 40 (.cmp .eql .i64 (.t 39) (.c (.int .i64 0))),
   i 41 (.mov (.t 40))] <| .grd 41 false [i 42 (.mov (.t 10)),
   i 43 (.cmp .eql .i64 (.t 42) (.c (.int .i64 2)))] <| .grd 38 true [i 44 (.pick (.t 41) (.c (.bool true)) (.t 43))] <|
   .grd 34 false [i 45 (.pick (.t 38) (.t 44) (.c (.bool false)))] <| o 46 (.pick (.t 34) (.c (.bool true)) (.t 45)) <| m 11 46 <| .nil)) (
  .seq (.ops (
   ln 47 6 3 <| ln 48 6 3 <| m 49 1 <| m 50 2 <| m 51 10 <|
   .op ⟨(some 52), .call 322 [(.t 48), (.t 49), (.c (.str ⟨⟨[98, 111, 100, 121]⟩⟩)), (.t 50), (.t 51)], [{ g := none, op := .loadN 6 (.t 3), d := 47 }]⟩ <|
   o 53 (.call 398 [(.t 47), (.t 52)]) <| m 12 53 <| .nil)) (
  .seq (.ops (
   m 54 11 <| m 55 54 <| .grd 55 true [i 56 (.mov (.t 12)),
   i 57 (.cmp .geq .i64 (.t 56) (.c (.int .i64 0)))] <| o 58 (.pick (.t 55) (.t 57) (.c (.bool false))) <| .nil)) (
  .cond (.t 58) (.ops (
   m 59 9 <| m 60 12 <| o 61 (.buildSl 1 1 [(.int .i64 0)] [(0, 1, (.t 60))]) <| o 62 (.append 1 8 (.t 59) (.t 61)) <| m 9 62 <| .nil)) (.skip)))))) (
  .ops (
   m 23 10 <| o 24 (.arith .add .i64 (.t 23) (.c (.int .i64 1))) <| m 10 24 <| .nil)))

def withyref13_Names_c0 : ACode :=
  .seq (.ops (
   m 63 9 <| m 6 63 <| .nil)) (
  .ret)

/-- 324: withy/withyref13.Names -/
def withyref13_Names : AFunc where
  closed := false
  nparams := 3
  ntmps := 64
  results := [.tmp 6]
  body := .seq (.ops (
   o 3 (.box (.t 0)) <| o 6 (.mov (.c .nilsl)) <| .nil)) (
   .seq (.ops (
   ln 14 6 3 <| m 15 1 <| m 16 2 <| .op ⟨(some 17), .call 322 [(.t 14), (.t 15), (.c (.str ⟨⟨[104, 101, 97, 100, 101, 114]⟩⟩)), (.t 16), (.c (.int .i64 0))], []⟩ <|
   o 18 (.call 109 [(.t 17)]) <| m 13 18 <| o 19 (.extract (.t 13) 0) <| o 20 (.extract (.t 13) 1) <|
   o 7 (.alloc [(.int .i64 0), (.int .i64 0), (.bool false), (.int .i64 0), (.int .i64 0), (.int .i64 0)]) <| u (.store 6 (.t 7) (.t 19)) <| m 8 20 <| .nil)) (
   .seq (.ops (
   o 9 (.mov (.c .nilsl)) <| .nil)) (
   .seq (.seq (.ops (
   o 10 (.mov (.c (.int .i64 0))) <| .nil)) (
   .block 0 (.loop [1, 2, 3, 7, 9, 10] [9] (withyref13_Names_c1)))) (
   withyref13_Names_c0))))

def withyref13_Names_hs : List (List Nat × List Nat) := [([1, 2, 3, 7, 9, 10], [9])]

end Wm.F
end

section
/- PRINTED by my tool (wip/wm/tool/Gen.lean): a function as one of my machine. -/
namespace Wm.F
open Wm
set_option maxRecDepth 100000

/-- 110: withy/withyref03.Black -/
def withyref03_Black : AFunc where
  closed := true
  nparams := 1
  ntmps := 7
  results := [.tmp 2]
  body := .seq (.ops (
   o 2 (.mov (.c (.int .i64 0))) <| .nil)) (
   .seq (.seq (.ops (
   m 3 0 <| o 4 (.arith .quo .u64 (.t 3) (.c (.int .u64 4))) <| o 5 (.arith .rem .u64 (.t 4) (.c (.int .u64 2))) <| o 6 (.cmp .eql .u64 (.t 5) (.c (.int .u64 0))) <| .nil)) (
   .cond (.t 6) (.seq (.ops (
   o 2 (.mov (.c (.int .i64 1))) <| .nil)) (
   .ret)) (.skip))) (
   .seq (.ops (
   o 2 (.mov (.c (.int .i64 0))) <| .nil)) (
   .ret)))

def withyref03_Black_hs : List (List Nat × List Nat) := []

end Wm.F
end

section
/- PRINTED by my tool (wip/wm/tool/Gen.lean): a function as one of my machine. -/
namespace Wm.F
open Wm
set_option maxRecDepth 100000

/-- 271: slices.Clone[[]uint64,uint64] -/
def slices_Clone___uint64_uint64_ : AFunc where
  closed := false
  nparams := 1
  ntmps := 8
  results := [.tmp 2]
  body := .seq (.ops (
   o 2 (.mov (.c .nilsl)) <| .nil)) (
   .seq (.seq (.ops (
   m 3 0 <| o 4 (.eq false .sl (.t 3) (.c .nilsl)) <| .nil)) (
   .cond (.t 4) (.seq (.ops (
   o 2 (.mov (.c .nilsl)) <| .nil)) (
   .ret)) (.skip))) (
   .seq (.ops (
   o 5 (.buildSl 1 0 [(.int .u64 0)] []) <| m 6 0 <| o 7 (.append 1 8 (.t 5) (.t 6)) <| m 2 7 <| .nil)) (
   .ret)))

def slices_Clone___uint64_uint64__hs : List (List Nat × List Nat) := []

end Wm.F
end

section
/- PRINTED by my tool (wip/wm/tool/Gen.lean): a function as one of my machine. -/
namespace Wm.F
open Wm
set_option maxRecDepth 100000

/-- 107: (*withy/mem.Mem).Touches -/
def mem_Mem_Touches : AFunc where
  closed := false
  nparams := 1
  ntmps := 9
  results := [.tmp 2]
  body := .seq (.ops (
   o 2 (.mov (.c (.int .i64 0))) <| .nil)) (
   .seq (.seq (.ops (
   m 3 0 <| o 4 (.eq false .ptr (.t 3) (.c .nilp)) <| .nil)) (
   .cond (.t 4) (.seq (.ops (
   o 2 (.mov (.c (.int .i64 0))) <| .nil)) (
   .ret)) (.skip))) (
   .seq (.ops (
   m 5 0 <| n 6 5 <| d 7 1 6 <| l 8 7 <| m 2 8 <| .nil)) (
   .ret)))

def mem_Mem_Touches_hs : List (List Nat × List Nat) := []

end Wm.F
end

section
/- PRINTED by my tool (wip/wm/tool/Gen.lean): a function as one of my machine. -/
namespace Wm.F
open Wm
set_option maxRecDepth 100000

/-- 159: (*withy/mark.Mark).Step -/
def mark_Mark_Step : AFunc where
  closed := false
  nparams := 2
  ntmps := 89
  results := [.tmp 4]
  body := .seq (.ops (
   o 4 (.mov (.c (.bool false))) <| .nil)) (
   .seq (.block 0 (.seq (.ops (
   m 9 0 <| o 10 (.eq false .ptr (.t 9) (.c .nilp)) <| m 8 10 <| .nil)) (
   .cond (.t 8) (.seq (.ops (
   o 4 (.mov (.c (.bool true))) <| .nil)) (
   .ret)) (.seq (.ops (
   m 12 0 <| n 13 12 <| d 14 19 13 <| l 15 14 <| o 16 (.eq true .ptr (.t 15) (.c .nilp)) <| m 11 16 <| .nil)) (
   .cond (.t 11) (.seq (.seq (.ops (
   m 17 0 <| n 18 17 <| d 19 19 18 <| l 20 19 <| m 21 1 <| o 22 (.call 91 [(.t 20), (.t 21)]) <| .nil)) (
   .cond (.t 22) (.seq (.seq (.ops (
   m 23 0 <| n 24 23 <| d 25 19 24 <| l 26 25 <| n 27 26 <| d 28 0 27 <| l 29 28 <| m 30 29 <| .grd 30 true [i 31 (.mov (.t 0)),
   i 32 (.nilc (.t 31)),
   i 33 (.fieldA 18 (.t 32)),
   i 34 (.load1 (.t 33)),
   i 35 (.lenSl (.t 34)),
   i 36 (.mov (.t 0)),
   i 37 (.nilc (.t 36)),
   i 38 (.fieldA 2 (.t 37)),
   i 39 (.fieldA 5 (.t 38)),
   i 40 (.load1 (.t 39)),
   i 41 (.cmp .lss .i64 (.t 35) (.t 40))] <| o 42 (.pick (.t 30) (.t 41) (.c (.bool false))) <| .nil)) (
   .cond (.t 42) (.ops (
   m 43 0 <| m 44 0 <| n 45 44 <| d 46 18 45 <| l 47 46 <| m 48 0 <| n 49 48 <| d 50 20 49 <| l 51 50 <| o 52 (.buildSl 1 1 [(.int .i64 0)] [(0, 1, (.t 51))]) <|
   o 53 (.append 1 8 (.t 47) (.t 52)) <| n 54 43 <| d 55 18 54 <| u (.store 1 (.t 55) (.t 53)) <| .nil)) (.skip))) (
   .ops (
   m 56 0 <| n 57 56 <| d 58 19 57 <| u (.store 1 (.t 58) (.c .nilp)) <| .nil))) (.skip))) (
   .seq (.ops (
   o 4 (.mov (.c (.bool false))) <| .nil)) (
   .ret))) (.seq (.ops (
   m 60 0 <| n 61 60 <| d 62 9 61 <| l 63 62 <| o 64 (.cmp .lss .i64 (.t 63) (.c (.int .i64 4))) <| m 59 64 <| .nil)) (
   .cond (.t 59) (.ops (
   m 65 0 <| m 66 1 <| o 67 (.call 325 [(.t 65), (.t 66)]) <| .nil)) (.seq (.ops (
   m 69 0 <| n 70 69 <| d 71 9 70 <| l 72 71 <| o 73 (.cmp .lss .i64 (.t 72) (.c (.int .i64 6))) <| m 74 73 <| .grd 74 false [i 75 (.mov (.t 0)),
   i 76 (.nilc (.t 75)),
   i 77 (.fieldA 9 (.t 76)),
   i 78 (.load1 (.t 77)),
   i 79 (.cmp .eql .i64 (.t 78) (.c (.int .i64 14)))] <| o 80 (.pick (.t 74) (.c (.bool true)) (.t 79)) <| m 68 80 <| .nil)) (
   .cond (.t 68) (.ops (
   m 81 0 <| m 82 1 <| o 83 (.call 326 [(.t 81), (.t 82)]) <| .nil)) (.ops (
   m 5 0 <| m 6 1 <| o 7 (.call 327 [(.t 5), (.t 6)]) <| .nil))))))))))) (
   .seq (.ops (
   m 84 0 <| n 85 84 <| d 86 9 85 <| l 87 86 <| o 88 (.cmp .eql .i64 (.t 87) (.c (.int .i64 15))) <| m 4 88 <| .nil)) (
   .ret)))

def mark_Mark_Step_hs : List (List Nat × List Nat) := []

end Wm.F
end

section
/- PRINTED by my tool (wip/wm/tool/Gen.lean): a function as one of my machine. -/
namespace Wm.F
open Wm
set_option maxRecDepth 100000

/-- 375: withy/plan.within -/
def plan_within : AFunc where
  closed := true
  nparams := 3
  ntmps := 35
  results := [.tmp 6]
  body := .seq (.ops (
   o 3 (.box (.t 0)) <| o 6 (.mov (.c (.int .i64 0))) <| .nil)) (
   .seq (.seq (.ops (
   ln 7 6 3 <| o 8 (.call 263 [(.t 7)]) <| o 9 (.not (.t 8)) <| m 10 9 <| .grd 10 false [i 11 (.mov (.t 1)),
   i 12 (.fieldA 0 (.t 3)),
   i 13 (.load1 (.t 12)),
   i 14 (.arith .sub .i64 (.t 13) (.c (.int .i64 1))),
   i 15 (.call 376 [(.t 11), (.c (.int .i64 0)), (.t 14)]),
   i 16 (.not (.t 15))] <| o 17 (.pick (.t 10) (.c (.bool true)) (.t 16)) <| m 18 17 <| .grd 18 false [i 19 (.mov (.t 2)),
   i 20 (.loadN 6 (.t 3)),
   i 21 (.call 378 [(.t 20)]),
   i 22 (.arith .sub .i64 (.t 21) (.c (.int .i64 1))),
   i 23 (.call 376 [(.t 19), (.c (.int .i64 0)), (.t 22)]),
   i 24 (.not (.t 23))] <| o 25 (.pick (.t 18) (.c (.bool true)) (.t 24)) <| .nil)) (
   .cond (.t 25) (.seq (.ops (
   o 6 (.mov (.c (.int .i64 (-1)))) <| .nil)) (
   .ret)) (.skip))) (
   .seq (.ops (
   ln 26 6 3 <| m 28 1 <| ln 29 6 3 <| m 33 2 <| .op ⟨(some 27), .call 377 [(.t 26)], [{ g := none, op := .loadN 6 (.t 3), d := 29 }]⟩ <| o 30 (.call 378 [(.t 29)]) <|
   o 31 (.arith .mul .i64 (.t 28) (.t 30)) <| o 32 (.arith .add .i64 (.t 27) (.t 31)) <| o 34 (.arith .add .i64 (.t 32) (.t 33)) <| m 6 34 <| .nil)) (
   .ret)))

def plan_within_hs : List (List Nat × List Nat) := []

end Wm.F
end

section
/- PRINTED by my tool (wip/wm/tool/Gen.lean): a function as one of my machine. -/
namespace Wm.F
open Wm
set_option maxRecDepth 100000

/-- 376: withy/plan.between -/
def plan_between : AFunc where
  closed := true
  nparams := 3
  ntmps := 15
  results := [.tmp 6]
  body := .seq (.ops (
   o 6 (.mov (.c (.bool false))) <| .nil)) (
   .seq (.ops (
   m 7 0 <| m 8 1 <| o 9 (.cmp .geq .i64 (.t 7) (.t 8)) <| m 10 9 <| .grd 10 true [i 11 (.mov (.t 0)),
   i 12 (.mov (.t 2)),
   i 13 (.cmp .leq .i64 (.t 11) (.t 12))] <| o 14 (.pick (.t 10) (.t 13) (.c (.bool false))) <| m 6 14 <| .nil)) (
   .ret))

def plan_between_hs : List (List Nat × List Nat) := []

end Wm.F
end

section
/- PRINTED by my tool (wip/wm/tool/Gen.lean): a function as one of my machine. -/
namespace Wm.F
open Wm
set_option maxRecDepth 100000

/-- 377: withy/plan.slots -/
def plan_slots : AFunc where
  closed := true
  nparams := 1
  ntmps := 11
  results := [.tmp 2]
  body := .seq (.ops (
   o 1 (.box (.t 0)) <| o 2 (.mov (.c (.int .i64 0))) <| .nil)) (
   .seq (.ops (
   d 3 2 1 <| l 4 3 <| d 5 3 1 <| l 6 5 <| o 7 (.arith .add .i64 (.c (.int .i64 1)) (.t 6)) <| o 8 (.arith .add .i64 (.t 7) (.c (.int .i64 2))) <|
   o 9 (.arith .mul .i64 (.t 4) (.t 8)) <| o 10 (.arith .add .i64 (.c (.int .i64 4)) (.t 9)) <| m 2 10 <| .nil)) (
   .ret))

def plan_slots_hs : List (List Nat × List Nat) := []

end Wm.F
end

section
/- PRINTED by my tool (wip/wm/tool/Gen.lean): a function as one of my machine. -/
namespace Wm.F
open Wm
set_option maxRecDepth 100000

/-- 378: withy/plan.room -/
def plan_room : AFunc where
  closed := true
  nparams := 1
  ntmps := 7
  results := [.tmp 2]
  body := .seq (.ops (
   o 1 (.box (.t 0)) <| o 2 (.mov (.c (.int .i64 0))) <| .nil)) (
   .seq (.ops (
   d 3 1 1 <| l 4 3 <| o 5 (.minmax true .i64 (.t 4) (.c (.int .i64 3))) <| o 6 (.arith .add .i64 (.c (.int .i64 2)) (.t 5)) <| m 2 6 <| .nil)) (
   .ret))

def plan_room_hs : List (List Nat × List Nat) := []

end Wm.F
end

section
/- PRINTED by my tool (wip/wm/tool/Gen.lean): a function as one of my machine. -/
namespace Wm.F
open Wm
set_option maxRecDepth 100000

def word_Unpack_c1 : ACode :=
  .seq (.ops (
   o 13 (.cmp .lss .i64 (.t 12) (.t 11)) <| .nil)) (
  .seq (.cond (.t 13) (.skip) (.exit 0)) (
  .seq (.block 1 (.seq (.ops (
   o 14 (.indexA 1 (.t 10) (.t 12)) <| l 15 14 <| m 9 15 <| .nil)) (
  .seq (.seq (.ops (
   m 16 7 <| m 17 9 <| o 18 (.call 441 [(.t 16), (.t 17)]) <| o 19 (.not (.t 18)) <| .nil)) (
  .cond (.t 19) (.seq (.ops (
   o 4 (.mov (.c .nilsl)) <| o 5 (.mov (.c (.bool false))) <| .nil)) (
   .ret)) (.skip))) (
  .seq (.ops (
   m 20 6 <| m 21 0 <| m 22 7 <| m 23 9 <| o 24 (.call 396 [(.t 21), (.t 22), (.t 23)]) <| o 25 (.buildSl 1 1 [(.int .u64 0)] [(0, 1, (.t 24))]) <|
   o 26 (.append 1 8 (.t 20) (.t 25)) <| m 6 26 <| .nil)) (
  .ops (
   m 27 7 <| m 28 9 <| o 29 (.arith .add .i64 (.t 27) (.t 28)) <| m 7 29 <| .nil)))))) (
  .ops (
   o 30 (.arith .add .i64 (.t 12) (.c (.int .i64 1))) <| m 12 30 <| .nil))))

def word_Unpack_c0 : ACode :=
  .seq (.ops (
   m 31 6 <| m 4 31 <| o 5 (.mov (.c (.bool true))) <| .nil)) (
  .ret)

/-- 379: withy/word.Unpack -/
def word_Unpack : AFunc where
  closed := false
  nparams := 2
  ntmps := 32
  results := [.tmp 4, .tmp 5]
  body := .seq (.ops (
   o 4 (.mov (.c .nilsl)) <| o 5 (.mov (.c (.bool false))) <| .nil)) (
   .seq (.ops (
   o 6 (.mov (.c .nilsl)) <| .nil)) (
   .seq (.ops (
   o 7 (.mov (.c (.int .i64 0))) <| .nil)) (
   .seq (.seq (.ops (
   m 10 1 <| o 11 (.lenSl (.t 10)) <| o 12 (.mov (.c (.int .i64 0))) <| .nil)) (
   .block 0 (.loop [0, 6, 7, 10, 11, 12] [4, 5, 6] (word_Unpack_c1)))) (
   word_Unpack_c0))))

def word_Unpack_hs : List (List Nat × List Nat) := [([0, 6, 7, 10, 11, 12], [4, 5, 6])]

end Wm.F
end

section
/- PRINTED by my tool (wip/wm/tool/Gen.lean): a function as one of my machine. -/
namespace Wm.F
open Wm
set_option maxRecDepth 100000

/-- 267: withy/head.Shaded -/
def head_Shaded : AFunc where
  closed := true
  nparams := 2
  ntmps := 31
  results := [.tmp 4, .tmp 5]
  body := .seq (.ops (
   o 4 (.mov (.c (.int .u64 0))) <| o 5 (.mov (.c (.bool false))) <| .nil)) (
   .seq (.ops (
   m 9 0 <| o 10 (.call 380 [(.t 9)]) <| m 8 10 <| o 11 (.extract (.t 8) 0) <| o 12 (.extract (.t 8) 1) <|
   o 6 (.alloc [(.int .i64 0), (.int .i64 0), (.bool false), (.int .i64 0), (.int .i64 0), (.int .i64 0)]) <| u (.store 6 (.t 6) (.t 11)) <| m 7 12 <| .nil)) (
   .seq (.seq (.ops (
   m 13 7 <| o 14 (.not (.t 13)) <| m 15 14 <| .grd 15 false [i 16 (.fieldA 1 (.t 6)),
   i 17 (.load1 (.t 16)),
   i 18 (.mov (.t 1)),
   ⟨(some 19), .call 381 [(.t 18)], [{ g := (some (15, false)), op := .load1 (.t 16), d := 17 }]⟩,
   i 20 (.cmp .eql .i64 (.t 17) (.t 19))] <| o 21 (.pick (.t 15) (.c (.bool true)) (.t 20)) <| .nil)) (
   .cond (.t 21) (.seq (.ops (
   m 22 0 <| m 4 22 <| o 5 (.mov (.c (.bool false))) <| .nil)) (
   .ret)) (.skip))) (
   .seq (.ops (
   m 23 1 <| o 24 (.call 381 [(.t 23)]) <| d 25 1 6 <| u (.store 1 (.t 25) (.t 24)) <| d 26 2 6 <| u (.store 1 (.t 26) (.c (.bool true))) <| .nil)) (
   .seq (.ops (
   ln 27 6 6 <| o 28 (.call 382 [(.t 27)]) <| o 29 (.extract (.t 28) 0) <| o 30 (.extract (.t 28) 1) <| m 4 29 <| m 5 30 <| .nil)) (
   .ret)))))

def head_Shaded_hs : List (List Nat × List Nat) := []

end Wm.F
end

section
/- PRINTED by my tool (wip/wm/tool/Gen.lean): a function as one of my machine. -/
namespace Wm.F
open Wm
set_option maxRecDepth 100000

/-- 380: withy/head.lives -/
def head_lives : AFunc where
  closed := true
  nparams := 1
  ntmps := 23
  results := [.cell true 6 2, .tmp 3]
  body := .seq (.ops (
   o 2 (.alloc [(.int .i64 0), (.int .i64 0), (.bool false), (.int .i64 0), (.int .i64 0), (.int .i64 0)]) <| o 3 (.mov (.c (.bool false))) <| .nil)) (
   .seq (.ops (
   m 7 0 <| o 8 (.call 265 [(.t 7)]) <| m 6 8 <| o 9 (.extract (.t 6) 0) <| o 10 (.extract (.t 6) 1) <|
   o 4 (.alloc [(.int .i64 0), (.int .i64 0), (.bool false), (.int .i64 0), (.int .i64 0), (.int .i64 0)]) <| u (.store 6 (.t 4) (.t 9)) <| m 5 10 <| .nil)) (
   .seq (.ops (
   ln 11 6 4 <| m 12 5 <| m 13 12 <| .grd 13 true [i 14 (.fieldA 0 (.t 4)),
   i 15 (.load1 (.t 14)),
   i 16 (.cmp .eql .i64 (.t 15) (.c (.int .i64 1))),
   i 17 (.mov (.t 16))] <| .grd 17 false [i 18 (.fieldA 0 (.t 4)),
   i 19 (.load1 (.t 18)),
   i 20 (.cmp .eql .i64 (.t 19) (.c (.int .i64 2)))] <| .grd 13 true [i 21 (.pick (.t 17) (.c (.bool true)) (.t 20))] <| o 22 (.pick (.t 13) (.t 21) (.c (.bool false))) <|
   .op ⟨none, .store 6 (.t 2) (.t 11), [{ g := (some (17, false)), op := .load1 (.t 18), d := 19 }]⟩ <| m 3 22 <| .nil)) (
   .ret)))

def head_lives_hs : List (List Nat × List Nat) := []

end Wm.F
end

section
/- PRINTED by my tool (wip/wm/tool/Gen.lean): a function as one of my machine. -/
namespace Wm.F
open Wm
set_option maxRecDepth 100000

/-- 381: withy/turn.Black -/
def turn_Black : AFunc where
  closed := true
  nparams := 1
  ntmps := 8
  results := [.tmp 2]
  body := .seq (.ops (
   o 2 (.mov (.c (.int .i64 0))) <| .nil)) (
   .seq (.ops (
   m 3 0 <| o 4 (.call 442 [(.t 3)]) <| o 5 (.arith .add .u64 (.t 4) (.c (.int .u64 1))) <| o 6 (.arith .rem .u64 (.t 5) (.c (.int .u64 2))) <| o 7 (.conv .i64 (.t 6)) <| m 2 7 <|
   .nil)) (
   .ret))

def turn_Black_hs : List (List Nat × List Nat) := []

end Wm.F
end

section
/- PRINTED by my tool (wip/wm/tool/Gen.lean): a function as one of my machine. -/
namespace Wm.F
open Wm
set_option maxRecDepth 100000

/-- 396: withy/word.Get -/
def word_Get : AFunc where
  closed := true
  nparams := 3
  ntmps := 17
  results := [.tmp 6]
  body := .seq (.ops (
   o 6 (.mov (.c (.int .u64 0))) <| .nil)) (
   .seq (.seq (.ops (
   m 7 1 <| m 8 2 <| o 9 (.call 441 [(.t 7), (.t 8)]) <| o 10 (.not (.t 9)) <| .nil)) (
   .cond (.t 10) (.seq (.ops (
   o 6 (.mov (.c (.int .u64 0))) <| .nil)) (
   .ret)) (.skip))) (
   .seq (.ops (
   m 11 0 <| m 12 1 <| o 13 (.shift false .u64 .i64 (.t 11) (.t 12)) <| m 14 2 <| o 15 (.call 449 [(.t 14)]) <| o 16 (.arith .and .u64 (.t 13) (.t 15)) <| m 6 16 <| .nil)) (
   .ret)))

def word_Get_hs : List (List Nat × List Nat) := []

end Wm.F
end

section
/- PRINTED by my tool (wip/wm/tool/Gen.lean): a function as one of my machine. -/
namespace Wm.F
open Wm
set_option maxRecDepth 100000

/-- 397: withy/plan.place -/
def plan_place : AFunc where
  closed := true
  nparams := 5
  ntmps := 40
  results := [.tmp 10]
  body := .seq (.ops (
   o 5 (.box (.t 0)) <| o 10 (.mov (.c (.int .i64 0))) <| .nil)) (
   .seq (.seq (.ops (
   ln 11 6 5 <| o 12 (.call 263 [(.t 11)]) <| o 13 (.not (.t 12)) <| m 14 13 <| .grd 14 false [i 15 (.mov (.t 1)),
   i 16 (.fieldA 2 (.t 5)),
   i 17 (.load1 (.t 16)),
   i 18 (.arith .sub .i64 (.t 17) (.c (.int .i64 1))),
   i 19 (.call 376 [(.t 15), (.c (.int .i64 0)), (.t 18)]),
   i 20 (.not (.t 19))] <| o 21 (.pick (.t 14) (.c (.bool true)) (.t 20)) <| m 22 21 <| .grd 22 false [i 23 (.mov (.t 4)),
   i 24 (.mov (.t 3)),
   i 25 (.arith .sub .i64 (.t 24) (.c (.int .i64 1))),
   i 26 (.call 376 [(.t 23), (.c (.int .i64 0)), (.t 25)]),
   i 27 (.not (.t 26))] <| o 28 (.pick (.t 22) (.c (.bool true)) (.t 27)) <| .nil)) (
   .cond (.t 28) (.seq (.ops (
   o 10 (.mov (.c (.int .i64 (-1)))) <| .nil)) (
   .ret)) (.skip))) (
   .seq (.ops (
   m 29 2 <| d 30 2 5 <| l 31 30 <| o 32 (.arith .mul .i64 (.t 29) (.t 31)) <| o 33 (.arith .add .i64 (.c (.int .i64 4)) (.t 32)) <| m 34 1 <| m 35 3 <|
   o 36 (.arith .mul .i64 (.t 34) (.t 35)) <| o 37 (.arith .add .i64 (.t 33) (.t 36)) <| m 38 4 <| o 39 (.arith .add .i64 (.t 37) (.t 38)) <| m 10 39 <| .nil)) (
   .ret)))

def plan_place_hs : List (List Nat × List Nat) := []

end Wm.F
end

section
/- PRINTED by my tool (wip/wm/tool/Gen.lean): a function as one of my machine. -/
namespace Wm.F
open Wm
set_option maxRecDepth 100000

/-- 398: withy/withyref13.named -/
def withyref13_named : AFunc where
  closed := true
  nparams := 2
  ntmps := 17
  results := [.tmp 4]
  body := .seq (.ops (
   o 2 (.box (.t 0)) <| o 4 (.mov (.c (.int .i64 0))) <| .nil)) (
   .seq (.seq (.ops (
   m 5 1 <| o 6 (.cmp .eql .u64 (.t 5) (.c (.int .u64 0))) <| m 7 6 <| .grd 7 false [i 8 (.mov (.t 1)),
   i 9 (.fieldA 0 (.t 2)),
   i 10 (.load1 (.t 9)),
   i 11 (.conv .u64 (.t 10)),
   i 12 (.cmp .gtr .u64 (.t 8) (.t 11))] <| o 13 (.pick (.t 7) (.c (.bool true)) (.t 12)) <| .nil)) (
   .cond (.t 13) (.seq (.ops (
   o 4 (.mov (.c (.int .i64 (-1)))) <| .nil)) (
   .ret)) (.skip))) (
   .seq (.ops (
   m 14 1 <| o 15 (.conv .i64 (.t 14)) <| o 16 (.arith .sub .i64 (.t 15) (.c (.int .i64 1))) <| m 4 16 <| .nil)) (
   .ret)))

def withyref13_named_hs : List (List Nat × List Nat) := []

end Wm.F
end

section
/- PRINTED by my tool (wip/wm/tool/Gen.lean): a function as one of my machine. -/
namespace Wm.F
open Wm
set_option maxRecDepth 100000

/-- 91: (*withy/shade.Shade).Step -/
def shade_Shade_Step : AFunc where
  closed := false
  nparams := 2
  ntmps := 99
  results := [.tmp 4]
  body := .seq (.ops (
   o 4 (.mov (.c (.bool false))) <| .nil)) (
   .seq (.seq (.ops (
   m 9 0 <| o 10 (.eq false .ptr (.t 9) (.c .nilp)) <| .nil)) (
   .cond (.t 10) (.seq (.ops (
   o 4 (.mov (.c (.bool true))) <| .nil)) (
   .ret)) (.skip))) (
   .seq (.seq (.ops (
   m 11 0 <| n 12 11 <| d 13 3 12 <| l 14 13 <| .nil)) (
   .block 0 (.seq (.ops (
   o 16 (.cmp .eql .i64 (.t 14) (.c (.int .i64 0))) <| m 15 16 <| .nil)) (
   .cond (.t 15) (.seq (.ops (
   m 17 0 <| m 18 1 <| m 19 0 <| n 20 19 <| d 21 1 20 <| l 22 21 <| o 23 (.call 266 [(.t 18), (.t 22)]) <| n 24 17 <| d 25 4 24 <| u (.store 1 (.t 25) (.t 23)) <| .nil)) (
   .seq (.ops (
   m 26 0 <| n 27 26 <| d 28 3 27 <| u (.store 1 (.t 28) (.c (.int .i64 1))) <| .nil)) (
   .seq (.ops (
   m 30 0 <| n 31 30 <| d 32 4 31 <| l 33 32 <| m 34 0 <| n 35 34 <| d 36 2 35 <| l 37 36 <| o 38 (.call 267 [(.t 33), (.t 37)]) <| m 29 38 <| o 39 (.extract (.t 29) 0) <|
   o 40 (.extract (.t 29) 1) <| m 5 39 <| m 6 40 <| .nil)) (
   .seq (.ops (
   m 41 6 <| o 42 (.not (.t 41)) <| .nil)) (
   .cond (.t 42) (.ops (
   m 43 0 <| n 44 43 <| d 45 3 44 <| u (.store 1 (.t 45) (.c (.int .i64 4))) <| .nil)) (.skip)))))) (.seq (.ops (
   o 47 (.cmp .eql .i64 (.t 14) (.c (.int .i64 1))) <| m 46 47 <| .nil)) (
   .cond (.t 46) (.seq (.ops (
   m 48 1 <| o 49 (.call 268 [(.t 48), (.c (.int .i64 2)), (.c (.int .u64 1))]) <| .nil)) (
   .ops (
   m 50 0 <| n 51 50 <| d 52 3 51 <| u (.store 1 (.t 52) (.c (.int .i64 2))) <| .nil))) (.seq (.ops (
   o 54 (.cmp .eql .i64 (.t 14) (.c (.int .i64 2))) <| m 53 54 <| .nil)) (
   .cond (.t 53) (.seq (.ops (
   m 56 0 <| n 57 56 <| d 58 4 57 <| l 59 58 <| m 60 0 <| n 61 60 <| d 62 2 61 <| l 63 62 <| o 64 (.call 267 [(.t 59), (.t 63)]) <| m 55 64 <| o 65 (.extract (.t 55) 0) <|
   o 66 (.extract (.t 55) 1) <| m 7 65 <| m 8 66 <| .nil)) (
   .seq (.ops (
   m 67 0 <| n 68 67 <| d 69 3 68 <| u (.store 1 (.t 69) (.c (.int .i64 3))) <| .nil)) (
   .seq (.ops (
   m 70 1 <| m 71 0 <| n 72 71 <| d 73 1 72 <| l 74 73 <| m 75 0 <| n 76 75 <| d 77 4 76 <| l 78 77 <| m 79 7 <| o 80 (.call 269 [(.t 70), (.t 74), (.t 78), (.t 79)]) <| .nil)) (
   .cond (.t 80) (.ops (
   m 81 0 <| m 82 0 <| n 83 81 <| d 84 0 83 <| u (.store 1 (.t 84) (.c (.bool true))) <| n 85 82 <| d 86 3 85 <| u (.store 1 (.t 86) (.c (.int .i64 4))) <|
   .nil)) (.skip))))) (.seq (.ops (
   o 88 (.cmp .eql .i64 (.t 14) (.c (.int .i64 3))) <| m 87 88 <| .nil)) (
   .cond (.t 87) (.seq (.ops (
   m 89 1 <| o 90 (.call 268 [(.t 89), (.c (.int .i64 2)), (.c (.int .u64 18446744073709551615))]) <| .nil)) (
   .ops (
   m 91 0 <| n 92 91 <| d 93 3 92 <| u (.store 1 (.t 93) (.c (.int .i64 0))) <| .nil))) (.skip))))))))))) (
   .seq (.ops (
   m 94 0 <| n 95 94 <| d 96 3 95 <| l 97 96 <| o 98 (.cmp .eql .i64 (.t 97) (.c (.int .i64 4))) <| m 4 98 <| .nil)) (
   .ret))))

def shade_Shade_Step_hs : List (List Nat × List Nat) := []

end Wm.F
end

section
/- PRINTED by my tool (wip/wm/tool/Gen.lean): a function as one of my machine. -/
namespace Wm.F
open Wm
set_option maxRecDepth 100000

/-- 325: (*withy/mark.Mark).roots -/
def mark_Mark_roots : AFunc where
  closed := false
  nparams := 2
  ntmps := 120
  results := []
  body := .seq (.ops (
   m 8 0 <| n 9 8 <| d 10 9 9 <| l 11 10 <| .nil)) (
   .block 0 (.seq (.ops (
   o 13 (.cmp .eql .i64 (.t 11) (.c (.int .i64 0))) <| m 12 13 <| .nil)) (
   .cond (.t 12) (.ops (
   m 14 0 <| m 15 0 <| m 16 1 <| o 17 (.call 266 [(.t 16), (.c (.int .i64 0))]) <| n 18 14 <| d 19 10 18 <| u (.store 1 (.t 19) (.t 17)) <| n 20 15 <| d 21 9 20 <|
   u (.store 1 (.t 21) (.c (.int .i64 1))) <| .nil)) (.seq (.ops (
   o 23 (.cmp .eql .i64 (.t 11) (.c (.int .i64 1))) <| m 22 23 <| .nil)) (
   .cond (.t 22) (.seq (.seq (.ops (
   m 24 1 <| m 25 0 <| n 26 25 <| d 27 2 26 <| ln 28 6 27 <| m 29 0 <| n 30 29 <| d 31 11 30 <| l 32 31 <| o 33 (.call 393 [(.t 28), (.t 32)]) <|
   o 34 (.call 266 [(.t 24), (.t 33)]) <| m 4 34 <| .nil)) (
   .seq (.ops (
   m 35 4 <| o 36 (.cmp .eql .u64 (.t 35) (.c (.int .u64 1))) <| .nil)) (
   .cond (.t 36) (.ops (
   m 37 0 <| n 38 37 <| d 39 10 38 <| u (.store 1 (.t 39) (.c (.int .u64 0))) <| .nil)) (.seq (.ops (
   m 40 4 <| o 41 (.cmp .gtr .u64 (.t 40) (.c (.int .u64 1))) <| .nil)) (
   .cond (.t 41) (.ops (
   m 42 0 <| m 43 0 <| n 44 43 <| d 45 10 44 <| l 46 45 <| m 47 4 <| o 48 (.arith .sub .u64 (.t 47) (.c (.int .u64 2))) <| o 49 (.minmax false .u64 (.t 46) (.t 48)) <| n 50 42 <|
   d 51 10 50 <| u (.store 1 (.t 51) (.t 49)) <| .nil)) (.skip)))))) (
   .ops (
   m 52 0 <| o 53 (.call 399 [(.t 52), (.c (.int .i64 2))]) <| .nil))) (.seq (.ops (
   o 55 (.cmp .eql .i64 (.t 11) (.c (.int .i64 2))) <| m 54 55 <| .nil)) (
   .cond (.t 54) (.seq (.ops (
   m 57 1 <| m 58 0 <| n 59 58 <| d 60 2 59 <| ln 61 6 60 <| m 62 0 <| n 63 62 <| d 64 11 63 <| l 65 64 <| m 66 0 <| n 67 66 <| d 68 12 67 <| l 69 68 <|
   o 70 (.call 319 [(.t 61), (.t 65), (.t 69)]) <| o 71 (.call 266 [(.t 57), (.t 70)]) <| o 72 (.call 318 [(.t 71)]) <| m 56 72 <| o 73 (.extract (.t 56) 0) <|
   o 74 (.extract (.t 56) 1) <| m 5 73 <| m 6 74 <| .nil)) (
   .seq (.seq (.ops (
   m 75 0 <| n 76 75 <| d 77 12 76 <| l 78 77 <| o 79 (.arith .add .i64 (.t 78) (.c (.int .i64 1))) <| n 80 75 <| d 81 12 80 <| u (.store 1 (.t 81) (.t 79)) <| .nil)) (
   .seq (.ops (
   m 82 0 <| n 83 82 <| d 84 12 83 <| l 85 84 <| m 86 0 <| n 87 86 <| d 88 2 87 <| d 89 3 88 <| l 90 89 <| o 91 (.cmp .eql .i64 (.t 85) (.t 90)) <| .nil)) (
   .cond (.t 91) (.seq (.ops (
   m 92 0 <| n 93 92 <| d 94 12 93 <| u (.store 1 (.t 94) (.c (.int .i64 0))) <| .nil)) (
   .ops (
   m 95 0 <| o 96 (.call 399 [(.t 95), (.c (.int .i64 3))]) <| .nil))) (.skip)))) (
   .ops (
   m 97 0 <| m 98 6 <| o 99 (.call 400 [(.t 97), (.t 98)]) <| .nil)))) (.seq (.ops (
   o 101 (.cmp .eql .i64 (.t 11) (.c (.int .i64 3))) <| m 100 101 <| .nil)) (
   .cond (.t 100) (.seq (.ops (
   m 102 0 <| m 103 1 <| m 104 0 <| n 105 104 <| d 106 2 105 <| ln 107 6 106 <| m 108 0 <| n 109 108 <| d 110 11 109 <| l 111 110 <| o 112 (.call 321 [(.t 107), (.t 111)]) <|
   o 113 (.call 266 [(.t 103), (.t 112)]) <| o 114 (.call 320 [(.t 102), (.t 113)]) <| m 7 114 <| .nil)) (
   .seq (.ops (
   m 115 0 <| o 116 (.call 399 [(.t 115), (.c (.int .i64 4))]) <| .nil)) (
   .ops (
   m 117 0 <| m 118 7 <| o 119 (.call 400 [(.t 117), (.t 118)]) <| .nil)))) (.skip))))))))))

def mark_Mark_roots_hs : List (List Nat × List Nat) := []

end Wm.F
end

section
/- PRINTED by my tool (wip/wm/tool/Gen.lean): a function as one of my machine. -/
namespace Wm.F
open Wm
set_option maxRecDepth 100000

/-- 326: (*withy/mark.Mark).pass -/
def mark_Mark_pass : AFunc where
  closed := false
  nparams := 2
  ntmps := 79
  results := []
  body := .seq (.ops (
   m 5 0 <| n 6 5 <| d 7 9 6 <| l 8 7 <| .nil)) (
   .block 0 (.seq (.ops (
   o 10 (.cmp .eql .i64 (.t 8) (.c (.int .i64 4))) <| m 9 10 <| .nil)) (
   .cond (.t 9) (.seq (.ops (
   m 11 0 <| n 12 11 <| d 13 13 12 <| l 14 13 <| o 15 (.arith .add .i64 (.t 14) (.c (.int .i64 1))) <| n 16 11 <| d 17 13 16 <| u (.store 1 (.t 17) (.t 15)) <| .nil)) (
   .ops (
   m 18 0 <| m 19 1 <| m 20 0 <| n 21 20 <| d 22 13 21 <| l 23 22 <| o 24 (.arith .sub .i64 (.t 23) (.c (.int .i64 1))) <| o 25 (.call 401 [(.t 18), (.t 19), (.t 24)]) <|
   .nil))) (.seq (.ops (
   o 27 (.cmp .eql .i64 (.t 8) (.c (.int .i64 5))) <| m 26 27 <| .nil)) (
   .cond (.t 26) (.seq (.ops (
   m 28 0 <| n 29 28 <| d 30 18 29 <| l 31 30 <| m 32 0 <| n 33 32 <| d 34 18 33 <| l 35 34 <| o 36 (.lenSl (.t 35)) <| o 37 (.arith .sub .i64 (.t 36) (.c (.int .i64 1))) <|
   o 38 (.indexA 1 (.t 31) (.t 37)) <| l 39 38 <| m 4 39 <| .nil)) (
   .seq (.ops (
   m 40 0 <| m 41 0 <| n 42 41 <| d 43 18 42 <| l 44 43 <| m 45 0 <| n 46 45 <| d 47 18 46 <| l 48 47 <| o 49 (.lenSl (.t 48)) <|
   o 50 (.arith .sub .i64 (.t 49) (.c (.int .i64 1))) <| o 51 (.slice 1 (.t 44) none (some (.t 50)) none) <| n 52 40 <| d 53 18 52 <| u (.store 1 (.t 53) (.t 51)) <| .nil)) (
   .ops (
   m 54 0 <| m 55 1 <| m 56 4 <| o 57 (.call 401 [(.t 54), (.t 55), (.t 56)]) <| .nil)))) (.seq (.ops (
   o 59 (.cmp .eql .i64 (.t 8) (.c (.int .i64 14))) <| m 58 59 <| .nil)) (
   .cond (.t 58) (.seq (.ops (
   m 60 0 <| n 61 60 <| d 62 0 61 <| l 63 62 <| o 64 (.arith .add .i64 (.t 63) (.c (.int .i64 1))) <| n 65 60 <| d 66 0 65 <| u (.store 1 (.t 66) (.t 64)) <| .nil)) (
   .seq (.ops (
   m 67 0 <| m 68 0 <| n 69 67 <| d 70 13 69 <| u (.store 1 (.t 70) (.c (.int .i64 0))) <| n 71 68 <| d 72 9 71 <| u (.store 1 (.t 72) (.c (.int .i64 4))) <| .nil)) (
   .seq (.ops (
   m 73 1 <| o 74 (.call 266 [(.t 73), (.c (.int .i64 2))]) <| o 75 (.cmp .eql .u64 (.t 74) (.c (.int .u64 0))) <| .nil)) (
   .cond (.t 75) (.ops (
   m 76 0 <| n 77 76 <| d 78 9 77 <| u (.store 1 (.t 78) (.c (.int .i64 15))) <| .nil)) (.skip))))) (.skip))))))))

def mark_Mark_pass_hs : List (List Nat × List Nat) := []

end Wm.F
end

section
/- PRINTED by my tool (wip/wm/tool/Gen.lean): a function as one of my machine. -/
namespace Wm.F
open Wm
set_option maxRecDepth 100000

/-- 327: (*withy/mark.Mark).through -/
def mark_Mark_through : AFunc where
  closed := false
  nparams := 2
  ntmps := 216
  results := []
  body := .seq (.ops (
   m 8 0 <| n 9 8 <| d 10 9 9 <| l 11 10 <| .nil)) (
   .block 0 (.seq (.ops (
   o 13 (.cmp .eql .i64 (.t 11) (.c (.int .i64 6))) <| m 12 13 <| .nil)) (
   .cond (.t 12) (.seq (.ops (
   m 14 0 <| m 15 1 <| m 16 0 <| n 17 16 <| d 18 2 17 <| ln 19 6 18 <| m 20 0 <| n 21 20 <| d 22 14 21 <| l 23 22 <| m 24 0 <| n 25 24 <| d 26 12 25 <| l 27 26 <|
   o 28 (.call 305 [(.t 19), (.t 23), (.t 27)]) <| o 29 (.call 266 [(.t 15), (.t 28)]) <| o 30 (.call 320 [(.t 14), (.t 29)]) <| m 4 30 <| .nil)) (
   .seq (.seq (.ops (
   m 31 0 <| n 32 31 <| d 33 12 32 <| l 34 33 <| o 35 (.arith .add .i64 (.t 34) (.c (.int .i64 1))) <| n 36 31 <| d 37 12 36 <| u (.store 1 (.t 37) (.t 35)) <| .nil)) (
   .seq (.ops (
   m 38 0 <| n 39 38 <| d 40 12 39 <| l 41 40 <| m 42 0 <| n 43 42 <| d 44 15 43 <| l 45 44 <| o 46 (.cmp .eql .i64 (.t 41) (.t 45)) <| .nil)) (
   .cond (.t 46) (.ops (
   m 47 0 <| n 48 47 <| d 49 9 48 <| u (.store 1 (.t 49) (.c (.int .i64 11))) <| .nil)) (.skip)))) (
   .ops (
   m 50 0 <| m 51 4 <| o 52 (.call 400 [(.t 50), (.t 51)]) <| .nil)))) (.seq (.ops (
   o 54 (.cmp .eql .i64 (.t 11) (.c (.int .i64 7))) <| m 53 54 <| .nil)) (
   .cond (.t 53) (.seq (.ops (
   m 55 0 <| m 56 0 <| m 57 1 <| m 58 0 <| n 59 58 <| d 60 2 59 <| ln 61 6 60 <| m 62 0 <| n 63 62 <| d 64 14 63 <| l 65 64 <|
   o 66 (.call 305 [(.t 61), (.t 65), (.c (.int .i64 0))]) <| o 67 (.call 266 [(.t 57), (.t 66)]) <| o 68 (.call 320 [(.t 56), (.t 67)]) <| o 69 (.call 400 [(.t 55), (.t 68)]) <|
   .nil)) (
   .ops (
   m 70 0 <| n 71 70 <| d 72 9 71 <| u (.store 1 (.t 72) (.c (.int .i64 8))) <| .nil))) (.seq (.ops (
   o 74 (.cmp .eql .i64 (.t 11) (.c (.int .i64 8))) <| m 73 74 <| .nil)) (
   .cond (.t 73) (.ops (
   m 75 0 <| m 76 0 <| m 77 1 <| m 78 0 <| n 79 78 <| d 80 2 79 <| ln 81 6 80 <| m 82 0 <| n 83 82 <| d 84 14 83 <| l 85 84 <|
   o 86 (.call 305 [(.t 81), (.t 85), (.c (.int .i64 1))]) <| o 87 (.call 266 [(.t 77), (.t 86)]) <| n 88 75 <| d 89 17 88 <| u (.store 1 (.t 89) (.t 87)) <| n 90 76 <|
   d 91 9 90 <| u (.store 1 (.t 91) (.c (.int .i64 9))) <| .nil)) (.seq (.ops (
   o 93 (.cmp .eql .i64 (.t 11) (.c (.int .i64 9))) <| m 92 93 <| .nil)) (
   .cond (.t 92) (.seq (.ops (
   m 94 0 <| m 95 1 <| m 96 0 <| n 97 96 <| d 98 2 97 <| ln 99 6 98 <| m 100 0 <| n 101 100 <| d 102 14 101 <| l 103 102 <|
   o 104 (.call 305 [(.t 99), (.t 103), (.c (.int .i64 2))]) <| o 105 (.call 266 [(.t 95), (.t 104)]) <| o 106 (.call 320 [(.t 94), (.t 105)]) <| m 5 106 <| .nil)) (
   .seq (.ops (
   m 107 0 <| n 108 107 <| d 109 9 108 <| u (.store 1 (.t 109) (.c (.int .i64 11))) <| .nil)) (
   .seq (.seq (.ops (
   m 110 5 <| o 111 (.cmp .geq .i64 (.t 110) (.c (.int .i64 0))) <| m 112 111 <| .grd 112 true [i 113 (.mov (.t 0)),
   i 114 (.nilc (.t 113)),
   i 115 (.fieldA 17 (.t 114)),
   i 116 (.load1 (.t 115)),
   i 117 (.cmp .neq .u64 (.t 116) (.c (.int .u64 0)))] <| o 118 (.pick (.t 112) (.t 117) (.c (.bool false))) <| m 119 118 <| .grd 119 true [i 120 (.mov (.t 0)),
   i 121 (.nilc (.t 120)),
   i 122 (.fieldA 17 (.t 121)),
   i 123 (.load1 (.t 122)),
   i 124 (.mov (.t 0)),
   i 125 (.nilc (.t 124)),
   i 126 (.fieldA 10 (.t 125)),
   i 127 (.load1 (.t 126)),
   i 128 (.cmp .leq .u64 (.t 123) (.t 127))] <| o 129 (.pick (.t 119) (.t 128) (.c (.bool false))) <| .nil)) (
   .cond (.t 129) (.ops (
   m 130 0 <| n 131 130 <| d 132 9 131 <| u (.store 1 (.t 132) (.c (.int .i64 10))) <| .nil)) (.skip))) (
   .ops (
   m 133 0 <| m 134 5 <| o 135 (.call 400 [(.t 133), (.t 134)]) <| .nil))))) (.seq (.ops (
   o 137 (.cmp .eql .i64 (.t 11) (.c (.int .i64 10))) <| m 136 137 <| .nil)) (
   .cond (.t 136) (.seq (.ops (
   m 138 1 <| m 139 0 <| n 140 139 <| d 141 2 140 <| ln 142 6 141 <| m 143 0 <| n 144 143 <| d 145 14 144 <| l 146 145 <|
   o 147 (.call 305 [(.t 142), (.t 146), (.c (.int .i64 2))]) <| o 148 (.call 203 [(.t 138), (.t 147), (.c (.int .u64 0))]) <| .nil)) (
   .seq (.ops (
   m 149 0 <| n 150 149 <| d 151 1 150 <| l 152 151 <| o 153 (.arith .add .i64 (.t 152) (.c (.int .i64 1))) <| n 154 149 <| d 155 1 154 <| u (.store 1 (.t 155) (.t 153)) <|
   .nil)) (
   .ops (
   m 156 0 <| n 157 156 <| d 158 9 157 <| u (.store 1 (.t 158) (.c (.int .i64 11))) <| .nil)))) (.seq (.ops (
   o 160 (.cmp .eql .i64 (.t 11) (.c (.int .i64 11))) <| m 159 160 <| .nil)) (
   .cond (.t 159) (.seq (.ops (
   m 162 0 <| n 163 162 <| d 164 16 163 <| l 165 164 <| o 166 (.call 402 [(.t 165)]) <| m 161 166 <| o 167 (.extract (.t 161) 0) <| o 168 (.extract (.t 161) 1) <| m 6 167 <|
   m 7 168 <| .nil)) (
   .seq (.ops (
   m 169 0 <| n 170 169 <| d 171 9 170 <| u (.store 1 (.t 171) (.c (.int .i64 12))) <| .nil)) (
   .seq (.ops (
   m 172 1 <| m 173 0 <| n 174 173 <| d 175 2 174 <| ln 176 6 175 <| m 177 0 <| n 178 177 <| d 179 14 178 <| l 180 179 <| m 182 0 <| n 183 182 <| d 184 16 183 <| l 185 184 <|
   m 186 6 <| .op ⟨(some 181), .call 261 [(.t 176), (.t 180)], [{ g := none, op := .load1 (.t 184), d := 185 }]⟩ <| o 187 (.call 269 [(.t 172), (.t 181), (.t 185), (.t 186)]) <|
   .nil)) (
   .cond (.t 187) (.ops (
   m 188 0 <| n 189 188 <| d 190 9 189 <| u (.store 1 (.t 190) (.c (.int .i64 13))) <| .nil)) (.skip))))) (.seq (.ops (
   o 192 (.cmp .eql .i64 (.t 11) (.c (.int .i64 12))) <| m 191 192 <| .nil)) (
   .cond (.t 191) (.ops (
   m 193 0 <| m 194 0 <| m 195 1 <| m 196 0 <| n 197 196 <| d 198 2 197 <| ln 199 6 198 <| m 200 0 <| n 201 200 <| d 202 14 201 <| l 203 202 <|
   o 204 (.call 261 [(.t 199), (.t 203)]) <| o 205 (.call 266 [(.t 195), (.t 204)]) <| n 206 193 <| d 207 16 206 <| u (.store 1 (.t 207) (.t 205)) <| n 208 194 <| d 209 9 208 <|
   u (.store 1 (.t 209) (.c (.int .i64 11))) <| .nil)) (.seq (.ops (
   o 211 (.cmp .eql .i64 (.t 11) (.c (.int .i64 13))) <| m 210 211 <| .nil)) (
   .cond (.t 210) (.seq (.ops (
   m 212 1 <| o 213 (.call 268 [(.t 212), (.c (.int .i64 2)), (.c (.int .u64 18446744073709551615))]) <| .nil)) (
   .ops (
   m 214 0 <| o 215 (.call 403 [(.t 214)]) <| .nil))) (.skip))))))))))))))))))

def mark_Mark_through_hs : List (List Nat × List Nat) := []

end Wm.F
end

section
/- PRINTED by my tool (wip/wm/tool/Gen.lean): a function as one of my machine. -/
namespace Wm.F
open Wm
set_option maxRecDepth 100000

/-- 441: withy/word.some -/
def word_some : AFunc where
  closed := true
  nparams := 2
  ntmps := 21
  results := [.tmp 4]
  body := .seq (.ops (
   o 4 (.mov (.c (.bool false))) <| .nil)) (
   .seq (.ops (
   m 5 1 <| o 6 (.cmp .geq .i64 (.t 5) (.c (.int .i64 1))) <| m 7 6 <| .grd 7 true [i 8 (.mov (.t 1)),
   i 9 (.cmp .leq .i64 (.t 8) (.c (.int .i64 64)))] <| o 10 (.pick (.t 7) (.t 9) (.c (.bool false))) <| m 11 10 <| .grd 11 true [i 12 (.mov (.t 0)),
   i 13 (.cmp .geq .i64 (.t 12) (.c (.int .i64 0)))] <| o 14 (.pick (.t 11) (.t 13) (.c (.bool false))) <| m 15 14 <| .grd 15 true [i 16 (.mov (.t 0)),
   i 17 (.mov (.t 1)),
   i 18 (.arith .sub .i64 (.c (.int .i64 64)) (.t 17)),
   i 19 (.cmp .leq .i64 (.t 16) (.t 18))] <| o 20 (.pick (.t 15) (.t 19) (.c (.bool false))) <| m 4 20 <| .nil)) (
   .ret))

def word_some_hs : List (List Nat × List Nat) := []

end Wm.F
end

section
/- PRINTED by my tool (wip/wm/tool/Gen.lean): a function as one of my machine. -/
namespace Wm.F
open Wm
set_option maxRecDepth 100000

def head_Pack_c1 : ACode :=
  .seq (.ops (
   o 20 (.cmp .lss .i64 (.t 19) (.c (.int .i64 5))) <| .nil)) (
  .seq (.cond (.t 20) (.skip) (.exit 0)) (
  .seq (.block 1 (.seq (.ops (
   o 21 (.indexAgg 5 1 false (.t 18) (.t 19)) <| m 5 21 <| .nil)) (
  .seq (.ops (
   m 22 5 <| o 23 (.cmp .lss .i64 (.t 22) (.c (.int .i64 0))) <| .nil)) (
  .cond (.t 23) (.seq (.ops (
   o 2 (.mov (.c (.int .u64 0))) <| o 3 (.mov (.c (.bool false))) <| .nil)) (
   .ret)) (.skip))))) (
  .ops (
   o 24 (.arith .add .i64 (.t 19) (.c (.int .i64 1))) <| m 19 24 <| .nil))))

def head_Pack_c0 : ACode :=
  .seq (.ops (
   d 26 0 1 <| l 27 26 <| o 28 (.conv .u64 (.t 27)) <| o 29 (.build [(.int .i64 0), (.int .u64 0)] [(0, 1, (.c (.int .i64 3))), (1, 1, (.t 28))]) <| d 30 1 1 <| l 31 30 <|
   o 32 (.conv .u64 (.t 31)) <| o 33 (.build [(.int .i64 0), (.int .u64 0)] [(0, 1, (.c (.int .i64 1))), (1, 1, (.t 32))]) <| d 34 2 1 <| l 35 34 <| d 38 3 1 <| l 39 38 <|
   o 40 (.conv .u64 (.t 39)) <| o 41 (.build [(.int .i64 0), (.int .u64 0)] [(0, 1, (.c (.int .i64 4))), (1, 1, (.t 40))]) <|
   o 42 (.build [(.int .i64 0), (.int .u64 0)] [(0, 1, (.c (.int .i64 7)))]) <| d 43 4 1 <| l 44 43 <| o 45 (.conv .u64 (.t 44)) <|
   o 46 (.build [(.int .i64 0), (.int .u64 0)] [(0, 1, (.c (.int .i64 32))), (1, 1, (.t 45))]) <| d 47 5 1 <| l 48 47 <| o 49 (.conv .u64 (.t 48)) <|
   o 50 (.build [(.int .i64 0), (.int .u64 0)] [(0, 1, (.c (.int .i64 16))), (1, 1, (.t 49))]) <|
   .op ⟨(some 36), .call 444 [(.t 35)], [{ g := none, op := .load1 (.t 47), d := 48 }, { g := none, op := .load1 (.t 43), d := 44 }, { g := none, op := .load1 (.t 38), d := 39 }, { g := none, op := .load1 (.t 30), d := 31 }, { g := none, op := .load1 (.t 26), d := 27 }]⟩ <| o 37 (.build [(.int .i64 0), (.int .u64 0)] [(0, 1, (.c (.int .i64 1))), (1, 1, (.t 36))]) <| o 51 (.buildSl 2 7 [(.int .i64 0), (.int .u64 0)] [(0, 2, (.t 29)), (2, 2, (.t 33)), (4, 2, (.t 37)), (6, 2, (.t 41)), (8, 2, (.t 42)), (10, 2, (.t 46)), (12, 2, (.t 50))]) <| o 52 (.call 443 [(.t 51)]) <| m 25 52 <| o 53 (.extract (.t 25) 0) <| o 54 (.extract (.t 25) 1) <| m 6 53 <| m 7 54 <| .nil)) (
  .seq (.seq (.ops (
   m 55 7 <| o 56 (.not (.t 55)) <| m 57 56 <| .grd 57 false [i 58 (.fieldA 0 (.t 1)),
   i 59 (.load1 (.t 58)),
   i 60 (.cmp .gtr .i64 (.t 59) (.c (.int .i64 4)))] <| o 61 (.pick (.t 57) (.c (.bool true)) (.t 60)) <| .nil)) (
  .cond (.t 61) (.seq (.ops (
   o 2 (.mov (.c (.int .u64 0))) <| o 3 (.mov (.c (.bool false))) <| .nil)) (
   .ret)) (.skip))) (
  .seq (.ops (
   m 62 6 <| m 2 62 <| o 3 (.mov (.c (.bool true))) <| .nil)) (
  .ret)))

/-- 382: withy/head.Pack -/
def head_Pack : AFunc where
  closed := true
  nparams := 1
  ntmps := 63
  results := [.tmp 2, .tmp 3]
  body := .seq (.ops (
   o 1 (.box (.t 0)) <| o 2 (.mov (.c (.int .u64 0))) <| o 3 (.mov (.c (.bool false))) <| .nil)) (
   .seq (.seq (.ops (
   d 8 0 1 <| l 9 8 <| d 10 1 1 <| l 11 10 <| d 12 3 1 <| l 13 12 <| d 14 4 1 <| l 15 14 <| d 16 5 1 <| l 17 16 <|
   o 18 (.build [(.int .i64 0), (.int .i64 0), (.int .i64 0), (.int .i64 0), (.int .i64 0)] [(0, 1, (.t 9)), (1, 1, (.t 11)), (2, 1, (.t 13)), (3, 1, (.t 15)), (4, 1, (.t 17))]) <| o 19 (.mov (.c (.int .i64 0))) <| .nil)) (
   .block 0 (.loop [1, 18, 19] [1, 2, 3] (head_Pack_c1)))) (
   head_Pack_c0))

def head_Pack_hs : List (List Nat × List Nat) := [([1, 18, 19], [1, 2, 3])]

end Wm.F
end

section
/- PRINTED by my tool (wip/wm/tool/Gen.lean): a function as one of my machine. -/
namespace Wm.F
open Wm
set_option maxRecDepth 100000

/-- 442: withy/turn.Cycle -/
def turn_Cycle : AFunc where
  closed := true
  nparams := 1
  ntmps := 5
  results := [.tmp 2]
  body := .seq (.ops (
   o 2 (.mov (.c (.int .u64 0))) <| .nil)) (
   .seq (.ops (
   m 3 0 <| o 4 (.arith .quo .u64 (.t 3) (.c (.int .u64 4))) <| m 2 4 <| .nil)) (
   .ret))

def turn_Cycle_hs : List (List Nat × List Nat) := []

end Wm.F
end

section
/- PRINTED by my tool (wip/wm/tool/Gen.lean): a function as one of my machine. -/
namespace Wm.F
open Wm
set_option maxRecDepth 100000

/-- 449: withy/word.mask -/
def word_mask : AFunc where
  closed := true
  nparams := 1
  ntmps := 6
  results := [.tmp 2]
  body := .seq (.ops (
   o 2 (.mov (.c (.int .u64 0))) <| .nil)) (
   .seq (.ops (
   m 3 0 <| o 4 (.shift true .u64 .i64 (.c (.int .u64 1)) (.t 3)) <| o 5 (.arith .sub .u64 (.t 4) (.c (.int .u64 1))) <| m 2 5 <| .nil)) (
   .ret))

def word_mask_hs : List (List Nat × List Nat) := []

end Wm.F
end

section
/- PRINTED by my tool (wip/wm/tool/Gen.lean): a function as one of my machine. -/
namespace Wm.F
open Wm
set_option maxRecDepth 100000

/-- 266: (*withy/mem.Mem).Load -/
def mem_Mem_Load : AFunc where
  closed := false
  nparams := 2
  ntmps := 26
  results := [.tmp 4]
  body := .seq (.ops (
   o 4 (.mov (.c (.int .u64 0))) <| .nil)) (
   .seq (.seq (.ops (
   m 5 0 <| m 6 1 <| o 7 (.call 346 [(.t 5), (.t 6)]) <| o 8 (.not (.t 7)) <| .nil)) (
   .cond (.t 8) (.seq (.ops (
   o 4 (.mov (.c (.int .u64 0))) <| .nil)) (
   .ret)) (.skip))) (
   .seq (.ops (
   m 9 0 <| m 10 1 <| m 11 0 <| n 12 11 <| d 13 0 12 <| l 14 13 <| m 15 1 <| o 16 (.indexA 1 (.t 14) (.t 15)) <| l 17 16 <|
   o 18 (.call 347 [(.t 9), (.c (.int .i64 1)), (.t 10), (.t 17)]) <| .nil)) (
   .seq (.ops (
   m 19 0 <| n 20 19 <| d 21 0 20 <| l 22 21 <| m 23 1 <| o 24 (.indexA 1 (.t 22) (.t 23)) <| l 25 24 <| m 4 25 <| .nil)) (
   .ret))))

def mem_Mem_Load_hs : List (List Nat × List Nat) := []

end Wm.F
end

section
/- PRINTED by my tool (wip/wm/tool/Gen.lean): a function as one of my machine. -/
namespace Wm.F
open Wm
set_option maxRecDepth 100000

/-- 268: (*withy/mem.Mem).Add -/
def mem_Mem_Add : AFunc where
  closed := false
  nparams := 3
  ntmps := 30
  results := [.tmp 6]
  body := .seq (.ops (
   o 6 (.mov (.c (.int .u64 0))) <| .nil)) (
   .seq (.seq (.ops (
   m 7 0 <| m 8 1 <| o 9 (.call 346 [(.t 7), (.t 8)]) <| o 10 (.not (.t 9)) <| .nil)) (
   .cond (.t 10) (.seq (.ops (
   o 6 (.mov (.c (.int .u64 0))) <| .nil)) (
   .ret)) (.skip))) (
   .seq (.ops (
   m 11 0 <| m 12 1 <| m 13 0 <| n 14 13 <| d 15 0 14 <| l 16 15 <| m 17 1 <| o 18 (.indexA 1 (.t 16) (.t 17)) <| l 19 18 <| m 20 2 <| o 21 (.arith .add .u64 (.t 19) (.t 20)) <|
   o 22 (.call 347 [(.t 11), (.c (.int .i64 4)), (.t 12), (.t 21)]) <| .nil)) (
   .seq (.ops (
   m 23 0 <| n 24 23 <| d 25 0 24 <| l 26 25 <| m 27 1 <| o 28 (.indexA 1 (.t 26) (.t 27)) <| l 29 28 <| m 6 29 <| .nil)) (
   .ret))))

def mem_Mem_Add_hs : List (List Nat × List Nat) := []

end Wm.F
end

section
/- PRINTED by my tool (wip/wm/tool/Gen.lean): a function as one of my machine. -/
namespace Wm.F
open Wm
set_option maxRecDepth 100000

/-- 269: (*withy/mem.Mem).Swap -/
def mem_Mem_Swap : AFunc where
  closed := false
  nparams := 4
  ntmps := 32
  results := [.tmp 8]
  body := .seq (.ops (
   o 8 (.mov (.c (.bool false))) <| .nil)) (
   .seq (.seq (.ops (
   m 10 0 <| m 11 1 <| o 12 (.call 346 [(.t 10), (.t 11)]) <| o 13 (.not (.t 12)) <| .nil)) (
   .cond (.t 13) (.seq (.ops (
   o 8 (.mov (.c (.bool false))) <| .nil)) (
   .ret)) (.skip))) (
   .seq (.ops (
   m 14 0 <| n 15 14 <| d 16 0 15 <| l 17 16 <| m 18 1 <| o 19 (.indexA 1 (.t 17) (.t 18)) <| l 20 19 <| m 9 20 <| .nil)) (
   .seq (.seq (.ops (
   m 21 9 <| m 22 2 <| o 23 (.cmp .neq .u64 (.t 21) (.t 22)) <| .nil)) (
   .cond (.t 23) (.ops (
   m 24 9 <| m 3 24 <| .nil)) (.skip))) (
   .seq (.ops (
   m 25 0 <| m 26 1 <| m 27 3 <| o 28 (.call 347 [(.t 25), (.c (.int .i64 3)), (.t 26), (.t 27)]) <| .nil)) (
   .seq (.ops (
   m 29 9 <| m 30 2 <| o 31 (.cmp .eql .u64 (.t 29) (.t 30)) <| m 8 31 <| .nil)) (
   .ret))))))

def mem_Mem_Swap_hs : List (List Nat × List Nat) := []

end Wm.F
end

section
/- PRINTED by my tool (wip/wm/tool/Gen.lean): a function as one of my machine. -/
namespace Wm.F
open Wm
set_option maxRecDepth 100000

/-- 393: withy/plan.View -/
def plan_View : AFunc where
  closed := true
  nparams := 2
  ntmps := 11
  results := [.tmp 4]
  body := .seq (.ops (
   o 2 (.box (.t 0)) <| o 4 (.mov (.c (.int .i64 0))) <| .nil)) (
   .seq (.ops (
   ln 5 6 2 <| m 6 1 <| d 7 3 2 <| l 8 7 <| o 9 (.arith .add .i64 (.c (.int .i64 1)) (.t 8)) <|
   o 10 (.call 397 [(.t 5), (.t 6), (.t 9), (.c (.int .i64 2)), (.c (.int .i64 0))]) <| m 4 10 <| .nil)) (
   .ret))

def plan_View_hs : List (List Nat × List Nat) := []

end Wm.F
end

section
/- PRINTED by my tool (wip/wm/tool/Gen.lean): a function as one of my machine. -/
namespace Wm.F
open Wm
set_option maxRecDepth 100000

/-- 399: (*withy/mark.Mark).client -/
def mark_Mark_client : AFunc where
  closed := false
  nparams := 2
  ntmps := 28
  results := []
  body := .seq (.ops (
   m 4 0 <| n 5 4 <| d 6 11 5 <| l 7 6 <| o 8 (.arith .add .i64 (.t 7) (.c (.int .i64 1))) <| n 9 4 <| d 10 11 9 <| u (.store 1 (.t 10) (.t 8)) <| .nil)) (
   .seq (.ops (
   m 11 0 <| n 12 11 <| d 13 11 12 <| l 14 13 <| m 15 0 <| n 16 15 <| d 17 2 16 <| d 18 2 17 <| l 19 18 <| o 20 (.cmp .eql .i64 (.t 14) (.t 19)) <| .nil)) (
   .cond (.t 20) (.ops (
   m 21 0 <| m 22 0 <| m 23 1 <| n 24 21 <| d 25 11 24 <| u (.store 1 (.t 25) (.c (.int .i64 0))) <| n 26 22 <| d 27 9 26 <| u (.store 1 (.t 27) (.t 23)) <| .nil)) (.skip)))

def mark_Mark_client_hs : List (List Nat × List Nat) := []

end Wm.F
end

section
/- PRINTED by my tool (wip/wm/tool/Gen.lean): a function as one of my machine. -/
namespace Wm.F
open Wm
set_option maxRecDepth 100000

/-- 400: (*withy/mark.Mark).finds -/
def mark_Mark_finds : AFunc where
  closed := false
  nparams := 2
  ntmps := 21
  results := []
  body := .ops (
   m 4 0 <| m 5 0 <| m 6 1 <| m 7 0 <| n 8 7 <| d 9 2 8 <| ln 10 6 9 <| m 11 1 <| m 12 0 <| n 13 12 <| d 14 8 13 <| l 15 14 <| o 16 (.call 90 [(.t 10), (.t 11), (.t 15)]) <|
   n 17 4 <| d 18 20 17 <| u (.store 1 (.t 18) (.t 6)) <| n 19 5 <| d 20 19 19 <| u (.store 1 (.t 20) (.t 16)) <| .nil)

def mark_Mark_finds_hs : List (List Nat × List Nat) := []

end Wm.F
end

section
/- PRINTED by my tool (wip/wm/tool/Gen.lean): a function as one of my machine. -/
namespace Wm.F
open Wm
set_option maxRecDepth 100000

/-- 401: (*withy/mark.Mark).look -/
def mark_Mark_look : AFunc where
  closed := false
  nparams := 3
  ntmps := 71
  results := []
  body := .seq (.ops (
   m 8 0 <| m 9 0 <| m 10 0 <| m 11 2 <| m 12 1 <| m 13 0 <| n 14 13 <| d 15 2 14 <| ln 16 6 15 <| m 17 2 <| o 18 (.call 261 [(.t 16), (.t 17)]) <|
   o 19 (.call 266 [(.t 12), (.t 18)]) <| n 20 8 <| d 21 14 20 <| u (.store 1 (.t 21) (.t 11)) <| n 22 9 <| d 23 16 22 <| u (.store 1 (.t 23) (.t 19)) <| n 24 10 <| d 25 12 24 <|
   u (.store 1 (.t 25) (.c (.int .i64 0))) <| .nil)) (
   .seq (.ops (
   m 27 0 <| n 28 27 <| d 29 16 28 <| l 30 29 <| o 31 (.call 265 [(.t 30)]) <| m 26 31 <| o 32 (.extract (.t 26) 0) <| o 33 (.extract (.t 26) 1) <|
   o 6 (.alloc [(.int .i64 0), (.int .i64 0), (.bool false), (.int .i64 0), (.int .i64 0), (.int .i64 0)]) <| u (.store 6 (.t 6) (.t 32)) <| m 7 33 <| .nil)) (
   .block 0 (.seq (.ops (
   m 38 7 <| o 39 (.not (.t 38)) <| m 40 39 <| .grd 40 false [i 41 (.fieldA 2 (.t 6)),
   i 42 (.load1 (.t 41)),
   i 43 (.not (.t 42))] <| o 44 (.pick (.t 40) (.c (.bool true)) (.t 43)) <| m 37 44 <| .nil)) (
   .cond (.t 37) (.ops (
   m 45 0 <| o 46 (.call 403 [(.t 45)]) <| .nil)) (.seq (.ops (
   d 48 0 6 <| l 49 48 <| o 50 (.cmp .eql .i64 (.t 49) (.c (.int .i64 2))) <| m 47 50 <| .nil)) (
   .cond (.t 47) (.ops (
   m 51 0 <| n 52 51 <| d 53 9 52 <| u (.store 1 (.t 53) (.c (.int .i64 7))) <| .nil)) (.seq (.ops (
   d 55 0 6 <| l 56 55 <| o 57 (.cmp .eql .i64 (.t 56) (.c (.int .i64 1))) <| m 58 57 <| .grd 58 true [i 59 (.fieldA 3 (.t 6)),
   i 60 (.load1 (.t 59)),
   i 61 (.cmp .gtr .i64 (.t 60) (.c (.int .i64 0)))] <| o 62 (.pick (.t 58) (.t 61) (.c (.bool false))) <| m 54 62 <| .nil)) (
   .cond (.t 54) (.ops (
   m 63 0 <| m 64 0 <| d 65 3 6 <| l 66 65 <| n 67 63 <| d 68 15 67 <| u (.store 1 (.t 68) (.t 66)) <| n 69 64 <| d 70 9 69 <| u (.store 1 (.t 70) (.c (.int .i64 6))) <|
   .nil)) (.ops (
   m 34 0 <| n 35 34 <| d 36 9 35 <| u (.store 1 (.t 36) (.c (.int .i64 11))) <| .nil))))))))))

def mark_Mark_look_hs : List (List Nat × List Nat) := []

end Wm.F
end

section
/- PRINTED by my tool (wip/wm/tool/Gen.lean): a function as one of my machine. -/
namespace Wm.F
open Wm
set_option maxRecDepth 100000

/-- 203: (*withy/mem.Mem).Store -/
def mem_Mem_Store : AFunc where
  closed := false
  nparams := 3
  ntmps := 15
  results := [.tmp 6]
  body := .seq (.ops (
   o 6 (.mov (.c (.bool false))) <| .nil)) (
   .seq (.seq (.ops (
   m 7 0 <| m 8 1 <| o 9 (.call 346 [(.t 7), (.t 8)]) <| o 10 (.not (.t 9)) <| .nil)) (
   .cond (.t 10) (.seq (.ops (
   o 6 (.mov (.c (.bool false))) <| .nil)) (
   .ret)) (.skip))) (
   .seq (.ops (
   m 11 0 <| m 12 1 <| m 13 2 <| o 14 (.call 347 [(.t 11), (.c (.int .i64 2)), (.t 12), (.t 13)]) <| .nil)) (
   .seq (.ops (
   o 6 (.mov (.c (.bool true))) <| .nil)) (
   .ret))))

def mem_Mem_Store_hs : List (List Nat × List Nat) := []

end Wm.F
end

section
/- PRINTED by my tool (wip/wm/tool/Gen.lean): a function as one of my machine. -/
namespace Wm.F
open Wm
set_option maxRecDepth 100000

/-- 402: withy/head.Blackened -/
def head_Blackened : AFunc where
  closed := true
  nparams := 1
  ntmps := 24
  results := [.tmp 2, .tmp 3]
  body := .seq (.ops (
   o 2 (.mov (.c (.int .u64 0))) <| o 3 (.mov (.c (.bool false))) <| .nil)) (
   .seq (.ops (
   m 7 0 <| o 8 (.call 265 [(.t 7)]) <| m 6 8 <| o 9 (.extract (.t 6) 0) <| o 10 (.extract (.t 6) 1) <|
   o 4 (.alloc [(.int .i64 0), (.int .i64 0), (.bool false), (.int .i64 0), (.int .i64 0), (.int .i64 0)]) <| u (.store 6 (.t 4) (.t 9)) <| m 5 10 <| .nil)) (
   .seq (.seq (.ops (
   m 11 5 <| o 12 (.not (.t 11)) <| m 13 12 <| .grd 13 false [i 14 (.fieldA 2 (.t 4)),
   i 15 (.load1 (.t 14)),
   i 16 (.not (.t 15))] <| o 17 (.pick (.t 13) (.c (.bool true)) (.t 16)) <| .nil)) (
   .cond (.t 17) (.seq (.ops (
   m 18 0 <| m 2 18 <| o 3 (.mov (.c (.bool false))) <| .nil)) (
   .ret)) (.skip))) (
   .seq (.ops (
   d 19 2 4 <| u (.store 1 (.t 19) (.c (.bool false))) <| .nil)) (
   .seq (.ops (
   ln 20 6 4 <| o 21 (.call 382 [(.t 20)]) <| o 22 (.extract (.t 21) 0) <| o 23 (.extract (.t 21) 1) <| m 2 22 <| m 3 23 <| .nil)) (
   .ret)))))

def head_Blackened_hs : List (List Nat × List Nat) := []

end Wm.F
end

section
/- PRINTED by my tool (wip/wm/tool/Gen.lean): a function as one of my machine. -/
namespace Wm.F
open Wm
set_option maxRecDepth 100000

/-- 403: (*withy/mark.Mark).onward -/
def mark_Mark_onward : AFunc where
  closed := false
  nparams := 1
  ntmps := 29
  results := []
  body := .block 0 (.seq (.ops (
   m 6 0 <| n 7 6 <| d 8 18 7 <| l 9 8 <| o 10 (.lenSl (.t 9)) <| o 11 (.cmp .gtr .i64 (.t 10) (.c (.int .i64 0))) <| m 5 11 <| .nil)) (
   .cond (.t 5) (.ops (
   m 12 0 <| n 13 12 <| d 14 9 13 <| u (.store 1 (.t 14) (.c (.int .i64 5))) <| .nil)) (.seq (.ops (
   m 16 0 <| n 17 16 <| d 18 13 17 <| l 19 18 <| m 20 0 <| n 21 20 <| d 22 2 21 <| d 23 0 22 <| l 24 23 <| o 25 (.cmp .lss .i64 (.t 19) (.t 24)) <| m 15 25 <| .nil)) (
   .cond (.t 15) (.ops (
   m 26 0 <| n 27 26 <| d 28 9 27 <| u (.store 1 (.t 28) (.c (.int .i64 4))) <| .nil)) (.ops (
   m 2 0 <| n 3 2 <| d 4 9 3 <| u (.store 1 (.t 4) (.c (.int .i64 14))) <| .nil))))))

def mark_Mark_onward_hs : List (List Nat × List Nat) := []

end Wm.F
end

section
/- PRINTED by my tool (wip/wm/tool/Gen.lean): a function as one of my machine. -/
namespace Wm.F
open Wm
set_option maxRecDepth 100000

def word_Pack_c1 : ACode :=
  .seq (.ops (
   o 11 (.cmp .lss .i64 (.t 10) (.t 9)) <| .nil)) (
  .seq (.cond (.t 11) (.skip) (.exit 0)) (
  .seq (.block 1 (.seq (.ops (
   o 12 (.indexA 2 (.t 8) (.t 10)) <| ln 13 2 12 <| o 7 (.alloc [(.int .i64 0), (.int .u64 0)]) <| u (.store 2 (.t 7) (.t 13)) <| .nil)) (
  .seq (.seq (.ops (
   m 14 5 <| d 15 0 7 <| l 16 15 <| o 17 (.call 441 [(.t 14), (.t 16)]) <| o 18 (.not (.t 17)) <| m 19 18 <| .grd 19 false [i 20 (.fieldA 1 (.t 7)),
   i 21 (.load1 (.t 20)),
   i 22 (.fieldA 0 (.t 7)),
   i 23 (.load1 (.t 22)),
   i 24 (.call 484 [(.t 21), (.t 23)]),
   i 25 (.not (.t 24))] <| o 26 (.pick (.t 19) (.c (.bool true)) (.t 25)) <| .nil)) (
  .cond (.t 26) (.seq (.ops (
   o 2 (.mov (.c (.int .u64 0))) <| o 3 (.mov (.c (.bool false))) <| .nil)) (
   .ret)) (.skip))) (
  .seq (.ops (
   m 27 4 <| d 28 1 7 <| l 29 28 <| m 30 5 <| o 31 (.shift true .u64 .i64 (.t 29) (.t 30)) <| o 32 (.arith .or .u64 (.t 27) (.t 31)) <| m 4 32 <| .nil)) (
  .ops (
   m 33 5 <| d 34 0 7 <| l 35 34 <| o 36 (.arith .add .i64 (.t 33) (.t 35)) <| m 5 36 <| .nil)))))) (
  .ops (
   o 37 (.arith .add .i64 (.t 10) (.c (.int .i64 1))) <| m 10 37 <| .nil))))

def word_Pack_c0 : ACode :=
  .seq (.ops (
   m 38 4 <| m 2 38 <| o 3 (.mov (.c (.bool true))) <| .nil)) (
  .ret)

/-- 443: withy/word.Pack -/
def word_Pack : AFunc where
  closed := false
  nparams := 1
  ntmps := 39
  results := [.tmp 2, .tmp 3]
  body := .seq (.ops (
   o 2 (.mov (.c (.int .u64 0))) <| o 3 (.mov (.c (.bool false))) <| .nil)) (
   .seq (.ops (
   o 4 (.mov (.c (.int .u64 0))) <| .nil)) (
   .seq (.ops (
   o 5 (.mov (.c (.int .i64 0))) <| .nil)) (
   .seq (.seq (.ops (
   m 8 0 <| o 9 (.lenSl (.t 8)) <| o 10 (.mov (.c (.int .i64 0))) <| .nil)) (
   .block 0 (.loop [4, 5, 8, 9, 10] [2, 3, 4] (word_Pack_c1)))) (
   word_Pack_c0))))

def word_Pack_hs : List (List Nat × List Nat) := [([4, 5, 8, 9, 10], [2, 3, 4])]

end Wm.F
end

section
/- PRINTED by my tool (wip/wm/tool/Gen.lean): a function as one of my machine. -/
namespace Wm.F
open Wm
set_option maxRecDepth 100000

/-- 444: withy/head.bit -/
def head_bit : AFunc where
  closed := true
  nparams := 1
  ntmps := 4
  results := [.tmp 2]
  body := .seq (.ops (
   o 2 (.mov (.c (.int .u64 0))) <| .nil)) (
   .seq (.seq (.ops (
   m 3 0 <| .nil)) (
   .cond (.t 3) (.seq (.ops (
   o 2 (.mov (.c (.int .u64 1))) <| .nil)) (
   .ret)) (.skip))) (
   .seq (.ops (
   o 2 (.mov (.c (.int .u64 0))) <| .nil)) (
   .ret)))

def head_bit_hs : List (List Nat × List Nat) := []

end Wm.F
end

section
/- PRINTED by my tool (wip/wm/tool/Gen.lean): a function as one of my machine. -/
namespace Wm.F
open Wm
set_option maxRecDepth 100000

/-- 346: (*withy/mem.Mem).there -/
def mem_Mem_there : AFunc where
  closed := false
  nparams := 2
  ntmps := 13
  results := [.tmp 4]
  body := .seq (.ops (
   o 4 (.mov (.c (.bool false))) <| .nil)) (
   .seq (.ops (
   m 5 1 <| o 6 (.cmp .geq .i64 (.t 5) (.c (.int .i64 0))) <| m 7 6 <| .grd 7 true [i 8 (.mov (.t 1)),
   i 9 (.mov (.t 0)),
   i 10 (.call 413 [(.t 9)]),
   i 11 (.cmp .lss .i64 (.t 8) (.t 10))] <| o 12 (.pick (.t 7) (.t 11) (.c (.bool false))) <| m 4 12 <| .nil)) (
   .ret))

def mem_Mem_there_hs : List (List Nat × List Nat) := []

end Wm.F
end

section
/- PRINTED by my tool (wip/wm/tool/Gen.lean): a function as one of my machine. -/
namespace Wm.F
open Wm
set_option maxRecDepth 100000

/-- 347: (*withy/mem.Mem).touch -/
def mem_Mem_touch : AFunc where
  closed := false
  nparams := 4
  ntmps := 36
  results := []
  body := .seq (.ops (
   m 8 0 <| n 9 8 <| d 10 1 9 <| l 11 10 <| o 12 (.arith .add .i64 (.t 11) (.c (.int .i64 1))) <| n 13 8 <| d 14 1 13 <| u (.store 1 (.t 14) (.t 12)) <| .nil)) (
   .seq (.ops (
   m 15 0 <| m 16 1 <| m 17 2 <| m 18 0 <| n 19 18 <| d 20 0 19 <| l 21 20 <| m 22 2 <| o 23 (.indexA 1 (.t 21) (.t 22)) <| l 24 23 <| m 25 3 <|
   o 26 (.build [(.int .i64 0), (.int .i64 0), (.int .u64 0), (.int .u64 0)] [(0, 1, (.t 16)), (1, 1, (.t 17)), (2, 1, (.t 24)), (3, 1, (.t 25))]) <| n 27 15 <| d 28 2 27 <|
   u (.store 4 (.t 28) (.t 26)) <| .nil)) (
   .ops (
   m 29 0 <| n 30 29 <| d 31 0 30 <| l 32 31 <| m 33 2 <| m 34 3 <| o 35 (.indexA 1 (.t 32) (.t 33)) <| u (.store 1 (.t 35) (.t 34)) <| .nil)))

def mem_Mem_touch_hs : List (List Nat × List Nat) := []

end Wm.F
end

section
/- PRINTED by my tool (wip/wm/tool/Gen.lean): a function as one of my machine. -/
namespace Wm.F
open Wm
set_option maxRecDepth 100000

/-- 90: withy/shade.NewShade -/
def shade_NewShade : AFunc where
  closed := false
  nparams := 3
  ntmps := 17
  results := [.tmp 6]
  body := .seq (.ops (
   o 3 (.box (.t 0)) <| o 6 (.mov (.c .nilp)) <| .nil)) (
   .seq (.ops (
   ln 8 6 3 <| m 9 1 <| o 10 (.call 261 [(.t 8), (.t 9)]) <| m 7 10 <| .nil)) (
   .seq (.seq (.ops (
   m 11 7 <| o 12 (.cmp .lss .i64 (.t 11) (.c (.int .i64 0))) <| .nil)) (
   .cond (.t 12) (.seq (.ops (
   o 6 (.mov (.c .nilp)) <| .nil)) (
   .ret)) (.skip))) (
   .seq (.ops (
   m 13 7 <| m 14 2 <| o 15 (.build [(.bool false), (.int .i64 0), (.int .u64 0), (.int .i64 0), (.int .u64 0)] [(1, 1, (.t 13)), (2, 1, (.t 14))]) <| o 16 (.box (.t 15)) <|
   m 6 16 <| .nil)) (
   .ret))))

def shade_NewShade_hs : List (List Nat × List Nat) := []

end Wm.F
end

section
/- PRINTED by my tool (wip/wm/tool/Gen.lean): a function as one of my machine. -/
namespace Wm.F
open Wm
set_option maxRecDepth 100000

/-- 484: withy/word.Fits -/
def word_Fits : AFunc where
  closed := true
  nparams := 2
  ntmps := 17
  results := [.tmp 4]
  body := .seq (.ops (
   o 4 (.mov (.c (.bool false))) <| .nil)) (
   .seq (.ops (
   m 5 1 <| o 6 (.cmp .geq .i64 (.t 5) (.c (.int .i64 0))) <| m 7 6 <| .grd 7 true [i 8 (.mov (.t 1)),
   i 9 (.cmp .gtr .i64 (.t 8) (.c (.int .i64 63))),
   i 10 (.mov (.t 9))] <| .grd 10 false [i 11 (.mov (.t 0)),
   i 12 (.mov (.t 1)),
   i 13 (.shift false .u64 .i64 (.t 11) (.t 12)),
   i 14 (.cmp .eql .u64 (.t 13) (.c (.int .u64 0)))] <| .grd 7 true [i 15 (.pick (.t 10) (.c (.bool true)) (.t 14))] <| o 16 (.pick (.t 7) (.t 15) (.c (.bool false))) <| m 4 16 <|
   .nil)) (
   .ret))

def word_Fits_hs : List (List Nat × List Nat) := []

end Wm.F
end

section
/- PRINTED by my tool (wip/wm/tool/Gen.lean): a function as one of my machine. -/
namespace Wm.F
open Wm
set_option maxRecDepth 100000

/-- 413: (*withy/mem.Mem).Size -/
def mem_Mem_Size : AFunc where
  closed := false
  nparams := 1
  ntmps := 10
  results := [.tmp 2]
  body := .seq (.ops (
   o 2 (.mov (.c (.int .i64 0))) <| .nil)) (
   .seq (.seq (.ops (
   m 3 0 <| o 4 (.eq false .ptr (.t 3) (.c .nilp)) <| .nil)) (
   .cond (.t 4) (.seq (.ops (
   o 2 (.mov (.c (.int .i64 0))) <| .nil)) (
   .ret)) (.skip))) (
   .seq (.ops (
   m 5 0 <| n 6 5 <| d 7 0 6 <| l 8 7 <| o 9 (.lenSl (.t 8)) <| m 2 9 <| .nil)) (
   .ret)))

def mem_Mem_Size_hs : List (List Nat × List Nat) := []

end Wm.F
end

section
/- PRINTED by my tool (wip/wm/tool/Gen.lean): a function as one of my machine. -/
namespace Wm.F
open Wm
set_option maxRecDepth 100000

/-- 342: (*withy/arena.Free).Step -/
def arena_Free_Step : AFunc where
  closed := false
  nparams := 2
  ntmps := 117
  results := [.tmp 4]
  body := .seq (.ops (
   o 4 (.mov (.c (.bool false))) <| .nil)) (
   .seq (.seq (.ops (
   m 9 0 <| o 10 (.eq false .ptr (.t 9) (.c .nilp)) <| .nil)) (
   .cond (.t 10) (.seq (.ops (
   o 4 (.mov (.c (.bool true))) <| .nil)) (
   .ret)) (.skip))) (
   .seq (.seq (.ops (
   m 11 0 <| n 12 11 <| d 13 11 12 <| l 14 13 <| .nil)) (
   .block 0 (.seq (.ops (
   o 16 (.cmp .eql .i64 (.t 14) (.c (.int .i64 1))) <| m 15 16 <| .nil)) (
   .cond (.t 15) (.seq (.ops (
   m 18 1 <| m 19 0 <| n 20 19 <| d 21 2 20 <| ln 22 6 21 <| m 23 0 <| n 24 23 <| d 25 8 24 <| l 26 25 <| m 29 0 <| n 30 29 <| d 31 2 30 <| d 32 4 31 <| l 33 32 <|
   .op ⟨(some 27), .call 261 [(.t 22), (.t 26)], [{ g := none, op := .load1 (.t 32), d := 33 }]⟩ <|
   .op ⟨(some 28), .call 266 [(.t 18), (.t 27)], [{ g := none, op := .load1 (.t 32), d := 33 }]⟩ <| o 34 (.call 409 [(.t 28), (.t 33)]) <| m 17 34 <| o 35 (.extract (.t 17) 0) <|
   o 36 (.extract (.t 17) 1) <| m 5 35 <| m 6 36 <| .nil)) (
   .seq (.ops (
   m 37 0 <| m 38 0 <| m 39 5 <| n 40 37 <| d 41 9 40 <| u (.store 1 (.t 41) (.t 39)) <| n 42 38 <| d 43 11 42 <| u (.store 1 (.t 43) (.c (.int .i64 3))) <| .nil)) (
   .seq (.ops (
   m 44 6 <| o 45 (.not (.t 44)) <| .nil)) (
   .cond (.t 45) (.ops (
   m 46 0 <| n 47 46 <| d 48 11 47 <| u (.store 1 (.t 48) (.c (.int .i64 5))) <| .nil)) (.skip))))) (.seq (.ops (
   o 50 (.cmp .eql .i64 (.t 14) (.c (.int .i64 3))) <| m 49 50 <| .nil)) (
   .cond (.t 49) (.seq (.ops (
   m 51 1 <| m 52 0 <| n 53 52 <| d 54 2 53 <| ln 55 6 54 <| m 56 0 <| n 57 56 <| d 58 8 57 <| l 59 58 <| m 61 0 <| n 62 61 <| d 63 9 62 <| l 64 63 <|
   .op ⟨(some 60), .call 261 [(.t 55), (.t 59)], [{ g := none, op := .load1 (.t 63), d := 64 }]⟩ <| o 65 (.call 203 [(.t 51), (.t 60), (.t 64)]) <| .nil)) (
   .seq (.ops (
   m 66 0 <| m 67 0 <| m 68 0 <| n 69 68 <| d 70 2 69 <| ln 71 6 70 <| m 72 0 <| n 73 72 <| d 74 8 73 <| l 75 74 <| o 76 (.call 410 [(.t 71), (.t 75)]) <| n 77 66 <| d 78 10 77 <|
   u (.store 1 (.t 78) (.t 76)) <| n 79 67 <| d 80 11 79 <| u (.store 1 (.t 80) (.c (.int .i64 4))) <| .nil)) (
   .seq (.ops (
   m 82 0 <| n 83 82 <| d 84 9 83 <| l 85 84 <| o 86 (.call 265 [(.t 85)]) <| m 81 86 <| o 87 (.extract (.t 81) 0) <| o 88 (.extract (.t 81) 1) <|
   o 7 (.alloc [(.int .i64 0), (.int .i64 0), (.bool false), (.int .i64 0), (.int .i64 0), (.int .i64 0)]) <| u (.store 6 (.t 7) (.t 87)) <| m 8 88 <| .nil)) (
   .seq (.ops (
   d 89 0 7 <| l 90 89 <| o 91 (.cmp .eql .i64 (.t 90) (.c (.int .i64 4))) <| .nil)) (
   .cond (.t 91) (.ops (
   m 92 0 <| m 93 0 <| n 94 92 <| d 95 1 94 <| u (.store 1 (.t 95) (.c (.bool true))) <| n 96 93 <| d 97 11 96 <| u (.store 1 (.t 97) (.c (.int .i64 5))) <|
   .nil)) (.skip)))))) (.seq (.ops (
   o 99 (.cmp .eql .i64 (.t 14) (.c (.int .i64 4))) <| m 98 99 <| .nil)) (
   .cond (.t 98) (.seq (.ops (
   m 100 0 <| n 101 100 <| d 102 10 101 <| l 103 102 <| m 104 1 <| o 105 (.call 411 [(.t 103), (.t 104)]) <| .nil)) (
   .cond (.t 105) (.ops (
   m 106 0 <| m 107 0 <| n 108 106 <| d 109 0 108 <| u (.store 1 (.t 109) (.c (.bool true))) <| n 110 107 <| d 111 11 110 <| u (.store 1 (.t 111) (.c (.int .i64 5))) <|
   .nil)) (.skip))) (.skip))))))))) (
   .seq (.ops (
   m 112 0 <| n 113 112 <| d 114 11 113 <| l 115 114 <| o 116 (.cmp .eql .i64 (.t 115) (.c (.int .i64 5))) <| m 4 116 <| .nil)) (
   .ret))))

def arena_Free_Step_hs : List (List Nat × List Nat) := []

end Wm.F
end

section
/- PRINTED by my tool (wip/wm/tool/Gen.lean): a function as one of my machine. -/
namespace Wm.F
open Wm
set_option maxRecDepth 100000

/-- 341: withy/arena.NewFree -/
def arena_NewFree : AFunc where
  closed := false
  nparams := 2
  ntmps := 13
  results := [.tmp 4]
  body := .seq (.ops (
   o 2 (.box (.t 0)) <| o 4 (.mov (.c .nilp)) <| .nil)) (
   .seq (.seq (.ops (
   ln 5 6 2 <| m 6 1 <| o 7 (.call 261 [(.t 5), (.t 6)]) <| o 8 (.cmp .lss .i64 (.t 7) (.c (.int .i64 0))) <| .nil)) (
   .cond (.t 8) (.seq (.ops (
   o 4 (.mov (.c .nilp)) <| .nil)) (
   .ret)) (.skip))) (
   .seq (.ops (
   ln 9 6 2 <| m 10 1 <|
   o 11 (.build [(.bool false), (.bool false), (.int .i64 0), (.int .i64 0), (.int .i64 0), (.int .i64 0), (.int .i64 0), (.int .i64 0), (.int .i64 0), (.int .u64 0), .nilp, (.int .i64 0)] [(2, 6, (.t 9)), (8, 1, (.t 10)), (11, 1, (.c (.int .i64 1)))]) <| o 12 (.box (.t 11)) <| m 4 12 <| .nil)) (
   .ret)))

def arena_NewFree_hs : List (List Nat × List Nat) := []

end Wm.F
end

section
/- PRINTED by my tool (wip/wm/tool/Gen.lean): a function as one of my machine. -/
namespace Wm.F
open Wm
set_option maxRecDepth 100000

/-- 152: (*withy/field.Book).Born -/
def field_Book_Born : AFunc where
  closed := false
  nparams := 2
  ntmps := 20
  results := [.tmp 4]
  body := .seq (.ops (
   o 4 (.mov (.c (.int .i64 0))) <| .nil)) (
   .seq (.seq (.ops (
   m 7 0 <| o 8 (.eq true .ptr (.t 7) (.c .nilp)) <| .nil)) (
   .cond (.t 8) (.seq (.ops (
   m 10 0 <| n 11 10 <| d 12 1 11 <| l 13 12 <| m 14 1 <| o 15 (.lookup .int (.int .i64 0) true (.t 13) (.t 14)) <| m 9 15 <| o 16 (.extract (.t 9) 0) <|
   o 17 (.extract (.t 9) 1) <| m 5 16 <| m 6 17 <| .nil)) (
   .seq (.ops (
   m 18 6 <| .nil)) (
   .cond (.t 18) (.seq (.ops (
   m 19 5 <| m 4 19 <| .nil)) (
   .ret)) (.skip)))) (.skip))) (
   .seq (.ops (
   o 4 (.mov (.c (.int .i64 (-1)))) <| .nil)) (
   .ret)))

def field_Book_Born_hs : List (List Nat × List Nat) := []

end Wm.F
end

section
/- PRINTED by my tool (wip/wm/tool/Gen.lean): a function as one of my machine. -/
namespace Wm.F
open Wm
set_option maxRecDepth 100000

/-- 153: (*withy/field.Book).Turned -/
def field_Book_Turned : AFunc where
  closed := false
  nparams := 2
  ntmps := 20
  results := [.tmp 4]
  body := .seq (.ops (
   o 4 (.mov (.c (.int .i64 0))) <| .nil)) (
   .seq (.seq (.ops (
   m 7 0 <| o 8 (.eq true .ptr (.t 7) (.c .nilp)) <| .nil)) (
   .cond (.t 8) (.seq (.ops (
   m 10 0 <| n 11 10 <| d 12 2 11 <| l 13 12 <| m 14 1 <| o 15 (.lookup .int (.int .i64 0) true (.t 13) (.t 14)) <| m 9 15 <| o 16 (.extract (.t 9) 0) <|
   o 17 (.extract (.t 9) 1) <| m 5 16 <| m 6 17 <| .nil)) (
   .seq (.ops (
   m 18 6 <| .nil)) (
   .cond (.t 18) (.seq (.ops (
   m 19 5 <| m 4 19 <| .nil)) (
   .ret)) (.skip)))) (.skip))) (
   .seq (.ops (
   o 4 (.mov (.c (.int .i64 (-1)))) <| .nil)) (
   .ret)))

def field_Book_Turned_hs : List (List Nat × List Nat) := []

end Wm.F
end

section
/- PRINTED by my tool (wip/wm/tool/Gen.lean): a function as one of my machine. -/
namespace Wm.F
open Wm
set_option maxRecDepth 100000

/-- 133: (*withy/field.Lay).Step -/
def field_Lay_Step : AFunc where
  closed := false
  nparams := 2
  ntmps := 250
  results := [.tmp 4]
  body := .seq (.ops (
   o 4 (.mov (.c (.bool false))) <| .nil)) (
   .seq (.seq (.ops (
   m 6 0 <| o 7 (.eq false .ptr (.t 6) (.c .nilp)) <| .nil)) (
   .cond (.t 7) (.seq (.ops (
   o 4 (.mov (.c (.bool true))) <| .nil)) (
   .ret)) (.skip))) (
   .seq (.ops (
   m 8 0 <| n 9 8 <| d 10 2 9 <| l 11 10 <| n 12 11 <| d 13 0 12 <| ln 14 6 13 <|
   o 5 (.alloc [(.int .i64 0), (.int .i64 0), (.int .i64 0), (.int .i64 0), (.int .i64 0), (.int .i64 0)]) <| u (.store 6 (.t 5) (.t 14)) <| .nil)) (
   .seq (.seq (.ops (
   m 15 0 <| n 16 15 <| d 17 8 16 <| l 18 17 <| .nil)) (
   .block 0 (.seq (.ops (
   o 20 (.cmp .eql .i64 (.t 18) (.c (.int .i64 0))) <| m 19 20 <| .nil)) (
   .cond (.t 19) (.seq (.seq (.ops (
   m 21 0 <| n 22 21 <| d 23 2 22 <| l 24 23 <| m 25 1 <| o 26 (.call 303 [(.t 24), (.t 25)]) <| o 27 (.not (.t 26)) <| .nil)) (
   .cond (.t 27) (.exit 0) (.skip))) (
   .seq (.ops (
   m 28 0 <| n 29 28 <| d 30 8 29 <| u (.store 1 (.t 30) (.c (.int .i64 2))) <| .nil)) (
   .seq (.ops (
   m 31 0 <| n 32 31 <| d 33 4 32 <| l 34 33 <| o 35 (.cmp .geq .i64 (.t 34) (.c (.int .i64 (-1)))) <| m 36 35 <| .grd 36 true [i 37 (.mov (.t 0)),
   i 38 (.nilc (.t 37)),
   i 39 (.fieldA 2 (.t 38)),
   i 40 (.load1 (.t 39)),
   i 41 (.nilc (.t 40)),
   i 42 (.fieldA 8 (.t 41)),
   i 43 (.load1 (.t 42)),
   i 44 (.cmp .geq .i64 (.t 43) (.c (.int .i64 0)))] <| o 45 (.pick (.t 36) (.t 44) (.c (.bool false))) <| .nil)) (
   .cond (.t 45) (.ops (
   m 46 0 <| n 47 46 <| d 48 8 47 <| u (.store 1 (.t 48) (.c (.int .i64 1))) <| .nil)) (.seq (.ops (
   m 49 0 <| n 50 49 <| d 51 4 50 <| l 52 51 <| o 53 (.cmp .geq .i64 (.t 52) (.c (.int .i64 0))) <| .nil)) (
   .cond (.t 53) (.ops (
   m 54 0 <| o 55 (.call 307 [(.t 54)]) <| .nil)) (.skip))))))) (.seq (.ops (
   o 57 (.cmp .eql .i64 (.t 18) (.c (.int .i64 1))) <| m 56 57 <| .nil)) (
   .cond (.t 56) (.seq (.ops (
   m 58 0 <| n 59 58 <| d 60 8 59 <| u (.store 1 (.t 60) (.c (.int .i64 2))) <| .nil)) (
   .seq (.ops (
   ln 61 6 5 <| m 62 1 <| ln 63 6 5 <| m 64 0 <| n 65 64 <| d 66 2 65 <| l 67 66 <| n 68 67 <| d 69 8 68 <| l 70 69 <| m 74 0 <| n 75 74 <| d 76 4 75 <| l 77 76 <|
   .op ⟨(some 71), .call 305 [(.t 63), (.t 70), (.c (.int .i64 0))], [{ g := none, op := .load1 (.t 76), d := 77 }, { g := none, op := .loadN 6 (.t 5), d := 61 }]⟩ <|
   .op ⟨(some 72), .call 266 [(.t 62), (.t 71)], [{ g := none, op := .load1 (.t 76), d := 77 }, { g := none, op := .loadN 6 (.t 5), d := 61 }]⟩ <|
   .op ⟨(some 73), .call 304 [(.t 61), (.t 72)], [{ g := none, op := .load1 (.t 76), d := 77 }]⟩ <| o 78 (.cmp .neq .i64 (.t 73) (.t 77)) <| .nil)) (
   .cond (.t 78) (.ops (
   m 79 0 <| o 80 (.call 307 [(.t 79)]) <| .nil)) (.skip)))) (.seq (.ops (
   o 82 (.cmp .eql .i64 (.t 18) (.c (.int .i64 2))) <| m 81 82 <| .nil)) (
   .cond (.t 81) (.seq (.ops (
   m 83 1 <| ln 84 6 5 <| m 85 0 <| n 86 85 <| d 87 3 86 <| l 88 87 <| m 90 0 <| n 91 90 <| d 92 2 91 <| l 93 92 <| n 94 93 <| d 95 8 94 <| l 96 95 <|
   o 97 (.arith .add .i64 (.t 96) (.c (.int .i64 1))) <| o 98 (.conv .u64 (.t 97)) <|
   .op ⟨(some 89), .call 305 [(.t 84), (.t 88), (.c (.int .i64 2))], [{ g := none, op := .load1 (.t 95), d := 96 }, { g := none, op := .load1 (.t 92), d := 93 }]⟩ <|
   o 99 (.call 203 [(.t 83), (.t 89), (.t 98)]) <| .nil)) (
   .seq (.ops (
   m 100 0 <| n 101 100 <| d 102 8 101 <| u (.store 1 (.t 102) (.c (.int .i64 4))) <| .nil)) (
   .seq (.ops (
   m 103 0 <| n 104 103 <| d 105 2 104 <| l 106 105 <| n 107 106 <| d 108 8 107 <| l 109 108 <| o 110 (.cmp .geq .i64 (.t 109) (.c (.int .i64 0))) <| m 111 110 <|
   .grd 111 true [i 112 (.mov (.t 0)),
   i 113 (.nilc (.t 112)),
   i 114 (.fieldA 5 (.t 113)),
   i 115 (.load1 (.t 114)),
   i 116 (.call 308 [(.t 115)])] <| o 117 (.pick (.t 111) (.t 116) (.c (.bool false))) <| .nil)) (
   .cond (.t 117) (.ops (
   m 118 0 <| m 119 0 <| ln 120 6 5 <| m 121 0 <| n 122 121 <| d 123 2 122 <| l 124 123 <| n 125 124 <| d 126 8 125 <| l 127 126 <| m 128 0 <| n 129 128 <| d 130 5 129 <|
   l 131 130 <| o 132 (.call 90 [(.t 120), (.t 127), (.t 131)]) <| n 133 118 <| d 134 6 133 <| u (.store 1 (.t 134) (.t 132)) <| n 135 119 <| d 136 8 135 <|
   u (.store 1 (.t 136) (.c (.int .i64 3))) <| .nil)) (.skip))))) (.seq (.ops (
   o 138 (.cmp .eql .i64 (.t 18) (.c (.int .i64 3))) <| m 137 138 <| .nil)) (
   .cond (.t 137) (.seq (.ops (
   m 139 0 <| n 140 139 <| d 141 6 140 <| l 142 141 <| m 143 1 <| o 144 (.call 91 [(.t 142), (.t 143)]) <| .nil)) (
   .cond (.t 144) (.ops (
   m 145 0 <| n 146 145 <| d 147 8 146 <| u (.store 1 (.t 147) (.c (.int .i64 4))) <| .nil)) (.skip))) (.seq (.ops (
   o 149 (.cmp .eql .i64 (.t 18) (.c (.int .i64 4))) <| m 148 149 <| .nil)) (
   .cond (.t 148) (.seq (.ops (
   m 150 1 <| m 151 0 <| n 152 151 <| d 153 2 152 <| l 154 153 <| n 155 154 <| d 156 7 155 <| l 157 156 <| m 158 0 <| n 159 158 <| d 160 2 159 <| l 161 160 <| n 162 161 <|
   d 163 8 162 <| l 164 163 <| o 165 (.arith .add .i64 (.t 164) (.c (.int .i64 1))) <| o 166 (.conv .u64 (.t 165)) <| m 167 0 <| n 168 167 <| d 169 3 168 <| l 170 169 <|
   o 171 (.arith .add .i64 (.t 170) (.c (.int .i64 1))) <| o 172 (.conv .u64 (.t 171)) <| o 173 (.call 269 [(.t 150), (.t 157), (.t 166), (.t 172)]) <| .nil)) (
   .cond (.t 173) (.ops (
   m 174 0 <| m 175 0 <| ln 176 6 5 <| m 177 0 <| n 178 177 <| d 179 3 178 <| l 180 179 <| m 181 0 <| n 182 181 <| d 183 2 182 <| l 184 183 <| n 185 184 <| d 186 6 185 <|
   l 187 186 <| o 188 (.call 151 [(.t 176), (.t 180), (.t 187)]) <| n 189 174 <| d 190 7 189 <| u (.store 1 (.t 190) (.t 188)) <| n 191 175 <| d 192 8 191 <|
   u (.store 1 (.t 192) (.c (.int .i64 5))) <| .nil)) (.ops (
   m 193 0 <| m 194 0 <| ln 195 6 5 <| m 196 0 <| n 197 196 <| d 198 2 197 <| l 199 198 <| n 200 199 <| d 201 6 200 <| l 202 201 <| m 203 0 <| n 204 203 <| d 205 2 204 <|
   l 206 205 <| n 207 206 <| d 208 7 207 <| l 209 208 <|
   o 210 (.build [(.int .i64 0), (.int .i64 0), (.int .i64 0), (.int .i64 0), (.int .i64 0), (.int .i64 0), .nilp, (.int .i64 0), (.int .i64 0), (.int .i64 0), .nilp, (.int .i64 0)] [(0, 6, (.t 195)), (6, 1, (.t 202)), (7, 1, (.t 209))]) <| o 211 (.box (.t 210)) <| n 212 193 <| d 213 2 212 <| u (.store 1 (.t 213) (.t 211)) <| n 214 194 <| d 215 8 214 <| u (.store 1 (.t 215) (.c (.int .i64 0))) <| .nil)))) (.seq (.ops (
   o 217 (.cmp .eql .i64 (.t 18) (.c (.int .i64 5))) <| m 216 217 <| .nil)) (
   .cond (.t 216) (.seq (.ops (
   m 218 0 <| n 219 218 <| d 220 7 219 <| l 221 220 <| m 222 1 <| o 223 (.call 150 [(.t 221), (.t 222)]) <| .nil)) (
   .cond (.t 223) (.ops (
   m 224 0 <| m 225 0 <| m 226 0 <| m 227 0 <| n 228 227 <| d 229 2 228 <| l 230 229 <| n 231 230 <| d 232 6 231 <| l 233 232 <| m 234 0 <| n 235 234 <| d 236 3 235 <|
   l 237 236 <| o 238 (.call 152 [(.t 233), (.t 237)]) <| n 239 224 <| d 240 0 239 <| u (.store 1 (.t 240) (.c (.bool true))) <| n 241 225 <| d 242 1 241 <|
   u (.store 1 (.t 242) (.t 238)) <| n 243 226 <| d 244 8 243 <| u (.store 1 (.t 244) (.c (.int .i64 6))) <| .nil)) (.skip))) (.skip))))))))))))))) (
   .seq (.ops (
   m 245 0 <| n 246 245 <| d 247 8 246 <| l 248 247 <| o 249 (.cmp .eql .i64 (.t 248) (.c (.int .i64 6))) <| m 4 249 <| .nil)) (
   .ret)))))

def field_Lay_Step_hs : List (List Nat × List Nat) := []

end Wm.F
end

section
/- PRINTED by my tool (wip/wm/tool/Gen.lean): a function as one of my machine. -/
namespace Wm.F
open Wm
set_option maxRecDepth 100000

/-- 307: (*withy/field.Lay).refuse -/
def field_Lay_refuse : AFunc where
  closed := false
  nparams := 1
  ntmps := 13
  results := []
  body := .ops (
   m 2 0 <| m 3 0 <| m 4 0 <| n 5 4 <| d 6 2 5 <| l 7 6 <| o 8 (.call 306 [(.t 7)]) <| n 9 2 <| d 10 1 9 <| u (.store 1 (.t 10) (.t 8)) <| n 11 3 <| d 12 8 11 <|
   u (.store 1 (.t 12) (.c (.int .i64 6))) <| .nil)

def field_Lay_refuse_hs : List (List Nat × List Nat) := []

end Wm.F
end

section
/- PRINTED by my tool (wip/wm/tool/Gen.lean): a function as one of my machine. -/
namespace Wm.F
open Wm
set_option maxRecDepth 100000

/-- 148: withy/field.NewBook -/
def field_NewBook : AFunc where
  closed := false
  nparams := 0
  ntmps := 5
  results := [.tmp 0]
  body := .seq (.ops (
   o 0 (.mov (.c .nilp)) <| .nil)) (
   .seq (.ops (
   o 1 (.mkMap) <| o 2 (.mkMap) <| o 3 (.build [(.int .i64 0), .nilmap, .nilmap] [(1, 1, (.t 1)), (2, 1, (.t 2))]) <| o 4 (.box (.t 3)) <| m 0 4 <| .nil)) (
   .ret))

def field_NewBook_hs : List (List Nat × List Nat) := []

end Wm.F
end

section
/- PRINTED by my tool (wip/wm/tool/Gen.lean): a function as one of my machine. -/
namespace Wm.F
open Wm
set_option maxRecDepth 100000

/-- 132: withy/field.NewLay -/
def field_NewLay : AFunc where
  closed := false
  nparams := 7
  ntmps := 35
  results := [.tmp 14]
  body := .seq (.ops (
   o 7 (.box (.t 0)) <| o 14 (.mov (.c .nilp)) <| .nil)) (
   .seq (.ops (
   ln 16 6 7 <| m 17 1 <| m 18 2 <| m 19 6 <| o 20 (.call 302 [(.t 16), (.t 17), (.t 18), (.t 19)]) <| m 15 20 <| .nil)) (
   .seq (.seq (.ops (
   m 21 15 <| o 22 (.eq false .ptr (.t 21) (.c .nilp)) <| m 23 22 <| .grd 23 false [i 24 (.loadN 6 (.t 7)),
   i 25 (.mov (.t 3)),
   i 26 (.call 261 [(.t 24), (.t 25)]),
   i 27 (.cmp .lss .i64 (.t 26) (.c (.int .i64 0)))] <| o 28 (.pick (.t 23) (.c (.bool true)) (.t 27)) <| .nil)) (
   .cond (.t 28) (.seq (.ops (
   o 14 (.mov (.c .nilp)) <| .nil)) (
   .ret)) (.skip))) (
   .seq (.ops (
   m 29 15 <| m 30 3 <| m 31 4 <| m 32 5 <|
   o 33 (.build [(.bool false), (.int .i64 0), .nilp, (.int .i64 0), (.int .i64 0), (.int .u64 0), .nilp, .nilp, (.int .i64 0)] [(2, 1, (.t 29)), (3, 1, (.t 30)), (4, 1, (.t 31)), (5, 1, (.t 32))]) <| o 34 (.box (.t 33)) <| m 14 34 <| .nil)) (
   .ret))))

def field_NewLay_hs : List (List Nat × List Nat) := []

end Wm.F
end

section
/- PRINTED by my tool (wip/wm/tool/Gen.lean): a function as one of my machine. -/
namespace Wm.F
open Wm
set_option maxRecDepth 100000

/-- 127: withy/field.NewRead -/
def field_NewRead : AFunc where
  closed := false
  nparams := 4
  ntmps := 20
  results := [.tmp 8]
  body := .seq (.ops (
   o 4 (.box (.t 0)) <| o 8 (.mov (.c .nilp)) <| .nil)) (
   .seq (.ops (
   ln 10 6 4 <| m 11 1 <| m 12 2 <| m 13 3 <| o 14 (.call 302 [(.t 10), (.t 11), (.t 12), (.t 13)]) <| m 9 14 <| .nil)) (
   .seq (.seq (.ops (
   m 15 9 <| o 16 (.eq false .ptr (.t 15) (.c .nilp)) <| .nil)) (
   .cond (.t 16) (.seq (.ops (
   o 8 (.mov (.c .nilp)) <| .nil)) (
   .ret)) (.skip))) (
   .seq (.ops (
   m 17 9 <| o 18 (.build [(.int .i64 0), (.int .i64 0), (.int .i64 0), .nilp, (.int .i64 0)] [(0, 1, (.c (.int .i64 (-1)))), (1, 1, (.c (.int .i64 (-1)))), (3, 1, (.t 17))]) <|
   o 19 (.box (.t 18)) <| m 8 19 <| .nil)) (
   .ret))))

def field_NewRead_hs : List (List Nat × List Nat) := []

end Wm.F
end

section
/- PRINTED by my tool (wip/wm/tool/Gen.lean): a function as one of my machine. -/
namespace Wm.F
open Wm
set_option maxRecDepth 100000

/-- 146: withy/field.NewSee -/
def field_NewSee : AFunc where
  closed := false
  nparams := 5
  ntmps := 23
  results := [.tmp 10]
  body := .seq (.ops (
   o 5 (.box (.t 0)) <| o 10 (.mov (.c .nilp)) <| .nil)) (
   .seq (.ops (
   ln 12 6 5 <| m 13 1 <| m 14 2 <| m 15 4 <| o 16 (.call 302 [(.t 12), (.t 13), (.t 14), (.t 15)]) <| m 11 16 <| .nil)) (
   .seq (.seq (.ops (
   m 17 11 <| o 18 (.eq false .ptr (.t 17) (.c .nilp)) <| .nil)) (
   .cond (.t 18) (.seq (.ops (
   o 10 (.mov (.c .nilp)) <| .nil)) (
   .ret)) (.skip))) (
   .seq (.ops (
   m 19 11 <| m 20 3 <| o 21 (.build [(.int .i64 0), .nilp, (.int .u64 0), (.int .i64 0), (.int .i64 0)] [(0, 1, (.c (.int .i64 (-1)))), (1, 1, (.t 19)), (2, 1, (.t 20))]) <|
   o 22 (.box (.t 21)) <| m 10 22 <| .nil)) (
   .ret))))

def field_NewSee_hs : List (List Nat × List Nat) := []

end Wm.F
end

section
/- PRINTED by my tool (wip/wm/tool/Gen.lean): a function as one of my machine. -/
namespace Wm.F
open Wm
set_option maxRecDepth 100000

/-- 151: withy/field.NewStamp -/
def field_NewStamp : AFunc where
  closed := false
  nparams := 3
  ntmps := 20
  results := [.tmp 6]
  body := .seq (.ops (
   o 3 (.box (.t 0)) <| o 6 (.mov (.c .nilp)) <| .nil)) (
   .seq (.seq (.ops (
   ln 7 6 3 <| m 8 1 <| o 9 (.call 261 [(.t 7), (.t 8)]) <| o 10 (.cmp .lss .i64 (.t 9) (.c (.int .i64 0))) <| m 11 10 <| .grd 11 false [i 12 (.mov (.t 2)),
   i 13 (.eq false .ptr (.t 12) (.c .nilp))] <| o 14 (.pick (.t 11) (.c (.bool true)) (.t 13)) <| .nil)) (
   .cond (.t 14) (.seq (.ops (
   o 6 (.mov (.c .nilp)) <| .nil)) (
   .ret)) (.skip))) (
   .seq (.ops (
   ln 15 6 3 <| m 16 2 <| m 17 1 <|
   o 18 (.build [(.int .i64 0), (.int .i64 0), (.int .i64 0), (.int .i64 0), (.int .i64 0), (.int .i64 0), .nilp, (.int .i64 0), (.int .i64 0), (.int .u64 0), (.int .i64 0)] [(0, 6, (.t 15)), (6, 1, (.t 16)), (7, 1, (.t 17))]) <| o 19 (.box (.t 18)) <| m 6 19 <| .nil)) (
   .ret)))

def field_NewStamp_hs : List (List Nat × List Nat) := []

end Wm.F
end

section
/- PRINTED by my tool (wip/wm/tool/Gen.lean): a function as one of my machine. -/
namespace Wm.F
open Wm
set_option maxRecDepth 100000

/-- 144: withy/field.NewTurn -/
def field_NewTurn : AFunc where
  closed := false
  nparams := 2
  ntmps := 15
  results := [.tmp 4]
  body := .seq (.ops (
   o 2 (.box (.t 0)) <| o 4 (.mov (.c .nilp)) <| .nil)) (
   .seq (.seq (.ops (
   ln 5 6 2 <| o 6 (.call 263 [(.t 5)]) <| o 7 (.not (.t 6)) <| m 8 7 <| .grd 8 false [i 9 (.mov (.t 1)),
   i 10 (.eq false .ptr (.t 9) (.c .nilp))] <| o 11 (.pick (.t 8) (.c (.bool true)) (.t 10)) <| .nil)) (
   .cond (.t 11) (.seq (.ops (
   o 4 (.mov (.c .nilp)) <| .nil)) (
   .ret)) (.skip))) (
   .seq (.ops (
   m 12 1 <| o 13 (.build [(.int .u64 0), (.int .i64 0), .nilp, (.int .i64 0)] [(2, 1, (.t 12))]) <| o 14 (.box (.t 13)) <| m 4 14 <| .nil)) (
   .ret)))

def field_NewTurn_hs : List (List Nat × List Nat) := []

end Wm.F
end

section
/- PRINTED by my tool (wip/wm/tool/Gen.lean): a function as one of my machine. -/
namespace Wm.F
open Wm
set_option maxRecDepth 100000

/-- 128: (*withy/field.Read).Step -/
def field_Read_Step : AFunc where
  closed := false
  nparams := 2
  ntmps := 93
  results := [.tmp 4]
  body := .seq (.ops (
   o 4 (.mov (.c (.bool false))) <| .nil)) (
   .seq (.seq (.ops (
   m 5 0 <| o 6 (.eq false .ptr (.t 5) (.c .nilp)) <| .nil)) (
   .cond (.t 6) (.seq (.ops (
   o 4 (.mov (.c (.bool true))) <| .nil)) (
   .ret)) (.skip))) (
   .seq (.seq (.ops (
   m 7 0 <| n 8 7 <| d 9 4 8 <| l 10 9 <| .nil)) (
   .block 0 (.seq (.ops (
   o 12 (.cmp .eql .i64 (.t 10) (.c (.int .i64 0))) <| m 11 12 <| .nil)) (
   .cond (.t 11) (.seq (.ops (
   m 13 0 <| n 14 13 <| d 15 3 14 <| l 16 15 <| m 17 1 <| o 18 (.call 303 [(.t 16), (.t 17)]) <| .nil)) (
   .cond (.t 18) (.seq (.ops (
   m 19 0 <| m 20 0 <| m 21 0 <| n 22 21 <| d 23 3 22 <| l 24 23 <| n 25 24 <| d 26 8 25 <| l 27 26 <| m 28 0 <| n 29 28 <| d 30 3 29 <| l 31 30 <| n 32 31 <| d 33 9 32 <|
   l 34 33 <| n 35 19 <| d 36 0 35 <| u (.store 1 (.t 36) (.t 27)) <| n 37 20 <| d 38 2 37 <| u (.store 1 (.t 38) (.t 34)) <| .nil)) (
   .seq (.ops (
   m 39 0 <| n 40 39 <| d 41 4 40 <| u (.store 1 (.t 41) (.c (.int .i64 1))) <| .nil)) (
   .seq (.ops (
   m 42 0 <| n 43 42 <| d 44 0 43 <| l 45 44 <| o 46 (.cmp .lss .i64 (.t 45) (.c (.int .i64 0))) <| .nil)) (
   .cond (.t 46) (.ops (
   m 47 0 <| n 48 47 <| d 49 4 48 <| u (.store 1 (.t 49) (.c (.int .i64 2))) <| .nil)) (.skip))))) (.skip))) (.seq (.ops (
   o 51 (.cmp .eql .i64 (.t 10) (.c (.int .i64 1))) <| m 50 51 <| .nil)) (
   .cond (.t 50) (.seq (.ops (
   m 52 0 <| m 53 0 <| m 54 0 <| n 55 54 <| d 56 3 55 <| l 57 56 <| n 58 57 <| d 59 0 58 <| ln 60 6 59 <| m 61 1 <| m 62 0 <| n 63 62 <| d 64 3 63 <| l 65 64 <| n 66 65 <|
   d 67 0 66 <| ln 68 6 67 <| m 69 0 <| n 70 69 <| d 71 0 70 <| l 72 71 <| m 76 0 <| n 77 76 <| d 78 3 77 <| l 79 78 <|
   .op ⟨(some 73), .call 305 [(.t 68), (.t 72), (.c (.int .i64 0))], [{ g := none, op := .load1 (.t 78), d := 79 }, { g := none, op := .loadN 6 (.t 59), d := 60 }, { g := none, op := .load1 (.t 56), d := 57 }]⟩ <| .op ⟨(some 74), .call 266 [(.t 61), (.t 73)], [{ g := none, op := .load1 (.t 78), d := 79 }, { g := none, op := .loadN 6 (.t 59), d := 60 }, { g := none, op := .load1 (.t 56), d := 57 }]⟩ <| .op ⟨(some 75), .call 304 [(.t 60), (.t 74)], [{ g := none, op := .load1 (.t 78), d := 79 }]⟩ <| o 80 (.call 306 [(.t 79)]) <| n 81 52 <| d 82 1 81 <| u (.store 1 (.t 82) (.t 75)) <| n 83 53 <| d 84 2 83 <| u (.store 1 (.t 84) (.t 80)) <| .nil)) (
   .ops (
   m 85 0 <| n 86 85 <| d 87 4 86 <| u (.store 1 (.t 87) (.c (.int .i64 2))) <| .nil))) (.skip))))))) (
   .seq (.ops (
   m 88 0 <| n 89 88 <| d 90 4 89 <| l 91 90 <| o 92 (.cmp .eql .i64 (.t 91) (.c (.int .i64 2))) <| m 4 92 <| .nil)) (
   .ret))))

def field_Read_Step_hs : List (List Nat × List Nat) := []

end Wm.F
end

section
/- PRINTED by my tool (wip/wm/tool/Gen.lean): a function as one of my machine. -/
namespace Wm.F
open Wm
set_option maxRecDepth 100000

/-- 147: (*withy/field.See).Step -/
def field_See_Step : AFunc where
  closed := false
  nparams := 2
  ntmps := 146
  results := [.tmp 4]
  body := .seq (.ops (
   o 4 (.mov (.c (.bool false))) <| .nil)) (
   .seq (.seq (.ops (
   m 6 0 <| o 7 (.eq false .ptr (.t 6) (.c .nilp)) <| .nil)) (
   .cond (.t 7) (.seq (.ops (
   o 4 (.mov (.c (.bool true))) <| .nil)) (
   .ret)) (.skip))) (
   .seq (.seq (.ops (
   m 8 0 <| n 9 8 <| d 10 4 9 <| l 11 10 <| .nil)) (
   .block 0 (.seq (.ops (
   o 13 (.cmp .eql .i64 (.t 11) (.c (.int .i64 0))) <| m 12 13 <| .nil)) (
   .cond (.t 12) (.seq (.ops (
   m 14 0 <| n 15 14 <| d 16 1 15 <| l 17 16 <| m 18 1 <| o 19 (.call 303 [(.t 17), (.t 18)]) <| .nil)) (
   .cond (.t 19) (.seq (.ops (
   m 20 0 <| m 21 0 <| n 22 21 <| d 23 1 22 <| l 24 23 <| n 25 24 <| d 26 8 25 <| l 27 26 <| n 28 20 <| d 29 3 28 <| u (.store 1 (.t 29) (.t 27)) <| .nil)) (
   .seq (.ops (
   m 30 0 <| n 31 30 <| d 32 4 31 <| u (.store 1 (.t 32) (.c (.int .i64 1))) <| .nil)) (
   .seq (.ops (
   m 33 0 <| n 34 33 <| d 35 3 34 <| l 36 35 <| o 37 (.cmp .lss .i64 (.t 36) (.c (.int .i64 0))) <| .nil)) (
   .cond (.t 37) (.ops (
   m 38 0 <| n 39 38 <| d 40 4 39 <| u (.store 1 (.t 40) (.c (.int .i64 4))) <| .nil)) (.skip))))) (.skip))) (.seq (.ops (
   o 42 (.cmp .eql .i64 (.t 11) (.c (.int .i64 1))) <| m 41 42 <| .nil)) (
   .cond (.t 41) (.seq (.ops (
   m 43 1 <| m 44 0 <| n 45 44 <| d 46 1 45 <| l 47 46 <| n 48 47 <| d 49 0 48 <| ln 50 6 49 <| m 51 0 <| n 52 51 <| d 53 3 52 <| l 54 53 <|
   o 55 (.call 305 [(.t 50), (.t 54), (.c (.int .i64 1))]) <| o 56 (.call 266 [(.t 43), (.t 55)]) <| m 5 56 <| .nil)) (
   .seq (.ops (
   m 57 0 <| n 58 57 <| d 59 4 58 <| u (.store 1 (.t 59) (.c (.int .i64 2))) <| .nil)) (
   .seq (.ops (
   m 60 5 <| o 61 (.cmp .neq .u64 (.t 60) (.c (.int .u64 0))) <| m 62 61 <| .grd 62 true [i 63 (.mov (.t 5)),
   i 64 (.mov (.t 0)),
   i 65 (.nilc (.t 64)),
   i 66 (.fieldA 2 (.t 65)),
   i 67 (.load1 (.t 66)),
   i 68 (.cmp .leq .u64 (.t 63) (.t 67))] <| o 69 (.pick (.t 62) (.t 68) (.c (.bool false))) <| .nil)) (
   .cond (.t 69) (.ops (
   m 70 0 <| n 71 70 <| d 72 4 71 <| u (.store 1 (.t 72) (.c (.int .i64 3))) <| .nil)) (.skip))))) (.seq (.ops (
   o 74 (.cmp .eql .i64 (.t 11) (.c (.int .i64 2))) <| m 73 74 <| .nil)) (
   .cond (.t 73) (.seq (.ops (
   m 75 0 <| m 76 0 <| n 77 76 <| d 78 1 77 <| l 79 78 <| n 80 79 <| d 81 0 80 <| ln 82 6 81 <| m 83 1 <| m 84 0 <| n 85 84 <| d 86 1 85 <| l 87 86 <| n 88 87 <| d 89 0 88 <|
   ln 90 6 89 <| m 91 0 <| n 92 91 <| d 93 3 92 <| l 94 93 <|
   .op ⟨(some 95), .call 305 [(.t 90), (.t 94), (.c (.int .i64 2))], [{ g := none, op := .loadN 6 (.t 81), d := 82 }, { g := none, op := .load1 (.t 78), d := 79 }]⟩ <|
   .op ⟨(some 96), .call 266 [(.t 83), (.t 95)], [{ g := none, op := .loadN 6 (.t 81), d := 82 }, { g := none, op := .load1 (.t 78), d := 79 }]⟩ <|
   o 97 (.call 304 [(.t 82), (.t 96)]) <| n 98 75 <| d 99 3 98 <| u (.store 1 (.t 99) (.t 97)) <| .nil)) (
   .seq (.ops (
   m 100 0 <| n 101 100 <| d 102 4 101 <| u (.store 1 (.t 102) (.c (.int .i64 1))) <| .nil)) (
   .seq (.ops (
   m 103 0 <| n 104 103 <| d 105 3 104 <| l 106 105 <| o 107 (.cmp .lss .i64 (.t 106) (.c (.int .i64 0))) <| .nil)) (
   .cond (.t 107) (.ops (
   m 108 0 <| n 109 108 <| d 110 4 109 <| u (.store 1 (.t 110) (.c (.int .i64 4))) <| .nil)) (.skip))))) (.seq (.ops (
   o 112 (.cmp .eql .i64 (.t 11) (.c (.int .i64 3))) <| m 111 112 <| .nil)) (
   .cond (.t 111) (.seq (.ops (
   m 113 0 <| m 114 0 <| n 115 114 <| d 116 1 115 <| l 117 116 <| n 118 117 <| d 119 0 118 <| ln 120 6 119 <| m 121 1 <| m 122 0 <| n 123 122 <| d 124 1 123 <| l 125 124 <|
   n 126 125 <| d 127 0 126 <| ln 128 6 127 <| m 129 0 <| n 130 129 <| d 131 3 130 <| l 132 131 <|
   .op ⟨(some 133), .call 305 [(.t 128), (.t 132), (.c (.int .i64 0))], [{ g := none, op := .loadN 6 (.t 119), d := 120 }, { g := none, op := .load1 (.t 116), d := 117 }]⟩ <|
   .op ⟨(some 134), .call 266 [(.t 121), (.t 133)], [{ g := none, op := .loadN 6 (.t 119), d := 120 }, { g := none, op := .load1 (.t 116), d := 117 }]⟩ <|
   o 135 (.call 304 [(.t 120), (.t 134)]) <| n 136 113 <| d 137 0 136 <| u (.store 1 (.t 137) (.t 135)) <| .nil)) (
   .ops (
   m 138 0 <| n 139 138 <| d 140 4 139 <| u (.store 1 (.t 140) (.c (.int .i64 4))) <| .nil))) (.skip))))))))))) (
   .seq (.ops (
   m 141 0 <| n 142 141 <| d 143 4 142 <| l 144 143 <| o 145 (.cmp .eql .i64 (.t 144) (.c (.int .i64 4))) <| m 4 145 <| .nil)) (
   .ret))))

def field_See_Step_hs : List (List Nat × List Nat) := []

end Wm.F
end

section
/- PRINTED by my tool (wip/wm/tool/Gen.lean): a function as one of my machine. -/
namespace Wm.F
open Wm
set_option maxRecDepth 100000

/-- 150: (*withy/field.Stamp).Step -/
def field_Stamp_Step : AFunc where
  closed := false
  nparams := 2
  ntmps := 85
  results := [.tmp 4]
  body := .seq (.ops (
   o 4 (.mov (.c (.bool false))) <| .nil)) (
   .seq (.seq (.ops (
   m 6 0 <| o 7 (.eq false .ptr (.t 6) (.c .nilp)) <| .nil)) (
   .cond (.t 7) (.seq (.ops (
   o 4 (.mov (.c (.bool true))) <| .nil)) (
   .ret)) (.skip))) (
   .seq (.ops (
   m 8 0 <| n 9 8 <| d 10 0 9 <| ln 11 6 10 <| m 12 0 <| n 13 12 <| d 14 7 13 <| l 15 14 <| o 16 (.call 305 [(.t 11), (.t 15), (.c (.int .i64 1))]) <| m 5 16 <| .nil)) (
   .seq (.seq (.ops (
   m 17 0 <| n 18 17 <| d 19 8 18 <| l 20 19 <| .nil)) (
   .block 0 (.seq (.ops (
   o 22 (.cmp .eql .i64 (.t 20) (.c (.int .i64 0))) <| m 21 22 <| .nil)) (
   .cond (.t 21) (.seq (.ops (
   m 23 0 <| n 24 23 <| d 25 8 24 <| u (.store 1 (.t 25) (.c (.int .i64 1))) <| .nil)) (
   .seq (.ops (
   m 26 1 <| m 27 5 <| o 28 (.call 266 [(.t 26), (.t 27)]) <| o 29 (.cmp .neq .u64 (.t 28) (.c (.int .u64 0))) <| .nil)) (
   .cond (.t 29) (.ops (
   m 30 0 <| n 31 30 <| d 32 8 31 <| u (.store 1 (.t 32) (.c (.int .i64 3))) <| .nil)) (.skip)))) (.seq (.ops (
   o 34 (.cmp .eql .i64 (.t 20) (.c (.int .i64 1))) <| m 33 34 <| .nil)) (
   .cond (.t 33) (.seq (.ops (
   m 35 0 <| m 36 0 <| m 37 1 <| m 39 0 <| n 40 39 <| d 41 6 40 <| l 42 41 <| n 43 42 <| d 44 0 43 <| l 45 44 <|
   .op ⟨(some 38), .call 266 [(.t 37), (.c (.int .i64 0))], [{ g := none, op := .load1 (.t 44), d := 45 }, { g := none, op := .load1 (.t 41), d := 42 }]⟩ <| n 46 35 <|
   d 47 9 46 <| u (.store 1 (.t 47) (.t 38)) <| n 48 36 <| d 49 10 48 <| u (.store 1 (.t 49) (.t 45)) <| .nil)) (
   .ops (
   m 50 0 <| n 51 50 <| d 52 8 51 <| u (.store 1 (.t 52) (.c (.int .i64 2))) <| .nil))) (.seq (.ops (
   o 54 (.cmp .eql .i64 (.t 20) (.c (.int .i64 2))) <| m 53 54 <| .nil)) (
   .cond (.t 53) (.seq (.seq (.ops (
   m 55 1 <| m 56 5 <| m 57 0 <| n 58 57 <| d 59 9 58 <| l 60 59 <| o 61 (.call 269 [(.t 55), (.t 56), (.c (.int .u64 0)), (.t 60)]) <| .nil)) (
   .cond (.t 61) (.ops (
   m 62 0 <| n 63 62 <| d 64 6 63 <| l 65 64 <| n 66 65 <| d 67 1 66 <| l 68 67 <| m 69 0 <| n 70 69 <| d 71 7 70 <| l 72 71 <| m 73 0 <| n 74 73 <| d 75 10 74 <| l 76 75 <|
   u (.mapSet .int (.t 68) (.t 72) (.t 76)) <| .nil)) (.skip))) (
   .ops (
   m 77 0 <| n 78 77 <| d 79 8 78 <| u (.store 1 (.t 79) (.c (.int .i64 3))) <| .nil))) (.skip))))))))) (
   .seq (.ops (
   m 80 0 <| n 81 80 <| d 82 8 81 <| l 83 82 <| o 84 (.cmp .eql .i64 (.t 83) (.c (.int .i64 3))) <| m 4 84 <| .nil)) (
   .ret)))))

def field_Stamp_Step_hs : List (List Nat × List Nat) := []

end Wm.F
end

section
/- PRINTED by my tool (wip/wm/tool/Gen.lean): a function as one of my machine. -/
namespace Wm.F
open Wm
set_option maxRecDepth 100000

/-- 145: (*withy/field.Turn).Step -/
def field_Turn_Step : AFunc where
  closed := false
  nparams := 2
  ntmps := 72
  results := [.tmp 4]
  body := .seq (.ops (
   o 4 (.mov (.c (.bool false))) <| .nil)) (
   .seq (.seq (.ops (
   m 5 0 <| o 6 (.eq false .ptr (.t 5) (.c .nilp)) <| .nil)) (
   .cond (.t 6) (.seq (.ops (
   o 4 (.mov (.c (.bool true))) <| .nil)) (
   .ret)) (.skip))) (
   .seq (.seq (.ops (
   m 7 0 <| n 8 7 <| d 9 3 8 <| l 10 9 <| .nil)) (
   .block 0 (.seq (.ops (
   o 12 (.cmp .eql .i64 (.t 10) (.c (.int .i64 0))) <| m 11 12 <| .nil)) (
   .cond (.t 11) (.seq (.ops (
   m 13 0 <| m 14 1 <| o 15 (.call 266 [(.t 14), (.c (.int .i64 0))]) <| n 16 13 <| d 17 0 16 <| u (.store 1 (.t 17) (.t 15)) <| .nil)) (
   .ops (
   m 18 0 <| n 19 18 <| d 20 3 19 <| u (.store 1 (.t 20) (.c (.int .i64 1))) <| .nil))) (.seq (.ops (
   o 22 (.cmp .eql .i64 (.t 10) (.c (.int .i64 1))) <| m 21 22 <| .nil)) (
   .cond (.t 21) (.seq (.seq (.ops (
   m 23 1 <| m 24 0 <| n 25 24 <| d 26 0 25 <| l 27 26 <| m 28 0 <| n 29 28 <| d 30 0 29 <| l 31 30 <| o 32 (.arith .add .u64 (.t 31) (.c (.int .u64 1))) <|
   o 33 (.call 269 [(.t 23), (.c (.int .i64 0)), (.t 27), (.t 32)]) <| .nil)) (
   .cond (.t 33) (.ops (
   m 34 0 <| n 35 34 <| d 36 2 35 <| l 37 36 <| n 38 37 <| d 39 2 38 <| l 40 39 <| m 41 0 <| n 42 41 <| d 43 0 42 <| l 44 43 <| m 45 0 <| n 46 45 <| d 47 2 46 <| l 48 47 <|
   n 49 48 <| d 50 0 49 <| l 51 50 <| u (.mapSet .int (.t 40) (.t 44) (.t 51)) <| .nil)) (.skip))) (
   .seq (.ops (
   m 52 0 <| m 53 0 <| n 54 53 <| d 55 2 54 <| l 56 55 <| m 57 0 <| n 58 57 <| d 59 0 58 <| l 60 59 <| o 61 (.call 153 [(.t 56), (.t 60)]) <| n 62 52 <| d 63 1 62 <|
   u (.store 1 (.t 63) (.t 61)) <| .nil)) (
   .ops (
   m 64 0 <| n 65 64 <| d 66 3 65 <| u (.store 1 (.t 66) (.c (.int .i64 2))) <| .nil)))) (.skip))))))) (
   .seq (.ops (
   m 67 0 <| n 68 67 <| d 69 3 68 <| l 70 69 <| o 71 (.cmp .eql .i64 (.t 70) (.c (.int .i64 2))) <| m 4 71 <| .nil)) (
   .ret))))

def field_Turn_Step_hs : List (List Nat × List Nat) := []

end Wm.F
end

section
/- PRINTED by my tool (wip/wm/tool/Gen.lean): a function as one of my machine. -/
namespace Wm.F
open Wm
set_option maxRecDepth 100000

/-- 302: withy/field.fresh -/
def field_fresh : AFunc where
  closed := false
  nparams := 4
  ntmps := 25
  results := [.tmp 8]
  body := .seq (.ops (
   o 4 (.box (.t 0)) <| o 8 (.mov (.c .nilp)) <| .nil)) (
   .seq (.ops (
   ln 10 6 4 <| m 11 1 <| m 12 2 <| o 13 (.call 305 [(.t 10), (.t 11), (.t 12)]) <| m 9 13 <| .nil)) (
   .seq (.seq (.ops (
   m 14 9 <| o 15 (.cmp .lss .i64 (.t 14) (.c (.int .i64 0))) <| m 16 15 <| .grd 16 false [i 17 (.mov (.t 3)),
   i 18 (.eq false .ptr (.t 17) (.c .nilp))] <| o 19 (.pick (.t 16) (.c (.bool true)) (.t 18)) <| .nil)) (
   .cond (.t 19) (.seq (.ops (
   o 8 (.mov (.c .nilp)) <| .nil)) (
   .ret)) (.skip))) (
   .seq (.ops (
   ln 20 6 4 <| m 21 3 <| m 22 9 <|
   o 23 (.build [(.int .i64 0), (.int .i64 0), (.int .i64 0), (.int .i64 0), (.int .i64 0), (.int .i64 0), .nilp, (.int .i64 0), (.int .i64 0), (.int .i64 0), .nilp, (.int .i64 0)] [(0, 6, (.t 20)), (6, 1, (.t 21)), (7, 1, (.t 22))]) <| o 24 (.box (.t 23)) <| m 8 24 <| .nil)) (
   .ret))))

def field_fresh_hs : List (List Nat × List Nat) := []

end Wm.F
end

section
/- PRINTED by my tool (wip/wm/tool/Gen.lean): a function as one of my machine. -/
namespace Wm.F
open Wm
set_option maxRecDepth 100000

/-- 304: withy/field.named -/
def field_named : AFunc where
  closed := true
  nparams := 2
  ntmps := 13
  results := [.tmp 4]
  body := .seq (.ops (
   o 2 (.box (.t 0)) <| o 4 (.mov (.c (.int .i64 0))) <| .nil)) (
   .seq (.seq (.ops (
   m 5 1 <| d 6 0 2 <| l 7 6 <| o 8 (.conv .u64 (.t 7)) <| o 9 (.cmp .gtr .u64 (.t 5) (.t 8)) <| .nil)) (
   .cond (.t 9) (.seq (.ops (
   o 4 (.mov (.c (.int .i64 (-1)))) <| .nil)) (
   .ret)) (.skip))) (
   .seq (.ops (
   m 10 1 <| o 11 (.conv .i64 (.t 10)) <| o 12 (.arith .sub .i64 (.t 11) (.c (.int .i64 1))) <| m 4 12 <| .nil)) (
   .ret)))

def field_named_hs : List (List Nat × List Nat) := []

end Wm.F
end

section
/- PRINTED by my tool (wip/wm/tool/Gen.lean): a function as one of my machine. -/
namespace Wm.F
open Wm
set_option maxRecDepth 100000

/-- 306: (*withy/field.newest).point -/
def field_newest_point : AFunc where
  closed := false
  nparams := 1
  ntmps := 17
  results := [.tmp 2]
  body := .seq (.ops (
   o 2 (.mov (.c (.int .i64 0))) <| .nil)) (
   .seq (.ops (
   m 3 0 <| n 4 3 <| d 5 9 4 <| l 6 5 <| m 7 0 <| n 8 7 <| d 9 6 8 <| l 10 9 <| m 11 0 <| n 12 11 <| d 13 8 12 <| l 14 13 <|
   .op ⟨(some 15), .call 152 [(.t 10), (.t 14)], [{ g := none, op := .load1 (.t 5), d := 6 }]⟩ <| o 16 (.minmax true .i64 (.t 6) (.t 15)) <| m 2 16 <| .nil)) (
   .ret))

def field_newest_point_hs : List (List Nat × List Nat) := []

end Wm.F
end

section
/- PRINTED by my tool (wip/wm/tool/Gen.lean): a function as one of my machine. -/
namespace Wm.F
open Wm
set_option maxRecDepth 100000

/-- 303: (*withy/field.newest).step -/
def field_newest_step : AFunc where
  closed := false
  nparams := 2
  ntmps := 78
  results := [.tmp 4]
  body := .seq (.ops (
   o 4 (.mov (.c (.bool false))) <| .nil)) (
   .seq (.seq (.ops (
   m 5 0 <| n 6 5 <| d 7 11 6 <| l 8 7 <| .nil)) (
   .block 0 (.seq (.ops (
   o 10 (.cmp .eql .i64 (.t 8) (.c (.int .i64 0))) <| m 9 10 <| .nil)) (
   .cond (.t 9) (.seq (.ops (
   m 11 0 <| m 12 0 <| m 13 0 <| n 14 13 <| d 15 0 14 <| ln 16 6 15 <| m 17 1 <| m 18 0 <| n 19 18 <| d 20 7 19 <| l 21 20 <| m 24 0 <| n 25 24 <| d 26 6 25 <| l 27 26 <|
   n 28 27 <| d 29 0 28 <| l 30 29 <|
   .op ⟨(some 22), .call 266 [(.t 17), (.t 21)], [{ g := none, op := .load1 (.t 29), d := 30 }, { g := none, op := .load1 (.t 26), d := 27 }, { g := none, op := .loadN 6 (.t 15), d := 16 }]⟩ <| .op ⟨(some 23), .call 304 [(.t 16), (.t 22)], [{ g := none, op := .load1 (.t 29), d := 30 }, { g := none, op := .load1 (.t 26), d := 27 }]⟩ <| n 31 11 <| d 32 8 31 <| u (.store 1 (.t 32) (.t 23)) <| n 33 12 <| d 34 9 33 <| u (.store 1 (.t 34) (.t 30)) <| .nil)) (
   .seq (.ops (
   m 35 0 <| n 36 35 <| d 37 11 36 <| u (.store 1 (.t 37) (.c (.int .i64 2))) <| .nil)) (
   .seq (.ops (
   m 38 0 <| n 39 38 <| d 40 8 39 <| l 41 40 <| o 42 (.cmp .geq .i64 (.t 41) (.c (.int .i64 0))) <| .nil)) (
   .cond (.t 42) (.seq (.ops (
   m 43 0 <| m 44 0 <| n 45 44 <| d 46 0 45 <| ln 47 6 46 <| m 48 0 <| n 49 48 <| d 50 8 49 <| l 51 50 <| m 52 0 <| n 53 52 <| d 54 6 53 <| l 55 54 <|
   o 56 (.call 151 [(.t 47), (.t 51), (.t 55)]) <| n 57 43 <| d 58 10 57 <| u (.store 1 (.t 58) (.t 56)) <| .nil)) (
   .ops (
   m 59 0 <| n 60 59 <| d 61 11 60 <| u (.store 1 (.t 61) (.c (.int .i64 1))) <| .nil))) (.skip))))) (.seq (.ops (
   o 63 (.cmp .eql .i64 (.t 8) (.c (.int .i64 1))) <| m 62 63 <| .nil)) (
   .cond (.t 62) (.seq (.ops (
   m 64 0 <| n 65 64 <| d 66 10 65 <| l 67 66 <| m 68 1 <| o 69 (.call 150 [(.t 67), (.t 68)]) <| .nil)) (
   .cond (.t 69) (.ops (
   m 70 0 <| n 71 70 <| d 72 11 71 <| u (.store 1 (.t 72) (.c (.int .i64 2))) <| .nil)) (.skip))) (.skip))))))) (
   .seq (.ops (
   m 73 0 <| n 74 73 <| d 75 11 74 <| l 76 75 <| o 77 (.cmp .eql .i64 (.t 76) (.c (.int .i64 2))) <| m 4 77 <| .nil)) (
   .ret)))

def field_newest_step_hs : List (List Nat × List Nat) := []

end Wm.F
end

section
/- PRINTED by my tool (wip/wm/tool/Gen.lean): a function as one of my machine. -/
namespace Wm.F
open Wm
set_option maxRecDepth 100000

/-- 409: withy/head.Freed -/
def head_Freed : AFunc where
  closed := true
  nparams := 2
  ntmps := 44
  results := [.tmp 4, .tmp 5]
  body := .seq (.ops (
   o 4 (.mov (.c (.int .u64 0))) <| o 5 (.mov (.c (.bool false))) <| .nil)) (
   .seq (.ops (
   m 9 0 <| o 10 (.call 265 [(.t 9)]) <| m 8 10 <| o 11 (.extract (.t 8) 0) <| o 12 (.extract (.t 8) 1) <|
   o 6 (.alloc [(.int .i64 0), (.int .i64 0), (.bool false), (.int .i64 0), (.int .i64 0), (.int .i64 0)]) <| u (.store 6 (.t 6) (.t 11)) <| m 7 12 <| .nil)) (
   .seq (.seq (.ops (
   m 13 7 <| o 14 (.not (.t 13)) <| m 15 14 <| .grd 15 false [i 16 (.fieldA 0 (.t 6)),
   i 17 (.load1 (.t 16)),
   i 18 (.cmp .neq .i64 (.t 17) (.c (.int .i64 3)))] <| o 19 (.pick (.t 15) (.c (.bool true)) (.t 18)) <| .nil)) (
   .cond (.t 19) (.seq (.ops (
   m 20 0 <| m 4 20 <| o 5 (.mov (.c (.bool false))) <| .nil)) (
   .ret)) (.skip))) (
   .seq (.seq (.ops (
   d 21 4 6 <| l 22 21 <| o 23 (.arith .add .i64 (.t 22) (.c (.int .i64 1))) <| m 24 1 <| o 25 (.cmp .geq .i64 (.t 23) (.t 24)) <| m 26 25 <|
   .grd 26 false [i 27 (.fieldA 4 (.t 6)),
   i 28 (.load1 (.t 27)),
   i 29 (.arith .add .i64 (.t 28) (.c (.int .i64 1))),
   i 30 (.cmp .geq .i64 (.t 29) (.c (.int .i64 4294967296)))] <| o 31 (.pick (.t 26) (.c (.bool true)) (.t 30)) <| .nil)) (
   .cond (.t 31) (.seq (.ops (
   d 32 0 6 <| u (.store 1 (.t 32) (.c (.int .i64 4))) <| .nil)) (
   .seq (.ops (
   ln 33 6 6 <| o 34 (.call 382 [(.t 33)]) <| o 35 (.extract (.t 34) 0) <| o 36 (.extract (.t 34) 1) <| m 4 35 <| m 5 36 <| .nil)) (
   .ret))) (.skip))) (
   .seq (.ops (
   d 37 4 6 <| l 38 37 <| o 39 (.arith .add .i64 (.t 38) (.c (.int .i64 1))) <|
   o 40 (.build [(.int .i64 0), (.int .i64 0), (.bool false), (.int .i64 0), (.int .i64 0), (.int .i64 0)] [(0, 1, (.c (.int .i64 0))), (4, 1, (.t 39))]) <|
   o 41 (.call 382 [(.t 40)]) <| o 42 (.extract (.t 41) 0) <| o 43 (.extract (.t 41) 1) <| m 4 42 <| m 5 43 <| .nil)) (
   .ret)))))

def head_Freed_hs : List (List Nat × List Nat) := []

end Wm.F
end

section
/- PRINTED by my tool (wip/wm/tool/Gen.lean): a function as one of my machine. -/
namespace Wm.F
open Wm
set_option maxRecDepth 100000

/-- 556: withy/head.Made -/
def head_Made : AFunc where
  closed := true
  nparams := 4
  ntmps := 25
  results := [.tmp 8, .tmp 9]
  body := .seq (.ops (
   o 8 (.mov (.c (.int .u64 0))) <| o 9 (.mov (.c (.bool false))) <| .nil)) (
   .seq (.seq (.ops (
   m 10 0 <| o 11 (.cmp .neq .i64 (.t 10) (.c (.int .i64 1))) <| m 12 11 <| .grd 12 true [i 13 (.mov (.t 0)),
   i 14 (.cmp .neq .i64 (.t 13) (.c (.int .i64 2)))] <| o 15 (.pick (.t 12) (.t 14) (.c (.bool false))) <| .nil)) (
   .cond (.t 15) (.seq (.ops (
   o 8 (.mov (.c (.int .u64 0))) <| o 9 (.mov (.c (.bool false))) <| .nil)) (
   .ret)) (.skip))) (
   .seq (.ops (
   m 16 0 <| m 17 3 <| o 18 (.call 557 [(.t 17)]) <| m 19 1 <| m 20 2 <|
   o 21 (.build [(.int .i64 0), (.int .i64 0), (.bool false), (.int .i64 0), (.int .i64 0), (.int .i64 0)] [(0, 1, (.t 16)), (1, 1, (.t 18)), (3, 1, (.t 19)), (4, 1, (.t 20))]) <|
   o 22 (.call 382 [(.t 21)]) <| o 23 (.extract (.t 22) 0) <| o 24 (.extract (.t 22) 1) <| m 8 23 <| m 9 24 <| .nil)) (
   .ret)))

def head_Made_hs : List (List Nat × List Nat) := []

end Wm.F
end

section
/- PRINTED by my tool (wip/wm/tool/Gen.lean): a function as one of my machine. -/
namespace Wm.F
open Wm
set_option maxRecDepth 100000

/-- 340: withy/head.Retired -/
def head_Retired : AFunc where
  closed := true
  nparams := 2
  ntmps := 33
  results := [.tmp 4, .tmp 5]
  body := .seq (.ops (
   o 4 (.mov (.c (.int .u64 0))) <| o 5 (.mov (.c (.bool false))) <| .nil)) (
   .seq (.ops (
   m 9 0 <| o 10 (.call 380 [(.t 9)]) <| m 8 10 <| o 11 (.extract (.t 8) 0) <| o 12 (.extract (.t 8) 1) <|
   o 6 (.alloc [(.int .i64 0), (.int .i64 0), (.bool false), (.int .i64 0), (.int .i64 0), (.int .i64 0)]) <| u (.store 6 (.t 6) (.t 11)) <| m 7 12 <| .nil)) (
   .seq (.seq (.ops (
   m 13 7 <| o 14 (.not (.t 13)) <| m 15 14 <| .grd 15 false [i 16 (.fieldA 1 (.t 6)),
   i 17 (.load1 (.t 16)),
   i 18 (.mov (.t 1)),
   ⟨(some 19), .call 381 [(.t 18)], [{ g := (some (15, false)), op := .load1 (.t 16), d := 17 }]⟩,
   i 20 (.cmp .eql .i64 (.t 17) (.t 19))] <| o 21 (.pick (.t 15) (.c (.bool true)) (.t 20)) <| .nil)) (
   .cond (.t 21) (.seq (.ops (
   m 22 0 <| m 4 22 <| o 5 (.mov (.c (.bool false))) <| .nil)) (
   .ret)) (.skip))) (
   .seq (.ops (
   m 23 1 <| o 24 (.arith .and .u64 (.t 23) (.c (.int .u64 65535))) <| o 25 (.conv .i64 (.t 24)) <| d 26 0 6 <| u (.store 1 (.t 26) (.c (.int .i64 3))) <| d 27 2 6 <|
   u (.store 1 (.t 27) (.c (.bool false))) <| d 28 5 6 <| u (.store 1 (.t 28) (.t 25)) <| .nil)) (
   .seq (.ops (
   ln 29 6 6 <| o 30 (.call 382 [(.t 29)]) <| o 31 (.extract (.t 30) 0) <| o 32 (.extract (.t 30) 1) <| m 4 31 <| m 5 32 <| .nil)) (
   .ret)))))

def head_Retired_hs : List (List Nat × List Nat) := []

end Wm.F
end

section
/- PRINTED by my tool (wip/wm/tool/Gen.lean): a function as one of my machine. -/
namespace Wm.F
open Wm
set_option maxRecDepth 100000

/-- 183: withy/hist.Ahead -/
def hist_Ahead : AFunc where
  closed := true
  nparams := 2
  ntmps := 10
  results := [.tmp 4]
  body := .seq (.ops (
   o 2 (.box (.t 0)) <| o 3 (.box (.t 1)) <| o 4 (.mov (.c (.bool false))) <| .nil)) (
   .seq (.ops (
   d 5 4 2 <| l 6 5 <| d 7 2 3 <| l 8 7 <| o 9 (.cmp .lss .i64 (.t 6) (.t 8)) <| m 4 9 <| .nil)) (
   .ret))

def hist_Ahead_hs : List (List Nat × List Nat) := []

end Wm.F
end

section
/- PRINTED by my tool (wip/wm/tool/Gen.lean): a function as one of my machine. -/
namespace Wm.F
open Wm
set_option maxRecDepth 100000

/-- 293: withy/plan.Link -/
def plan_Link : AFunc where
  closed := true
  nparams := 2
  ntmps := 8
  results := [.tmp 4]
  body := .seq (.ops (
   o 2 (.box (.t 0)) <| o 4 (.mov (.c (.int .i64 0))) <| .nil)) (
   .seq (.ops (
   ln 5 6 2 <| m 6 1 <| o 7 (.call 375 [(.t 5), (.t 6), (.c (.int .i64 1))]) <| m 4 7 <| .nil)) (
   .ret))

def plan_Link_hs : List (List Nat × List Nat) := []

end Wm.F
end

section
/- PRINTED by my tool (wip/wm/tool/Gen.lean): a function as one of my machine. -/
namespace Wm.F
open Wm
set_option maxRecDepth 100000

/-- 416: withy/plan.Pin -/
def plan_Pin : AFunc where
  closed := true
  nparams := 2
  ntmps := 8
  results := [.tmp 4]
  body := .seq (.ops (
   o 2 (.box (.t 0)) <| o 4 (.mov (.c (.int .i64 0))) <| .nil)) (
   .seq (.ops (
   ln 5 6 2 <| m 6 1 <| o 7 (.call 397 [(.t 5), (.t 6), (.c (.int .i64 0)), (.c (.int .i64 1)), (.c (.int .i64 0))]) <| m 4 7 <| .nil)) (
   .ret))

def plan_Pin_hs : List (List Nat × List Nat) := []

end Wm.F
end

section
/- PRINTED by my tool (wip/wm/tool/Gen.lean): a function as one of my machine. -/
namespace Wm.F
open Wm
set_option maxRecDepth 100000

def root_NewTable_c1 : ACode :=
  .seq (.ops (
   o 23 (.cmp .lss .i64 (.t 22) (.t 21)) <| .nil)) (
  .seq (.cond (.t 23) (.skip) (.exit 0)) (
  .seq (.block 1 (.ops (
   m 24 7 <| m 25 7 <| n 26 25 <| d 27 7 26 <| l 28 27 <| m 29 2 <| o 30 (.build [(.int .u64 0), (.int .i64 0)] [(0, 1, (.t 29)), (1, 1, (.c (.int .i64 (-1))))]) <|
   o 31 (.buildSl 2 1 [(.int .u64 0), (.int .i64 0)] [(0, 2, (.t 30))]) <| o 32 (.append 2 16 (.t 28) (.t 31)) <| n 33 24 <| d 34 7 33 <| u (.store 1 (.t 34) (.t 32)) <| .nil))) (
  .ops (
   o 35 (.arith .add .i64 (.t 22) (.c (.int .i64 1))) <| m 22 35 <| .nil))))

def root_NewTable_c0 : ACode :=
  .seq (.ops (
   m 36 7 <| m 6 36 <| .nil)) (
  .ret)

/-- 354: withy/root.NewTable -/
def root_NewTable : AFunc where
  closed := false
  nparams := 3
  ntmps := 37
  results := [.tmp 6]
  body := .seq (.ops (
   o 3 (.box (.t 0)) <| o 6 (.mov (.c .nilp)) <| .nil)) (
   .seq (.seq (.ops (
   ln 8 6 3 <| m 9 1 <| o 10 (.call 416 [(.t 8), (.t 9)]) <| o 11 (.cmp .lss .i64 (.t 10) (.c (.int .i64 0))) <| m 12 11 <| .grd 12 false [i 13 (.mov (.t 2)),
   i 14 (.cmp .gtr .u64 (.t 13) (.c (.int .u64 4294967295)))] <| o 15 (.pick (.t 12) (.c (.bool true)) (.t 14)) <| .nil)) (
   .cond (.t 15) (.seq (.ops (
   o 6 (.mov (.c .nilp)) <| .nil)) (
   .ret)) (.skip))) (
   .seq (.ops (
   ln 16 6 3 <| m 17 1 <|
   o 18 (.build [(.int .i64 0), (.int .i64 0), (.int .i64 0), (.int .i64 0), (.int .i64 0), (.int .i64 0), (.int .i64 0), .nilsl] [(0, 6, (.t 16)), (6, 1, (.t 17))]) <|
   o 19 (.box (.t 18)) <| m 7 19 <| .nil)) (
   .seq (.seq (.ops (
   d 20 3 3 <| l 21 20 <| o 22 (.mov (.c (.int .i64 0))) <| .nil)) (
   .block 0 (.loop [2, 7, 21, 22] [7] (root_NewTable_c1)))) (
   root_NewTable_c0))))

def root_NewTable_hs : List (List Nat × List Nat) := [([2, 7, 21, 22], [7])]

end Wm.F
end

section
/- PRINTED by my tool (wip/wm/tool/Gen.lean): a function as one of my machine. -/
namespace Wm.F
open Wm
set_option maxRecDepth 100000

def shade_Grays_c1 : ACode :=
  .seq (.ops (
   o 22 (.cmp .lss .i64 (.t 21) (.t 20)) <| .nil)) (
  .seq (.cond (.t 22) (.skip) (.exit 0)) (
  .seq (.block 1 (.seq (.ops (
   m 23 21 <| m 6 23 <| .nil)) (
  .seq (.ops (
   m 25 1 <| ln 26 6 2 <| m 27 6 <| o 28 (.call 261 [(.t 26), (.t 27)]) <| o 29 (.indexA 1 (.t 25) (.t 28)) <| l 30 29 <| o 31 (.call 265 [(.t 30)]) <| m 24 31 <|
   o 32 (.extract (.t 24) 0) <| o 33 (.extract (.t 24) 1) <| o 7 (.alloc [(.int .i64 0), (.int .i64 0), (.bool false), (.int .i64 0), (.int .i64 0), (.int .i64 0)]) <|
   u (.store 6 (.t 7) (.t 32)) <| m 8 33 <| .nil)) (
  .seq (.ops (
   m 34 8 <| m 35 34 <| .grd 35 true [i 36 (.fieldA 2 (.t 7)),
   i 37 (.load1 (.t 36))] <| o 38 (.pick (.t 35) (.t 37) (.c (.bool false))) <| .nil)) (
  .cond (.t 38) (.ops (
   m 39 5 <| o 40 (.arith .add .i64 (.t 39) (.c (.int .i64 1))) <| m 5 40 <| .nil)) (.skip)))))) (
  .ops (
   o 41 (.arith .add .i64 (.t 21) (.c (.int .i64 1))) <| m 21 41 <| .nil))))

def shade_Grays_c0 : ACode :=
  .seq (.ops (
   m 42 5 <| m 4 42 <| .nil)) (
  .ret)

/-- 89: withy/shade.Grays -/
def shade_Grays : AFunc where
  closed := false
  nparams := 2
  ntmps := 43
  results := [.tmp 4]
  body := .seq (.ops (
   o 2 (.box (.t 0)) <| o 4 (.mov (.c (.int .i64 0))) <| .nil)) (
   .seq (.seq (.ops (
   ln 9 6 2 <| o 10 (.call 263 [(.t 9)]) <| o 11 (.not (.t 10)) <| m 12 11 <| .grd 12 false [i 13 (.mov (.t 1)),
   i 14 (.lenSl (.t 13)),
   i 15 (.loadN 6 (.t 2)),
   i 16 (.call 264 [(.t 15)]),
   i 17 (.cmp .neq .i64 (.t 14) (.t 16))] <| o 18 (.pick (.t 12) (.c (.bool true)) (.t 17)) <| .nil)) (
   .cond (.t 18) (.seq (.ops (
   o 4 (.mov (.c (.int .i64 0))) <| .nil)) (
   .ret)) (.skip))) (
   .seq (.ops (
   o 5 (.mov (.c (.int .i64 0))) <| .nil)) (
   .seq (.seq (.ops (
   d 19 0 2 <| l 20 19 <| o 21 (.mov (.c (.int .i64 0))) <| .nil)) (
   .block 0 (.loop [1, 2, 5, 20, 21] [5] (shade_Grays_c1)))) (
   shade_Grays_c0))))

def shade_Grays_hs : List (List Nat × List Nat) := [([1, 2, 5, 20, 21], [5])]

end Wm.F
end

section
/- PRINTED by my tool (wip/wm/tool/Gen.lean): a function as one of my machine. -/
namespace Wm.F
open Wm
set_option maxRecDepth 100000

/-- 410: withy/stack.NewPush -/
def stack_NewPush : AFunc where
  closed := false
  nparams := 2
  ntmps := 22
  results := [.tmp 4]
  body := .seq (.ops (
   o 2 (.box (.t 0)) <| o 4 (.mov (.c .nilp)) <| .nil)) (
   .seq (.seq (.ops (
   ln 5 6 2 <| o 6 (.call 263 [(.t 5)]) <| o 7 (.not (.t 6)) <| m 8 7 <| .grd 8 false [i 9 (.mov (.t 1)),
   i 10 (.cmp .lss .i64 (.t 9) (.c (.int .i64 0)))] <| o 11 (.pick (.t 8) (.c (.bool true)) (.t 10)) <| m 12 11 <| .grd 12 false [i 13 (.mov (.t 1)),
   i 14 (.fieldA 0 (.t 2)),
   i 15 (.load1 (.t 14)),
   i 16 (.cmp .geq .i64 (.t 13) (.t 15))] <| o 17 (.pick (.t 12) (.c (.bool true)) (.t 16)) <| .nil)) (
   .cond (.t 17) (.seq (.ops (
   o 4 (.mov (.c .nilp)) <| .nil)) (
   .ret)) (.skip))) (
   .seq (.ops (
   ln 18 6 2 <| m 19 1 <|
   o 20 (.build [(.int .i64 0), (.int .i64 0), (.int .i64 0), (.int .i64 0), (.int .i64 0), (.int .i64 0), (.int .i64 0), (.int .i64 0), (.int .u64 0)] [(0, 6, (.t 18)), (6, 1, (.t 19))]) <| o 21 (.box (.t 20)) <| m 4 21 <| .nil)) (
   .ret)))

def stack_NewPush_hs : List (List Nat × List Nat) := []

end Wm.F
end

section
/- PRINTED by my tool (wip/wm/tool/Gen.lean): a function as one of my machine. -/
namespace Wm.F
open Wm
set_option maxRecDepth 100000

/-- 411: (*withy/stack.Push).Step -/
def stack_Push_Step : AFunc where
  closed := false
  nparams := 2
  ntmps := 76
  results := [.tmp 4]
  body := .seq (.ops (
   o 4 (.mov (.c (.bool false))) <| .nil)) (
   .seq (.seq (.ops (
   m 5 0 <| o 6 (.eq false .ptr (.t 5) (.c .nilp)) <| .nil)) (
   .cond (.t 6) (.seq (.ops (
   o 4 (.mov (.c (.bool true))) <| .nil)) (
   .ret)) (.skip))) (
   .seq (.seq (.ops (
   m 7 0 <| n 8 7 <| d 9 7 8 <| l 10 9 <| .nil)) (
   .block 0 (.seq (.ops (
   o 12 (.cmp .eql .i64 (.t 10) (.c (.int .i64 0))) <| m 11 12 <| .nil)) (
   .cond (.t 11) (.seq (.ops (
   m 13 0 <| m 14 1 <| o 15 (.call 266 [(.t 14), (.c (.int .i64 3))]) <| n 16 13 <| d 17 8 16 <| u (.store 1 (.t 17) (.t 15)) <| .nil)) (
   .ops (
   m 18 0 <| n 19 18 <| d 20 7 19 <| u (.store 1 (.t 20) (.c (.int .i64 1))) <| .nil))) (.seq (.ops (
   o 22 (.cmp .eql .i64 (.t 10) (.c (.int .i64 1))) <| m 21 22 <| .nil)) (
   .cond (.t 21) (.seq (.ops (
   m 23 1 <| m 24 0 <| n 25 24 <| d 26 0 25 <| ln 27 6 26 <| m 28 0 <| n 29 28 <| d 30 6 29 <| l 31 30 <| m 33 0 <| n 34 33 <| d 35 0 34 <| ln 36 6 35 <| m 37 0 <| n 38 37 <|
   d 39 8 38 <| l 40 39 <| .op ⟨(some 32), .call 293 [(.t 27), (.t 31)], [{ g := none, op := .load1 (.t 39), d := 40 }, { g := none, op := .loadN 6 (.t 35), d := 36 }]⟩ <|
   o 41 (.call 391 [(.t 36), (.t 40)]) <| o 42 (.arith .add .i64 (.t 41) (.c (.int .i64 1))) <| o 43 (.conv .u64 (.t 42)) <| o 44 (.call 203 [(.t 23), (.t 32), (.t 43)]) <|
   .nil)) (
   .ops (
   m 45 0 <| n 46 45 <| d 47 7 46 <| u (.store 1 (.t 47) (.c (.int .i64 2))) <| .nil))) (.seq (.ops (
   o 49 (.cmp .eql .i64 (.t 10) (.c (.int .i64 2))) <| m 48 49 <| .nil)) (
   .cond (.t 48) (.seq (.ops (
   m 50 0 <| n 51 50 <| d 52 7 51 <| u (.store 1 (.t 52) (.c (.int .i64 0))) <| .nil)) (
   .seq (.ops (
   m 53 1 <| m 54 0 <| n 55 54 <| d 56 8 55 <| l 57 56 <| m 58 0 <| n 59 58 <| d 60 8 59 <| l 61 60 <| m 62 0 <| n 63 62 <| d 64 6 63 <| l 65 64 <|
   .op ⟨(some 66), .call 461 [(.t 61), (.t 65)], [{ g := none, op := .load1 (.t 56), d := 57 }]⟩ <| o 67 (.call 269 [(.t 53), (.c (.int .i64 3)), (.t 57), (.t 66)]) <| .nil)) (
   .cond (.t 67) (.ops (
   m 68 0 <| n 69 68 <| d 70 7 69 <| u (.store 1 (.t 70) (.c (.int .i64 3))) <| .nil)) (.skip)))) (.skip))))))))) (
   .seq (.ops (
   m 71 0 <| n 72 71 <| d 73 7 72 <| l 74 73 <| o 75 (.cmp .eql .i64 (.t 74) (.c (.int .i64 3))) <| m 4 75 <| .nil)) (
   .ret))))

def stack_Push_Step_hs : List (List Nat × List Nat) := []

end Wm.F
end

section
/- PRINTED by my tool (wip/wm/tool/Gen.lean): a function as one of my machine. -/
namespace Wm.F
open Wm
set_option maxRecDepth 100000

/-- 391: withy/stack.first -/
def stack_first : AFunc where
  closed := true
  nparams := 2
  ntmps := 17
  results := [.tmp 4]
  body := .seq (.ops (
   o 2 (.box (.t 0)) <| o 4 (.mov (.c (.int .i64 0))) <| .nil)) (
   .seq (.ops (
   m 8 1 <| o 9 (.call 447 [(.t 8)]) <| m 7 9 <| o 10 (.extract (.t 7) 0) <| o 11 (.extract (.t 7) 1) <| m 5 10 <| m 6 11 <| .nil)) (
   .seq (.seq (.ops (
   m 12 6 <| d 13 0 2 <| l 14 13 <| o 15 (.cmp .geq .i64 (.t 12) (.t 14)) <| .nil)) (
   .cond (.t 15) (.seq (.ops (
   o 4 (.mov (.c (.int .i64 (-1)))) <| .nil)) (
   .ret)) (.skip))) (
   .seq (.ops (
   m 16 6 <| m 4 16 <| .nil)) (
   .ret))))

def stack_first_hs : List (List Nat × List Nat) := []

end Wm.F
end

section
/- PRINTED by my tool (wip/wm/tool/Gen.lean): a function as one of my machine. -/
namespace Wm.F
open Wm
set_option maxRecDepth 100000

/-- 189: withy/sweep.NewReclaim -/
def sweep_NewReclaim : AFunc where
  closed := false
  nparams := 1
  ntmps := 9
  results := [.tmp 2]
  body := .seq (.ops (
   o 1 (.box (.t 0)) <| o 2 (.mov (.c .nilp)) <| .nil)) (
   .seq (.seq (.ops (
   ln 3 6 1 <| o 4 (.call 263 [(.t 3)]) <| o 5 (.not (.t 4)) <| .nil)) (
   .cond (.t 5) (.seq (.ops (
   o 2 (.mov (.c .nilp)) <| .nil)) (
   .ret)) (.skip))) (
   .seq (.ops (
   ln 6 6 1 <|
   o 7 (.build [(.int .i64 0), (.int .i64 0), (.int .i64 0), (.int .i64 0), (.int .i64 0), (.int .i64 0), (.int .i64 0), (.int .i64 0), (.int .i64 0), .nilp] [(2, 6, (.t 6))]) <|
   o 8 (.box (.t 7)) <| m 2 8 <| .nil)) (
   .ret)))

def sweep_NewReclaim_hs : List (List Nat × List Nat) := []

end Wm.F
end

section
/- PRINTED by my tool (wip/wm/tool/Gen.lean): a function as one of my machine. -/
namespace Wm.F
open Wm
set_option maxRecDepth 100000

/-- 188: withy/sweep.NewSweep -/
def sweep_NewSweep : AFunc where
  closed := false
  nparams := 2
  ntmps := 12
  results := [.tmp 4]
  body := .seq (.ops (
   o 2 (.box (.t 0)) <| o 4 (.mov (.c .nilp)) <| .nil)) (
   .seq (.seq (.ops (
   ln 5 6 2 <| o 6 (.call 263 [(.t 5)]) <| o 7 (.not (.t 6)) <| .nil)) (
   .cond (.t 7) (.seq (.ops (
   o 4 (.mov (.c .nilp)) <| .nil)) (
   .ret)) (.skip))) (
   .seq (.ops (
   ln 8 6 2 <| m 9 1 <|
   o 10 (.build [(.int .i64 0), (.int .i64 0), (.int .i64 0), (.int .i64 0), (.int .i64 0), (.int .i64 0), (.int .i64 0), (.int .u64 0), (.int .i64 0), (.int .u64 0), (.bool false)] [(1, 6, (.t 8)), (7, 1, (.t 9))]) <| o 11 (.box (.t 10)) <| m 4 11 <| .nil)) (
   .ret)))

def sweep_NewSweep_hs : List (List Nat × List Nat) := []

end Wm.F
end

section
/- PRINTED by my tool (wip/wm/tool/Gen.lean): a function as one of my machine. -/
namespace Wm.F
open Wm
set_option maxRecDepth 100000

/-- 191: (*withy/sweep.Reclaim).Step -/
def sweep_Reclaim_Step : AFunc where
  closed := false
  nparams := 2
  ntmps := 120
  results := [.tmp 4]
  body := .seq (.ops (
   o 4 (.mov (.c (.bool false))) <| .nil)) (
   .seq (.seq (.ops (
   m 7 0 <| o 8 (.eq false .ptr (.t 7) (.c .nilp)) <| m 9 8 <| .grd 9 false [i 10 (.mov (.t 0)),
   i 11 (.nilc (.t 10)),
   i 12 (.fieldA 8 (.t 11)),
   i 13 (.load1 (.t 12)),
   i 14 (.mov (.t 0)),
   i 15 (.nilc (.t 14)),
   i 16 (.fieldA 2 (.t 15)),
   i 17 (.fieldA 0 (.t 16)),
   i 18 (.load1 (.t 17)),
   i 19 (.cmp .eql .i64 (.t 13) (.t 18))] <| o 20 (.pick (.t 9) (.c (.bool true)) (.t 19)) <| .nil)) (
   .cond (.t 20) (.seq (.ops (
   o 4 (.mov (.c (.bool true))) <| .nil)) (
   .ret)) (.skip))) (
   .seq (.seq (.ops (
   m 21 0 <| n 22 21 <| d 23 9 22 <| l 24 23 <| o 25 (.eq false .ptr (.t 24) (.c .nilp)) <| .nil)) (
   .cond (.t 25) (.seq (.ops (
   m 27 1 <| m 28 0 <| n 29 28 <| d 30 2 29 <| ln 31 6 30 <| m 32 0 <| n 33 32 <| d 34 8 33 <| l 35 34 <| o 36 (.call 261 [(.t 31), (.t 35)]) <|
   o 37 (.call 266 [(.t 27), (.t 36)]) <| o 38 (.call 265 [(.t 37)]) <| m 26 38 <| o 39 (.extract (.t 26) 0) <| o 40 (.extract (.t 26) 1) <|
   o 5 (.alloc [(.int .i64 0), (.int .i64 0), (.bool false), (.int .i64 0), (.int .i64 0), (.int .i64 0)]) <| u (.store 6 (.t 5) (.t 39)) <| m 6 40 <| .nil)) (
   .seq (.ops (
   m 41 6 <| m 42 41 <| .grd 42 true [i 43 (.fieldA 0 (.t 5)),
   i 44 (.load1 (.t 43)),
   i 45 (.cmp .eql .i64 (.t 44) (.c (.int .i64 3)))] <| o 46 (.pick (.t 42) (.t 45) (.c (.bool false))) <| .nil)) (
   .cond (.t 46) (.ops (
   m 47 0 <| m 48 0 <| n 49 48 <| d 50 2 49 <| ln 51 6 50 <| m 52 0 <| n 53 52 <| d 54 8 53 <| l 55 54 <| o 56 (.call 341 [(.t 51), (.t 55)]) <| n 57 47 <| d 58 9 57 <|
   u (.store 1 (.t 58) (.t 56)) <| .nil)) (.ops (
   m 59 0 <| n 60 59 <| d 61 8 60 <| l 62 61 <| o 63 (.arith .add .i64 (.t 62) (.c (.int .i64 1))) <| n 64 59 <| d 65 8 64 <| u (.store 1 (.t 65) (.t 63)) <|
   .nil))))) (.seq (.ops (
   m 66 0 <| n 67 66 <| d 68 9 67 <| l 69 68 <| m 70 1 <| o 71 (.call 342 [(.t 69), (.t 70)]) <| .nil)) (
   .cond (.t 71) (.seq (.seq (.ops (
   m 72 0 <| n 73 72 <| d 74 9 73 <| l 75 74 <| n 76 75 <| d 77 0 76 <| l 78 77 <| .nil)) (
   .cond (.t 78) (.ops (
   m 79 0 <| n 80 79 <| d 81 0 80 <| l 82 81 <| o 83 (.arith .add .i64 (.t 82) (.c (.int .i64 1))) <| n 84 79 <| d 85 0 84 <| u (.store 1 (.t 85) (.t 83)) <| .nil)) (.skip))) (
   .seq (.seq (.ops (
   m 86 0 <| n 87 86 <| d 88 9 87 <| l 89 88 <| n 90 89 <| d 91 1 90 <| l 92 91 <| .nil)) (
   .cond (.t 92) (.ops (
   m 93 0 <| n 94 93 <| d 95 1 94 <| l 96 95 <| o 97 (.arith .add .i64 (.t 96) (.c (.int .i64 1))) <| n 98 93 <| d 99 1 98 <| u (.store 1 (.t 99) (.t 97)) <| .nil)) (.skip))) (
   .seq (.ops (
   m 100 0 <| n 101 100 <| d 102 9 101 <| u (.store 1 (.t 102) (.c .nilp)) <| .nil)) (
   .ops (
   m 103 0 <| n 104 103 <| d 105 8 104 <| l 106 105 <| o 107 (.arith .add .i64 (.t 106) (.c (.int .i64 1))) <| n 108 103 <| d 109 8 108 <| u (.store 1 (.t 109) (.t 107)) <|
   .nil))))) (.skip))))) (
   .seq (.ops (
   m 110 0 <| n 111 110 <| d 112 8 111 <| l 113 112 <| m 114 0 <| n 115 114 <| d 116 2 115 <| d 117 0 116 <| l 118 117 <| o 119 (.cmp .eql .i64 (.t 113) (.t 118)) <| m 4 119 <|
   .nil)) (
   .ret))))

def sweep_Reclaim_Step_hs : List (List Nat × List Nat) := []

end Wm.F
end

section
/- PRINTED by my tool (wip/wm/tool/Gen.lean): a function as one of my machine. -/
namespace Wm.F
open Wm
set_option maxRecDepth 100000

/-- 190: (*withy/sweep.Sweep).Step -/
def sweep_Sweep_Step : AFunc where
  closed := false
  nparams := 2
  ntmps := 115
  results := [.tmp 4]
  body := .seq (.ops (
   o 4 (.mov (.c (.bool false))) <| .nil)) (
   .seq (.seq (.ops (
   m 8 0 <| o 9 (.eq false .ptr (.t 8) (.c .nilp)) <| m 10 9 <| .grd 10 false [i 11 (.mov (.t 0)),
   i 12 (.nilc (.t 11)),
   i 13 (.fieldA 8 (.t 12)),
   i 14 (.load1 (.t 13)),
   i 15 (.mov (.t 0)),
   i 16 (.nilc (.t 15)),
   i 17 (.fieldA 1 (.t 16)),
   i 18 (.fieldA 0 (.t 17)),
   i 19 (.load1 (.t 18)),
   i 20 (.cmp .eql .i64 (.t 14) (.t 19))] <| o 21 (.pick (.t 10) (.c (.bool true)) (.t 20)) <| .nil)) (
   .cond (.t 21) (.seq (.ops (
   o 4 (.mov (.c (.bool true))) <| .nil)) (
   .ret)) (.skip))) (
   .seq (.ops (
   m 22 0 <| n 23 22 <| d 24 1 23 <| ln 25 6 24 <| m 26 0 <| n 27 26 <| d 28 8 27 <| l 29 28 <| o 30 (.call 261 [(.t 25), (.t 29)]) <| m 5 30 <| .nil)) (
   .seq (.seq (.ops (
   m 31 0 <| n 32 31 <| d 33 10 32 <| l 34 33 <| .nil)) (
   .cond (.t 34) (.seq (.ops (
   m 36 0 <| n 37 36 <| d 38 9 37 <| l 39 38 <| m 40 0 <| n 41 40 <| d 42 7 41 <| l 43 42 <| o 44 (.call 340 [(.t 39), (.t 43)]) <| m 35 44 <| o 45 (.extract (.t 35) 0) <|
   o 46 (.extract (.t 35) 1) <| m 6 45 <| m 7 46 <| .nil)) (
   .seq (.ops (
   m 47 0 <| n 48 47 <| d 49 10 48 <| u (.store 1 (.t 49) (.c (.bool false))) <| .nil)) (
   .seq (.ops (
   m 50 1 <| m 51 5 <| m 52 0 <| n 53 52 <| d 54 9 53 <| l 55 54 <| m 56 6 <| o 57 (.call 269 [(.t 50), (.t 51), (.t 55), (.t 56)]) <| .nil)) (
   .cond (.t 57) (.seq (.ops (
   m 58 0 <| n 59 58 <| d 60 0 59 <| l 61 60 <| o 62 (.arith .add .i64 (.t 61) (.c (.int .i64 1))) <| n 63 58 <| d 64 0 63 <| u (.store 1 (.t 64) (.t 62)) <| .nil)) (
   .ops (
   m 65 0 <| n 66 65 <| d 67 8 66 <| l 68 67 <| o 69 (.arith .add .i64 (.t 68) (.c (.int .i64 1))) <| n 70 65 <| d 71 8 70 <| u (.store 1 (.t 71) (.t 69)) <|
   .nil))) (.skip))))) (.seq (.ops (
   m 72 0 <| m 73 1 <| m 74 5 <| o 75 (.call 266 [(.t 73), (.t 74)]) <| n 76 72 <| d 77 9 76 <| u (.store 1 (.t 77) (.t 75)) <| .nil)) (
   .seq (.ops (
   m 79 0 <| m 80 0 <| n 81 80 <| d 82 9 81 <| l 83 82 <| m 84 0 <| n 85 84 <| d 86 7 85 <| l 87 86 <| o 88 (.call 340 [(.t 83), (.t 87)]) <| m 78 88 <|
   o 89 (.extract (.t 78) 0) <| o 90 (.extract (.t 78) 1) <| n 91 79 <| d 92 10 91 <| u (.store 1 (.t 92) (.t 90)) <| .nil)) (
   .seq (.ops (
   m 93 0 <| n 94 93 <| d 95 10 94 <| l 96 95 <| o 97 (.not (.t 96)) <| .nil)) (
   .cond (.t 97) (.ops (
   m 98 0 <| n 99 98 <| d 100 8 99 <| l 101 100 <| o 102 (.arith .add .i64 (.t 101) (.c (.int .i64 1))) <| n 103 98 <| d 104 8 103 <| u (.store 1 (.t 104) (.t 102)) <|
   .nil)) (.skip))))))) (
   .seq (.ops (
   m 105 0 <| n 106 105 <| d 107 8 106 <| l 108 107 <| m 109 0 <| n 110 109 <| d 111 1 110 <| d 112 0 111 <| l 113 112 <| o 114 (.cmp .eql .i64 (.t 108) (.t 113)) <| m 4 114 <|
   .nil)) (
   .ret)))))

def sweep_Sweep_Step_hs : List (List Nat × List Nat) := []

end Wm.F
end

section
/- PRINTED by my tool (wip/wm/tool/Gen.lean): a function as one of my machine. -/
namespace Wm.F
open Wm
set_option maxRecDepth 100000

/-- 461: withy/tag.Moved -/
def tag_Moved : AFunc where
  closed := true
  nparams := 2
  ntmps := 26
  results := [.tmp 4]
  body := .seq (.ops (
   o 4 (.mov (.c (.int .u64 0))) <| .nil)) (
   .seq (.seq (.ops (
   m 9 1 <| o 10 (.call 462 [(.t 9)]) <| o 11 (.not (.t 10)) <| .nil)) (
   .cond (.t 11) (.ops (
   o 1 (.mov (.c (.int .i64 (-1)))) <| .nil)) (.skip))) (
   .seq (.ops (
   m 13 0 <| o 14 (.call 447 [(.t 13)]) <| m 12 14 <| o 15 (.extract (.t 12) 0) <| o 16 (.extract (.t 12) 1) <| m 5 15 <| m 6 16 <| .nil)) (
   .seq (.ops (
   m 18 5 <| o 19 (.arith .add .u64 (.t 18) (.c (.int .u64 1))) <| o 20 (.arith .and .u64 (.t 19) (.c (.int .u64 281474976710655))) <| m 21 1 <|
   o 22 (.call 350 [(.t 20), (.t 21)]) <| m 17 22 <| o 23 (.extract (.t 17) 0) <| o 24 (.extract (.t 17) 1) <| m 7 23 <| m 8 24 <| .nil)) (
   .seq (.ops (
   m 25 7 <| m 4 25 <| .nil)) (
   .ret)))))

def tag_Moved_hs : List (List Nat × List Nat) := []

end Wm.F
end

section
/- PRINTED by my tool (wip/wm/tool/Gen.lean): a function as one of my machine. -/
namespace Wm.F
open Wm
set_option maxRecDepth 100000

/-- 350: withy/tag.Top -/
def tag_Top : AFunc where
  closed := true
  nparams := 2
  ntmps := 11
  results := [.tmp 4, .tmp 5]
  body := .seq (.ops (
   o 4 (.mov (.c (.int .u64 0))) <| o 5 (.mov (.c (.bool false))) <| .nil)) (
   .seq (.ops (
   m 6 0 <| m 7 1 <| o 8 (.call 414 [(.t 6), (.t 7), (.c (.int .i64 16))]) <| o 9 (.extract (.t 8) 0) <| o 10 (.extract (.t 8) 1) <| m 4 9 <| m 5 10 <| .nil)) (
   .ret))

def tag_Top_hs : List (List Nat × List Nat) := []

end Wm.F
end

section
/- PRINTED by my tool (wip/wm/tool/Gen.lean): a function as one of my machine. -/
namespace Wm.F
open Wm
set_option maxRecDepth 100000

/-- 447: withy/tag.TopParts -/
def tag_TopParts : AFunc where
  closed := true
  nparams := 1
  ntmps := 10
  results := [.tmp 2, .tmp 3]
  body := .seq (.ops (
   o 2 (.mov (.c (.int .u64 0))) <| o 3 (.mov (.c (.int .i64 0))) <| .nil)) (
   .seq (.ops (
   m 4 0 <| o 5 (.call 396 [(.t 4), (.c (.int .i64 16)), (.c (.int .i64 48))]) <| m 6 0 <| o 7 (.call 396 [(.t 6), (.c (.int .i64 0)), (.c (.int .i64 16))]) <|
   o 8 (.conv .i64 (.t 7)) <| o 9 (.arith .sub .i64 (.t 8) (.c (.int .i64 1))) <| m 2 5 <| m 3 9 <| .nil)) (
   .ret))

def tag_TopParts_hs : List (List Nat × List Nat) := []

end Wm.F
end

section
/- PRINTED by my tool (wip/wm/tool/Gen.lean): a function as one of my machine. -/
namespace Wm.F
open Wm
set_option maxRecDepth 100000

/-- 462: withy/tag.slots -/
def tag_slots : AFunc where
  closed := true
  nparams := 1
  ntmps := 9
  results := [.tmp 2]
  body := .seq (.ops (
   o 2 (.mov (.c (.bool false))) <| .nil)) (
   .seq (.ops (
   m 3 0 <| o 4 (.cmp .geq .i64 (.t 3) (.c (.int .i64 (-1)))) <| m 5 4 <| .grd 5 true [i 6 (.mov (.t 0)),
   i 7 (.cmp .lss .i64 (.t 6) (.c (.int .i64 64)))] <| o 8 (.pick (.t 5) (.t 7) (.c (.bool false))) <| m 2 8 <| .nil)) (
   .ret))

def tag_slots_hs : List (List Nat × List Nat) := []

end Wm.F
end

section
/- PRINTED by my tool (wip/wm/tool/Gen.lean): a function as one of my machine. -/
namespace Wm.F
open Wm
set_option maxRecDepth 100000

/-- 414: withy/tag.tagged -/
def tag_tagged : AFunc where
  closed := true
  nparams := 3
  ntmps := 24
  results := [.tmp 6, .tmp 7]
  body := .seq (.ops (
   o 6 (.mov (.c (.int .u64 0))) <| o 7 (.mov (.c (.bool false))) <| .nil)) (
   .seq (.seq (.ops (
   m 8 1 <| o 9 (.call 462 [(.t 8)]) <| o 10 (.not (.t 9)) <| .nil)) (
   .cond (.t 10) (.seq (.ops (
   o 6 (.mov (.c (.int .u64 0))) <| o 7 (.mov (.c (.bool false))) <| .nil)) (
   .ret)) (.skip))) (
   .seq (.ops (
   m 11 2 <| m 12 1 <| o 13 (.arith .add .i64 (.t 12) (.c (.int .i64 1))) <| o 14 (.conv .u64 (.t 13)) <|
   o 15 (.build [(.int .i64 0), (.int .u64 0)] [(0, 1, (.t 11)), (1, 1, (.t 14))]) <| m 16 2 <| o 17 (.arith .sub .i64 (.c (.int .i64 64)) (.t 16)) <| m 18 0 <|
   o 19 (.build [(.int .i64 0), (.int .u64 0)] [(0, 1, (.t 17)), (1, 1, (.t 18))]) <| o 20 (.buildSl 2 2 [(.int .i64 0), (.int .u64 0)] [(0, 2, (.t 15)), (2, 2, (.t 19))]) <|
   o 21 (.call 443 [(.t 20)]) <| o 22 (.extract (.t 21) 0) <| o 23 (.extract (.t 21) 1) <| m 6 22 <| m 7 23 <| .nil)) (
   .ret)))

def tag_tagged_hs : List (List Nat × List Nat) := []

end Wm.F
end

section
/- PRINTED by my tool (wip/wm/tool/Gen.lean): a function as one of my machine. -/
namespace Wm.F
open Wm
set_option maxRecDepth 100000

/-- 557: withy/turn.Born -/
def turn_Born : AFunc where
  closed := true
  nparams := 1
  ntmps := 11
  results := [.tmp 2]
  body := .seq (.ops (
   o 2 (.mov (.c (.int .i64 0))) <| .nil)) (
   .seq (.seq (.ops (
   m 3 0 <| o 4 (.arith .rem .u64 (.t 3) (.c (.int .u64 4))) <| o 5 (.cmp .eql .u64 (.t 4) (.c (.int .u64 0))) <| .nil)) (
   .cond (.t 5) (.seq (.ops (
   m 6 0 <| o 7 (.call 381 [(.t 6)]) <| o 8 (.arith .sub .i64 (.c (.int .i64 1)) (.t 7)) <| m 2 8 <| .nil)) (
   .ret)) (.skip))) (
   .seq (.ops (
   m 9 0 <| o 10 (.call 381 [(.t 9)]) <| m 2 10 <| .nil)) (
   .ret)))

def turn_Born_hs : List (List Nat × List Nat) := []

end Wm.F
end

section
/- PRINTED by my tool (wip/wm/tool/Gen.lean): a function as one of my machine. -/
namespace Wm.F
open Wm
set_option maxRecDepth 100000

/-- 308: withy/turn.Fenced -/
def turn_Fenced : AFunc where
  closed := true
  nparams := 1
  ntmps := 11
  results := [.tmp 2]
  body := .seq (.ops (
   o 2 (.mov (.c (.bool false))) <| .nil)) (
   .seq (.ops (
   m 3 0 <| o 4 (.arith .rem .u64 (.t 3) (.c (.int .u64 4))) <| o 5 (.cmp .eql .u64 (.t 4) (.c (.int .u64 1))) <| m 6 5 <| .grd 6 false [i 7 (.mov (.t 0)),
   i 8 (.arith .rem .u64 (.t 7) (.c (.int .u64 4))),
   i 9 (.cmp .eql .u64 (.t 8) (.c (.int .u64 2)))] <| o 10 (.pick (.t 6) (.c (.bool true)) (.t 9)) <| m 2 10 <| .nil)) (
   .ret))

def turn_Fenced_hs : List (List Nat × List Nat) := []

end Wm.F
end

section
/- PRINTED by my tool (wip/wm/tool/Gen.lean): a function as one of my machine. -/
namespace Wm.F
open Wm
set_option maxRecDepth 100000

def withylaw09_filled_c1 : ACode :=
  .seq (.seq (.ops (
   m 12 8 <| d 13 0 3 <| l 14 13 <| o 15 (.cmp .lss .i64 (.t 12) (.t 14)) <| m 16 15 <| .grd 16 true [i 17 (.mov (.t 8)),
   i 18 (.mov (.t 1)),
   i 19 (.lenSl (.t 18)),
   i 20 (.cmp .lss .i64 (.t 17) (.t 19))] <| o 21 (.pick (.t 16) (.t 20) (.c (.bool false))) <| .nil)) (
  .cond (.t 21) (.skip) (.exit 0))) (
  .seq (.block 1 (.seq (.ops (
   m 24 1 <| m 25 8 <| o 26 (.indexA 6 (.t 24) (.t 25)) <| ln 27 6 26 <| o 9 (.alloc [(.int .i64 0), (.int .i64 0), (.bool false), (.int .i64 0), (.int .i64 0), (.int .i64 0)]) <|
   u (.store 6 (.t 9) (.t 27)) <| .nil)) (
  .seq (.ops (
   d 28 2 9 <| l 29 28 <| m 30 29 <| .grd 30 true [i 31 (.fieldA 1 (.t 9)),
   i 32 (.load1 (.t 31)),
   i 33 (.mov (.t 2)),
   ⟨(some 34), .call 110 [(.t 33)], [{ g := (some (30, true)), op := .load1 (.t 31), d := 32 }]⟩,
   i 35 (.cmp .eql .i64 (.t 32) (.t 34))] <| o 36 (.pick (.t 30) (.t 35) (.c (.bool false))) <| d 37 2 9 <| u (.store 1 (.t 37) (.t 36)) <| .nil)) (
  .seq (.ops (
   ln 38 6 9 <| o 39 (.call 202 [(.t 38)]) <| .nil)) (
  .cond (.t 39) (.ops (
   m 40 7 <| ln 41 6 3 <| m 42 8 <|
   .op ⟨(some 43), .build [(.str ⟨⟨[]⟩⟩), (.int .i64 0), (.int .i64 0)] [(0, 1, (.c (.str ⟨⟨[104, 101, 97, 100, 101, 114]⟩⟩))), (1, 1, (.t 42))], []⟩ <| ln 45 6 9 <|
   .op ⟨(some 44), .call 108 [(.t 41), (.t 43)], [{ g := none, op := .loadN 6 (.t 9), d := 45 }]⟩ <| o 46 (.call 111 [(.t 45)]) <| o 47 (.indexA 1 (.t 40) (.t 44)) <|
   u (.store 1 (.t 47) (.t 46)) <| .nil)) (.skip)))))) (
  .ops (
   m 22 8 <| o 23 (.arith .add .i64 (.t 22) (.c (.int .i64 1))) <| m 8 23 <| .nil)))

def withylaw09_filled_c0 : ACode :=
  .seq (.ops (
   m 48 7 <| ln 49 6 3 <| m 50 7 <| o 51 (.call 88 [(.t 49), (.t 50)]) <| o 52 (.conv .u64 (.t 51)) <| o 53 (.indexA 1 (.t 48) (.c (.int .i64 2))) <|
   u (.store 1 (.t 53) (.t 52)) <| .nil)) (
  .seq (.ops (
   m 54 7 <| o 55 (.call 198 [(.t 54)]) <| m 6 55 <| .nil)) (
  .ret))

/-- 93: withy/withylaw09.filled -/
def withylaw09_filled : AFunc where
  closed := false
  nparams := 3
  ntmps := 56
  results := [.tmp 6]
  body := .seq (.ops (
   o 3 (.box (.t 0)) <| o 6 (.mov (.c .nilp)) <| .nil)) (
   .seq (.ops (
   ln 10 6 3 <| o 11 (.call 86 [(.t 10)]) <| m 7 11 <| .nil)) (
   .seq (.seq (.ops (
   o 8 (.mov (.c (.int .i64 0))) <| .nil)) (
   .block 0 (.loop [1, 2, 3, 7, 8] [3, 7] (withylaw09_filled_c1)))) (
   withylaw09_filled_c0)))

def withylaw09_filled_hs : List (List Nat × List Nat) := [([1, 2, 3, 7, 8], [3, 7])]

end Wm.F
end

section
/- PRINTED by my tool (wip/wm/tool/Gen.lean): a function as one of my machine. -/
namespace Wm.F
open Wm
set_option maxRecDepth 100000

def withylaw09_grays_c1 : ACode :=
  .seq (.seq (.ops (
   m 9 6 <| d 10 0 2 <| l 11 10 <| o 12 (.cmp .lss .i64 (.t 9) (.t 11)) <| .nil)) (
  .cond (.t 12) (.skip) (.exit 0))) (
  .seq (.block 1 (.seq (.ops (
   m 16 1 <| ln 17 6 2 <| m 18 6 <|
   .op ⟨(some 19), .build [(.str ⟨⟨[]⟩⟩), (.int .i64 0), (.int .i64 0)] [(0, 1, (.c (.str ⟨⟨[104, 101, 97, 100, 101, 114]⟩⟩))), (1, 1, (.t 18))], []⟩ <|
   o 20 (.call 108 [(.t 17), (.t 19)]) <| o 21 (.indexA 1 (.t 16) (.t 20)) <| l 22 21 <| o 23 (.call 109 [(.t 22)]) <| m 15 23 <| o 24 (.extract (.t 15) 0) <|
   o 25 (.extract (.t 15) 1) <| o 7 (.alloc [(.int .i64 0), (.int .i64 0), (.bool false), (.int .i64 0), (.int .i64 0), (.int .i64 0)]) <| u (.store 6 (.t 7) (.t 24)) <| m 8 25 <|
   .nil)) (
  .seq (.ops (
   m 26 8 <| m 27 26 <| .grd 27 true [i 28 (.fieldA 2 (.t 7)),
   i 29 (.load1 (.t 28))] <| o 30 (.pick (.t 27) (.t 29) (.c (.bool false))) <| .nil)) (
  .cond (.t 30) (.ops (
   m 31 5 <| o 32 (.arith .add .i64 (.t 31) (.c (.int .i64 1))) <| m 5 32 <| .nil)) (.skip))))) (
  .ops (
   m 13 6 <| o 14 (.arith .add .i64 (.t 13) (.c (.int .i64 1))) <| m 6 14 <| .nil)))

def withylaw09_grays_c0 : ACode :=
  .seq (.ops (
   m 33 5 <| m 4 33 <| .nil)) (
  .ret)

/-- 88: withy/withylaw09.grays -/
def withylaw09_grays : AFunc where
  closed := false
  nparams := 2
  ntmps := 34
  results := [.tmp 4]
  body := .seq (.ops (
   o 2 (.box (.t 0)) <| o 4 (.mov (.c (.int .i64 0))) <| .nil)) (
   .seq (.ops (
   o 5 (.mov (.c (.int .i64 0))) <| .nil)) (
   .seq (.seq (.ops (
   o 6 (.mov (.c (.int .i64 0))) <| .nil)) (
   .block 0 (.loop [1, 2, 5, 6] [5] (withylaw09_grays_c1)))) (
   withylaw09_grays_c0)))

def withylaw09_grays_hs : List (List Nat × List Nat) := [([1, 2, 5, 6], [5])]

end Wm.F
end

section
/- PRINTED by my tool (wip/wm/tool/Gen.lean): a function as one of my machine. -/
namespace Wm.F
open Wm
set_option maxRecDepth 100000

def withylaw14_ends_c1 : ACode :=
  .seq (.seq (.ops (
   m 10 7 <| m 11 2 <| o 12 (.cmp .lss .i64 (.t 10) (.t 11)) <| .nil)) (
  .cond (.t 12) (.skip) (.exit 0))) (
  .seq (.block 1 (.seq (.ops (
   m 15 1 <| o 16 (.call 107 [(.t 15)]) <| m 8 16 <| .nil)) (
  .seq (.ops (
   m 17 0 <| m 18 1 <| o 19 (.invoke 0 (.t 17) [(.t 18)]) <| m 9 19 <| .nil)) (
  .seq (.seq (.ops (
   m 20 1 <| o 21 (.call 107 [(.t 20)]) <| m 22 8 <| o 23 (.arith .add .i64 (.t 22) (.c (.int .i64 1))) <| o 24 (.cmp .gtr .i64 (.t 21) (.t 23)) <| .nil)) (
  .cond (.t 24) (.seq (.ops (
   o 6 (.mov (.c (.bool false))) <| .nil)) (
   .ret)) (.skip))) (
  .seq (.ops (
   m 25 9 <| .nil)) (
  .cond (.t 25) (.seq (.ops (
   o 6 (.mov (.c (.bool true))) <| .nil)) (
   .ret)) (.skip))))))) (
  .ops (
   m 13 7 <| o 14 (.arith .add .i64 (.t 13) (.c (.int .i64 1))) <| m 7 14 <| .nil)))

def withylaw14_ends_c0 : ACode :=
  .seq (.ops (
   o 6 (.mov (.c (.bool false))) <| .nil)) (
  .ret)

/-- 199: withy/withylaw14.ends -/
def withylaw14_ends : AFunc where
  closed := false
  nparams := 3
  ntmps := 26
  results := [.tmp 6]
  body := .seq (.ops (
   o 6 (.mov (.c (.bool false))) <| .nil)) (
   .seq (.seq (.ops (
   o 7 (.mov (.c (.int .i64 0))) <| .nil)) (
   .block 0 (.loop [0, 1, 2, 7] [6] (withylaw14_ends_c1)))) (
   withylaw14_ends_c0))

def withylaw14_ends_hs : List (List Nat × List Nat) := [([0, 1, 2, 7], [6])]

end Wm.F
end

section
/- PRINTED by my tool (wip/wm/tool/Gen.lean): a function as one of my machine. -/
namespace Wm.F
open Wm
set_option maxRecDepth 100000

def withyref06_Same_c1 : ACode :=
  .seq (.seq (.ops (
   m 11 5 <| m 12 0 <| o 13 (.lenSl (.t 12)) <| o 14 (.cmp .lss .i64 (.t 11) (.t 13)) <| .nil)) (
  .cond (.t 14) (.skip) (.exit 0))) (
  .seq (.block 1 (.seq (.ops (
   m 17 0 <| m 18 5 <| o 19 (.indexA 1 (.t 17) (.t 18)) <| l 20 19 <| m 21 1 <| m 22 5 <| o 23 (.indexA 1 (.t 21) (.t 22)) <| l 24 23 <| o 25 (.cmp .neq .u64 (.t 20) (.t 24)) <|
   .nil)) (
  .cond (.t 25) (.seq (.ops (
   o 4 (.mov (.c (.bool false))) <| .nil)) (
   .ret)) (.skip)))) (
  .ops (
   m 15 5 <| o 16 (.arith .add .i64 (.t 15) (.c (.int .i64 1))) <| m 5 16 <| .nil)))

def withyref06_Same_c0 : ACode :=
  .seq (.ops (
   o 4 (.mov (.c (.bool true))) <| .nil)) (
  .ret)

/-- 95: withy/withyref06.Same -/
def withyref06_Same : AFunc where
  closed := false
  nparams := 2
  ntmps := 26
  results := [.tmp 4]
  body := .seq (.ops (
   o 4 (.mov (.c (.bool false))) <| .nil)) (
   .seq (.seq (.ops (
   m 6 0 <| o 7 (.lenSl (.t 6)) <| m 8 1 <| o 9 (.lenSl (.t 8)) <| o 10 (.cmp .neq .i64 (.t 7) (.t 9)) <| .nil)) (
   .cond (.t 10) (.seq (.ops (
   o 4 (.mov (.c (.bool false))) <| .nil)) (
   .ret)) (.skip))) (
   .seq (.seq (.ops (
   o 5 (.mov (.c (.int .i64 0))) <| .nil)) (
   .block 0 (.loop [0, 1, 5] [4] (withyref06_Same_c1)))) (
   withyref06_Same_c0)))

def withyref06_Same_hs : List (List Nat × List Nat) := [([0, 1, 5], [4])]

end Wm.F
end

section
/- PRINTED by my tool (wip/wm/tool/Gen.lean): a function as one of my machine. -/
namespace Wm.F
open Wm
set_option maxRecDepth 100000

def withyref07_List_c1 : ACode :=
  .seq (.seq (.ops (
   m 22 6 <| o 23 (.cmp .geq .u64 (.t 22) (.c (.int .u64 1))) <| m 24 23 <| .grd 24 true [i 25 (.mov (.t 6)),
   i 26 (.fieldA 0 (.t 2)),
   i 27 (.load1 (.t 26)),
   i 28 (.conv .u64 (.t 27)),
   i 29 (.cmp .leq .u64 (.t 25) (.t 28))] <| o 30 (.pick (.t 24) (.t 29) (.c (.bool false))) <| m 31 30 <| .grd 31 true [i 32 (.mov (.t 5)),
   i 33 (.lenSl (.t 32)),
   i 34 (.fieldA 0 (.t 2)),
   i 35 (.load1 (.t 34)),
   i 36 (.cmp .lss .i64 (.t 33) (.t 35))] <| o 37 (.pick (.t 31) (.t 36) (.c (.bool false))) <| .nil)) (
  .cond (.t 37) (.skip) (.exit 0))) (
  .block 1 (.seq (.ops (
   m 38 5 <| m 39 6 <| o 40 (.conv .i64 (.t 39)) <| o 41 (.arith .sub .i64 (.t 40) (.c (.int .i64 1))) <| o 42 (.buildSl 1 1 [(.int .i64 0)] [(0, 1, (.t 41))]) <|
   o 43 (.append 1 8 (.t 38) (.t 42)) <| m 5 43 <| .nil)) (
  .ops (
   m 44 1 <| ln 45 6 2 <| m 46 6 <| o 47 (.conv .i64 (.t 46)) <| o 48 (.arith .sub .i64 (.t 47) (.c (.int .i64 1))) <|
   .op ⟨(some 49), .build [(.str ⟨⟨[]⟩⟩), (.int .i64 0), (.int .i64 0)] [(0, 1, (.c (.str ⟨⟨[108, 105, 110, 107]⟩⟩))), (1, 1, (.t 48))], []⟩ <|
   o 50 (.call 108 [(.t 45), (.t 49)]) <| o 51 (.indexA 1 (.t 44) (.t 50)) <| l 52 51 <| m 6 52 <| .nil))))

def withyref07_List_c0 : ACode :=
  .seq (.ops (
   m 53 5 <| m 4 53 <| .nil)) (
  .ret)

/-- 143: withy/withyref07.List -/
def withyref07_List : AFunc where
  closed := false
  nparams := 2
  ntmps := 54
  results := [.tmp 4]
  body := .seq (.ops (
   o 2 (.box (.t 0)) <| o 4 (.mov (.c .nilsl)) <| .nil)) (
   .seq (.seq (.ops (
   ln 7 6 2 <| o 8 (.call 85 [(.t 7)]) <| o 9 (.not (.t 8)) <| m 10 9 <| .grd 10 false [i 11 (.mov (.t 1)),
   i 12 (.lenSl (.t 11)),
   i 13 (.loadN 6 (.t 2)),
   i 14 (.call 87 [(.t 13)]),
   i 15 (.lenSl (.t 14)),
   i 16 (.cmp .neq .i64 (.t 12) (.t 15))] <| o 17 (.pick (.t 10) (.c (.bool true)) (.t 16)) <| .nil)) (
   .cond (.t 17) (.seq (.ops (
   o 4 (.mov (.c .nilsl)) <| .nil)) (
   .ret)) (.skip))) (
   .seq (.ops (
   o 5 (.mov (.c .nilsl)) <| .nil)) (
   .seq (.ops (
   m 18 1 <| o 19 (.indexA 1 (.t 18) (.c (.int .i64 3))) <| l 20 19 <| o 21 (.arith .rem .u64 (.t 20) (.c (.int .u64 65536))) <| m 6 21 <| .nil)) (
   .seq (.block 0 (.loop [1, 2, 5, 6] [5] (withyref07_List_c1))) (
   withyref07_List_c0)))))

def withyref07_List_hs : List (List Nat × List Nat) := [([1, 2, 5, 6], [5])]

end Wm.F
end

section
/- PRINTED by my tool (wip/wm/tool/Gen.lean): a function as one of my machine. -/
namespace Wm.F
open Wm
set_option maxRecDepth 100000

def withyref07_Same_c1 : ACode :=
  .seq (.seq (.ops (
   m 11 5 <| m 12 0 <| o 13 (.lenSl (.t 12)) <| o 14 (.cmp .lss .i64 (.t 11) (.t 13)) <| .nil)) (
  .cond (.t 14) (.skip) (.exit 0))) (
  .seq (.block 1 (.seq (.ops (
   m 17 0 <| m 18 5 <| o 19 (.indexA 1 (.t 17) (.t 18)) <| l 20 19 <| m 21 1 <| m 22 5 <| o 23 (.indexA 1 (.t 21) (.t 22)) <| l 24 23 <| o 25 (.cmp .neq .i64 (.t 20) (.t 24)) <|
   .nil)) (
  .cond (.t 25) (.seq (.ops (
   o 4 (.mov (.c (.bool false))) <| .nil)) (
   .ret)) (.skip)))) (
  .ops (
   m 15 5 <| o 16 (.arith .add .i64 (.t 15) (.c (.int .i64 1))) <| m 5 16 <| .nil)))

def withyref07_Same_c0 : ACode :=
  .seq (.ops (
   o 4 (.mov (.c (.bool true))) <| .nil)) (
  .ret)

/-- 201: withy/withyref07.Same -/
def withyref07_Same : AFunc where
  closed := false
  nparams := 2
  ntmps := 26
  results := [.tmp 4]
  body := .seq (.ops (
   o 4 (.mov (.c (.bool false))) <| .nil)) (
   .seq (.seq (.ops (
   m 6 0 <| o 7 (.lenSl (.t 6)) <| m 8 1 <| o 9 (.lenSl (.t 8)) <| o 10 (.cmp .neq .i64 (.t 7) (.t 9)) <| .nil)) (
   .cond (.t 10) (.seq (.ops (
   o 4 (.mov (.c (.bool false))) <| .nil)) (
   .ret)) (.skip))) (
   .seq (.seq (.ops (
   o 5 (.mov (.c (.int .i64 0))) <| .nil)) (
   .block 0 (.loop [0, 1, 5] [4] (withyref07_Same_c1)))) (
   withyref07_Same_c0)))

def withyref07_Same_hs : List (List Nat × List Nat) := [([0, 1, 5], [4])]

end Wm.F
end

section
/- PRINTED by my tool (wip/wm/tool/Gen.lean): a function as one of my machine. -/
namespace Wm.F
open Wm
set_option maxRecDepth 100000

/-- 184: withy/withyref18.Ahead -/
def withyref18_Ahead : AFunc where
  closed := true
  nparams := 2
  ntmps := 10
  results := [.tmp 4]
  body := .seq (.ops (
   o 2 (.box (.t 0)) <| o 3 (.box (.t 1)) <| o 4 (.mov (.c (.bool false))) <| .nil)) (
   .seq (.ops (
   d 5 4 2 <| l 6 5 <| d 7 2 3 <| l 8 7 <| o 9 (.cmp .lss .i64 (.t 6) (.t 8)) <| m 4 9 <| .nil)) (
   .ret))

def withyref18_Ahead_hs : List (List Nat × List Nat) := []

end Wm.F
end

