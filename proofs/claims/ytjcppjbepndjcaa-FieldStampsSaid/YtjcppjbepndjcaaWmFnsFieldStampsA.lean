/- PRINTED by my tool: functions as those of my machine. -/
import Derived.Test.YtjcppjbepndjcaaWmCore
set_option linter.all false
section
open Wm
namespace Wm.F
def m (a b : Nat) (k : AIs) : AIs := .op ⟨some a, .mov (.t b), []⟩ k
def d (a i b : Nat) (k : AIs) : AIs := .op ⟨some a, .fieldA i (.t b), []⟩ k
def l (a b : Nat) (k : AIs) : AIs := .op ⟨some a, .load1 (.t b), []⟩ k
def n (a b : Nat) (k : AIs) : AIs := .op ⟨some a, .nilc (.t b), []⟩ k
def ln (a c b : Nat) (k : AIs) : AIs := .op ⟨some a, .loadN c (.t b), []⟩ k
def o (a : Nat) (x : AOp) (k : AIs) : AIs := .op ⟨some a, x, []⟩ k
def u (x : AOp) (k : AIs) : AIs := .op ⟨none, x, []⟩ k
def i (a : Nat) (x : AOp) : AI := ⟨some a, x, []⟩
end Wm.F

end
section
/- PRINTED by my tool (wip/wm/tool/Gen.lean): a function as one of my machine. -/
namespace Wm.F
open Wm
set_option maxRecDepth 100000

def withylaw10_FieldStamps_c12 : ACode :=
  .seq (.seq (.ops (
   m 164 15 <| o 165 (.cmp .lss .i64 (.t 164) (.c (.int .i64 3))) <| .nil)) (
  .cond (.t 165) (.skip) (.exit 7))) (
  .seq (.block 8 (.ops (
   m 168 7 <| m 169 14 <| o 170 (.indexA 1 (.t 168) (.t 169)) <| l 171 170 <| m 172 5 <| n 173 172 <| d 174 6 173 <| l 175 174 <| o 176 (.call 150 [(.t 171), (.t 175)]) <|
   .nil))) (
  .ops (
   m 166 15 <| o 167 (.arith .add .i64 (.t 166) (.c (.int .i64 1))) <| m 15 167 <| .nil)))

def withylaw10_FieldStamps_c11 : ACode :=
  .ops (
   m 162 14 <| o 163 (.arith .add .i64 (.t 162) (.c (.int .i64 1))) <| m 14 163 <| .nil)

def withylaw10_FieldStamps_c10 : ACode :=
  .seq (.seq (.ops (
   m 159 14 <| m 160 6 <| o 161 (.cmp .lss .i64 (.t 159) (.t 160)) <| .nil)) (
  .cond (.t 161) (.skip) (.exit 5))) (
  .seq (.block 6 (.seq (.ops (
   o 15 (.mov (.c (.int .i64 0))) <| .nil)) (
  .block 7 (.loop [5, 6, 7, 10, 12, 13, 14, 15] [5, 6, 7, 10, 12, 13, 14] (withylaw10_FieldStamps_c12))))) (
  withylaw10_FieldStamps_c11))

def withylaw10_FieldStamps_c9 : ACode :=
  .seq (.ops (
   m 177 13 <| o 178 (.cmp .geq .i64 (.t 177) (.c (.int .i64 0))) <| m 179 178 <| .grd 179 true [i 180 (.mov (.t 13)),
   i 181 (.arith .add .i64 (.t 180) (.c (.int .i64 1))),
   i 182 (.mov (.t 10)),
   i 183 (.lenSl (.t 182)),
   i 184 (.cmp .lss .i64 (.t 181) (.t 183))] <| o 185 (.pick (.t 179) (.t 184) (.c (.bool false))) <| m 186 185 <| .grd 186 true [i 187 (.mov (.t 10)),
   i 188 (.mov (.t 13)),
   i 189 (.arith .add .i64 (.t 188) (.c (.int .i64 1))),
   i 190 (.indexA 1 (.t 187) (.t 189)),
   i 191 (.load1 (.t 190)),
   i 192 (.mov (.t 12)),
   i 193 (.cmp .eql .u64 (.t 191) (.t 192))] <| o 194 (.pick (.t 186) (.t 193) (.c (.bool false))) <| m 195 194 <| .grd 195 true [i 196 (.mov (.t 5)),
   i 197 (.nilc (.t 196)),
   i 198 (.fieldA 6 (.t 197)),
   i 199 (.load1 (.t 198)),
   i 201 (.mov (.t 5)),
   i 202 (.nilc (.t 201)),
   i 203 (.fieldA 0 (.t 202)),
   i 204 (.loadN 6 (.t 203)),
   i 208 (.mov (.t 12)),
   ⟨(some 200), .call 94 [(.t 199)], [{ g := (some (195, true)), op := .loadN 6 (.t 203), d := 204 }]⟩,
   ⟨(some 205), .call 131 [(.t 204), (.c (.str ⟨⟨[98, 111, 100, 121]⟩⟩)), (.c (.int .i64 5)), (.c (.int .i64 1))], []⟩,
   i 206 (.indexA 1 (.t 200) (.t 205)),
   i 207 (.load1 (.t 206)),
   i 209 (.cmp .eql .u64 (.t 207) (.t 208))] <| o 210 (.pick (.t 195) (.t 209) (.c (.bool false))) <| m 211 210 <| .grd 211 true [i 212 (.mov (.t 5)),
   i 213 (.nilc (.t 212)),
   i 214 (.fieldA 7 (.t 213)),
   i 215 (.load1 (.t 214)),
   i 217 (.mov (.t 13)),
   i 216 (.call 152 [(.t 215), (.c (.int .i64 5))]),
   i 218 (.cmp .eql .i64 (.t 216) (.t 217))] <| o 219 (.pick (.t 211) (.t 218) (.c (.bool false))) <| m 220 219 <| .grd 220 true [i 221 (.call 125 [])] <|
   o 222 (.pick (.t 220) (.t 221) (.c (.bool false))) <| m 4 222 <| .nil)) (
  .ret)

def withylaw10_FieldStamps_c8 : ACode :=
  .ops (
   m 78 1 <| m 79 11 <| o 80 (.indexA 1 (.t 78) (.t 79)) <| l 81 80 <| o 82 (.cmp .geq .i64 (.t 81) (.c (.int .i64 0))) <| m 83 82 <| .grd 83 true [i 84 (.mov (.t 1)),
   i 85 (.mov (.t 11)),
   i 86 (.indexA 1 (.t 84) (.t 85)),
   i 87 (.load1 (.t 86)),
   i 88 (.mov (.t 6)),
   i 89 (.cmp .lss .i64 (.t 87) (.t 88))] <| o 90 (.pick (.t 83) (.t 89) (.c (.bool false))) <| m 77 90 <| .nil)

def withylaw10_FieldStamps_c7 : ACode :=
  .cond (.t 77) (.ops (
   m 91 7 <| m 92 1 <| m 93 11 <| o 94 (.indexA 1 (.t 92) (.t 93)) <| l 95 94 <| o 96 (.indexA 1 (.t 91) (.t 95)) <| l 97 96 <| m 98 5 <| n 99 98 <| d 100 6 99 <| l 101 100 <|
   o 102 (.call 150 [(.t 97), (.t 101)]) <| .nil)) (.seq (.ops (
   m 104 1 <| m 105 11 <| o 106 (.indexA 1 (.t 104) (.t 105)) <| l 107 106 <| m 108 6 <| o 109 (.cmp .eql .i64 (.t 107) (.t 108)) <| m 110 109 <|
   .grd 110 true [i 111 (.mov (.t 9)),
   i 112 (.mov (.t 5)),
   i 113 (.nilc (.t 112)),
   i 114 (.fieldA 6 (.t 113)),
   i 115 (.load1 (.t 114)),
   i 116 (.call 145 [(.t 111), (.t 115)])] <| o 117 (.pick (.t 110) (.t 116) (.c (.bool false))) <| m 103 117 <| .nil)) (
   .cond (.t 103) (.ops (
   m 118 5 <| n 119 118 <| d 120 0 119 <| ln 121 6 120 <| m 122 5 <| n 123 122 <| d 124 7 123 <| l 125 124 <| o 126 (.call 144 [(.t 121), (.t 125)]) <| m 9 126 <| .nil)) (.skip)))

def withylaw10_FieldStamps_c6 : ACode :=
  .ops (
   m 58 11 <| o 59 (.arith .add .i64 (.t 58) (.c (.int .i64 1))) <| m 11 59 <| .nil)

def withylaw10_FieldStamps_c5 : ACode :=
  .seq (.ops (
   m 50 11 <| m 51 1 <| o 52 (.lenSl (.t 51)) <| o 53 (.cmp .lss .i64 (.t 50) (.t 52)) <| m 54 53 <| .grd 54 true [i 55 (.mov (.t 11)),
   i 56 (.cmp .lss .i64 (.t 55) (.c (.int .i64 100)))] <| o 57 (.pick (.t 54) (.t 56) (.c (.bool false))) <| .nil)) (
  .cond (.t 57) (.skip) (.exit 2))

def withylaw10_FieldStamps_c4 : ACode :=
  .seq (.block 3 (.seq (.ops (
   m 60 5 <| n 61 60 <| d 62 7 61 <| l 63 62 <| m 64 11 <| n 65 63 <| d 66 0 65 <| u (.store 1 (.t 66) (.t 64)) <| .nil)) (
  .seq (.ops (
   m 67 10 <| m 68 5 <| n 69 68 <| d 70 6 69 <| l 71 70 <| o 72 (.call 94 [(.t 71)]) <| o 73 (.indexA 1 (.t 72) (.c (.int .i64 0))) <| l 74 73 <|
   o 75 (.buildSl 1 1 [(.int .u64 0)] [(0, 1, (.t 74))]) <| o 76 (.append 1 8 (.t 67) (.t 75)) <| m 10 76 <| .nil)) (
  .block 4 (.seq (.join [1, 5, 6, 7, 9, 10, 11] [1, 5, 6, 7, 9, 10, 11, 77] (withylaw10_FieldStamps_c8)) (
  withylaw10_FieldStamps_c7)))))) (
  withylaw10_FieldStamps_c6)

def withylaw10_FieldStamps_c3 : ACode :=
  .seq (.join [1, 5, 6, 7, 9, 10, 11] [1, 5, 6, 7, 9, 10, 11] (withylaw10_FieldStamps_c5)) (
  withylaw10_FieldStamps_c4)

def withylaw10_FieldStamps_c2 : ACode :=
  .seq (.ops (
   m 127 5 <| n 128 127 <| d 129 6 128 <| l 130 129 <| m 132 5 <| n 133 132 <| d 134 0 133 <| ln 135 6 134 <|
   .op ⟨(some 131), .call 94 [(.t 130)], [{ g := none, op := .loadN 6 (.t 134), d := 135 }]⟩ <|
   .op ⟨(some 136), .call 131 [(.t 135), (.c (.str ⟨⟨[98, 111, 100, 121]⟩⟩)), (.c (.int .i64 5)), (.c (.int .i64 1))], []⟩ <| o 137 (.indexA 1 (.t 131) (.t 136)) <| l 138 137 <|
   m 12 138 <| .nil)) (
  .seq (.ops (
   m 139 5 <| n 140 139 <| d 141 7 140 <| l 142 141 <| o 143 (.call 152 [(.t 142), (.c (.int .i64 5))]) <| m 13 143 <| .nil)) (
  .seq (.seq (.ops (
   m 144 12 <| o 145 (.cmp .eql .u64 (.t 144) (.c (.int .u64 0))) <| .nil)) (
  .cond (.t 145) (.seq (.ops (
   m 146 13 <| o 147 (.cmp .eql .i64 (.t 146) (.c (.int .i64 (-1)))) <| m 148 147 <| .grd 148 true [i 149 (.mov (.t 5)),
   i 150 (.nilc (.t 149)),
   i 151 (.fieldA 7 (.t 150)),
   i 152 (.load1 (.t 151)),
   i 153 (.call 152 [(.t 152), (.c (.int .i64 6))]),
   i 154 (.cmp .eql .i64 (.t 153) (.c (.int .i64 (-1))))] <| o 155 (.pick (.t 148) (.t 154) (.c (.bool false))) <| m 156 155 <| .grd 156 true [i 157 (.call 125 [])] <|
   o 158 (.pick (.t 156) (.t 157) (.c (.bool false))) <| m 4 158 <| .nil)) (
   .ret)) (.skip))) (
  .seq (.seq (.ops (
   o 14 (.mov (.c (.int .i64 0))) <| .nil)) (
  .block 5 (.loop [5, 6, 7, 10, 12, 13, 14] [5, 10, 12, 13] (withylaw10_FieldStamps_c10)))) (
  withylaw10_FieldStamps_c9))))

def withylaw10_FieldStamps_c1 : ACode :=
  .seq (.seq (.ops (
   m 23 8 <| m 24 6 <| o 25 (.cmp .lss .i64 (.t 23) (.t 24)) <| .nil)) (
  .cond (.t 25) (.skip) (.exit 0))) (
  .seq (.block 1 (.ops (
   m 28 7 <| m 29 5 <| n 30 29 <| d 31 0 30 <| ln 32 6 31 <| m 33 5 <| n 34 33 <| d 35 7 34 <| l 36 35 <| o 37 (.call 151 [(.t 32), (.c (.int .i64 5)), (.t 36)]) <|
   o 38 (.buildSl 1 1 [.nilp] [(0, 1, (.t 37))]) <| o 39 (.append 1 8 (.t 28) (.t 38)) <| m 7 39 <| .nil))) (
  .ops (
   m 26 8 <| o 27 (.arith .add .i64 (.t 26) (.c (.int .i64 1))) <| m 8 27 <| .nil)))

def withylaw10_FieldStamps_c0 : ACode :=
  .seq (.ops (
   m 40 5 <| n 41 40 <| d 42 0 41 <| ln 43 6 42 <| m 44 5 <| n 45 44 <| d 46 7 45 <| l 47 46 <| o 48 (.call 144 [(.t 43), (.t 47)]) <| m 9 48 <| .nil)) (
  .seq (.ops (
   o 49 (.buildSl 1 1 [(.int .u64 0)] [(0, 1, (.c (.int .u64 1)))]) <| m 10 49 <| .nil)) (
  .seq (.seq (.ops (
   o 11 (.mov (.c (.int .i64 0))) <| .nil)) (
  .block 2 (.loop [1, 5, 6, 7, 9, 10, 11] [5, 6, 7, 10] (withylaw10_FieldStamps_c3)))) (
  withylaw10_FieldStamps_c2)))

/-- 24: withy/withylaw10.FieldStamps -/
def withylaw10_FieldStamps : AFunc where
  closed := false
  nparams := 2
  ntmps := 223
  results := [.tmp 4]
  body := .seq (.ops (
   o 4 (.mov (.c (.bool false))) <| .nil)) (
   .seq (.seq (.ops (
   o 16 (.call 125 []) <| o 17 (.not (.t 16)) <| .nil)) (
   .cond (.t 17) (.seq (.ops (
   o 4 (.mov (.c (.bool false))) <| .nil)) (
   .ret)) (.skip))) (
   .seq (.ops (
   o 18 (.call 126 []) <| m 5 18 <| .nil)) (
   .seq (.ops (
   m 19 0 <| o 20 (.arith .rem .u8 (.t 19) (.c (.int .u8 4))) <| o 21 (.conv .i64 (.t 20)) <| o 22 (.arith .add .i64 (.c (.int .i64 1)) (.t 21)) <| m 6 22 <| .nil)) (
   .seq (.ops (
   o 7 (.mov (.c .nilsl)) <| .nil)) (
   .seq (.seq (.ops (
   o 8 (.mov (.c (.int .i64 0))) <| .nil)) (
   .block 0 (.loop [1, 5, 6, 7, 8] [1, 5, 6, 7] (withylaw10_FieldStamps_c1)))) (
   withylaw10_FieldStamps_c0))))))

def withylaw10_FieldStamps_hs : List (List Nat × List Nat) := [([1, 5, 6, 7, 8], [1, 5, 6, 7]), ([1, 5, 6, 7, 9, 10, 11], [5, 6, 7, 10]), ([1000000, 1, 5, 6, 7, 9, 10, 11], [1, 5, 6, 7, 9, 10, 11]), ([1000004, 1, 5, 6, 7, 9, 10, 11], [1, 5, 6, 7, 9, 10, 11, 77]), ([5, 6, 7, 10, 12, 13, 14], [5, 10, 12, 13]), ([5, 6, 7, 10, 12, 13, 14, 15], [5, 6, 7, 10, 12, 13, 14])]

end Wm.F
end

section
/- PRINTED by my tool (wip/wm/tool/Gen.lean): a function as one of my machine. -/
namespace Wm.F
open Wm
set_option maxRecDepth 100000

/-- 94: (*withy/mem.Mem).Words -/
def mem_Mem_Words : AFunc where
  closed := false
  nparams := 1
  ntmps := 10
  results := [.tmp 2]
  body := .seq (.ops (
   o 2 (.mov (.c .nilsl)) <| .nil)) (
   .seq (.seq (.ops (
   m 3 0 <| o 4 (.eq false .ptr (.t 3) (.c .nilp)) <| .nil)) (
   .cond (.t 4) (.seq (.ops (
   o 2 (.mov (.c .nilsl)) <| .nil)) (
   .ret)) (.skip))) (
   .seq (.ops (
   m 5 0 <| n 6 5 <| d 7 0 6 <| l 8 7 <| o 9 (.call 271 [(.t 8)]) <| m 2 9 <| .nil)) (
   .ret)))

def mem_Mem_Words_hs : List (List Nat × List Nat) := []

end Wm.F
end

section
/- PRINTED by my tool (wip/wm/tool/Gen.lean): a function as one of my machine. -/
namespace Wm.F
open Wm
set_option maxRecDepth 100000

def withylaw10_awake_c3 : ACode :=
  .seq (.seq (.ops (
   m 22 3 <| o 23 (.cmp .lss .i64 (.t 22) (.c (.int .i64 30))) <| .nil)) (
  .cond (.t 23) (.skip) (.exit 0))) (
  .seq (.block 1 (.seq (.ops (
   m 26 1 <| n 27 26 <| d 28 7 27 <| l 29 28 <| m 30 3 <| n 31 29 <| d 32 0 31 <| u (.store 1 (.t 32) (.t 30)) <| .nil)) (
  .ops (
   m 33 2 <| m 34 1 <| o 35 (.call 299 [(.t 33), (.t 34)]) <| .nil)))) (
  .ops (
   m 24 3 <| o 25 (.arith .add .i64 (.t 24) (.c (.int .i64 1))) <| m 3 25 <| .nil)))

def withylaw10_awake_c2 : ACode :=
  .seq (.ops (
   m 36 1 <| n 37 36 <| d 38 9 37 <| l 39 38 <| o 40 (.lenSl (.t 39)) <| o 41 (.cmp .eql .i64 (.t 40) (.c (.int .i64 2))) <| m 42 41 <| .grd 42 true [i 43 (.mov (.t 1)),
   i 44 (.nilc (.t 43)),
   i 45 (.fieldA 9 (.t 44)),
   i 46 (.load1 (.t 45)),
   i 47 (.indexA 8 (.t 46) (.c (.int .i64 0))),
   i 48 (.fieldA 7 (.t 47)),
   i 49 (.load1 (.t 48))] <| o 50 (.pick (.t 42) (.t 49) (.c (.bool false))) <| m 51 50 <| .grd 51 true [i 52 (.mov (.t 1)),
   i 53 (.nilc (.t 52)),
   i 54 (.fieldA 9 (.t 53)),
   i 55 (.load1 (.t 54)),
   i 56 (.indexA 8 (.t 55) (.c (.int .i64 1))),
   i 57 (.fieldA 6 (.t 56)),
   i 58 (.load1 (.t 57)),
   i 59 (.cmp .eql .i64 (.t 58) (.c (.int .i64 3)))] <| o 60 (.pick (.t 51) (.t 59) (.c (.bool false))) <| m 61 60 <| .grd 61 true [i 62 (.mov (.t 1)),
   i 63 (.call 300 [(.t 62)])] <| o 64 (.pick (.t 61) (.t 63) (.c (.bool false))) <| m 0 64 <| .nil)) (
  .ret)

def withylaw10_awake_c1 : ACode :=
  .seq (.ops (
   m 5 1 <| n 6 5 <| d 7 7 6 <| l 8 7 <| o 9 (.eq false .ptr (.t 8) (.c .nilp)) <| m 10 9 <| .grd 10 false [i 11 (.mov (.t 1)),
   i 12 (.nilc (.t 11)),
   i 13 (.fieldA 6 (.t 12)),
   i 14 (.load1 (.t 13)),
   i 15 (.eq false .ptr (.t 14) (.c .nilp))] <| o 16 (.pick (.t 10) (.c (.bool true)) (.t 15)) <| .nil)) (
  .cond (.t 16) (.seq (.ops (
   o 0 (.mov (.c (.bool false))) <| .nil)) (
   .ret)) (.skip))

def withylaw10_awake_c0 : ACode :=
  .seq (.ops (
   o 17 (.build [(.int .i64 0), (.int .i64 0), (.int .i64 0), (.int .i64 0)] [(0, 1, (.c (.int .i64 1))), (2, 1, (.c (.int .i64 3)))]) <|
   o 18 (.build [(.int .i64 0), (.int .i64 0), (.int .i64 0), (.int .i64 0)] [(0, 1, (.c (.int .i64 0)))]) <|
   o 19 (.buildSl 4 2 [(.int .i64 0), (.int .i64 0), (.int .i64 0), (.int .i64 0)] [(0, 4, (.t 17)), (4, 4, (.t 18))]) <|
   o 20 (.build [.nilsl, .nilp, .nilp, .nilp, .nilp, .nilp, (.int .i64 0), (.int .u64 0), .nilsl, (.int .i64 0)] [(0, 1, (.t 19))]) <| o 21 (.box (.t 20)) <| m 2 21 <| .nil)) (
  .seq (.seq (.ops (
   o 3 (.mov (.c (.int .i64 0))) <| .nil)) (
  .block 0 (.loop [1, 2, 3] [1] (withylaw10_awake_c3)))) (
  withylaw10_awake_c2))

/-- 125: withy/withylaw10.awake -/
def withylaw10_awake : AFunc where
  closed := true
  nparams := 0
  ntmps := 65
  results := [.tmp 0]
  body := .seq (.ops (
   o 0 (.mov (.c (.bool false))) <| .nil)) (
   .seq (.ops (
   o 4 (.call 126 []) <| m 1 4 <| .nil)) (
   .seq (.join [1] [0, 1] (withylaw10_awake_c1)) (
   withylaw10_awake_c0)))

def withylaw10_awake_hs : List (List Nat × List Nat) := [([1000002, 1], [0, 1]), ([1, 2, 3], [1])]

end Wm.F
end

section
/- PRINTED by my tool (wip/wm/tool/Gen.lean): a function as one of my machine. -/
namespace Wm.F
open Wm
set_option maxRecDepth 100000

def withylaw10_begin_c1 : ACode :=
  .seq (.seq (.ops (
   m 8 3 <| d 9 0 1 <| l 10 9 <| o 11 (.cmp .lss .i64 (.t 8) (.t 10)) <| .nil)) (
  .cond (.t 11) (.skip) (.exit 0))) (
  .seq (.block 1 (.seq (.ops (
   o 14 (.build [(.int .i64 0), (.int .i64 0), (.bool false), (.int .i64 0), (.int .i64 0), (.int .i64 0)] [(0, 1, (.c (.int .i64 1))), (3, 1, (.c (.int .i64 3)))]) <|
   o 4 (.alloc [(.int .i64 0), (.int .i64 0), (.bool false), (.int .i64 0), (.int .i64 0), (.int .i64 0)]) <| u (.store 6 (.t 4) (.t 14)) <| .nil)) (
  .seq (.seq (.ops (
   m 15 3 <| o 16 (.cmp .gtr .i64 (.t 15) (.c (.int .i64 4))) <| .nil)) (
  .cond (.t 16) (.ops (
   o 17 (.build [(.int .i64 0), (.int .i64 0), (.bool false), (.int .i64 0), (.int .i64 0), (.int .i64 0)] [(0, 1, (.c (.int .i64 2)))]) <| u (.store 6 (.t 4) (.t 17)) <|
   .nil)) (.skip))) (
  .ops (
   m 18 2 <| ln 19 6 1 <| m 20 3 <| ln 22 6 4 <|
   .op ⟨(some 21), .call 131 [(.t 19), (.c (.str ⟨⟨[104, 101, 97, 100, 101, 114]⟩⟩)), (.t 20), (.c (.int .i64 0))], [{ g := none, op := .loadN 6 (.t 4), d := 22 }]⟩ <|
   o 23 (.call 111 [(.t 22)]) <| o 24 (.indexA 1 (.t 18) (.t 21)) <| u (.store 1 (.t 24) (.t 23)) <| .nil))))) (
  .ops (
   m 12 3 <| o 13 (.arith .add .i64 (.t 12) (.c (.int .i64 1))) <| m 3 13 <| .nil)))

def withylaw10_begin_c0 : ACode :=
  .seq (.ops (
   ln 25 6 1 <| m 26 2 <| .op ⟨(some 27), .call 198 [(.t 26)], [{ g := none, op := .loadN 6 (.t 1), d := 25 }]⟩ <|
   .op ⟨(some 28), .call 148 [], [{ g := none, op := .loadN 6 (.t 1), d := 25 }]⟩ <|
   o 29 (.build [(.int .i64 0), (.int .i64 0), (.int .i64 0), (.int .i64 0), (.int .i64 0), (.int .i64 0), .nilp, .nilp, (.int .i64 0), .nilsl, (.bool false)] [(0, 6, (.t 25)), (6, 1, (.t 27)), (7, 1, (.t 28)), (8, 1, (.c (.int .i64 5)))]) <| o 30 (.box (.t 29)) <| m 0 30 <| .nil)) (
  .ret)

/-- 126: withy/withylaw10.begin -/
def withylaw10_begin : AFunc where
  closed := false
  nparams := 0
  ntmps := 31
  results := [.tmp 0]
  body := .seq (.ops (
   o 0 (.mov (.c .nilp)) <| .nil)) (
   .seq (.ops (
   o 5 (.call 301 []) <| o 1 (.alloc [(.int .i64 0), (.int .i64 0), (.int .i64 0), (.int .i64 0), (.int .i64 0), (.int .i64 0)]) <| u (.store 6 (.t 1) (.t 5)) <| .nil)) (
   .seq (.ops (
   ln 6 6 1 <| o 7 (.call 86 [(.t 6)]) <| m 2 7 <| .nil)) (
   .seq (.seq (.ops (
   o 3 (.mov (.c (.int .i64 0))) <| .nil)) (
   .block 0 (.loop [1, 2, 3] [1, 2] (withylaw10_begin_c1)))) (
   withylaw10_begin_c0))))

def withylaw10_begin_hs : List (List Nat × List Nat) := [([1, 2, 3], [1, 2])]

end Wm.F
end

section
/- PRINTED by my tool (wip/wm/tool/Gen.lean): a function as one of my machine. -/
namespace Wm.F
open Wm
set_option maxRecDepth 100000

/-- 131: withy/withylaw10.at -/
def withylaw10_at : AFunc where
  closed := true
  nparams := 4
  ntmps := 15
  results := [.tmp 8]
  body := .seq (.ops (
   o 4 (.box (.t 0)) <| o 8 (.mov (.c (.int .i64 0))) <| .nil)) (
   .seq (.ops (
   ln 9 6 4 <| m 10 1 <| m 11 2 <| m 12 3 <| .op ⟨(some 13), .build [(.str ⟨⟨[]⟩⟩), (.int .i64 0), (.int .i64 0)] [(0, 1, (.t 10)), (1, 1, (.t 11)), (2, 1, (.t 12))], []⟩ <|
   o 14 (.call 108 [(.t 9), (.t 13)]) <| m 8 14 <| .nil)) (
   .ret))

def withylaw10_at_hs : List (List Nat × List Nat) := []

end Wm.F
end

section
/- PRINTED by my tool (wip/wm/tool/Gen.lean): a function as one of my machine. -/
namespace Wm.F
open Wm
set_option maxRecDepth 100000

/-- 144: withy/field.NewTurn -/
def field_NewTurn : AFunc where
  closed := false
  nparams := 2
  ntmps := 15
  results := [.tmp 4]
  body := .seq (.ops (
   o 2 (.box (.t 0)) <| o 4 (.mov (.c .nilp)) <| .nil)) (
   .seq (.seq (.ops (
   ln 5 6 2 <| o 6 (.call 263 [(.t 5)]) <| o 7 (.not (.t 6)) <| m 8 7 <| .grd 8 false [i 9 (.mov (.t 1)),
   i 10 (.eq false .ptr (.t 9) (.c .nilp))] <| o 11 (.pick (.t 8) (.c (.bool true)) (.t 10)) <| .nil)) (
   .cond (.t 11) (.seq (.ops (
   o 4 (.mov (.c .nilp)) <| .nil)) (
   .ret)) (.skip))) (
   .seq (.ops (
   m 12 1 <| o 13 (.build [(.int .u64 0), (.int .i64 0), .nilp, (.int .i64 0)] [(2, 1, (.t 12))]) <| o 14 (.box (.t 13)) <| m 4 14 <| .nil)) (
   .ret)))

def field_NewTurn_hs : List (List Nat × List Nat) := []

end Wm.F
end

section
/- PRINTED by my tool (wip/wm/tool/Gen.lean): a function as one of my machine. -/
namespace Wm.F
open Wm
set_option maxRecDepth 100000

/-- 145: (*withy/field.Turn).Step -/
def field_Turn_Step : AFunc where
  closed := false
  nparams := 2
  ntmps := 72
  results := [.tmp 4]
  body := .seq (.ops (
   o 4 (.mov (.c (.bool false))) <| .nil)) (
   .seq (.seq (.ops (
   m 5 0 <| o 6 (.eq false .ptr (.t 5) (.c .nilp)) <| .nil)) (
   .cond (.t 6) (.seq (.ops (
   o 4 (.mov (.c (.bool true))) <| .nil)) (
   .ret)) (.skip))) (
   .seq (.seq (.ops (
   m 7 0 <| n 8 7 <| d 9 3 8 <| l 10 9 <| .nil)) (
   .block 0 (.seq (.ops (
   o 12 (.cmp .eql .i64 (.t 10) (.c (.int .i64 0))) <| m 11 12 <| .nil)) (
   .cond (.t 11) (.seq (.ops (
   m 13 0 <| m 14 1 <| o 15 (.call 266 [(.t 14), (.c (.int .i64 0))]) <| n 16 13 <| d 17 0 16 <| u (.store 1 (.t 17) (.t 15)) <| .nil)) (
   .ops (
   m 18 0 <| n 19 18 <| d 20 3 19 <| u (.store 1 (.t 20) (.c (.int .i64 1))) <| .nil))) (.seq (.ops (
   o 22 (.cmp .eql .i64 (.t 10) (.c (.int .i64 1))) <| m 21 22 <| .nil)) (
   .cond (.t 21) (.seq (.seq (.ops (
   m 23 1 <| m 24 0 <| n 25 24 <| d 26 0 25 <| l 27 26 <| m 28 0 <| n 29 28 <| d 30 0 29 <| l 31 30 <| o 32 (.arith .add .u64 (.t 31) (.c (.int .u64 1))) <|
   o 33 (.call 269 [(.t 23), (.c (.int .i64 0)), (.t 27), (.t 32)]) <| .nil)) (
   .cond (.t 33) (.ops (
   m 34 0 <| n 35 34 <| d 36 2 35 <| l 37 36 <| n 38 37 <| d 39 2 38 <| l 40 39 <| m 41 0 <| n 42 41 <| d 43 0 42 <| l 44 43 <| m 45 0 <| n 46 45 <| d 47 2 46 <| l 48 47 <|
   n 49 48 <| d 50 0 49 <| l 51 50 <| u (.mapSet .int (.t 40) (.t 44) (.t 51)) <| .nil)) (.skip))) (
   .seq (.ops (
   m 52 0 <| m 53 0 <| n 54 53 <| d 55 2 54 <| l 56 55 <| m 57 0 <| n 58 57 <| d 59 0 58 <| l 60 59 <| o 61 (.call 153 [(.t 56), (.t 60)]) <| n 62 52 <| d 63 1 62 <|
   u (.store 1 (.t 63) (.t 61)) <| .nil)) (
   .ops (
   m 64 0 <| n 65 64 <| d 66 3 65 <| u (.store 1 (.t 66) (.c (.int .i64 2))) <| .nil)))) (.skip))))))) (
   .seq (.ops (
   m 67 0 <| n 68 67 <| d 69 3 68 <| l 70 69 <| o 71 (.cmp .eql .i64 (.t 70) (.c (.int .i64 2))) <| m 4 71 <| .nil)) (
   .ret))))

def field_Turn_Step_hs : List (List Nat × List Nat) := []

end Wm.F
end

section
/- PRINTED by my tool (wip/wm/tool/Gen.lean): a function as one of my machine. -/
namespace Wm.F
open Wm
set_option maxRecDepth 100000

/-- 150: (*withy/field.Stamp).Step -/
def field_Stamp_Step : AFunc where
  closed := false
  nparams := 2
  ntmps := 85
  results := [.tmp 4]
  body := .seq (.ops (
   o 4 (.mov (.c (.bool false))) <| .nil)) (
   .seq (.seq (.ops (
   m 6 0 <| o 7 (.eq false .ptr (.t 6) (.c .nilp)) <| .nil)) (
   .cond (.t 7) (.seq (.ops (
   o 4 (.mov (.c (.bool true))) <| .nil)) (
   .ret)) (.skip))) (
   .seq (.ops (
   m 8 0 <| n 9 8 <| d 10 0 9 <| ln 11 6 10 <| m 12 0 <| n 13 12 <| d 14 7 13 <| l 15 14 <| o 16 (.call 305 [(.t 11), (.t 15), (.c (.int .i64 1))]) <| m 5 16 <| .nil)) (
   .seq (.seq (.ops (
   m 17 0 <| n 18 17 <| d 19 8 18 <| l 20 19 <| .nil)) (
   .block 0 (.seq (.ops (
   o 22 (.cmp .eql .i64 (.t 20) (.c (.int .i64 0))) <| m 21 22 <| .nil)) (
   .cond (.t 21) (.seq (.ops (
   m 23 0 <| n 24 23 <| d 25 8 24 <| u (.store 1 (.t 25) (.c (.int .i64 1))) <| .nil)) (
   .seq (.ops (
   m 26 1 <| m 27 5 <| o 28 (.call 266 [(.t 26), (.t 27)]) <| o 29 (.cmp .neq .u64 (.t 28) (.c (.int .u64 0))) <| .nil)) (
   .cond (.t 29) (.ops (
   m 30 0 <| n 31 30 <| d 32 8 31 <| u (.store 1 (.t 32) (.c (.int .i64 3))) <| .nil)) (.skip)))) (.seq (.ops (
   o 34 (.cmp .eql .i64 (.t 20) (.c (.int .i64 1))) <| m 33 34 <| .nil)) (
   .cond (.t 33) (.seq (.ops (
   m 35 0 <| m 36 0 <| m 37 1 <| m 39 0 <| n 40 39 <| d 41 6 40 <| l 42 41 <| n 43 42 <| d 44 0 43 <| l 45 44 <|
   .op ⟨(some 38), .call 266 [(.t 37), (.c (.int .i64 0))], [{ g := none, op := .load1 (.t 44), d := 45 }, { g := none, op := .load1 (.t 41), d := 42 }]⟩ <| n 46 35 <|
   d 47 9 46 <| u (.store 1 (.t 47) (.t 38)) <| n 48 36 <| d 49 10 48 <| u (.store 1 (.t 49) (.t 45)) <| .nil)) (
   .ops (
   m 50 0 <| n 51 50 <| d 52 8 51 <| u (.store 1 (.t 52) (.c (.int .i64 2))) <| .nil))) (.seq (.ops (
   o 54 (.cmp .eql .i64 (.t 20) (.c (.int .i64 2))) <| m 53 54 <| .nil)) (
   .cond (.t 53) (.seq (.seq (.ops (
   m 55 1 <| m 56 5 <| m 57 0 <| n 58 57 <| d 59 9 58 <| l 60 59 <| o 61 (.call 269 [(.t 55), (.t 56), (.c (.int .u64 0)), (.t 60)]) <| .nil)) (
   .cond (.t 61) (.ops (
   m 62 0 <| n 63 62 <| d 64 6 63 <| l 65 64 <| n 66 65 <| d 67 1 66 <| l 68 67 <| m 69 0 <| n 70 69 <| d 71 7 70 <| l 72 71 <| m 73 0 <| n 74 73 <| d 75 10 74 <| l 76 75 <|
   u (.mapSet .int (.t 68) (.t 72) (.t 76)) <| .nil)) (.skip))) (
   .ops (
   m 77 0 <| n 78 77 <| d 79 8 78 <| u (.store 1 (.t 79) (.c (.int .i64 3))) <| .nil))) (.skip))))))))) (
   .seq (.ops (
   m 80 0 <| n 81 80 <| d 82 8 81 <| l 83 82 <| o 84 (.cmp .eql .i64 (.t 83) (.c (.int .i64 3))) <| m 4 84 <| .nil)) (
   .ret)))))

def field_Stamp_Step_hs : List (List Nat × List Nat) := []

end Wm.F
end

section
/- PRINTED by my tool (wip/wm/tool/Gen.lean): a function as one of my machine. -/
namespace Wm.F
open Wm
set_option maxRecDepth 100000

/-- 151: withy/field.NewStamp -/
def field_NewStamp : AFunc where
  closed := false
  nparams := 3
  ntmps := 20
  results := [.tmp 6]
  body := .seq (.ops (
   o 3 (.box (.t 0)) <| o 6 (.mov (.c .nilp)) <| .nil)) (
   .seq (.seq (.ops (
   ln 7 6 3 <| m 8 1 <| o 9 (.call 261 [(.t 7), (.t 8)]) <| o 10 (.cmp .lss .i64 (.t 9) (.c (.int .i64 0))) <| m 11 10 <| .grd 11 false [i 12 (.mov (.t 2)),
   i 13 (.eq false .ptr (.t 12) (.c .nilp))] <| o 14 (.pick (.t 11) (.c (.bool true)) (.t 13)) <| .nil)) (
   .cond (.t 14) (.seq (.ops (
   o 6 (.mov (.c .nilp)) <| .nil)) (
   .ret)) (.skip))) (
   .seq (.ops (
   ln 15 6 3 <| m 16 2 <| m 17 1 <|
   o 18 (.build [(.int .i64 0), (.int .i64 0), (.int .i64 0), (.int .i64 0), (.int .i64 0), (.int .i64 0), .nilp, (.int .i64 0), (.int .i64 0), (.int .u64 0), (.int .i64 0)] [(0, 6, (.t 15)), (6, 1, (.t 16)), (7, 1, (.t 17))]) <| o 19 (.box (.t 18)) <| m 6 19 <| .nil)) (
   .ret)))

def field_NewStamp_hs : List (List Nat × List Nat) := []

end Wm.F
end

section
/- PRINTED by my tool (wip/wm/tool/Gen.lean): a function as one of my machine. -/
namespace Wm.F
open Wm
set_option maxRecDepth 100000

/-- 152: (*withy/field.Book).Born -/
def field_Book_Born : AFunc where
  closed := false
  nparams := 2
  ntmps := 20
  results := [.tmp 4]
  body := .seq (.ops (
   o 4 (.mov (.c (.int .i64 0))) <| .nil)) (
   .seq (.seq (.ops (
   m 7 0 <| o 8 (.eq true .ptr (.t 7) (.c .nilp)) <| .nil)) (
   .cond (.t 8) (.seq (.ops (
   m 10 0 <| n 11 10 <| d 12 1 11 <| l 13 12 <| m 14 1 <| o 15 (.lookup .int (.int .i64 0) true (.t 13) (.t 14)) <| m 9 15 <| o 16 (.extract (.t 9) 0) <|
   o 17 (.extract (.t 9) 1) <| m 5 16 <| m 6 17 <| .nil)) (
   .seq (.ops (
   m 18 6 <| .nil)) (
   .cond (.t 18) (.seq (.ops (
   m 19 5 <| m 4 19 <| .nil)) (
   .ret)) (.skip)))) (.skip))) (
   .seq (.ops (
   o 4 (.mov (.c (.int .i64 (-1)))) <| .nil)) (
   .ret)))

def field_Book_Born_hs : List (List Nat × List Nat) := []

end Wm.F
end

section
/- PRINTED by my tool (wip/wm/tool/Gen.lean): a function as one of my machine. -/
namespace Wm.F
open Wm
set_option maxRecDepth 100000

/-- 271: slices.Clone[[]uint64,uint64] -/
def slices_Clone___uint64_uint64_ : AFunc where
  closed := false
  nparams := 1
  ntmps := 8
  results := [.tmp 2]
  body := .seq (.ops (
   o 2 (.mov (.c .nilsl)) <| .nil)) (
   .seq (.seq (.ops (
   m 3 0 <| o 4 (.eq false .sl (.t 3) (.c .nilsl)) <| .nil)) (
   .cond (.t 4) (.seq (.ops (
   o 2 (.mov (.c .nilsl)) <| .nil)) (
   .ret)) (.skip))) (
   .seq (.ops (
   o 5 (.buildSl 1 0 [(.int .u64 0)] []) <| m 6 0 <| o 7 (.append 1 8 (.t 5) (.t 6)) <| m 2 7 <| .nil)) (
   .ret)))

def slices_Clone___uint64_uint64__hs : List (List Nat × List Nat) := []

end Wm.F
end

section
/- PRINTED by my tool (wip/wm/tool/Gen.lean): a function as one of my machine. -/
namespace Wm.F
open Wm
set_option maxRecDepth 100000

def withylaw10_hand_step_c3 : ACode :=
  .seq (.ops (
   d 28 0 5 <| l 29 28 <| .nil)) (
  .block 0 (.seq (.ops (
   o 76 (.cmp .eql .i64 (.t 29) (.c (.int .i64 0))) <| m 75 76 <| .nil)) (
  .cond (.t 75) (.seq (.ops (
   m 77 0 <| n 78 77 <| d 79 2 78 <| l 80 79 <| m 81 1 <| n 82 81 <| d 83 6 82 <| l 84 83 <| o 85 (.call 128 [(.t 80), (.t 84)]) <| .nil)) (
   .cond (.t 85) (.seq (.ops (
   m 86 1 <| m 87 1 <| n 88 87 <| d 89 9 88 <| l 90 89 <| m 91 0 <| n 92 91 <| d 93 2 92 <| l 94 93 <| n 95 94 <| d 96 2 95 <| l 97 96 <| ln 98 4 5 <| m 99 0 <| n 100 99 <|
   d 101 2 100 <| l 102 101 <| n 103 102 <| d 104 1 103 <| l 105 104 <|
   o 106 (.build [(.int .i64 0), (.bool false), (.int .i64 0), (.int .i64 0), (.int .i64 0), (.int .i64 0), (.int .i64 0), (.bool false)] [(0, 1, (.t 97)), (1, 1, (.c (.bool true))), (2, 4, (.t 98)), (6, 1, (.t 105)), (7, 1, (.c (.bool false)))]) <| o 107 (.buildSl 8 1 [(.int .i64 0), (.bool false), (.int .i64 0), (.int .i64 0), (.int .i64 0), (.int .i64 0), (.int .i64 0), (.bool false)] [(0, 8, (.t 106))]) <| o 108 (.append 8 64 (.t 90) (.t 107)) <| n 109 86 <| d 110 9 109 <| u (.store 1 (.t 110) (.t 108)) <| .nil)) (
   .ops (
   m 111 0 <| n 112 111 <| d 113 1 112 <| u (.store 1 (.t 113) (.c .nilp)) <| .nil))) (.skip))) (.seq (.ops (
   o 115 (.cmp .eql .i64 (.t 29) (.c (.int .i64 3))) <| m 114 115 <| .nil)) (
   .cond (.t 114) (.ops (
   m 116 0 <| m 117 1 <| ln 118 4 5 <| o 119 (.call 395 [(.t 116), (.t 117), (.t 118)]) <| .nil)) (.seq (.ops (
   m 30 0 <| n 31 30 <| d 32 3 31 <| l 33 32 <| m 34 1 <| n 35 34 <| d 36 6 35 <| l 37 36 <| o 38 (.call 133 [(.t 33), (.t 37)]) <| .nil)) (
   .cond (.t 38) (.seq (.ops (
   m 39 1 <| m 40 1 <| n 41 40 <| d 42 9 41 <| l 43 42 <| m 44 0 <| n 45 44 <| d 46 3 45 <| l 47 46 <| n 48 47 <| d 49 1 48 <| l 50 49 <| m 51 0 <| n 52 51 <| d 53 3 52 <|
   l 54 53 <| n 55 54 <| d 56 0 55 <| l 57 56 <| o 58 (.not (.t 57)) <| ln 59 4 5 <| m 60 0 <| n 61 60 <| d 62 3 61 <| l 63 62 <| n 64 63 <| d 65 0 64 <| l 66 65 <|
   o 67 (.build [(.int .i64 0), (.bool false), (.int .i64 0), (.int .i64 0), (.int .i64 0), (.int .i64 0), (.int .i64 0), (.bool false)] [(0, 1, (.t 50)), (1, 1, (.t 58)), (2, 4, (.t 59)), (6, 1, (.c (.int .i64 0))), (7, 1, (.t 66))]) <| o 68 (.buildSl 8 1 [(.int .i64 0), (.bool false), (.int .i64 0), (.int .i64 0), (.int .i64 0), (.int .i64 0), (.int .i64 0), (.bool false)] [(0, 8, (.t 67))]) <| o 69 (.append 8 64 (.t 43) (.t 68)) <| n 70 39 <| d 71 9 70 <| u (.store 1 (.t 71) (.t 69)) <| .nil)) (
   .ops (
   m 72 0 <| n 73 72 <| d 74 1 73 <| u (.store 1 (.t 74) (.c .nilp)) <| .nil))) (.skip))))))))

def withylaw10_hand_step_c2 : ACode :=
  .seq (.ops (
   m 120 1 <| n 121 120 <| d 122 6 121 <| l 123 122 <| o 124 (.call 107 [(.t 123)]) <| m 125 4 <| o 126 (.arith .add .i64 (.t 125) (.c (.int .i64 1))) <|
   o 127 (.cmp .gtr .i64 (.t 124) (.t 126)) <| .nil)) (
  .cond (.t 127) (.ops (
   m 128 1 <| n 129 128 <| d 130 10 129 <| u (.store 1 (.t 130) (.c (.bool true))) <| .nil)) (.skip))

def withylaw10_hand_step_c1 : ACode :=
  .seq (.ops (
   m 6 0 <| n 7 6 <| d 8 1 7 <| l 9 8 <| o 10 (.eq false .ptr (.t 9) (.c .nilp)) <| m 11 10 <| .grd 11 true [i 12 (.mov (.t 0)),
   i 13 (.mov (.t 1)),
   i 14 (.call 394 [(.t 12), (.t 13)]),
   i 15 (.not (.t 14))] <| o 16 (.pick (.t 11) (.t 15) (.c (.bool false))) <| .nil)) (
  .cond (.t 16) (.ret) (.skip))

def withylaw10_hand_step_c0 : ACode :=
  .seq (.ops (
   m 17 1 <| n 18 17 <| d 19 6 18 <| l 20 19 <| o 21 (.call 107 [(.t 20)]) <| m 4 21 <| .nil)) (
  .seq (.ops (
   m 22 0 <| n 23 22 <| d 24 1 23 <| l 25 24 <| n 26 25 <| ln 27 4 26 <| o 5 (.alloc [(.int .i64 0), (.int .i64 0), (.int .i64 0), (.int .i64 0)]) <|
   u (.store 4 (.t 5) (.t 27)) <| .nil)) (
  .seq (.join [0, 1, 4, 5] [1, 4] (withylaw10_hand_step_c3)) (
  withylaw10_hand_step_c2)))

/-- 299: (*withy/withylaw10.hand).step -/
def withylaw10_hand_step : AFunc where
  closed := false
  nparams := 2
  ntmps := 131
  results := []
  body := .seq (.join [0, 1] [0, 1] (withylaw10_hand_step_c1)) (
   withylaw10_hand_step_c0)

def withylaw10_hand_step_hs : List (List Nat × List Nat) := [([1000000, 0, 1], [0, 1]), ([1000003, 0, 1, 4, 5], [1, 4])]

end Wm.F
end

section
/- PRINTED by my tool (wip/wm/tool/Gen.lean): a function as one of my machine. -/
namespace Wm.F
open Wm
set_option maxRecDepth 100000

def withylaw10_world_right_c13 : ACode :=
  .ops (
   d 140 2 10 <| d 141 0 140 <| l 142 141 <| o 143 (.cmp .eql .i64 (.t 142) (.c (.int .i64 2))) <| m 144 143 <| .grd 144 true [i 145 (.fieldA 7 (.t 10)),
   i 146 (.load1 (.t 145)),
   i 147 (.mov (.t 3)),
   i 148 (.mov (.t 11)),
   i 149 (.indexA 1 (.t 147) (.t 148)),
   i 150 (.load1 (.t 149)),
   i 151 (.fieldA 2 (.t 10)),
   i 152 (.fieldA 3 (.t 151)),
   i 153 (.load1 (.t 152)),
   ⟨(some 154), .call 129 [(.t 153)], [{ g := (some (144, true)), op := .load1 (.t 149), d := 150 }, { g := (some (144, true)), op := .load1 (.t 145), d := 146 }]⟩,
   i 155 (.cmp .eql .i64 (.t 150) (.t 154)),
   i 156 (.eq true .bool (.t 146) (.t 155))] <| o 157 (.pick (.t 144) (.t 156) (.c (.bool false))) <| m 139 157 <| .nil)

def withylaw10_world_right_c12 : ACode :=
  .cond (.t 139) (.seq (.ops (
   o 2 (.mov (.c (.bool false))) <| .nil)) (
   .ret)) (.seq (.ops (
   d 159 7 10 <| l 160 159 <| m 158 160 <| .nil)) (
   .cond (.t 158) (.ops (
   m 161 3 <| m 162 11 <| d 163 2 10 <| d 164 2 163 <| l 165 164 <| o 166 (.call 129 [(.t 165)]) <| o 167 (.indexA 1 (.t 161) (.t 162)) <| u (.store 1 (.t 167) (.t 166)) <|
   .nil)) (.skip)))

def withylaw10_world_right_c11 : ACode :=
  .ops (
   d 130 2 10 <| d 131 0 130 <| l 132 131 <| o 133 (.cmp .eql .i64 (.t 132) (.c (.int .i64 1))) <| m 134 133 <| .grd 134 true [i 135 (.fieldA 7 (.t 10)),
   i 136 (.load1 (.t 135)),
   i 137 (.not (.t 136))] <| o 138 (.pick (.t 134) (.t 137) (.c (.bool false))) <| m 129 138 <| .nil)

def withylaw10_world_right_c10 : ACode :=
  .cond (.t 129) (.seq (.ops (
   o 2 (.mov (.c (.bool false))) <| .nil)) (
   .ret)) (.seq (.join [0, 3, 4, 5, 6, 10, 11] [0, 3, 4, 5, 6, 10, 11, 139] (withylaw10_world_right_c13)) (
   withylaw10_world_right_c12))

def withylaw10_world_right_c9 : ACode :=
  .ops (
   d 112 2 10 <| d 113 0 112 <| l 114 113 <| o 115 (.cmp .eql .i64 (.t 114) (.c (.int .i64 0))) <| m 116 115 <| .grd 116 false [i 117 (.fieldA 2 (.t 10)),
   i 118 (.fieldA 0 (.t 117)),
   i 119 (.load1 (.t 118)),
   i 120 (.cmp .eql .i64 (.t 119) (.c (.int .i64 3)))] <| o 121 (.pick (.t 116) (.c (.bool true)) (.t 120)) <| m 111 121 <| .nil)

def withylaw10_world_right_c8 : ACode :=
  .cond (.t 111) (.seq (.ops (
   d 122 6 10 <| l 123 122 <| m 124 3 <| m 125 11 <| o 126 (.indexA 1 (.t 124) (.t 125)) <| l 127 126 <| o 128 (.cmp .neq .i64 (.t 123) (.t 127)) <| .nil)) (
   .cond (.t 128) (.seq (.ops (
   o 2 (.mov (.c (.bool false))) <| .nil)) (
   .ret)) (.skip))) (.seq (.join [0, 3, 4, 5, 6, 10, 11] [0, 3, 4, 5, 6, 10, 11, 129] (withylaw10_world_right_c11)) (
   withylaw10_world_right_c10))

def withylaw10_world_right_c7 : ACode :=
  .ops (
   m 48 7 <| o 49 (.cmp .lss .i64 (.t 48) (.c (.int .i64 0))) <| m 50 49 <| .grd 50 false [i 51 (.fieldA 0 (.t 9)),
   i 52 (.load1 (.t 51)),
   i 53 (.mov (.t 0)),
   i 54 (.nilc (.t 53)),
   i 55 (.fieldA 9 (.t 54)),
   i 56 (.load1 (.t 55)),
   i 57 (.mov (.t 7)),
   i 58 (.indexA 8 (.t 56) (.t 57)),
   i 59 (.fieldA 0 (.t 58)),
   i 60 (.load1 (.t 59)),
   i 61 (.cmp .lss .i64 (.t 52) (.t 60))] <| o 62 (.pick (.t 50) (.c (.bool true)) (.t 61)) <| m 63 62 <| .grd 63 false [i 64 (.fieldA 0 (.t 9)),
   i 65 (.load1 (.t 64)),
   i 66 (.mov (.t 0)),
   i 67 (.nilc (.t 66)),
   i 68 (.fieldA 9 (.t 67)),
   i 69 (.load1 (.t 68)),
   i 70 (.mov (.t 7)),
   i 71 (.indexA 8 (.t 69) (.t 70)),
   i 72 (.fieldA 0 (.t 71)),
   i 73 (.load1 (.t 72)),
   i 74 (.cmp .eql .i64 (.t 65) (.t 73)),
   i 75 (.mov (.t 74))] <| .grd 75 true [i 76 (.fieldA 1 (.t 9)),
   i 77 (.load1 (.t 76)),
   i 78 (.not (.t 77))] <| .grd 63 false [i 79 (.pick (.t 75) (.t 78) (.c (.bool false))),
   i 80 (.mov (.t 79))] <| .grd 80 true [i 81 (.mov (.t 0)),
   i 82 (.nilc (.t 81)),
   i 83 (.fieldA 9 (.t 82)),
   i 84 (.load1 (.t 83)),
   i 85 (.mov (.t 7)),
   i 86 (.indexA 8 (.t 84) (.t 85)),
   i 87 (.fieldA 1 (.t 86)),
   i 88 (.load1 (.t 87))] <| .grd 63 false [i 89 (.pick (.t 80) (.t 88) (.c (.bool false)))] <| o 90 (.pick (.t 63) (.c (.bool true)) (.t 89)) <| .nil)

def withylaw10_world_right_c6 : ACode :=
  .cond (.t 90) (.ops (
   m 91 8 <| m 7 91 <| .nil)) (.skip)

def withylaw10_world_right_c5 : ACode :=
  .ops (
   m 35 8 <| o 36 (.arith .add .i64 (.t 35) (.c (.int .i64 1))) <| m 8 36 <| .nil)

def withylaw10_world_right_c4 : ACode :=
  .seq (.seq (.ops (
   m 28 8 <| m 29 0 <| n 30 29 <| d 31 9 30 <| l 32 31 <| o 33 (.lenSl (.t 32)) <| o 34 (.cmp .lss .i64 (.t 28) (.t 33)) <| .nil)) (
  .cond (.t 34) (.skip) (.exit 2))) (
  .seq (.block 3 (.seq (.ops (
   m 37 0 <| n 38 37 <| d 39 9 38 <| l 40 39 <| m 41 8 <| o 42 (.indexA 8 (.t 40) (.t 41)) <| ln 43 8 42 <|
   o 9 (.alloc [(.int .i64 0), (.bool false), (.int .i64 0), (.int .i64 0), (.int .i64 0), (.int .i64 0), (.int .i64 0), (.bool false)]) <| u (.store 8 (.t 9) (.t 43)) <| .nil)) (
  .seq (.seq (.ops (
   m 44 5 <| m 45 8 <| o 46 (.indexA 1 (.t 44) (.t 45)) <| l 47 46 <| .nil)) (
  .cond (.t 47) (.exit 3) (.skip))) (
  .seq (.join [0, 3, 4, 5, 6, 7, 8, 9] [0, 3, 4, 5, 6, 7, 8, 90] (withylaw10_world_right_c7)) (
  withylaw10_world_right_c6))))) (
  withylaw10_world_right_c5))

def withylaw10_world_right_c3 : ACode :=
  .seq (.ops (
   m 92 5 <| m 93 7 <| o 94 (.indexA 1 (.t 92) (.t 93)) <| u (.store 1 (.t 94) (.c (.bool true))) <| .nil)) (
  .seq (.ops (
   m 95 0 <| n 96 95 <| d 97 9 96 <| l 98 97 <| m 99 7 <| o 100 (.indexA 8 (.t 98) (.t 99)) <| ln 101 8 100 <|
   o 10 (.alloc [(.int .i64 0), (.bool false), (.int .i64 0), (.int .i64 0), (.int .i64 0), (.int .i64 0), (.int .i64 0), (.bool false)]) <| u (.store 8 (.t 10) (.t 101)) <|
   .nil)) (
  .seq (.ops (
   d 102 2 10 <| d 103 1 102 <| l 104 103 <| m 11 104 <| .nil)) (
  .seq (.seq (.ops (
   d 105 0 10 <| l 106 105 <| m 107 4 <| o 108 (.cmp .lss .i64 (.t 106) (.t 107)) <| .nil)) (
  .cond (.t 108) (.seq (.ops (
   o 2 (.mov (.c (.bool false))) <| .nil)) (
   .ret)) (.skip))) (
  .seq (.ops (
   d 109 0 10 <| l 110 109 <| m 4 110 <| .nil)) (
  .block 4 (.seq (.join [0, 3, 4, 5, 6, 10, 11] [0, 3, 4, 5, 6, 10, 11, 111] (withylaw10_world_right_c9)) (
  withylaw10_world_right_c8)))))))

def withylaw10_world_right_c2 : ACode :=
  .ops (
   m 26 6 <| o 27 (.arith .add .i64 (.t 26) (.c (.int .i64 1))) <| m 6 27 <| .nil)

def withylaw10_world_right_c1 : ACode :=
  .seq (.seq (.ops (
   m 19 6 <| m 20 0 <| n 21 20 <| d 22 9 21 <| l 23 22 <| o 24 (.lenSl (.t 23)) <| o 25 (.cmp .lss .i64 (.t 19) (.t 24)) <| .nil)) (
  .cond (.t 25) (.skip) (.exit 0))) (
  .seq (.block 1 (.seq (.ops (
   o 7 (.mov (.c (.int .i64 (-1)))) <| .nil)) (
  .seq (.seq (.ops (
   o 8 (.mov (.c (.int .i64 0))) <| .nil)) (
  .block 2 (.loop [0, 3, 4, 5, 6, 7, 8] [0, 3, 4, 5, 6, 7] (withylaw10_world_right_c4)))) (
  withylaw10_world_right_c3)))) (
  withylaw10_world_right_c2))

def withylaw10_world_right_c0 : ACode :=
  .seq (.ops (
   o 2 (.mov (.c (.bool true))) <| .nil)) (
  .ret)

/-- 300: (*withy/withylaw10.world).right -/
def withylaw10_world_right : AFunc where
  closed := false
  nparams := 1
  ntmps := 168
  results := [.tmp 2]
  body := .seq (.ops (
   o 2 (.mov (.c (.bool false))) <| .nil)) (
   .seq (.ops (
   o 12 (.buildSl 1 2 [(.int .i64 0)] [(0, 1, (.c (.int .i64 (-1)))), (1, 1, (.c (.int .i64 (-1))))]) <| m 3 12 <| .nil)) (
   .seq (.ops (
   o 4 (.mov (.c (.int .i64 (-1)))) <| .nil)) (
   .seq (.ops (
   m 13 0 <| n 14 13 <| d 15 9 14 <| l 16 15 <| o 17 (.lenSl (.t 16)) <| o 18 (.mkSl 1 1 [(.bool false)] (.t 17) (.t 17)) <| m 5 18 <| .nil)) (
   .seq (.seq (.ops (
   o 6 (.mov (.c (.int .i64 0))) <| .nil)) (
   .block 0 (.loop [0, 3, 4, 5, 6] [2] (withylaw10_world_right_c1)))) (
   withylaw10_world_right_c0)))))

def withylaw10_world_right_hs : List (List Nat × List Nat) := [([0, 3, 4, 5, 6], [2]), ([0, 3, 4, 5, 6, 7, 8], [0, 3, 4, 5, 6, 7]), ([1000006, 0, 3, 4, 5, 6, 7, 8, 9], [0, 3, 4, 5, 6, 7, 8, 90]), ([1000007, 0, 3, 4, 5, 6, 10, 11], [0, 3, 4, 5, 6, 10, 11, 111]), ([1000002, 0, 3, 4, 5, 6, 10, 11], [0, 3, 4, 5, 6, 10, 11, 129]), ([1000001, 0, 3, 4, 5, 6, 10, 11], [0, 3, 4, 5, 6, 10, 11, 139])]

end Wm.F
end

section
/- PRINTED by my tool (wip/wm/tool/Gen.lean): a function as one of my machine. -/
namespace Wm.F
open Wm
set_option maxRecDepth 100000

def withyref06_Memory_c1 : ACode :=
  .seq (.seq (.ops (
   m 15 5 <| m 16 3 <| o 17 (.lenSl (.t 16)) <| o 18 (.cmp .lss .i64 (.t 15) (.t 17)) <| .nil)) (
  .cond (.t 18) (.skip) (.exit 0))) (
  .seq (.block 1 (.seq (.ops (
   m 21 3 <| m 22 5 <| o 23 (.indexA 3 (.t 21) (.t 22)) <| d 24 0 23 <| l 25 24 <| .op ⟨(some 26), .eq false .str (.t 25) (.c (.str ⟨⟨[108, 105, 110, 107]⟩⟩)), []⟩ <| m 27 26 <|
   .grd 27 true [i 28 (.mov (.t 3)),
   i 29 (.mov (.t 5)),
   i 30 (.indexA 3 (.t 28) (.t 29)),
   i 31 (.fieldA 1 (.t 30)),
   i 32 (.load1 (.t 31)),
   i 33 (.arith .add .i64 (.t 32) (.c (.int .i64 1))),
   i 34 (.fieldA 0 (.t 1)),
   i 35 (.load1 (.t 34)),
   i 36 (.cmp .lss .i64 (.t 33) (.t 35))] <| o 37 (.pick (.t 27) (.t 36) (.c (.bool false))) <| .nil)) (
  .cond (.t 37) (.ops (
   m 38 4 <| m 39 5 <| m 40 3 <| m 41 5 <| o 42 (.indexA 3 (.t 40) (.t 41)) <| d 43 1 42 <| l 44 43 <| o 45 (.arith .add .i64 (.t 44) (.c (.int .i64 2))) <|
   o 46 (.conv .u64 (.t 45)) <| o 47 (.indexA 1 (.t 38) (.t 39)) <| u (.store 1 (.t 47) (.t 46)) <| .nil)) (.skip)))) (
  .ops (
   m 19 5 <| o 20 (.arith .add .i64 (.t 19) (.c (.int .i64 1))) <| m 5 20 <| .nil)))

def withyref06_Memory_c0 : ACode :=
  .seq (.ops (
   m 48 4 <| m 2 48 <| .nil)) (
  .ret)

/-- 86: withy/withyref06.Memory -/
def withyref06_Memory : AFunc where
  closed := false
  nparams := 1
  ntmps := 49
  results := [.tmp 2]
  body := .seq (.ops (
   o 1 (.box (.t 0)) <| o 2 (.mov (.c .nilsl)) <| .nil)) (
   .seq (.ops (
   ln 6 6 1 <| o 7 (.call 87 [(.t 6)]) <| m 3 7 <| .nil)) (
   .seq (.ops (
   m 8 3 <| o 9 (.lenSl (.t 8)) <| o 10 (.mkSl 1 8 [(.int .u64 0)] (.t 9) (.t 9)) <| m 4 10 <| .nil)) (
   .seq (.ops (
   m 11 4 <| o 12 (.indexA 1 (.t 11) (.c (.int .i64 0))) <| u (.store 1 (.t 12) (.c (.int .u64 1))) <| .nil)) (
   .seq (.ops (
   m 13 4 <| o 14 (.indexA 1 (.t 13) (.c (.int .i64 3))) <| u (.store 1 (.t 14) (.c (.int .u64 1))) <| .nil)) (
   .seq (.seq (.ops (
   o 5 (.mov (.c (.int .i64 0))) <| .nil)) (
   .block 0 (.loop [1, 3, 4, 5] [4] (withyref06_Memory_c1)))) (
   withyref06_Memory_c0))))))

def withyref06_Memory_hs : List (List Nat × List Nat) := [([1, 3, 4, 5], [4])]

end Wm.F
end

section
/- PRINTED by my tool (wip/wm/tool/Gen.lean): a function as one of my machine. -/
namespace Wm.F
open Wm
set_option maxRecDepth 100000

/-- 111: withy/withyref04.Pack -/
def withyref04_Pack : AFunc where
  closed := true
  nparams := 1
  ntmps := 32
  results := [.tmp 2]
  body := .seq (.ops (
   o 1 (.box (.t 0)) <| o 2 (.mov (.c (.int .u64 0))) <| .nil)) (
   .seq (.ops (
   d 4 0 1 <| l 5 4 <| o 6 (.conv .u64 (.t 5)) <| d 7 1 1 <| l 8 7 <| o 9 (.conv .u64 (.t 8)) <| o 10 (.arith .mul .u64 (.c (.int .u64 8)) (.t 9)) <|
   o 11 (.arith .add .u64 (.t 6) (.t 10)) <| d 12 3 1 <| l 13 12 <| o 14 (.conv .u64 (.t 13)) <| o 15 (.arith .mul .u64 (.c (.int .u64 32)) (.t 14)) <|
   o 16 (.arith .add .u64 (.t 11) (.t 15)) <| d 17 4 1 <| l 18 17 <| o 19 (.conv .u64 (.t 18)) <| o 20 (.arith .mul .u64 (.c (.int .u64 65536)) (.t 19)) <|
   o 21 (.arith .add .u64 (.t 16) (.t 20)) <| d 22 5 1 <| l 23 22 <| o 24 (.conv .u64 (.t 23)) <| o 25 (.arith .mul .u64 (.c (.int .u64 281474976710656)) (.t 24)) <|
   o 26 (.arith .add .u64 (.t 21) (.t 25)) <| m 3 26 <| .nil)) (
   .seq (.seq (.ops (
   d 27 2 1 <| l 28 27 <| .nil)) (
   .cond (.t 28) (.ops (
   m 29 3 <| o 30 (.arith .add .u64 (.t 29) (.c (.int .u64 16))) <| m 3 30 <| .nil)) (.skip))) (
   .seq (.ops (
   m 31 3 <| m 2 31 <| .nil)) (
   .ret))))

def withyref04_Pack_hs : List (List Nat × List Nat) := []

end Wm.F
end

section
/- PRINTED by my tool (wip/wm/tool/Gen.lean): a function as one of my machine. -/
namespace Wm.F
open Wm
set_option maxRecDepth 100000

/-- 148: withy/field.NewBook -/
def field_NewBook : AFunc where
  closed := false
  nparams := 0
  ntmps := 5
  results := [.tmp 0]
  body := .seq (.ops (
   o 0 (.mov (.c .nilp)) <| .nil)) (
   .seq (.ops (
   o 1 (.mkMap) <| o 2 (.mkMap) <| o 3 (.build [(.int .i64 0), .nilmap, .nilmap] [(1, 1, (.t 1)), (2, 1, (.t 2))]) <| o 4 (.box (.t 3)) <| m 0 4 <| .nil)) (
   .ret))

def field_NewBook_hs : List (List Nat × List Nat) := []

end Wm.F
end

section
/- PRINTED by my tool (wip/wm/tool/Gen.lean): a function as one of my machine. -/
namespace Wm.F
open Wm
set_option maxRecDepth 100000

/-- 198: withy/mem.Of -/
def mem_Of : AFunc where
  closed := false
  nparams := 1
  ntmps := 10
  results := [.tmp 2]
  body := .seq (.ops (
   o 2 (.mov (.c .nilp)) <| .nil)) (
   .seq (.seq (.ops (
   m 3 0 <| o 4 (.lenSl (.t 3)) <| o 5 (.cmp .gtr .i64 (.t 4) (.c (.int .i64 65536))) <| .nil)) (
   .cond (.t 5) (.seq (.ops (
   o 2 (.mov (.c .nilp)) <| .nil)) (
   .ret)) (.skip))) (
   .seq (.ops (
   m 6 0 <| o 7 (.call 271 [(.t 6)]) <| o 8 (.build [.nilsl, (.int .i64 0), (.int .i64 0), (.int .i64 0), (.int .u64 0), (.int .u64 0)] [(0, 1, (.t 7))]) <| o 9 (.box (.t 8)) <|
   m 2 9 <| .nil)) (
   .ret)))

def mem_Of_hs : List (List Nat × List Nat) := []

end Wm.F
end

section
/- PRINTED by my tool (wip/wm/tool/Gen.lean): a function as one of my machine. -/
namespace Wm.F
open Wm
set_option maxRecDepth 100000

/-- 301: withy/withylaw10.config -/
def withylaw10_config : AFunc where
  closed := true
  nparams := 0
  ntmps := 2
  results := [.cell true 6 0]
  body := .seq (.ops (
   o 0 (.alloc [(.int .i64 0), (.int .i64 0), (.int .i64 0), (.int .i64 0), (.int .i64 0), (.int .i64 0)]) <| .nil)) (
   .seq (.ops (
   o 1 (.build [(.int .i64 0), (.int .i64 0), (.int .i64 0), (.int .i64 0), (.int .i64 0), (.int .i64 0)] [(0, 1, (.c (.int .i64 40))), (1, 1, (.c (.int .i64 3))), (2, 1, (.c (.int .i64 1))), (3, 1, (.c (.int .i64 1))), (4, 1, (.c (.int .i64 9)))]) <| u (.store 6 (.t 0) (.t 1)) <| .nil)) (
   .ret))

def withylaw10_config_hs : List (List Nat × List Nat) := []

end Wm.F
end

section
/- PRINTED by my tool (wip/wm/tool/Gen.lean): a function as one of my machine. -/
namespace Wm.F
open Wm
set_option maxRecDepth 100000

def withyref06_At_c1 : ACode :=
  .seq (.seq (.ops (
   m 12 6 <| m 13 5 <| o 14 (.lenSl (.t 13)) <| o 15 (.cmp .lss .i64 (.t 12) (.t 14)) <| .nil)) (
  .cond (.t 15) (.skip) (.exit 0))) (
  .seq (.block 1 (.seq (.ops (
   m 18 5 <| m 19 6 <| o 20 (.indexA 3 (.t 18) (.t 19)) <| ln 21 3 20 <| ln 22 3 3 <| o 23 (.eq false (.agg [(0, .str), (1, .int), (2, .int)]) (.t 21) (.t 22)) <| .nil)) (
  .cond (.t 23) (.seq (.ops (
   m 24 6 <| m 4 24 <| .nil)) (
   .ret)) (.skip)))) (
  .ops (
   m 16 6 <| o 17 (.arith .add .i64 (.t 16) (.c (.int .i64 1))) <| m 6 17 <| .nil)))

def withyref06_At_c0 : ACode :=
  .seq (.ops (
   o 4 (.mov (.c (.int .i64 (-1)))) <| .nil)) (
  .ret)

/-- 108: withy/withyref06.At -/
def withyref06_At : AFunc where
  closed := true
  nparams := 2
  ntmps := 25
  results := [.tmp 4]
  body := .seq (.ops (
   o 2 (.box (.t 0)) <| o 3 (.box (.t 1)) <| o 4 (.mov (.c (.int .i64 0))) <| .nil)) (
   .seq (.seq (.ops (
   ln 7 6 2 <| o 8 (.call 85 [(.t 7)]) <| o 9 (.not (.t 8)) <| .nil)) (
   .cond (.t 9) (.seq (.ops (
   o 4 (.mov (.c (.int .i64 (-1)))) <| .nil)) (
   .ret)) (.skip))) (
   .seq (.ops (
   ln 10 6 2 <| o 11 (.call 87 [(.t 10)]) <| m 5 11 <| .nil)) (
   .seq (.seq (.ops (
   o 6 (.mov (.c (.int .i64 0))) <| .nil)) (
   .block 0 (.loop [3, 5, 6] [4] (withyref06_At_c1)))) (
   withyref06_At_c0))))

def withyref06_At_hs : List (List Nat × List Nat) := [([3, 5, 6], [4])]

end Wm.F
end

section
/- PRINTED by my tool (wip/wm/tool/Gen.lean): a function as one of my machine. -/
namespace Wm.F
open Wm
set_option maxRecDepth 100000

/-- 263: withy/plan.Right -/
def plan_Right : AFunc where
  closed := true
  nparams := 1
  ntmps := 31
  results := [.tmp 2]
  body := .seq (.ops (
   o 1 (.box (.t 0)) <| o 2 (.mov (.c (.bool false))) <| .nil)) (
   .seq (.ops (
   d 3 0 1 <| l 4 3 <| o 5 (.call 376 [(.t 4), (.c (.int .i64 1)), (.c (.int .i64 64))]) <| m 6 5 <| .grd 6 true [i 7 (.fieldA 1 (.t 1)),
   i 8 (.load1 (.t 7)),
   i 9 (.call 376 [(.t 8), (.c (.int .i64 0)), (.c (.int .i64 8))])] <| o 10 (.pick (.t 6) (.t 9) (.c (.bool false))) <| m 11 10 <| .grd 11 true [i 12 (.fieldA 2 (.t 1)),
   i 13 (.load1 (.t 12)),
   i 14 (.call 376 [(.t 13), (.c (.int .i64 1)), (.c (.int .i64 8))])] <| o 15 (.pick (.t 11) (.t 14) (.c (.bool false))) <| m 16 15 <| .grd 16 true [i 17 (.fieldA 3 (.t 1)),
   i 18 (.load1 (.t 17)),
   i 19 (.call 376 [(.t 18), (.c (.int .i64 1)), (.c (.int .i64 16))])] <| o 20 (.pick (.t 16) (.t 19) (.c (.bool false))) <| m 21 20 <| .grd 21 true [i 22 (.fieldA 4 (.t 1)),
   i 23 (.load1 (.t 22)),
   i 24 (.call 376 [(.t 23), (.c (.int .i64 1)), (.c (.int .i64 1048576))])] <| o 25 (.pick (.t 21) (.t 24) (.c (.bool false))) <| m 26 25 <| .grd 26 true [i 27 (.fieldA 5 (.t 1)),
   i 28 (.load1 (.t 27)),
   i 29 (.call 376 [(.t 28), (.c (.int .i64 0)), (.c (.int .i64 64))])] <| o 30 (.pick (.t 26) (.t 29) (.c (.bool false))) <| m 2 30 <| .nil)) (
   .ret))

def plan_Right_hs : List (List Nat × List Nat) := []

end Wm.F
end

section
/- PRINTED by my tool (wip/wm/tool/Gen.lean): a function as one of my machine. -/
namespace Wm.F
open Wm
set_option maxRecDepth 100000

/-- 153: (*withy/field.Book).Turned -/
def field_Book_Turned : AFunc where
  closed := false
  nparams := 2
  ntmps := 20
  results := [.tmp 4]
  body := .seq (.ops (
   o 4 (.mov (.c (.int .i64 0))) <| .nil)) (
   .seq (.seq (.ops (
   m 7 0 <| o 8 (.eq true .ptr (.t 7) (.c .nilp)) <| .nil)) (
   .cond (.t 8) (.seq (.ops (
   m 10 0 <| n 11 10 <| d 12 2 11 <| l 13 12 <| m 14 1 <| o 15 (.lookup .int (.int .i64 0) true (.t 13) (.t 14)) <| m 9 15 <| o 16 (.extract (.t 9) 0) <|
   o 17 (.extract (.t 9) 1) <| m 5 16 <| m 6 17 <| .nil)) (
   .seq (.ops (
   m 18 6 <| .nil)) (
   .cond (.t 18) (.seq (.ops (
   m 19 5 <| m 4 19 <| .nil)) (
   .ret)) (.skip)))) (.skip))) (
   .seq (.ops (
   o 4 (.mov (.c (.int .i64 (-1)))) <| .nil)) (
   .ret)))

def field_Book_Turned_hs : List (List Nat × List Nat) := []

end Wm.F
end

section
/- PRINTED by my tool (wip/wm/tool/Gen.lean): a function as one of my machine. -/
namespace Wm.F
open Wm
set_option maxRecDepth 100000

/-- 266: (*withy/mem.Mem).Load -/
def mem_Mem_Load : AFunc where
  closed := false
  nparams := 2
  ntmps := 26
  results := [.tmp 4]
  body := .seq (.ops (
   o 4 (.mov (.c (.int .u64 0))) <| .nil)) (
   .seq (.seq (.ops (
   m 5 0 <| m 6 1 <| o 7 (.call 346 [(.t 5), (.t 6)]) <| o 8 (.not (.t 7)) <| .nil)) (
   .cond (.t 8) (.seq (.ops (
   o 4 (.mov (.c (.int .u64 0))) <| .nil)) (
   .ret)) (.skip))) (
   .seq (.ops (
   m 9 0 <| m 10 1 <| m 11 0 <| n 12 11 <| d 13 0 12 <| l 14 13 <| m 15 1 <| o 16 (.indexA 1 (.t 14) (.t 15)) <| l 17 16 <|
   o 18 (.call 347 [(.t 9), (.c (.int .i64 1)), (.t 10), (.t 17)]) <| .nil)) (
   .seq (.ops (
   m 19 0 <| n 20 19 <| d 21 0 20 <| l 22 21 <| m 23 1 <| o 24 (.indexA 1 (.t 22) (.t 23)) <| l 25 24 <| m 4 25 <| .nil)) (
   .ret))))

def mem_Mem_Load_hs : List (List Nat × List Nat) := []

end Wm.F
end

section
/- PRINTED by my tool (wip/wm/tool/Gen.lean): a function as one of my machine. -/
namespace Wm.F
open Wm
set_option maxRecDepth 100000

/-- 269: (*withy/mem.Mem).Swap -/
def mem_Mem_Swap : AFunc where
  closed := false
  nparams := 4
  ntmps := 32
  results := [.tmp 8]
  body := .seq (.ops (
   o 8 (.mov (.c (.bool false))) <| .nil)) (
   .seq (.seq (.ops (
   m 10 0 <| m 11 1 <| o 12 (.call 346 [(.t 10), (.t 11)]) <| o 13 (.not (.t 12)) <| .nil)) (
   .cond (.t 13) (.seq (.ops (
   o 8 (.mov (.c (.bool false))) <| .nil)) (
   .ret)) (.skip))) (
   .seq (.ops (
   m 14 0 <| n 15 14 <| d 16 0 15 <| l 17 16 <| m 18 1 <| o 19 (.indexA 1 (.t 17) (.t 18)) <| l 20 19 <| m 9 20 <| .nil)) (
   .seq (.seq (.ops (
   m 21 9 <| m 22 2 <| o 23 (.cmp .neq .u64 (.t 21) (.t 22)) <| .nil)) (
   .cond (.t 23) (.ops (
   m 24 9 <| m 3 24 <| .nil)) (.skip))) (
   .seq (.ops (
   m 25 0 <| m 26 1 <| m 27 3 <| o 28 (.call 347 [(.t 25), (.c (.int .i64 3)), (.t 26), (.t 27)]) <| .nil)) (
   .seq (.ops (
   m 29 9 <| m 30 2 <| o 31 (.cmp .eql .u64 (.t 29) (.t 30)) <| m 8 31 <| .nil)) (
   .ret))))))

def mem_Mem_Swap_hs : List (List Nat × List Nat) := []

end Wm.F
end

section
/- PRINTED by my tool (wip/wm/tool/Gen.lean): a function as one of my machine. -/
namespace Wm.F
open Wm
set_option maxRecDepth 100000

/-- 305: withy/plan.Body -/
def plan_Body : AFunc where
  closed := true
  nparams := 3
  ntmps := 18
  results := [.tmp 6]
  body := .seq (.ops (
   o 3 (.box (.t 0)) <| o 6 (.mov (.c (.int .i64 0))) <| .nil)) (
   .seq (.seq (.ops (
   m 7 2 <| o 8 (.cmp .lss .i64 (.t 7) (.c (.int .i64 0))) <| m 9 8 <| .grd 9 false [i 10 (.mov (.t 2)),
   i 11 (.cmp .gtr .i64 (.t 10) (.c (.int .i64 8)))] <| o 12 (.pick (.t 9) (.c (.bool true)) (.t 11)) <| .nil)) (
   .cond (.t 12) (.seq (.ops (
   o 6 (.mov (.c (.int .i64 (-1)))) <| .nil)) (
   .ret)) (.skip))) (
   .seq (.ops (
   ln 13 6 3 <| m 14 1 <| m 15 2 <| o 16 (.arith .add .i64 (.c (.int .i64 2)) (.t 15)) <| o 17 (.call 375 [(.t 13), (.t 14), (.t 16)]) <| m 6 17 <| .nil)) (
   .ret)))

def plan_Body_hs : List (List Nat × List Nat) := []

end Wm.F
end

section
/- PRINTED by my tool (wip/wm/tool/Gen.lean): a function as one of my machine. -/
namespace Wm.F
open Wm
set_option maxRecDepth 100000

/-- 261: withy/plan.Header -/
def plan_Header : AFunc where
  closed := true
  nparams := 2
  ntmps := 8
  results := [.tmp 4]
  body := .seq (.ops (
   o 2 (.box (.t 0)) <| o 4 (.mov (.c (.int .i64 0))) <| .nil)) (
   .seq (.ops (
   ln 5 6 2 <| m 6 1 <| o 7 (.call 375 [(.t 5), (.t 6), (.c (.int .i64 0))]) <| m 4 7 <| .nil)) (
   .ret))

def plan_Header_hs : List (List Nat × List Nat) := []

end Wm.F
end

section
/- PRINTED by my tool (wip/wm/tool/Gen.lean): a function as one of my machine. -/
namespace Wm.F
open Wm
set_option maxRecDepth 100000

/-- 107: (*withy/mem.Mem).Touches -/
def mem_Mem_Touches : AFunc where
  closed := false
  nparams := 1
  ntmps := 9
  results := [.tmp 2]
  body := .seq (.ops (
   o 2 (.mov (.c (.int .i64 0))) <| .nil)) (
   .seq (.seq (.ops (
   m 3 0 <| o 4 (.eq false .ptr (.t 3) (.c .nilp)) <| .nil)) (
   .cond (.t 4) (.seq (.ops (
   o 2 (.mov (.c (.int .i64 0))) <| .nil)) (
   .ret)) (.skip))) (
   .seq (.ops (
   m 5 0 <| n 6 5 <| d 7 1 6 <| l 8 7 <| m 2 8 <| .nil)) (
   .ret)))

def mem_Mem_Touches_hs : List (List Nat × List Nat) := []

end Wm.F
end

section
/- PRINTED by my tool (wip/wm/tool/Gen.lean): a function as one of my machine. -/
namespace Wm.F
open Wm
set_option maxRecDepth 100000

/-- 128: (*withy/field.Read).Step -/
def field_Read_Step : AFunc where
  closed := false
  nparams := 2
  ntmps := 93
  results := [.tmp 4]
  body := .seq (.ops (
   o 4 (.mov (.c (.bool false))) <| .nil)) (
   .seq (.seq (.ops (
   m 5 0 <| o 6 (.eq false .ptr (.t 5) (.c .nilp)) <| .nil)) (
   .cond (.t 6) (.seq (.ops (
   o 4 (.mov (.c (.bool true))) <| .nil)) (
   .ret)) (.skip))) (
   .seq (.seq (.ops (
   m 7 0 <| n 8 7 <| d 9 4 8 <| l 10 9 <| .nil)) (
   .block 0 (.seq (.ops (
   o 12 (.cmp .eql .i64 (.t 10) (.c (.int .i64 0))) <| m 11 12 <| .nil)) (
   .cond (.t 11) (.seq (.ops (
   m 13 0 <| n 14 13 <| d 15 3 14 <| l 16 15 <| m 17 1 <| o 18 (.call 303 [(.t 16), (.t 17)]) <| .nil)) (
   .cond (.t 18) (.seq (.ops (
   m 19 0 <| m 20 0 <| m 21 0 <| n 22 21 <| d 23 3 22 <| l 24 23 <| n 25 24 <| d 26 8 25 <| l 27 26 <| m 28 0 <| n 29 28 <| d 30 3 29 <| l 31 30 <| n 32 31 <| d 33 9 32 <|
   l 34 33 <| n 35 19 <| d 36 0 35 <| u (.store 1 (.t 36) (.t 27)) <| n 37 20 <| d 38 2 37 <| u (.store 1 (.t 38) (.t 34)) <| .nil)) (
   .seq (.ops (
   m 39 0 <| n 40 39 <| d 41 4 40 <| u (.store 1 (.t 41) (.c (.int .i64 1))) <| .nil)) (
   .seq (.ops (
   m 42 0 <| n 43 42 <| d 44 0 43 <| l 45 44 <| o 46 (.cmp .lss .i64 (.t 45) (.c (.int .i64 0))) <| .nil)) (
   .cond (.t 46) (.ops (
   m 47 0 <| n 48 47 <| d 49 4 48 <| u (.store 1 (.t 49) (.c (.int .i64 2))) <| .nil)) (.skip))))) (.skip))) (.seq (.ops (
   o 51 (.cmp .eql .i64 (.t 10) (.c (.int .i64 1))) <| m 50 51 <| .nil)) (
   .cond (.t 50) (.seq (.ops (
   m 52 0 <| m 53 0 <| m 54 0 <| n 55 54 <| d 56 3 55 <| l 57 56 <| n 58 57 <| d 59 0 58 <| ln 60 6 59 <| m 61 1 <| m 62 0 <| n 63 62 <| d 64 3 63 <| l 65 64 <| n 66 65 <|
   d 67 0 66 <| ln 68 6 67 <| m 69 0 <| n 70 69 <| d 71 0 70 <| l 72 71 <| m 76 0 <| n 77 76 <| d 78 3 77 <| l 79 78 <|
   .op ⟨(some 73), .call 305 [(.t 68), (.t 72), (.c (.int .i64 0))], [{ g := none, op := .load1 (.t 78), d := 79 }, { g := none, op := .loadN 6 (.t 59), d := 60 }, { g := none, op := .load1 (.t 56), d := 57 }]⟩ <| .op ⟨(some 74), .call 266 [(.t 61), (.t 73)], [{ g := none, op := .load1 (.t 78), d := 79 }, { g := none, op := .loadN 6 (.t 59), d := 60 }, { g := none, op := .load1 (.t 56), d := 57 }]⟩ <| .op ⟨(some 75), .call 304 [(.t 60), (.t 74)], [{ g := none, op := .load1 (.t 78), d := 79 }]⟩ <| o 80 (.call 306 [(.t 79)]) <| n 81 52 <| d 82 1 81 <| u (.store 1 (.t 82) (.t 75)) <| n 83 53 <| d 84 2 83 <| u (.store 1 (.t 84) (.t 80)) <| .nil)) (
   .ops (
   m 85 0 <| n 86 85 <| d 87 4 86 <| u (.store 1 (.t 87) (.c (.int .i64 2))) <| .nil))) (.skip))))))) (
   .seq (.ops (
   m 88 0 <| n 89 88 <| d 90 4 89 <| l 91 90 <| o 92 (.cmp .eql .i64 (.t 91) (.c (.int .i64 2))) <| m 4 92 <| .nil)) (
   .ret))))

def field_Read_Step_hs : List (List Nat × List Nat) := []

end Wm.F
end

section
/- PRINTED by my tool (wip/wm/tool/Gen.lean): a function as one of my machine. -/
namespace Wm.F
open Wm
set_option maxRecDepth 100000

/-- 133: (*withy/field.Lay).Step -/
def field_Lay_Step : AFunc where
  closed := false
  nparams := 2
  ntmps := 250
  results := [.tmp 4]
  body := .seq (.ops (
   o 4 (.mov (.c (.bool false))) <| .nil)) (
   .seq (.seq (.ops (
   m 6 0 <| o 7 (.eq false .ptr (.t 6) (.c .nilp)) <| .nil)) (
   .cond (.t 7) (.seq (.ops (
   o 4 (.mov (.c (.bool true))) <| .nil)) (
   .ret)) (.skip))) (
   .seq (.ops (
   m 8 0 <| n 9 8 <| d 10 2 9 <| l 11 10 <| n 12 11 <| d 13 0 12 <| ln 14 6 13 <|
   o 5 (.alloc [(.int .i64 0), (.int .i64 0), (.int .i64 0), (.int .i64 0), (.int .i64 0), (.int .i64 0)]) <| u (.store 6 (.t 5) (.t 14)) <| .nil)) (
   .seq (.seq (.ops (
   m 15 0 <| n 16 15 <| d 17 8 16 <| l 18 17 <| .nil)) (
   .block 0 (.seq (.ops (
   o 20 (.cmp .eql .i64 (.t 18) (.c (.int .i64 0))) <| m 19 20 <| .nil)) (
   .cond (.t 19) (.seq (.seq (.ops (
   m 21 0 <| n 22 21 <| d 23 2 22 <| l 24 23 <| m 25 1 <| o 26 (.call 303 [(.t 24), (.t 25)]) <| o 27 (.not (.t 26)) <| .nil)) (
   .cond (.t 27) (.exit 0) (.skip))) (
   .seq (.ops (
   m 28 0 <| n 29 28 <| d 30 8 29 <| u (.store 1 (.t 30) (.c (.int .i64 2))) <| .nil)) (
   .seq (.ops (
   m 31 0 <| n 32 31 <| d 33 4 32 <| l 34 33 <| o 35 (.cmp .geq .i64 (.t 34) (.c (.int .i64 (-1)))) <| m 36 35 <| .grd 36 true [i 37 (.mov (.t 0)),
   i 38 (.nilc (.t 37)),
   i 39 (.fieldA 2 (.t 38)),
   i 40 (.load1 (.t 39)),
   i 41 (.nilc (.t 40)),
   i 42 (.fieldA 8 (.t 41)),
   i 43 (.load1 (.t 42)),
   i 44 (.cmp .geq .i64 (.t 43) (.c (.int .i64 0)))] <| o 45 (.pick (.t 36) (.t 44) (.c (.bool false))) <| .nil)) (
   .cond (.t 45) (.ops (
   m 46 0 <| n 47 46 <| d 48 8 47 <| u (.store 1 (.t 48) (.c (.int .i64 1))) <| .nil)) (.seq (.ops (
   m 49 0 <| n 50 49 <| d 51 4 50 <| l 52 51 <| o 53 (.cmp .geq .i64 (.t 52) (.c (.int .i64 0))) <| .nil)) (
   .cond (.t 53) (.ops (
   m 54 0 <| o 55 (.call 307 [(.t 54)]) <| .nil)) (.skip))))))) (.seq (.ops (
   o 57 (.cmp .eql .i64 (.t 18) (.c (.int .i64 1))) <| m 56 57 <| .nil)) (
   .cond (.t 56) (.seq (.ops (
   m 58 0 <| n 59 58 <| d 60 8 59 <| u (.store 1 (.t 60) (.c (.int .i64 2))) <| .nil)) (
   .seq (.ops (
   ln 61 6 5 <| m 62 1 <| ln 63 6 5 <| m 64 0 <| n 65 64 <| d 66 2 65 <| l 67 66 <| n 68 67 <| d 69 8 68 <| l 70 69 <| m 74 0 <| n 75 74 <| d 76 4 75 <| l 77 76 <|
   .op ⟨(some 71), .call 305 [(.t 63), (.t 70), (.c (.int .i64 0))], [{ g := none, op := .load1 (.t 76), d := 77 }, { g := none, op := .loadN 6 (.t 5), d := 61 }]⟩ <|
   .op ⟨(some 72), .call 266 [(.t 62), (.t 71)], [{ g := none, op := .load1 (.t 76), d := 77 }, { g := none, op := .loadN 6 (.t 5), d := 61 }]⟩ <|
   .op ⟨(some 73), .call 304 [(.t 61), (.t 72)], [{ g := none, op := .load1 (.t 76), d := 77 }]⟩ <| o 78 (.cmp .neq .i64 (.t 73) (.t 77)) <| .nil)) (
   .cond (.t 78) (.ops (
   m 79 0 <| o 80 (.call 307 [(.t 79)]) <| .nil)) (.skip)))) (.seq (.ops (
   o 82 (.cmp .eql .i64 (.t 18) (.c (.int .i64 2))) <| m 81 82 <| .nil)) (
   .cond (.t 81) (.seq (.ops (
   m 83 1 <| ln 84 6 5 <| m 85 0 <| n 86 85 <| d 87 3 86 <| l 88 87 <| m 90 0 <| n 91 90 <| d 92 2 91 <| l 93 92 <| n 94 93 <| d 95 8 94 <| l 96 95 <|
   o 97 (.arith .add .i64 (.t 96) (.c (.int .i64 1))) <| o 98 (.conv .u64 (.t 97)) <|
   .op ⟨(some 89), .call 305 [(.t 84), (.t 88), (.c (.int .i64 2))], [{ g := none, op := .load1 (.t 95), d := 96 }, { g := none, op := .load1 (.t 92), d := 93 }]⟩ <|
   o 99 (.call 203 [(.t 83), (.t 89), (.t 98)]) <| .nil)) (
   .seq (.ops (
   m 100 0 <| n 101 100 <| d 102 8 101 <| u (.store 1 (.t 102) (.c (.int .i64 4))) <| .nil)) (
   .seq (.ops (
   m 103 0 <| n 104 103 <| d 105 2 104 <| l 106 105 <| n 107 106 <| d 108 8 107 <| l 109 108 <| o 110 (.cmp .geq .i64 (.t 109) (.c (.int .i64 0))) <| m 111 110 <|
   .grd 111 true [i 112 (.mov (.t 0)),
   i 113 (.nilc (.t 112)),
   i 114 (.fieldA 5 (.t 113)),
   i 115 (.load1 (.t 114)),
   i 116 (.call 308 [(.t 115)])] <| o 117 (.pick (.t 111) (.t 116) (.c (.bool false))) <| .nil)) (
   .cond (.t 117) (.ops (
   m 118 0 <| m 119 0 <| ln 120 6 5 <| m 121 0 <| n 122 121 <| d 123 2 122 <| l 124 123 <| n 125 124 <| d 126 8 125 <| l 127 126 <| m 128 0 <| n 129 128 <| d 130 5 129 <|
   l 131 130 <| o 132 (.call 90 [(.t 120), (.t 127), (.t 131)]) <| n 133 118 <| d 134 6 133 <| u (.store 1 (.t 134) (.t 132)) <| n 135 119 <| d 136 8 135 <|
   u (.store 1 (.t 136) (.c (.int .i64 3))) <| .nil)) (.skip))))) (.seq (.ops (
   o 138 (.cmp .eql .i64 (.t 18) (.c (.int .i64 3))) <| m 137 138 <| .nil)) (
   .cond (.t 137) (.seq (.ops (
   m 139 0 <| n 140 139 <| d 141 6 140 <| l 142 141 <| m 143 1 <| o 144 (.call 91 [(.t 142), (.t 143)]) <| .nil)) (
   .cond (.t 144) (.ops (
   m 145 0 <| n 146 145 <| d 147 8 146 <| u (.store 1 (.t 147) (.c (.int .i64 4))) <| .nil)) (.skip))) (.seq (.ops (
   o 149 (.cmp .eql .i64 (.t 18) (.c (.int .i64 4))) <| m 148 149 <| .nil)) (
   .cond (.t 148) (.seq (.ops (
   m 150 1 <| m 151 0 <| n 152 151 <| d 153 2 152 <| l 154 153 <| n 155 154 <| d 156 7 155 <| l 157 156 <| m 158 0 <| n 159 158 <| d 160 2 159 <| l 161 160 <| n 162 161 <|
   d 163 8 162 <| l 164 163 <| o 165 (.arith .add .i64 (.t 164) (.c (.int .i64 1))) <| o 166 (.conv .u64 (.t 165)) <| m 167 0 <| n 168 167 <| d 169 3 168 <| l 170 169 <|
   o 171 (.arith .add .i64 (.t 170) (.c (.int .i64 1))) <| o 172 (.conv .u64 (.t 171)) <| o 173 (.call 269 [(.t 150), (.t 157), (.t 166), (.t 172)]) <| .nil)) (
   .cond (.t 173) (.ops (
   m 174 0 <| m 175 0 <| ln 176 6 5 <| m 177 0 <| n 178 177 <| d 179 3 178 <| l 180 179 <| m 181 0 <| n 182 181 <| d 183 2 182 <| l 184 183 <| n 185 184 <| d 186 6 185 <|
   l 187 186 <| o 188 (.call 151 [(.t 176), (.t 180), (.t 187)]) <| n 189 174 <| d 190 7 189 <| u (.store 1 (.t 190) (.t 188)) <| n 191 175 <| d 192 8 191 <|
   u (.store 1 (.t 192) (.c (.int .i64 5))) <| .nil)) (.ops (
   m 193 0 <| m 194 0 <| ln 195 6 5 <| m 196 0 <| n 197 196 <| d 198 2 197 <| l 199 198 <| n 200 199 <| d 201 6 200 <| l 202 201 <| m 203 0 <| n 204 203 <| d 205 2 204 <|
   l 206 205 <| n 207 206 <| d 208 7 207 <| l 209 208 <|
   o 210 (.build [(.int .i64 0), (.int .i64 0), (.int .i64 0), (.int .i64 0), (.int .i64 0), (.int .i64 0), .nilp, (.int .i64 0), (.int .i64 0), (.int .i64 0), .nilp, (.int .i64 0)] [(0, 6, (.t 195)), (6, 1, (.t 202)), (7, 1, (.t 209))]) <| o 211 (.box (.t 210)) <| n 212 193 <| d 213 2 212 <| u (.store 1 (.t 213) (.t 211)) <| n 214 194 <| d 215 8 214 <| u (.store 1 (.t 215) (.c (.int .i64 0))) <| .nil)))) (.seq (.ops (
   o 217 (.cmp .eql .i64 (.t 18) (.c (.int .i64 5))) <| m 216 217 <| .nil)) (
   .cond (.t 216) (.seq (.ops (
   m 218 0 <| n 219 218 <| d 220 7 219 <| l 221 220 <| m 222 1 <| o 223 (.call 150 [(.t 221), (.t 222)]) <| .nil)) (
   .cond (.t 223) (.ops (
   m 224 0 <| m 225 0 <| m 226 0 <| m 227 0 <| n 228 227 <| d 229 2 228 <| l 230 229 <| n 231 230 <| d 232 6 231 <| l 233 232 <| m 234 0 <| n 235 234 <| d 236 3 235 <|
   l 237 236 <| o 238 (.call 152 [(.t 233), (.t 237)]) <| n 239 224 <| d 240 0 239 <| u (.store 1 (.t 240) (.c (.bool true))) <| n 241 225 <| d 242 1 241 <|
   u (.store 1 (.t 242) (.t 238)) <| n 243 226 <| d 244 8 243 <| u (.store 1 (.t 244) (.c (.int .i64 6))) <| .nil)) (.skip))) (.skip))))))))))))))) (
   .seq (.ops (
   m 245 0 <| n 246 245 <| d 247 8 246 <| l 248 247 <| o 249 (.cmp .eql .i64 (.t 248) (.c (.int .i64 6))) <| m 4 249 <| .nil)) (
   .ret)))))

def field_Lay_Step_hs : List (List Nat × List Nat) := []

end Wm.F
end

section
/- PRINTED by my tool (wip/wm/tool/Gen.lean): a function as one of my machine. -/
namespace Wm.F
open Wm
set_option maxRecDepth 100000

def withylaw10_hand_begins_c4 : ACode :=
  .seq (.ops (
   d 71 0 5 <| l 72 71 <| o 73 (.cmp .eql .i64 (.t 72) (.c (.int .i64 2))) <| .nil)) (
  .cond (.t 73) (.ops (
   d 74 3 5 <| l 75 74 <| o 76 (.call 129 [(.t 75)]) <| m 6 76 <| .nil)) (.skip))

def withylaw10_hand_begins_c3 : ACode :=
  .seq (.ops (
   m 77 1 <| m 78 1 <| n 79 78 <| d 80 6 79 <| l 81 80 <| m 82 1 <| n 83 82 <| d 84 0 83 <| ln 85 6 84 <| m 86 1 <| n 87 86 <| d 88 8 87 <| l 89 88 <| d 91 2 5 <| l 92 91 <|
   .op ⟨(some 90), .call 131 [(.t 85), (.c (.str ⟨⟨[98, 111, 100, 121]⟩⟩)), (.t 89), (.c (.int .i64 0))], [{ g := none, op := .load1 (.t 91), d := 92 }, { g := none, op := .load1 (.t 80), d := 81 }]⟩ <| .op ⟨(some 93), .call 129 [(.t 92)], [{ g := none, op := .load1 (.t 80), d := 81 }]⟩ <| o 94 (.arith .add .i64 (.t 93) (.c (.int .i64 1))) <| o 95 (.conv .u64 (.t 94)) <| o 96 (.call 130 [(.t 81), (.t 90), (.t 95)]) <| n 97 77 <| d 98 6 97 <| u (.store 1 (.t 98) (.t 96)) <| .nil)) (
  .seq (.ops (
   m 99 0 <| m 100 1 <| n 101 100 <| d 102 0 101 <| ln 103 6 102 <| d 104 1 5 <| l 105 104 <| m 106 1 <| n 107 106 <| d 108 8 107 <| l 109 108 <| m 110 6 <| m 111 1 <|
   n 112 111 <| d 113 7 112 <| l 114 113 <| o 115 (.call 132 [(.t 103), (.c (.int .i64 0)), (.t 105), (.t 109), (.t 110), (.c (.int .u64 2)), (.t 114)]) <| n 116 99 <|
   d 117 3 116 <| u (.store 1 (.t 117) (.t 115)) <| .nil)) (
  .ops (
   m 118 1 <| n 119 118 <| d 120 8 119 <| l 121 120 <| o 122 (.arith .add .i64 (.t 121) (.c (.int .i64 1))) <| n 123 118 <| d 124 8 123 <| u (.store 1 (.t 124) (.t 122)) <| .nil)))

def withylaw10_hand_begins_c2 : ACode :=
  .seq (.ops (
   o 4 (.mov (.c (.bool true))) <| .nil)) (
  .ret)

def withylaw10_hand_begins_c1 : ACode :=
  .seq (.ops (
   d 45 0 5 <| l 46 45 <| o 47 (.cmp .eql .i64 (.t 46) (.c (.int .i64 1))) <| m 48 47 <| .grd 48 false [i 49 (.fieldA 0 (.t 5)),
   i 50 (.load1 (.t 49)),
   i 51 (.cmp .eql .i64 (.t 50) (.c (.int .i64 2)))] <| o 52 (.pick (.t 48) (.c (.bool true)) (.t 51)) <| m 53 52 <| .grd 53 true [i 54 (.mov (.t 1)),
   i 55 (.nilc (.t 54)),
   i 56 (.fieldA 8 (.t 55)),
   i 57 (.load1 (.t 56)),
   i 58 (.mov (.t 1)),
   i 59 (.nilc (.t 58)),
   i 60 (.fieldA 0 (.t 59)),
   i 61 (.fieldA 0 (.t 60)),
   i 62 (.load1 (.t 61)),
   i 63 (.cmp .geq .i64 (.t 57) (.t 62))] <| o 64 (.pick (.t 53) (.t 63) (.c (.bool false))) <| .nil)) (
  .cond (.t 64) (.ops (
   d 65 0 5 <| u (.store 1 (.t 65) (.c (.int .i64 0))) <| .nil)) (.skip))

def withylaw10_hand_begins_c0 : ACode :=
  .seq (.ops (
   m 66 0 <| n 67 66 <| d 68 1 67 <| u (.store 1 (.t 68) (.t 5)) <| .nil)) (
  .seq (.seq (.ops (
   d 69 0 5 <| l 70 69 <| .nil)) (
  .block 0 (.seq (.ops (
   o 126 (.cmp .eql .i64 (.t 70) (.c (.int .i64 0))) <| m 125 126 <| .nil)) (
  .cond (.t 125) (.ops (
   m 127 0 <| m 128 1 <| n 129 128 <| d 130 0 129 <| ln 131 6 130 <| d 132 1 5 <| l 133 132 <| m 134 1 <| n 135 134 <| d 136 7 135 <| l 137 136 <|
   o 138 (.call 127 [(.t 131), (.c (.int .i64 0)), (.t 133), (.t 137)]) <| n 139 127 <| d 140 2 139 <| u (.store 1 (.t 140) (.t 138)) <| .nil)) (.seq (.ops (
   o 142 (.cmp .eql .i64 (.t 70) (.c (.int .i64 3))) <| m 141 142 <| .nil)) (
   .cond (.t 141) (.ops (
   m 143 0 <| m 144 1 <| n 145 144 <| d 146 0 145 <| ln 147 6 146 <| m 148 1 <| n 149 148 <| d 150 7 149 <| l 151 150 <| o 152 (.call 144 [(.t 147), (.t 151)]) <| n 153 143 <|
   d 154 4 153 <| u (.store 1 (.t 154) (.t 152)) <| .nil)) (.seq (.ops (
   o 6 (.mov (.c (.int .i64 (-2)))) <| .nil)) (
   .seq (.join [0, 1, 5, 6] [0, 1, 5, 6] (withylaw10_hand_begins_c4)) (
   withylaw10_hand_begins_c3))))))))) (
  withylaw10_hand_begins_c2))

/-- 394: (*withy/withylaw10.hand).begins -/
def withylaw10_hand_begins : AFunc where
  closed := false
  nparams := 2
  ntmps := 155
  results := [.tmp 4]
  body := .seq (.ops (
   o 4 (.mov (.c (.bool false))) <| .nil)) (
   .seq (.seq (.ops (
   m 7 0 <| n 8 7 <| d 9 0 8 <| l 10 9 <| o 11 (.lenSl (.t 10)) <| o 12 (.cmp .eql .i64 (.t 11) (.c (.int .i64 0))) <| .nil)) (
   .cond (.t 12) (.seq (.ops (
   o 4 (.mov (.c (.bool false))) <| .nil)) (
   .ret)) (.skip))) (
   .seq (.ops (
   m 13 0 <| n 14 13 <| d 15 0 14 <| l 16 15 <| o 17 (.indexA 4 (.t 16) (.c (.int .i64 0))) <| ln 18 4 17 <|
   o 5 (.alloc [(.int .i64 0), (.int .i64 0), (.int .i64 0), (.int .i64 0)]) <| u (.store 4 (.t 5) (.t 18)) <| .nil)) (
   .seq (.ops (
   m 19 0 <| m 20 0 <| n 21 20 <| d 22 0 21 <| l 23 22 <| o 24 (.slice 4 (.t 23) (some (.c (.int .i64 1))) none none) <| n 25 19 <| d 26 0 25 <| u (.store 1 (.t 26) (.t 24)) <|
   .nil)) (
   .seq (.ops (
   d 27 0 5 <| l 28 27 <| o 29 (.call 448 [(.t 28), (.c (.int .i64 4))]) <| d 30 0 5 <| u (.store 1 (.t 30) (.t 29)) <| .nil)) (
   .seq (.ops (
   d 31 1 5 <| l 32 31 <| o 33 (.call 448 [(.t 32), (.c (.int .i64 2))]) <| d 34 1 5 <| u (.store 1 (.t 34) (.t 33)) <| .nil)) (
   .seq (.ops (
   d 35 2 5 <| l 36 35 <| o 37 (.call 448 [(.t 36), (.c (.int .i64 5))]) <| o 38 (.arith .sub .i64 (.t 37) (.c (.int .i64 1))) <| d 39 2 5 <| u (.store 1 (.t 39) (.t 38)) <|
   .nil)) (
   .seq (.ops (
   d 40 3 5 <| l 41 40 <| o 42 (.call 448 [(.t 41), (.c (.int .i64 5))]) <| o 43 (.arith .sub .i64 (.t 42) (.c (.int .i64 1))) <| d 44 3 5 <| u (.store 1 (.t 44) (.t 43)) <|
   .nil)) (
   .seq (.join [0, 1, 5] [0, 1, 5] (withylaw10_hand_begins_c1)) (
   withylaw10_hand_begins_c0)))))))))

def withylaw10_hand_begins_hs : List (List Nat × List Nat) := [([1000010, 0, 1, 5], [0, 1, 5]), ([1000007, 0, 1, 5, 6], [0, 1, 5, 6])]

end Wm.F
end

section
/- PRINTED by my tool (wip/wm/tool/Gen.lean): a function as one of my machine. -/
namespace Wm.F
open Wm
set_option maxRecDepth 100000

def withylaw10_hand_sees_c6 : ACode :=
  .seq (.seq (.ops (
   m 83 6 <| o 84 (.cmp .lss .i64 (.t 83) (.c (.int .i64 4))) <| .nil)) (
  .cond (.t 84) (.skip) (.exit 0))) (
  .seq (.block 1 (.ops (
   m 87 1 <| m 88 1 <| n 89 88 <| d 90 9 89 <| l 91 90 <| m 92 0 <| n 93 92 <| d 94 9 93 <| l 95 94 <| m 96 6 <| o 97 (.arith .rem .i64 (.t 96) (.c (.int .i64 2))) <|
   o 98 (.build [(.int .i64 0), (.int .i64 0), (.int .i64 0), (.int .i64 0)] [(0, 1, (.c (.int .i64 3))), (1, 1, (.t 97))]) <| m 99 0 <| n 100 99 <| d 101 8 100 <| l 102 101 <|
   m 103 6 <| o 104 (.indexA 1 (.t 102) (.t 103)) <| l 105 104 <|
   o 106 (.build [(.int .i64 0), (.bool false), (.int .i64 0), (.int .i64 0), (.int .i64 0), (.int .i64 0), (.int .i64 0), (.bool false)] [(0, 1, (.t 95)), (1, 1, (.c (.bool true))), (2, 4, (.t 98)), (6, 1, (.t 105)), (7, 1, (.c (.bool false)))]) <| o 107 (.buildSl 8 1 [(.int .i64 0), (.bool false), (.int .i64 0), (.int .i64 0), (.int .i64 0), (.int .i64 0), (.int .i64 0), (.bool false)] [(0, 8, (.t 106))]) <| o 108 (.append 8 64 (.t 91) (.t 107)) <| n 109 87 <| d 110 9 109 <| u (.store 1 (.t 110) (.t 108)) <| .nil))) (
  .ops (
   m 85 6 <| o 86 (.arith .add .i64 (.t 85) (.c (.int .i64 1))) <| m 6 86 <| .nil)))

def withylaw10_hand_sees_c5 : ACode :=
  .seq (.ops (
   m 111 0 <| n 112 111 <| d 113 6 112 <| u (.store 1 (.t 113) (.c (.int .i64 0))) <| .nil)) (
  .seq (.ops (
   m 114 0 <| n 115 114 <| d 116 5 115 <| u (.store 1 (.t 116) (.c .nilp)) <| .nil)) (
  .seq (.ops (
   m 117 0 <| n 118 117 <| d 119 1 118 <| u (.store 1 (.t 119) (.c .nilp)) <| .nil)) (
  .ret)))

def withylaw10_hand_sees_c4 : ACode :=
  .seq (.ops (
   m 120 0 <| m 121 1 <| n 122 121 <| d 123 0 122 <| ln 124 6 123 <| m 125 0 <| n 126 125 <| d 127 6 126 <| l 128 127 <| o 129 (.arith .rem .i64 (.t 128) (.c (.int .i64 2))) <|
   m 130 0 <| n 131 130 <| d 132 7 131 <| l 133 132 <| m 134 1 <| n 135 134 <| d 136 7 135 <| l 137 136 <|
   o 138 (.call 146 [(.t 124), (.c (.int .i64 0)), (.t 129), (.t 133), (.t 137)]) <| n 139 120 <| d 140 5 139 <| u (.store 1 (.t 140) (.t 138)) <| .nil)) (
  .ops (
   m 141 0 <| n 142 141 <| d 143 6 142 <| l 144 143 <| o 145 (.arith .add .i64 (.t 144) (.c (.int .i64 1))) <| n 146 141 <| d 147 6 146 <| u (.store 1 (.t 147) (.t 145)) <| .nil))

def withylaw10_hand_sees_c3 : ACode :=
  .ops (
   m 7 0 <| n 8 7 <| d 9 5 8 <| l 10 9 <| o 11 (.eq false .ptr (.t 10) (.c .nilp)) <| m 12 11 <| .grd 12 true [i 13 (.mov (.t 0)),
   i 14 (.nilc (.t 13)),
   i 15 (.fieldA 6 (.t 14)),
   i 16 (.load1 (.t 15)),
   i 17 (.cmp .eql .i64 (.t 16) (.c (.int .i64 0)))] <| o 18 (.pick (.t 12) (.t 17) (.c (.bool false))) <| .nil)

def withylaw10_hand_sees_c2 : ACode :=
  .cond (.t 18) (.seq (.seq (.ops (
   m 19 0 <| n 20 19 <| d 21 4 20 <| l 22 21 <| m 23 1 <| n 24 23 <| d 25 6 24 <| l 26 25 <| o 27 (.call 145 [(.t 22), (.t 26)]) <| o 28 (.not (.t 27)) <| .nil)) (
   .cond (.t 28) (.ret) (.skip))) (
   .seq (.ops (
   m 29 0 <| m 30 0 <| n 31 30 <| d 32 4 31 <| l 33 32 <| n 34 33 <| d 35 0 34 <| l 36 35 <| n 37 29 <| d 38 7 37 <| u (.store 1 (.t 38) (.t 36)) <| .nil)) (
   .seq (.ops (
   m 39 0 <| m 40 0 <| n 41 40 <| d 42 4 41 <| l 43 42 <| n 44 43 <| d 45 1 44 <| l 46 45 <| n 47 39 <| d 48 9 47 <| u (.store 1 (.t 48) (.t 46)) <| .nil)) (
   .ops (
   m 49 0 <| n 50 49 <| d 51 8 50 <| u (.store 1 (.t 51) (.c .nilsl)) <| .nil))))) (.seq (.ops (
   m 52 0 <| n 53 52 <| d 54 5 53 <| l 55 54 <| m 56 1 <| n 57 56 <| d 58 6 57 <| l 59 58 <| o 60 (.call 147 [(.t 55), (.t 59)]) <| o 61 (.not (.t 60)) <| .nil)) (
   .cond (.t 61) (.ret) (.ops (
   m 62 0 <| m 63 0 <| n 64 63 <| d 65 8 64 <| l 66 65 <| m 67 0 <| n 68 67 <| d 69 5 68 <| l 70 69 <| n 71 70 <| d 72 0 71 <| l 73 72 <|
   o 74 (.buildSl 1 1 [(.int .i64 0)] [(0, 1, (.t 73))]) <| o 75 (.append 1 8 (.t 66) (.t 74)) <| n 76 62 <| d 77 8 76 <| u (.store 1 (.t 77) (.t 75)) <| .nil))))

def withylaw10_hand_sees_c1 : ACode :=
  .seq (.join [0, 1] [0, 1, 18] (withylaw10_hand_sees_c3)) (
  withylaw10_hand_sees_c2)

def withylaw10_hand_sees_c0 : ACode :=
  .seq (.seq (.ops (
   m 78 0 <| n 79 78 <| d 80 6 79 <| l 81 80 <| o 82 (.cmp .eql .i64 (.t 81) (.c (.int .i64 4))) <| .nil)) (
  .cond (.t 82) (.seq (.seq (.ops (
   o 6 (.mov (.c (.int .i64 0))) <| .nil)) (
   .block 0 (.loop [0, 1, 6] [0] (withylaw10_hand_sees_c6)))) (
   withylaw10_hand_sees_c5)) (.skip))) (
  withylaw10_hand_sees_c4)

/-- 395: (*withy/withylaw10.hand).sees -/
def withylaw10_hand_sees : AFunc where
  closed := false
  nparams := 3
  ntmps := 148
  results := []
  body := .seq (.ops (
   o 5 (.box (.t 2)) <| .nil)) (
   .seq (.join [0, 1] [0, 1] (withylaw10_hand_sees_c1)) (
   withylaw10_hand_sees_c0))

def withylaw10_hand_sees_hs : List (List Nat × List Nat) := [([1000001, 0, 1], [0, 1]), ([1000000, 0, 1], [0, 1, 18]), ([0, 1, 6], [0])]

end Wm.F
end

section
/- PRINTED by my tool (wip/wm/tool/Gen.lean): a function as one of my machine. -/
namespace Wm.F
open Wm
set_option maxRecDepth 100000

/-- 129: withy/withylaw10.slot -/
def withylaw10_slot : AFunc where
  closed := true
  nparams := 1
  ntmps := 7
  results := [.tmp 2]
  body := .seq (.ops (
   o 2 (.mov (.c (.int .i64 0))) <| .nil)) (
   .seq (.seq (.ops (
   m 3 0 <| o 4 (.cmp .lss .i64 (.t 3) (.c (.int .i64 0))) <| .nil)) (
   .cond (.t 4) (.seq (.ops (
   o 2 (.mov (.c (.int .i64 (-1)))) <| .nil)) (
   .ret)) (.skip))) (
   .seq (.ops (
   m 5 0 <| o 6 (.arith .add .i64 (.t 5) (.c (.int .i64 1))) <| m 2 6 <| .nil)) (
   .ret)))

def withylaw10_slot_hs : List (List Nat × List Nat) := []

end Wm.F
end

section
/- PRINTED by my tool (wip/wm/tool/Gen.lean): a function as one of my machine. -/
namespace Wm.F
open Wm
set_option maxRecDepth 100000

def withyref06_Words_c11 : ACode :=
  .seq (.seq (.ops (
   m 70 9 <| ln 71 6 1 <| o 72 (.call 149 [(.t 71)]) <| o 73 (.cmp .lss .i64 (.t 70) (.t 72)) <| .nil)) (
  .cond (.t 73) (.skip) (.exit 10))) (
  .seq (.block 11 (.ops (
   m 76 3 <| m 77 8 <| m 78 9 <|
   .op ⟨(some 79), .build [(.str ⟨⟨[]⟩⟩), (.int .i64 0), (.int .i64 0)] [(0, 1, (.c (.str ⟨⟨[98, 111, 100, 121]⟩⟩))), (1, 1, (.t 77)), (2, 1, (.t 78))], []⟩ <|
   .op ⟨(some 80), .buildSl 3 1 [(.str ⟨⟨[]⟩⟩), (.int .i64 0), (.int .i64 0)] [(0, 3, (.t 79))], []⟩ <| o 81 (.append 3 32 (.t 76) (.t 80)) <| m 3 81 <| .nil))) (
  .ops (
   m 74 9 <| o 75 (.arith .add .i64 (.t 74) (.c (.int .i64 1))) <| m 9 75 <| .nil)))

def withyref06_Words_c10 : ACode :=
  .ops (
   m 61 8 <| o 62 (.arith .add .i64 (.t 61) (.c (.int .i64 1))) <| m 8 62 <| .nil)

def withyref06_Words_c9 : ACode :=
  .seq (.seq (.ops (
   m 57 8 <| d 58 0 1 <| l 59 58 <| o 60 (.cmp .lss .i64 (.t 57) (.t 59)) <| .nil)) (
  .cond (.t 60) (.skip) (.exit 8))) (
  .seq (.block 9 (.seq (.ops (
   m 63 3 <| m 64 8 <|
   .op ⟨(some 65), .build [(.str ⟨⟨[]⟩⟩), (.int .i64 0), (.int .i64 0)] [(0, 1, (.c (.str ⟨⟨[104, 101, 97, 100, 101, 114]⟩⟩))), (1, 1, (.t 64)), (2, 1, (.c (.int .i64 0)))], []⟩ <| m 66 8 <| .op ⟨(some 67), .build [(.str ⟨⟨[]⟩⟩), (.int .i64 0), (.int .i64 0)] [(0, 1, (.c (.str ⟨⟨[108, 105, 110, 107]⟩⟩))), (1, 1, (.t 66)), (2, 1, (.c (.int .i64 0)))], []⟩ <| .op ⟨(some 68), .buildSl 3 2 [(.str ⟨⟨[]⟩⟩), (.int .i64 0), (.int .i64 0)] [(0, 3, (.t 65)), (3, 3, (.t 67))], []⟩ <| o 69 (.append 3 32 (.t 63) (.t 68)) <| m 3 69 <| .nil)) (
  .seq (.ops (
   o 9 (.mov (.c (.int .i64 0))) <| .nil)) (
  .block 10 (.loop [1, 3, 8, 9] [1, 3, 8] (withyref06_Words_c11)))))) (
  withyref06_Words_c10))

def withyref06_Words_c8 : ACode :=
  .seq (.ops (
   m 82 3 <| m 2 82 <| .nil)) (
  .ret)

def withyref06_Words_c7 : ACode :=
  .seq (.seq (.ops (
   m 44 7 <| d 45 2 1 <| l 46 45 <| o 47 (.cmp .lss .i64 (.t 44) (.t 46)) <| .nil)) (
  .cond (.t 47) (.skip) (.exit 6))) (
  .seq (.block 7 (.ops (
   m 50 3 <| m 51 7 <|
   .op ⟨(some 52), .build [(.str ⟨⟨[]⟩⟩), (.int .i64 0), (.int .i64 0)] [(0, 1, (.c (.str ⟨⟨[118, 105, 101, 119]⟩⟩))), (1, 1, (.t 51)), (2, 1, (.c (.int .i64 0)))], []⟩ <|
   m 53 7 <|
   .op ⟨(some 54), .build [(.str ⟨⟨[]⟩⟩), (.int .i64 0), (.int .i64 0)] [(0, 1, (.c (.str ⟨⟨[115, 116, 97, 114, 116]⟩⟩))), (1, 1, (.t 53)), (2, 1, (.c (.int .i64 0)))], []⟩ <|
   .op ⟨(some 55), .buildSl 3 2 [(.str ⟨⟨[]⟩⟩), (.int .i64 0), (.int .i64 0)] [(0, 3, (.t 52)), (3, 3, (.t 54))], []⟩ <| o 56 (.append 3 32 (.t 50) (.t 55)) <| m 3 56 <| .nil))) (
  .ops (
   m 48 7 <| o 49 (.arith .add .i64 (.t 48) (.c (.int .i64 1))) <| m 7 49 <| .nil)))

def withyref06_Words_c6 : ACode :=
  .seq (.seq (.ops (
   o 8 (.mov (.c (.int .i64 0))) <| .nil)) (
  .block 8 (.loop [1, 3, 8] [3] (withyref06_Words_c9)))) (
  withyref06_Words_c8)

def withyref06_Words_c5 : ACode :=
  .seq (.seq (.ops (
   m 32 6 <| d 33 3 1 <| l 34 33 <| o 35 (.cmp .lss .i64 (.t 32) (.t 34)) <| .nil)) (
  .cond (.t 35) (.skip) (.exit 4))) (
  .seq (.block 5 (.ops (
   m 38 3 <| m 39 5 <| m 40 6 <|
   .op ⟨(some 41), .build [(.str ⟨⟨[]⟩⟩), (.int .i64 0), (.int .i64 0)] [(0, 1, (.c (.str ⟨⟨[101, 110, 116, 114, 121]⟩⟩))), (1, 1, (.t 39)), (2, 1, (.t 40))], []⟩ <|
   .op ⟨(some 42), .buildSl 3 1 [(.str ⟨⟨[]⟩⟩), (.int .i64 0), (.int .i64 0)] [(0, 3, (.t 41))], []⟩ <| o 43 (.append 3 32 (.t 38) (.t 42)) <| m 3 43 <| .nil))) (
  .ops (
   m 36 6 <| o 37 (.arith .add .i64 (.t 36) (.c (.int .i64 1))) <| m 6 37 <| .nil)))

def withyref06_Words_c4 : ACode :=
  .ops (
   m 30 5 <| o 31 (.arith .add .i64 (.t 30) (.c (.int .i64 1))) <| m 5 31 <| .nil)

def withyref06_Words_c3 : ACode :=
  .seq (.seq (.ops (
   m 26 5 <| d 27 2 1 <| l 28 27 <| o 29 (.cmp .lss .i64 (.t 26) (.t 28)) <| .nil)) (
  .cond (.t 29) (.skip) (.exit 2))) (
  .seq (.block 3 (.seq (.ops (
   o 6 (.mov (.c (.int .i64 0))) <| .nil)) (
  .block 4 (.loop [1, 3, 5, 6] [1, 3, 5] (withyref06_Words_c5))))) (
  withyref06_Words_c4))

def withyref06_Words_c2 : ACode :=
  .seq (.seq (.ops (
   o 7 (.mov (.c (.int .i64 0))) <| .nil)) (
  .block 6 (.loop [1, 3, 7] [1, 3] (withyref06_Words_c7)))) (
  withyref06_Words_c6)

def withyref06_Words_c1 : ACode :=
  .seq (.seq (.ops (
   m 15 4 <| d 16 2 1 <| l 17 16 <| o 18 (.cmp .lss .i64 (.t 15) (.t 17)) <| .nil)) (
  .cond (.t 18) (.skip) (.exit 0))) (
  .seq (.block 1 (.ops (
   m 21 3 <| m 22 4 <|
   .op ⟨(some 23), .build [(.str ⟨⟨[]⟩⟩), (.int .i64 0), (.int .i64 0)] [(0, 1, (.c (.str ⟨⟨[112, 105, 110]⟩⟩))), (1, 1, (.t 22)), (2, 1, (.c (.int .i64 0)))], []⟩ <|
   .op ⟨(some 24), .buildSl 3 1 [(.str ⟨⟨[]⟩⟩), (.int .i64 0), (.int .i64 0)] [(0, 3, (.t 23))], []⟩ <| o 25 (.append 3 32 (.t 21) (.t 24)) <| m 3 25 <| .nil))) (
  .ops (
   m 19 4 <| o 20 (.arith .add .i64 (.t 19) (.c (.int .i64 1))) <| m 4 20 <| .nil)))

def withyref06_Words_c0 : ACode :=
  .seq (.seq (.ops (
   o 5 (.mov (.c (.int .i64 0))) <| .nil)) (
  .block 2 (.loop [1, 3, 5] [1, 3] (withyref06_Words_c3)))) (
  withyref06_Words_c2)

/-- 87: withy/withyref06.Words -/
def withyref06_Words : AFunc where
  closed := false
  nparams := 1
  ntmps := 83
  results := [.tmp 2]
  body := .seq (.ops (
   o 1 (.box (.t 0)) <| o 2 (.mov (.c .nilsl)) <| .nil)) (
   .seq (.ops (
   .op ⟨(some 10), .build [(.str ⟨⟨[]⟩⟩), (.int .i64 0), (.int .i64 0)] [(0, 1, (.c (.str ⟨⟨[99, 108, 111, 99, 107]⟩⟩)))], []⟩ <|
   .op ⟨(some 11), .build [(.str ⟨⟨[]⟩⟩), (.int .i64 0), (.int .i64 0)] [(0, 1, (.c (.str ⟨⟨[101, 112, 111, 99, 104]⟩⟩)))], []⟩ <|
   .op ⟨(some 12), .build [(.str ⟨⟨[]⟩⟩), (.int .i64 0), (.int .i64 0)] [(0, 1, (.c (.str ⟨⟨[103, 114, 97, 121, 115]⟩⟩)))], []⟩ <|
   .op ⟨(some 13), .build [(.str ⟨⟨[]⟩⟩), (.int .i64 0), (.int .i64 0)] [(0, 1, (.c (.str ⟨⟨[116, 111, 112]⟩⟩)))], []⟩ <|
   .op ⟨(some 14), .buildSl 3 4 [(.str ⟨⟨[]⟩⟩), (.int .i64 0), (.int .i64 0)] [(0, 3, (.t 10)), (3, 3, (.t 11)), (6, 3, (.t 12)), (9, 3, (.t 13))], []⟩ <| m 3 14 <| .nil)) (
   .seq (.seq (.ops (
   o 4 (.mov (.c (.int .i64 0))) <| .nil)) (
   .block 0 (.loop [1, 3, 4] [1, 3] (withyref06_Words_c1)))) (
   withyref06_Words_c0)))

def withyref06_Words_hs : List (List Nat × List Nat) := [([1, 3, 4], [1, 3]), ([1, 3, 5], [1, 3]), ([1, 3, 5, 6], [1, 3, 5]), ([1, 3, 7], [1, 3]), ([1, 3, 8], [3]), ([1, 3, 8, 9], [1, 3, 8])]

end Wm.F
end

section
/- PRINTED by my tool (wip/wm/tool/Gen.lean): a function as one of my machine. -/
namespace Wm.F
open Wm
set_option maxRecDepth 100000

/-- 85: withy/withyref06.Right -/
def withyref06_Right : AFunc where
  closed := true
  nparams := 1
  ntmps := 61
  results := [.tmp 2]
  body := .seq (.ops (
   o 1 (.box (.t 0)) <| o 2 (.mov (.c (.bool false))) <| .nil)) (
   .seq (.ops (
   d 3 0 1 <| l 4 3 <| o 5 (.cmp .geq .i64 (.t 4) (.c (.int .i64 1))) <| m 6 5 <| .grd 6 true [i 7 (.fieldA 0 (.t 1)),
   i 8 (.load1 (.t 7)),
   i 9 (.cmp .leq .i64 (.t 8) (.c (.int .i64 64)))] <| o 10 (.pick (.t 6) (.t 9) (.c (.bool false))) <| m 11 10 <| .grd 11 true [i 12 (.fieldA 1 (.t 1)),
   i 13 (.load1 (.t 12)),
   i 14 (.cmp .geq .i64 (.t 13) (.c (.int .i64 0)))] <| o 15 (.pick (.t 11) (.t 14) (.c (.bool false))) <| m 16 15 <| .grd 16 true [i 17 (.fieldA 1 (.t 1)),
   i 18 (.load1 (.t 17)),
   i 19 (.cmp .leq .i64 (.t 18) (.c (.int .i64 8)))] <| o 20 (.pick (.t 16) (.t 19) (.c (.bool false))) <| m 21 20 <| .grd 21 true [i 22 (.fieldA 2 (.t 1)),
   i 23 (.load1 (.t 22)),
   i 24 (.cmp .geq .i64 (.t 23) (.c (.int .i64 1)))] <| o 25 (.pick (.t 21) (.t 24) (.c (.bool false))) <| m 26 25 <| .grd 26 true [i 27 (.fieldA 2 (.t 1)),
   i 28 (.load1 (.t 27)),
   i 29 (.cmp .leq .i64 (.t 28) (.c (.int .i64 8)))] <| o 30 (.pick (.t 26) (.t 29) (.c (.bool false))) <| m 31 30 <| .grd 31 true [i 32 (.fieldA 3 (.t 1)),
   i 33 (.load1 (.t 32)),
   i 34 (.cmp .geq .i64 (.t 33) (.c (.int .i64 1)))] <| o 35 (.pick (.t 31) (.t 34) (.c (.bool false))) <| m 36 35 <| .grd 36 true [i 37 (.fieldA 3 (.t 1)),
   i 38 (.load1 (.t 37)),
   i 39 (.cmp .leq .i64 (.t 38) (.c (.int .i64 16)))] <| o 40 (.pick (.t 36) (.t 39) (.c (.bool false))) <| m 41 40 <| .grd 41 true [i 42 (.fieldA 4 (.t 1)),
   i 43 (.load1 (.t 42)),
   i 44 (.cmp .geq .i64 (.t 43) (.c (.int .i64 1)))] <| o 45 (.pick (.t 41) (.t 44) (.c (.bool false))) <| m 46 45 <| .grd 46 true [i 47 (.fieldA 4 (.t 1)),
   i 48 (.load1 (.t 47)),
   i 49 (.cmp .leq .i64 (.t 48) (.c (.int .i64 1048576)))] <| o 50 (.pick (.t 46) (.t 49) (.c (.bool false))) <| m 51 50 <| .grd 51 true [i 52 (.fieldA 5 (.t 1)),
   i 53 (.load1 (.t 52)),
   i 54 (.cmp .geq .i64 (.t 53) (.c (.int .i64 0)))] <| o 55 (.pick (.t 51) (.t 54) (.c (.bool false))) <| m 56 55 <| .grd 56 true [i 57 (.fieldA 5 (.t 1)),
   i 58 (.load1 (.t 57)),
   i 59 (.cmp .leq .i64 (.t 58) (.c (.int .i64 64)))] <| o 60 (.pick (.t 56) (.t 59) (.c (.bool false))) <| m 2 60 <| .nil)) (
   .ret))

def withyref06_Right_hs : List (List Nat × List Nat) := []

end Wm.F
end

section
/- PRINTED by my tool (wip/wm/tool/Gen.lean): a function as one of my machine. -/
namespace Wm.F
open Wm
set_option maxRecDepth 100000

/-- 376: withy/plan.between -/
def plan_between : AFunc where
  closed := true
  nparams := 3
  ntmps := 15
  results := [.tmp 6]
  body := .seq (.ops (
   o 6 (.mov (.c (.bool false))) <| .nil)) (
   .seq (.ops (
   m 7 0 <| m 8 1 <| o 9 (.cmp .geq .i64 (.t 7) (.t 8)) <| m 10 9 <| .grd 10 true [i 11 (.mov (.t 0)),
   i 12 (.mov (.t 2)),
   i 13 (.cmp .leq .i64 (.t 11) (.t 12))] <| o 14 (.pick (.t 10) (.t 13) (.c (.bool false))) <| m 6 14 <| .nil)) (
   .ret))

def plan_between_hs : List (List Nat × List Nat) := []

end Wm.F
end

section
/- PRINTED by my tool (wip/wm/tool/Gen.lean): a function as one of my machine. -/
namespace Wm.F
open Wm
set_option maxRecDepth 100000

/-- 346: (*withy/mem.Mem).there -/
def mem_Mem_there : AFunc where
  closed := false
  nparams := 2
  ntmps := 13
  results := [.tmp 4]
  body := .seq (.ops (
   o 4 (.mov (.c (.bool false))) <| .nil)) (
   .seq (.ops (
   m 5 1 <| o 6 (.cmp .geq .i64 (.t 5) (.c (.int .i64 0))) <| m 7 6 <| .grd 7 true [i 8 (.mov (.t 1)),
   i 9 (.mov (.t 0)),
   i 10 (.call 413 [(.t 9)]),
   i 11 (.cmp .lss .i64 (.t 8) (.t 10))] <| o 12 (.pick (.t 7) (.t 11) (.c (.bool false))) <| m 4 12 <| .nil)) (
   .ret))

def mem_Mem_there_hs : List (List Nat × List Nat) := []

end Wm.F
end

section
/- PRINTED by my tool (wip/wm/tool/Gen.lean): a function as one of my machine. -/
namespace Wm.F
open Wm
set_option maxRecDepth 100000

/-- 347: (*withy/mem.Mem).touch -/
def mem_Mem_touch : AFunc where
  closed := false
  nparams := 4
  ntmps := 36
  results := []
  body := .seq (.ops (
   m 8 0 <| n 9 8 <| d 10 1 9 <| l 11 10 <| o 12 (.arith .add .i64 (.t 11) (.c (.int .i64 1))) <| n 13 8 <| d 14 1 13 <| u (.store 1 (.t 14) (.t 12)) <| .nil)) (
   .seq (.ops (
   m 15 0 <| m 16 1 <| m 17 2 <| m 18 0 <| n 19 18 <| d 20 0 19 <| l 21 20 <| m 22 2 <| o 23 (.indexA 1 (.t 21) (.t 22)) <| l 24 23 <| m 25 3 <|
   o 26 (.build [(.int .i64 0), (.int .i64 0), (.int .u64 0), (.int .u64 0)] [(0, 1, (.t 16)), (1, 1, (.t 17)), (2, 1, (.t 24)), (3, 1, (.t 25))]) <| n 27 15 <| d 28 2 27 <|
   u (.store 4 (.t 28) (.t 26)) <| .nil)) (
   .ops (
   m 29 0 <| n 30 29 <| d 31 0 30 <| l 32 31 <| m 33 2 <| m 34 3 <| o 35 (.indexA 1 (.t 32) (.t 33)) <| u (.store 1 (.t 35) (.t 34)) <| .nil)))

def mem_Mem_touch_hs : List (List Nat × List Nat) := []

end Wm.F
end

section
/- PRINTED by my tool (wip/wm/tool/Gen.lean): a function as one of my machine. -/
namespace Wm.F
open Wm
set_option maxRecDepth 100000

/-- 375: withy/plan.within -/
def plan_within : AFunc where
  closed := true
  nparams := 3
  ntmps := 35
  results := [.tmp 6]
  body := .seq (.ops (
   o 3 (.box (.t 0)) <| o 6 (.mov (.c (.int .i64 0))) <| .nil)) (
   .seq (.seq (.ops (
   ln 7 6 3 <| o 8 (.call 263 [(.t 7)]) <| o 9 (.not (.t 8)) <| m 10 9 <| .grd 10 false [i 11 (.mov (.t 1)),
   i 12 (.fieldA 0 (.t 3)),
   i 13 (.load1 (.t 12)),
   i 14 (.arith .sub .i64 (.t 13) (.c (.int .i64 1))),
   i 15 (.call 376 [(.t 11), (.c (.int .i64 0)), (.t 14)]),
   i 16 (.not (.t 15))] <| o 17 (.pick (.t 10) (.c (.bool true)) (.t 16)) <| m 18 17 <| .grd 18 false [i 19 (.mov (.t 2)),
   i 20 (.loadN 6 (.t 3)),
   i 21 (.call 378 [(.t 20)]),
   i 22 (.arith .sub .i64 (.t 21) (.c (.int .i64 1))),
   i 23 (.call 376 [(.t 19), (.c (.int .i64 0)), (.t 22)]),
   i 24 (.not (.t 23))] <| o 25 (.pick (.t 18) (.c (.bool true)) (.t 24)) <| .nil)) (
   .cond (.t 25) (.seq (.ops (
   o 6 (.mov (.c (.int .i64 (-1)))) <| .nil)) (
   .ret)) (.skip))) (
   .seq (.ops (
   ln 26 6 3 <| m 28 1 <| ln 29 6 3 <| m 33 2 <| .op ⟨(some 27), .call 377 [(.t 26)], [{ g := none, op := .loadN 6 (.t 3), d := 29 }]⟩ <| o 30 (.call 378 [(.t 29)]) <|
   o 31 (.arith .mul .i64 (.t 28) (.t 30)) <| o 32 (.arith .add .i64 (.t 27) (.t 31)) <| o 34 (.arith .add .i64 (.t 32) (.t 33)) <| m 6 34 <| .nil)) (
   .ret)))

def plan_within_hs : List (List Nat × List Nat) := []

end Wm.F
end

section
/- PRINTED by my tool (wip/wm/tool/Gen.lean): a function as one of my machine. -/
namespace Wm.F
open Wm
set_option maxRecDepth 100000

/-- 303: (*withy/field.newest).step -/
def field_newest_step : AFunc where
  closed := false
  nparams := 2
  ntmps := 78
  results := [.tmp 4]
  body := .seq (.ops (
   o 4 (.mov (.c (.bool false))) <| .nil)) (
   .seq (.seq (.ops (
   m 5 0 <| n 6 5 <| d 7 11 6 <| l 8 7 <| .nil)) (
   .block 0 (.seq (.ops (
   o 10 (.cmp .eql .i64 (.t 8) (.c (.int .i64 0))) <| m 9 10 <| .nil)) (
   .cond (.t 9) (.seq (.ops (
   m 11 0 <| m 12 0 <| m 13 0 <| n 14 13 <| d 15 0 14 <| ln 16 6 15 <| m 17 1 <| m 18 0 <| n 19 18 <| d 20 7 19 <| l 21 20 <| m 24 0 <| n 25 24 <| d 26 6 25 <| l 27 26 <|
   n 28 27 <| d 29 0 28 <| l 30 29 <|
   .op ⟨(some 22), .call 266 [(.t 17), (.t 21)], [{ g := none, op := .load1 (.t 29), d := 30 }, { g := none, op := .load1 (.t 26), d := 27 }, { g := none, op := .loadN 6 (.t 15), d := 16 }]⟩ <| .op ⟨(some 23), .call 304 [(.t 16), (.t 22)], [{ g := none, op := .load1 (.t 29), d := 30 }, { g := none, op := .load1 (.t 26), d := 27 }]⟩ <| n 31 11 <| d 32 8 31 <| u (.store 1 (.t 32) (.t 23)) <| n 33 12 <| d 34 9 33 <| u (.store 1 (.t 34) (.t 30)) <| .nil)) (
   .seq (.ops (
   m 35 0 <| n 36 35 <| d 37 11 36 <| u (.store 1 (.t 37) (.c (.int .i64 2))) <| .nil)) (
   .seq (.ops (
   m 38 0 <| n 39 38 <| d 40 8 39 <| l 41 40 <| o 42 (.cmp .geq .i64 (.t 41) (.c (.int .i64 0))) <| .nil)) (
   .cond (.t 42) (.seq (.ops (
   m 43 0 <| m 44 0 <| n 45 44 <| d 46 0 45 <| ln 47 6 46 <| m 48 0 <| n 49 48 <| d 50 8 49 <| l 51 50 <| m 52 0 <| n 53 52 <| d 54 6 53 <| l 55 54 <|
   o 56 (.call 151 [(.t 47), (.t 51), (.t 55)]) <| n 57 43 <| d 58 10 57 <| u (.store 1 (.t 58) (.t 56)) <| .nil)) (
   .ops (
   m 59 0 <| n 60 59 <| d 61 11 60 <| u (.store 1 (.t 61) (.c (.int .i64 1))) <| .nil))) (.skip))))) (.seq (.ops (
   o 63 (.cmp .eql .i64 (.t 8) (.c (.int .i64 1))) <| m 62 63 <| .nil)) (
   .cond (.t 62) (.seq (.ops (
   m 64 0 <| n 65 64 <| d 66 10 65 <| l 67 66 <| m 68 1 <| o 69 (.call 150 [(.t 67), (.t 68)]) <| .nil)) (
   .cond (.t 69) (.ops (
   m 70 0 <| n 71 70 <| d 72 11 71 <| u (.store 1 (.t 72) (.c (.int .i64 2))) <| .nil)) (.skip))) (.skip))))))) (
   .seq (.ops (
   m 73 0 <| n 74 73 <| d 75 11 74 <| l 76 75 <| o 77 (.cmp .eql .i64 (.t 76) (.c (.int .i64 2))) <| m 4 77 <| .nil)) (
   .ret)))

def field_newest_step_hs : List (List Nat × List Nat) := []

end Wm.F
end

section
/- PRINTED by my tool (wip/wm/tool/Gen.lean): a function as one of my machine. -/
namespace Wm.F
open Wm
set_option maxRecDepth 100000

/-- 304: withy/field.named -/
def field_named : AFunc where
  closed := true
  nparams := 2
  ntmps := 13
  results := [.tmp 4]
  body := .seq (.ops (
   o 2 (.box (.t 0)) <| o 4 (.mov (.c (.int .i64 0))) <| .nil)) (
   .seq (.seq (.ops (
   m 5 1 <| d 6 0 2 <| l 7 6 <| o 8 (.conv .u64 (.t 7)) <| o 9 (.cmp .gtr .u64 (.t 5) (.t 8)) <| .nil)) (
   .cond (.t 9) (.seq (.ops (
   o 4 (.mov (.c (.int .i64 (-1)))) <| .nil)) (
   .ret)) (.skip))) (
   .seq (.ops (
   m 10 1 <| o 11 (.conv .i64 (.t 10)) <| o 12 (.arith .sub .i64 (.t 11) (.c (.int .i64 1))) <| m 4 12 <| .nil)) (
   .ret)))

def field_named_hs : List (List Nat × List Nat) := []

end Wm.F
end

section
/- PRINTED by my tool (wip/wm/tool/Gen.lean): a function as one of my machine. -/
namespace Wm.F
open Wm
set_option maxRecDepth 100000

/-- 306: (*withy/field.newest).point -/
def field_newest_point : AFunc where
  closed := false
  nparams := 1
  ntmps := 17
  results := [.tmp 2]
  body := .seq (.ops (
   o 2 (.mov (.c (.int .i64 0))) <| .nil)) (
   .seq (.ops (
   m 3 0 <| n 4 3 <| d 5 9 4 <| l 6 5 <| m 7 0 <| n 8 7 <| d 9 6 8 <| l 10 9 <| m 11 0 <| n 12 11 <| d 13 8 12 <| l 14 13 <|
   .op ⟨(some 15), .call 152 [(.t 10), (.t 14)], [{ g := none, op := .load1 (.t 5), d := 6 }]⟩ <| o 16 (.minmax true .i64 (.t 6) (.t 15)) <| m 2 16 <| .nil)) (
   .ret))

def field_newest_point_hs : List (List Nat × List Nat) := []

end Wm.F
end

section
/- PRINTED by my tool (wip/wm/tool/Gen.lean): a function as one of my machine. -/
namespace Wm.F
open Wm
set_option maxRecDepth 100000

/-- 90: withy/shade.NewShade -/
def shade_NewShade : AFunc where
  closed := false
  nparams := 3
  ntmps := 17
  results := [.tmp 6]
  body := .seq (.ops (
   o 3 (.box (.t 0)) <| o 6 (.mov (.c .nilp)) <| .nil)) (
   .seq (.ops (
   ln 8 6 3 <| m 9 1 <| o 10 (.call 261 [(.t 8), (.t 9)]) <| m 7 10 <| .nil)) (
   .seq (.seq (.ops (
   m 11 7 <| o 12 (.cmp .lss .i64 (.t 11) (.c (.int .i64 0))) <| .nil)) (
   .cond (.t 12) (.seq (.ops (
   o 6 (.mov (.c .nilp)) <| .nil)) (
   .ret)) (.skip))) (
   .seq (.ops (
   m 13 7 <| m 14 2 <| o 15 (.build [(.bool false), (.int .i64 0), (.int .u64 0), (.int .i64 0), (.int .u64 0)] [(1, 1, (.t 13)), (2, 1, (.t 14))]) <| o 16 (.box (.t 15)) <|
   m 6 16 <| .nil)) (
   .ret))))

def shade_NewShade_hs : List (List Nat × List Nat) := []

end Wm.F
end

section
/- PRINTED by my tool (wip/wm/tool/Gen.lean): a function as one of my machine. -/
namespace Wm.F
open Wm
set_option maxRecDepth 100000

/-- 91: (*withy/shade.Shade).Step -/
def shade_Shade_Step : AFunc where
  closed := false
  nparams := 2
  ntmps := 99
  results := [.tmp 4]
  body := .seq (.ops (
   o 4 (.mov (.c (.bool false))) <| .nil)) (
   .seq (.seq (.ops (
   m 9 0 <| o 10 (.eq false .ptr (.t 9) (.c .nilp)) <| .nil)) (
   .cond (.t 10) (.seq (.ops (
   o 4 (.mov (.c (.bool true))) <| .nil)) (
   .ret)) (.skip))) (
   .seq (.seq (.ops (
   m 11 0 <| n 12 11 <| d 13 3 12 <| l 14 13 <| .nil)) (
   .block 0 (.seq (.ops (
   o 16 (.cmp .eql .i64 (.t 14) (.c (.int .i64 0))) <| m 15 16 <| .nil)) (
   .cond (.t 15) (.seq (.ops (
   m 17 0 <| m 18 1 <| m 19 0 <| n 20 19 <| d 21 1 20 <| l 22 21 <| o 23 (.call 266 [(.t 18), (.t 22)]) <| n 24 17 <| d 25 4 24 <| u (.store 1 (.t 25) (.t 23)) <| .nil)) (
   .seq (.ops (
   m 26 0 <| n 27 26 <| d 28 3 27 <| u (.store 1 (.t 28) (.c (.int .i64 1))) <| .nil)) (
   .seq (.ops (
   m 30 0 <| n 31 30 <| d 32 4 31 <| l 33 32 <| m 34 0 <| n 35 34 <| d 36 2 35 <| l 37 36 <| o 38 (.call 267 [(.t 33), (.t 37)]) <| m 29 38 <| o 39 (.extract (.t 29) 0) <|
   o 40 (.extract (.t 29) 1) <| m 5 39 <| m 6 40 <| .nil)) (
   .seq (.ops (
   m 41 6 <| o 42 (.not (.t 41)) <| .nil)) (
   .cond (.t 42) (.ops (
   m 43 0 <| n 44 43 <| d 45 3 44 <| u (.store 1 (.t 45) (.c (.int .i64 4))) <| .nil)) (.skip)))))) (.seq (.ops (
   o 47 (.cmp .eql .i64 (.t 14) (.c (.int .i64 1))) <| m 46 47 <| .nil)) (
   .cond (.t 46) (.seq (.ops (
   m 48 1 <| o 49 (.call 268 [(.t 48), (.c (.int .i64 2)), (.c (.int .u64 1))]) <| .nil)) (
   .ops (
   m 50 0 <| n 51 50 <| d 52 3 51 <| u (.store 1 (.t 52) (.c (.int .i64 2))) <| .nil))) (.seq (.ops (
   o 54 (.cmp .eql .i64 (.t 14) (.c (.int .i64 2))) <| m 53 54 <| .nil)) (
   .cond (.t 53) (.seq (.ops (
   m 56 0 <| n 57 56 <| d 58 4 57 <| l 59 58 <| m 60 0 <| n 61 60 <| d 62 2 61 <| l 63 62 <| o 64 (.call 267 [(.t 59), (.t 63)]) <| m 55 64 <| o 65 (.extract (.t 55) 0) <|
   o 66 (.extract (.t 55) 1) <| m 7 65 <| m 8 66 <| .nil)) (
   .seq (.ops (
   m 67 0 <| n 68 67 <| d 69 3 68 <| u (.store 1 (.t 69) (.c (.int .i64 3))) <| .nil)) (
   .seq (.ops (
   m 70 1 <| m 71 0 <| n 72 71 <| d 73 1 72 <| l 74 73 <| m 75 0 <| n 76 75 <| d 77 4 76 <| l 78 77 <| m 79 7 <| o 80 (.call 269 [(.t 70), (.t 74), (.t 78), (.t 79)]) <| .nil)) (
   .cond (.t 80) (.ops (
   m 81 0 <| m 82 0 <| n 83 81 <| d 84 0 83 <| u (.store 1 (.t 84) (.c (.bool true))) <| n 85 82 <| d 86 3 85 <| u (.store 1 (.t 86) (.c (.int .i64 4))) <|
   .nil)) (.skip))))) (.seq (.ops (
   o 88 (.cmp .eql .i64 (.t 14) (.c (.int .i64 3))) <| m 87 88 <| .nil)) (
   .cond (.t 87) (.seq (.ops (
   m 89 1 <| o 90 (.call 268 [(.t 89), (.c (.int .i64 2)), (.c (.int .u64 18446744073709551615))]) <| .nil)) (
   .ops (
   m 91 0 <| n 92 91 <| d 93 3 92 <| u (.store 1 (.t 93) (.c (.int .i64 0))) <| .nil))) (.skip))))))))))) (
   .seq (.ops (
   m 94 0 <| n 95 94 <| d 96 3 95 <| l 97 96 <| o 98 (.cmp .eql .i64 (.t 97) (.c (.int .i64 4))) <| m 4 98 <| .nil)) (
   .ret))))

def shade_Shade_Step_hs : List (List Nat × List Nat) := []

end Wm.F
end

section
/- PRINTED by my tool (wip/wm/tool/Gen.lean): a function as one of my machine. -/
namespace Wm.F
open Wm
set_option maxRecDepth 100000

/-- 203: (*withy/mem.Mem).Store -/
def mem_Mem_Store : AFunc where
  closed := false
  nparams := 3
  ntmps := 15
  results := [.tmp 6]
  body := .seq (.ops (
   o 6 (.mov (.c (.bool false))) <| .nil)) (
   .seq (.seq (.ops (
   m 7 0 <| m 8 1 <| o 9 (.call 346 [(.t 7), (.t 8)]) <| o 10 (.not (.t 9)) <| .nil)) (
   .cond (.t 10) (.seq (.ops (
   o 6 (.mov (.c (.bool false))) <| .nil)) (
   .ret)) (.skip))) (
   .seq (.ops (
   m 11 0 <| m 12 1 <| m 13 2 <| o 14 (.call 347 [(.t 11), (.c (.int .i64 2)), (.t 12), (.t 13)]) <| .nil)) (
   .seq (.ops (
   o 6 (.mov (.c (.bool true))) <| .nil)) (
   .ret))))

def mem_Mem_Store_hs : List (List Nat × List Nat) := []

end Wm.F
end

section
/- PRINTED by my tool (wip/wm/tool/Gen.lean): a function as one of my machine. -/
namespace Wm.F
open Wm
set_option maxRecDepth 100000

/-- 307: (*withy/field.Lay).refuse -/
def field_Lay_refuse : AFunc where
  closed := false
  nparams := 1
  ntmps := 13
  results := []
  body := .ops (
   m 2 0 <| m 3 0 <| m 4 0 <| n 5 4 <| d 6 2 5 <| l 7 6 <| o 8 (.call 306 [(.t 7)]) <| n 9 2 <| d 10 1 9 <| u (.store 1 (.t 10) (.t 8)) <| n 11 3 <| d 12 8 11 <|
   u (.store 1 (.t 12) (.c (.int .i64 6))) <| .nil)

def field_Lay_refuse_hs : List (List Nat × List Nat) := []

end Wm.F
end

section
/- PRINTED by my tool (wip/wm/tool/Gen.lean): a function as one of my machine. -/
namespace Wm.F
open Wm
set_option maxRecDepth 100000

/-- 308: withy/turn.Fenced -/
def turn_Fenced : AFunc where
  closed := true
  nparams := 1
  ntmps := 11
  results := [.tmp 2]
  body := .seq (.ops (
   o 2 (.mov (.c (.bool false))) <| .nil)) (
   .seq (.ops (
   m 3 0 <| o 4 (.arith .rem .u64 (.t 3) (.c (.int .u64 4))) <| o 5 (.cmp .eql .u64 (.t 4) (.c (.int .u64 1))) <| m 6 5 <| .grd 6 false [i 7 (.mov (.t 0)),
   i 8 (.arith .rem .u64 (.t 7) (.c (.int .u64 4))),
   i 9 (.cmp .eql .u64 (.t 8) (.c (.int .u64 2)))] <| o 10 (.pick (.t 6) (.c (.bool true)) (.t 9)) <| m 2 10 <| .nil)) (
   .ret))

def turn_Fenced_hs : List (List Nat × List Nat) := []

end Wm.F
end

section
/- PRINTED by my tool (wip/wm/tool/Gen.lean): a function as one of my machine. -/
namespace Wm.F
open Wm
set_option maxRecDepth 100000

/-- 127: withy/field.NewRead -/
def field_NewRead : AFunc where
  closed := false
  nparams := 4
  ntmps := 20
  results := [.tmp 8]
  body := .seq (.ops (
   o 4 (.box (.t 0)) <| o 8 (.mov (.c .nilp)) <| .nil)) (
   .seq (.ops (
   ln 10 6 4 <| m 11 1 <| m 12 2 <| m 13 3 <| o 14 (.call 302 [(.t 10), (.t 11), (.t 12), (.t 13)]) <| m 9 14 <| .nil)) (
   .seq (.seq (.ops (
   m 15 9 <| o 16 (.eq false .ptr (.t 15) (.c .nilp)) <| .nil)) (
   .cond (.t 16) (.seq (.ops (
   o 8 (.mov (.c .nilp)) <| .nil)) (
   .ret)) (.skip))) (
   .seq (.ops (
   m 17 9 <| o 18 (.build [(.int .i64 0), (.int .i64 0), (.int .i64 0), .nilp, (.int .i64 0)] [(0, 1, (.c (.int .i64 (-1)))), (1, 1, (.c (.int .i64 (-1)))), (3, 1, (.t 17))]) <|
   o 19 (.box (.t 18)) <| m 8 19 <| .nil)) (
   .ret))))

def field_NewRead_hs : List (List Nat × List Nat) := []

end Wm.F
end

section
/- PRINTED by my tool (wip/wm/tool/Gen.lean): a function as one of my machine. -/
namespace Wm.F
open Wm
set_option maxRecDepth 100000

/-- 130: withy/withylaw10.laid -/
def withylaw10_laid : AFunc where
  closed := false
  nparams := 3
  ntmps := 12
  results := [.tmp 6]
  body := .seq (.ops (
   o 6 (.mov (.c .nilp)) <| .nil)) (
   .seq (.ops (
   m 7 0 <| m 8 1 <| m 9 2 <| o 10 (.call 203 [(.t 7), (.t 8), (.t 9)]) <| .nil)) (
   .seq (.ops (
   m 11 0 <| m 6 11 <| .nil)) (
   .ret)))

def withylaw10_laid_hs : List (List Nat × List Nat) := []

end Wm.F
end

section
/- PRINTED by my tool (wip/wm/tool/Gen.lean): a function as one of my machine. -/
namespace Wm.F
open Wm
set_option maxRecDepth 100000

/-- 132: withy/field.NewLay -/
def field_NewLay : AFunc where
  closed := false
  nparams := 7
  ntmps := 35
  results := [.tmp 14]
  body := .seq (.ops (
   o 7 (.box (.t 0)) <| o 14 (.mov (.c .nilp)) <| .nil)) (
   .seq (.ops (
   ln 16 6 7 <| m 17 1 <| m 18 2 <| m 19 6 <| o 20 (.call 302 [(.t 16), (.t 17), (.t 18), (.t 19)]) <| m 15 20 <| .nil)) (
   .seq (.seq (.ops (
   m 21 15 <| o 22 (.eq false .ptr (.t 21) (.c .nilp)) <| m 23 22 <| .grd 23 false [i 24 (.loadN 6 (.t 7)),
   i 25 (.mov (.t 3)),
   i 26 (.call 261 [(.t 24), (.t 25)]),
   i 27 (.cmp .lss .i64 (.t 26) (.c (.int .i64 0)))] <| o 28 (.pick (.t 23) (.c (.bool true)) (.t 27)) <| .nil)) (
   .cond (.t 28) (.seq (.ops (
   o 14 (.mov (.c .nilp)) <| .nil)) (
   .ret)) (.skip))) (
   .seq (.ops (
   m 29 15 <| m 30 3 <| m 31 4 <| m 32 5 <|
   o 33 (.build [(.bool false), (.int .i64 0), .nilp, (.int .i64 0), (.int .i64 0), (.int .u64 0), .nilp, .nilp, (.int .i64 0)] [(2, 1, (.t 29)), (3, 1, (.t 30)), (4, 1, (.t 31)), (5, 1, (.t 32))]) <| o 34 (.box (.t 33)) <| m 14 34 <| .nil)) (
   .ret))))

def field_NewLay_hs : List (List Nat × List Nat) := []

end Wm.F
end

section
/- PRINTED by my tool (wip/wm/tool/Gen.lean): a function as one of my machine. -/
namespace Wm.F
open Wm
set_option maxRecDepth 100000

/-- 448: withy/withylaw10.pick -/
def withylaw10_pick : AFunc where
  closed := true
  nparams := 2
  ntmps := 11
  results := [.tmp 4]
  body := .seq (.ops (
   o 4 (.mov (.c (.int .i64 0))) <| .nil)) (
   .seq (.ops (
   m 5 0 <| o 6 (.conv .u64 (.t 5)) <| m 7 1 <| o 8 (.conv .u64 (.t 7)) <| o 9 (.arith .rem .u64 (.t 6) (.t 8)) <| o 10 (.conv .i64 (.t 9)) <| m 4 10 <| .nil)) (
   .ret))

def withylaw10_pick_hs : List (List Nat × List Nat) := []

end Wm.F
end

section
/- PRINTED by my tool (wip/wm/tool/Gen.lean): a function as one of my machine. -/
namespace Wm.F
open Wm
set_option maxRecDepth 100000

/-- 146: withy/field.NewSee -/
def field_NewSee : AFunc where
  closed := false
  nparams := 5
  ntmps := 23
  results := [.tmp 10]
  body := .seq (.ops (
   o 5 (.box (.t 0)) <| o 10 (.mov (.c .nilp)) <| .nil)) (
   .seq (.ops (
   ln 12 6 5 <| m 13 1 <| m 14 2 <| m 15 4 <| o 16 (.call 302 [(.t 12), (.t 13), (.t 14), (.t 15)]) <| m 11 16 <| .nil)) (
   .seq (.seq (.ops (
   m 17 11 <| o 18 (.eq false .ptr (.t 17) (.c .nilp)) <| .nil)) (
   .cond (.t 18) (.seq (.ops (
   o 10 (.mov (.c .nilp)) <| .nil)) (
   .ret)) (.skip))) (
   .seq (.ops (
   m 19 11 <| m 20 3 <| o 21 (.build [(.int .i64 0), .nilp, (.int .u64 0), (.int .i64 0), (.int .i64 0)] [(0, 1, (.c (.int .i64 (-1)))), (1, 1, (.t 19)), (2, 1, (.t 20))]) <|
   o 22 (.box (.t 21)) <| m 10 22 <| .nil)) (
   .ret))))

def field_NewSee_hs : List (List Nat × List Nat) := []

end Wm.F
end

section
/- PRINTED by my tool (wip/wm/tool/Gen.lean): a function as one of my machine. -/
namespace Wm.F
open Wm
set_option maxRecDepth 100000

/-- 147: (*withy/field.See).Step -/
def field_See_Step : AFunc where
  closed := false
  nparams := 2
  ntmps := 146
  results := [.tmp 4]
  body := .seq (.ops (
   o 4 (.mov (.c (.bool false))) <| .nil)) (
   .seq (.seq (.ops (
   m 6 0 <| o 7 (.eq false .ptr (.t 6) (.c .nilp)) <| .nil)) (
   .cond (.t 7) (.seq (.ops (
   o 4 (.mov (.c (.bool true))) <| .nil)) (
   .ret)) (.skip))) (
   .seq (.seq (.ops (
   m 8 0 <| n 9 8 <| d 10 4 9 <| l 11 10 <| .nil)) (
   .block 0 (.seq (.ops (
   o 13 (.cmp .eql .i64 (.t 11) (.c (.int .i64 0))) <| m 12 13 <| .nil)) (
   .cond (.t 12) (.seq (.ops (
   m 14 0 <| n 15 14 <| d 16 1 15 <| l 17 16 <| m 18 1 <| o 19 (.call 303 [(.t 17), (.t 18)]) <| .nil)) (
   .cond (.t 19) (.seq (.ops (
   m 20 0 <| m 21 0 <| n 22 21 <| d 23 1 22 <| l 24 23 <| n 25 24 <| d 26 8 25 <| l 27 26 <| n 28 20 <| d 29 3 28 <| u (.store 1 (.t 29) (.t 27)) <| .nil)) (
   .seq (.ops (
   m 30 0 <| n 31 30 <| d 32 4 31 <| u (.store 1 (.t 32) (.c (.int .i64 1))) <| .nil)) (
   .seq (.ops (
   m 33 0 <| n 34 33 <| d 35 3 34 <| l 36 35 <| o 37 (.cmp .lss .i64 (.t 36) (.c (.int .i64 0))) <| .nil)) (
   .cond (.t 37) (.ops (
   m 38 0 <| n 39 38 <| d 40 4 39 <| u (.store 1 (.t 40) (.c (.int .i64 4))) <| .nil)) (.skip))))) (.skip))) (.seq (.ops (
   o 42 (.cmp .eql .i64 (.t 11) (.c (.int .i64 1))) <| m 41 42 <| .nil)) (
   .cond (.t 41) (.seq (.ops (
   m 43 1 <| m 44 0 <| n 45 44 <| d 46 1 45 <| l 47 46 <| n 48 47 <| d 49 0 48 <| ln 50 6 49 <| m 51 0 <| n 52 51 <| d 53 3 52 <| l 54 53 <|
   o 55 (.call 305 [(.t 50), (.t 54), (.c (.int .i64 1))]) <| o 56 (.call 266 [(.t 43), (.t 55)]) <| m 5 56 <| .nil)) (
   .seq (.ops (
   m 57 0 <| n 58 57 <| d 59 4 58 <| u (.store 1 (.t 59) (.c (.int .i64 2))) <| .nil)) (
   .seq (.ops (
   m 60 5 <| o 61 (.cmp .neq .u64 (.t 60) (.c (.int .u64 0))) <| m 62 61 <| .grd 62 true [i 63 (.mov (.t 5)),
   i 64 (.mov (.t 0)),
   i 65 (.nilc (.t 64)),
   i 66 (.fieldA 2 (.t 65)),
   i 67 (.load1 (.t 66)),
   i 68 (.cmp .leq .u64 (.t 63) (.t 67))] <| o 69 (.pick (.t 62) (.t 68) (.c (.bool false))) <| .nil)) (
   .cond (.t 69) (.ops (
   m 70 0 <| n 71 70 <| d 72 4 71 <| u (.store 1 (.t 72) (.c (.int .i64 3))) <| .nil)) (.skip))))) (.seq (.ops (
   o 74 (.cmp .eql .i64 (.t 11) (.c (.int .i64 2))) <| m 73 74 <| .nil)) (
   .cond (.t 73) (.seq (.ops (
   m 75 0 <| m 76 0 <| n 77 76 <| d 78 1 77 <| l 79 78 <| n 80 79 <| d 81 0 80 <| ln 82 6 81 <| m 83 1 <| m 84 0 <| n 85 84 <| d 86 1 85 <| l 87 86 <| n 88 87 <| d 89 0 88 <|
   ln 90 6 89 <| m 91 0 <| n 92 91 <| d 93 3 92 <| l 94 93 <|
   .op ⟨(some 95), .call 305 [(.t 90), (.t 94), (.c (.int .i64 2))], [{ g := none, op := .loadN 6 (.t 81), d := 82 }, { g := none, op := .load1 (.t 78), d := 79 }]⟩ <|
   .op ⟨(some 96), .call 266 [(.t 83), (.t 95)], [{ g := none, op := .loadN 6 (.t 81), d := 82 }, { g := none, op := .load1 (.t 78), d := 79 }]⟩ <|
   o 97 (.call 304 [(.t 82), (.t 96)]) <| n 98 75 <| d 99 3 98 <| u (.store 1 (.t 99) (.t 97)) <| .nil)) (
   .seq (.ops (
   m 100 0 <| n 101 100 <| d 102 4 101 <| u (.store 1 (.t 102) (.c (.int .i64 1))) <| .nil)) (
   .seq (.ops (
   m 103 0 <| n 104 103 <| d 105 3 104 <| l 106 105 <| o 107 (.cmp .lss .i64 (.t 106) (.c (.int .i64 0))) <| .nil)) (
   .cond (.t 107) (.ops (
   m 108 0 <| n 109 108 <| d 110 4 109 <| u (.store 1 (.t 110) (.c (.int .i64 4))) <| .nil)) (.skip))))) (.seq (.ops (
   o 112 (.cmp .eql .i64 (.t 11) (.c (.int .i64 3))) <| m 111 112 <| .nil)) (
   .cond (.t 111) (.seq (.ops (
   m 113 0 <| m 114 0 <| n 115 114 <| d 116 1 115 <| l 117 116 <| n 118 117 <| d 119 0 118 <| ln 120 6 119 <| m 121 1 <| m 122 0 <| n 123 122 <| d 124 1 123 <| l 125 124 <|
   n 126 125 <| d 127 0 126 <| ln 128 6 127 <| m 129 0 <| n 130 129 <| d 131 3 130 <| l 132 131 <|
   .op ⟨(some 133), .call 305 [(.t 128), (.t 132), (.c (.int .i64 0))], [{ g := none, op := .loadN 6 (.t 119), d := 120 }, { g := none, op := .load1 (.t 116), d := 117 }]⟩ <|
   .op ⟨(some 134), .call 266 [(.t 121), (.t 133)], [{ g := none, op := .loadN 6 (.t 119), d := 120 }, { g := none, op := .load1 (.t 116), d := 117 }]⟩ <|
   o 135 (.call 304 [(.t 120), (.t 134)]) <| n 136 113 <| d 137 0 136 <| u (.store 1 (.t 137) (.t 135)) <| .nil)) (
   .ops (
   m 138 0 <| n 139 138 <| d 140 4 139 <| u (.store 1 (.t 140) (.c (.int .i64 4))) <| .nil))) (.skip))))))))))) (
   .seq (.ops (
   m 141 0 <| n 142 141 <| d 143 4 142 <| l 144 143 <| o 145 (.cmp .eql .i64 (.t 144) (.c (.int .i64 4))) <| m 4 145 <| .nil)) (
   .ret))))

def field_See_Step_hs : List (List Nat × List Nat) := []

end Wm.F
end

section
/- PRINTED by my tool (wip/wm/tool/Gen.lean): a function as one of my machine. -/
namespace Wm.F
open Wm
set_option maxRecDepth 100000

/-- 149: withy/withyref06.Room -/
def withyref06_Room : AFunc where
  closed := true
  nparams := 1
  ntmps := 8
  results := [.tmp 2]
  body := .seq (.ops (
   o 1 (.box (.t 0)) <| o 2 (.mov (.c (.int .i64 0))) <| .nil)) (
   .seq (.seq (.ops (
   d 3 1 1 <| l 4 3 <| o 5 (.cmp .lss .i64 (.t 4) (.c (.int .i64 3))) <| .nil)) (
   .cond (.t 5) (.seq (.ops (
   o 2 (.mov (.c (.int .i64 3))) <| .nil)) (
   .ret)) (.skip))) (
   .seq (.ops (
   d 6 1 1 <| l 7 6 <| m 2 7 <| .nil)) (
   .ret)))

def withyref06_Room_hs : List (List Nat × List Nat) := []

end Wm.F
end

section
/- PRINTED by my tool (wip/wm/tool/Gen.lean): a function as one of my machine. -/
namespace Wm.F
open Wm
set_option maxRecDepth 100000

/-- 413: (*withy/mem.Mem).Size -/
def mem_Mem_Size : AFunc where
  closed := false
  nparams := 1
  ntmps := 10
  results := [.tmp 2]
  body := .seq (.ops (
   o 2 (.mov (.c (.int .i64 0))) <| .nil)) (
   .seq (.seq (.ops (
   m 3 0 <| o 4 (.eq false .ptr (.t 3) (.c .nilp)) <| .nil)) (
   .cond (.t 4) (.seq (.ops (
   o 2 (.mov (.c (.int .i64 0))) <| .nil)) (
   .ret)) (.skip))) (
   .seq (.ops (
   m 5 0 <| n 6 5 <| d 7 0 6 <| l 8 7 <| o 9 (.lenSl (.t 8)) <| m 2 9 <| .nil)) (
   .ret)))

def mem_Mem_Size_hs : List (List Nat × List Nat) := []

end Wm.F
end

section
/- PRINTED by my tool (wip/wm/tool/Gen.lean): a function as one of my machine. -/
namespace Wm.F
open Wm
set_option maxRecDepth 100000

/-- 377: withy/plan.slots -/
def plan_slots : AFunc where
  closed := true
  nparams := 1
  ntmps := 11
  results := [.tmp 2]
  body := .seq (.ops (
   o 1 (.box (.t 0)) <| o 2 (.mov (.c (.int .i64 0))) <| .nil)) (
   .seq (.ops (
   d 3 2 1 <| l 4 3 <| d 5 3 1 <| l 6 5 <| o 7 (.arith .add .i64 (.c (.int .i64 1)) (.t 6)) <| o 8 (.arith .add .i64 (.t 7) (.c (.int .i64 2))) <|
   o 9 (.arith .mul .i64 (.t 4) (.t 8)) <| o 10 (.arith .add .i64 (.c (.int .i64 4)) (.t 9)) <| m 2 10 <| .nil)) (
   .ret))

def plan_slots_hs : List (List Nat × List Nat) := []

end Wm.F
end

section
/- PRINTED by my tool (wip/wm/tool/Gen.lean): a function as one of my machine. -/
namespace Wm.F
open Wm
set_option maxRecDepth 100000

/-- 378: withy/plan.room -/
def plan_room : AFunc where
  closed := true
  nparams := 1
  ntmps := 7
  results := [.tmp 2]
  body := .seq (.ops (
   o 1 (.box (.t 0)) <| o 2 (.mov (.c (.int .i64 0))) <| .nil)) (
   .seq (.ops (
   d 3 1 1 <| l 4 3 <| o 5 (.minmax true .i64 (.t 4) (.c (.int .i64 3))) <| o 6 (.arith .add .i64 (.c (.int .i64 2)) (.t 5)) <| m 2 6 <| .nil)) (
   .ret))

def plan_room_hs : List (List Nat × List Nat) := []

end Wm.F
end

section
/- PRINTED by my tool (wip/wm/tool/Gen.lean): a function as one of my machine. -/
namespace Wm.F
open Wm
set_option maxRecDepth 100000

/-- 267: withy/head.Shaded -/
def head_Shaded : AFunc where
  closed := true
  nparams := 2
  ntmps := 31
  results := [.tmp 4, .tmp 5]
  body := .seq (.ops (
   o 4 (.mov (.c (.int .u64 0))) <| o 5 (.mov (.c (.bool false))) <| .nil)) (
   .seq (.ops (
   m 9 0 <| o 10 (.call 380 [(.t 9)]) <| m 8 10 <| o 11 (.extract (.t 8) 0) <| o 12 (.extract (.t 8) 1) <|
   o 6 (.alloc [(.int .i64 0), (.int .i64 0), (.bool false), (.int .i64 0), (.int .i64 0), (.int .i64 0)]) <| u (.store 6 (.t 6) (.t 11)) <| m 7 12 <| .nil)) (
   .seq (.seq (.ops (
   m 13 7 <| o 14 (.not (.t 13)) <| m 15 14 <| .grd 15 false [i 16 (.fieldA 1 (.t 6)),
   i 17 (.load1 (.t 16)),
   i 18 (.mov (.t 1)),
   ⟨(some 19), .call 381 [(.t 18)], [{ g := (some (15, false)), op := .load1 (.t 16), d := 17 }]⟩,
   i 20 (.cmp .eql .i64 (.t 17) (.t 19))] <| o 21 (.pick (.t 15) (.c (.bool true)) (.t 20)) <| .nil)) (
   .cond (.t 21) (.seq (.ops (
   m 22 0 <| m 4 22 <| o 5 (.mov (.c (.bool false))) <| .nil)) (
   .ret)) (.skip))) (
   .seq (.ops (
   m 23 1 <| o 24 (.call 381 [(.t 23)]) <| d 25 1 6 <| u (.store 1 (.t 25) (.t 24)) <| d 26 2 6 <| u (.store 1 (.t 26) (.c (.bool true))) <| .nil)) (
   .seq (.ops (
   ln 27 6 6 <| o 28 (.call 382 [(.t 27)]) <| o 29 (.extract (.t 28) 0) <| o 30 (.extract (.t 28) 1) <| m 4 29 <| m 5 30 <| .nil)) (
   .ret)))))

def head_Shaded_hs : List (List Nat × List Nat) := []

end Wm.F
end

section
/- PRINTED by my tool (wip/wm/tool/Gen.lean): a function as one of my machine. -/
namespace Wm.F
open Wm
set_option maxRecDepth 100000

/-- 268: (*withy/mem.Mem).Add -/
def mem_Mem_Add : AFunc where
  closed := false
  nparams := 3
  ntmps := 30
  results := [.tmp 6]
  body := .seq (.ops (
   o 6 (.mov (.c (.int .u64 0))) <| .nil)) (
   .seq (.seq (.ops (
   m 7 0 <| m 8 1 <| o 9 (.call 346 [(.t 7), (.t 8)]) <| o 10 (.not (.t 9)) <| .nil)) (
   .cond (.t 10) (.seq (.ops (
   o 6 (.mov (.c (.int .u64 0))) <| .nil)) (
   .ret)) (.skip))) (
   .seq (.ops (
   m 11 0 <| m 12 1 <| m 13 0 <| n 14 13 <| d 15 0 14 <| l 16 15 <| m 17 1 <| o 18 (.indexA 1 (.t 16) (.t 17)) <| l 19 18 <| m 20 2 <| o 21 (.arith .add .u64 (.t 19) (.t 20)) <|
   o 22 (.call 347 [(.t 11), (.c (.int .i64 4)), (.t 12), (.t 21)]) <| .nil)) (
   .seq (.ops (
   m 23 0 <| n 24 23 <| d 25 0 24 <| l 26 25 <| m 27 1 <| o 28 (.indexA 1 (.t 26) (.t 27)) <| l 29 28 <| m 6 29 <| .nil)) (
   .ret))))

def mem_Mem_Add_hs : List (List Nat × List Nat) := []

end Wm.F
end

section
/- PRINTED by my tool (wip/wm/tool/Gen.lean): a function as one of my machine. -/
namespace Wm.F
open Wm
set_option maxRecDepth 100000

/-- 302: withy/field.fresh -/
def field_fresh : AFunc where
  closed := false
  nparams := 4
  ntmps := 25
  results := [.tmp 8]
  body := .seq (.ops (
   o 4 (.box (.t 0)) <| o 8 (.mov (.c .nilp)) <| .nil)) (
   .seq (.ops (
   ln 10 6 4 <| m 11 1 <| m 12 2 <| o 13 (.call 305 [(.t 10), (.t 11), (.t 12)]) <| m 9 13 <| .nil)) (
   .seq (.seq (.ops (
   m 14 9 <| o 15 (.cmp .lss .i64 (.t 14) (.c (.int .i64 0))) <| m 16 15 <| .grd 16 false [i 17 (.mov (.t 3)),
   i 18 (.eq false .ptr (.t 17) (.c .nilp))] <| o 19 (.pick (.t 16) (.c (.bool true)) (.t 18)) <| .nil)) (
   .cond (.t 19) (.seq (.ops (
   o 8 (.mov (.c .nilp)) <| .nil)) (
   .ret)) (.skip))) (
   .seq (.ops (
   ln 20 6 4 <| m 21 3 <| m 22 9 <|
   o 23 (.build [(.int .i64 0), (.int .i64 0), (.int .i64 0), (.int .i64 0), (.int .i64 0), (.int .i64 0), .nilp, (.int .i64 0), (.int .i64 0), (.int .i64 0), .nilp, (.int .i64 0)] [(0, 6, (.t 20)), (6, 1, (.t 21)), (7, 1, (.t 22))]) <| o 24 (.box (.t 23)) <| m 8 24 <| .nil)) (
   .ret))))

def field_fresh_hs : List (List Nat × List Nat) := []

end Wm.F
end

section
/- PRINTED by my tool (wip/wm/tool/Gen.lean): a function as one of my machine. -/
namespace Wm.F
open Wm
set_option maxRecDepth 100000

/-- 380: withy/head.lives -/
def head_lives : AFunc where
  closed := true
  nparams := 1
  ntmps := 23
  results := [.cell true 6 2, .tmp 3]
  body := .seq (.ops (
   o 2 (.alloc [(.int .i64 0), (.int .i64 0), (.bool false), (.int .i64 0), (.int .i64 0), (.int .i64 0)]) <| o 3 (.mov (.c (.bool false))) <| .nil)) (
   .seq (.ops (
   m 7 0 <| o 8 (.call 265 [(.t 7)]) <| m 6 8 <| o 9 (.extract (.t 6) 0) <| o 10 (.extract (.t 6) 1) <|
   o 4 (.alloc [(.int .i64 0), (.int .i64 0), (.bool false), (.int .i64 0), (.int .i64 0), (.int .i64 0)]) <| u (.store 6 (.t 4) (.t 9)) <| m 5 10 <| .nil)) (
   .seq (.ops (
   ln 11 6 4 <| m 12 5 <| m 13 12 <| .grd 13 true [i 14 (.fieldA 0 (.t 4)),
   i 15 (.load1 (.t 14)),
   i 16 (.cmp .eql .i64 (.t 15) (.c (.int .i64 1))),
   i 17 (.mov (.t 16))] <| .grd 17 false [i 18 (.fieldA 0 (.t 4)),
   i 19 (.load1 (.t 18)),
   i 20 (.cmp .eql .i64 (.t 19) (.c (.int .i64 2)))] <| .grd 13 true [i 21 (.pick (.t 17) (.c (.bool true)) (.t 20))] <| o 22 (.pick (.t 13) (.t 21) (.c (.bool false))) <|
   .op ⟨none, .store 6 (.t 2) (.t 11), [{ g := (some (17, false)), op := .load1 (.t 18), d := 19 }]⟩ <| m 3 22 <| .nil)) (
   .ret)))

def head_lives_hs : List (List Nat × List Nat) := []

end Wm.F
end

section
/- PRINTED by my tool (wip/wm/tool/Gen.lean): a function as one of my machine. -/
namespace Wm.F
open Wm
set_option maxRecDepth 100000

/-- 381: withy/turn.Black -/
def turn_Black : AFunc where
  closed := true
  nparams := 1
  ntmps := 8
  results := [.tmp 2]
  body := .seq (.ops (
   o 2 (.mov (.c (.int .i64 0))) <| .nil)) (
   .seq (.ops (
   m 3 0 <| o 4 (.call 442 [(.t 3)]) <| o 5 (.arith .add .u64 (.t 4) (.c (.int .u64 1))) <| o 6 (.arith .rem .u64 (.t 5) (.c (.int .u64 2))) <| o 7 (.conv .i64 (.t 6)) <| m 2 7 <|
   .nil)) (
   .ret))

def turn_Black_hs : List (List Nat × List Nat) := []

end Wm.F
end

section
/- PRINTED by my tool (wip/wm/tool/Gen.lean): a function as one of my machine. -/
namespace Wm.F
open Wm
set_option maxRecDepth 100000

def head_Pack_c1 : ACode :=
  .seq (.ops (
   o 20 (.cmp .lss .i64 (.t 19) (.c (.int .i64 5))) <| .nil)) (
  .seq (.cond (.t 20) (.skip) (.exit 0)) (
  .seq (.block 1 (.seq (.ops (
   o 21 (.indexAgg 5 1 false (.t 18) (.t 19)) <| m 5 21 <| .nil)) (
  .seq (.ops (
   m 22 5 <| o 23 (.cmp .lss .i64 (.t 22) (.c (.int .i64 0))) <| .nil)) (
  .cond (.t 23) (.seq (.ops (
   o 2 (.mov (.c (.int .u64 0))) <| o 3 (.mov (.c (.bool false))) <| .nil)) (
   .ret)) (.skip))))) (
  .ops (
   o 24 (.arith .add .i64 (.t 19) (.c (.int .i64 1))) <| m 19 24 <| .nil))))

def head_Pack_c0 : ACode :=
  .seq (.ops (
   d 26 0 1 <| l 27 26 <| o 28 (.conv .u64 (.t 27)) <| o 29 (.build [(.int .i64 0), (.int .u64 0)] [(0, 1, (.c (.int .i64 3))), (1, 1, (.t 28))]) <| d 30 1 1 <| l 31 30 <|
   o 32 (.conv .u64 (.t 31)) <| o 33 (.build [(.int .i64 0), (.int .u64 0)] [(0, 1, (.c (.int .i64 1))), (1, 1, (.t 32))]) <| d 34 2 1 <| l 35 34 <| d 38 3 1 <| l 39 38 <|
   o 40 (.conv .u64 (.t 39)) <| o 41 (.build [(.int .i64 0), (.int .u64 0)] [(0, 1, (.c (.int .i64 4))), (1, 1, (.t 40))]) <|
   o 42 (.build [(.int .i64 0), (.int .u64 0)] [(0, 1, (.c (.int .i64 7)))]) <| d 43 4 1 <| l 44 43 <| o 45 (.conv .u64 (.t 44)) <|
   o 46 (.build [(.int .i64 0), (.int .u64 0)] [(0, 1, (.c (.int .i64 32))), (1, 1, (.t 45))]) <| d 47 5 1 <| l 48 47 <| o 49 (.conv .u64 (.t 48)) <|
   o 50 (.build [(.int .i64 0), (.int .u64 0)] [(0, 1, (.c (.int .i64 16))), (1, 1, (.t 49))]) <|
   .op ⟨(some 36), .call 444 [(.t 35)], [{ g := none, op := .load1 (.t 47), d := 48 }, { g := none, op := .load1 (.t 43), d := 44 }, { g := none, op := .load1 (.t 38), d := 39 }, { g := none, op := .load1 (.t 30), d := 31 }, { g := none, op := .load1 (.t 26), d := 27 }]⟩ <| o 37 (.build [(.int .i64 0), (.int .u64 0)] [(0, 1, (.c (.int .i64 1))), (1, 1, (.t 36))]) <| o 51 (.buildSl 2 7 [(.int .i64 0), (.int .u64 0)] [(0, 2, (.t 29)), (2, 2, (.t 33)), (4, 2, (.t 37)), (6, 2, (.t 41)), (8, 2, (.t 42)), (10, 2, (.t 46)), (12, 2, (.t 50))]) <| o 52 (.call 443 [(.t 51)]) <| m 25 52 <| o 53 (.extract (.t 25) 0) <| o 54 (.extract (.t 25) 1) <| m 6 53 <| m 7 54 <| .nil)) (
  .seq (.seq (.ops (
   m 55 7 <| o 56 (.not (.t 55)) <| m 57 56 <| .grd 57 false [i 58 (.fieldA 0 (.t 1)),
   i 59 (.load1 (.t 58)),
   i 60 (.cmp .gtr .i64 (.t 59) (.c (.int .i64 4)))] <| o 61 (.pick (.t 57) (.c (.bool true)) (.t 60)) <| .nil)) (
  .cond (.t 61) (.seq (.ops (
   o 2 (.mov (.c (.int .u64 0))) <| o 3 (.mov (.c (.bool false))) <| .nil)) (
   .ret)) (.skip))) (
  .seq (.ops (
   m 62 6 <| m 2 62 <| o 3 (.mov (.c (.bool true))) <| .nil)) (
  .ret)))

/-- 382: withy/head.Pack -/
def head_Pack : AFunc where
  closed := true
  nparams := 1
  ntmps := 63
  results := [.tmp 2, .tmp 3]
  body := .seq (.ops (
   o 1 (.box (.t 0)) <| o 2 (.mov (.c (.int .u64 0))) <| o 3 (.mov (.c (.bool false))) <| .nil)) (
   .seq (.seq (.ops (
   d 8 0 1 <| l 9 8 <| d 10 1 1 <| l 11 10 <| d 12 3 1 <| l 13 12 <| d 14 4 1 <| l 15 14 <| d 16 5 1 <| l 17 16 <|
   o 18 (.build [(.int .i64 0), (.int .i64 0), (.int .i64 0), (.int .i64 0), (.int .i64 0)] [(0, 1, (.t 9)), (1, 1, (.t 11)), (2, 1, (.t 13)), (3, 1, (.t 15)), (4, 1, (.t 17))]) <| o 19 (.mov (.c (.int .i64 0))) <| .nil)) (
   .block 0 (.loop [1, 18, 19] [1, 2, 3] (head_Pack_c1)))) (
   head_Pack_c0))

def head_Pack_hs : List (List Nat × List Nat) := [([1, 18, 19], [1, 2, 3])]

end Wm.F
end

section
/- PRINTED by my tool (wip/wm/tool/Gen.lean): a function as one of my machine. -/
namespace Wm.F
open Wm
set_option maxRecDepth 100000

/-- 265: withy/head.Unpack -/
def head_Unpack : AFunc where
  closed := true
  nparams := 1
  ntmps := 53
  results := [.cell true 6 2, .tmp 3]
  body := .seq (.ops (
   o 2 (.alloc [(.int .i64 0), (.int .i64 0), (.bool false), (.int .i64 0), (.int .i64 0), (.int .i64 0)]) <| o 3 (.mov (.c (.bool false))) <| .nil)) (
   .seq (.ops (
   m 7 0 <|
   o 8 (.buildSl 1 7 [(.int .i64 0)] [(0, 1, (.c (.int .i64 3))), (1, 1, (.c (.int .i64 1))), (2, 1, (.c (.int .i64 1))), (3, 1, (.c (.int .i64 4))), (4, 1, (.c (.int .i64 7))), (5, 1, (.c (.int .i64 32))), (6, 1, (.c (.int .i64 16)))]) <| o 9 (.call 379 [(.t 7), (.t 8)]) <| m 6 9 <| o 10 (.extract (.t 6) 0) <| o 11 (.extract (.t 6) 1) <| m 4 10 <| m 5 11 <| .nil)) (
   .seq (.seq (.ops (
   m 12 4 <| o 13 (.lenSl (.t 12)) <| o 14 (.cmp .lss .i64 (.t 13) (.c (.int .i64 7))) <| m 15 14 <| .grd 15 false [i 16 (.mov (.t 4)),
   i 17 (.indexA 1 (.t 16) (.c (.int .i64 0))),
   i 18 (.load1 (.t 17)),
   i 19 (.cmp .gtr .u64 (.t 18) (.c (.int .u64 4)))] <| o 20 (.pick (.t 15) (.c (.bool true)) (.t 19)) <| m 21 20 <| .grd 21 false [i 22 (.mov (.t 4)),
   i 23 (.indexA 1 (.t 22) (.c (.int .i64 4))),
   i 24 (.load1 (.t 23)),
   i 25 (.cmp .neq .u64 (.t 24) (.c (.int .u64 0)))] <| o 26 (.pick (.t 21) (.c (.bool true)) (.t 25)) <| .nil)) (
   .cond (.t 26) (.seq (.ops (
   o 27 (.build [(.int .i64 0), (.int .i64 0), (.bool false), (.int .i64 0), (.int .i64 0), (.int .i64 0)] []) <| u (.store 6 (.t 2) (.t 27)) <| o 3 (.mov (.c (.bool false))) <|
   .nil)) (
   .ret)) (.skip))) (
   .seq (.ops (
   m 28 4 <| o 29 (.indexA 1 (.t 28) (.c (.int .i64 0))) <| l 30 29 <| o 31 (.conv .i64 (.t 30)) <| m 32 4 <| o 33 (.indexA 1 (.t 32) (.c (.int .i64 1))) <| l 34 33 <|
   o 35 (.conv .i64 (.t 34)) <| m 36 4 <| o 37 (.indexA 1 (.t 36) (.c (.int .i64 2))) <| l 38 37 <| o 39 (.cmp .eql .u64 (.t 38) (.c (.int .u64 1))) <| m 40 4 <|
   o 41 (.indexA 1 (.t 40) (.c (.int .i64 3))) <| l 42 41 <| o 43 (.conv .i64 (.t 42)) <| m 44 4 <| o 45 (.indexA 1 (.t 44) (.c (.int .i64 5))) <| l 46 45 <|
   o 47 (.conv .i64 (.t 46)) <| m 48 4 <| o 49 (.indexA 1 (.t 48) (.c (.int .i64 6))) <| l 50 49 <| o 51 (.conv .i64 (.t 50)) <|
   o 52 (.build [(.int .i64 0), (.int .i64 0), (.bool false), (.int .i64 0), (.int .i64 0), (.int .i64 0)] [(0, 1, (.t 31)), (1, 1, (.t 35)), (2, 1, (.t 39)), (3, 1, (.t 43)), (4, 1, (.t 47)), (5, 1, (.t 51))]) <| u (.store 6 (.t 2) (.t 52)) <| o 3 (.mov (.c (.bool true))) <| .nil)) (
   .ret))))

def head_Unpack_hs : List (List Nat × List Nat) := []

end Wm.F
end

section
/- PRINTED by my tool (wip/wm/tool/Gen.lean): a function as one of my machine. -/
namespace Wm.F
open Wm
set_option maxRecDepth 100000

/-- 442: withy/turn.Cycle -/
def turn_Cycle : AFunc where
  closed := true
  nparams := 1
  ntmps := 5
  results := [.tmp 2]
  body := .seq (.ops (
   o 2 (.mov (.c (.int .u64 0))) <| .nil)) (
   .seq (.ops (
   m 3 0 <| o 4 (.arith .quo .u64 (.t 3) (.c (.int .u64 4))) <| m 2 4 <| .nil)) (
   .ret))

def turn_Cycle_hs : List (List Nat × List Nat) := []

end Wm.F
end

section
/- PRINTED by my tool (wip/wm/tool/Gen.lean): a function as one of my machine. -/
namespace Wm.F
open Wm
set_option maxRecDepth 100000

def word_Pack_c1 : ACode :=
  .seq (.ops (
   o 11 (.cmp .lss .i64 (.t 10) (.t 9)) <| .nil)) (
  .seq (.cond (.t 11) (.skip) (.exit 0)) (
  .seq (.block 1 (.seq (.ops (
   o 12 (.indexA 2 (.t 8) (.t 10)) <| ln 13 2 12 <| o 7 (.alloc [(.int .i64 0), (.int .u64 0)]) <| u (.store 2 (.t 7) (.t 13)) <| .nil)) (
  .seq (.seq (.ops (
   m 14 5 <| d 15 0 7 <| l 16 15 <| o 17 (.call 441 [(.t 14), (.t 16)]) <| o 18 (.not (.t 17)) <| m 19 18 <| .grd 19 false [i 20 (.fieldA 1 (.t 7)),
   i 21 (.load1 (.t 20)),
   i 22 (.fieldA 0 (.t 7)),
   i 23 (.load1 (.t 22)),
   i 24 (.call 484 [(.t 21), (.t 23)]),
   i 25 (.not (.t 24))] <| o 26 (.pick (.t 19) (.c (.bool true)) (.t 25)) <| .nil)) (
  .cond (.t 26) (.seq (.ops (
   o 2 (.mov (.c (.int .u64 0))) <| o 3 (.mov (.c (.bool false))) <| .nil)) (
   .ret)) (.skip))) (
  .seq (.ops (
   m 27 4 <| d 28 1 7 <| l 29 28 <| m 30 5 <| o 31 (.shift true .u64 .i64 (.t 29) (.t 30)) <| o 32 (.arith .or .u64 (.t 27) (.t 31)) <| m 4 32 <| .nil)) (
  .ops (
   m 33 5 <| d 34 0 7 <| l 35 34 <| o 36 (.arith .add .i64 (.t 33) (.t 35)) <| m 5 36 <| .nil)))))) (
  .ops (
   o 37 (.arith .add .i64 (.t 10) (.c (.int .i64 1))) <| m 10 37 <| .nil))))

def word_Pack_c0 : ACode :=
  .seq (.ops (
   m 38 4 <| m 2 38 <| o 3 (.mov (.c (.bool true))) <| .nil)) (
  .ret)

/-- 443: withy/word.Pack -/
def word_Pack : AFunc where
  closed := false
  nparams := 1
  ntmps := 39
  results := [.tmp 2, .tmp 3]
  body := .seq (.ops (
   o 2 (.mov (.c (.int .u64 0))) <| o 3 (.mov (.c (.bool false))) <| .nil)) (
   .seq (.ops (
   o 4 (.mov (.c (.int .u64 0))) <| .nil)) (
   .seq (.ops (
   o 5 (.mov (.c (.int .i64 0))) <| .nil)) (
   .seq (.seq (.ops (
   m 8 0 <| o 9 (.lenSl (.t 8)) <| o 10 (.mov (.c (.int .i64 0))) <| .nil)) (
   .block 0 (.loop [4, 5, 8, 9, 10] [2, 3, 4] (word_Pack_c1)))) (
   word_Pack_c0))))

def word_Pack_hs : List (List Nat × List Nat) := [([4, 5, 8, 9, 10], [2, 3, 4])]

end Wm.F
end

section
/- PRINTED by my tool (wip/wm/tool/Gen.lean): a function as one of my machine. -/
namespace Wm.F
open Wm
set_option maxRecDepth 100000

/-- 444: withy/head.bit -/
def head_bit : AFunc where
  closed := true
  nparams := 1
  ntmps := 4
  results := [.tmp 2]
  body := .seq (.ops (
   o 2 (.mov (.c (.int .u64 0))) <| .nil)) (
   .seq (.seq (.ops (
   m 3 0 <| .nil)) (
   .cond (.t 3) (.seq (.ops (
   o 2 (.mov (.c (.int .u64 1))) <| .nil)) (
   .ret)) (.skip))) (
   .seq (.ops (
   o 2 (.mov (.c (.int .u64 0))) <| .nil)) (
   .ret)))

def head_bit_hs : List (List Nat × List Nat) := []

end Wm.F
end

section
/- PRINTED by my tool (wip/wm/tool/Gen.lean): a function as one of my machine. -/
namespace Wm.F
open Wm
set_option maxRecDepth 100000

def word_Unpack_c1 : ACode :=
  .seq (.ops (
   o 13 (.cmp .lss .i64 (.t 12) (.t 11)) <| .nil)) (
  .seq (.cond (.t 13) (.skip) (.exit 0)) (
  .seq (.block 1 (.seq (.ops (
   o 14 (.indexA 1 (.t 10) (.t 12)) <| l 15 14 <| m 9 15 <| .nil)) (
  .seq (.seq (.ops (
   m 16 7 <| m 17 9 <| o 18 (.call 441 [(.t 16), (.t 17)]) <| o 19 (.not (.t 18)) <| .nil)) (
  .cond (.t 19) (.seq (.ops (
   o 4 (.mov (.c .nilsl)) <| o 5 (.mov (.c (.bool false))) <| .nil)) (
   .ret)) (.skip))) (
  .seq (.ops (
   m 20 6 <| m 21 0 <| m 22 7 <| m 23 9 <| o 24 (.call 396 [(.t 21), (.t 22), (.t 23)]) <| o 25 (.buildSl 1 1 [(.int .u64 0)] [(0, 1, (.t 24))]) <|
   o 26 (.append 1 8 (.t 20) (.t 25)) <| m 6 26 <| .nil)) (
  .ops (
   m 27 7 <| m 28 9 <| o 29 (.arith .add .i64 (.t 27) (.t 28)) <| m 7 29 <| .nil)))))) (
  .ops (
   o 30 (.arith .add .i64 (.t 12) (.c (.int .i64 1))) <| m 12 30 <| .nil))))

def word_Unpack_c0 : ACode :=
  .seq (.ops (
   m 31 6 <| m 4 31 <| o 5 (.mov (.c (.bool true))) <| .nil)) (
  .ret)

/-- 379: withy/word.Unpack -/
def word_Unpack : AFunc where
  closed := false
  nparams := 2
  ntmps := 32
  results := [.tmp 4, .tmp 5]
  body := .seq (.ops (
   o 4 (.mov (.c .nilsl)) <| o 5 (.mov (.c (.bool false))) <| .nil)) (
   .seq (.ops (
   o 6 (.mov (.c .nilsl)) <| .nil)) (
   .seq (.ops (
   o 7 (.mov (.c (.int .i64 0))) <| .nil)) (
   .seq (.seq (.ops (
   m 10 1 <| o 11 (.lenSl (.t 10)) <| o 12 (.mov (.c (.int .i64 0))) <| .nil)) (
   .block 0 (.loop [0, 6, 7, 10, 11, 12] [4, 5, 6] (word_Unpack_c1)))) (
   word_Unpack_c0))))

def word_Unpack_hs : List (List Nat × List Nat) := [([0, 6, 7, 10, 11, 12], [4, 5, 6])]

end Wm.F
end

section
/- PRINTED by my tool (wip/wm/tool/Gen.lean): a function as one of my machine. -/
namespace Wm.F
open Wm
set_option maxRecDepth 100000

/-- 441: withy/word.some -/
def word_some : AFunc where
  closed := true
  nparams := 2
  ntmps := 21
  results := [.tmp 4]
  body := .seq (.ops (
   o 4 (.mov (.c (.bool false))) <| .nil)) (
   .seq (.ops (
   m 5 1 <| o 6 (.cmp .geq .i64 (.t 5) (.c (.int .i64 1))) <| m 7 6 <| .grd 7 true [i 8 (.mov (.t 1)),
   i 9 (.cmp .leq .i64 (.t 8) (.c (.int .i64 64)))] <| o 10 (.pick (.t 7) (.t 9) (.c (.bool false))) <| m 11 10 <| .grd 11 true [i 12 (.mov (.t 0)),
   i 13 (.cmp .geq .i64 (.t 12) (.c (.int .i64 0)))] <| o 14 (.pick (.t 11) (.t 13) (.c (.bool false))) <| m 15 14 <| .grd 15 true [i 16 (.mov (.t 0)),
   i 17 (.mov (.t 1)),
   i 18 (.arith .sub .i64 (.c (.int .i64 64)) (.t 17)),
   i 19 (.cmp .leq .i64 (.t 16) (.t 18))] <| o 20 (.pick (.t 15) (.t 19) (.c (.bool false))) <| m 4 20 <| .nil)) (
   .ret))

def word_some_hs : List (List Nat × List Nat) := []

end Wm.F
end

section
/- PRINTED by my tool (wip/wm/tool/Gen.lean): a function as one of my machine. -/
namespace Wm.F
open Wm
set_option maxRecDepth 100000

/-- 484: withy/word.Fits -/
def word_Fits : AFunc where
  closed := true
  nparams := 2
  ntmps := 17
  results := [.tmp 4]
  body := .seq (.ops (
   o 4 (.mov (.c (.bool false))) <| .nil)) (
   .seq (.ops (
   m 5 1 <| o 6 (.cmp .geq .i64 (.t 5) (.c (.int .i64 0))) <| m 7 6 <| .grd 7 true [i 8 (.mov (.t 1)),
   i 9 (.cmp .gtr .i64 (.t 8) (.c (.int .i64 63))),
   i 10 (.mov (.t 9))] <| .grd 10 false [i 11 (.mov (.t 0)),
   i 12 (.mov (.t 1)),
   i 13 (.shift false .u64 .i64 (.t 11) (.t 12)),
   i 14 (.cmp .eql .u64 (.t 13) (.c (.int .u64 0)))] <| .grd 7 true [i 15 (.pick (.t 10) (.c (.bool true)) (.t 14))] <| o 16 (.pick (.t 7) (.t 15) (.c (.bool false))) <| m 4 16 <|
   .nil)) (
   .ret))

def word_Fits_hs : List (List Nat × List Nat) := []

end Wm.F
end

section
/- PRINTED by my tool (wip/wm/tool/Gen.lean): a function as one of my machine. -/
namespace Wm.F
open Wm
set_option maxRecDepth 100000

/-- 396: withy/word.Get -/
def word_Get : AFunc where
  closed := true
  nparams := 3
  ntmps := 17
  results := [.tmp 6]
  body := .seq (.ops (
   o 6 (.mov (.c (.int .u64 0))) <| .nil)) (
   .seq (.seq (.ops (
   m 7 1 <| m 8 2 <| o 9 (.call 441 [(.t 7), (.t 8)]) <| o 10 (.not (.t 9)) <| .nil)) (
   .cond (.t 10) (.seq (.ops (
   o 6 (.mov (.c (.int .u64 0))) <| .nil)) (
   .ret)) (.skip))) (
   .seq (.ops (
   m 11 0 <| m 12 1 <| o 13 (.shift false .u64 .i64 (.t 11) (.t 12)) <| m 14 2 <| o 15 (.call 449 [(.t 14)]) <| o 16 (.arith .and .u64 (.t 13) (.t 15)) <| m 6 16 <| .nil)) (
   .ret)))

def word_Get_hs : List (List Nat × List Nat) := []

end Wm.F
end

section
/- PRINTED by my tool (wip/wm/tool/Gen.lean): a function as one of my machine. -/
namespace Wm.F
open Wm
set_option maxRecDepth 100000

/-- 449: withy/word.mask -/
def word_mask : AFunc where
  closed := true
  nparams := 1
  ntmps := 6
  results := [.tmp 2]
  body := .seq (.ops (
   o 2 (.mov (.c (.int .u64 0))) <| .nil)) (
   .seq (.ops (
   m 3 0 <| o 4 (.shift true .u64 .i64 (.c (.int .u64 1)) (.t 3)) <| o 5 (.arith .sub .u64 (.t 4) (.c (.int .u64 1))) <| m 2 5 <| .nil)) (
   .ret))

def word_mask_hs : List (List Nat × List Nat) := []

end Wm.F
end

section
/- PRINTED by my tool (wip/wm/tool/Gen.lean): a function as one of my machine. -/
namespace Wm.F
open Wm
set_option maxRecDepth 100000

/-- 402: withy/head.Blackened -/
def head_Blackened : AFunc where
  closed := true
  nparams := 1
  ntmps := 24
  results := [.tmp 2, .tmp 3]
  body := .seq (.ops (
   o 2 (.mov (.c (.int .u64 0))) <| o 3 (.mov (.c (.bool false))) <| .nil)) (
   .seq (.ops (
   m 7 0 <| o 8 (.call 265 [(.t 7)]) <| m 6 8 <| o 9 (.extract (.t 6) 0) <| o 10 (.extract (.t 6) 1) <|
   o 4 (.alloc [(.int .i64 0), (.int .i64 0), (.bool false), (.int .i64 0), (.int .i64 0), (.int .i64 0)]) <| u (.store 6 (.t 4) (.t 9)) <| m 5 10 <| .nil)) (
   .seq (.seq (.ops (
   m 11 5 <| o 12 (.not (.t 11)) <| m 13 12 <| .grd 13 false [i 14 (.fieldA 2 (.t 4)),
   i 15 (.load1 (.t 14)),
   i 16 (.not (.t 15))] <| o 17 (.pick (.t 13) (.c (.bool true)) (.t 16)) <| .nil)) (
   .cond (.t 17) (.seq (.ops (
   m 18 0 <| m 2 18 <| o 3 (.mov (.c (.bool false))) <| .nil)) (
   .ret)) (.skip))) (
   .seq (.ops (
   d 19 2 4 <| u (.store 1 (.t 19) (.c (.bool false))) <| .nil)) (
   .seq (.ops (
   ln 20 6 4 <| o 21 (.call 382 [(.t 20)]) <| o 22 (.extract (.t 21) 0) <| o 23 (.extract (.t 21) 1) <| m 2 22 <| m 3 23 <| .nil)) (
   .ret)))))

def head_Blackened_hs : List (List Nat × List Nat) := []

end Wm.F
end

section
/- PRINTED by my tool (wip/wm/tool/Gen.lean): a function as one of my machine. -/
namespace Wm.F
open Wm
set_option maxRecDepth 100000

/-- 409: withy/head.Freed -/
def head_Freed : AFunc where
  closed := true
  nparams := 2
  ntmps := 44
  results := [.tmp 4, .tmp 5]
  body := .seq (.ops (
   o 4 (.mov (.c (.int .u64 0))) <| o 5 (.mov (.c (.bool false))) <| .nil)) (
   .seq (.ops (
   m 9 0 <| o 10 (.call 265 [(.t 9)]) <| m 8 10 <| o 11 (.extract (.t 8) 0) <| o 12 (.extract (.t 8) 1) <|
   o 6 (.alloc [(.int .i64 0), (.int .i64 0), (.bool false), (.int .i64 0), (.int .i64 0), (.int .i64 0)]) <| u (.store 6 (.t 6) (.t 11)) <| m 7 12 <| .nil)) (
   .seq (.seq (.ops (
   m 13 7 <| o 14 (.not (.t 13)) <| m 15 14 <| .grd 15 false [i 16 (.fieldA 0 (.t 6)),
   i 17 (.load1 (.t 16)),
   i 18 (.cmp .neq .i64 (.t 17) (.c (.int .i64 3)))] <| o 19 (.pick (.t 15) (.c (.bool true)) (.t 18)) <| .nil)) (
   .cond (.t 19) (.seq (.ops (
   m 20 0 <| m 4 20 <| o 5 (.mov (.c (.bool false))) <| .nil)) (
   .ret)) (.skip))) (
   .seq (.seq (.ops (
   d 21 4 6 <| l 22 21 <| o 23 (.arith .add .i64 (.t 22) (.c (.int .i64 1))) <| m 24 1 <| o 25 (.cmp .geq .i64 (.t 23) (.t 24)) <| m 26 25 <|
   .grd 26 false [i 27 (.fieldA 4 (.t 6)),
   i 28 (.load1 (.t 27)),
   i 29 (.arith .add .i64 (.t 28) (.c (.int .i64 1))),
   i 30 (.cmp .geq .i64 (.t 29) (.c (.int .i64 4294967296)))] <| o 31 (.pick (.t 26) (.c (.bool true)) (.t 30)) <| .nil)) (
   .cond (.t 31) (.seq (.ops (
   d 32 0 6 <| u (.store 1 (.t 32) (.c (.int .i64 4))) <| .nil)) (
   .seq (.ops (
   ln 33 6 6 <| o 34 (.call 382 [(.t 33)]) <| o 35 (.extract (.t 34) 0) <| o 36 (.extract (.t 34) 1) <| m 4 35 <| m 5 36 <| .nil)) (
   .ret))) (.skip))) (
   .seq (.ops (
   d 37 4 6 <| l 38 37 <| o 39 (.arith .add .i64 (.t 38) (.c (.int .i64 1))) <|
   o 40 (.build [(.int .i64 0), (.int .i64 0), (.bool false), (.int .i64 0), (.int .i64 0), (.int .i64 0)] [(0, 1, (.c (.int .i64 0))), (4, 1, (.t 39))]) <|
   o 41 (.call 382 [(.t 40)]) <| o 42 (.extract (.t 41) 0) <| o 43 (.extract (.t 41) 1) <| m 4 42 <| m 5 43 <| .nil)) (
   .ret)))))

def head_Freed_hs : List (List Nat × List Nat) := []

end Wm.F
end

section
/- PRINTED by my tool (wip/wm/tool/Gen.lean): a function as one of my machine. -/
namespace Wm.F
open Wm
set_option maxRecDepth 100000

/-- 556: withy/head.Made -/
def head_Made : AFunc where
  closed := true
  nparams := 4
  ntmps := 25
  results := [.tmp 8, .tmp 9]
  body := .seq (.ops (
   o 8 (.mov (.c (.int .u64 0))) <| o 9 (.mov (.c (.bool false))) <| .nil)) (
   .seq (.seq (.ops (
   m 10 0 <| o 11 (.cmp .neq .i64 (.t 10) (.c (.int .i64 1))) <| m 12 11 <| .grd 12 true [i 13 (.mov (.t 0)),
   i 14 (.cmp .neq .i64 (.t 13) (.c (.int .i64 2)))] <| o 15 (.pick (.t 12) (.t 14) (.c (.bool false))) <| .nil)) (
   .cond (.t 15) (.seq (.ops (
   o 8 (.mov (.c (.int .u64 0))) <| o 9 (.mov (.c (.bool false))) <| .nil)) (
   .ret)) (.skip))) (
   .seq (.ops (
   m 16 0 <| m 17 3 <| o 18 (.call 557 [(.t 17)]) <| m 19 1 <| m 20 2 <|
   o 21 (.build [(.int .i64 0), (.int .i64 0), (.bool false), (.int .i64 0), (.int .i64 0), (.int .i64 0)] [(0, 1, (.t 16)), (1, 1, (.t 18)), (3, 1, (.t 19)), (4, 1, (.t 20))]) <|
   o 22 (.call 382 [(.t 21)]) <| o 23 (.extract (.t 22) 0) <| o 24 (.extract (.t 22) 1) <| m 8 23 <| m 9 24 <| .nil)) (
   .ret)))

def head_Made_hs : List (List Nat × List Nat) := []

end Wm.F
end

section
/- PRINTED by my tool (wip/wm/tool/Gen.lean): a function as one of my machine. -/
namespace Wm.F
open Wm
set_option maxRecDepth 100000

/-- 317: withy/head.Marked -/
def head_Marked : AFunc where
  closed := true
  nparams := 2
  ntmps := 20
  results := [.tmp 4]
  body := .seq (.ops (
   o 4 (.mov (.c (.bool false))) <| .nil)) (
   .seq (.ops (
   m 8 0 <| o 9 (.call 380 [(.t 8)]) <| m 7 9 <| o 10 (.extract (.t 7) 0) <| o 11 (.extract (.t 7) 1) <|
   o 5 (.alloc [(.int .i64 0), (.int .i64 0), (.bool false), (.int .i64 0), (.int .i64 0), (.int .i64 0)]) <| u (.store 6 (.t 5) (.t 10)) <| m 6 11 <| .nil)) (
   .seq (.ops (
   m 12 6 <| m 13 12 <| .grd 13 true [i 14 (.fieldA 1 (.t 5)),
   i 15 (.load1 (.t 14)),
   i 16 (.mov (.t 1)),
   ⟨(some 17), .call 381 [(.t 16)], [{ g := (some (13, true)), op := .load1 (.t 14), d := 15 }]⟩,
   i 18 (.cmp .eql .i64 (.t 15) (.t 17))] <| o 19 (.pick (.t 13) (.t 18) (.c (.bool false))) <| m 4 19 <| .nil)) (
   .ret)))

def head_Marked_hs : List (List Nat × List Nat) := []

end Wm.F
end

section
/- PRINTED by my tool (wip/wm/tool/Gen.lean): a function as one of my machine. -/
namespace Wm.F
open Wm
set_option maxRecDepth 100000

/-- 340: withy/head.Retired -/
def head_Retired : AFunc where
  closed := true
  nparams := 2
  ntmps := 33
  results := [.tmp 4, .tmp 5]
  body := .seq (.ops (
   o 4 (.mov (.c (.int .u64 0))) <| o 5 (.mov (.c (.bool false))) <| .nil)) (
   .seq (.ops (
   m 9 0 <| o 10 (.call 380 [(.t 9)]) <| m 8 10 <| o 11 (.extract (.t 8) 0) <| o 12 (.extract (.t 8) 1) <|
   o 6 (.alloc [(.int .i64 0), (.int .i64 0), (.bool false), (.int .i64 0), (.int .i64 0), (.int .i64 0)]) <| u (.store 6 (.t 6) (.t 11)) <| m 7 12 <| .nil)) (
   .seq (.seq (.ops (
   m 13 7 <| o 14 (.not (.t 13)) <| m 15 14 <| .grd 15 false [i 16 (.fieldA 1 (.t 6)),
   i 17 (.load1 (.t 16)),
   i 18 (.mov (.t 1)),
   ⟨(some 19), .call 381 [(.t 18)], [{ g := (some (15, false)), op := .load1 (.t 16), d := 17 }]⟩,
   i 20 (.cmp .eql .i64 (.t 17) (.t 19))] <| o 21 (.pick (.t 15) (.c (.bool true)) (.t 20)) <| .nil)) (
   .cond (.t 21) (.seq (.ops (
   m 22 0 <| m 4 22 <| o 5 (.mov (.c (.bool false))) <| .nil)) (
   .ret)) (.skip))) (
   .seq (.ops (
   m 23 1 <| o 24 (.arith .and .u64 (.t 23) (.c (.int .u64 65535))) <| o 25 (.conv .i64 (.t 24)) <| d 26 0 6 <| u (.store 1 (.t 26) (.c (.int .i64 3))) <| d 27 2 6 <|
   u (.store 1 (.t 27) (.c (.bool false))) <| d 28 5 6 <| u (.store 1 (.t 28) (.t 25)) <| .nil)) (
   .seq (.ops (
   ln 29 6 6 <| o 30 (.call 382 [(.t 29)]) <| o 31 (.extract (.t 30) 0) <| o 32 (.extract (.t 30) 1) <| m 4 31 <| m 5 32 <| .nil)) (
   .ret)))))

def head_Retired_hs : List (List Nat × List Nat) := []

end Wm.F
end

section
/- PRINTED by my tool (wip/wm/tool/Gen.lean): a function as one of my machine. -/
namespace Wm.F
open Wm
set_option maxRecDepth 100000

/-- 319: withy/plan.Entry -/
def plan_Entry : AFunc where
  closed := true
  nparams := 3
  ntmps := 13
  results := [.tmp 6]
  body := .seq (.ops (
   o 3 (.box (.t 0)) <| o 6 (.mov (.c (.int .i64 0))) <| .nil)) (
   .seq (.ops (
   ln 7 6 3 <| m 8 1 <| d 9 3 3 <| l 10 9 <| m 11 2 <| o 12 (.call 397 [(.t 7), (.t 8), (.c (.int .i64 1)), (.t 10), (.t 11)]) <| m 6 12 <| .nil)) (
   .ret))

def plan_Entry_hs : List (List Nat × List Nat) := []

end Wm.F
end

section
/- PRINTED by my tool (wip/wm/tool/Gen.lean): a function as one of my machine. -/
namespace Wm.F
open Wm
set_option maxRecDepth 100000

/-- 293: withy/plan.Link -/
def plan_Link : AFunc where
  closed := true
  nparams := 2
  ntmps := 8
  results := [.tmp 4]
  body := .seq (.ops (
   o 2 (.box (.t 0)) <| o 4 (.mov (.c (.int .i64 0))) <| .nil)) (
   .seq (.ops (
   ln 5 6 2 <| m 6 1 <| o 7 (.call 375 [(.t 5), (.t 6), (.c (.int .i64 1))]) <| m 4 7 <| .nil)) (
   .ret))

def plan_Link_hs : List (List Nat × List Nat) := []

end Wm.F
end

section
/- PRINTED by my tool (wip/wm/tool/Gen.lean): a function as one of my machine. -/
namespace Wm.F
open Wm
set_option maxRecDepth 100000

/-- 416: withy/plan.Pin -/
def plan_Pin : AFunc where
  closed := true
  nparams := 2
  ntmps := 8
  results := [.tmp 4]
  body := .seq (.ops (
   o 2 (.box (.t 0)) <| o 4 (.mov (.c (.int .i64 0))) <| .nil)) (
   .seq (.ops (
   ln 5 6 2 <| m 6 1 <| o 7 (.call 397 [(.t 5), (.t 6), (.c (.int .i64 0)), (.c (.int .i64 1)), (.c (.int .i64 0))]) <| m 4 7 <| .nil)) (
   .ret))

def plan_Pin_hs : List (List Nat × List Nat) := []

end Wm.F
end

section
/- PRINTED by my tool (wip/wm/tool/Gen.lean): a function as one of my machine. -/
namespace Wm.F
open Wm
set_option maxRecDepth 100000

/-- 264: withy/plan.Size -/
def plan_Size : AFunc where
  closed := true
  nparams := 1
  ntmps := 14
  results := [.tmp 2]
  body := .seq (.ops (
   o 1 (.box (.t 0)) <| o 2 (.mov (.c (.int .i64 0))) <| .nil)) (
   .seq (.seq (.ops (
   ln 3 6 1 <| o 4 (.call 263 [(.t 3)]) <| o 5 (.not (.t 4)) <| .nil)) (
   .cond (.t 5) (.seq (.ops (
   o 2 (.mov (.c (.int .i64 0))) <| .nil)) (
   .ret)) (.skip))) (
   .seq (.ops (
   ln 6 6 1 <| d 8 0 1 <| l 9 8 <| ln 10 6 1 <| .op ⟨(some 7), .call 377 [(.t 6)], [{ g := none, op := .loadN 6 (.t 1), d := 10 }, { g := none, op := .load1 (.t 8), d := 9 }]⟩ <|
   .op ⟨(some 11), .call 378 [(.t 10)], [{ g := none, op := .load1 (.t 8), d := 9 }]⟩ <| o 12 (.arith .mul .i64 (.t 9) (.t 11)) <| o 13 (.arith .add .i64 (.t 7) (.t 12)) <|
   m 2 13 <| .nil)) (
   .ret)))

def plan_Size_hs : List (List Nat × List Nat) := []

end Wm.F
end

section
/- PRINTED by my tool (wip/wm/tool/Gen.lean): a function as one of my machine. -/
namespace Wm.F
open Wm
set_option maxRecDepth 100000

/-- 321: withy/plan.Start -/
def plan_Start : AFunc where
  closed := true
  nparams := 2
  ntmps := 11
  results := [.tmp 4]
  body := .seq (.ops (
   o 2 (.box (.t 0)) <| o 4 (.mov (.c (.int .i64 0))) <| .nil)) (
   .seq (.ops (
   ln 5 6 2 <| m 6 1 <| d 7 3 2 <| l 8 7 <| o 9 (.arith .add .i64 (.c (.int .i64 1)) (.t 8)) <|
   o 10 (.call 397 [(.t 5), (.t 6), (.t 9), (.c (.int .i64 2)), (.c (.int .i64 1))]) <| m 4 10 <| .nil)) (
   .ret))

def plan_Start_hs : List (List Nat × List Nat) := []

end Wm.F
end

section
/- PRINTED by my tool (wip/wm/tool/Gen.lean): a function as one of my machine. -/
namespace Wm.F
open Wm
set_option maxRecDepth 100000

/-- 393: withy/plan.View -/
def plan_View : AFunc where
  closed := true
  nparams := 2
  ntmps := 11
  results := [.tmp 4]
  body := .seq (.ops (
   o 2 (.box (.t 0)) <| o 4 (.mov (.c (.int .i64 0))) <| .nil)) (
   .seq (.ops (
   ln 5 6 2 <| m 6 1 <| d 7 3 2 <| l 8 7 <| o 9 (.arith .add .i64 (.c (.int .i64 1)) (.t 8)) <|
   o 10 (.call 397 [(.t 5), (.t 6), (.t 9), (.c (.int .i64 2)), (.c (.int .i64 0))]) <| m 4 10 <| .nil)) (
   .ret))

def plan_View_hs : List (List Nat × List Nat) := []

end Wm.F
end

section
/- PRINTED by my tool (wip/wm/tool/Gen.lean): a function as one of my machine. -/
namespace Wm.F
open Wm
set_option maxRecDepth 100000

/-- 397: withy/plan.place -/
def plan_place : AFunc where
  closed := true
  nparams := 5
  ntmps := 40
  results := [.tmp 10]
  body := .seq (.ops (
   o 5 (.box (.t 0)) <| o 10 (.mov (.c (.int .i64 0))) <| .nil)) (
   .seq (.seq (.ops (
   ln 11 6 5 <| o 12 (.call 263 [(.t 11)]) <| o 13 (.not (.t 12)) <| m 14 13 <| .grd 14 false [i 15 (.mov (.t 1)),
   i 16 (.fieldA 2 (.t 5)),
   i 17 (.load1 (.t 16)),
   i 18 (.arith .sub .i64 (.t 17) (.c (.int .i64 1))),
   i 19 (.call 376 [(.t 15), (.c (.int .i64 0)), (.t 18)]),
   i 20 (.not (.t 19))] <| o 21 (.pick (.t 14) (.c (.bool true)) (.t 20)) <| m 22 21 <| .grd 22 false [i 23 (.mov (.t 4)),
   i 24 (.mov (.t 3)),
   i 25 (.arith .sub .i64 (.t 24) (.c (.int .i64 1))),
   i 26 (.call 376 [(.t 23), (.c (.int .i64 0)), (.t 25)]),
   i 27 (.not (.t 26))] <| o 28 (.pick (.t 22) (.c (.bool true)) (.t 27)) <| .nil)) (
   .cond (.t 28) (.seq (.ops (
   o 10 (.mov (.c (.int .i64 (-1)))) <| .nil)) (
   .ret)) (.skip))) (
   .seq (.ops (
   m 29 2 <| d 30 2 5 <| l 31 30 <| o 32 (.arith .mul .i64 (.t 29) (.t 31)) <| o 33 (.arith .add .i64 (.c (.int .i64 4)) (.t 32)) <| m 34 1 <| m 35 3 <|
   o 36 (.arith .mul .i64 (.t 34) (.t 35)) <| o 37 (.arith .add .i64 (.t 33) (.t 36)) <| m 38 4 <| o 39 (.arith .add .i64 (.t 37) (.t 38)) <| m 10 39 <| .nil)) (
   .ret)))

def plan_place_hs : List (List Nat × List Nat) := []

end Wm.F
end

section
/- PRINTED by my tool (wip/wm/tool/Gen.lean): a function as one of my machine. -/
namespace Wm.F
open Wm
set_option maxRecDepth 100000

def root_NewTable_c1 : ACode :=
  .seq (.ops (
   o 23 (.cmp .lss .i64 (.t 22) (.t 21)) <| .nil)) (
  .seq (.cond (.t 23) (.skip) (.exit 0)) (
  .seq (.block 1 (.ops (
   m 24 7 <| m 25 7 <| n 26 25 <| d 27 7 26 <| l 28 27 <| m 29 2 <| o 30 (.build [(.int .u64 0), (.int .i64 0)] [(0, 1, (.t 29)), (1, 1, (.c (.int .i64 (-1))))]) <|
   o 31 (.buildSl 2 1 [(.int .u64 0), (.int .i64 0)] [(0, 2, (.t 30))]) <| o 32 (.append 2 16 (.t 28) (.t 31)) <| n 33 24 <| d 34 7 33 <| u (.store 1 (.t 34) (.t 32)) <| .nil))) (
  .ops (
   o 35 (.arith .add .i64 (.t 22) (.c (.int .i64 1))) <| m 22 35 <| .nil))))

def root_NewTable_c0 : ACode :=
  .seq (.ops (
   m 36 7 <| m 6 36 <| .nil)) (
  .ret)

/-- 354: withy/root.NewTable -/
def root_NewTable : AFunc where
  closed := false
  nparams := 3
  ntmps := 37
  results := [.tmp 6]
  body := .seq (.ops (
   o 3 (.box (.t 0)) <| o 6 (.mov (.c .nilp)) <| .nil)) (
   .seq (.seq (.ops (
   ln 8 6 3 <| m 9 1 <| o 10 (.call 416 [(.t 8), (.t 9)]) <| o 11 (.cmp .lss .i64 (.t 10) (.c (.int .i64 0))) <| m 12 11 <| .grd 12 false [i 13 (.mov (.t 2)),
   i 14 (.cmp .gtr .u64 (.t 13) (.c (.int .u64 4294967295)))] <| o 15 (.pick (.t 12) (.c (.bool true)) (.t 14)) <| .nil)) (
   .cond (.t 15) (.seq (.ops (
   o 6 (.mov (.c .nilp)) <| .nil)) (
   .ret)) (.skip))) (
   .seq (.ops (
   ln 16 6 3 <| m 17 1 <|
   o 18 (.build [(.int .i64 0), (.int .i64 0), (.int .i64 0), (.int .i64 0), (.int .i64 0), (.int .i64 0), (.int .i64 0), .nilsl] [(0, 6, (.t 16)), (6, 1, (.t 17))]) <|
   o 19 (.box (.t 18)) <| m 7 19 <| .nil)) (
   .seq (.seq (.ops (
   d 20 3 3 <| l 21 20 <| o 22 (.mov (.c (.int .i64 0))) <| .nil)) (
   .block 0 (.loop [2, 7, 21, 22] [7] (root_NewTable_c1)))) (
   root_NewTable_c0))))

def root_NewTable_hs : List (List Nat × List Nat) := [([2, 7, 21, 22], [7])]

end Wm.F
end

section
/- PRINTED by my tool (wip/wm/tool/Gen.lean): a function as one of my machine. -/
namespace Wm.F
open Wm
set_option maxRecDepth 100000

def shade_Grays_c1 : ACode :=
  .seq (.ops (
   o 22 (.cmp .lss .i64 (.t 21) (.t 20)) <| .nil)) (
  .seq (.cond (.t 22) (.skip) (.exit 0)) (
  .seq (.block 1 (.seq (.ops (
   m 23 21 <| m 6 23 <| .nil)) (
  .seq (.ops (
   m 25 1 <| ln 26 6 2 <| m 27 6 <| o 28 (.call 261 [(.t 26), (.t 27)]) <| o 29 (.indexA 1 (.t 25) (.t 28)) <| l 30 29 <| o 31 (.call 265 [(.t 30)]) <| m 24 31 <|
   o 32 (.extract (.t 24) 0) <| o 33 (.extract (.t 24) 1) <| o 7 (.alloc [(.int .i64 0), (.int .i64 0), (.bool false), (.int .i64 0), (.int .i64 0), (.int .i64 0)]) <|
   u (.store 6 (.t 7) (.t 32)) <| m 8 33 <| .nil)) (
  .seq (.ops (
   m 34 8 <| m 35 34 <| .grd 35 true [i 36 (.fieldA 2 (.t 7)),
   i 37 (.load1 (.t 36))] <| o 38 (.pick (.t 35) (.t 37) (.c (.bool false))) <| .nil)) (
  .cond (.t 38) (.ops (
   m 39 5 <| o 40 (.arith .add .i64 (.t 39) (.c (.int .i64 1))) <| m 5 40 <| .nil)) (.skip)))))) (
  .ops (
   o 41 (.arith .add .i64 (.t 21) (.c (.int .i64 1))) <| m 21 41 <| .nil))))

def shade_Grays_c0 : ACode :=
  .seq (.ops (
   m 42 5 <| m 4 42 <| .nil)) (
  .ret)

/-- 89: withy/shade.Grays -/
def shade_Grays : AFunc where
  closed := false
  nparams := 2
  ntmps := 43
  results := [.tmp 4]
  body := .seq (.ops (
   o 2 (.box (.t 0)) <| o 4 (.mov (.c (.int .i64 0))) <| .nil)) (
   .seq (.seq (.ops (
   ln 9 6 2 <| o 10 (.call 263 [(.t 9)]) <| o 11 (.not (.t 10)) <| m 12 11 <| .grd 12 false [i 13 (.mov (.t 1)),
   i 14 (.lenSl (.t 13)),
   i 15 (.loadN 6 (.t 2)),
   i 16 (.call 264 [(.t 15)]),
   i 17 (.cmp .neq .i64 (.t 14) (.t 16))] <| o 18 (.pick (.t 12) (.c (.bool true)) (.t 17)) <| .nil)) (
   .cond (.t 18) (.seq (.ops (
   o 4 (.mov (.c (.int .i64 0))) <| .nil)) (
   .ret)) (.skip))) (
   .seq (.ops (
   o 5 (.mov (.c (.int .i64 0))) <| .nil)) (
   .seq (.seq (.ops (
   d 19 0 2 <| l 20 19 <| o 21 (.mov (.c (.int .i64 0))) <| .nil)) (
   .block 0 (.loop [1, 2, 5, 20, 21] [5] (shade_Grays_c1)))) (
   shade_Grays_c0))))

def shade_Grays_hs : List (List Nat × List Nat) := [([1, 2, 5, 20, 21], [5])]

end Wm.F
end

section
/- PRINTED by my tool (wip/wm/tool/Gen.lean): a function as one of my machine. -/
namespace Wm.F
open Wm
set_option maxRecDepth 100000

/-- 557: withy/turn.Born -/
def turn_Born : AFunc where
  closed := true
  nparams := 1
  ntmps := 11
  results := [.tmp 2]
  body := .seq (.ops (
   o 2 (.mov (.c (.int .i64 0))) <| .nil)) (
   .seq (.seq (.ops (
   m 3 0 <| o 4 (.arith .rem .u64 (.t 3) (.c (.int .u64 4))) <| o 5 (.cmp .eql .u64 (.t 4) (.c (.int .u64 0))) <| .nil)) (
   .cond (.t 5) (.seq (.ops (
   m 6 0 <| o 7 (.call 381 [(.t 6)]) <| o 8 (.arith .sub .i64 (.c (.int .i64 1)) (.t 7)) <| m 2 8 <| .nil)) (
   .ret)) (.skip))) (
   .seq (.ops (
   m 9 0 <| o 10 (.call 381 [(.t 9)]) <| m 2 10 <| .nil)) (
   .ret)))

def turn_Born_hs : List (List Nat × List Nat) := []

end Wm.F
end

section
/- PRINTED by my tool (wip/wm/tool/Gen.lean): a function as one of my machine. -/
namespace Wm.F
open Wm
set_option maxRecDepth 100000

def withylaw09_ShadeAlone_c1 : ACode :=
  .seq (.seq (.ops (
   m 73 16 <| o 74 (.cmp .lss .i64 (.t 73) (.c (.int .i64 9))) <| m 75 74 <| .grd 75 true [i 76 (.mov (.t 12)),
   i 77 (.mov (.t 11)),
   i 78 (.call 91 [(.t 76), (.t 77)]),
   i 79 (.not (.t 78))] <| o 80 (.pick (.t 75) (.t 79) (.c (.bool false))) <| .nil)) (
  .cond (.t 80) (.skip) (.exit 0))) (
  .block 1 (.ops (
   m 81 16 <| o 82 (.arith .add .i64 (.t 81) (.c (.int .i64 1))) <| m 16 82 <| .nil)))

def withylaw09_ShadeAlone_c0 : ACode :=
  .seq (.ops (
   m 83 11 <| o 84 (.call 107 [(.t 83)]) <| m 17 84 <| .nil)) (
  .seq (.seq (.ops (
   m 85 12 <| m 86 11 <| o 87 (.call 91 [(.t 85), (.t 86)]) <| o 88 (.not (.t 87)) <| m 89 88 <| .grd 89 false [i 90 (.mov (.t 11)),
   i 91 (.call 107 [(.t 90)]),
   i 92 (.mov (.t 17)),
   i 93 (.cmp .neq .i64 (.t 91) (.t 92))] <| o 94 (.pick (.t 89) (.c (.bool true)) (.t 93)) <| .nil)) (
  .cond (.t 94) (.seq (.ops (
   o 8 (.mov (.c (.bool false))) <| .nil)) (
   .ret)) (.skip))) (
  .seq (.ops (
   m 95 11 <| o 96 (.call 94 [(.t 95)]) <| m 18 96 <| .nil)) (
  .seq (.seq (.ops (
   m 97 15 <| o 98 (.not (.t 97)) <| .nil)) (
  .cond (.t 98) (.seq (.ops (
   m 99 16 <| o 100 (.cmp .eql .i64 (.t 99) (.c (.int .i64 0))) <| m 101 100 <| .grd 101 true [i 102 (.mov (.t 12)),
   i 103 (.nilc (.t 102)),
   i 104 (.fieldA 0 (.t 103)),
   i 105 (.load1 (.t 104)),
   i 106 (.not (.t 105))] <| o 107 (.pick (.t 101) (.t 106) (.c (.bool false))) <| m 108 107 <| .grd 108 true [i 109 (.mov (.t 18)),
   i 110 (.mov (.t 14)),
   i 111 (.call 95 [(.t 109), (.t 110)])] <| o 112 (.pick (.t 108) (.t 111) (.c (.bool false))) <| m 113 112 <| .grd 113 true [i 114 (.mov (.t 17)),
   i 115 (.cmp .eql .i64 (.t 114) (.c (.int .i64 1)))] <| o 116 (.pick (.t 113) (.t 115) (.c (.bool false))) <| m 8 116 <| .nil)) (
   .ret)) (.skip))) (
  .seq (.ops (
   m 117 16 <| o 118 (.cmp .eql .i64 (.t 117) (.c (.int .i64 2))) <| m 119 118 <| .grd 119 true [i 120 (.mov (.t 12)),
   i 121 (.nilc (.t 120)),
   i 122 (.fieldA 0 (.t 121)),
   i 123 (.load1 (.t 122))] <| o 124 (.pick (.t 119) (.t 123) (.c (.bool false))) <| m 125 124 <| .grd 125 true [i 126 (.mov (.t 18)),
   i 127 (.mov (.t 13)),
   i 128 (.indexA 1 (.t 126) (.t 127)),
   i 129 (.load1 (.t 128)),
   i 130 (.mov (.t 3)),
   i 131 (.call 113 [(.t 129), (.t 130)])] <| o 132 (.pick (.t 125) (.t 131) (.c (.bool false))) <| m 133 132 <| .grd 133 true [i 134 (.mov (.t 17)),
   i 135 (.cmp .eql .i64 (.t 134) (.c (.int .i64 3)))] <| o 136 (.pick (.t 133) (.t 135) (.c (.bool false))) <| m 8 136 <| .nil)) (
  .ret)))))

/-- 16: withy/withylaw09.ShadeAlone -/
def withylaw09_ShadeAlone : AFunc where
  closed := true
  nparams := 4
  ntmps := 137
  results := [.tmp 8]
  body := .seq (.ops (
   o 4 (.box (.t 0)) <| o 5 (.box (.t 1)) <| o 8 (.mov (.c (.bool false))) <| .nil)) (
   .seq (.ops (
   ln 19 6 4 <| o 20 (.call 92 [(.t 19)]) <| u (.store 6 (.t 4) (.t 20)) <| .nil)) (
   .seq (.ops (
   m 21 2 <| o 22 (.conv .u64 (.t 21)) <| d 23 0 4 <| l 24 23 <| o 25 (.conv .u64 (.t 24)) <| o 26 (.arith .rem .u64 (.t 22) (.t 25)) <| o 27 (.conv .i64 (.t 26)) <| m 9 27 <|
   .nil)) (
   .seq (.ops (
   d 28 0 4 <| l 29 28 <| o 30 (.mkSl 6 48 [(.int .i64 0), (.int .i64 0), (.bool false), (.int .i64 0), (.int .i64 0), (.int .i64 0)] (.t 29) (.t 29)) <| m 10 30 <| .nil)) (
   .seq (.ops (
   m 31 10 <| m 32 9 <| ln 33 6 5 <| o 34 (.indexA 6 (.t 31) (.t 32)) <| u (.store 6 (.t 34) (.t 33)) <| .nil)) (
   .seq (.ops (
   ln 35 6 4 <| m 36 10 <| m 37 3 <| o 38 (.call 93 [(.t 35), (.t 36), (.t 37)]) <| m 11 38 <| .nil)) (
   .seq (.ops (
   ln 39 6 4 <| m 40 9 <| m 41 3 <| o 42 (.call 90 [(.t 39), (.t 40), (.t 41)]) <| m 12 42 <| .nil)) (
   .seq (.seq (.ops (
   m 43 11 <| o 44 (.eq false .ptr (.t 43) (.c .nilp)) <| m 45 44 <| .grd 45 false [i 46 (.mov (.t 12)),
   i 47 (.eq false .ptr (.t 46) (.c .nilp))] <| o 48 (.pick (.t 45) (.c (.bool true)) (.t 47)) <| m 49 48 <| .grd 49 false [i 50 (.call 84 []),
   i 51 (.not (.t 50))] <| o 52 (.pick (.t 49) (.c (.bool true)) (.t 51)) <| .nil)) (
   .cond (.t 52) (.seq (.ops (
   o 8 (.mov (.c (.bool false))) <| .nil)) (
   .ret)) (.skip))) (
   .seq (.ops (
   ln 53 6 4 <| m 54 9 <| .op ⟨(some 55), .build [(.str ⟨⟨[]⟩⟩), (.int .i64 0), (.int .i64 0)] [(0, 1, (.c (.str ⟨⟨[104, 101, 97, 100, 101, 114]⟩⟩))), (1, 1, (.t 54))], []⟩ <|
   o 56 (.call 108 [(.t 53), (.t 55)]) <| m 13 56 <| .nil)) (
   .seq (.ops (
   m 57 11 <| o 58 (.call 94 [(.t 57)]) <| m 14 58 <| .nil)) (
   .seq (.ops (
   m 59 14 <| m 60 13 <| o 61 (.indexA 1 (.t 59) (.t 60)) <| l 62 61 <| o 63 (.call 112 [(.t 62)]) <| m 64 63 <| .grd 64 true [i 65 (.mov (.t 14)),
   i 66 (.mov (.t 13)),
   i 67 (.indexA 1 (.t 65) (.t 66)),
   i 68 (.load1 (.t 67)),
   i 69 (.mov (.t 3)),
   i 70 (.call 113 [(.t 68), (.t 69)]),
   i 71 (.not (.t 70))] <| o 72 (.pick (.t 64) (.t 71) (.c (.bool false))) <| m 15 72 <| .nil)) (
   .seq (.ops (
   o 16 (.mov (.c (.int .i64 0))) <| .nil)) (
   .seq (.block 0 (.loop [3, 11, 12, 13, 14, 15, 16] [3, 11, 12, 13, 14, 15, 16] (withylaw09_ShadeAlone_c1))) (
   withylaw09_ShadeAlone_c0)))))))))))))

def withylaw09_ShadeAlone_hs : List (List Nat × List Nat) := [([3, 11, 12, 13, 14, 15, 16], [3, 11, 12, 13, 14, 15, 16])]

end Wm.F
end

section
/- PRINTED by my tool (wip/wm/tool/Gen.lean): a function as one of my machine. -/
namespace Wm.F
open Wm
set_option maxRecDepth 100000

def withylaw09_ShadeTwice_c1 : ACode :=
  .seq (.seq (.ops (
   m 58 14 <| o 59 (.cmp .lss .i64 (.t 58) (.c (.int .i64 9))) <| m 60 59 <| .grd 60 true [i 61 (.mov (.t 12)),
   i 62 (.mov (.t 11)),
   i 63 (.call 91 [(.t 61), (.t 62)]),
   i 64 (.not (.t 63))] <| o 65 (.pick (.t 60) (.t 64) (.c (.bool false))) <| .nil)) (
  .cond (.t 65) (.skip) (.exit 0))) (
  .seq (.block 1 (.skip)) (
  .ops (
   m 66 14 <| o 67 (.arith .add .i64 (.t 66) (.c (.int .i64 1))) <| m 14 67 <| .nil)))

def withylaw09_ShadeTwice_c0 : ACode :=
  .seq (.ops (
   m 68 11 <| o 69 (.call 94 [(.t 68)]) <| m 15 69 <| .nil)) (
  .seq (.ops (
   m 70 13 <| m 71 11 <| o 72 (.call 91 [(.t 70), (.t 71)]) <| m 73 72 <| .grd 73 true [i 74 (.mov (.t 13)),
   i 75 (.nilc (.t 74)),
   i 76 (.fieldA 0 (.t 75)),
   i 77 (.load1 (.t 76)),
   i 78 (.not (.t 77))] <| o 79 (.pick (.t 73) (.t 78) (.c (.bool false))) <| m 80 79 <| .grd 80 true [i 81 (.mov (.t 11)),
   i 82 (.call 94 [(.t 81)]),
   i 83 (.mov (.t 15)),
   i 84 (.call 95 [(.t 82), (.t 83)])] <| o 85 (.pick (.t 80) (.t 84) (.c (.bool false))) <| m 8 85 <| .nil)) (
  .ret))

/-- 10: withy/withylaw09.ShadeTwice -/
def withylaw09_ShadeTwice : AFunc where
  closed := true
  nparams := 4
  ntmps := 86
  results := [.tmp 8]
  body := .seq (.ops (
   o 4 (.box (.t 0)) <| o 5 (.box (.t 1)) <| o 8 (.mov (.c (.bool false))) <| .nil)) (
   .seq (.ops (
   ln 16 6 4 <| o 17 (.call 92 [(.t 16)]) <| u (.store 6 (.t 4) (.t 17)) <| .nil)) (
   .seq (.ops (
   m 18 2 <| o 19 (.conv .u64 (.t 18)) <| d 20 0 4 <| l 21 20 <| o 22 (.conv .u64 (.t 21)) <| o 23 (.arith .rem .u64 (.t 19) (.t 22)) <| o 24 (.conv .i64 (.t 23)) <| m 9 24 <|
   .nil)) (
   .seq (.ops (
   d 25 0 4 <| l 26 25 <| o 27 (.mkSl 6 48 [(.int .i64 0), (.int .i64 0), (.bool false), (.int .i64 0), (.int .i64 0), (.int .i64 0)] (.t 26) (.t 26)) <| m 10 27 <| .nil)) (
   .seq (.ops (
   m 28 10 <| m 29 9 <| ln 30 6 5 <| o 31 (.indexA 6 (.t 28) (.t 29)) <| u (.store 6 (.t 31) (.t 30)) <| .nil)) (
   .seq (.ops (
   ln 32 6 4 <| m 33 10 <| m 34 3 <| o 35 (.call 93 [(.t 32), (.t 33), (.t 34)]) <| m 11 35 <| .nil)) (
   .seq (.ops (
   ln 36 6 4 <| m 37 9 <| m 38 3 <| ln 40 6 4 <| m 41 9 <| m 42 3 <| .op ⟨(some 39), .call 90 [(.t 36), (.t 37), (.t 38)], [{ g := none, op := .loadN 6 (.t 4), d := 40 }]⟩ <|
   o 43 (.call 90 [(.t 40), (.t 41), (.t 42)]) <| m 12 39 <| m 13 43 <| .nil)) (
   .seq (.seq (.ops (
   m 44 11 <| o 45 (.eq false .ptr (.t 44) (.c .nilp)) <| m 46 45 <| .grd 46 false [i 47 (.mov (.t 12)),
   i 48 (.eq false .ptr (.t 47) (.c .nilp))] <| o 49 (.pick (.t 46) (.c (.bool true)) (.t 48)) <| m 50 49 <| .grd 50 false [i 51 (.mov (.t 13)),
   i 52 (.eq false .ptr (.t 51) (.c .nilp))] <| o 53 (.pick (.t 50) (.c (.bool true)) (.t 52)) <| m 54 53 <| .grd 54 false [i 55 (.call 84 []),
   i 56 (.not (.t 55))] <| o 57 (.pick (.t 54) (.c (.bool true)) (.t 56)) <| .nil)) (
   .cond (.t 57) (.seq (.ops (
   o 8 (.mov (.c (.bool false))) <| .nil)) (
   .ret)) (.skip))) (
   .seq (.seq (.ops (
   o 14 (.mov (.c (.int .i64 0))) <| .nil)) (
   .block 0 (.loop [11, 12, 13, 14] [11, 13] (withylaw09_ShadeTwice_c1)))) (
   withylaw09_ShadeTwice_c0)))))))))

def withylaw09_ShadeTwice_hs : List (List Nat × List Nat) := [([11, 12, 13, 14], [11, 13])]

end Wm.F
end

section
/- PRINTED by my tool (wip/wm/tool/Gen.lean): a function as one of my machine. -/
namespace Wm.F
open Wm
set_option maxRecDepth 100000

/-- 84: withy/withylaw09.awake -/
def withylaw09_awake : AFunc where
  closed := true
  nparams := 0
  ntmps := 102
  results := [.tmp 0]
  body := .seq (.ops (
   o 0 (.mov (.c (.bool false))) <| .nil)) (
   .seq (.ops (
   o 5 (.build [(.int .i64 0), (.int .i64 0), (.int .i64 0), (.int .i64 0), (.int .i64 0), (.int .i64 0)] [(0, 1, (.c (.int .i64 1))), (2, 1, (.c (.int .i64 1))), (3, 1, (.c (.int .i64 1))), (4, 1, (.c (.int .i64 1)))]) <| o 1 (.alloc [(.int .i64 0), (.int .i64 0), (.int .i64 0), (.int .i64 0), (.int .i64 0), (.int .i64 0)]) <| u (.store 6 (.t 1) (.t 5)) <| .nil)) (
   .seq (.ops (
   ln 6 6 1 <| o 7 (.call 213 [(.t 6)]) <| m 2 7 <| .nil)) (
   .seq (.seq (.ops (
   m 8 2 <| o 9 (.eq false .ptr (.t 8) (.c .nilp)) <| m 10 9 <| .grd 10 false [i 11 (.mov (.t 2)),
   i 12 (.loadN 6 (.t 1)),
   i 13 (.call 261 [(.t 12), (.c (.int .i64 0))]),
   i 14 (.call 262 []),
   i 15 (.call 203 [(.t 11), (.t 13), (.t 14)]),
   i 16 (.not (.t 15))] <| o 17 (.pick (.t 10) (.c (.bool true)) (.t 16)) <| .nil)) (
   .cond (.t 17) (.seq (.ops (
   o 0 (.mov (.c (.bool false))) <| .nil)) (
   .ret)) (.skip))) (
   .seq (.ops (
   ln 18 6 1 <| ln 20 6 1 <| .op ⟨(some 19), .call 90 [(.t 18), (.c (.int .i64 0)), (.c (.int .u64 2))], [{ g := none, op := .loadN 6 (.t 1), d := 20 }]⟩ <|
   o 21 (.call 90 [(.t 20), (.c (.int .i64 0)), (.c (.int .u64 2))]) <| m 3 19 <| m 4 21 <| .nil)) (
   .seq (.seq (.ops (
   m 22 3 <| o 23 (.eq false .ptr (.t 22) (.c .nilp)) <| m 24 23 <| .grd 24 false [i 25 (.mov (.t 4)),
   i 26 (.eq false .ptr (.t 25) (.c .nilp))] <| o 27 (.pick (.t 24) (.c (.bool true)) (.t 26)) <| m 28 27 <| .grd 28 false [i 29 (.mov (.t 3)),
   i 30 (.mov (.t 2)),
   i 31 (.call 91 [(.t 29), (.t 30)])] <| o 32 (.pick (.t 28) (.c (.bool true)) (.t 31)) <| m 33 32 <| .grd 33 false [i 34 (.mov (.t 4)),
   i 35 (.mov (.t 2)),
   i 36 (.call 91 [(.t 34), (.t 35)])] <| o 37 (.pick (.t 33) (.c (.bool true)) (.t 36)) <| m 38 37 <| .grd 38 false [i 39 (.mov (.t 3)),
   i 40 (.mov (.t 2)),
   i 41 (.call 91 [(.t 39), (.t 40)])] <| o 42 (.pick (.t 38) (.c (.bool true)) (.t 41)) <| m 43 42 <| .grd 43 false [i 44 (.mov (.t 4)),
   i 45 (.mov (.t 2)),
   i 46 (.call 91 [(.t 44), (.t 45)])] <| o 47 (.pick (.t 43) (.c (.bool true)) (.t 46)) <| m 48 47 <| .grd 48 false [i 49 (.mov (.t 2)),
   i 50 (.call 94 [(.t 49)]),
   i 51 (.indexA 1 (.t 50) (.c (.int .i64 2))),
   i 52 (.load1 (.t 51)),
   i 53 (.cmp .neq .u64 (.t 52) (.c (.int .u64 2)))] <| o 54 (.pick (.t 48) (.c (.bool true)) (.t 53)) <| .nil)) (
   .cond (.t 54) (.seq (.ops (
   o 0 (.mov (.c (.bool false))) <| .nil)) (
   .ret)) (.skip))) (
   .seq (.ops (
   m 55 3 <| m 56 2 <| o 57 (.call 91 [(.t 55), (.t 56)]) <| m 58 57 <| .grd 58 true [i 59 (.mov (.t 4)),
   i 60 (.mov (.t 2)),
   i 61 (.call 91 [(.t 59), (.t 60)]),
   i 62 (.not (.t 61))] <| o 63 (.pick (.t 58) (.t 62) (.c (.bool false))) <| m 64 63 <| .grd 64 true [i 65 (.mov (.t 4)),
   i 66 (.mov (.t 2)),
   i 67 (.call 91 [(.t 65), (.t 66)]),
   i 68 (.not (.t 67))] <| o 69 (.pick (.t 64) (.t 68) (.c (.bool false))) <| m 70 69 <| .grd 70 true [i 71 (.mov (.t 4)),
   i 72 (.mov (.t 2)),
   i 73 (.call 91 [(.t 71), (.t 72)])] <| o 74 (.pick (.t 70) (.t 73) (.c (.bool false))) <| m 75 74 <| .grd 75 true [i 76 (.mov (.t 2)),
   i 77 (.call 94 [(.t 76)]),
   i 78 (.indexA 1 (.t 77) (.c (.int .i64 2))),
   i 79 (.load1 (.t 78)),
   i 80 (.cmp .eql .u64 (.t 79) (.c (.int .u64 1)))] <| o 81 (.pick (.t 75) (.t 80) (.c (.bool false))) <| m 82 81 <| .grd 82 true [i 83 (.mov (.t 3)),
   i 84 (.nilc (.t 83)),
   i 85 (.fieldA 0 (.t 84)),
   i 86 (.load1 (.t 85))] <| o 87 (.pick (.t 82) (.t 86) (.c (.bool false))) <| m 88 87 <| .grd 88 true [i 89 (.mov (.t 4)),
   i 90 (.nilc (.t 89)),
   i 91 (.fieldA 0 (.t 90)),
   i 92 (.load1 (.t 91)),
   i 93 (.not (.t 92))] <| o 94 (.pick (.t 88) (.t 93) (.c (.bool false))) <| m 95 94 <| .grd 95 true [i 96 (.loadN 6 (.t 1)),
   i 97 (.mov (.t 2)),
   ⟨(some 98), .call 94 [(.t 97)], [{ g := (some (95, true)), op := .loadN 6 (.t 1), d := 96 }]⟩,
   i 99 (.call 89 [(.t 96), (.t 98)]),
   i 100 (.cmp .eql .i64 (.t 99) (.c (.int .i64 1)))] <| o 101 (.pick (.t 95) (.t 100) (.c (.bool false))) <| m 0 101 <| .nil)) (
   .ret)))))))

def withylaw09_awake_hs : List (List Nat × List Nat) := []

end Wm.F
end

section
/- PRINTED by my tool (wip/wm/tool/Gen.lean): a function as one of my machine. -/
namespace Wm.F
open Wm
set_option maxRecDepth 100000

def withylaw09_filled_c1 : ACode :=
  .seq (.seq (.ops (
   m 12 8 <| d 13 0 3 <| l 14 13 <| o 15 (.cmp .lss .i64 (.t 12) (.t 14)) <| m 16 15 <| .grd 16 true [i 17 (.mov (.t 8)),
   i 18 (.mov (.t 1)),
   i 19 (.lenSl (.t 18)),
   i 20 (.cmp .lss .i64 (.t 17) (.t 19))] <| o 21 (.pick (.t 16) (.t 20) (.c (.bool false))) <| .nil)) (
  .cond (.t 21) (.skip) (.exit 0))) (
  .seq (.block 1 (.seq (.ops (
   m 24 1 <| m 25 8 <| o 26 (.indexA 6 (.t 24) (.t 25)) <| ln 27 6 26 <| o 9 (.alloc [(.int .i64 0), (.int .i64 0), (.bool false), (.int .i64 0), (.int .i64 0), (.int .i64 0)]) <|
   u (.store 6 (.t 9) (.t 27)) <| .nil)) (
  .seq (.ops (
   d 28 2 9 <| l 29 28 <| m 30 29 <| .grd 30 true [i 31 (.fieldA 1 (.t 9)),
   i 32 (.load1 (.t 31)),
   i 33 (.mov (.t 2)),
   ⟨(some 34), .call 110 [(.t 33)], [{ g := (some (30, true)), op := .load1 (.t 31), d := 32 }]⟩,
   i 35 (.cmp .eql .i64 (.t 32) (.t 34))] <| o 36 (.pick (.t 30) (.t 35) (.c (.bool false))) <| d 37 2 9 <| u (.store 1 (.t 37) (.t 36)) <| .nil)) (
  .seq (.ops (
   ln 38 6 9 <| o 39 (.call 202 [(.t 38)]) <| .nil)) (
  .cond (.t 39) (.ops (
   m 40 7 <| ln 41 6 3 <| m 42 8 <|
   .op ⟨(some 43), .build [(.str ⟨⟨[]⟩⟩), (.int .i64 0), (.int .i64 0)] [(0, 1, (.c (.str ⟨⟨[104, 101, 97, 100, 101, 114]⟩⟩))), (1, 1, (.t 42))], []⟩ <| ln 45 6 9 <|
   .op ⟨(some 44), .call 108 [(.t 41), (.t 43)], [{ g := none, op := .loadN 6 (.t 9), d := 45 }]⟩ <| o 46 (.call 111 [(.t 45)]) <| o 47 (.indexA 1 (.t 40) (.t 44)) <|
   u (.store 1 (.t 47) (.t 46)) <| .nil)) (.skip)))))) (
  .ops (
   m 22 8 <| o 23 (.arith .add .i64 (.t 22) (.c (.int .i64 1))) <| m 8 23 <| .nil)))

def withylaw09_filled_c0 : ACode :=
  .seq (.ops (
   m 48 7 <| ln 49 6 3 <| m 50 7 <| o 51 (.call 88 [(.t 49), (.t 50)]) <| o 52 (.conv .u64 (.t 51)) <| o 53 (.indexA 1 (.t 48) (.c (.int .i64 2))) <|
   u (.store 1 (.t 53) (.t 52)) <| .nil)) (
  .seq (.ops (
   m 54 7 <| o 55 (.call 198 [(.t 54)]) <| m 6 55 <| .nil)) (
  .ret))

/-- 93: withy/withylaw09.filled -/
def withylaw09_filled : AFunc where
  closed := false
  nparams := 3
  ntmps := 56
  results := [.tmp 6]
  body := .seq (.ops (
   o 3 (.box (.t 0)) <| o 6 (.mov (.c .nilp)) <| .nil)) (
   .seq (.ops (
   ln 10 6 3 <| o 11 (.call 86 [(.t 10)]) <| m 7 11 <| .nil)) (
   .seq (.seq (.ops (
   o 8 (.mov (.c (.int .i64 0))) <| .nil)) (
   .block 0 (.loop [1, 2, 3, 7, 8] [3, 7] (withylaw09_filled_c1)))) (
   withylaw09_filled_c0)))

def withylaw09_filled_hs : List (List Nat × List Nat) := [([1, 2, 3, 7, 8], [3, 7])]

end Wm.F
end

section
/- PRINTED by my tool (wip/wm/tool/Gen.lean): a function as one of my machine. -/
namespace Wm.F
open Wm
set_option maxRecDepth 100000

def withylaw09_grays_c1 : ACode :=
  .seq (.seq (.ops (
   m 9 6 <| d 10 0 2 <| l 11 10 <| o 12 (.cmp .lss .i64 (.t 9) (.t 11)) <| .nil)) (
  .cond (.t 12) (.skip) (.exit 0))) (
  .seq (.block 1 (.seq (.ops (
   m 16 1 <| ln 17 6 2 <| m 18 6 <|
   .op ⟨(some 19), .build [(.str ⟨⟨[]⟩⟩), (.int .i64 0), (.int .i64 0)] [(0, 1, (.c (.str ⟨⟨[104, 101, 97, 100, 101, 114]⟩⟩))), (1, 1, (.t 18))], []⟩ <|
   o 20 (.call 108 [(.t 17), (.t 19)]) <| o 21 (.indexA 1 (.t 16) (.t 20)) <| l 22 21 <| o 23 (.call 109 [(.t 22)]) <| m 15 23 <| o 24 (.extract (.t 15) 0) <|
   o 25 (.extract (.t 15) 1) <| o 7 (.alloc [(.int .i64 0), (.int .i64 0), (.bool false), (.int .i64 0), (.int .i64 0), (.int .i64 0)]) <| u (.store 6 (.t 7) (.t 24)) <| m 8 25 <|
   .nil)) (
  .seq (.ops (
   m 26 8 <| m 27 26 <| .grd 27 true [i 28 (.fieldA 2 (.t 7)),
   i 29 (.load1 (.t 28))] <| o 30 (.pick (.t 27) (.t 29) (.c (.bool false))) <| .nil)) (
  .cond (.t 30) (.ops (
   m 31 5 <| o 32 (.arith .add .i64 (.t 31) (.c (.int .i64 1))) <| m 5 32 <| .nil)) (.skip))))) (
  .ops (
   m 13 6 <| o 14 (.arith .add .i64 (.t 13) (.c (.int .i64 1))) <| m 6 14 <| .nil)))

def withylaw09_grays_c0 : ACode :=
  .seq (.ops (
   m 33 5 <| m 4 33 <| .nil)) (
  .ret)

/-- 88: withy/withylaw09.grays -/
def withylaw09_grays : AFunc where
  closed := false
  nparams := 2
  ntmps := 34
  results := [.tmp 4]
  body := .seq (.ops (
   o 2 (.box (.t 0)) <| o 4 (.mov (.c (.int .i64 0))) <| .nil)) (
   .seq (.ops (
   o 5 (.mov (.c (.int .i64 0))) <| .nil)) (
   .seq (.seq (.ops (
   o 6 (.mov (.c (.int .i64 0))) <| .nil)) (
   .block 0 (.loop [1, 2, 5, 6] [5] (withylaw09_grays_c1)))) (
   withylaw09_grays_c0)))

def withylaw09_grays_hs : List (List Nat × List Nat) := [([1, 2, 5, 6], [5])]

end Wm.F
end

section
/- PRINTED by my tool (wip/wm/tool/Gen.lean): a function as one of my machine. -/
namespace Wm.F
open Wm
set_option maxRecDepth 100000

/-- 110: withy/withyref03.Black -/
def withyref03_Black : AFunc where
  closed := true
  nparams := 1
  ntmps := 7
  results := [.tmp 2]
  body := .seq (.ops (
   o 2 (.mov (.c (.int .i64 0))) <| .nil)) (
   .seq (.seq (.ops (
   m 3 0 <| o 4 (.arith .quo .u64 (.t 3) (.c (.int .u64 4))) <| o 5 (.arith .rem .u64 (.t 4) (.c (.int .u64 2))) <| o 6 (.cmp .eql .u64 (.t 5) (.c (.int .u64 0))) <| .nil)) (
   .cond (.t 6) (.seq (.ops (
   o 2 (.mov (.c (.int .i64 1))) <| .nil)) (
   .ret)) (.skip))) (
   .seq (.ops (
   o 2 (.mov (.c (.int .i64 0))) <| .nil)) (
   .ret)))

def withyref03_Black_hs : List (List Nat × List Nat) := []

end Wm.F
end

section
/- PRINTED by my tool (wip/wm/tool/Gen.lean): a function as one of my machine. -/
namespace Wm.F
open Wm
set_option maxRecDepth 100000

/-- 112: withy/withyref04.Lives -/
def withyref04_Lives : AFunc where
  closed := true
  nparams := 1
  ntmps := 21
  results := [.tmp 2]
  body := .seq (.ops (
   o 2 (.mov (.c (.bool false))) <| .nil)) (
   .seq (.ops (
   m 6 0 <| o 7 (.call 109 [(.t 6)]) <| m 5 7 <| o 8 (.extract (.t 5) 0) <| o 9 (.extract (.t 5) 1) <|
   o 3 (.alloc [(.int .i64 0), (.int .i64 0), (.bool false), (.int .i64 0), (.int .i64 0), (.int .i64 0)]) <| u (.store 6 (.t 3) (.t 8)) <| m 4 9 <| .nil)) (
   .seq (.ops (
   m 10 4 <| m 11 10 <| .grd 11 true [i 12 (.fieldA 0 (.t 3)),
   i 13 (.load1 (.t 12)),
   i 14 (.cmp .eql .i64 (.t 13) (.c (.int .i64 1))),
   i 15 (.mov (.t 14))] <| .grd 15 false [i 16 (.fieldA 0 (.t 3)),
   i 17 (.load1 (.t 16)),
   i 18 (.cmp .eql .i64 (.t 17) (.c (.int .i64 2)))] <| .grd 11 true [i 19 (.pick (.t 15) (.c (.bool true)) (.t 18))] <| o 20 (.pick (.t 11) (.t 19) (.c (.bool false))) <|
   m 2 20 <| .nil)) (
   .ret)))

def withyref04_Lives_hs : List (List Nat × List Nat) := []

end Wm.F
end

section
/- PRINTED by my tool (wip/wm/tool/Gen.lean): a function as one of my machine. -/
namespace Wm.F
open Wm
set_option maxRecDepth 100000

/-- 113: withy/withyref04.Marked -/
def withyref04_Marked : AFunc where
  closed := true
  nparams := 2
  ntmps := 21
  results := [.tmp 4]
  body := .seq (.ops (
   o 4 (.mov (.c (.bool false))) <| .nil)) (
   .seq (.ops (
   m 8 0 <| o 9 (.call 109 [(.t 8)]) <| m 7 9 <| o 10 (.extract (.t 7) 0) <| o 11 (.extract (.t 7) 1) <|
   o 5 (.alloc [(.int .i64 0), (.int .i64 0), (.bool false), (.int .i64 0), (.int .i64 0), (.int .i64 0)]) <| u (.store 6 (.t 5) (.t 10)) <| m 6 11 <| .nil)) (
   .seq (.ops (
   m 12 0 <| o 13 (.call 112 [(.t 12)]) <| m 14 13 <| .grd 14 true [i 15 (.fieldA 1 (.t 5)),
   i 16 (.load1 (.t 15)),
   i 17 (.mov (.t 1)),
   ⟨(some 18), .call 110 [(.t 17)], [{ g := (some (14, true)), op := .load1 (.t 15), d := 16 }]⟩,
   i 19 (.cmp .eql .i64 (.t 16) (.t 18))] <| o 20 (.pick (.t 14) (.t 19) (.c (.bool false))) <| m 4 20 <| .nil)) (
   .ret)))

def withyref04_Marked_hs : List (List Nat × List Nat) := []

end Wm.F
end

section
/- PRINTED by my tool (wip/wm/tool/Gen.lean): a function as one of my machine. -/
namespace Wm.F
open Wm
set_option maxRecDepth 100000

/-- 202: withy/withyref04.Right -/
def withyref04_Right : AFunc where
  closed := true
  nparams := 1
  ntmps := 51
  results := [.tmp 2]
  body := .seq (.ops (
   o 1 (.box (.t 0)) <| o 2 (.mov (.c (.bool false))) <| .nil)) (
   .seq (.ops (
   d 3 0 1 <| l 4 3 <| o 5 (.cmp .geq .i64 (.t 4) (.c (.int .i64 0))) <| m 6 5 <| .grd 6 true [i 7 (.fieldA 0 (.t 1)),
   i 8 (.load1 (.t 7)),
   i 9 (.cmp .leq .i64 (.t 8) (.c (.int .i64 4)))] <| o 10 (.pick (.t 6) (.t 9) (.c (.bool false))) <| m 11 10 <| .grd 11 true [i 12 (.fieldA 1 (.t 1)),
   i 13 (.load1 (.t 12)),
   i 14 (.cmp .eql .i64 (.t 13) (.c (.int .i64 0))),
   i 15 (.mov (.t 14))] <| .grd 15 false [i 16 (.fieldA 1 (.t 1)),
   i 17 (.load1 (.t 16)),
   i 18 (.cmp .eql .i64 (.t 17) (.c (.int .i64 1)))] <| .grd 11 true [i 19 (.pick (.t 15) (.c (.bool true)) (.t 18))] <| o 20 (.pick (.t 11) (.t 19) (.c (.bool false))) <|
   m 21 20 <| .grd 21 true [i 22 (.fieldA 3 (.t 1)),
   i 23 (.load1 (.t 22)),
   i 24 (.cmp .geq .i64 (.t 23) (.c (.int .i64 0)))] <| o 25 (.pick (.t 21) (.t 24) (.c (.bool false))) <| m 26 25 <| .grd 26 true [i 27 (.fieldA 3 (.t 1)),
   i 28 (.load1 (.t 27)),
   i 29 (.cmp .leq .i64 (.t 28) (.c (.int .i64 15)))] <| o 30 (.pick (.t 26) (.t 29) (.c (.bool false))) <| m 31 30 <| .grd 31 true [i 32 (.fieldA 4 (.t 1)),
   i 33 (.load1 (.t 32)),
   i 34 (.cmp .geq .i64 (.t 33) (.c (.int .i64 0)))] <| o 35 (.pick (.t 31) (.t 34) (.c (.bool false))) <| m 36 35 <| .grd 36 true [i 37 (.fieldA 4 (.t 1)),
   i 38 (.load1 (.t 37)),
   i 39 (.cmp .leq .i64 (.t 38) (.c (.int .i64 4294967295)))] <| o 40 (.pick (.t 36) (.t 39) (.c (.bool false))) <| m 41 40 <| .grd 41 true [i 42 (.fieldA 5 (.t 1)),
   i 43 (.load1 (.t 42)),
   i 44 (.cmp .geq .i64 (.t 43) (.c (.int .i64 0)))] <| o 45 (.pick (.t 41) (.t 44) (.c (.bool false))) <| m 46 45 <| .grd 46 true [i 47 (.fieldA 5 (.t 1)),
   i 48 (.load1 (.t 47)),
   i 49 (.cmp .leq .i64 (.t 48) (.c (.int .i64 65535)))] <| o 50 (.pick (.t 46) (.t 49) (.c (.bool false))) <| m 2 50 <| .nil)) (
   .ret))

def withyref04_Right_hs : List (List Nat × List Nat) := []

end Wm.F
end

section
/- PRINTED by my tool (wip/wm/tool/Gen.lean): a function as one of my machine. -/
namespace Wm.F
open Wm
set_option maxRecDepth 100000

/-- 109: withy/withyref04.Unpack -/
def withyref04_Unpack : AFunc where
  closed := true
  nparams := 1
  ntmps := 39
  results := [.cell true 6 2, .tmp 3]
  body := .seq (.ops (
   o 2 (.alloc [(.int .i64 0), (.int .i64 0), (.bool false), (.int .i64 0), (.int .i64 0), (.int .i64 0)]) <| o 3 (.mov (.c (.bool false))) <| .nil)) (
   .seq (.ops (
   m 5 0 <| o 6 (.arith .rem .u64 (.t 5) (.c (.int .u64 8))) <| o 7 (.conv .i64 (.t 6)) <| m 8 0 <| o 9 (.arith .quo .u64 (.t 8) (.c (.int .u64 8))) <|
   o 10 (.arith .rem .u64 (.t 9) (.c (.int .u64 2))) <| o 11 (.conv .i64 (.t 10)) <| m 12 0 <| o 13 (.arith .quo .u64 (.t 12) (.c (.int .u64 16))) <|
   o 14 (.arith .rem .u64 (.t 13) (.c (.int .u64 2))) <| o 15 (.cmp .eql .u64 (.t 14) (.c (.int .u64 1))) <| m 16 0 <| o 17 (.arith .quo .u64 (.t 16) (.c (.int .u64 32))) <|
   o 18 (.arith .rem .u64 (.t 17) (.c (.int .u64 16))) <| o 19 (.conv .i64 (.t 18)) <| m 20 0 <| o 21 (.arith .quo .u64 (.t 20) (.c (.int .u64 65536))) <|
   o 22 (.arith .rem .u64 (.t 21) (.c (.int .u64 4294967296))) <| o 23 (.conv .i64 (.t 22)) <| m 24 0 <| o 25 (.arith .quo .u64 (.t 24) (.c (.int .u64 281474976710656))) <|
   o 26 (.conv .i64 (.t 25)) <|
   o 27 (.build [(.int .i64 0), (.int .i64 0), (.bool false), (.int .i64 0), (.int .i64 0), (.int .i64 0)] [(0, 1, (.t 7)), (1, 1, (.t 11)), (2, 1, (.t 15)), (3, 1, (.t 19)), (4, 1, (.t 23)), (5, 1, (.t 26))]) <| o 4 (.alloc [(.int .i64 0), (.int .i64 0), (.bool false), (.int .i64 0), (.int .i64 0), (.int .i64 0)]) <| u (.store 6 (.t 4) (.t 27)) <| .nil)) (
   .seq (.seq (.ops (
   d 28 0 4 <| l 29 28 <| o 30 (.cmp .gtr .i64 (.t 29) (.c (.int .i64 4))) <| m 31 30 <| .grd 31 false [i 32 (.mov (.t 0)),
   i 33 (.arith .quo .u64 (.t 32) (.c (.int .u64 512))),
   i 34 (.arith .rem .u64 (.t 33) (.c (.int .u64 128))),
   i 35 (.cmp .neq .u64 (.t 34) (.c (.int .u64 0)))] <| o 36 (.pick (.t 31) (.c (.bool true)) (.t 35)) <| .nil)) (
   .cond (.t 36) (.seq (.ops (
   o 37 (.build [(.int .i64 0), (.int .i64 0), (.bool false), (.int .i64 0), (.int .i64 0), (.int .i64 0)] []) <| u (.store 6 (.t 2) (.t 37)) <| o 3 (.mov (.c (.bool false))) <|
   .nil)) (
   .ret)) (.skip))) (
   .seq (.ops (
   ln 38 6 4 <| u (.store 6 (.t 2) (.t 38)) <| o 3 (.mov (.c (.bool true))) <| .nil)) (
   .ret))))

def withyref04_Unpack_hs : List (List Nat × List Nat) := []

end Wm.F
end

section
/- PRINTED by my tool (wip/wm/tool/Gen.lean): a function as one of my machine. -/
namespace Wm.F
open Wm
set_option maxRecDepth 100000

/-- 92: withy/withyref06.Fit -/
def withyref06_Fit : AFunc where
  closed := true
  nparams := 1
  ntmps := 22
  results := [.cell true 6 2]
  body := .seq (.ops (
   o 1 (.box (.t 0)) <| o 2 (.alloc [(.int .i64 0), (.int .i64 0), (.int .i64 0), (.int .i64 0), (.int .i64 0), (.int .i64 0)]) <| .nil)) (
   .seq (.ops (
   d 3 0 1 <| l 4 3 <| d 6 1 1 <| l 7 6 <| d 9 2 1 <| l 10 9 <| d 12 3 1 <| l 13 12 <| d 15 4 1 <| l 16 15 <| d 18 5 1 <| l 19 18 <|
   .op ⟨(some 5), .call 270 [(.t 4), (.c (.int .i64 1)), (.c (.int .i64 12))], [{ g := none, op := .load1 (.t 18), d := 19 }, { g := none, op := .load1 (.t 15), d := 16 }, { g := none, op := .load1 (.t 12), d := 13 }, { g := none, op := .load1 (.t 9), d := 10 }, { g := none, op := .load1 (.t 6), d := 7 }]⟩ <| .op ⟨(some 8), .call 270 [(.t 7), (.c (.int .i64 0)), (.c (.int .i64 4))], [{ g := none, op := .load1 (.t 18), d := 19 }, { g := none, op := .load1 (.t 15), d := 16 }, { g := none, op := .load1 (.t 12), d := 13 }, { g := none, op := .load1 (.t 9), d := 10 }]⟩ <| .op ⟨(some 11), .call 270 [(.t 10), (.c (.int .i64 1)), (.c (.int .i64 4))], [{ g := none, op := .load1 (.t 18), d := 19 }, { g := none, op := .load1 (.t 15), d := 16 }, { g := none, op := .load1 (.t 12), d := 13 }]⟩ <| .op ⟨(some 14), .call 270 [(.t 13), (.c (.int .i64 1)), (.c (.int .i64 4))], [{ g := none, op := .load1 (.t 18), d := 19 }, { g := none, op := .load1 (.t 15), d := 16 }]⟩ <| .op ⟨(some 17), .call 270 [(.t 16), (.c (.int .i64 1)), (.c (.int .i64 40))], [{ g := none, op := .load1 (.t 18), d := 19 }]⟩ <| o 20 (.call 270 [(.t 19), (.c (.int .i64 0)), (.c (.int .i64 6))]) <| o 21 (.build [(.int .i64 0), (.int .i64 0), (.int .i64 0), (.int .i64 0), (.int .i64 0), (.int .i64 0)] [(0, 1, (.t 5)), (1, 1, (.t 8)), (2, 1, (.t 11)), (3, 1, (.t 14)), (4, 1, (.t 17)), (5, 1, (.t 20))]) <| u (.store 6 (.t 2) (.t 21)) <| .nil)) (
   .ret))

def withyref06_Fit_hs : List (List Nat × List Nat) := []

end Wm.F
end

section
/- PRINTED by my tool (wip/wm/tool/Gen.lean): a function as one of my machine. -/
namespace Wm.F
open Wm
set_option maxRecDepth 100000

def withyref06_Same_c1 : ACode :=
  .seq (.seq (.ops (
   m 11 5 <| m 12 0 <| o 13 (.lenSl (.t 12)) <| o 14 (.cmp .lss .i64 (.t 11) (.t 13)) <| .nil)) (
  .cond (.t 14) (.skip) (.exit 0))) (
  .seq (.block 1 (.seq (.ops (
   m 17 0 <| m 18 5 <| o 19 (.indexA 1 (.t 17) (.t 18)) <| l 20 19 <| m 21 1 <| m 22 5 <| o 23 (.indexA 1 (.t 21) (.t 22)) <| l 24 23 <| o 25 (.cmp .neq .u64 (.t 20) (.t 24)) <|
   .nil)) (
  .cond (.t 25) (.seq (.ops (
   o 4 (.mov (.c (.bool false))) <| .nil)) (
   .ret)) (.skip)))) (
  .ops (
   m 15 5 <| o 16 (.arith .add .i64 (.t 15) (.c (.int .i64 1))) <| m 5 16 <| .nil)))

def withyref06_Same_c0 : ACode :=
  .seq (.ops (
   o 4 (.mov (.c (.bool true))) <| .nil)) (
  .ret)

/-- 95: withy/withyref06.Same -/
def withyref06_Same : AFunc where
  closed := false
  nparams := 2
  ntmps := 26
  results := [.tmp 4]
  body := .seq (.ops (
   o 4 (.mov (.c (.bool false))) <| .nil)) (
   .seq (.seq (.ops (
   m 6 0 <| o 7 (.lenSl (.t 6)) <| m 8 1 <| o 9 (.lenSl (.t 8)) <| o 10 (.cmp .neq .i64 (.t 7) (.t 9)) <| .nil)) (
   .cond (.t 10) (.seq (.ops (
   o 4 (.mov (.c (.bool false))) <| .nil)) (
   .ret)) (.skip))) (
   .seq (.seq (.ops (
   o 5 (.mov (.c (.int .i64 0))) <| .nil)) (
   .block 0 (.loop [0, 1, 5] [4] (withyref06_Same_c1)))) (
   withyref06_Same_c0)))

def withyref06_Same_hs : List (List Nat × List Nat) := [([0, 1, 5], [4])]

end Wm.F
end

section
/- PRINTED by my tool (wip/wm/tool/Gen.lean): a function as one of my machine. -/
namespace Wm.F
open Wm
set_option maxRecDepth 100000

/-- 270: withy/withyref06.fit -/
def withyref06_fit : AFunc where
  closed := true
  nparams := 3
  ntmps := 18
  results := [.tmp 6]
  body := .seq (.ops (
   o 6 (.mov (.c (.int .i64 0))) <| .nil)) (
   .seq (.ops (
   m 7 1 <| m 8 0 <| o 9 (.conv .u64 (.t 8)) <| m 10 2 <| m 11 1 <| o 12 (.arith .sub .i64 (.t 10) (.t 11)) <| o 13 (.arith .add .i64 (.t 12) (.c (.int .i64 1))) <|
   o 14 (.conv .u64 (.t 13)) <| o 15 (.arith .rem .u64 (.t 9) (.t 14)) <| o 16 (.conv .i64 (.t 15)) <| o 17 (.arith .add .i64 (.t 7) (.t 16)) <| m 6 17 <| .nil)) (
   .ret))

def withyref06_fit_hs : List (List Nat × List Nat) := []

end Wm.F
end

section
/- PRINTED by my tool (wip/wm/tool/Gen.lean): a function as one of my machine. -/
namespace Wm.F
open Wm
set_option maxRecDepth 100000

def withylaw09_ShadePlays_c31 : ACode :=
  .ops (
   m 234 3 <| m 235 27 <| o 236 (.indexA 1 (.t 234) (.t 235)) <| l 237 236 <| o 238 (.conv .u64 (.t 237)) <| d 239 0 5 <| l 240 239 <| o 241 (.conv .u64 (.t 240)) <|
   o 242 (.arith .rem .u64 (.t 238) (.t 241)) <| o 243 (.conv .i64 (.t 242)) <| m 244 24 <| o 245 (.cmp .eql .i64 (.t 243) (.t 244)) <| m 246 245 <|
   .grd 246 true [i 247 (.mov (.t 29))] <| o 248 (.pick (.t 246) (.t 247) (.c (.bool false))) <| m 249 248 <| .grd 249 true [i 250 (.fieldA 0 (.t 28)),
   i 251 (.load1 (.t 250)),
   i 252 (.cmp .eql .i64 (.t 251) (.c (.int .i64 1))),
   i 253 (.mov (.t 252))] <| .grd 253 false [i 254 (.fieldA 0 (.t 28)),
   i 255 (.load1 (.t 254)),
   i 256 (.cmp .eql .i64 (.t 255) (.c (.int .i64 2)))] <| .grd 249 true [i 257 (.pick (.t 253) (.c (.bool true)) (.t 256))] <|
   o 258 (.pick (.t 249) (.t 257) (.c (.bool false))) <| m 259 258 <| .grd 259 true [i 260 (.fieldA 1 (.t 28)),
   i 261 (.load1 (.t 260)),
   i 262 (.mov (.t 2)),
   ⟨(some 263), .call 110 [(.t 262)], [{ g := (some (259, true)), op := .load1 (.t 260), d := 261 }]⟩,
   i 264 (.cmp .neq .i64 (.t 261) (.t 263))] <| o 265 (.pick (.t 259) (.t 264) (.c (.bool false))) <| .nil)

def withylaw09_ShadePlays_c30 : ACode :=
  .cond (.t 265) (.seq (.ops (
   m 266 2 <| o 267 (.call 110 [(.t 266)]) <| d 268 1 28 <| u (.store 1 (.t 268) (.t 267)) <| .nil)) (
   .seq (.ops (
   d 269 2 28 <| u (.store 1 (.t 269) (.c (.bool true))) <| .nil)) (
   .ops (
   ln 270 6 28 <| o 271 (.call 111 [(.t 270)]) <| m 26 271 <| .nil)))) (.skip)

def withylaw09_ShadePlays_c29 : ACode :=
  .ops (
   m 224 27 <| o 225 (.arith .add .i64 (.t 224) (.c (.int .i64 1))) <| m 27 225 <| .nil)

def withylaw09_ShadePlays_c28 : ACode :=
  .seq (.seq (.ops (
   m 220 27 <| m 221 3 <| o 222 (.lenSl (.t 221)) <| o 223 (.cmp .lss .i64 (.t 220) (.t 222)) <| .nil)) (
  .cond (.t 223) (.skip) (.exit 12))) (
  .seq (.block 13 (.seq (.ops (
   m 227 12 <| m 228 25 <| o 229 (.indexA 1 (.t 227) (.t 228)) <| l 230 229 <| o 231 (.call 109 [(.t 230)]) <| m 226 231 <| o 232 (.extract (.t 226) 0) <|
   o 233 (.extract (.t 226) 1) <| o 28 (.alloc [(.int .i64 0), (.int .i64 0), (.bool false), (.int .i64 0), (.int .i64 0), (.int .i64 0)]) <| u (.store 6 (.t 28) (.t 232)) <|
   m 29 233 <| .nil)) (
  .seq (.join [2, 3, 5, 12, 21, 22, 24, 25, 26, 27, 28, 29] [2, 3, 5, 12, 21, 22, 24, 25, 26, 27, 28, 265] (withylaw09_ShadePlays_c31)) (
  withylaw09_ShadePlays_c30)))) (
  withylaw09_ShadePlays_c29))

def withylaw09_ShadePlays_c27 : ACode :=
  .seq (.seq (.ops (
   m 272 26 <| m 273 12 <| m 274 25 <| o 275 (.indexA 1 (.t 273) (.t 274)) <| l 276 275 <| o 277 (.cmp .neq .u64 (.t 272) (.t 276)) <| .nil)) (
  .cond (.t 277) (.ops (
   m 278 22 <| o 279 (.arith .sub .i64 (.t 278) (.c (.int .i64 1))) <| m 22 279 <| .nil)) (.skip))) (
  .seq (.ops (
   m 280 21 <| m 281 25 <| o 282 (.indexA 1 (.t 280) (.t 281)) <| l 283 282 <| m 284 26 <| o 285 (.cmp .neq .u64 (.t 283) (.t 284)) <| .nil)) (
  .cond (.t 285) (.seq (.ops (
   o 10 (.mov (.c (.bool false))) <| .nil)) (
   .ret)) (.skip)))

def withylaw09_ShadePlays_c26 : ACode :=
  .ops (
   m 210 24 <| o 211 (.arith .add .i64 (.t 210) (.c (.int .i64 1))) <| m 24 211 <| .nil)

def withylaw09_ShadePlays_c25 : ACode :=
  .seq (.seq (.ops (
   m 206 24 <| d 207 0 5 <| l 208 207 <| o 209 (.cmp .lss .i64 (.t 206) (.t 208)) <| .nil)) (
  .cond (.t 209) (.skip) (.exit 10))) (
  .seq (.block 11 (.seq (.ops (
   ln 212 6 5 <| m 213 24 <|
   .op ⟨(some 214), .build [(.str ⟨⟨[]⟩⟩), (.int .i64 0), (.int .i64 0)] [(0, 1, (.c (.str ⟨⟨[104, 101, 97, 100, 101, 114]⟩⟩))), (1, 1, (.t 213))], []⟩ <|
   o 215 (.call 108 [(.t 212), (.t 214)]) <| m 25 215 <| .nil)) (
  .seq (.ops (
   m 216 12 <| m 217 25 <| o 218 (.indexA 1 (.t 216) (.t 217)) <| l 219 218 <| m 26 219 <| .nil)) (
  .seq (.seq (.ops (
   o 27 (.mov (.c (.int .i64 0))) <| .nil)) (
  .block 12 (.loop [2, 3, 5, 12, 21, 22, 24, 25, 26, 27] [2, 3, 5, 12, 21, 22, 24, 25, 26] (withylaw09_ShadePlays_c28)))) (
  withylaw09_ShadePlays_c27))))) (
  withylaw09_ShadePlays_c26))

def withylaw09_ShadePlays_c24 : ACode :=
  .seq (.ops (
   m 286 22 <| o 287 (.cmp .eql .i64 (.t 286) (.c (.int .i64 0))) <| m 288 287 <| .grd 288 true [i 289 (.mov (.t 21)),
   i 290 (.indexA 1 (.t 289) (.c (.int .i64 2))),
   i 291 (.load1 (.t 290)),
   i 292 (.loadN 6 (.t 5)),
   i 293 (.mov (.t 21)),
   ⟨(some 294), .call 88 [(.t 292), (.t 293)], [{ g := (some (288, true)), op := .load1 (.t 290), d := 291 }]⟩,
   i 295 (.conv .u64 (.t 294)),
   i 296 (.cmp .eql .u64 (.t 291) (.t 295))] <| o 297 (.pick (.t 288) (.t 296) (.c (.bool false))) <| m 298 297 <| .grd 298 true [i 299 (.call 84 [])] <|
   o 300 (.pick (.t 298) (.t 299) (.c (.bool false))) <| m 10 300 <| .nil)) (
  .ret)

def withylaw09_ShadePlays_c23 : ACode :=
  .seq (.seq (.ops (
   m 191 23 <| m 192 13 <| o 193 (.lenSl (.t 192)) <| o 194 (.cmp .lss .i64 (.t 191) (.t 193)) <| .nil)) (
  .cond (.t 194) (.skip) (.exit 8))) (
  .seq (.block 9 (.seq (.ops (
   m 197 13 <| m 198 23 <| o 199 (.indexA 1 (.t 197) (.t 198)) <| l 200 199 <| n 201 200 <| d 202 0 201 <| l 203 202 <| .nil)) (
  .cond (.t 203) (.ops (
   m 204 22 <| o 205 (.arith .add .i64 (.t 204) (.c (.int .i64 1))) <| m 22 205 <| .nil)) (.skip)))) (
  .ops (
   m 195 23 <| o 196 (.arith .add .i64 (.t 195) (.c (.int .i64 1))) <| m 23 196 <| .nil)))

def withylaw09_ShadePlays_c22 : ACode :=
  .seq (.seq (.ops (
   o 24 (.mov (.c (.int .i64 0))) <| .nil)) (
  .block 10 (.loop [2, 3, 5, 12, 21, 22, 24] [5, 10, 21, 22] (withylaw09_ShadePlays_c25)))) (
  withylaw09_ShadePlays_c24)

def withylaw09_ShadePlays_c21 : ACode :=
  .seq (.seq (.ops (
   m 169 20 <| o 170 (.cmp .lss .i64 (.t 169) (.c (.int .i64 20))) <| m 171 170 <| .grd 171 true [i 172 (.mov (.t 13)),
   i 173 (.mov (.t 19)),
   i 174 (.indexA 1 (.t 172) (.t 173)),
   i 175 (.load1 (.t 174)),
   i 176 (.mov (.t 11)),
   i 177 (.call 91 [(.t 175), (.t 176)]),
   i 178 (.not (.t 177))] <| o 179 (.pick (.t 171) (.t 178) (.c (.bool false))) <| .nil)) (
  .cond (.t 179) (.skip) (.exit 6))) (
  .seq (.block 7 (.skip)) (
  .ops (
   m 180 20 <| o 181 (.arith .add .i64 (.t 180) (.c (.int .i64 1))) <| m 20 181 <| .nil)))

def withylaw09_ShadePlays_c20 : ACode :=
  .seq (.ops (
   m 182 13 <| m 183 19 <| o 184 (.indexA 1 (.t 182) (.t 183)) <| l 185 184 <| m 186 11 <| o 187 (.call 91 [(.t 185), (.t 186)]) <| o 188 (.not (.t 187)) <| .nil)) (
  .cond (.t 188) (.seq (.ops (
   o 10 (.mov (.c (.bool false))) <| .nil)) (
   .ret)) (.skip))

def withylaw09_ShadePlays_c19 : ACode :=
  .ops (
   m 167 19 <| o 168 (.arith .add .i64 (.t 167) (.c (.int .i64 1))) <| m 19 168 <| .nil)

def withylaw09_ShadePlays_c18 : ACode :=
  .seq (.seq (.ops (
   m 163 19 <| m 164 13 <| o 165 (.lenSl (.t 164)) <| o 166 (.cmp .lss .i64 (.t 163) (.t 165)) <| .nil)) (
  .cond (.t 166) (.skip) (.exit 4))) (
  .seq (.block 5 (.seq (.seq (.ops (
   o 20 (.mov (.c (.int .i64 0))) <| .nil)) (
  .block 6 (.loop [2, 3, 5, 11, 12, 13, 19, 20] [2, 3, 5, 11, 12, 13, 19] (withylaw09_ShadePlays_c21)))) (
  withylaw09_ShadePlays_c20))) (
  withylaw09_ShadePlays_c19))

def withylaw09_ShadePlays_c17 : ACode :=
  .seq (.ops (
   m 189 11 <| o 190 (.call 94 [(.t 189)]) <| m 21 190 <| .nil)) (
  .seq (.ops (
   o 22 (.mov (.c (.int .i64 0))) <| .nil)) (
  .seq (.seq (.ops (
   o 23 (.mov (.c (.int .i64 0))) <| .nil)) (
  .block 8 (.loop [2, 3, 5, 12, 13, 21, 22, 23] [2, 3, 5, 12, 21, 22] (withylaw09_ShadePlays_c23)))) (
  withylaw09_ShadePlays_c22)))

def withylaw09_ShadePlays_c16 : ACode :=
  .ops (
   m 136 11 <| m 138 17 <| o 139 (.arith .add .i64 (.t 138) (.c (.int .i64 1))) <| o 137 (.call 107 [(.t 136)]) <| o 140 (.cmp .gtr .i64 (.t 137) (.t 139)) <| m 141 140 <|
   .grd 141 false [i 142 (.mov (.t 18)),
   i 143 (.indexA 1 (.t 142) (.c (.int .i64 2))),
   i 144 (.load1 (.t 143)),
   i 145 (.loadN 6 (.t 5)),
   i 146 (.mov (.t 18)),
   ⟨(some 147), .call 88 [(.t 145), (.t 146)], [{ g := (some (141, false)), op := .load1 (.t 143), d := 144 }]⟩,
   i 148 (.conv .u64 (.t 147)),
   i 149 (.cmp .lss .u64 (.t 144) (.t 148))] <| o 150 (.pick (.t 141) (.c (.bool true)) (.t 149)) <| m 151 150 <| .grd 151 false [i 152 (.mov (.t 18)),
   i 153 (.indexA 1 (.t 152) (.c (.int .i64 2))),
   i 154 (.load1 (.t 153)),
   i 155 (.fieldA 0 (.t 5)),
   i 156 (.load1 (.t 155)),
   i 157 (.mov (.t 13)),
   i 158 (.lenSl (.t 157)),
   i 159 (.arith .add .i64 (.t 156) (.t 158)),
   i 160 (.conv .u64 (.t 159)),
   i 161 (.cmp .gtr .u64 (.t 154) (.t 160))] <| o 162 (.pick (.t 151) (.c (.bool true)) (.t 161)) <| .nil)

def withylaw09_ShadePlays_c15 : ACode :=
  .cond (.t 162) (.seq (.ops (
   o 10 (.mov (.c (.bool false))) <| .nil)) (
   .ret)) (.skip)

def withylaw09_ShadePlays_c14 : ACode :=
  .seq (.ops (
   m 100 15 <| m 101 4 <| o 102 (.lenSl (.t 101)) <| o 103 (.cmp .lss .i64 (.t 100) (.t 102)) <| m 104 103 <| .grd 104 true [i 105 (.mov (.t 15)),
   i 106 (.cmp .geq .i64 (.t 105) (.c (.int .i64 300))),
   i 107 (.mov (.t 106))] <| .grd 107 false [i 108 (.mov (.t 16)),
   i 109 (.cmp .lss .i64 (.t 108) (.c (.int .i64 0)))] <| .grd 104 true [i 110 (.pick (.t 107) (.c (.bool true)) (.t 109)),
   i 111 (.mov (.t 110))] <| .grd 111 false [i 112 (.mov (.t 16)),
   i 113 (.mov (.t 13)),
   i 114 (.lenSl (.t 113)),
   i 115 (.cmp .geq .i64 (.t 112) (.t 114))] <| .grd 104 true [i 116 (.pick (.t 111) (.c (.bool true)) (.t 115))] <| o 117 (.pick (.t 104) (.t 116) (.c (.bool false))) <|
   m 118 117 <| .grd 118 false [i 119 (.mov (.t 13)),
   i 120 (.lenSl (.t 119)),
   i 121 (.cmp .eql .i64 (.t 120) (.c (.int .i64 0)))] <| o 122 (.pick (.t 118) (.c (.bool true)) (.t 121)) <| .nil)) (
  .cond (.t 122) (.exit 3) (.skip))

def withylaw09_ShadePlays_c13 : ACode :=
  .seq (.ops (
   m 123 11 <| o 124 (.call 107 [(.t 123)]) <| m 17 124 <| .nil)) (
  .seq (.ops (
   m 125 13 <| m 126 16 <| m 127 13 <| o 128 (.lenSl (.t 127)) <| o 129 (.arith .rem .i64 (.t 126) (.t 128)) <| o 130 (.indexA 1 (.t 125) (.t 129)) <| l 131 130 <| m 132 11 <|
   o 133 (.call 91 [(.t 131), (.t 132)]) <| .nil)) (
  .seq (.ops (
   m 134 11 <| o 135 (.call 94 [(.t 134)]) <| m 18 135 <| .nil)) (
  .seq (.join [2, 3, 4, 5, 11, 12, 13, 15, 17, 18] [2, 3, 4, 5, 11, 12, 13, 15, 162] (withylaw09_ShadePlays_c16)) (
  withylaw09_ShadePlays_c15))))

def withylaw09_ShadePlays_c12 : ACode :=
  .seq (.ops (
   m 88 15 <| m 89 4 <| o 90 (.lenSl (.t 89)) <| o 91 (.cmp .lss .i64 (.t 88) (.t 90)) <| m 92 91 <| .grd 92 true [i 93 (.mov (.t 15)),
   i 94 (.cmp .lss .i64 (.t 93) (.c (.int .i64 300)))] <| o 95 (.pick (.t 92) (.t 94) (.c (.bool false))) <| .nil)) (
  .cond (.t 95) (.ops (
   m 96 4 <| m 97 15 <| o 98 (.indexA 1 (.t 96) (.t 97)) <| l 99 98 <| m 16 99 <| .nil)) (.skip))

def withylaw09_ShadePlays_c11 : ACode :=
  .seq (.join [2, 3, 4, 5, 11, 12, 13, 15, 16] [2, 3, 4, 5, 11, 12, 13, 15, 16] (withylaw09_ShadePlays_c14)) (
  withylaw09_ShadePlays_c13)

def withylaw09_ShadePlays_c10 : ACode :=
  .ops (
   m 85 15 <| o 86 (.arith .add .i64 (.t 85) (.c (.int .i64 1))) <| m 15 86 <| .nil)

def withylaw09_ShadePlays_c9 : ACode :=
  .ops (
   m 77 15 <| m 78 4 <| o 79 (.lenSl (.t 78)) <| m 80 13 <| o 81 (.lenSl (.t 80)) <| o 82 (.arith .mul .i64 (.c (.int .i64 12)) (.t 81)) <|
   o 83 (.arith .add .i64 (.t 79) (.t 82)) <| o 84 (.cmp .lss .i64 (.t 77) (.t 83)) <| .nil)

def withylaw09_ShadePlays_c8 : ACode :=
  .cond (.t 84) (.skip) (.exit 2)

def withylaw09_ShadePlays_c7 : ACode :=
  .seq (.block 3 (.seq (.ops (
   m 87 15 <| m 16 87 <| .nil)) (
  .seq (.join [2, 3, 4, 5, 11, 12, 13, 15, 16] [2, 3, 4, 5, 11, 12, 13, 15, 16] (withylaw09_ShadePlays_c12)) (
  withylaw09_ShadePlays_c11)))) (
  withylaw09_ShadePlays_c10)

def withylaw09_ShadePlays_c6 : ACode :=
  .seq (.seq (.join [2, 3, 4, 5, 11, 12, 13, 15] [2, 3, 4, 5, 11, 12, 13, 15, 84] (withylaw09_ShadePlays_c9)) (
  withylaw09_ShadePlays_c8)) (
  withylaw09_ShadePlays_c7)

def withylaw09_ShadePlays_c5 : ACode :=
  .seq (.seq (.ops (
   o 19 (.mov (.c (.int .i64 0))) <| .nil)) (
  .block 4 (.loop [2, 3, 5, 11, 12, 13, 19] [2, 3, 5, 10, 11, 12, 13] (withylaw09_ShadePlays_c18)))) (
  withylaw09_ShadePlays_c17)

def withylaw09_ShadePlays_c4 : ACode :=
  .seq (.seq (.ops (
   m 55 14 <| m 56 3 <| o 57 (.lenSl (.t 56)) <| o 58 (.cmp .lss .i64 (.t 55) (.t 57)) <| .nil)) (
  .cond (.t 58) (.skip) (.exit 0))) (
  .seq (.block 1 (.ops (
   m 61 13 <| ln 62 6 5 <| m 63 3 <| m 64 14 <| o 65 (.indexA 1 (.t 63) (.t 64)) <| l 66 65 <| o 67 (.conv .u64 (.t 66)) <| d 68 0 5 <| l 69 68 <| o 70 (.conv .u64 (.t 69)) <|
   o 71 (.arith .rem .u64 (.t 67) (.t 70)) <| o 72 (.conv .i64 (.t 71)) <| m 73 2 <| o 74 (.call 90 [(.t 62), (.t 72), (.t 73)]) <|
   o 75 (.buildSl 1 1 [.nilp] [(0, 1, (.t 74))]) <| o 76 (.append 1 8 (.t 61) (.t 75)) <| m 13 76 <| .nil))) (
  .ops (
   m 59 14 <| o 60 (.arith .add .i64 (.t 59) (.c (.int .i64 1))) <| m 14 60 <| .nil)))

def withylaw09_ShadePlays_c3 : ACode :=
  .seq (.seq (.ops (
   o 15 (.mov (.c (.int .i64 0))) <| .nil)) (
  .block 2 (.loop [2, 3, 4, 5, 11, 12, 13, 15] [2, 3, 5, 10, 11, 12, 13] (withylaw09_ShadePlays_c6)))) (
  withylaw09_ShadePlays_c5)

def withylaw09_ShadePlays_c2 : ACode :=
  .ops (
   m 36 3 <| o 37 (.lenSl (.t 36)) <| o 38 (.cmp .gtr .i64 (.t 37) (.c (.int .i64 10))) <| m 39 38 <| .grd 39 false [i 40 (.mov (.t 11)),
   i 41 (.eq false .ptr (.t 40) (.c .nilp))] <| o 42 (.pick (.t 39) (.c (.bool true)) (.t 41)) <| m 43 42 <| .grd 43 false [i 44 (.call 84 []),
   i 45 (.not (.t 44))] <| o 46 (.pick (.t 43) (.c (.bool true)) (.t 45)) <| .nil)

def withylaw09_ShadePlays_c1 : ACode :=
  .cond (.t 46) (.seq (.ops (
   m 47 3 <| o 48 (.lenSl (.t 47)) <| o 49 (.cmp .gtr .i64 (.t 48) (.c (.int .i64 10))) <| m 50 49 <| .grd 50 true [i 51 (.call 84 [])] <|
   o 52 (.pick (.t 50) (.t 51) (.c (.bool false))) <| m 10 52 <| .nil)) (
   .ret)) (.skip)

def withylaw09_ShadePlays_c0 : ACode :=
  .seq (.ops (
   m 53 11 <| o 54 (.call 94 [(.t 53)]) <| m 12 54 <| .nil)) (
  .seq (.ops (
   o 13 (.mov (.c .nilsl)) <| .nil)) (
  .seq (.seq (.ops (
   o 14 (.mov (.c (.int .i64 0))) <| .nil)) (
  .block 0 (.loop [2, 3, 4, 5, 11, 12, 13, 14] [2, 3, 4, 5, 11, 12, 13] (withylaw09_ShadePlays_c4)))) (
  withylaw09_ShadePlays_c3)))

/-- 15: withy/withylaw09.ShadePlays -/
def withylaw09_ShadePlays : AFunc where
  closed := false
  nparams := 5
  ntmps := 301
  results := [.tmp 10]
  body := .seq (.ops (
   o 5 (.box (.t 0)) <| o 10 (.mov (.c (.bool false))) <| .nil)) (
   .seq (.ops (
   ln 30 6 5 <| o 31 (.call 92 [(.t 30)]) <| u (.store 6 (.t 5) (.t 31)) <| .nil)) (
   .seq (.ops (
   ln 32 6 5 <| m 33 1 <| m 34 2 <| o 35 (.call 93 [(.t 32), (.t 33), (.t 34)]) <| m 11 35 <| .nil)) (
   .seq (.seq (.join [2, 3, 4, 5, 11] [2, 3, 4, 5, 11, 46] (withylaw09_ShadePlays_c2)) (
   withylaw09_ShadePlays_c1)) (
   withylaw09_ShadePlays_c0))))

def withylaw09_ShadePlays_hs : List (List Nat × List Nat) := [([1000004, 2, 3, 4, 5, 11], [2, 3, 4, 5, 11, 46]), ([2, 3, 4, 5, 11, 12, 13, 14], [2, 3, 4, 5, 11, 12, 13]), ([2, 3, 4, 5, 11, 12, 13, 15], [2, 3, 5, 10, 11, 12, 13]), ([1000001, 2, 3, 4, 5, 11, 12, 13, 15], [2, 3, 4, 5, 11, 12, 13, 15, 84]), ([1000002, 2, 3, 4, 5, 11, 12, 13, 15, 16], [2, 3, 4, 5, 11, 12, 13, 15, 16]), ([1000001, 2, 3, 4, 5, 11, 12, 13, 15, 16], [2, 3, 4, 5, 11, 12, 13, 15, 16]), ([1000004, 2, 3, 4, 5, 11, 12, 13, 15, 17, 18], [2, 3, 4, 5, 11, 12, 13, 15, 162]), ([2, 3, 5, 11, 12, 13, 19], [2, 3, 5, 10, 11, 12, 13]), ([2, 3, 5, 11, 12, 13, 19, 20], [2, 3, 5, 11, 12, 13, 19]), ([2, 3, 5, 12, 13, 21, 22, 23], [2, 3, 5, 12, 21, 22]), ([2, 3, 5, 12, 21, 22, 24], [5, 10, 21, 22]), ([2, 3, 5, 12, 21, 22, 24, 25, 26, 27], [2, 3, 5, 12, 21, 22, 24, 25, 26]), ([1000004, 2, 3, 5, 12, 21, 22, 24, 25, 26, 27, 28, 29], [2, 3, 5, 12, 21, 22, 24, 25, 26, 27, 28, 265])]

end Wm.F
end

