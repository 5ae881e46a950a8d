/- PRINTED by my tool: functions as those of my machine. -/
import Derived.Test.YtmhebljpahogaabWmCore
set_option linter.all false
section
/- PRINTED by my tool (wip/wm/tool/Gen.lean): a function as one of my machine. -/
namespace Wm.F
open Wm
set_option maxRecDepth 100000

def withylaw09_ShadePlays_c31 : ACode :=
  .ops (
    .op ⟨(some 234), .mov (.t 3), []⟩ <|
    .op ⟨(some 235), .mov (.t 27), []⟩ <|
    .op ⟨(some 236), .indexA 1 (.t 234) (.t 235), []⟩ <|
    .op ⟨(some 237), .load1 (.t 236), []⟩ <|
    .op ⟨(some 238), .conv .u64 (.t 237), []⟩ <|
    .op ⟨(some 239), .fieldA 0 (.t 5), []⟩ <|
    .op ⟨(some 240), .load1 (.t 239), []⟩ <|
    .op ⟨(some 241), .conv .u64 (.t 240), []⟩ <|
    .op ⟨(some 242), .arith .rem .u64 (.t 238) (.t 241), []⟩ <|
    .op ⟨(some 243), .conv .i64 (.t 242), []⟩ <|
    .op ⟨(some 244), .mov (.t 24), []⟩ <|
    .op ⟨(some 245), .cmp .eql .i64 (.t 243) (.t 244), []⟩ <|
    .op ⟨(some 246), .mov (.t 245), []⟩ <|
    .grd 246 true [⟨(some 247), .mov (.t 29), []⟩] <|
    .op ⟨(some 248), .pick (.t 246) (.t 247) (.c (.bool false)), []⟩ <|
    .op ⟨(some 249), .mov (.t 248), []⟩ <|
    .grd 249 true [⟨(some 250), .fieldA 0 (.t 28), []⟩,
        ⟨(some 251), .load1 (.t 250), []⟩,
        ⟨(some 252), .cmp .eql .i64 (.t 251) (.c (.int .i64 1)), []⟩,
        ⟨(some 253), .mov (.t 252), []⟩] <|
    .grd 253 false [⟨(some 254), .fieldA 0 (.t 28), []⟩,
        ⟨(some 255), .load1 (.t 254), []⟩,
        ⟨(some 256), .cmp .eql .i64 (.t 255) (.c (.int .i64 2)), []⟩] <|
    .grd 249 true [⟨(some 257), .pick (.t 253) (.c (.bool true)) (.t 256), []⟩] <|
    .op ⟨(some 258), .pick (.t 249) (.t 257) (.c (.bool false)), []⟩ <|
    .op ⟨(some 259), .mov (.t 258), []⟩ <|
    .grd 259 true [⟨(some 260), .fieldA 1 (.t 28), []⟩,
        ⟨(some 261), .load1 (.t 260), []⟩,
        ⟨(some 262), .mov (.t 2), []⟩,
        ⟨(some 263), .call 110 [(.t 262)], [{ g := (some (259, true)), op := .load1 (.t 260), d := 261 }]⟩,
        ⟨(some 264), .cmp .neq .i64 (.t 261) (.t 263), []⟩] <|
    .op ⟨(some 265), .pick (.t 259) (.t 264) (.c (.bool false)), []⟩ <|
    .nil)

def withylaw09_ShadePlays_c30 : ACode :=
  .cond (.t 265) (.seq (.ops (
      .op ⟨(some 266), .mov (.t 2), []⟩ <|
      .op ⟨(some 267), .call 110 [(.t 266)], []⟩ <|
      .op ⟨(some 268), .fieldA 1 (.t 28), []⟩ <|
      .op ⟨none, .store 1 (.t 268) (.t 267), []⟩ <|
      .nil)) (
    .seq (.ops (
      .op ⟨(some 269), .fieldA 2 (.t 28), []⟩ <|
      .op ⟨none, .store 1 (.t 269) (.c (.bool true)), []⟩ <|
      .nil)) (
    .ops (
      .op ⟨(some 270), .loadN 6 (.t 28), []⟩ <|
      .op ⟨(some 271), .call 111 [(.t 270)], []⟩ <|
      .op ⟨(some 26), .mov (.t 271), []⟩ <|
      .nil)))) (.skip)

def withylaw09_ShadePlays_c29 : ACode :=
  .ops (
    .op ⟨(some 224), .mov (.t 27), []⟩ <|
    .op ⟨(some 225), .arith .add .i64 (.t 224) (.c (.int .i64 1)), []⟩ <|
    .op ⟨(some 27), .mov (.t 225), []⟩ <|
    .nil)

def withylaw09_ShadePlays_c28 : ACode :=
  .seq (.seq (.ops (
    .op ⟨(some 220), .mov (.t 27), []⟩ <|
    .op ⟨(some 221), .mov (.t 3), []⟩ <|
    .op ⟨(some 222), .lenSl (.t 221), []⟩ <|
    .op ⟨(some 223), .cmp .lss .i64 (.t 220) (.t 222), []⟩ <|
    .nil)) (
  .cond (.t 223) (.skip) (.exit 12))) (
  .seq (.block 13 (.seq (.ops (
    .op ⟨(some 227), .mov (.t 12), []⟩ <|
    .op ⟨(some 228), .mov (.t 25), []⟩ <|
    .op ⟨(some 229), .indexA 1 (.t 227) (.t 228), []⟩ <|
    .op ⟨(some 230), .load1 (.t 229), []⟩ <|
    .op ⟨(some 231), .call 109 [(.t 230)], []⟩ <|
    .op ⟨(some 226), .mov (.t 231), []⟩ <|
    .op ⟨(some 232), .extract (.t 226) 0, []⟩ <|
    .op ⟨(some 233), .extract (.t 226) 1, []⟩ <|
    .op ⟨(some 28), .alloc [(.int .i64 0), (.int .i64 0), (.bool false), (.int .i64 0), (.int .i64 0), (.int .i64 0)], []⟩ <|
    .op ⟨none, .store 6 (.t 28) (.t 232), []⟩ <|
    .op ⟨(some 29), .mov (.t 233), []⟩ <|
    .nil)) (
  .seq (.join [2, 3, 5, 12, 21, 22, 24, 25, 26, 27, 28, 29] [2, 3, 5, 12, 21, 22, 24, 25, 26, 27, 28, 265] (withylaw09_ShadePlays_c31)) (
  withylaw09_ShadePlays_c30)))) (
  withylaw09_ShadePlays_c29))

def withylaw09_ShadePlays_c27 : ACode :=
  .seq (.seq (.ops (
    .op ⟨(some 272), .mov (.t 26), []⟩ <|
    .op ⟨(some 273), .mov (.t 12), []⟩ <|
    .op ⟨(some 274), .mov (.t 25), []⟩ <|
    .op ⟨(some 275), .indexA 1 (.t 273) (.t 274), []⟩ <|
    .op ⟨(some 276), .load1 (.t 275), []⟩ <|
    .op ⟨(some 277), .cmp .neq .u64 (.t 272) (.t 276), []⟩ <|
    .nil)) (
  .cond (.t 277) (.ops (
      .op ⟨(some 278), .mov (.t 22), []⟩ <|
      .op ⟨(some 279), .arith .sub .i64 (.t 278) (.c (.int .i64 1)), []⟩ <|
      .op ⟨(some 22), .mov (.t 279), []⟩ <|
      .nil)) (.skip))) (
  .seq (.ops (
    .op ⟨(some 280), .mov (.t 21), []⟩ <|
    .op ⟨(some 281), .mov (.t 25), []⟩ <|
    .op ⟨(some 282), .indexA 1 (.t 280) (.t 281), []⟩ <|
    .op ⟨(some 283), .load1 (.t 282), []⟩ <|
    .op ⟨(some 284), .mov (.t 26), []⟩ <|
    .op ⟨(some 285), .cmp .neq .u64 (.t 283) (.t 284), []⟩ <|
    .nil)) (
  .cond (.t 285) (.seq (.ops (
      .op ⟨(some 10), .mov (.c (.bool false)), []⟩ <|
      .nil)) (
    .ret)) (.skip)))

def withylaw09_ShadePlays_c26 : ACode :=
  .ops (
    .op ⟨(some 210), .mov (.t 24), []⟩ <|
    .op ⟨(some 211), .arith .add .i64 (.t 210) (.c (.int .i64 1)), []⟩ <|
    .op ⟨(some 24), .mov (.t 211), []⟩ <|
    .nil)

def withylaw09_ShadePlays_c25 : ACode :=
  .seq (.seq (.ops (
    .op ⟨(some 206), .mov (.t 24), []⟩ <|
    .op ⟨(some 207), .fieldA 0 (.t 5), []⟩ <|
    .op ⟨(some 208), .load1 (.t 207), []⟩ <|
    .op ⟨(some 209), .cmp .lss .i64 (.t 206) (.t 208), []⟩ <|
    .nil)) (
  .cond (.t 209) (.skip) (.exit 10))) (
  .seq (.block 11 (.seq (.ops (
    .op ⟨(some 212), .loadN 6 (.t 5), []⟩ <|
    .op ⟨(some 213), .mov (.t 24), []⟩ <|
    .op ⟨(some 214), .build [(.str ⟨⟨[]⟩⟩), (.int .i64 0), (.int .i64 0)] [(0, 1, (.c (.str ⟨⟨[104, 101, 97, 100, 101, 114]⟩⟩))), (1, 1, (.t 213))], []⟩ <|
    .op ⟨(some 215), .call 108 [(.t 212), (.t 214)], []⟩ <|
    .op ⟨(some 25), .mov (.t 215), []⟩ <|
    .nil)) (
  .seq (.ops (
    .op ⟨(some 216), .mov (.t 12), []⟩ <|
    .op ⟨(some 217), .mov (.t 25), []⟩ <|
    .op ⟨(some 218), .indexA 1 (.t 216) (.t 217), []⟩ <|
    .op ⟨(some 219), .load1 (.t 218), []⟩ <|
    .op ⟨(some 26), .mov (.t 219), []⟩ <|
    .nil)) (
  .seq (.seq (.ops (
    .op ⟨(some 27), .mov (.c (.int .i64 0)), []⟩ <|
    .nil)) (
  .block 12 (.loop [2, 3, 5, 12, 21, 22, 24, 25, 26, 27] [2, 3, 5, 12, 21, 22, 24, 25, 26] (withylaw09_ShadePlays_c28)))) (
  withylaw09_ShadePlays_c27))))) (
  withylaw09_ShadePlays_c26))

def withylaw09_ShadePlays_c24 : ACode :=
  .seq (.ops (
    .op ⟨(some 286), .mov (.t 22), []⟩ <|
    .op ⟨(some 287), .cmp .eql .i64 (.t 286) (.c (.int .i64 0)), []⟩ <|
    .op ⟨(some 288), .mov (.t 287), []⟩ <|
    .grd 288 true [⟨(some 289), .mov (.t 21), []⟩,
        ⟨(some 290), .indexA 1 (.t 289) (.c (.int .i64 2)), []⟩,
        ⟨(some 291), .load1 (.t 290), []⟩,
        ⟨(some 292), .loadN 6 (.t 5), []⟩,
        ⟨(some 293), .mov (.t 21), []⟩,
        ⟨(some 294), .call 88 [(.t 292), (.t 293)], [{ g := (some (288, true)), op := .load1 (.t 290), d := 291 }]⟩,
        ⟨(some 295), .conv .u64 (.t 294), []⟩,
        ⟨(some 296), .cmp .eql .u64 (.t 291) (.t 295), []⟩] <|
    .op ⟨(some 297), .pick (.t 288) (.t 296) (.c (.bool false)), []⟩ <|
    .op ⟨(some 298), .mov (.t 297), []⟩ <|
    .grd 298 true [⟨(some 299), .call 84 [], []⟩] <|
    .op ⟨(some 300), .pick (.t 298) (.t 299) (.c (.bool false)), []⟩ <|
    .op ⟨(some 10), .mov (.t 300), []⟩ <|
    .nil)) (
  .ret)

def withylaw09_ShadePlays_c23 : ACode :=
  .seq (.seq (.ops (
    .op ⟨(some 191), .mov (.t 23), []⟩ <|
    .op ⟨(some 192), .mov (.t 13), []⟩ <|
    .op ⟨(some 193), .lenSl (.t 192), []⟩ <|
    .op ⟨(some 194), .cmp .lss .i64 (.t 191) (.t 193), []⟩ <|
    .nil)) (
  .cond (.t 194) (.skip) (.exit 8))) (
  .seq (.block 9 (.seq (.ops (
    .op ⟨(some 197), .mov (.t 13), []⟩ <|
    .op ⟨(some 198), .mov (.t 23), []⟩ <|
    .op ⟨(some 199), .indexA 1 (.t 197) (.t 198), []⟩ <|
    .op ⟨(some 200), .load1 (.t 199), []⟩ <|
    .op ⟨(some 201), .nilc (.t 200), []⟩ <|
    .op ⟨(some 202), .fieldA 0 (.t 201), []⟩ <|
    .op ⟨(some 203), .load1 (.t 202), []⟩ <|
    .nil)) (
  .cond (.t 203) (.ops (
      .op ⟨(some 204), .mov (.t 22), []⟩ <|
      .op ⟨(some 205), .arith .add .i64 (.t 204) (.c (.int .i64 1)), []⟩ <|
      .op ⟨(some 22), .mov (.t 205), []⟩ <|
      .nil)) (.skip)))) (
  .ops (
    .op ⟨(some 195), .mov (.t 23), []⟩ <|
    .op ⟨(some 196), .arith .add .i64 (.t 195) (.c (.int .i64 1)), []⟩ <|
    .op ⟨(some 23), .mov (.t 196), []⟩ <|
    .nil)))

def withylaw09_ShadePlays_c22 : ACode :=
  .seq (.seq (.ops (
    .op ⟨(some 24), .mov (.c (.int .i64 0)), []⟩ <|
    .nil)) (
  .block 10 (.loop [2, 3, 5, 12, 21, 22, 24] [5, 10, 21, 22] (withylaw09_ShadePlays_c25)))) (
  withylaw09_ShadePlays_c24)

def withylaw09_ShadePlays_c21 : ACode :=
  .seq (.seq (.ops (
    .op ⟨(some 169), .mov (.t 20), []⟩ <|
    .op ⟨(some 170), .cmp .lss .i64 (.t 169) (.c (.int .i64 20)), []⟩ <|
    .op ⟨(some 171), .mov (.t 170), []⟩ <|
    .grd 171 true [⟨(some 172), .mov (.t 13), []⟩,
        ⟨(some 173), .mov (.t 19), []⟩,
        ⟨(some 174), .indexA 1 (.t 172) (.t 173), []⟩,
        ⟨(some 175), .load1 (.t 174), []⟩,
        ⟨(some 176), .mov (.t 11), []⟩,
        ⟨(some 177), .call 91 [(.t 175), (.t 176)], []⟩,
        ⟨(some 178), .not (.t 177), []⟩] <|
    .op ⟨(some 179), .pick (.t 171) (.t 178) (.c (.bool false)), []⟩ <|
    .nil)) (
  .cond (.t 179) (.skip) (.exit 6))) (
  .seq (.block 7 (.skip)) (
  .ops (
    .op ⟨(some 180), .mov (.t 20), []⟩ <|
    .op ⟨(some 181), .arith .add .i64 (.t 180) (.c (.int .i64 1)), []⟩ <|
    .op ⟨(some 20), .mov (.t 181), []⟩ <|
    .nil)))

def withylaw09_ShadePlays_c20 : ACode :=
  .seq (.ops (
    .op ⟨(some 182), .mov (.t 13), []⟩ <|
    .op ⟨(some 183), .mov (.t 19), []⟩ <|
    .op ⟨(some 184), .indexA 1 (.t 182) (.t 183), []⟩ <|
    .op ⟨(some 185), .load1 (.t 184), []⟩ <|
    .op ⟨(some 186), .mov (.t 11), []⟩ <|
    .op ⟨(some 187), .call 91 [(.t 185), (.t 186)], []⟩ <|
    .op ⟨(some 188), .not (.t 187), []⟩ <|
    .nil)) (
  .cond (.t 188) (.seq (.ops (
      .op ⟨(some 10), .mov (.c (.bool false)), []⟩ <|
      .nil)) (
    .ret)) (.skip))

def withylaw09_ShadePlays_c19 : ACode :=
  .ops (
    .op ⟨(some 167), .mov (.t 19), []⟩ <|
    .op ⟨(some 168), .arith .add .i64 (.t 167) (.c (.int .i64 1)), []⟩ <|
    .op ⟨(some 19), .mov (.t 168), []⟩ <|
    .nil)

def withylaw09_ShadePlays_c18 : ACode :=
  .seq (.seq (.ops (
    .op ⟨(some 163), .mov (.t 19), []⟩ <|
    .op ⟨(some 164), .mov (.t 13), []⟩ <|
    .op ⟨(some 165), .lenSl (.t 164), []⟩ <|
    .op ⟨(some 166), .cmp .lss .i64 (.t 163) (.t 165), []⟩ <|
    .nil)) (
  .cond (.t 166) (.skip) (.exit 4))) (
  .seq (.block 5 (.seq (.seq (.ops (
    .op ⟨(some 20), .mov (.c (.int .i64 0)), []⟩ <|
    .nil)) (
  .block 6 (.loop [2, 3, 5, 11, 12, 13, 19, 20] [2, 3, 5, 11, 12, 13, 19] (withylaw09_ShadePlays_c21)))) (
  withylaw09_ShadePlays_c20))) (
  withylaw09_ShadePlays_c19))

def withylaw09_ShadePlays_c17 : ACode :=
  .seq (.ops (
    .op ⟨(some 189), .mov (.t 11), []⟩ <|
    .op ⟨(some 190), .call 94 [(.t 189)], []⟩ <|
    .op ⟨(some 21), .mov (.t 190), []⟩ <|
    .nil)) (
  .seq (.ops (
    .op ⟨(some 22), .mov (.c (.int .i64 0)), []⟩ <|
    .nil)) (
  .seq (.seq (.ops (
    .op ⟨(some 23), .mov (.c (.int .i64 0)), []⟩ <|
    .nil)) (
  .block 8 (.loop [2, 3, 5, 12, 13, 21, 22, 23] [2, 3, 5, 12, 21, 22] (withylaw09_ShadePlays_c23)))) (
  withylaw09_ShadePlays_c22)))

def withylaw09_ShadePlays_c16 : ACode :=
  .ops (
    .op ⟨(some 136), .mov (.t 11), []⟩ <|
    .op ⟨(some 138), .mov (.t 17), []⟩ <|
    .op ⟨(some 139), .arith .add .i64 (.t 138) (.c (.int .i64 1)), []⟩ <|
    .op ⟨(some 137), .call 107 [(.t 136)], []⟩ <|
    .op ⟨(some 140), .cmp .gtr .i64 (.t 137) (.t 139), []⟩ <|
    .op ⟨(some 141), .mov (.t 140), []⟩ <|
    .grd 141 false [⟨(some 142), .mov (.t 18), []⟩,
        ⟨(some 143), .indexA 1 (.t 142) (.c (.int .i64 2)), []⟩,
        ⟨(some 144), .load1 (.t 143), []⟩,
        ⟨(some 145), .loadN 6 (.t 5), []⟩,
        ⟨(some 146), .mov (.t 18), []⟩,
        ⟨(some 147), .call 88 [(.t 145), (.t 146)], [{ g := (some (141, false)), op := .load1 (.t 143), d := 144 }]⟩,
        ⟨(some 148), .conv .u64 (.t 147), []⟩,
        ⟨(some 149), .cmp .lss .u64 (.t 144) (.t 148), []⟩] <|
    .op ⟨(some 150), .pick (.t 141) (.c (.bool true)) (.t 149), []⟩ <|
    .op ⟨(some 151), .mov (.t 150), []⟩ <|
    .grd 151 false [⟨(some 152), .mov (.t 18), []⟩,
        ⟨(some 153), .indexA 1 (.t 152) (.c (.int .i64 2)), []⟩,
        ⟨(some 154), .load1 (.t 153), []⟩,
        ⟨(some 155), .fieldA 0 (.t 5), []⟩,
        ⟨(some 156), .load1 (.t 155), []⟩,
        ⟨(some 157), .mov (.t 13), []⟩,
        ⟨(some 158), .lenSl (.t 157), []⟩,
        ⟨(some 159), .arith .add .i64 (.t 156) (.t 158), []⟩,
        ⟨(some 160), .conv .u64 (.t 159), []⟩,
        ⟨(some 161), .cmp .gtr .u64 (.t 154) (.t 160), []⟩] <|
    .op ⟨(some 162), .pick (.t 151) (.c (.bool true)) (.t 161), []⟩ <|
    .nil)

def withylaw09_ShadePlays_c15 : ACode :=
  .cond (.t 162) (.seq (.ops (
      .op ⟨(some 10), .mov (.c (.bool false)), []⟩ <|
      .nil)) (
    .ret)) (.skip)

def withylaw09_ShadePlays_c14 : ACode :=
  .seq (.ops (
    .op ⟨(some 100), .mov (.t 15), []⟩ <|
    .op ⟨(some 101), .mov (.t 4), []⟩ <|
    .op ⟨(some 102), .lenSl (.t 101), []⟩ <|
    .op ⟨(some 103), .cmp .lss .i64 (.t 100) (.t 102), []⟩ <|
    .op ⟨(some 104), .mov (.t 103), []⟩ <|
    .grd 104 true [⟨(some 105), .mov (.t 15), []⟩,
        ⟨(some 106), .cmp .geq .i64 (.t 105) (.c (.int .i64 300)), []⟩,
        ⟨(some 107), .mov (.t 106), []⟩] <|
    .grd 107 false [⟨(some 108), .mov (.t 16), []⟩,
        ⟨(some 109), .cmp .lss .i64 (.t 108) (.c (.int .i64 0)), []⟩] <|
    .grd 104 true [⟨(some 110), .pick (.t 107) (.c (.bool true)) (.t 109), []⟩,
        ⟨(some 111), .mov (.t 110), []⟩] <|
    .grd 111 false [⟨(some 112), .mov (.t 16), []⟩,
        ⟨(some 113), .mov (.t 13), []⟩,
        ⟨(some 114), .lenSl (.t 113), []⟩,
        ⟨(some 115), .cmp .geq .i64 (.t 112) (.t 114), []⟩] <|
    .grd 104 true [⟨(some 116), .pick (.t 111) (.c (.bool true)) (.t 115), []⟩] <|
    .op ⟨(some 117), .pick (.t 104) (.t 116) (.c (.bool false)), []⟩ <|
    .op ⟨(some 118), .mov (.t 117), []⟩ <|
    .grd 118 false [⟨(some 119), .mov (.t 13), []⟩,
        ⟨(some 120), .lenSl (.t 119), []⟩,
        ⟨(some 121), .cmp .eql .i64 (.t 120) (.c (.int .i64 0)), []⟩] <|
    .op ⟨(some 122), .pick (.t 118) (.c (.bool true)) (.t 121), []⟩ <|
    .nil)) (
  .cond (.t 122) (.exit 3) (.skip))

def withylaw09_ShadePlays_c13 : ACode :=
  .seq (.ops (
    .op ⟨(some 123), .mov (.t 11), []⟩ <|
    .op ⟨(some 124), .call 107 [(.t 123)], []⟩ <|
    .op ⟨(some 17), .mov (.t 124), []⟩ <|
    .nil)) (
  .seq (.ops (
    .op ⟨(some 125), .mov (.t 13), []⟩ <|
    .op ⟨(some 126), .mov (.t 16), []⟩ <|
    .op ⟨(some 127), .mov (.t 13), []⟩ <|
    .op ⟨(some 128), .lenSl (.t 127), []⟩ <|
    .op ⟨(some 129), .arith .rem .i64 (.t 126) (.t 128), []⟩ <|
    .op ⟨(some 130), .indexA 1 (.t 125) (.t 129), []⟩ <|
    .op ⟨(some 131), .load1 (.t 130), []⟩ <|
    .op ⟨(some 132), .mov (.t 11), []⟩ <|
    .op ⟨(some 133), .call 91 [(.t 131), (.t 132)], []⟩ <|
    .nil)) (
  .seq (.ops (
    .op ⟨(some 134), .mov (.t 11), []⟩ <|
    .op ⟨(some 135), .call 94 [(.t 134)], []⟩ <|
    .op ⟨(some 18), .mov (.t 135), []⟩ <|
    .nil)) (
  .seq (.join [2, 3, 4, 5, 11, 12, 13, 15, 17, 18] [2, 3, 4, 5, 11, 12, 13, 15, 162] (withylaw09_ShadePlays_c16)) (
  withylaw09_ShadePlays_c15))))

def withylaw09_ShadePlays_c12 : ACode :=
  .seq (.ops (
    .op ⟨(some 88), .mov (.t 15), []⟩ <|
    .op ⟨(some 89), .mov (.t 4), []⟩ <|
    .op ⟨(some 90), .lenSl (.t 89), []⟩ <|
    .op ⟨(some 91), .cmp .lss .i64 (.t 88) (.t 90), []⟩ <|
    .op ⟨(some 92), .mov (.t 91), []⟩ <|
    .grd 92 true [⟨(some 93), .mov (.t 15), []⟩,
        ⟨(some 94), .cmp .lss .i64 (.t 93) (.c (.int .i64 300)), []⟩] <|
    .op ⟨(some 95), .pick (.t 92) (.t 94) (.c (.bool false)), []⟩ <|
    .nil)) (
  .cond (.t 95) (.ops (
      .op ⟨(some 96), .mov (.t 4), []⟩ <|
      .op ⟨(some 97), .mov (.t 15), []⟩ <|
      .op ⟨(some 98), .indexA 1 (.t 96) (.t 97), []⟩ <|
      .op ⟨(some 99), .load1 (.t 98), []⟩ <|
      .op ⟨(some 16), .mov (.t 99), []⟩ <|
      .nil)) (.skip))

def withylaw09_ShadePlays_c11 : ACode :=
  .seq (.join [2, 3, 4, 5, 11, 12, 13, 15, 16] [2, 3, 4, 5, 11, 12, 13, 15, 16] (withylaw09_ShadePlays_c14)) (
  withylaw09_ShadePlays_c13)

def withylaw09_ShadePlays_c10 : ACode :=
  .ops (
    .op ⟨(some 85), .mov (.t 15), []⟩ <|
    .op ⟨(some 86), .arith .add .i64 (.t 85) (.c (.int .i64 1)), []⟩ <|
    .op ⟨(some 15), .mov (.t 86), []⟩ <|
    .nil)

def withylaw09_ShadePlays_c9 : ACode :=
  .ops (
    .op ⟨(some 77), .mov (.t 15), []⟩ <|
    .op ⟨(some 78), .mov (.t 4), []⟩ <|
    .op ⟨(some 79), .lenSl (.t 78), []⟩ <|
    .op ⟨(some 80), .mov (.t 13), []⟩ <|
    .op ⟨(some 81), .lenSl (.t 80), []⟩ <|
    .op ⟨(some 82), .arith .mul .i64 (.c (.int .i64 12)) (.t 81), []⟩ <|
    .op ⟨(some 83), .arith .add .i64 (.t 79) (.t 82), []⟩ <|
    .op ⟨(some 84), .cmp .lss .i64 (.t 77) (.t 83), []⟩ <|
    .nil)

def withylaw09_ShadePlays_c8 : ACode :=
  .cond (.t 84) (.skip) (.exit 2)

def withylaw09_ShadePlays_c7 : ACode :=
  .seq (.block 3 (.seq (.ops (
    .op ⟨(some 87), .mov (.t 15), []⟩ <|
    .op ⟨(some 16), .mov (.t 87), []⟩ <|
    .nil)) (
  .seq (.join [2, 3, 4, 5, 11, 12, 13, 15, 16] [2, 3, 4, 5, 11, 12, 13, 15, 16] (withylaw09_ShadePlays_c12)) (
  withylaw09_ShadePlays_c11)))) (
  withylaw09_ShadePlays_c10)

def withylaw09_ShadePlays_c6 : ACode :=
  .seq (.seq (.join [2, 3, 4, 5, 11, 12, 13, 15] [2, 3, 4, 5, 11, 12, 13, 15, 84] (withylaw09_ShadePlays_c9)) (
  withylaw09_ShadePlays_c8)) (
  withylaw09_ShadePlays_c7)

def withylaw09_ShadePlays_c5 : ACode :=
  .seq (.seq (.ops (
    .op ⟨(some 19), .mov (.c (.int .i64 0)), []⟩ <|
    .nil)) (
  .block 4 (.loop [2, 3, 5, 11, 12, 13, 19] [2, 3, 5, 10, 11, 12, 13] (withylaw09_ShadePlays_c18)))) (
  withylaw09_ShadePlays_c17)

def withylaw09_ShadePlays_c4 : ACode :=
  .seq (.seq (.ops (
    .op ⟨(some 55), .mov (.t 14), []⟩ <|
    .op ⟨(some 56), .mov (.t 3), []⟩ <|
    .op ⟨(some 57), .lenSl (.t 56), []⟩ <|
    .op ⟨(some 58), .cmp .lss .i64 (.t 55) (.t 57), []⟩ <|
    .nil)) (
  .cond (.t 58) (.skip) (.exit 0))) (
  .seq (.block 1 (.ops (
    .op ⟨(some 61), .mov (.t 13), []⟩ <|
    .op ⟨(some 62), .loadN 6 (.t 5), []⟩ <|
    .op ⟨(some 63), .mov (.t 3), []⟩ <|
    .op ⟨(some 64), .mov (.t 14), []⟩ <|
    .op ⟨(some 65), .indexA 1 (.t 63) (.t 64), []⟩ <|
    .op ⟨(some 66), .load1 (.t 65), []⟩ <|
    .op ⟨(some 67), .conv .u64 (.t 66), []⟩ <|
    .op ⟨(some 68), .fieldA 0 (.t 5), []⟩ <|
    .op ⟨(some 69), .load1 (.t 68), []⟩ <|
    .op ⟨(some 70), .conv .u64 (.t 69), []⟩ <|
    .op ⟨(some 71), .arith .rem .u64 (.t 67) (.t 70), []⟩ <|
    .op ⟨(some 72), .conv .i64 (.t 71), []⟩ <|
    .op ⟨(some 73), .mov (.t 2), []⟩ <|
    .op ⟨(some 74), .call 90 [(.t 62), (.t 72), (.t 73)], []⟩ <|
    .op ⟨(some 75), .buildSl 1 1 [.nilp] [(0, 1, (.t 74))], []⟩ <|
    .op ⟨(some 76), .append 1 8 (.t 61) (.t 75), []⟩ <|
    .op ⟨(some 13), .mov (.t 76), []⟩ <|
    .nil))) (
  .ops (
    .op ⟨(some 59), .mov (.t 14), []⟩ <|
    .op ⟨(some 60), .arith .add .i64 (.t 59) (.c (.int .i64 1)), []⟩ <|
    .op ⟨(some 14), .mov (.t 60), []⟩ <|
    .nil)))

def withylaw09_ShadePlays_c3 : ACode :=
  .seq (.seq (.ops (
    .op ⟨(some 15), .mov (.c (.int .i64 0)), []⟩ <|
    .nil)) (
  .block 2 (.loop [2, 3, 4, 5, 11, 12, 13, 15] [2, 3, 5, 10, 11, 12, 13] (withylaw09_ShadePlays_c6)))) (
  withylaw09_ShadePlays_c5)

def withylaw09_ShadePlays_c2 : ACode :=
  .ops (
    .op ⟨(some 36), .mov (.t 3), []⟩ <|
    .op ⟨(some 37), .lenSl (.t 36), []⟩ <|
    .op ⟨(some 38), .cmp .gtr .i64 (.t 37) (.c (.int .i64 10)), []⟩ <|
    .op ⟨(some 39), .mov (.t 38), []⟩ <|
    .grd 39 false [⟨(some 40), .mov (.t 11), []⟩,
        ⟨(some 41), .eq false .ptr (.t 40) (.c .nilp), []⟩] <|
    .op ⟨(some 42), .pick (.t 39) (.c (.bool true)) (.t 41), []⟩ <|
    .op ⟨(some 43), .mov (.t 42), []⟩ <|
    .grd 43 false [⟨(some 44), .call 84 [], []⟩,
        ⟨(some 45), .not (.t 44), []⟩] <|
    .op ⟨(some 46), .pick (.t 43) (.c (.bool true)) (.t 45), []⟩ <|
    .nil)

def withylaw09_ShadePlays_c1 : ACode :=
  .cond (.t 46) (.seq (.ops (
      .op ⟨(some 47), .mov (.t 3), []⟩ <|
      .op ⟨(some 48), .lenSl (.t 47), []⟩ <|
      .op ⟨(some 49), .cmp .gtr .i64 (.t 48) (.c (.int .i64 10)), []⟩ <|
      .op ⟨(some 50), .mov (.t 49), []⟩ <|
      .grd 50 true [⟨(some 51), .call 84 [], []⟩] <|
      .op ⟨(some 52), .pick (.t 50) (.t 51) (.c (.bool false)), []⟩ <|
      .op ⟨(some 10), .mov (.t 52), []⟩ <|
      .nil)) (
    .ret)) (.skip)

def withylaw09_ShadePlays_c0 : ACode :=
  .seq (.ops (
    .op ⟨(some 53), .mov (.t 11), []⟩ <|
    .op ⟨(some 54), .call 94 [(.t 53)], []⟩ <|
    .op ⟨(some 12), .mov (.t 54), []⟩ <|
    .nil)) (
  .seq (.ops (
    .op ⟨(some 13), .mov (.c .nilsl), []⟩ <|
    .nil)) (
  .seq (.seq (.ops (
    .op ⟨(some 14), .mov (.c (.int .i64 0)), []⟩ <|
    .nil)) (
  .block 0 (.loop [2, 3, 4, 5, 11, 12, 13, 14] [2, 3, 4, 5, 11, 12, 13] (withylaw09_ShadePlays_c4)))) (
  withylaw09_ShadePlays_c3)))

/-- 15: withy/withylaw09.ShadePlays -/
def withylaw09_ShadePlays : AFunc where
  closed := false
  nparams := 5
  ntmps := 301
  results := [.tmp 10]
  body := .seq (.ops (
      .op ⟨(some 5), .box (.t 0), []⟩ <|
      .op ⟨(some 10), .mov (.c (.bool false)), []⟩ <|
      .nil)) (
    .seq (.ops (
      .op ⟨(some 30), .loadN 6 (.t 5), []⟩ <|
      .op ⟨(some 31), .call 92 [(.t 30)], []⟩ <|
      .op ⟨none, .store 6 (.t 5) (.t 31), []⟩ <|
      .nil)) (
    .seq (.ops (
      .op ⟨(some 32), .loadN 6 (.t 5), []⟩ <|
      .op ⟨(some 33), .mov (.t 1), []⟩ <|
      .op ⟨(some 34), .mov (.t 2), []⟩ <|
      .op ⟨(some 35), .call 93 [(.t 32), (.t 33), (.t 34)], []⟩ <|
      .op ⟨(some 11), .mov (.t 35), []⟩ <|
      .nil)) (
    .seq (.seq (.join [2, 3, 4, 5, 11] [2, 3, 4, 5, 11, 46] (withylaw09_ShadePlays_c2)) (
    withylaw09_ShadePlays_c1)) (
    withylaw09_ShadePlays_c0))))

def withylaw09_ShadePlays_hs : List (List Nat × List Nat) := [([1000004, 2, 3, 4, 5, 11], [2, 3, 4, 5, 11, 46]), ([2, 3, 4, 5, 11, 12, 13, 14], [2, 3, 4, 5, 11, 12, 13]), ([2, 3, 4, 5, 11, 12, 13, 15], [2, 3, 5, 10, 11, 12, 13]), ([1000001, 2, 3, 4, 5, 11, 12, 13, 15], [2, 3, 4, 5, 11, 12, 13, 15, 84]), ([1000002, 2, 3, 4, 5, 11, 12, 13, 15, 16], [2, 3, 4, 5, 11, 12, 13, 15, 16]), ([1000001, 2, 3, 4, 5, 11, 12, 13, 15, 16], [2, 3, 4, 5, 11, 12, 13, 15, 16]), ([1000004, 2, 3, 4, 5, 11, 12, 13, 15, 17, 18], [2, 3, 4, 5, 11, 12, 13, 15, 162]), ([2, 3, 5, 11, 12, 13, 19], [2, 3, 5, 10, 11, 12, 13]), ([2, 3, 5, 11, 12, 13, 19, 20], [2, 3, 5, 11, 12, 13, 19]), ([2, 3, 5, 12, 13, 21, 22, 23], [2, 3, 5, 12, 21, 22]), ([2, 3, 5, 12, 21, 22, 24], [5, 10, 21, 22]), ([2, 3, 5, 12, 21, 22, 24, 25, 26, 27], [2, 3, 5, 12, 21, 22, 24, 25, 26]), ([1000004, 2, 3, 5, 12, 21, 22, 24, 25, 26, 27, 28, 29], [2, 3, 5, 12, 21, 22, 24, 25, 26, 27, 28, 265])]

end Wm.F
end

section
/- PRINTED by my tool (wip/wm/tool/Gen.lean): a function as one of my machine. -/
namespace Wm.F
open Wm
set_option maxRecDepth 100000

/-- 84: withy/withylaw09.awake -/
def withylaw09_awake : AFunc where
  closed := true
  nparams := 0
  ntmps := 102
  results := [.tmp 0]
  body := .seq (.ops (
      .op ⟨(some 0), .mov (.c (.bool false)), []⟩ <|
      .nil)) (
    .seq (.ops (
      .op ⟨(some 5), .build [(.int .i64 0), (.int .i64 0), (.int .i64 0), (.int .i64 0), (.int .i64 0), (.int .i64 0)] [(0, 1, (.c (.int .i64 1))), (2, 1, (.c (.int .i64 1))), (3, 1, (.c (.int .i64 1))), (4, 1, (.c (.int .i64 1)))], []⟩ <|
      .op ⟨(some 1), .alloc [(.int .i64 0), (.int .i64 0), (.int .i64 0), (.int .i64 0), (.int .i64 0), (.int .i64 0)], []⟩ <|
      .op ⟨none, .store 6 (.t 1) (.t 5), []⟩ <|
      .nil)) (
    .seq (.ops (
      .op ⟨(some 6), .loadN 6 (.t 1), []⟩ <|
      .op ⟨(some 7), .call 213 [(.t 6)], []⟩ <|
      .op ⟨(some 2), .mov (.t 7), []⟩ <|
      .nil)) (
    .seq (.seq (.ops (
      .op ⟨(some 8), .mov (.t 2), []⟩ <|
      .op ⟨(some 9), .eq false .ptr (.t 8) (.c .nilp), []⟩ <|
      .op ⟨(some 10), .mov (.t 9), []⟩ <|
      .grd 10 false [⟨(some 11), .mov (.t 2), []⟩,
          ⟨(some 12), .loadN 6 (.t 1), []⟩,
          ⟨(some 13), .call 261 [(.t 12), (.c (.int .i64 0))], []⟩,
          ⟨(some 14), .call 262 [], []⟩,
          ⟨(some 15), .call 203 [(.t 11), (.t 13), (.t 14)], []⟩,
          ⟨(some 16), .not (.t 15), []⟩] <|
      .op ⟨(some 17), .pick (.t 10) (.c (.bool true)) (.t 16), []⟩ <|
      .nil)) (
    .cond (.t 17) (.seq (.ops (
        .op ⟨(some 0), .mov (.c (.bool false)), []⟩ <|
        .nil)) (
      .ret)) (.skip))) (
    .seq (.ops (
      .op ⟨(some 18), .loadN 6 (.t 1), []⟩ <|
      .op ⟨(some 20), .loadN 6 (.t 1), []⟩ <|
      .op ⟨(some 19), .call 90 [(.t 18), (.c (.int .i64 0)), (.c (.int .u64 2))], [{ g := none, op := .loadN 6 (.t 1), d := 20 }]⟩ <|
      .op ⟨(some 21), .call 90 [(.t 20), (.c (.int .i64 0)), (.c (.int .u64 2))], []⟩ <|
      .op ⟨(some 3), .mov (.t 19), []⟩ <|
      .op ⟨(some 4), .mov (.t 21), []⟩ <|
      .nil)) (
    .seq (.seq (.ops (
      .op ⟨(some 22), .mov (.t 3), []⟩ <|
      .op ⟨(some 23), .eq false .ptr (.t 22) (.c .nilp), []⟩ <|
      .op ⟨(some 24), .mov (.t 23), []⟩ <|
      .grd 24 false [⟨(some 25), .mov (.t 4), []⟩,
          ⟨(some 26), .eq false .ptr (.t 25) (.c .nilp), []⟩] <|
      .op ⟨(some 27), .pick (.t 24) (.c (.bool true)) (.t 26), []⟩ <|
      .op ⟨(some 28), .mov (.t 27), []⟩ <|
      .grd 28 false [⟨(some 29), .mov (.t 3), []⟩,
          ⟨(some 30), .mov (.t 2), []⟩,
          ⟨(some 31), .call 91 [(.t 29), (.t 30)], []⟩] <|
      .op ⟨(some 32), .pick (.t 28) (.c (.bool true)) (.t 31), []⟩ <|
      .op ⟨(some 33), .mov (.t 32), []⟩ <|
      .grd 33 false [⟨(some 34), .mov (.t 4), []⟩,
          ⟨(some 35), .mov (.t 2), []⟩,
          ⟨(some 36), .call 91 [(.t 34), (.t 35)], []⟩] <|
      .op ⟨(some 37), .pick (.t 33) (.c (.bool true)) (.t 36), []⟩ <|
      .op ⟨(some 38), .mov (.t 37), []⟩ <|
      .grd 38 false [⟨(some 39), .mov (.t 3), []⟩,
          ⟨(some 40), .mov (.t 2), []⟩,
          ⟨(some 41), .call 91 [(.t 39), (.t 40)], []⟩] <|
      .op ⟨(some 42), .pick (.t 38) (.c (.bool true)) (.t 41), []⟩ <|
      .op ⟨(some 43), .mov (.t 42), []⟩ <|
      .grd 43 false [⟨(some 44), .mov (.t 4), []⟩,
          ⟨(some 45), .mov (.t 2), []⟩,
          ⟨(some 46), .call 91 [(.t 44), (.t 45)], []⟩] <|
      .op ⟨(some 47), .pick (.t 43) (.c (.bool true)) (.t 46), []⟩ <|
      .op ⟨(some 48), .mov (.t 47), []⟩ <|
      .grd 48 false [⟨(some 49), .mov (.t 2), []⟩,
          ⟨(some 50), .call 94 [(.t 49)], []⟩,
          ⟨(some 51), .indexA 1 (.t 50) (.c (.int .i64 2)), []⟩,
          ⟨(some 52), .load1 (.t 51), []⟩,
          ⟨(some 53), .cmp .neq .u64 (.t 52) (.c (.int .u64 2)), []⟩] <|
      .op ⟨(some 54), .pick (.t 48) (.c (.bool true)) (.t 53), []⟩ <|
      .nil)) (
    .cond (.t 54) (.seq (.ops (
        .op ⟨(some 0), .mov (.c (.bool false)), []⟩ <|
        .nil)) (
      .ret)) (.skip))) (
    .seq (.ops (
      .op ⟨(some 55), .mov (.t 3), []⟩ <|
      .op ⟨(some 56), .mov (.t 2), []⟩ <|
      .op ⟨(some 57), .call 91 [(.t 55), (.t 56)], []⟩ <|
      .op ⟨(some 58), .mov (.t 57), []⟩ <|
      .grd 58 true [⟨(some 59), .mov (.t 4), []⟩,
          ⟨(some 60), .mov (.t 2), []⟩,
          ⟨(some 61), .call 91 [(.t 59), (.t 60)], []⟩,
          ⟨(some 62), .not (.t 61), []⟩] <|
      .op ⟨(some 63), .pick (.t 58) (.t 62) (.c (.bool false)), []⟩ <|
      .op ⟨(some 64), .mov (.t 63), []⟩ <|
      .grd 64 true [⟨(some 65), .mov (.t 4), []⟩,
          ⟨(some 66), .mov (.t 2), []⟩,
          ⟨(some 67), .call 91 [(.t 65), (.t 66)], []⟩,
          ⟨(some 68), .not (.t 67), []⟩] <|
      .op ⟨(some 69), .pick (.t 64) (.t 68) (.c (.bool false)), []⟩ <|
      .op ⟨(some 70), .mov (.t 69), []⟩ <|
      .grd 70 true [⟨(some 71), .mov (.t 4), []⟩,
          ⟨(some 72), .mov (.t 2), []⟩,
          ⟨(some 73), .call 91 [(.t 71), (.t 72)], []⟩] <|
      .op ⟨(some 74), .pick (.t 70) (.t 73) (.c (.bool false)), []⟩ <|
      .op ⟨(some 75), .mov (.t 74), []⟩ <|
      .grd 75 true [⟨(some 76), .mov (.t 2), []⟩,
          ⟨(some 77), .call 94 [(.t 76)], []⟩,
          ⟨(some 78), .indexA 1 (.t 77) (.c (.int .i64 2)), []⟩,
          ⟨(some 79), .load1 (.t 78), []⟩,
          ⟨(some 80), .cmp .eql .u64 (.t 79) (.c (.int .u64 1)), []⟩] <|
      .op ⟨(some 81), .pick (.t 75) (.t 80) (.c (.bool false)), []⟩ <|
      .op ⟨(some 82), .mov (.t 81), []⟩ <|
      .grd 82 true [⟨(some 83), .mov (.t 3), []⟩,
          ⟨(some 84), .nilc (.t 83), []⟩,
          ⟨(some 85), .fieldA 0 (.t 84), []⟩,
          ⟨(some 86), .load1 (.t 85), []⟩] <|
      .op ⟨(some 87), .pick (.t 82) (.t 86) (.c (.bool false)), []⟩ <|
      .op ⟨(some 88), .mov (.t 87), []⟩ <|
      .grd 88 true [⟨(some 89), .mov (.t 4), []⟩,
          ⟨(some 90), .nilc (.t 89), []⟩,
          ⟨(some 91), .fieldA 0 (.t 90), []⟩,
          ⟨(some 92), .load1 (.t 91), []⟩,
          ⟨(some 93), .not (.t 92), []⟩] <|
      .op ⟨(some 94), .pick (.t 88) (.t 93) (.c (.bool false)), []⟩ <|
      .op ⟨(some 95), .mov (.t 94), []⟩ <|
      .grd 95 true [⟨(some 96), .loadN 6 (.t 1), []⟩,
          ⟨(some 97), .mov (.t 2), []⟩,
          ⟨(some 98), .call 94 [(.t 97)], [{ g := (some (95, true)), op := .loadN 6 (.t 1), d := 96 }]⟩,
          ⟨(some 99), .call 89 [(.t 96), (.t 98)], []⟩,
          ⟨(some 100), .cmp .eql .i64 (.t 99) (.c (.int .i64 1)), []⟩] <|
      .op ⟨(some 101), .pick (.t 95) (.t 100) (.c (.bool false)), []⟩ <|
      .op ⟨(some 0), .mov (.t 101), []⟩ <|
      .nil)) (
    .ret)))))))

def withylaw09_awake_hs : List (List Nat × List Nat) := []

end Wm.F
end

section
/- PRINTED by my tool (wip/wm/tool/Gen.lean): a function as one of my machine. -/
namespace Wm.F
open Wm
set_option maxRecDepth 100000

def withylaw09_grays_c1 : ACode :=
  .seq (.seq (.ops (
    .op ⟨(some 9), .mov (.t 6), []⟩ <|
    .op ⟨(some 10), .fieldA 0 (.t 2), []⟩ <|
    .op ⟨(some 11), .load1 (.t 10), []⟩ <|
    .op ⟨(some 12), .cmp .lss .i64 (.t 9) (.t 11), []⟩ <|
    .nil)) (
  .cond (.t 12) (.skip) (.exit 0))) (
  .seq (.block 1 (.seq (.ops (
    .op ⟨(some 16), .mov (.t 1), []⟩ <|
    .op ⟨(some 17), .loadN 6 (.t 2), []⟩ <|
    .op ⟨(some 18), .mov (.t 6), []⟩ <|
    .op ⟨(some 19), .build [(.str ⟨⟨[]⟩⟩), (.int .i64 0), (.int .i64 0)] [(0, 1, (.c (.str ⟨⟨[104, 101, 97, 100, 101, 114]⟩⟩))), (1, 1, (.t 18))], []⟩ <|
    .op ⟨(some 20), .call 108 [(.t 17), (.t 19)], []⟩ <|
    .op ⟨(some 21), .indexA 1 (.t 16) (.t 20), []⟩ <|
    .op ⟨(some 22), .load1 (.t 21), []⟩ <|
    .op ⟨(some 23), .call 109 [(.t 22)], []⟩ <|
    .op ⟨(some 15), .mov (.t 23), []⟩ <|
    .op ⟨(some 24), .extract (.t 15) 0, []⟩ <|
    .op ⟨(some 25), .extract (.t 15) 1, []⟩ <|
    .op ⟨(some 7), .alloc [(.int .i64 0), (.int .i64 0), (.bool false), (.int .i64 0), (.int .i64 0), (.int .i64 0)], []⟩ <|
    .op ⟨none, .store 6 (.t 7) (.t 24), []⟩ <|
    .op ⟨(some 8), .mov (.t 25), []⟩ <|
    .nil)) (
  .seq (.ops (
    .op ⟨(some 26), .mov (.t 8), []⟩ <|
    .op ⟨(some 27), .mov (.t 26), []⟩ <|
    .grd 27 true [⟨(some 28), .fieldA 2 (.t 7), []⟩,
        ⟨(some 29), .load1 (.t 28), []⟩] <|
    .op ⟨(some 30), .pick (.t 27) (.t 29) (.c (.bool false)), []⟩ <|
    .nil)) (
  .cond (.t 30) (.ops (
      .op ⟨(some 31), .mov (.t 5), []⟩ <|
      .op ⟨(some 32), .arith .add .i64 (.t 31) (.c (.int .i64 1)), []⟩ <|
      .op ⟨(some 5), .mov (.t 32), []⟩ <|
      .nil)) (.skip))))) (
  .ops (
    .op ⟨(some 13), .mov (.t 6), []⟩ <|
    .op ⟨(some 14), .arith .add .i64 (.t 13) (.c (.int .i64 1)), []⟩ <|
    .op ⟨(some 6), .mov (.t 14), []⟩ <|
    .nil)))

def withylaw09_grays_c0 : ACode :=
  .seq (.ops (
    .op ⟨(some 33), .mov (.t 5), []⟩ <|
    .op ⟨(some 4), .mov (.t 33), []⟩ <|
    .nil)) (
  .ret)

/-- 88: withy/withylaw09.grays -/
def withylaw09_grays : AFunc where
  closed := false
  nparams := 2
  ntmps := 34
  results := [.tmp 4]
  body := .seq (.ops (
      .op ⟨(some 2), .box (.t 0), []⟩ <|
      .op ⟨(some 4), .mov (.c (.int .i64 0)), []⟩ <|
      .nil)) (
    .seq (.ops (
      .op ⟨(some 5), .mov (.c (.int .i64 0)), []⟩ <|
      .nil)) (
    .seq (.seq (.ops (
      .op ⟨(some 6), .mov (.c (.int .i64 0)), []⟩ <|
      .nil)) (
    .block 0 (.loop [1, 2, 5, 6] [5] (withylaw09_grays_c1)))) (
    withylaw09_grays_c0)))

def withylaw09_grays_hs : List (List Nat × List Nat) := [([1, 2, 5, 6], [5])]

end Wm.F
end

section
/- PRINTED by my tool (wip/wm/tool/Gen.lean): a function as one of my machine. -/
namespace Wm.F
open Wm
set_option maxRecDepth 100000

/-- 90: withy/shade.NewShade -/
def shade_NewShade : AFunc where
  closed := false
  nparams := 3
  ntmps := 17
  results := [.tmp 6]
  body := .seq (.ops (
      .op ⟨(some 3), .box (.t 0), []⟩ <|
      .op ⟨(some 6), .mov (.c .nilp), []⟩ <|
      .nil)) (
    .seq (.ops (
      .op ⟨(some 8), .loadN 6 (.t 3), []⟩ <|
      .op ⟨(some 9), .mov (.t 1), []⟩ <|
      .op ⟨(some 10), .call 261 [(.t 8), (.t 9)], []⟩ <|
      .op ⟨(some 7), .mov (.t 10), []⟩ <|
      .nil)) (
    .seq (.seq (.ops (
      .op ⟨(some 11), .mov (.t 7), []⟩ <|
      .op ⟨(some 12), .cmp .lss .i64 (.t 11) (.c (.int .i64 0)), []⟩ <|
      .nil)) (
    .cond (.t 12) (.seq (.ops (
        .op ⟨(some 6), .mov (.c .nilp), []⟩ <|
        .nil)) (
      .ret)) (.skip))) (
    .seq (.ops (
      .op ⟨(some 13), .mov (.t 7), []⟩ <|
      .op ⟨(some 14), .mov (.t 2), []⟩ <|
      .op ⟨(some 15), .build [(.bool false), (.int .i64 0), (.int .u64 0), (.int .i64 0), (.int .u64 0)] [(1, 1, (.t 13)), (2, 1, (.t 14))], []⟩ <|
      .op ⟨(some 16), .box (.t 15), []⟩ <|
      .op ⟨(some 6), .mov (.t 16), []⟩ <|
      .nil)) (
    .ret))))

def shade_NewShade_hs : List (List Nat × List Nat) := []

end Wm.F
end

section
/- PRINTED by my tool (wip/wm/tool/Gen.lean): a function as one of my machine. -/
namespace Wm.F
open Wm
set_option maxRecDepth 100000

/-- 91: (*withy/shade.Shade).Step -/
def shade_Shade_Step : AFunc where
  closed := false
  nparams := 2
  ntmps := 99
  results := [.tmp 4]
  body := .seq (.ops (
      .op ⟨(some 4), .mov (.c (.bool false)), []⟩ <|
      .nil)) (
    .seq (.seq (.ops (
      .op ⟨(some 9), .mov (.t 0), []⟩ <|
      .op ⟨(some 10), .eq false .ptr (.t 9) (.c .nilp), []⟩ <|
      .nil)) (
    .cond (.t 10) (.seq (.ops (
        .op ⟨(some 4), .mov (.c (.bool true)), []⟩ <|
        .nil)) (
      .ret)) (.skip))) (
    .seq (.seq (.ops (
      .op ⟨(some 11), .mov (.t 0), []⟩ <|
      .op ⟨(some 12), .nilc (.t 11), []⟩ <|
      .op ⟨(some 13), .fieldA 3 (.t 12), []⟩ <|
      .op ⟨(some 14), .load1 (.t 13), []⟩ <|
      .nil)) (
    .block 0 (.seq (.ops (
      .op ⟨(some 16), .cmp .eql .i64 (.t 14) (.c (.int .i64 0)), []⟩ <|
      .op ⟨(some 15), .mov (.t 16), []⟩ <|
      .nil)) (
    .cond (.t 15) (.seq (.ops (
        .op ⟨(some 17), .mov (.t 0), []⟩ <|
        .op ⟨(some 18), .mov (.t 1), []⟩ <|
        .op ⟨(some 19), .mov (.t 0), []⟩ <|
        .op ⟨(some 20), .nilc (.t 19), []⟩ <|
        .op ⟨(some 21), .fieldA 1 (.t 20), []⟩ <|
        .op ⟨(some 22), .load1 (.t 21), []⟩ <|
        .op ⟨(some 23), .call 266 [(.t 18), (.t 22)], []⟩ <|
        .op ⟨(some 24), .nilc (.t 17), []⟩ <|
        .op ⟨(some 25), .fieldA 4 (.t 24), []⟩ <|
        .op ⟨none, .store 1 (.t 25) (.t 23), []⟩ <|
        .nil)) (
      .seq (.ops (
        .op ⟨(some 26), .mov (.t 0), []⟩ <|
        .op ⟨(some 27), .nilc (.t 26), []⟩ <|
        .op ⟨(some 28), .fieldA 3 (.t 27), []⟩ <|
        .op ⟨none, .store 1 (.t 28) (.c (.int .i64 1)), []⟩ <|
        .nil)) (
      .seq (.ops (
        .op ⟨(some 30), .mov (.t 0), []⟩ <|
        .op ⟨(some 31), .nilc (.t 30), []⟩ <|
        .op ⟨(some 32), .fieldA 4 (.t 31), []⟩ <|
        .op ⟨(some 33), .load1 (.t 32), []⟩ <|
        .op ⟨(some 34), .mov (.t 0), []⟩ <|
        .op ⟨(some 35), .nilc (.t 34), []⟩ <|
        .op ⟨(some 36), .fieldA 2 (.t 35), []⟩ <|
        .op ⟨(some 37), .load1 (.t 36), []⟩ <|
        .op ⟨(some 38), .call 267 [(.t 33), (.t 37)], []⟩ <|
        .op ⟨(some 29), .mov (.t 38), []⟩ <|
        .op ⟨(some 39), .extract (.t 29) 0, []⟩ <|
        .op ⟨(some 40), .extract (.t 29) 1, []⟩ <|
        .op ⟨(some 5), .mov (.t 39), []⟩ <|
        .op ⟨(some 6), .mov (.t 40), []⟩ <|
        .nil)) (
      .seq (.ops (
        .op ⟨(some 41), .mov (.t 6), []⟩ <|
        .op ⟨(some 42), .not (.t 41), []⟩ <|
        .nil)) (
      .cond (.t 42) (.ops (
          .op ⟨(some 43), .mov (.t 0), []⟩ <|
          .op ⟨(some 44), .nilc (.t 43), []⟩ <|
          .op ⟨(some 45), .fieldA 3 (.t 44), []⟩ <|
          .op ⟨none, .store 1 (.t 45) (.c (.int .i64 4)), []⟩ <|
          .nil)) (.skip)))))) (.seq (.ops (
        .op ⟨(some 47), .cmp .eql .i64 (.t 14) (.c (.int .i64 1)), []⟩ <|
        .op ⟨(some 46), .mov (.t 47), []⟩ <|
        .nil)) (
      .cond (.t 46) (.seq (.ops (
          .op ⟨(some 48), .mov (.t 1), []⟩ <|
          .op ⟨(some 49), .call 268 [(.t 48), (.c (.int .i64 2)), (.c (.int .u64 1))], []⟩ <|
          .nil)) (
        .ops (
          .op ⟨(some 50), .mov (.t 0), []⟩ <|
          .op ⟨(some 51), .nilc (.t 50), []⟩ <|
          .op ⟨(some 52), .fieldA 3 (.t 51), []⟩ <|
          .op ⟨none, .store 1 (.t 52) (.c (.int .i64 2)), []⟩ <|
          .nil))) (.seq (.ops (
          .op ⟨(some 54), .cmp .eql .i64 (.t 14) (.c (.int .i64 2)), []⟩ <|
          .op ⟨(some 53), .mov (.t 54), []⟩ <|
          .nil)) (
        .cond (.t 53) (.seq (.ops (
            .op ⟨(some 56), .mov (.t 0), []⟩ <|
            .op ⟨(some 57), .nilc (.t 56), []⟩ <|
            .op ⟨(some 58), .fieldA 4 (.t 57), []⟩ <|
            .op ⟨(some 59), .load1 (.t 58), []⟩ <|
            .op ⟨(some 60), .mov (.t 0), []⟩ <|
            .op ⟨(some 61), .nilc (.t 60), []⟩ <|
            .op ⟨(some 62), .fieldA 2 (.t 61), []⟩ <|
            .op ⟨(some 63), .load1 (.t 62), []⟩ <|
            .op ⟨(some 64), .call 267 [(.t 59), (.t 63)], []⟩ <|
            .op ⟨(some 55), .mov (.t 64), []⟩ <|
            .op ⟨(some 65), .extract (.t 55) 0, []⟩ <|
            .op ⟨(some 66), .extract (.t 55) 1, []⟩ <|
            .op ⟨(some 7), .mov (.t 65), []⟩ <|
            .op ⟨(some 8), .mov (.t 66), []⟩ <|
            .nil)) (
          .seq (.ops (
            .op ⟨(some 67), .mov (.t 0), []⟩ <|
            .op ⟨(some 68), .nilc (.t 67), []⟩ <|
            .op ⟨(some 69), .fieldA 3 (.t 68), []⟩ <|
            .op ⟨none, .store 1 (.t 69) (.c (.int .i64 3)), []⟩ <|
            .nil)) (
          .seq (.ops (
            .op ⟨(some 70), .mov (.t 1), []⟩ <|
            .op ⟨(some 71), .mov (.t 0), []⟩ <|
            .op ⟨(some 72), .nilc (.t 71), []⟩ <|
            .op ⟨(some 73), .fieldA 1 (.t 72), []⟩ <|
            .op ⟨(some 74), .load1 (.t 73), []⟩ <|
            .op ⟨(some 75), .mov (.t 0), []⟩ <|
            .op ⟨(some 76), .nilc (.t 75), []⟩ <|
            .op ⟨(some 77), .fieldA 4 (.t 76), []⟩ <|
            .op ⟨(some 78), .load1 (.t 77), []⟩ <|
            .op ⟨(some 79), .mov (.t 7), []⟩ <|
            .op ⟨(some 80), .call 269 [(.t 70), (.t 74), (.t 78), (.t 79)], []⟩ <|
            .nil)) (
          .cond (.t 80) (.ops (
              .op ⟨(some 81), .mov (.t 0), []⟩ <|
              .op ⟨(some 82), .mov (.t 0), []⟩ <|
              .op ⟨(some 83), .nilc (.t 81), []⟩ <|
              .op ⟨(some 84), .fieldA 0 (.t 83), []⟩ <|
              .op ⟨none, .store 1 (.t 84) (.c (.bool true)), []⟩ <|
              .op ⟨(some 85), .nilc (.t 82), []⟩ <|
              .op ⟨(some 86), .fieldA 3 (.t 85), []⟩ <|
              .op ⟨none, .store 1 (.t 86) (.c (.int .i64 4)), []⟩ <|
              .nil)) (.skip))))) (.seq (.ops (
            .op ⟨(some 88), .cmp .eql .i64 (.t 14) (.c (.int .i64 3)), []⟩ <|
            .op ⟨(some 87), .mov (.t 88), []⟩ <|
            .nil)) (
          .cond (.t 87) (.seq (.ops (
              .op ⟨(some 89), .mov (.t 1), []⟩ <|
              .op ⟨(some 90), .call 268 [(.t 89), (.c (.int .i64 2)), (.c (.int .u64 18446744073709551615))], []⟩ <|
              .nil)) (
            .ops (
              .op ⟨(some 91), .mov (.t 0), []⟩ <|
              .op ⟨(some 92), .nilc (.t 91), []⟩ <|
              .op ⟨(some 93), .fieldA 3 (.t 92), []⟩ <|
              .op ⟨none, .store 1 (.t 93) (.c (.int .i64 0)), []⟩ <|
              .nil))) (.skip))))))))))) (
    .seq (.ops (
      .op ⟨(some 94), .mov (.t 0), []⟩ <|
      .op ⟨(some 95), .nilc (.t 94), []⟩ <|
      .op ⟨(some 96), .fieldA 3 (.t 95), []⟩ <|
      .op ⟨(some 97), .load1 (.t 96), []⟩ <|
      .op ⟨(some 98), .cmp .eql .i64 (.t 97) (.c (.int .i64 4)), []⟩ <|
      .op ⟨(some 4), .mov (.t 98), []⟩ <|
      .nil)) (
    .ret))))

def shade_Shade_Step_hs : List (List Nat × List Nat) := []

end Wm.F
end

section
/- PRINTED by my tool (wip/wm/tool/Gen.lean): a function as one of my machine. -/
namespace Wm.F
open Wm
set_option maxRecDepth 100000

/-- 92: withy/withyref06.Fit -/
def withyref06_Fit : AFunc where
  closed := true
  nparams := 1
  ntmps := 22
  results := [.cell true 6 2]
  body := .seq (.ops (
      .op ⟨(some 1), .box (.t 0), []⟩ <|
      .op ⟨(some 2), .alloc [(.int .i64 0), (.int .i64 0), (.int .i64 0), (.int .i64 0), (.int .i64 0), (.int .i64 0)], []⟩ <|
      .nil)) (
    .seq (.ops (
      .op ⟨(some 3), .fieldA 0 (.t 1), []⟩ <|
      .op ⟨(some 4), .load1 (.t 3), []⟩ <|
      .op ⟨(some 6), .fieldA 1 (.t 1), []⟩ <|
      .op ⟨(some 7), .load1 (.t 6), []⟩ <|
      .op ⟨(some 9), .fieldA 2 (.t 1), []⟩ <|
      .op ⟨(some 10), .load1 (.t 9), []⟩ <|
      .op ⟨(some 12), .fieldA 3 (.t 1), []⟩ <|
      .op ⟨(some 13), .load1 (.t 12), []⟩ <|
      .op ⟨(some 15), .fieldA 4 (.t 1), []⟩ <|
      .op ⟨(some 16), .load1 (.t 15), []⟩ <|
      .op ⟨(some 18), .fieldA 5 (.t 1), []⟩ <|
      .op ⟨(some 19), .load1 (.t 18), []⟩ <|
      .op ⟨(some 5), .call 270 [(.t 4), (.c (.int .i64 1)), (.c (.int .i64 12))], [{ g := none, op := .load1 (.t 18), d := 19 }, { g := none, op := .load1 (.t 15), d := 16 }, { g := none, op := .load1 (.t 12), d := 13 }, { g := none, op := .load1 (.t 9), d := 10 }, { g := none, op := .load1 (.t 6), d := 7 }]⟩ <|
      .op ⟨(some 8), .call 270 [(.t 7), (.c (.int .i64 0)), (.c (.int .i64 4))], [{ g := none, op := .load1 (.t 18), d := 19 }, { g := none, op := .load1 (.t 15), d := 16 }, { g := none, op := .load1 (.t 12), d := 13 }, { g := none, op := .load1 (.t 9), d := 10 }]⟩ <|
      .op ⟨(some 11), .call 270 [(.t 10), (.c (.int .i64 1)), (.c (.int .i64 4))], [{ g := none, op := .load1 (.t 18), d := 19 }, { g := none, op := .load1 (.t 15), d := 16 }, { g := none, op := .load1 (.t 12), d := 13 }]⟩ <|
      .op ⟨(some 14), .call 270 [(.t 13), (.c (.int .i64 1)), (.c (.int .i64 4))], [{ g := none, op := .load1 (.t 18), d := 19 }, { g := none, op := .load1 (.t 15), d := 16 }]⟩ <|
      .op ⟨(some 17), .call 270 [(.t 16), (.c (.int .i64 1)), (.c (.int .i64 40))], [{ g := none, op := .load1 (.t 18), d := 19 }]⟩ <|
      .op ⟨(some 20), .call 270 [(.t 19), (.c (.int .i64 0)), (.c (.int .i64 6))], []⟩ <|
      .op ⟨(some 21), .build [(.int .i64 0), (.int .i64 0), (.int .i64 0), (.int .i64 0), (.int .i64 0), (.int .i64 0)] [(0, 1, (.t 5)), (1, 1, (.t 8)), (2, 1, (.t 11)), (3, 1, (.t 14)), (4, 1, (.t 17)), (5, 1, (.t 20))], []⟩ <|
      .op ⟨none, .store 6 (.t 2) (.t 21), []⟩ <|
      .nil)) (
    .ret))

def withyref06_Fit_hs : List (List Nat × List Nat) := []

end Wm.F
end

section
/- PRINTED by my tool (wip/wm/tool/Gen.lean): a function as one of my machine. -/
namespace Wm.F
open Wm
set_option maxRecDepth 100000

def withylaw09_filled_c1 : ACode :=
  .seq (.seq (.ops (
    .op ⟨(some 12), .mov (.t 8), []⟩ <|
    .op ⟨(some 13), .fieldA 0 (.t 3), []⟩ <|
    .op ⟨(some 14), .load1 (.t 13), []⟩ <|
    .op ⟨(some 15), .cmp .lss .i64 (.t 12) (.t 14), []⟩ <|
    .op ⟨(some 16), .mov (.t 15), []⟩ <|
    .grd 16 true [⟨(some 17), .mov (.t 8), []⟩,
        ⟨(some 18), .mov (.t 1), []⟩,
        ⟨(some 19), .lenSl (.t 18), []⟩,
        ⟨(some 20), .cmp .lss .i64 (.t 17) (.t 19), []⟩] <|
    .op ⟨(some 21), .pick (.t 16) (.t 20) (.c (.bool false)), []⟩ <|
    .nil)) (
  .cond (.t 21) (.skip) (.exit 0))) (
  .seq (.block 1 (.seq (.ops (
    .op ⟨(some 24), .mov (.t 1), []⟩ <|
    .op ⟨(some 25), .mov (.t 8), []⟩ <|
    .op ⟨(some 26), .indexA 6 (.t 24) (.t 25), []⟩ <|
    .op ⟨(some 27), .loadN 6 (.t 26), []⟩ <|
    .op ⟨(some 9), .alloc [(.int .i64 0), (.int .i64 0), (.bool false), (.int .i64 0), (.int .i64 0), (.int .i64 0)], []⟩ <|
    .op ⟨none, .store 6 (.t 9) (.t 27), []⟩ <|
    .nil)) (
  .seq (.ops (
    .op ⟨(some 28), .fieldA 2 (.t 9), []⟩ <|
    .op ⟨(some 29), .load1 (.t 28), []⟩ <|
    .op ⟨(some 30), .mov (.t 29), []⟩ <|
    .grd 30 true [⟨(some 31), .fieldA 1 (.t 9), []⟩,
        ⟨(some 32), .load1 (.t 31), []⟩,
        ⟨(some 33), .mov (.t 2), []⟩,
        ⟨(some 34), .call 110 [(.t 33)], [{ g := (some (30, true)), op := .load1 (.t 31), d := 32 }]⟩,
        ⟨(some 35), .cmp .eql .i64 (.t 32) (.t 34), []⟩] <|
    .op ⟨(some 36), .pick (.t 30) (.t 35) (.c (.bool false)), []⟩ <|
    .op ⟨(some 37), .fieldA 2 (.t 9), []⟩ <|
    .op ⟨none, .store 1 (.t 37) (.t 36), []⟩ <|
    .nil)) (
  .seq (.ops (
    .op ⟨(some 38), .loadN 6 (.t 9), []⟩ <|
    .op ⟨(some 39), .call 202 [(.t 38)], []⟩ <|
    .nil)) (
  .cond (.t 39) (.ops (
      .op ⟨(some 40), .mov (.t 7), []⟩ <|
      .op ⟨(some 41), .loadN 6 (.t 3), []⟩ <|
      .op ⟨(some 42), .mov (.t 8), []⟩ <|
      .op ⟨(some 43), .build [(.str ⟨⟨[]⟩⟩), (.int .i64 0), (.int .i64 0)] [(0, 1, (.c (.str ⟨⟨[104, 101, 97, 100, 101, 114]⟩⟩))), (1, 1, (.t 42))], []⟩ <|
      .op ⟨(some 45), .loadN 6 (.t 9), []⟩ <|
      .op ⟨(some 44), .call 108 [(.t 41), (.t 43)], [{ g := none, op := .loadN 6 (.t 9), d := 45 }]⟩ <|
      .op ⟨(some 46), .call 111 [(.t 45)], []⟩ <|
      .op ⟨(some 47), .indexA 1 (.t 40) (.t 44), []⟩ <|
      .op ⟨none, .store 1 (.t 47) (.t 46), []⟩ <|
      .nil)) (.skip)))))) (
  .ops (
    .op ⟨(some 22), .mov (.t 8), []⟩ <|
    .op ⟨(some 23), .arith .add .i64 (.t 22) (.c (.int .i64 1)), []⟩ <|
    .op ⟨(some 8), .mov (.t 23), []⟩ <|
    .nil)))

def withylaw09_filled_c0 : ACode :=
  .seq (.ops (
    .op ⟨(some 48), .mov (.t 7), []⟩ <|
    .op ⟨(some 49), .loadN 6 (.t 3), []⟩ <|
    .op ⟨(some 50), .mov (.t 7), []⟩ <|
    .op ⟨(some 51), .call 88 [(.t 49), (.t 50)], []⟩ <|
    .op ⟨(some 52), .conv .u64 (.t 51), []⟩ <|
    .op ⟨(some 53), .indexA 1 (.t 48) (.c (.int .i64 2)), []⟩ <|
    .op ⟨none, .store 1 (.t 53) (.t 52), []⟩ <|
    .nil)) (
  .seq (.ops (
    .op ⟨(some 54), .mov (.t 7), []⟩ <|
    .op ⟨(some 55), .call 198 [(.t 54)], []⟩ <|
    .op ⟨(some 6), .mov (.t 55), []⟩ <|
    .nil)) (
  .ret))

/-- 93: withy/withylaw09.filled -/
def withylaw09_filled : AFunc where
  closed := false
  nparams := 3
  ntmps := 56
  results := [.tmp 6]
  body := .seq (.ops (
      .op ⟨(some 3), .box (.t 0), []⟩ <|
      .op ⟨(some 6), .mov (.c .nilp), []⟩ <|
      .nil)) (
    .seq (.ops (
      .op ⟨(some 10), .loadN 6 (.t 3), []⟩ <|
      .op ⟨(some 11), .call 86 [(.t 10)], []⟩ <|
      .op ⟨(some 7), .mov (.t 11), []⟩ <|
      .nil)) (
    .seq (.seq (.ops (
      .op ⟨(some 8), .mov (.c (.int .i64 0)), []⟩ <|
      .nil)) (
    .block 0 (.loop [1, 2, 3, 7, 8] [3, 7] (withylaw09_filled_c1)))) (
    withylaw09_filled_c0)))

def withylaw09_filled_hs : List (List Nat × List Nat) := [([1, 2, 3, 7, 8], [3, 7])]

end Wm.F
end

section
/- PRINTED by my tool (wip/wm/tool/Gen.lean): a function as one of my machine. -/
namespace Wm.F
open Wm
set_option maxRecDepth 100000

/-- 94: (*withy/mem.Mem).Words -/
def mem_Mem_Words : AFunc where
  closed := false
  nparams := 1
  ntmps := 10
  results := [.tmp 2]
  body := .seq (.ops (
      .op ⟨(some 2), .mov (.c .nilsl), []⟩ <|
      .nil)) (
    .seq (.seq (.ops (
      .op ⟨(some 3), .mov (.t 0), []⟩ <|
      .op ⟨(some 4), .eq false .ptr (.t 3) (.c .nilp), []⟩ <|
      .nil)) (
    .cond (.t 4) (.seq (.ops (
        .op ⟨(some 2), .mov (.c .nilsl), []⟩ <|
        .nil)) (
      .ret)) (.skip))) (
    .seq (.ops (
      .op ⟨(some 5), .mov (.t 0), []⟩ <|
      .op ⟨(some 6), .nilc (.t 5), []⟩ <|
      .op ⟨(some 7), .fieldA 0 (.t 6), []⟩ <|
      .op ⟨(some 8), .load1 (.t 7), []⟩ <|
      .op ⟨(some 9), .call 271 [(.t 8)], []⟩ <|
      .op ⟨(some 2), .mov (.t 9), []⟩ <|
      .nil)) (
    .ret)))

def mem_Mem_Words_hs : List (List Nat × List Nat) := []

end Wm.F
end

section
/- PRINTED by my tool (wip/wm/tool/Gen.lean): a function as one of my machine. -/
namespace Wm.F
open Wm
set_option maxRecDepth 100000

/-- 107: (*withy/mem.Mem).Touches -/
def mem_Mem_Touches : AFunc where
  closed := false
  nparams := 1
  ntmps := 9
  results := [.tmp 2]
  body := .seq (.ops (
      .op ⟨(some 2), .mov (.c (.int .i64 0)), []⟩ <|
      .nil)) (
    .seq (.seq (.ops (
      .op ⟨(some 3), .mov (.t 0), []⟩ <|
      .op ⟨(some 4), .eq false .ptr (.t 3) (.c .nilp), []⟩ <|
      .nil)) (
    .cond (.t 4) (.seq (.ops (
        .op ⟨(some 2), .mov (.c (.int .i64 0)), []⟩ <|
        .nil)) (
      .ret)) (.skip))) (
    .seq (.ops (
      .op ⟨(some 5), .mov (.t 0), []⟩ <|
      .op ⟨(some 6), .nilc (.t 5), []⟩ <|
      .op ⟨(some 7), .fieldA 1 (.t 6), []⟩ <|
      .op ⟨(some 8), .load1 (.t 7), []⟩ <|
      .op ⟨(some 2), .mov (.t 8), []⟩ <|
      .nil)) (
    .ret)))

def mem_Mem_Touches_hs : List (List Nat × List Nat) := []

end Wm.F
end

section
/- PRINTED by my tool (wip/wm/tool/Gen.lean): a function as one of my machine. -/
namespace Wm.F
open Wm
set_option maxRecDepth 100000

def withyref06_At_c1 : ACode :=
  .seq (.seq (.ops (
    .op ⟨(some 12), .mov (.t 6), []⟩ <|
    .op ⟨(some 13), .mov (.t 5), []⟩ <|
    .op ⟨(some 14), .lenSl (.t 13), []⟩ <|
    .op ⟨(some 15), .cmp .lss .i64 (.t 12) (.t 14), []⟩ <|
    .nil)) (
  .cond (.t 15) (.skip) (.exit 0))) (
  .seq (.block 1 (.seq (.ops (
    .op ⟨(some 18), .mov (.t 5), []⟩ <|
    .op ⟨(some 19), .mov (.t 6), []⟩ <|
    .op ⟨(some 20), .indexA 3 (.t 18) (.t 19), []⟩ <|
    .op ⟨(some 21), .loadN 3 (.t 20), []⟩ <|
    .op ⟨(some 22), .loadN 3 (.t 3), []⟩ <|
    .op ⟨(some 23), .eq false (.agg [(0, .str), (1, .int), (2, .int)]) (.t 21) (.t 22), []⟩ <|
    .nil)) (
  .cond (.t 23) (.seq (.ops (
      .op ⟨(some 24), .mov (.t 6), []⟩ <|
      .op ⟨(some 4), .mov (.t 24), []⟩ <|
      .nil)) (
    .ret)) (.skip)))) (
  .ops (
    .op ⟨(some 16), .mov (.t 6), []⟩ <|
    .op ⟨(some 17), .arith .add .i64 (.t 16) (.c (.int .i64 1)), []⟩ <|
    .op ⟨(some 6), .mov (.t 17), []⟩ <|
    .nil)))

def withyref06_At_c0 : ACode :=
  .seq (.ops (
    .op ⟨(some 4), .mov (.c (.int .i64 (-1))), []⟩ <|
    .nil)) (
  .ret)

/-- 108: withy/withyref06.At -/
def withyref06_At : AFunc where
  closed := true
  nparams := 2
  ntmps := 25
  results := [.tmp 4]
  body := .seq (.ops (
      .op ⟨(some 2), .box (.t 0), []⟩ <|
      .op ⟨(some 3), .box (.t 1), []⟩ <|
      .op ⟨(some 4), .mov (.c (.int .i64 0)), []⟩ <|
      .nil)) (
    .seq (.seq (.ops (
      .op ⟨(some 7), .loadN 6 (.t 2), []⟩ <|
      .op ⟨(some 8), .call 85 [(.t 7)], []⟩ <|
      .op ⟨(some 9), .not (.t 8), []⟩ <|
      .nil)) (
    .cond (.t 9) (.seq (.ops (
        .op ⟨(some 4), .mov (.c (.int .i64 (-1))), []⟩ <|
        .nil)) (
      .ret)) (.skip))) (
    .seq (.ops (
      .op ⟨(some 10), .loadN 6 (.t 2), []⟩ <|
      .op ⟨(some 11), .call 87 [(.t 10)], []⟩ <|
      .op ⟨(some 5), .mov (.t 11), []⟩ <|
      .nil)) (
    .seq (.seq (.ops (
      .op ⟨(some 6), .mov (.c (.int .i64 0)), []⟩ <|
      .nil)) (
    .block 0 (.loop [3, 5, 6] [4] (withyref06_At_c1)))) (
    withyref06_At_c0))))

def withyref06_At_hs : List (List Nat × List Nat) := [([3, 5, 6], [4])]

end Wm.F
end

section
/- PRINTED by my tool (wip/wm/tool/Gen.lean): a function as one of my machine. -/
namespace Wm.F
open Wm
set_option maxRecDepth 100000

/-- 109: withy/withyref04.Unpack -/
def withyref04_Unpack : AFunc where
  closed := true
  nparams := 1
  ntmps := 39
  results := [.cell true 6 2, .tmp 3]
  body := .seq (.ops (
      .op ⟨(some 2), .alloc [(.int .i64 0), (.int .i64 0), (.bool false), (.int .i64 0), (.int .i64 0), (.int .i64 0)], []⟩ <|
      .op ⟨(some 3), .mov (.c (.bool false)), []⟩ <|
      .nil)) (
    .seq (.ops (
      .op ⟨(some 5), .mov (.t 0), []⟩ <|
      .op ⟨(some 6), .arith .rem .u64 (.t 5) (.c (.int .u64 8)), []⟩ <|
      .op ⟨(some 7), .conv .i64 (.t 6), []⟩ <|
      .op ⟨(some 8), .mov (.t 0), []⟩ <|
      .op ⟨(some 9), .arith .quo .u64 (.t 8) (.c (.int .u64 8)), []⟩ <|
      .op ⟨(some 10), .arith .rem .u64 (.t 9) (.c (.int .u64 2)), []⟩ <|
      .op ⟨(some 11), .conv .i64 (.t 10), []⟩ <|
      .op ⟨(some 12), .mov (.t 0), []⟩ <|
      .op ⟨(some 13), .arith .quo .u64 (.t 12) (.c (.int .u64 16)), []⟩ <|
      .op ⟨(some 14), .arith .rem .u64 (.t 13) (.c (.int .u64 2)), []⟩ <|
      .op ⟨(some 15), .cmp .eql .u64 (.t 14) (.c (.int .u64 1)), []⟩ <|
      .op ⟨(some 16), .mov (.t 0), []⟩ <|
      .op ⟨(some 17), .arith .quo .u64 (.t 16) (.c (.int .u64 32)), []⟩ <|
      .op ⟨(some 18), .arith .rem .u64 (.t 17) (.c (.int .u64 16)), []⟩ <|
      .op ⟨(some 19), .conv .i64 (.t 18), []⟩ <|
      .op ⟨(some 20), .mov (.t 0), []⟩ <|
      .op ⟨(some 21), .arith .quo .u64 (.t 20) (.c (.int .u64 65536)), []⟩ <|
      .op ⟨(some 22), .arith .rem .u64 (.t 21) (.c (.int .u64 4294967296)), []⟩ <|
      .op ⟨(some 23), .conv .i64 (.t 22), []⟩ <|
      .op ⟨(some 24), .mov (.t 0), []⟩ <|
      .op ⟨(some 25), .arith .quo .u64 (.t 24) (.c (.int .u64 281474976710656)), []⟩ <|
      .op ⟨(some 26), .conv .i64 (.t 25), []⟩ <|
      .op ⟨(some 27), .build [(.int .i64 0), (.int .i64 0), (.bool false), (.int .i64 0), (.int .i64 0), (.int .i64 0)] [(0, 1, (.t 7)), (1, 1, (.t 11)), (2, 1, (.t 15)), (3, 1, (.t 19)), (4, 1, (.t 23)), (5, 1, (.t 26))], []⟩ <|
      .op ⟨(some 4), .alloc [(.int .i64 0), (.int .i64 0), (.bool false), (.int .i64 0), (.int .i64 0), (.int .i64 0)], []⟩ <|
      .op ⟨none, .store 6 (.t 4) (.t 27), []⟩ <|
      .nil)) (
    .seq (.seq (.ops (
      .op ⟨(some 28), .fieldA 0 (.t 4), []⟩ <|
      .op ⟨(some 29), .load1 (.t 28), []⟩ <|
      .op ⟨(some 30), .cmp .gtr .i64 (.t 29) (.c (.int .i64 4)), []⟩ <|
      .op ⟨(some 31), .mov (.t 30), []⟩ <|
      .grd 31 false [⟨(some 32), .mov (.t 0), []⟩,
          ⟨(some 33), .arith .quo .u64 (.t 32) (.c (.int .u64 512)), []⟩,
          ⟨(some 34), .arith .rem .u64 (.t 33) (.c (.int .u64 128)), []⟩,
          ⟨(some 35), .cmp .neq .u64 (.t 34) (.c (.int .u64 0)), []⟩] <|
      .op ⟨(some 36), .pick (.t 31) (.c (.bool true)) (.t 35), []⟩ <|
      .nil)) (
    .cond (.t 36) (.seq (.ops (
        .op ⟨(some 37), .build [(.int .i64 0), (.int .i64 0), (.bool false), (.int .i64 0), (.int .i64 0), (.int .i64 0)] [], []⟩ <|
        .op ⟨none, .store 6 (.t 2) (.t 37), []⟩ <|
        .op ⟨(some 3), .mov (.c (.bool false)), []⟩ <|
        .nil)) (
      .ret)) (.skip))) (
    .seq (.ops (
      .op ⟨(some 38), .loadN 6 (.t 4), []⟩ <|
      .op ⟨none, .store 6 (.t 2) (.t 38), []⟩ <|
      .op ⟨(some 3), .mov (.c (.bool true)), []⟩ <|
      .nil)) (
    .ret))))

def withyref04_Unpack_hs : List (List Nat × List Nat) := []

end Wm.F
end

section
/- PRINTED by my tool (wip/wm/tool/Gen.lean): a function as one of my machine. -/
namespace Wm.F
open Wm
set_option maxRecDepth 100000

/-- 110: withy/withyref03.Black -/
def withyref03_Black : AFunc where
  closed := true
  nparams := 1
  ntmps := 7
  results := [.tmp 2]
  body := .seq (.ops (
      .op ⟨(some 2), .mov (.c (.int .i64 0)), []⟩ <|
      .nil)) (
    .seq (.seq (.ops (
      .op ⟨(some 3), .mov (.t 0), []⟩ <|
      .op ⟨(some 4), .arith .quo .u64 (.t 3) (.c (.int .u64 4)), []⟩ <|
      .op ⟨(some 5), .arith .rem .u64 (.t 4) (.c (.int .u64 2)), []⟩ <|
      .op ⟨(some 6), .cmp .eql .u64 (.t 5) (.c (.int .u64 0)), []⟩ <|
      .nil)) (
    .cond (.t 6) (.seq (.ops (
        .op ⟨(some 2), .mov (.c (.int .i64 1)), []⟩ <|
        .nil)) (
      .ret)) (.skip))) (
    .seq (.ops (
      .op ⟨(some 2), .mov (.c (.int .i64 0)), []⟩ <|
      .nil)) (
    .ret)))

def withyref03_Black_hs : List (List Nat × List Nat) := []

end Wm.F
end

section
/- PRINTED by my tool (wip/wm/tool/Gen.lean): a function as one of my machine. -/
namespace Wm.F
open Wm
set_option maxRecDepth 100000

/-- 111: withy/withyref04.Pack -/
def withyref04_Pack : AFunc where
  closed := true
  nparams := 1
  ntmps := 32
  results := [.tmp 2]
  body := .seq (.ops (
      .op ⟨(some 1), .box (.t 0), []⟩ <|
      .op ⟨(some 2), .mov (.c (.int .u64 0)), []⟩ <|
      .nil)) (
    .seq (.ops (
      .op ⟨(some 4), .fieldA 0 (.t 1), []⟩ <|
      .op ⟨(some 5), .load1 (.t 4), []⟩ <|
      .op ⟨(some 6), .conv .u64 (.t 5), []⟩ <|
      .op ⟨(some 7), .fieldA 1 (.t 1), []⟩ <|
      .op ⟨(some 8), .load1 (.t 7), []⟩ <|
      .op ⟨(some 9), .conv .u64 (.t 8), []⟩ <|
      .op ⟨(some 10), .arith .mul .u64 (.c (.int .u64 8)) (.t 9), []⟩ <|
      .op ⟨(some 11), .arith .add .u64 (.t 6) (.t 10), []⟩ <|
      .op ⟨(some 12), .fieldA 3 (.t 1), []⟩ <|
      .op ⟨(some 13), .load1 (.t 12), []⟩ <|
      .op ⟨(some 14), .conv .u64 (.t 13), []⟩ <|
      .op ⟨(some 15), .arith .mul .u64 (.c (.int .u64 32)) (.t 14), []⟩ <|
      .op ⟨(some 16), .arith .add .u64 (.t 11) (.t 15), []⟩ <|
      .op ⟨(some 17), .fieldA 4 (.t 1), []⟩ <|
      .op ⟨(some 18), .load1 (.t 17), []⟩ <|
      .op ⟨(some 19), .conv .u64 (.t 18), []⟩ <|
      .op ⟨(some 20), .arith .mul .u64 (.c (.int .u64 65536)) (.t 19), []⟩ <|
      .op ⟨(some 21), .arith .add .u64 (.t 16) (.t 20), []⟩ <|
      .op ⟨(some 22), .fieldA 5 (.t 1), []⟩ <|
      .op ⟨(some 23), .load1 (.t 22), []⟩ <|
      .op ⟨(some 24), .conv .u64 (.t 23), []⟩ <|
      .op ⟨(some 25), .arith .mul .u64 (.c (.int .u64 281474976710656)) (.t 24), []⟩ <|
      .op ⟨(some 26), .arith .add .u64 (.t 21) (.t 25), []⟩ <|
      .op ⟨(some 3), .mov (.t 26), []⟩ <|
      .nil)) (
    .seq (.seq (.ops (
      .op ⟨(some 27), .fieldA 2 (.t 1), []⟩ <|
      .op ⟨(some 28), .load1 (.t 27), []⟩ <|
      .nil)) (
    .cond (.t 28) (.ops (
        .op ⟨(some 29), .mov (.t 3), []⟩ <|
        .op ⟨(some 30), .arith .add .u64 (.t 29) (.c (.int .u64 16)), []⟩ <|
        .op ⟨(some 3), .mov (.t 30), []⟩ <|
        .nil)) (.skip))) (
    .seq (.ops (
      .op ⟨(some 31), .mov (.t 3), []⟩ <|
      .op ⟨(some 2), .mov (.t 31), []⟩ <|
      .nil)) (
    .ret))))

def withyref04_Pack_hs : List (List Nat × List Nat) := []

end Wm.F
end

section
/- PRINTED by my tool (wip/wm/tool/Gen.lean): a function as one of my machine. -/
namespace Wm.F
open Wm
set_option maxRecDepth 100000

def shade_Grays_c1 : ACode :=
  .seq (.ops (
    .op ⟨(some 22), .cmp .lss .i64 (.t 21) (.t 20), []⟩ <|
    .nil)) (
  .seq (.cond (.t 22) (.skip) (.exit 0)) (
  .seq (.block 1 (.seq (.ops (
    .op ⟨(some 23), .mov (.t 21), []⟩ <|
    .op ⟨(some 6), .mov (.t 23), []⟩ <|
    .nil)) (
  .seq (.ops (
    .op ⟨(some 25), .mov (.t 1), []⟩ <|
    .op ⟨(some 26), .loadN 6 (.t 2), []⟩ <|
    .op ⟨(some 27), .mov (.t 6), []⟩ <|
    .op ⟨(some 28), .call 261 [(.t 26), (.t 27)], []⟩ <|
    .op ⟨(some 29), .indexA 1 (.t 25) (.t 28), []⟩ <|
    .op ⟨(some 30), .load1 (.t 29), []⟩ <|
    .op ⟨(some 31), .call 265 [(.t 30)], []⟩ <|
    .op ⟨(some 24), .mov (.t 31), []⟩ <|
    .op ⟨(some 32), .extract (.t 24) 0, []⟩ <|
    .op ⟨(some 33), .extract (.t 24) 1, []⟩ <|
    .op ⟨(some 7), .alloc [(.int .i64 0), (.int .i64 0), (.bool false), (.int .i64 0), (.int .i64 0), (.int .i64 0)], []⟩ <|
    .op ⟨none, .store 6 (.t 7) (.t 32), []⟩ <|
    .op ⟨(some 8), .mov (.t 33), []⟩ <|
    .nil)) (
  .seq (.ops (
    .op ⟨(some 34), .mov (.t 8), []⟩ <|
    .op ⟨(some 35), .mov (.t 34), []⟩ <|
    .grd 35 true [⟨(some 36), .fieldA 2 (.t 7), []⟩,
        ⟨(some 37), .load1 (.t 36), []⟩] <|
    .op ⟨(some 38), .pick (.t 35) (.t 37) (.c (.bool false)), []⟩ <|
    .nil)) (
  .cond (.t 38) (.ops (
      .op ⟨(some 39), .mov (.t 5), []⟩ <|
      .op ⟨(some 40), .arith .add .i64 (.t 39) (.c (.int .i64 1)), []⟩ <|
      .op ⟨(some 5), .mov (.t 40), []⟩ <|
      .nil)) (.skip)))))) (
  .ops (
    .op ⟨(some 41), .arith .add .i64 (.t 21) (.c (.int .i64 1)), []⟩ <|
    .op ⟨(some 21), .mov (.t 41), []⟩ <|
    .nil))))

def shade_Grays_c0 : ACode :=
  .seq (.ops (
    .op ⟨(some 42), .mov (.t 5), []⟩ <|
    .op ⟨(some 4), .mov (.t 42), []⟩ <|
    .nil)) (
  .ret)

/-- 89: withy/shade.Grays -/
def shade_Grays : AFunc where
  closed := false
  nparams := 2
  ntmps := 43
  results := [.tmp 4]
  body := .seq (.ops (
      .op ⟨(some 2), .box (.t 0), []⟩ <|
      .op ⟨(some 4), .mov (.c (.int .i64 0)), []⟩ <|
      .nil)) (
    .seq (.seq (.ops (
      .op ⟨(some 9), .loadN 6 (.t 2), []⟩ <|
      .op ⟨(some 10), .call 263 [(.t 9)], []⟩ <|
      .op ⟨(some 11), .not (.t 10), []⟩ <|
      .op ⟨(some 12), .mov (.t 11), []⟩ <|
      .grd 12 false [⟨(some 13), .mov (.t 1), []⟩,
          ⟨(some 14), .lenSl (.t 13), []⟩,
          ⟨(some 15), .loadN 6 (.t 2), []⟩,
          ⟨(some 16), .call 264 [(.t 15)], []⟩,
          ⟨(some 17), .cmp .neq .i64 (.t 14) (.t 16), []⟩] <|
      .op ⟨(some 18), .pick (.t 12) (.c (.bool true)) (.t 17), []⟩ <|
      .nil)) (
    .cond (.t 18) (.seq (.ops (
        .op ⟨(some 4), .mov (.c (.int .i64 0)), []⟩ <|
        .nil)) (
      .ret)) (.skip))) (
    .seq (.ops (
      .op ⟨(some 5), .mov (.c (.int .i64 0)), []⟩ <|
      .nil)) (
    .seq (.seq (.ops (
      .op ⟨(some 19), .fieldA 0 (.t 2), []⟩ <|
      .op ⟨(some 20), .load1 (.t 19), []⟩ <|
      .op ⟨(some 21), .mov (.c (.int .i64 0)), []⟩ <|
      .nil)) (
    .block 0 (.loop [1, 2, 5, 20, 21] [5] (shade_Grays_c1)))) (
    shade_Grays_c0))))

def shade_Grays_hs : List (List Nat × List Nat) := [([1, 2, 5, 20, 21], [5])]

end Wm.F
end

section
/- PRINTED by my tool (wip/wm/tool/Gen.lean): a function as one of my machine. -/
namespace Wm.F
open Wm
set_option maxRecDepth 100000

/-- 203: (*withy/mem.Mem).Store -/
def mem_Mem_Store : AFunc where
  closed := false
  nparams := 3
  ntmps := 15
  results := [.tmp 6]
  body := .seq (.ops (
      .op ⟨(some 6), .mov (.c (.bool false)), []⟩ <|
      .nil)) (
    .seq (.seq (.ops (
      .op ⟨(some 7), .mov (.t 0), []⟩ <|
      .op ⟨(some 8), .mov (.t 1), []⟩ <|
      .op ⟨(some 9), .call 346 [(.t 7), (.t 8)], []⟩ <|
      .op ⟨(some 10), .not (.t 9), []⟩ <|
      .nil)) (
    .cond (.t 10) (.seq (.ops (
        .op ⟨(some 6), .mov (.c (.bool false)), []⟩ <|
        .nil)) (
      .ret)) (.skip))) (
    .seq (.ops (
      .op ⟨(some 11), .mov (.t 0), []⟩ <|
      .op ⟨(some 12), .mov (.t 1), []⟩ <|
      .op ⟨(some 13), .mov (.t 2), []⟩ <|
      .op ⟨(some 14), .call 347 [(.t 11), (.c (.int .i64 2)), (.t 12), (.t 13)], []⟩ <|
      .nil)) (
    .seq (.ops (
      .op ⟨(some 6), .mov (.c (.bool true)), []⟩ <|
      .nil)) (
    .ret))))

def mem_Mem_Store_hs : List (List Nat × List Nat) := []

end Wm.F
end

section
/- PRINTED by my tool (wip/wm/tool/Gen.lean): a function as one of my machine. -/
namespace Wm.F
open Wm
set_option maxRecDepth 100000

def plan_Memory_c1 : ACode :=
  .seq (.ops (
    .op ⟨(some 23), .cmp .lss .i64 (.t 22) (.t 21), []⟩ <|
    .nil)) (
  .seq (.cond (.t 23) (.skip) (.exit 0)) (
  .seq (.block 1 (.seq (.ops (
    .op ⟨(some 24), .mov (.t 22), []⟩ <|
    .op ⟨(some 4), .mov (.t 24), []⟩ <|
    .nil)) (
  .ops (
    .op ⟨(some 25), .mov (.t 3), []⟩ <|
    .op ⟨(some 26), .loadN 6 (.t 1), []⟩ <|
    .op ⟨(some 27), .mov (.t 4), []⟩ <|
    .op ⟨(some 28), .call 293 [(.t 26), (.t 27)], []⟩ <|
    .op ⟨(some 29), .mov (.t 4), []⟩ <|
    .op ⟨(some 30), .arith .add .i64 (.t 29) (.c (.int .i64 2)), []⟩ <|
    .op ⟨(some 31), .conv .u64 (.t 30), []⟩ <|
    .op ⟨(some 32), .indexA 1 (.t 25) (.t 28), []⟩ <|
    .op ⟨none, .store 1 (.t 32) (.t 31), []⟩ <|
    .nil)))) (
  .ops (
    .op ⟨(some 33), .arith .add .i64 (.t 22) (.c (.int .i64 1)), []⟩ <|
    .op ⟨(some 22), .mov (.t 33), []⟩ <|
    .nil))))

def plan_Memory_c0 : ACode :=
  .seq (.ops (
    .op ⟨(some 34), .mov (.t 3), []⟩ <|
    .op ⟨(some 35), .call 198 [(.t 34)], []⟩ <|
    .op ⟨(some 2), .mov (.t 35), []⟩ <|
    .nil)) (
  .ret)

/-- 213: withy/plan.Memory -/
def plan_Memory : AFunc where
  closed := false
  nparams := 1
  ntmps := 36
  results := [.tmp 2]
  body := .seq (.ops (
      .op ⟨(some 1), .box (.t 0), []⟩ <|
      .op ⟨(some 2), .mov (.c .nilp), []⟩ <|
      .nil)) (
    .seq (.seq (.ops (
      .op ⟨(some 5), .loadN 6 (.t 1), []⟩ <|
      .op ⟨(some 6), .call 263 [(.t 5)], []⟩ <|
      .op ⟨(some 7), .not (.t 6), []⟩ <|
      .nil)) (
    .cond (.t 7) (.seq (.ops (
        .op ⟨(some 2), .mov (.c .nilp), []⟩ <|
        .nil)) (
      .ret)) (.skip))) (
    .seq (.ops (
      .op ⟨(some 8), .loadN 6 (.t 1), []⟩ <|
      .op ⟨(some 9), .call 264 [(.t 8)], []⟩ <|
      .op ⟨(some 10), .mkSl 1 8 [(.int .u64 0)] (.t 9) (.t 9), []⟩ <|
      .op ⟨(some 3), .mov (.t 10), []⟩ <|
      .nil)) (
    .seq (.ops (
      .op ⟨(some 11), .mov (.t 3), []⟩ <|
      .op ⟨(some 12), .indexA 1 (.t 11) (.c (.int .i64 0)), []⟩ <|
      .op ⟨none, .store 1 (.t 12) (.c (.int .u64 1)), []⟩ <|
      .nil)) (
    .seq (.ops (
      .op ⟨(some 14), .mov (.t 3), []⟩ <|
      .op ⟨(some 15), .call 350 [(.c (.int .u64 0)), (.c (.int .i64 0))], []⟩ <|
      .op ⟨(some 13), .mov (.t 15), []⟩ <|
      .op ⟨(some 16), .extract (.t 13) 0, []⟩ <|
      .op ⟨(some 17), .extract (.t 13) 1, []⟩ <|
      .op ⟨(some 18), .indexA 1 (.t 14) (.c (.int .i64 3)), []⟩ <|
      .op ⟨none, .store 1 (.t 18) (.t 16), []⟩ <|
      .nil)) (
    .seq (.seq (.ops (
      .op ⟨(some 19), .fieldA 0 (.t 1), []⟩ <|
      .op ⟨(some 20), .load1 (.t 19), []⟩ <|
      .op ⟨(some 21), .arith .sub .i64 (.t 20) (.c (.int .i64 1)), []⟩ <|
      .op ⟨(some 22), .mov (.c (.int .i64 0)), []⟩ <|
      .nil)) (
    .block 0 (.loop [1, 3, 21, 22] [3] (plan_Memory_c1)))) (
    plan_Memory_c0))))))

def plan_Memory_hs : List (List Nat × List Nat) := [([1, 3, 21, 22], [3])]

end Wm.F
end

section
/- PRINTED by my tool (wip/wm/tool/Gen.lean): a function as one of my machine. -/
namespace Wm.F
open Wm
set_option maxRecDepth 100000

/-- 261: withy/plan.Header -/
def plan_Header : AFunc where
  closed := true
  nparams := 2
  ntmps := 8
  results := [.tmp 4]
  body := .seq (.ops (
      .op ⟨(some 2), .box (.t 0), []⟩ <|
      .op ⟨(some 4), .mov (.c (.int .i64 0)), []⟩ <|
      .nil)) (
    .seq (.ops (
      .op ⟨(some 5), .loadN 6 (.t 2), []⟩ <|
      .op ⟨(some 6), .mov (.t 1), []⟩ <|
      .op ⟨(some 7), .call 375 [(.t 5), (.t 6), (.c (.int .i64 0))], []⟩ <|
      .op ⟨(some 4), .mov (.t 7), []⟩ <|
      .nil)) (
    .ret))

def plan_Header_hs : List (List Nat × List Nat) := []

end Wm.F
end

section
/- PRINTED by my tool (wip/wm/tool/Gen.lean): a function as one of my machine. -/
namespace Wm.F
open Wm
set_option maxRecDepth 100000

/-- 262: withy/withylaw09.small -/
def withylaw09_small : AFunc where
  closed := true
  nparams := 0
  ntmps := 3
  results := [.tmp 0]
  body := .seq (.ops (
      .op ⟨(some 0), .mov (.c (.int .u64 0)), []⟩ <|
      .nil)) (
    .seq (.ops (
      .op ⟨(some 1), .build [(.int .i64 0), (.int .i64 0), (.bool false), (.int .i64 0), (.int .i64 0), (.int .i64 0)] [(0, 1, (.c (.int .i64 1)))], []⟩ <|
      .op ⟨(some 2), .call 111 [(.t 1)], []⟩ <|
      .op ⟨(some 0), .mov (.t 2), []⟩ <|
      .nil)) (
    .ret))

def withylaw09_small_hs : List (List Nat × List Nat) := []

end Wm.F
end

section
/- PRINTED by my tool (wip/wm/tool/Gen.lean): a function as one of my machine. -/
namespace Wm.F
open Wm
set_option maxRecDepth 100000

/-- 266: (*withy/mem.Mem).Load -/
def mem_Mem_Load : AFunc where
  closed := false
  nparams := 2
  ntmps := 26
  results := [.tmp 4]
  body := .seq (.ops (
      .op ⟨(some 4), .mov (.c (.int .u64 0)), []⟩ <|
      .nil)) (
    .seq (.seq (.ops (
      .op ⟨(some 5), .mov (.t 0), []⟩ <|
      .op ⟨(some 6), .mov (.t 1), []⟩ <|
      .op ⟨(some 7), .call 346 [(.t 5), (.t 6)], []⟩ <|
      .op ⟨(some 8), .not (.t 7), []⟩ <|
      .nil)) (
    .cond (.t 8) (.seq (.ops (
        .op ⟨(some 4), .mov (.c (.int .u64 0)), []⟩ <|
        .nil)) (
      .ret)) (.skip))) (
    .seq (.ops (
      .op ⟨(some 9), .mov (.t 0), []⟩ <|
      .op ⟨(some 10), .mov (.t 1), []⟩ <|
      .op ⟨(some 11), .mov (.t 0), []⟩ <|
      .op ⟨(some 12), .nilc (.t 11), []⟩ <|
      .op ⟨(some 13), .fieldA 0 (.t 12), []⟩ <|
      .op ⟨(some 14), .load1 (.t 13), []⟩ <|
      .op ⟨(some 15), .mov (.t 1), []⟩ <|
      .op ⟨(some 16), .indexA 1 (.t 14) (.t 15), []⟩ <|
      .op ⟨(some 17), .load1 (.t 16), []⟩ <|
      .op ⟨(some 18), .call 347 [(.t 9), (.c (.int .i64 1)), (.t 10), (.t 17)], []⟩ <|
      .nil)) (
    .seq (.ops (
      .op ⟨(some 19), .mov (.t 0), []⟩ <|
      .op ⟨(some 20), .nilc (.t 19), []⟩ <|
      .op ⟨(some 21), .fieldA 0 (.t 20), []⟩ <|
      .op ⟨(some 22), .load1 (.t 21), []⟩ <|
      .op ⟨(some 23), .mov (.t 1), []⟩ <|
      .op ⟨(some 24), .indexA 1 (.t 22) (.t 23), []⟩ <|
      .op ⟨(some 25), .load1 (.t 24), []⟩ <|
      .op ⟨(some 4), .mov (.t 25), []⟩ <|
      .nil)) (
    .ret))))

def mem_Mem_Load_hs : List (List Nat × List Nat) := []

end Wm.F
end

section
/- PRINTED by my tool (wip/wm/tool/Gen.lean): a function as one of my machine. -/
namespace Wm.F
open Wm
set_option maxRecDepth 100000

/-- 267: withy/head.Shaded -/
def head_Shaded : AFunc where
  closed := true
  nparams := 2
  ntmps := 31
  results := [.tmp 4, .tmp 5]
  body := .seq (.ops (
      .op ⟨(some 4), .mov (.c (.int .u64 0)), []⟩ <|
      .op ⟨(some 5), .mov (.c (.bool false)), []⟩ <|
      .nil)) (
    .seq (.ops (
      .op ⟨(some 9), .mov (.t 0), []⟩ <|
      .op ⟨(some 10), .call 380 [(.t 9)], []⟩ <|
      .op ⟨(some 8), .mov (.t 10), []⟩ <|
      .op ⟨(some 11), .extract (.t 8) 0, []⟩ <|
      .op ⟨(some 12), .extract (.t 8) 1, []⟩ <|
      .op ⟨(some 6), .alloc [(.int .i64 0), (.int .i64 0), (.bool false), (.int .i64 0), (.int .i64 0), (.int .i64 0)], []⟩ <|
      .op ⟨none, .store 6 (.t 6) (.t 11), []⟩ <|
      .op ⟨(some 7), .mov (.t 12), []⟩ <|
      .nil)) (
    .seq (.seq (.ops (
      .op ⟨(some 13), .mov (.t 7), []⟩ <|
      .op ⟨(some 14), .not (.t 13), []⟩ <|
      .op ⟨(some 15), .mov (.t 14), []⟩ <|
      .grd 15 false [⟨(some 16), .fieldA 1 (.t 6), []⟩,
          ⟨(some 17), .load1 (.t 16), []⟩,
          ⟨(some 18), .mov (.t 1), []⟩,
          ⟨(some 19), .call 381 [(.t 18)], [{ g := (some (15, false)), op := .load1 (.t 16), d := 17 }]⟩,
          ⟨(some 20), .cmp .eql .i64 (.t 17) (.t 19), []⟩] <|
      .op ⟨(some 21), .pick (.t 15) (.c (.bool true)) (.t 20), []⟩ <|
      .nil)) (
    .cond (.t 21) (.seq (.ops (
        .op ⟨(some 22), .mov (.t 0), []⟩ <|
        .op ⟨(some 4), .mov (.t 22), []⟩ <|
        .op ⟨(some 5), .mov (.c (.bool false)), []⟩ <|
        .nil)) (
      .ret)) (.skip))) (
    .seq (.ops (
      .op ⟨(some 23), .mov (.t 1), []⟩ <|
      .op ⟨(some 24), .call 381 [(.t 23)], []⟩ <|
      .op ⟨(some 25), .fieldA 1 (.t 6), []⟩ <|
      .op ⟨none, .store 1 (.t 25) (.t 24), []⟩ <|
      .op ⟨(some 26), .fieldA 2 (.t 6), []⟩ <|
      .op ⟨none, .store 1 (.t 26) (.c (.bool true)), []⟩ <|
      .nil)) (
    .seq (.ops (
      .op ⟨(some 27), .loadN 6 (.t 6), []⟩ <|
      .op ⟨(some 28), .call 382 [(.t 27)], []⟩ <|
      .op ⟨(some 29), .extract (.t 28) 0, []⟩ <|
      .op ⟨(some 30), .extract (.t 28) 1, []⟩ <|
      .op ⟨(some 4), .mov (.t 29), []⟩ <|
      .op ⟨(some 5), .mov (.t 30), []⟩ <|
      .nil)) (
    .ret)))))

def head_Shaded_hs : List (List Nat × List Nat) := []

end Wm.F
end

section
/- PRINTED by my tool (wip/wm/tool/Gen.lean): a function as one of my machine. -/
namespace Wm.F
open Wm
set_option maxRecDepth 100000

/-- 268: (*withy/mem.Mem).Add -/
def mem_Mem_Add : AFunc where
  closed := false
  nparams := 3
  ntmps := 30
  results := [.tmp 6]
  body := .seq (.ops (
      .op ⟨(some 6), .mov (.c (.int .u64 0)), []⟩ <|
      .nil)) (
    .seq (.seq (.ops (
      .op ⟨(some 7), .mov (.t 0), []⟩ <|
      .op ⟨(some 8), .mov (.t 1), []⟩ <|
      .op ⟨(some 9), .call 346 [(.t 7), (.t 8)], []⟩ <|
      .op ⟨(some 10), .not (.t 9), []⟩ <|
      .nil)) (
    .cond (.t 10) (.seq (.ops (
        .op ⟨(some 6), .mov (.c (.int .u64 0)), []⟩ <|
        .nil)) (
      .ret)) (.skip))) (
    .seq (.ops (
      .op ⟨(some 11), .mov (.t 0), []⟩ <|
      .op ⟨(some 12), .mov (.t 1), []⟩ <|
      .op ⟨(some 13), .mov (.t 0), []⟩ <|
      .op ⟨(some 14), .nilc (.t 13), []⟩ <|
      .op ⟨(some 15), .fieldA 0 (.t 14), []⟩ <|
      .op ⟨(some 16), .load1 (.t 15), []⟩ <|
      .op ⟨(some 17), .mov (.t 1), []⟩ <|
      .op ⟨(some 18), .indexA 1 (.t 16) (.t 17), []⟩ <|
      .op ⟨(some 19), .load1 (.t 18), []⟩ <|
      .op ⟨(some 20), .mov (.t 2), []⟩ <|
      .op ⟨(some 21), .arith .add .u64 (.t 19) (.t 20), []⟩ <|
      .op ⟨(some 22), .call 347 [(.t 11), (.c (.int .i64 4)), (.t 12), (.t 21)], []⟩ <|
      .nil)) (
    .seq (.ops (
      .op ⟨(some 23), .mov (.t 0), []⟩ <|
      .op ⟨(some 24), .nilc (.t 23), []⟩ <|
      .op ⟨(some 25), .fieldA 0 (.t 24), []⟩ <|
      .op ⟨(some 26), .load1 (.t 25), []⟩ <|
      .op ⟨(some 27), .mov (.t 1), []⟩ <|
      .op ⟨(some 28), .indexA 1 (.t 26) (.t 27), []⟩ <|
      .op ⟨(some 29), .load1 (.t 28), []⟩ <|
      .op ⟨(some 6), .mov (.t 29), []⟩ <|
      .nil)) (
    .ret))))

def mem_Mem_Add_hs : List (List Nat × List Nat) := []

end Wm.F
end

section
/- PRINTED by my tool (wip/wm/tool/Gen.lean): a function as one of my machine. -/
namespace Wm.F
open Wm
set_option maxRecDepth 100000

/-- 269: (*withy/mem.Mem).Swap -/
def mem_Mem_Swap : AFunc where
  closed := false
  nparams := 4
  ntmps := 32
  results := [.tmp 8]
  body := .seq (.ops (
      .op ⟨(some 8), .mov (.c (.bool false)), []⟩ <|
      .nil)) (
    .seq (.seq (.ops (
      .op ⟨(some 10), .mov (.t 0), []⟩ <|
      .op ⟨(some 11), .mov (.t 1), []⟩ <|
      .op ⟨(some 12), .call 346 [(.t 10), (.t 11)], []⟩ <|
      .op ⟨(some 13), .not (.t 12), []⟩ <|
      .nil)) (
    .cond (.t 13) (.seq (.ops (
        .op ⟨(some 8), .mov (.c (.bool false)), []⟩ <|
        .nil)) (
      .ret)) (.skip))) (
    .seq (.ops (
      .op ⟨(some 14), .mov (.t 0), []⟩ <|
      .op ⟨(some 15), .nilc (.t 14), []⟩ <|
      .op ⟨(some 16), .fieldA 0 (.t 15), []⟩ <|
      .op ⟨(some 17), .load1 (.t 16), []⟩ <|
      .op ⟨(some 18), .mov (.t 1), []⟩ <|
      .op ⟨(some 19), .indexA 1 (.t 17) (.t 18), []⟩ <|
      .op ⟨(some 20), .load1 (.t 19), []⟩ <|
      .op ⟨(some 9), .mov (.t 20), []⟩ <|
      .nil)) (
    .seq (.seq (.ops (
      .op ⟨(some 21), .mov (.t 9), []⟩ <|
      .op ⟨(some 22), .mov (.t 2), []⟩ <|
      .op ⟨(some 23), .cmp .neq .u64 (.t 21) (.t 22), []⟩ <|
      .nil)) (
    .cond (.t 23) (.ops (
        .op ⟨(some 24), .mov (.t 9), []⟩ <|
        .op ⟨(some 3), .mov (.t 24), []⟩ <|
        .nil)) (.skip))) (
    .seq (.ops (
      .op ⟨(some 25), .mov (.t 0), []⟩ <|
      .op ⟨(some 26), .mov (.t 1), []⟩ <|
      .op ⟨(some 27), .mov (.t 3), []⟩ <|
      .op ⟨(some 28), .call 347 [(.t 25), (.c (.int .i64 3)), (.t 26), (.t 27)], []⟩ <|
      .nil)) (
    .seq (.ops (
      .op ⟨(some 29), .mov (.t 9), []⟩ <|
      .op ⟨(some 30), .mov (.t 2), []⟩ <|
      .op ⟨(some 31), .cmp .eql .u64 (.t 29) (.t 30), []⟩ <|
      .op ⟨(some 8), .mov (.t 31), []⟩ <|
      .nil)) (
    .ret))))))

def mem_Mem_Swap_hs : List (List Nat × List Nat) := []

end Wm.F
end

section
/- PRINTED by my tool (wip/wm/tool/Gen.lean): a function as one of my machine. -/
namespace Wm.F
open Wm
set_option maxRecDepth 100000

/-- 270: withy/withyref06.fit -/
def withyref06_fit : AFunc where
  closed := true
  nparams := 3
  ntmps := 18
  results := [.tmp 6]
  body := .seq (.ops (
      .op ⟨(some 6), .mov (.c (.int .i64 0)), []⟩ <|
      .nil)) (
    .seq (.ops (
      .op ⟨(some 7), .mov (.t 1), []⟩ <|
      .op ⟨(some 8), .mov (.t 0), []⟩ <|
      .op ⟨(some 9), .conv .u64 (.t 8), []⟩ <|
      .op ⟨(some 10), .mov (.t 2), []⟩ <|
      .op ⟨(some 11), .mov (.t 1), []⟩ <|
      .op ⟨(some 12), .arith .sub .i64 (.t 10) (.t 11), []⟩ <|
      .op ⟨(some 13), .arith .add .i64 (.t 12) (.c (.int .i64 1)), []⟩ <|
      .op ⟨(some 14), .conv .u64 (.t 13), []⟩ <|
      .op ⟨(some 15), .arith .rem .u64 (.t 9) (.t 14), []⟩ <|
      .op ⟨(some 16), .conv .i64 (.t 15), []⟩ <|
      .op ⟨(some 17), .arith .add .i64 (.t 7) (.t 16), []⟩ <|
      .op ⟨(some 6), .mov (.t 17), []⟩ <|
      .nil)) (
    .ret))

def withyref06_fit_hs : List (List Nat × List Nat) := []

end Wm.F
end

section
/- PRINTED by my tool (wip/wm/tool/Gen.lean): a function as one of my machine. -/
namespace Wm.F
open Wm
set_option maxRecDepth 100000

def withyref06_Memory_c1 : ACode :=
  .seq (.seq (.ops (
    .op ⟨(some 15), .mov (.t 5), []⟩ <|
    .op ⟨(some 16), .mov (.t 3), []⟩ <|
    .op ⟨(some 17), .lenSl (.t 16), []⟩ <|
    .op ⟨(some 18), .cmp .lss .i64 (.t 15) (.t 17), []⟩ <|
    .nil)) (
  .cond (.t 18) (.skip) (.exit 0))) (
  .seq (.block 1 (.seq (.ops (
    .op ⟨(some 21), .mov (.t 3), []⟩ <|
    .op ⟨(some 22), .mov (.t 5), []⟩ <|
    .op ⟨(some 23), .indexA 3 (.t 21) (.t 22), []⟩ <|
    .op ⟨(some 24), .fieldA 0 (.t 23), []⟩ <|
    .op ⟨(some 25), .load1 (.t 24), []⟩ <|
    .op ⟨(some 26), .eq false .str (.t 25) (.c (.str ⟨⟨[108, 105, 110, 107]⟩⟩)), []⟩ <|
    .op ⟨(some 27), .mov (.t 26), []⟩ <|
    .grd 27 true [⟨(some 28), .mov (.t 3), []⟩,
        ⟨(some 29), .mov (.t 5), []⟩,
        ⟨(some 30), .indexA 3 (.t 28) (.t 29), []⟩,
        ⟨(some 31), .fieldA 1 (.t 30), []⟩,
        ⟨(some 32), .load1 (.t 31), []⟩,
        ⟨(some 33), .arith .add .i64 (.t 32) (.c (.int .i64 1)), []⟩,
        ⟨(some 34), .fieldA 0 (.t 1), []⟩,
        ⟨(some 35), .load1 (.t 34), []⟩,
        ⟨(some 36), .cmp .lss .i64 (.t 33) (.t 35), []⟩] <|
    .op ⟨(some 37), .pick (.t 27) (.t 36) (.c (.bool false)), []⟩ <|
    .nil)) (
  .cond (.t 37) (.ops (
      .op ⟨(some 38), .mov (.t 4), []⟩ <|
      .op ⟨(some 39), .mov (.t 5), []⟩ <|
      .op ⟨(some 40), .mov (.t 3), []⟩ <|
      .op ⟨(some 41), .mov (.t 5), []⟩ <|
      .op ⟨(some 42), .indexA 3 (.t 40) (.t 41), []⟩ <|
      .op ⟨(some 43), .fieldA 1 (.t 42), []⟩ <|
      .op ⟨(some 44), .load1 (.t 43), []⟩ <|
      .op ⟨(some 45), .arith .add .i64 (.t 44) (.c (.int .i64 2)), []⟩ <|
      .op ⟨(some 46), .conv .u64 (.t 45), []⟩ <|
      .op ⟨(some 47), .indexA 1 (.t 38) (.t 39), []⟩ <|
      .op ⟨none, .store 1 (.t 47) (.t 46), []⟩ <|
      .nil)) (.skip)))) (
  .ops (
    .op ⟨(some 19), .mov (.t 5), []⟩ <|
    .op ⟨(some 20), .arith .add .i64 (.t 19) (.c (.int .i64 1)), []⟩ <|
    .op ⟨(some 5), .mov (.t 20), []⟩ <|
    .nil)))

def withyref06_Memory_c0 : ACode :=
  .seq (.ops (
    .op ⟨(some 48), .mov (.t 4), []⟩ <|
    .op ⟨(some 2), .mov (.t 48), []⟩ <|
    .nil)) (
  .ret)

/-- 86: withy/withyref06.Memory -/
def withyref06_Memory : AFunc where
  closed := false
  nparams := 1
  ntmps := 49
  results := [.tmp 2]
  body := .seq (.ops (
      .op ⟨(some 1), .box (.t 0), []⟩ <|
      .op ⟨(some 2), .mov (.c .nilsl), []⟩ <|
      .nil)) (
    .seq (.ops (
      .op ⟨(some 6), .loadN 6 (.t 1), []⟩ <|
      .op ⟨(some 7), .call 87 [(.t 6)], []⟩ <|
      .op ⟨(some 3), .mov (.t 7), []⟩ <|
      .nil)) (
    .seq (.ops (
      .op ⟨(some 8), .mov (.t 3), []⟩ <|
      .op ⟨(some 9), .lenSl (.t 8), []⟩ <|
      .op ⟨(some 10), .mkSl 1 8 [(.int .u64 0)] (.t 9) (.t 9), []⟩ <|
      .op ⟨(some 4), .mov (.t 10), []⟩ <|
      .nil)) (
    .seq (.ops (
      .op ⟨(some 11), .mov (.t 4), []⟩ <|
      .op ⟨(some 12), .indexA 1 (.t 11) (.c (.int .i64 0)), []⟩ <|
      .op ⟨none, .store 1 (.t 12) (.c (.int .u64 1)), []⟩ <|
      .nil)) (
    .seq (.ops (
      .op ⟨(some 13), .mov (.t 4), []⟩ <|
      .op ⟨(some 14), .indexA 1 (.t 13) (.c (.int .i64 3)), []⟩ <|
      .op ⟨none, .store 1 (.t 14) (.c (.int .u64 1)), []⟩ <|
      .nil)) (
    .seq (.seq (.ops (
      .op ⟨(some 5), .mov (.c (.int .i64 0)), []⟩ <|
      .nil)) (
    .block 0 (.loop [1, 3, 4, 5] [4] (withyref06_Memory_c1)))) (
    withyref06_Memory_c0))))))

def withyref06_Memory_hs : List (List Nat × List Nat) := [([1, 3, 4, 5], [4])]

end Wm.F
end

section
/- PRINTED by my tool (wip/wm/tool/Gen.lean): a function as one of my machine. -/
namespace Wm.F
open Wm
set_option maxRecDepth 100000

/-- 198: withy/mem.Of -/
def mem_Of : AFunc where
  closed := false
  nparams := 1
  ntmps := 10
  results := [.tmp 2]
  body := .seq (.ops (
      .op ⟨(some 2), .mov (.c .nilp), []⟩ <|
      .nil)) (
    .seq (.seq (.ops (
      .op ⟨(some 3), .mov (.t 0), []⟩ <|
      .op ⟨(some 4), .lenSl (.t 3), []⟩ <|
      .op ⟨(some 5), .cmp .gtr .i64 (.t 4) (.c (.int .i64 65536)), []⟩ <|
      .nil)) (
    .cond (.t 5) (.seq (.ops (
        .op ⟨(some 2), .mov (.c .nilp), []⟩ <|
        .nil)) (
      .ret)) (.skip))) (
    .seq (.ops (
      .op ⟨(some 6), .mov (.t 0), []⟩ <|
      .op ⟨(some 7), .call 271 [(.t 6)], []⟩ <|
      .op ⟨(some 8), .build [.nilsl, (.int .i64 0), (.int .i64 0), (.int .i64 0), (.int .u64 0), (.int .u64 0)] [(0, 1, (.t 7))], []⟩ <|
      .op ⟨(some 9), .box (.t 8), []⟩ <|
      .op ⟨(some 2), .mov (.t 9), []⟩ <|
      .nil)) (
    .ret)))

def mem_Of_hs : List (List Nat × List Nat) := []

end Wm.F
end

section
/- PRINTED by my tool (wip/wm/tool/Gen.lean): a function as one of my machine. -/
namespace Wm.F
open Wm
set_option maxRecDepth 100000

/-- 202: withy/withyref04.Right -/
def withyref04_Right : AFunc where
  closed := true
  nparams := 1
  ntmps := 51
  results := [.tmp 2]
  body := .seq (.ops (
      .op ⟨(some 1), .box (.t 0), []⟩ <|
      .op ⟨(some 2), .mov (.c (.bool false)), []⟩ <|
      .nil)) (
    .seq (.ops (
      .op ⟨(some 3), .fieldA 0 (.t 1), []⟩ <|
      .op ⟨(some 4), .load1 (.t 3), []⟩ <|
      .op ⟨(some 5), .cmp .geq .i64 (.t 4) (.c (.int .i64 0)), []⟩ <|
      .op ⟨(some 6), .mov (.t 5), []⟩ <|
      .grd 6 true [⟨(some 7), .fieldA 0 (.t 1), []⟩,
          ⟨(some 8), .load1 (.t 7), []⟩,
          ⟨(some 9), .cmp .leq .i64 (.t 8) (.c (.int .i64 4)), []⟩] <|
      .op ⟨(some 10), .pick (.t 6) (.t 9) (.c (.bool false)), []⟩ <|
      .op ⟨(some 11), .mov (.t 10), []⟩ <|
      .grd 11 true [⟨(some 12), .fieldA 1 (.t 1), []⟩,
          ⟨(some 13), .load1 (.t 12), []⟩,
          ⟨(some 14), .cmp .eql .i64 (.t 13) (.c (.int .i64 0)), []⟩,
          ⟨(some 15), .mov (.t 14), []⟩] <|
      .grd 15 false [⟨(some 16), .fieldA 1 (.t 1), []⟩,
          ⟨(some 17), .load1 (.t 16), []⟩,
          ⟨(some 18), .cmp .eql .i64 (.t 17) (.c (.int .i64 1)), []⟩] <|
      .grd 11 true [⟨(some 19), .pick (.t 15) (.c (.bool true)) (.t 18), []⟩] <|
      .op ⟨(some 20), .pick (.t 11) (.t 19) (.c (.bool false)), []⟩ <|
      .op ⟨(some 21), .mov (.t 20), []⟩ <|
      .grd 21 true [⟨(some 22), .fieldA 3 (.t 1), []⟩,
          ⟨(some 23), .load1 (.t 22), []⟩,
          ⟨(some 24), .cmp .geq .i64 (.t 23) (.c (.int .i64 0)), []⟩] <|
      .op ⟨(some 25), .pick (.t 21) (.t 24) (.c (.bool false)), []⟩ <|
      .op ⟨(some 26), .mov (.t 25), []⟩ <|
      .grd 26 true [⟨(some 27), .fieldA 3 (.t 1), []⟩,
          ⟨(some 28), .load1 (.t 27), []⟩,
          ⟨(some 29), .cmp .leq .i64 (.t 28) (.c (.int .i64 15)), []⟩] <|
      .op ⟨(some 30), .pick (.t 26) (.t 29) (.c (.bool false)), []⟩ <|
      .op ⟨(some 31), .mov (.t 30), []⟩ <|
      .grd 31 true [⟨(some 32), .fieldA 4 (.t 1), []⟩,
          ⟨(some 33), .load1 (.t 32), []⟩,
          ⟨(some 34), .cmp .geq .i64 (.t 33) (.c (.int .i64 0)), []⟩] <|
      .op ⟨(some 35), .pick (.t 31) (.t 34) (.c (.bool false)), []⟩ <|
      .op ⟨(some 36), .mov (.t 35), []⟩ <|
      .grd 36 true [⟨(some 37), .fieldA 4 (.t 1), []⟩,
          ⟨(some 38), .load1 (.t 37), []⟩,
          ⟨(some 39), .cmp .leq .i64 (.t 38) (.c (.int .i64 4294967295)), []⟩] <|
      .op ⟨(some 40), .pick (.t 36) (.t 39) (.c (.bool false)), []⟩ <|
      .op ⟨(some 41), .mov (.t 40), []⟩ <|
      .grd 41 true [⟨(some 42), .fieldA 5 (.t 1), []⟩,
          ⟨(some 43), .load1 (.t 42), []⟩,
          ⟨(some 44), .cmp .geq .i64 (.t 43) (.c (.int .i64 0)), []⟩] <|
      .op ⟨(some 45), .pick (.t 41) (.t 44) (.c (.bool false)), []⟩ <|
      .op ⟨(some 46), .mov (.t 45), []⟩ <|
      .grd 46 true [⟨(some 47), .fieldA 5 (.t 1), []⟩,
          ⟨(some 48), .load1 (.t 47), []⟩,
          ⟨(some 49), .cmp .leq .i64 (.t 48) (.c (.int .i64 65535)), []⟩] <|
      .op ⟨(some 50), .pick (.t 46) (.t 49) (.c (.bool false)), []⟩ <|
      .op ⟨(some 2), .mov (.t 50), []⟩ <|
      .nil)) (
    .ret))

def withyref04_Right_hs : List (List Nat × List Nat) := []

end Wm.F
end

section
/- PRINTED by my tool (wip/wm/tool/Gen.lean): a function as one of my machine. -/
namespace Wm.F
open Wm
set_option maxRecDepth 100000

/-- 271: slices.Clone[[]uint64,uint64] -/
def slices_Clone___uint64_uint64_ : AFunc where
  closed := false
  nparams := 1
  ntmps := 8
  results := [.tmp 2]
  body := .seq (.ops (
      .op ⟨(some 2), .mov (.c .nilsl), []⟩ <|
      .nil)) (
    .seq (.seq (.ops (
      .op ⟨(some 3), .mov (.t 0), []⟩ <|
      .op ⟨(some 4), .eq false .sl (.t 3) (.c .nilsl), []⟩ <|
      .nil)) (
    .cond (.t 4) (.seq (.ops (
        .op ⟨(some 2), .mov (.c .nilsl), []⟩ <|
        .nil)) (
      .ret)) (.skip))) (
    .seq (.ops (
      .op ⟨(some 5), .buildSl 1 0 [(.int .u64 0)] [], []⟩ <|
      .op ⟨(some 6), .mov (.t 0), []⟩ <|
      .op ⟨(some 7), .append 1 8 (.t 5) (.t 6), []⟩ <|
      .op ⟨(some 2), .mov (.t 7), []⟩ <|
      .nil)) (
    .ret)))

def slices_Clone___uint64_uint64__hs : List (List Nat × List Nat) := []

end Wm.F
end

section
/- PRINTED by my tool (wip/wm/tool/Gen.lean): a function as one of my machine. -/
namespace Wm.F
open Wm
set_option maxRecDepth 100000

/-- 85: withy/withyref06.Right -/
def withyref06_Right : AFunc where
  closed := true
  nparams := 1
  ntmps := 61
  results := [.tmp 2]
  body := .seq (.ops (
      .op ⟨(some 1), .box (.t 0), []⟩ <|
      .op ⟨(some 2), .mov (.c (.bool false)), []⟩ <|
      .nil)) (
    .seq (.ops (
      .op ⟨(some 3), .fieldA 0 (.t 1), []⟩ <|
      .op ⟨(some 4), .load1 (.t 3), []⟩ <|
      .op ⟨(some 5), .cmp .geq .i64 (.t 4) (.c (.int .i64 1)), []⟩ <|
      .op ⟨(some 6), .mov (.t 5), []⟩ <|
      .grd 6 true [⟨(some 7), .fieldA 0 (.t 1), []⟩,
          ⟨(some 8), .load1 (.t 7), []⟩,
          ⟨(some 9), .cmp .leq .i64 (.t 8) (.c (.int .i64 64)), []⟩] <|
      .op ⟨(some 10), .pick (.t 6) (.t 9) (.c (.bool false)), []⟩ <|
      .op ⟨(some 11), .mov (.t 10), []⟩ <|
      .grd 11 true [⟨(some 12), .fieldA 1 (.t 1), []⟩,
          ⟨(some 13), .load1 (.t 12), []⟩,
          ⟨(some 14), .cmp .geq .i64 (.t 13) (.c (.int .i64 0)), []⟩] <|
      .op ⟨(some 15), .pick (.t 11) (.t 14) (.c (.bool false)), []⟩ <|
      .op ⟨(some 16), .mov (.t 15), []⟩ <|
      .grd 16 true [⟨(some 17), .fieldA 1 (.t 1), []⟩,
          ⟨(some 18), .load1 (.t 17), []⟩,
          ⟨(some 19), .cmp .leq .i64 (.t 18) (.c (.int .i64 8)), []⟩] <|
      .op ⟨(some 20), .pick (.t 16) (.t 19) (.c (.bool false)), []⟩ <|
      .op ⟨(some 21), .mov (.t 20), []⟩ <|
      .grd 21 true [⟨(some 22), .fieldA 2 (.t 1), []⟩,
          ⟨(some 23), .load1 (.t 22), []⟩,
          ⟨(some 24), .cmp .geq .i64 (.t 23) (.c (.int .i64 1)), []⟩] <|
      .op ⟨(some 25), .pick (.t 21) (.t 24) (.c (.bool false)), []⟩ <|
      .op ⟨(some 26), .mov (.t 25), []⟩ <|
      .grd 26 true [⟨(some 27), .fieldA 2 (.t 1), []⟩,
          ⟨(some 28), .load1 (.t 27), []⟩,
          ⟨(some 29), .cmp .leq .i64 (.t 28) (.c (.int .i64 8)), []⟩] <|
      .op ⟨(some 30), .pick (.t 26) (.t 29) (.c (.bool false)), []⟩ <|
      .op ⟨(some 31), .mov (.t 30), []⟩ <|
      .grd 31 true [⟨(some 32), .fieldA 3 (.t 1), []⟩,
          ⟨(some 33), .load1 (.t 32), []⟩,
          ⟨(some 34), .cmp .geq .i64 (.t 33) (.c (.int .i64 1)), []⟩] <|
      .op ⟨(some 35), .pick (.t 31) (.t 34) (.c (.bool false)), []⟩ <|
      .op ⟨(some 36), .mov (.t 35), []⟩ <|
      .grd 36 true [⟨(some 37), .fieldA 3 (.t 1), []⟩,
          ⟨(some 38), .load1 (.t 37), []⟩,
          ⟨(some 39), .cmp .leq .i64 (.t 38) (.c (.int .i64 16)), []⟩] <|
      .op ⟨(some 40), .pick (.t 36) (.t 39) (.c (.bool false)), []⟩ <|
      .op ⟨(some 41), .mov (.t 40), []⟩ <|
      .grd 41 true [⟨(some 42), .fieldA 4 (.t 1), []⟩,
          ⟨(some 43), .load1 (.t 42), []⟩,
          ⟨(some 44), .cmp .geq .i64 (.t 43) (.c (.int .i64 1)), []⟩] <|
      .op ⟨(some 45), .pick (.t 41) (.t 44) (.c (.bool false)), []⟩ <|
      .op ⟨(some 46), .mov (.t 45), []⟩ <|
      .grd 46 true [⟨(some 47), .fieldA 4 (.t 1), []⟩,
          ⟨(some 48), .load1 (.t 47), []⟩,
          ⟨(some 49), .cmp .leq .i64 (.t 48) (.c (.int .i64 1048576)), []⟩] <|
      .op ⟨(some 50), .pick (.t 46) (.t 49) (.c (.bool false)), []⟩ <|
      .op ⟨(some 51), .mov (.t 50), []⟩ <|
      .grd 51 true [⟨(some 52), .fieldA 5 (.t 1), []⟩,
          ⟨(some 53), .load1 (.t 52), []⟩,
          ⟨(some 54), .cmp .geq .i64 (.t 53) (.c (.int .i64 0)), []⟩] <|
      .op ⟨(some 55), .pick (.t 51) (.t 54) (.c (.bool false)), []⟩ <|
      .op ⟨(some 56), .mov (.t 55), []⟩ <|
      .grd 56 true [⟨(some 57), .fieldA 5 (.t 1), []⟩,
          ⟨(some 58), .load1 (.t 57), []⟩,
          ⟨(some 59), .cmp .leq .i64 (.t 58) (.c (.int .i64 64)), []⟩] <|
      .op ⟨(some 60), .pick (.t 56) (.t 59) (.c (.bool false)), []⟩ <|
      .op ⟨(some 2), .mov (.t 60), []⟩ <|
      .nil)) (
    .ret))

def withyref06_Right_hs : List (List Nat × List Nat) := []

end Wm.F
end

section
/- PRINTED by my tool (wip/wm/tool/Gen.lean): a function as one of my machine. -/
namespace Wm.F
open Wm
set_option maxRecDepth 100000

def withyref06_Words_c11 : ACode :=
  .seq (.seq (.ops (
    .op ⟨(some 70), .mov (.t 9), []⟩ <|
    .op ⟨(some 71), .loadN 6 (.t 1), []⟩ <|
    .op ⟨(some 72), .call 149 [(.t 71)], []⟩ <|
    .op ⟨(some 73), .cmp .lss .i64 (.t 70) (.t 72), []⟩ <|
    .nil)) (
  .cond (.t 73) (.skip) (.exit 10))) (
  .seq (.block 11 (.ops (
    .op ⟨(some 76), .mov (.t 3), []⟩ <|
    .op ⟨(some 77), .mov (.t 8), []⟩ <|
    .op ⟨(some 78), .mov (.t 9), []⟩ <|
    .op ⟨(some 79), .build [(.str ⟨⟨[]⟩⟩), (.int .i64 0), (.int .i64 0)] [(0, 1, (.c (.str ⟨⟨[98, 111, 100, 121]⟩⟩))), (1, 1, (.t 77)), (2, 1, (.t 78))], []⟩ <|
    .op ⟨(some 80), .buildSl 3 1 [(.str ⟨⟨[]⟩⟩), (.int .i64 0), (.int .i64 0)] [(0, 3, (.t 79))], []⟩ <|
    .op ⟨(some 81), .append 3 32 (.t 76) (.t 80), []⟩ <|
    .op ⟨(some 3), .mov (.t 81), []⟩ <|
    .nil))) (
  .ops (
    .op ⟨(some 74), .mov (.t 9), []⟩ <|
    .op ⟨(some 75), .arith .add .i64 (.t 74) (.c (.int .i64 1)), []⟩ <|
    .op ⟨(some 9), .mov (.t 75), []⟩ <|
    .nil)))

def withyref06_Words_c10 : ACode :=
  .ops (
    .op ⟨(some 61), .mov (.t 8), []⟩ <|
    .op ⟨(some 62), .arith .add .i64 (.t 61) (.c (.int .i64 1)), []⟩ <|
    .op ⟨(some 8), .mov (.t 62), []⟩ <|
    .nil)

def withyref06_Words_c9 : ACode :=
  .seq (.seq (.ops (
    .op ⟨(some 57), .mov (.t 8), []⟩ <|
    .op ⟨(some 58), .fieldA 0 (.t 1), []⟩ <|
    .op ⟨(some 59), .load1 (.t 58), []⟩ <|
    .op ⟨(some 60), .cmp .lss .i64 (.t 57) (.t 59), []⟩ <|
    .nil)) (
  .cond (.t 60) (.skip) (.exit 8))) (
  .seq (.block 9 (.seq (.ops (
    .op ⟨(some 63), .mov (.t 3), []⟩ <|
    .op ⟨(some 64), .mov (.t 8), []⟩ <|
    .op ⟨(some 65), .build [(.str ⟨⟨[]⟩⟩), (.int .i64 0), (.int .i64 0)] [(0, 1, (.c (.str ⟨⟨[104, 101, 97, 100, 101, 114]⟩⟩))), (1, 1, (.t 64)), (2, 1, (.c (.int .i64 0)))], []⟩ <|
    .op ⟨(some 66), .mov (.t 8), []⟩ <|
    .op ⟨(some 67), .build [(.str ⟨⟨[]⟩⟩), (.int .i64 0), (.int .i64 0)] [(0, 1, (.c (.str ⟨⟨[108, 105, 110, 107]⟩⟩))), (1, 1, (.t 66)), (2, 1, (.c (.int .i64 0)))], []⟩ <|
    .op ⟨(some 68), .buildSl 3 2 [(.str ⟨⟨[]⟩⟩), (.int .i64 0), (.int .i64 0)] [(0, 3, (.t 65)), (3, 3, (.t 67))], []⟩ <|
    .op ⟨(some 69), .append 3 32 (.t 63) (.t 68), []⟩ <|
    .op ⟨(some 3), .mov (.t 69), []⟩ <|
    .nil)) (
  .seq (.ops (
    .op ⟨(some 9), .mov (.c (.int .i64 0)), []⟩ <|
    .nil)) (
  .block 10 (.loop [1, 3, 8, 9] [1, 3, 8] (withyref06_Words_c11)))))) (
  withyref06_Words_c10))

def withyref06_Words_c8 : ACode :=
  .seq (.ops (
    .op ⟨(some 82), .mov (.t 3), []⟩ <|
    .op ⟨(some 2), .mov (.t 82), []⟩ <|
    .nil)) (
  .ret)

def withyref06_Words_c7 : ACode :=
  .seq (.seq (.ops (
    .op ⟨(some 44), .mov (.t 7), []⟩ <|
    .op ⟨(some 45), .fieldA 2 (.t 1), []⟩ <|
    .op ⟨(some 46), .load1 (.t 45), []⟩ <|
    .op ⟨(some 47), .cmp .lss .i64 (.t 44) (.t 46), []⟩ <|
    .nil)) (
  .cond (.t 47) (.skip) (.exit 6))) (
  .seq (.block 7 (.ops (
    .op ⟨(some 50), .mov (.t 3), []⟩ <|
    .op ⟨(some 51), .mov (.t 7), []⟩ <|
    .op ⟨(some 52), .build [(.str ⟨⟨[]⟩⟩), (.int .i64 0), (.int .i64 0)] [(0, 1, (.c (.str ⟨⟨[118, 105, 101, 119]⟩⟩))), (1, 1, (.t 51)), (2, 1, (.c (.int .i64 0)))], []⟩ <|
    .op ⟨(some 53), .mov (.t 7), []⟩ <|
    .op ⟨(some 54), .build [(.str ⟨⟨[]⟩⟩), (.int .i64 0), (.int .i64 0)] [(0, 1, (.c (.str ⟨⟨[115, 116, 97, 114, 116]⟩⟩))), (1, 1, (.t 53)), (2, 1, (.c (.int .i64 0)))], []⟩ <|
    .op ⟨(some 55), .buildSl 3 2 [(.str ⟨⟨[]⟩⟩), (.int .i64 0), (.int .i64 0)] [(0, 3, (.t 52)), (3, 3, (.t 54))], []⟩ <|
    .op ⟨(some 56), .append 3 32 (.t 50) (.t 55), []⟩ <|
    .op ⟨(some 3), .mov (.t 56), []⟩ <|
    .nil))) (
  .ops (
    .op ⟨(some 48), .mov (.t 7), []⟩ <|
    .op ⟨(some 49), .arith .add .i64 (.t 48) (.c (.int .i64 1)), []⟩ <|
    .op ⟨(some 7), .mov (.t 49), []⟩ <|
    .nil)))

def withyref06_Words_c6 : ACode :=
  .seq (.seq (.ops (
    .op ⟨(some 8), .mov (.c (.int .i64 0)), []⟩ <|
    .nil)) (
  .block 8 (.loop [1, 3, 8] [3] (withyref06_Words_c9)))) (
  withyref06_Words_c8)

def withyref06_Words_c5 : ACode :=
  .seq (.seq (.ops (
    .op ⟨(some 32), .mov (.t 6), []⟩ <|
    .op ⟨(some 33), .fieldA 3 (.t 1), []⟩ <|
    .op ⟨(some 34), .load1 (.t 33), []⟩ <|
    .op ⟨(some 35), .cmp .lss .i64 (.t 32) (.t 34), []⟩ <|
    .nil)) (
  .cond (.t 35) (.skip) (.exit 4))) (
  .seq (.block 5 (.ops (
    .op ⟨(some 38), .mov (.t 3), []⟩ <|
    .op ⟨(some 39), .mov (.t 5), []⟩ <|
    .op ⟨(some 40), .mov (.t 6), []⟩ <|
    .op ⟨(some 41), .build [(.str ⟨⟨[]⟩⟩), (.int .i64 0), (.int .i64 0)] [(0, 1, (.c (.str ⟨⟨[101, 110, 116, 114, 121]⟩⟩))), (1, 1, (.t 39)), (2, 1, (.t 40))], []⟩ <|
    .op ⟨(some 42), .buildSl 3 1 [(.str ⟨⟨[]⟩⟩), (.int .i64 0), (.int .i64 0)] [(0, 3, (.t 41))], []⟩ <|
    .op ⟨(some 43), .append 3 32 (.t 38) (.t 42), []⟩ <|
    .op ⟨(some 3), .mov (.t 43), []⟩ <|
    .nil))) (
  .ops (
    .op ⟨(some 36), .mov (.t 6), []⟩ <|
    .op ⟨(some 37), .arith .add .i64 (.t 36) (.c (.int .i64 1)), []⟩ <|
    .op ⟨(some 6), .mov (.t 37), []⟩ <|
    .nil)))

def withyref06_Words_c4 : ACode :=
  .ops (
    .op ⟨(some 30), .mov (.t 5), []⟩ <|
    .op ⟨(some 31), .arith .add .i64 (.t 30) (.c (.int .i64 1)), []⟩ <|
    .op ⟨(some 5), .mov (.t 31), []⟩ <|
    .nil)

def withyref06_Words_c3 : ACode :=
  .seq (.seq (.ops (
    .op ⟨(some 26), .mov (.t 5), []⟩ <|
    .op ⟨(some 27), .fieldA 2 (.t 1), []⟩ <|
    .op ⟨(some 28), .load1 (.t 27), []⟩ <|
    .op ⟨(some 29), .cmp .lss .i64 (.t 26) (.t 28), []⟩ <|
    .nil)) (
  .cond (.t 29) (.skip) (.exit 2))) (
  .seq (.block 3 (.seq (.ops (
    .op ⟨(some 6), .mov (.c (.int .i64 0)), []⟩ <|
    .nil)) (
  .block 4 (.loop [1, 3, 5, 6] [1, 3, 5] (withyref06_Words_c5))))) (
  withyref06_Words_c4))

def withyref06_Words_c2 : ACode :=
  .seq (.seq (.ops (
    .op ⟨(some 7), .mov (.c (.int .i64 0)), []⟩ <|
    .nil)) (
  .block 6 (.loop [1, 3, 7] [1, 3] (withyref06_Words_c7)))) (
  withyref06_Words_c6)

def withyref06_Words_c1 : ACode :=
  .seq (.seq (.ops (
    .op ⟨(some 15), .mov (.t 4), []⟩ <|
    .op ⟨(some 16), .fieldA 2 (.t 1), []⟩ <|
    .op ⟨(some 17), .load1 (.t 16), []⟩ <|
    .op ⟨(some 18), .cmp .lss .i64 (.t 15) (.t 17), []⟩ <|
    .nil)) (
  .cond (.t 18) (.skip) (.exit 0))) (
  .seq (.block 1 (.ops (
    .op ⟨(some 21), .mov (.t 3), []⟩ <|
    .op ⟨(some 22), .mov (.t 4), []⟩ <|
    .op ⟨(some 23), .build [(.str ⟨⟨[]⟩⟩), (.int .i64 0), (.int .i64 0)] [(0, 1, (.c (.str ⟨⟨[112, 105, 110]⟩⟩))), (1, 1, (.t 22)), (2, 1, (.c (.int .i64 0)))], []⟩ <|
    .op ⟨(some 24), .buildSl 3 1 [(.str ⟨⟨[]⟩⟩), (.int .i64 0), (.int .i64 0)] [(0, 3, (.t 23))], []⟩ <|
    .op ⟨(some 25), .append 3 32 (.t 21) (.t 24), []⟩ <|
    .op ⟨(some 3), .mov (.t 25), []⟩ <|
    .nil))) (
  .ops (
    .op ⟨(some 19), .mov (.t 4), []⟩ <|
    .op ⟨(some 20), .arith .add .i64 (.t 19) (.c (.int .i64 1)), []⟩ <|
    .op ⟨(some 4), .mov (.t 20), []⟩ <|
    .nil)))

def withyref06_Words_c0 : ACode :=
  .seq (.seq (.ops (
    .op ⟨(some 5), .mov (.c (.int .i64 0)), []⟩ <|
    .nil)) (
  .block 2 (.loop [1, 3, 5] [1, 3] (withyref06_Words_c3)))) (
  withyref06_Words_c2)

/-- 87: withy/withyref06.Words -/
def withyref06_Words : AFunc where
  closed := false
  nparams := 1
  ntmps := 83
  results := [.tmp 2]
  body := .seq (.ops (
      .op ⟨(some 1), .box (.t 0), []⟩ <|
      .op ⟨(some 2), .mov (.c .nilsl), []⟩ <|
      .nil)) (
    .seq (.ops (
      .op ⟨(some 10), .build [(.str ⟨⟨[]⟩⟩), (.int .i64 0), (.int .i64 0)] [(0, 1, (.c (.str ⟨⟨[99, 108, 111, 99, 107]⟩⟩)))], []⟩ <|
      .op ⟨(some 11), .build [(.str ⟨⟨[]⟩⟩), (.int .i64 0), (.int .i64 0)] [(0, 1, (.c (.str ⟨⟨[101, 112, 111, 99, 104]⟩⟩)))], []⟩ <|
      .op ⟨(some 12), .build [(.str ⟨⟨[]⟩⟩), (.int .i64 0), (.int .i64 0)] [(0, 1, (.c (.str ⟨⟨[103, 114, 97, 121, 115]⟩⟩)))], []⟩ <|
      .op ⟨(some 13), .build [(.str ⟨⟨[]⟩⟩), (.int .i64 0), (.int .i64 0)] [(0, 1, (.c (.str ⟨⟨[116, 111, 112]⟩⟩)))], []⟩ <|
      .op ⟨(some 14), .buildSl 3 4 [(.str ⟨⟨[]⟩⟩), (.int .i64 0), (.int .i64 0)] [(0, 3, (.t 10)), (3, 3, (.t 11)), (6, 3, (.t 12)), (9, 3, (.t 13))], []⟩ <|
      .op ⟨(some 3), .mov (.t 14), []⟩ <|
      .nil)) (
    .seq (.seq (.ops (
      .op ⟨(some 4), .mov (.c (.int .i64 0)), []⟩ <|
      .nil)) (
    .block 0 (.loop [1, 3, 4] [1, 3] (withyref06_Words_c1)))) (
    withyref06_Words_c0)))

def withyref06_Words_hs : List (List Nat × List Nat) := [([1, 3, 4], [1, 3]), ([1, 3, 5], [1, 3]), ([1, 3, 5, 6], [1, 3, 5]), ([1, 3, 7], [1, 3]), ([1, 3, 8], [3]), ([1, 3, 8, 9], [1, 3, 8])]

end Wm.F
end

section
/- PRINTED by my tool (wip/wm/tool/Gen.lean): a function as one of my machine. -/
namespace Wm.F
open Wm
set_option maxRecDepth 100000

/-- 263: withy/plan.Right -/
def plan_Right : AFunc where
  closed := true
  nparams := 1
  ntmps := 31
  results := [.tmp 2]
  body := .seq (.ops (
      .op ⟨(some 1), .box (.t 0), []⟩ <|
      .op ⟨(some 2), .mov (.c (.bool false)), []⟩ <|
      .nil)) (
    .seq (.ops (
      .op ⟨(some 3), .fieldA 0 (.t 1), []⟩ <|
      .op ⟨(some 4), .load1 (.t 3), []⟩ <|
      .op ⟨(some 5), .call 376 [(.t 4), (.c (.int .i64 1)), (.c (.int .i64 64))], []⟩ <|
      .op ⟨(some 6), .mov (.t 5), []⟩ <|
      .grd 6 true [⟨(some 7), .fieldA 1 (.t 1), []⟩,
          ⟨(some 8), .load1 (.t 7), []⟩,
          ⟨(some 9), .call 376 [(.t 8), (.c (.int .i64 0)), (.c (.int .i64 8))], []⟩] <|
      .op ⟨(some 10), .pick (.t 6) (.t 9) (.c (.bool false)), []⟩ <|
      .op ⟨(some 11), .mov (.t 10), []⟩ <|
      .grd 11 true [⟨(some 12), .fieldA 2 (.t 1), []⟩,
          ⟨(some 13), .load1 (.t 12), []⟩,
          ⟨(some 14), .call 376 [(.t 13), (.c (.int .i64 1)), (.c (.int .i64 8))], []⟩] <|
      .op ⟨(some 15), .pick (.t 11) (.t 14) (.c (.bool false)), []⟩ <|
      .op ⟨(some 16), .mov (.t 15), []⟩ <|
      .grd 16 true [⟨(some 17), .fieldA 3 (.t 1), []⟩,
          ⟨(some 18), .load1 (.t 17), []⟩,
          ⟨(some 19), .call 376 [(.t 18), (.c (.int .i64 1)), (.c (.int .i64 16))], []⟩] <|
      .op ⟨(some 20), .pick (.t 16) (.t 19) (.c (.bool false)), []⟩ <|
      .op ⟨(some 21), .mov (.t 20), []⟩ <|
      .grd 21 true [⟨(some 22), .fieldA 4 (.t 1), []⟩,
          ⟨(some 23), .load1 (.t 22), []⟩,
          ⟨(some 24), .call 376 [(.t 23), (.c (.int .i64 1)), (.c (.int .i64 1048576))], []⟩] <|
      .op ⟨(some 25), .pick (.t 21) (.t 24) (.c (.bool false)), []⟩ <|
      .op ⟨(some 26), .mov (.t 25), []⟩ <|
      .grd 26 true [⟨(some 27), .fieldA 5 (.t 1), []⟩,
          ⟨(some 28), .load1 (.t 27), []⟩,
          ⟨(some 29), .call 376 [(.t 28), (.c (.int .i64 0)), (.c (.int .i64 64))], []⟩] <|
      .op ⟨(some 30), .pick (.t 26) (.t 29) (.c (.bool false)), []⟩ <|
      .op ⟨(some 2), .mov (.t 30), []⟩ <|
      .nil)) (
    .ret))

def plan_Right_hs : List (List Nat × List Nat) := []

end Wm.F
end

section
/- PRINTED by my tool (wip/wm/tool/Gen.lean): a function as one of my machine. -/
namespace Wm.F
open Wm
set_option maxRecDepth 100000

/-- 264: withy/plan.Size -/
def plan_Size : AFunc where
  closed := true
  nparams := 1
  ntmps := 14
  results := [.tmp 2]
  body := .seq (.ops (
      .op ⟨(some 1), .box (.t 0), []⟩ <|
      .op ⟨(some 2), .mov (.c (.int .i64 0)), []⟩ <|
      .nil)) (
    .seq (.seq (.ops (
      .op ⟨(some 3), .loadN 6 (.t 1), []⟩ <|
      .op ⟨(some 4), .call 263 [(.t 3)], []⟩ <|
      .op ⟨(some 5), .not (.t 4), []⟩ <|
      .nil)) (
    .cond (.t 5) (.seq (.ops (
        .op ⟨(some 2), .mov (.c (.int .i64 0)), []⟩ <|
        .nil)) (
      .ret)) (.skip))) (
    .seq (.ops (
      .op ⟨(some 6), .loadN 6 (.t 1), []⟩ <|
      .op ⟨(some 8), .fieldA 0 (.t 1), []⟩ <|
      .op ⟨(some 9), .load1 (.t 8), []⟩ <|
      .op ⟨(some 10), .loadN 6 (.t 1), []⟩ <|
      .op ⟨(some 7), .call 377 [(.t 6)], [{ g := none, op := .loadN 6 (.t 1), d := 10 }, { g := none, op := .load1 (.t 8), d := 9 }]⟩ <|
      .op ⟨(some 11), .call 378 [(.t 10)], [{ g := none, op := .load1 (.t 8), d := 9 }]⟩ <|
      .op ⟨(some 12), .arith .mul .i64 (.t 9) (.t 11), []⟩ <|
      .op ⟨(some 13), .arith .add .i64 (.t 7) (.t 12), []⟩ <|
      .op ⟨(some 2), .mov (.t 13), []⟩ <|
      .nil)) (
    .ret)))

def plan_Size_hs : List (List Nat × List Nat) := []

end Wm.F
end

section
/- PRINTED by my tool (wip/wm/tool/Gen.lean): a function as one of my machine. -/
namespace Wm.F
open Wm
set_option maxRecDepth 100000

/-- 265: withy/head.Unpack -/
def head_Unpack : AFunc where
  closed := true
  nparams := 1
  ntmps := 53
  results := [.cell true 6 2, .tmp 3]
  body := .seq (.ops (
      .op ⟨(some 2), .alloc [(.int .i64 0), (.int .i64 0), (.bool false), (.int .i64 0), (.int .i64 0), (.int .i64 0)], []⟩ <|
      .op ⟨(some 3), .mov (.c (.bool false)), []⟩ <|
      .nil)) (
    .seq (.ops (
      .op ⟨(some 7), .mov (.t 0), []⟩ <|
      .op ⟨(some 8), .buildSl 1 7 [(.int .i64 0)] [(0, 1, (.c (.int .i64 3))), (1, 1, (.c (.int .i64 1))), (2, 1, (.c (.int .i64 1))), (3, 1, (.c (.int .i64 4))), (4, 1, (.c (.int .i64 7))), (5, 1, (.c (.int .i64 32))), (6, 1, (.c (.int .i64 16)))], []⟩ <|
      .op ⟨(some 9), .call 379 [(.t 7), (.t 8)], []⟩ <|
      .op ⟨(some 6), .mov (.t 9), []⟩ <|
      .op ⟨(some 10), .extract (.t 6) 0, []⟩ <|
      .op ⟨(some 11), .extract (.t 6) 1, []⟩ <|
      .op ⟨(some 4), .mov (.t 10), []⟩ <|
      .op ⟨(some 5), .mov (.t 11), []⟩ <|
      .nil)) (
    .seq (.seq (.ops (
      .op ⟨(some 12), .mov (.t 4), []⟩ <|
      .op ⟨(some 13), .lenSl (.t 12), []⟩ <|
      .op ⟨(some 14), .cmp .lss .i64 (.t 13) (.c (.int .i64 7)), []⟩ <|
      .op ⟨(some 15), .mov (.t 14), []⟩ <|
      .grd 15 false [⟨(some 16), .mov (.t 4), []⟩,
          ⟨(some 17), .indexA 1 (.t 16) (.c (.int .i64 0)), []⟩,
          ⟨(some 18), .load1 (.t 17), []⟩,
          ⟨(some 19), .cmp .gtr .u64 (.t 18) (.c (.int .u64 4)), []⟩] <|
      .op ⟨(some 20), .pick (.t 15) (.c (.bool true)) (.t 19), []⟩ <|
      .op ⟨(some 21), .mov (.t 20), []⟩ <|
      .grd 21 false [⟨(some 22), .mov (.t 4), []⟩,
          ⟨(some 23), .indexA 1 (.t 22) (.c (.int .i64 4)), []⟩,
          ⟨(some 24), .load1 (.t 23), []⟩,
          ⟨(some 25), .cmp .neq .u64 (.t 24) (.c (.int .u64 0)), []⟩] <|
      .op ⟨(some 26), .pick (.t 21) (.c (.bool true)) (.t 25), []⟩ <|
      .nil)) (
    .cond (.t 26) (.seq (.ops (
        .op ⟨(some 27), .build [(.int .i64 0), (.int .i64 0), (.bool false), (.int .i64 0), (.int .i64 0), (.int .i64 0)] [], []⟩ <|
        .op ⟨none, .store 6 (.t 2) (.t 27), []⟩ <|
        .op ⟨(some 3), .mov (.c (.bool false)), []⟩ <|
        .nil)) (
      .ret)) (.skip))) (
    .seq (.ops (
      .op ⟨(some 28), .mov (.t 4), []⟩ <|
      .op ⟨(some 29), .indexA 1 (.t 28) (.c (.int .i64 0)), []⟩ <|
      .op ⟨(some 30), .load1 (.t 29), []⟩ <|
      .op ⟨(some 31), .conv .i64 (.t 30), []⟩ <|
      .op ⟨(some 32), .mov (.t 4), []⟩ <|
      .op ⟨(some 33), .indexA 1 (.t 32) (.c (.int .i64 1)), []⟩ <|
      .op ⟨(some 34), .load1 (.t 33), []⟩ <|
      .op ⟨(some 35), .conv .i64 (.t 34), []⟩ <|
      .op ⟨(some 36), .mov (.t 4), []⟩ <|
      .op ⟨(some 37), .indexA 1 (.t 36) (.c (.int .i64 2)), []⟩ <|
      .op ⟨(some 38), .load1 (.t 37), []⟩ <|
      .op ⟨(some 39), .cmp .eql .u64 (.t 38) (.c (.int .u64 1)), []⟩ <|
      .op ⟨(some 40), .mov (.t 4), []⟩ <|
      .op ⟨(some 41), .indexA 1 (.t 40) (.c (.int .i64 3)), []⟩ <|
      .op ⟨(some 42), .load1 (.t 41), []⟩ <|
      .op ⟨(some 43), .conv .i64 (.t 42), []⟩ <|
      .op ⟨(some 44), .mov (.t 4), []⟩ <|
      .op ⟨(some 45), .indexA 1 (.t 44) (.c (.int .i64 5)), []⟩ <|
      .op ⟨(some 46), .load1 (.t 45), []⟩ <|
      .op ⟨(some 47), .conv .i64 (.t 46), []⟩ <|
      .op ⟨(some 48), .mov (.t 4), []⟩ <|
      .op ⟨(some 49), .indexA 1 (.t 48) (.c (.int .i64 6)), []⟩ <|
      .op ⟨(some 50), .load1 (.t 49), []⟩ <|
      .op ⟨(some 51), .conv .i64 (.t 50), []⟩ <|
      .op ⟨(some 52), .build [(.int .i64 0), (.int .i64 0), (.bool false), (.int .i64 0), (.int .i64 0), (.int .i64 0)] [(0, 1, (.t 31)), (1, 1, (.t 35)), (2, 1, (.t 39)), (3, 1, (.t 43)), (4, 1, (.t 47)), (5, 1, (.t 51))], []⟩ <|
      .op ⟨none, .store 6 (.t 2) (.t 52), []⟩ <|
      .op ⟨(some 3), .mov (.c (.bool true)), []⟩ <|
      .nil)) (
    .ret))))

def head_Unpack_hs : List (List Nat × List Nat) := []

end Wm.F
end

section
/- PRINTED by my tool (wip/wm/tool/Gen.lean): a function as one of my machine. -/
namespace Wm.F
open Wm
set_option maxRecDepth 100000

/-- 346: (*withy/mem.Mem).there -/
def mem_Mem_there : AFunc where
  closed := false
  nparams := 2
  ntmps := 13
  results := [.tmp 4]
  body := .seq (.ops (
      .op ⟨(some 4), .mov (.c (.bool false)), []⟩ <|
      .nil)) (
    .seq (.ops (
      .op ⟨(some 5), .mov (.t 1), []⟩ <|
      .op ⟨(some 6), .cmp .geq .i64 (.t 5) (.c (.int .i64 0)), []⟩ <|
      .op ⟨(some 7), .mov (.t 6), []⟩ <|
      .grd 7 true [⟨(some 8), .mov (.t 1), []⟩,
          ⟨(some 9), .mov (.t 0), []⟩,
          ⟨(some 10), .call 413 [(.t 9)], []⟩,
          ⟨(some 11), .cmp .lss .i64 (.t 8) (.t 10), []⟩] <|
      .op ⟨(some 12), .pick (.t 7) (.t 11) (.c (.bool false)), []⟩ <|
      .op ⟨(some 4), .mov (.t 12), []⟩ <|
      .nil)) (
    .ret))

def mem_Mem_there_hs : List (List Nat × List Nat) := []

end Wm.F
end

section
/- PRINTED by my tool (wip/wm/tool/Gen.lean): a function as one of my machine. -/
namespace Wm.F
open Wm
set_option maxRecDepth 100000

/-- 347: (*withy/mem.Mem).touch -/
def mem_Mem_touch : AFunc where
  closed := false
  nparams := 4
  ntmps := 36
  results := []
  body := .seq (.ops (
      .op ⟨(some 8), .mov (.t 0), []⟩ <|
      .op ⟨(some 9), .nilc (.t 8), []⟩ <|
      .op ⟨(some 10), .fieldA 1 (.t 9), []⟩ <|
      .op ⟨(some 11), .load1 (.t 10), []⟩ <|
      .op ⟨(some 12), .arith .add .i64 (.t 11) (.c (.int .i64 1)), []⟩ <|
      .op ⟨(some 13), .nilc (.t 8), []⟩ <|
      .op ⟨(some 14), .fieldA 1 (.t 13), []⟩ <|
      .op ⟨none, .store 1 (.t 14) (.t 12), []⟩ <|
      .nil)) (
    .seq (.ops (
      .op ⟨(some 15), .mov (.t 0), []⟩ <|
      .op ⟨(some 16), .mov (.t 1), []⟩ <|
      .op ⟨(some 17), .mov (.t 2), []⟩ <|
      .op ⟨(some 18), .mov (.t 0), []⟩ <|
      .op ⟨(some 19), .nilc (.t 18), []⟩ <|
      .op ⟨(some 20), .fieldA 0 (.t 19), []⟩ <|
      .op ⟨(some 21), .load1 (.t 20), []⟩ <|
      .op ⟨(some 22), .mov (.t 2), []⟩ <|
      .op ⟨(some 23), .indexA 1 (.t 21) (.t 22), []⟩ <|
      .op ⟨(some 24), .load1 (.t 23), []⟩ <|
      .op ⟨(some 25), .mov (.t 3), []⟩ <|
      .op ⟨(some 26), .build [(.int .i64 0), (.int .i64 0), (.int .u64 0), (.int .u64 0)] [(0, 1, (.t 16)), (1, 1, (.t 17)), (2, 1, (.t 24)), (3, 1, (.t 25))], []⟩ <|
      .op ⟨(some 27), .nilc (.t 15), []⟩ <|
      .op ⟨(some 28), .fieldA 2 (.t 27), []⟩ <|
      .op ⟨none, .store 4 (.t 28) (.t 26), []⟩ <|
      .nil)) (
    .ops (
      .op ⟨(some 29), .mov (.t 0), []⟩ <|
      .op ⟨(some 30), .nilc (.t 29), []⟩ <|
      .op ⟨(some 31), .fieldA 0 (.t 30), []⟩ <|
      .op ⟨(some 32), .load1 (.t 31), []⟩ <|
      .op ⟨(some 33), .mov (.t 2), []⟩ <|
      .op ⟨(some 34), .mov (.t 3), []⟩ <|
      .op ⟨(some 35), .indexA 1 (.t 32) (.t 33), []⟩ <|
      .op ⟨none, .store 1 (.t 35) (.t 34), []⟩ <|
      .nil)))

def mem_Mem_touch_hs : List (List Nat × List Nat) := []

end Wm.F
end

section
/- PRINTED by my tool (wip/wm/tool/Gen.lean): a function as one of my machine. -/
namespace Wm.F
open Wm
set_option maxRecDepth 100000

/-- 293: withy/plan.Link -/
def plan_Link : AFunc where
  closed := true
  nparams := 2
  ntmps := 8
  results := [.tmp 4]
  body := .seq (.ops (
      .op ⟨(some 2), .box (.t 0), []⟩ <|
      .op ⟨(some 4), .mov (.c (.int .i64 0)), []⟩ <|
      .nil)) (
    .seq (.ops (
      .op ⟨(some 5), .loadN 6 (.t 2), []⟩ <|
      .op ⟨(some 6), .mov (.t 1), []⟩ <|
      .op ⟨(some 7), .call 375 [(.t 5), (.t 6), (.c (.int .i64 1))], []⟩ <|
      .op ⟨(some 4), .mov (.t 7), []⟩ <|
      .nil)) (
    .ret))

def plan_Link_hs : List (List Nat × List Nat) := []

end Wm.F
end

section
/- PRINTED by my tool (wip/wm/tool/Gen.lean): a function as one of my machine. -/
namespace Wm.F
open Wm
set_option maxRecDepth 100000

/-- 350: withy/tag.Top -/
def tag_Top : AFunc where
  closed := true
  nparams := 2
  ntmps := 11
  results := [.tmp 4, .tmp 5]
  body := .seq (.ops (
      .op ⟨(some 4), .mov (.c (.int .u64 0)), []⟩ <|
      .op ⟨(some 5), .mov (.c (.bool false)), []⟩ <|
      .nil)) (
    .seq (.ops (
      .op ⟨(some 6), .mov (.t 0), []⟩ <|
      .op ⟨(some 7), .mov (.t 1), []⟩ <|
      .op ⟨(some 8), .call 414 [(.t 6), (.t 7), (.c (.int .i64 16))], []⟩ <|
      .op ⟨(some 9), .extract (.t 8) 0, []⟩ <|
      .op ⟨(some 10), .extract (.t 8) 1, []⟩ <|
      .op ⟨(some 4), .mov (.t 9), []⟩ <|
      .op ⟨(some 5), .mov (.t 10), []⟩ <|
      .nil)) (
    .ret))

def tag_Top_hs : List (List Nat × List Nat) := []

end Wm.F
end

section
/- PRINTED by my tool (wip/wm/tool/Gen.lean): a function as one of my machine. -/
namespace Wm.F
open Wm
set_option maxRecDepth 100000

/-- 375: withy/plan.within -/
def plan_within : AFunc where
  closed := true
  nparams := 3
  ntmps := 35
  results := [.tmp 6]
  body := .seq (.ops (
      .op ⟨(some 3), .box (.t 0), []⟩ <|
      .op ⟨(some 6), .mov (.c (.int .i64 0)), []⟩ <|
      .nil)) (
    .seq (.seq (.ops (
      .op ⟨(some 7), .loadN 6 (.t 3), []⟩ <|
      .op ⟨(some 8), .call 263 [(.t 7)], []⟩ <|
      .op ⟨(some 9), .not (.t 8), []⟩ <|
      .op ⟨(some 10), .mov (.t 9), []⟩ <|
      .grd 10 false [⟨(some 11), .mov (.t 1), []⟩,
          ⟨(some 12), .fieldA 0 (.t 3), []⟩,
          ⟨(some 13), .load1 (.t 12), []⟩,
          ⟨(some 14), .arith .sub .i64 (.t 13) (.c (.int .i64 1)), []⟩,
          ⟨(some 15), .call 376 [(.t 11), (.c (.int .i64 0)), (.t 14)], []⟩,
          ⟨(some 16), .not (.t 15), []⟩] <|
      .op ⟨(some 17), .pick (.t 10) (.c (.bool true)) (.t 16), []⟩ <|
      .op ⟨(some 18), .mov (.t 17), []⟩ <|
      .grd 18 false [⟨(some 19), .mov (.t 2), []⟩,
          ⟨(some 20), .loadN 6 (.t 3), []⟩,
          ⟨(some 21), .call 378 [(.t 20)], []⟩,
          ⟨(some 22), .arith .sub .i64 (.t 21) (.c (.int .i64 1)), []⟩,
          ⟨(some 23), .call 376 [(.t 19), (.c (.int .i64 0)), (.t 22)], []⟩,
          ⟨(some 24), .not (.t 23), []⟩] <|
      .op ⟨(some 25), .pick (.t 18) (.c (.bool true)) (.t 24), []⟩ <|
      .nil)) (
    .cond (.t 25) (.seq (.ops (
        .op ⟨(some 6), .mov (.c (.int .i64 (-1))), []⟩ <|
        .nil)) (
      .ret)) (.skip))) (
    .seq (.ops (
      .op ⟨(some 26), .loadN 6 (.t 3), []⟩ <|
      .op ⟨(some 28), .mov (.t 1), []⟩ <|
      .op ⟨(some 29), .loadN 6 (.t 3), []⟩ <|
      .op ⟨(some 33), .mov (.t 2), []⟩ <|
      .op ⟨(some 27), .call 377 [(.t 26)], [{ g := none, op := .loadN 6 (.t 3), d := 29 }]⟩ <|
      .op ⟨(some 30), .call 378 [(.t 29)], []⟩ <|
      .op ⟨(some 31), .arith .mul .i64 (.t 28) (.t 30), []⟩ <|
      .op ⟨(some 32), .arith .add .i64 (.t 27) (.t 31), []⟩ <|
      .op ⟨(some 34), .arith .add .i64 (.t 32) (.t 33), []⟩ <|
      .op ⟨(some 6), .mov (.t 34), []⟩ <|
      .nil)) (
    .ret)))

def plan_within_hs : List (List Nat × List Nat) := []

end Wm.F
end

section
/- PRINTED by my tool (wip/wm/tool/Gen.lean): a function as one of my machine. -/
namespace Wm.F
open Wm
set_option maxRecDepth 100000

/-- 380: withy/head.lives -/
def head_lives : AFunc where
  closed := true
  nparams := 1
  ntmps := 23
  results := [.cell true 6 2, .tmp 3]
  body := .seq (.ops (
      .op ⟨(some 2), .alloc [(.int .i64 0), (.int .i64 0), (.bool false), (.int .i64 0), (.int .i64 0), (.int .i64 0)], []⟩ <|
      .op ⟨(some 3), .mov (.c (.bool false)), []⟩ <|
      .nil)) (
    .seq (.ops (
      .op ⟨(some 7), .mov (.t 0), []⟩ <|
      .op ⟨(some 8), .call 265 [(.t 7)], []⟩ <|
      .op ⟨(some 6), .mov (.t 8), []⟩ <|
      .op ⟨(some 9), .extract (.t 6) 0, []⟩ <|
      .op ⟨(some 10), .extract (.t 6) 1, []⟩ <|
      .op ⟨(some 4), .alloc [(.int .i64 0), (.int .i64 0), (.bool false), (.int .i64 0), (.int .i64 0), (.int .i64 0)], []⟩ <|
      .op ⟨none, .store 6 (.t 4) (.t 9), []⟩ <|
      .op ⟨(some 5), .mov (.t 10), []⟩ <|
      .nil)) (
    .seq (.ops (
      .op ⟨(some 11), .loadN 6 (.t 4), []⟩ <|
      .op ⟨(some 12), .mov (.t 5), []⟩ <|
      .op ⟨(some 13), .mov (.t 12), []⟩ <|
      .grd 13 true [⟨(some 14), .fieldA 0 (.t 4), []⟩,
          ⟨(some 15), .load1 (.t 14), []⟩,
          ⟨(some 16), .cmp .eql .i64 (.t 15) (.c (.int .i64 1)), []⟩,
          ⟨(some 17), .mov (.t 16), []⟩] <|
      .grd 17 false [⟨(some 18), .fieldA 0 (.t 4), []⟩,
          ⟨(some 19), .load1 (.t 18), []⟩,
          ⟨(some 20), .cmp .eql .i64 (.t 19) (.c (.int .i64 2)), []⟩] <|
      .grd 13 true [⟨(some 21), .pick (.t 17) (.c (.bool true)) (.t 20), []⟩] <|
      .op ⟨(some 22), .pick (.t 13) (.t 21) (.c (.bool false)), []⟩ <|
      .op ⟨none, .store 6 (.t 2) (.t 11), [{ g := (some (17, false)), op := .load1 (.t 18), d := 19 }]⟩ <|
      .op ⟨(some 3), .mov (.t 22), []⟩ <|
      .nil)) (
    .ret)))

def head_lives_hs : List (List Nat × List Nat) := []

end Wm.F
end

section
/- PRINTED by my tool (wip/wm/tool/Gen.lean): a function as one of my machine. -/
namespace Wm.F
open Wm
set_option maxRecDepth 100000

/-- 381: withy/turn.Black -/
def turn_Black : AFunc where
  closed := true
  nparams := 1
  ntmps := 8
  results := [.tmp 2]
  body := .seq (.ops (
      .op ⟨(some 2), .mov (.c (.int .i64 0)), []⟩ <|
      .nil)) (
    .seq (.ops (
      .op ⟨(some 3), .mov (.t 0), []⟩ <|
      .op ⟨(some 4), .call 442 [(.t 3)], []⟩ <|
      .op ⟨(some 5), .arith .add .u64 (.t 4) (.c (.int .u64 1)), []⟩ <|
      .op ⟨(some 6), .arith .rem .u64 (.t 5) (.c (.int .u64 2)), []⟩ <|
      .op ⟨(some 7), .conv .i64 (.t 6), []⟩ <|
      .op ⟨(some 2), .mov (.t 7), []⟩ <|
      .nil)) (
    .ret))

def turn_Black_hs : List (List Nat × List Nat) := []

end Wm.F
end

section
/- PRINTED by my tool (wip/wm/tool/Gen.lean): a function as one of my machine. -/
namespace Wm.F
open Wm
set_option maxRecDepth 100000

def head_Pack_c1 : ACode :=
  .seq (.ops (
    .op ⟨(some 20), .cmp .lss .i64 (.t 19) (.c (.int .i64 5)), []⟩ <|
    .nil)) (
  .seq (.cond (.t 20) (.skip) (.exit 0)) (
  .seq (.block 1 (.seq (.ops (
    .op ⟨(some 21), .indexAgg 5 1 false (.t 18) (.t 19), []⟩ <|
    .op ⟨(some 5), .mov (.t 21), []⟩ <|
    .nil)) (
  .seq (.ops (
    .op ⟨(some 22), .mov (.t 5), []⟩ <|
    .op ⟨(some 23), .cmp .lss .i64 (.t 22) (.c (.int .i64 0)), []⟩ <|
    .nil)) (
  .cond (.t 23) (.seq (.ops (
      .op ⟨(some 2), .mov (.c (.int .u64 0)), []⟩ <|
      .op ⟨(some 3), .mov (.c (.bool false)), []⟩ <|
      .nil)) (
    .ret)) (.skip))))) (
  .ops (
    .op ⟨(some 24), .arith .add .i64 (.t 19) (.c (.int .i64 1)), []⟩ <|
    .op ⟨(some 19), .mov (.t 24), []⟩ <|
    .nil))))

def head_Pack_c0 : ACode :=
  .seq (.ops (
    .op ⟨(some 26), .fieldA 0 (.t 1), []⟩ <|
    .op ⟨(some 27), .load1 (.t 26), []⟩ <|
    .op ⟨(some 28), .conv .u64 (.t 27), []⟩ <|
    .op ⟨(some 29), .build [(.int .i64 0), (.int .u64 0)] [(0, 1, (.c (.int .i64 3))), (1, 1, (.t 28))], []⟩ <|
    .op ⟨(some 30), .fieldA 1 (.t 1), []⟩ <|
    .op ⟨(some 31), .load1 (.t 30), []⟩ <|
    .op ⟨(some 32), .conv .u64 (.t 31), []⟩ <|
    .op ⟨(some 33), .build [(.int .i64 0), (.int .u64 0)] [(0, 1, (.c (.int .i64 1))), (1, 1, (.t 32))], []⟩ <|
    .op ⟨(some 34), .fieldA 2 (.t 1), []⟩ <|
    .op ⟨(some 35), .load1 (.t 34), []⟩ <|
    .op ⟨(some 38), .fieldA 3 (.t 1), []⟩ <|
    .op ⟨(some 39), .load1 (.t 38), []⟩ <|
    .op ⟨(some 40), .conv .u64 (.t 39), []⟩ <|
    .op ⟨(some 41), .build [(.int .i64 0), (.int .u64 0)] [(0, 1, (.c (.int .i64 4))), (1, 1, (.t 40))], []⟩ <|
    .op ⟨(some 42), .build [(.int .i64 0), (.int .u64 0)] [(0, 1, (.c (.int .i64 7)))], []⟩ <|
    .op ⟨(some 43), .fieldA 4 (.t 1), []⟩ <|
    .op ⟨(some 44), .load1 (.t 43), []⟩ <|
    .op ⟨(some 45), .conv .u64 (.t 44), []⟩ <|
    .op ⟨(some 46), .build [(.int .i64 0), (.int .u64 0)] [(0, 1, (.c (.int .i64 32))), (1, 1, (.t 45))], []⟩ <|
    .op ⟨(some 47), .fieldA 5 (.t 1), []⟩ <|
    .op ⟨(some 48), .load1 (.t 47), []⟩ <|
    .op ⟨(some 49), .conv .u64 (.t 48), []⟩ <|
    .op ⟨(some 50), .build [(.int .i64 0), (.int .u64 0)] [(0, 1, (.c (.int .i64 16))), (1, 1, (.t 49))], []⟩ <|
    .op ⟨(some 36), .call 444 [(.t 35)], [{ g := none, op := .load1 (.t 47), d := 48 }, { g := none, op := .load1 (.t 43), d := 44 }, { g := none, op := .load1 (.t 38), d := 39 }, { g := none, op := .load1 (.t 30), d := 31 }, { g := none, op := .load1 (.t 26), d := 27 }]⟩ <|
    .op ⟨(some 37), .build [(.int .i64 0), (.int .u64 0)] [(0, 1, (.c (.int .i64 1))), (1, 1, (.t 36))], []⟩ <|
    .op ⟨(some 51), .buildSl 2 7 [(.int .i64 0), (.int .u64 0)] [(0, 2, (.t 29)), (2, 2, (.t 33)), (4, 2, (.t 37)), (6, 2, (.t 41)), (8, 2, (.t 42)), (10, 2, (.t 46)), (12, 2, (.t 50))], []⟩ <|
    .op ⟨(some 52), .call 443 [(.t 51)], []⟩ <|
    .op ⟨(some 25), .mov (.t 52), []⟩ <|
    .op ⟨(some 53), .extract (.t 25) 0, []⟩ <|
    .op ⟨(some 54), .extract (.t 25) 1, []⟩ <|
    .op ⟨(some 6), .mov (.t 53), []⟩ <|
    .op ⟨(some 7), .mov (.t 54), []⟩ <|
    .nil)) (
  .seq (.seq (.ops (
    .op ⟨(some 55), .mov (.t 7), []⟩ <|
    .op ⟨(some 56), .not (.t 55), []⟩ <|
    .op ⟨(some 57), .mov (.t 56), []⟩ <|
    .grd 57 false [⟨(some 58), .fieldA 0 (.t 1), []⟩,
        ⟨(some 59), .load1 (.t 58), []⟩,
        ⟨(some 60), .cmp .gtr .i64 (.t 59) (.c (.int .i64 4)), []⟩] <|
    .op ⟨(some 61), .pick (.t 57) (.c (.bool true)) (.t 60), []⟩ <|
    .nil)) (
  .cond (.t 61) (.seq (.ops (
      .op ⟨(some 2), .mov (.c (.int .u64 0)), []⟩ <|
      .op ⟨(some 3), .mov (.c (.bool false)), []⟩ <|
      .nil)) (
    .ret)) (.skip))) (
  .seq (.ops (
    .op ⟨(some 62), .mov (.t 6), []⟩ <|
    .op ⟨(some 2), .mov (.t 62), []⟩ <|
    .op ⟨(some 3), .mov (.c (.bool true)), []⟩ <|
    .nil)) (
  .ret)))

/-- 382: withy/head.Pack -/
def head_Pack : AFunc where
  closed := true
  nparams := 1
  ntmps := 63
  results := [.tmp 2, .tmp 3]
  body := .seq (.ops (
      .op ⟨(some 1), .box (.t 0), []⟩ <|
      .op ⟨(some 2), .mov (.c (.int .u64 0)), []⟩ <|
      .op ⟨(some 3), .mov (.c (.bool false)), []⟩ <|
      .nil)) (
    .seq (.seq (.ops (
      .op ⟨(some 8), .fieldA 0 (.t 1), []⟩ <|
      .op ⟨(some 9), .load1 (.t 8), []⟩ <|
      .op ⟨(some 10), .fieldA 1 (.t 1), []⟩ <|
      .op ⟨(some 11), .load1 (.t 10), []⟩ <|
      .op ⟨(some 12), .fieldA 3 (.t 1), []⟩ <|
      .op ⟨(some 13), .load1 (.t 12), []⟩ <|
      .op ⟨(some 14), .fieldA 4 (.t 1), []⟩ <|
      .op ⟨(some 15), .load1 (.t 14), []⟩ <|
      .op ⟨(some 16), .fieldA 5 (.t 1), []⟩ <|
      .op ⟨(some 17), .load1 (.t 16), []⟩ <|
      .op ⟨(some 18), .build [(.int .i64 0), (.int .i64 0), (.int .i64 0), (.int .i64 0), (.int .i64 0)] [(0, 1, (.t 9)), (1, 1, (.t 11)), (2, 1, (.t 13)), (3, 1, (.t 15)), (4, 1, (.t 17))], []⟩ <|
      .op ⟨(some 19), .mov (.c (.int .i64 0)), []⟩ <|
      .nil)) (
    .block 0 (.loop [1, 18, 19] [1, 2, 3] (head_Pack_c1)))) (
    head_Pack_c0))

def head_Pack_hs : List (List Nat × List Nat) := [([1, 18, 19], [1, 2, 3])]

end Wm.F
end

section
/- PRINTED by my tool (wip/wm/tool/Gen.lean): a function as one of my machine. -/
namespace Wm.F
open Wm
set_option maxRecDepth 100000

/-- 149: withy/withyref06.Room -/
def withyref06_Room : AFunc where
  closed := true
  nparams := 1
  ntmps := 8
  results := [.tmp 2]
  body := .seq (.ops (
      .op ⟨(some 1), .box (.t 0), []⟩ <|
      .op ⟨(some 2), .mov (.c (.int .i64 0)), []⟩ <|
      .nil)) (
    .seq (.seq (.ops (
      .op ⟨(some 3), .fieldA 1 (.t 1), []⟩ <|
      .op ⟨(some 4), .load1 (.t 3), []⟩ <|
      .op ⟨(some 5), .cmp .lss .i64 (.t 4) (.c (.int .i64 3)), []⟩ <|
      .nil)) (
    .cond (.t 5) (.seq (.ops (
        .op ⟨(some 2), .mov (.c (.int .i64 3)), []⟩ <|
        .nil)) (
      .ret)) (.skip))) (
    .seq (.ops (
      .op ⟨(some 6), .fieldA 1 (.t 1), []⟩ <|
      .op ⟨(some 7), .load1 (.t 6), []⟩ <|
      .op ⟨(some 2), .mov (.t 7), []⟩ <|
      .nil)) (
    .ret)))

def withyref06_Room_hs : List (List Nat × List Nat) := []

end Wm.F
end

section
/- PRINTED by my tool (wip/wm/tool/Gen.lean): a function as one of my machine. -/
namespace Wm.F
open Wm
set_option maxRecDepth 100000

/-- 376: withy/plan.between -/
def plan_between : AFunc where
  closed := true
  nparams := 3
  ntmps := 15
  results := [.tmp 6]
  body := .seq (.ops (
      .op ⟨(some 6), .mov (.c (.bool false)), []⟩ <|
      .nil)) (
    .seq (.ops (
      .op ⟨(some 7), .mov (.t 0), []⟩ <|
      .op ⟨(some 8), .mov (.t 1), []⟩ <|
      .op ⟨(some 9), .cmp .geq .i64 (.t 7) (.t 8), []⟩ <|
      .op ⟨(some 10), .mov (.t 9), []⟩ <|
      .grd 10 true [⟨(some 11), .mov (.t 0), []⟩,
          ⟨(some 12), .mov (.t 2), []⟩,
          ⟨(some 13), .cmp .leq .i64 (.t 11) (.t 12), []⟩] <|
      .op ⟨(some 14), .pick (.t 10) (.t 13) (.c (.bool false)), []⟩ <|
      .op ⟨(some 6), .mov (.t 14), []⟩ <|
      .nil)) (
    .ret))

def plan_between_hs : List (List Nat × List Nat) := []

end Wm.F
end

section
/- PRINTED by my tool (wip/wm/tool/Gen.lean): a function as one of my machine. -/
namespace Wm.F
open Wm
set_option maxRecDepth 100000

/-- 377: withy/plan.slots -/
def plan_slots : AFunc where
  closed := true
  nparams := 1
  ntmps := 11
  results := [.tmp 2]
  body := .seq (.ops (
      .op ⟨(some 1), .box (.t 0), []⟩ <|
      .op ⟨(some 2), .mov (.c (.int .i64 0)), []⟩ <|
      .nil)) (
    .seq (.ops (
      .op ⟨(some 3), .fieldA 2 (.t 1), []⟩ <|
      .op ⟨(some 4), .load1 (.t 3), []⟩ <|
      .op ⟨(some 5), .fieldA 3 (.t 1), []⟩ <|
      .op ⟨(some 6), .load1 (.t 5), []⟩ <|
      .op ⟨(some 7), .arith .add .i64 (.c (.int .i64 1)) (.t 6), []⟩ <|
      .op ⟨(some 8), .arith .add .i64 (.t 7) (.c (.int .i64 2)), []⟩ <|
      .op ⟨(some 9), .arith .mul .i64 (.t 4) (.t 8), []⟩ <|
      .op ⟨(some 10), .arith .add .i64 (.c (.int .i64 4)) (.t 9), []⟩ <|
      .op ⟨(some 2), .mov (.t 10), []⟩ <|
      .nil)) (
    .ret))

def plan_slots_hs : List (List Nat × List Nat) := []

end Wm.F
end

section
/- PRINTED by my tool (wip/wm/tool/Gen.lean): a function as one of my machine. -/
namespace Wm.F
open Wm
set_option maxRecDepth 100000

/-- 378: withy/plan.room -/
def plan_room : AFunc where
  closed := true
  nparams := 1
  ntmps := 7
  results := [.tmp 2]
  body := .seq (.ops (
      .op ⟨(some 1), .box (.t 0), []⟩ <|
      .op ⟨(some 2), .mov (.c (.int .i64 0)), []⟩ <|
      .nil)) (
    .seq (.ops (
      .op ⟨(some 3), .fieldA 1 (.t 1), []⟩ <|
      .op ⟨(some 4), .load1 (.t 3), []⟩ <|
      .op ⟨(some 5), .minmax true .i64 (.t 4) (.c (.int .i64 3)), []⟩ <|
      .op ⟨(some 6), .arith .add .i64 (.c (.int .i64 2)) (.t 5), []⟩ <|
      .op ⟨(some 2), .mov (.t 6), []⟩ <|
      .nil)) (
    .ret))

def plan_room_hs : List (List Nat × List Nat) := []

end Wm.F
end

section
/- PRINTED by my tool (wip/wm/tool/Gen.lean): a function as one of my machine. -/
namespace Wm.F
open Wm
set_option maxRecDepth 100000

def word_Unpack_c1 : ACode :=
  .seq (.ops (
    .op ⟨(some 13), .cmp .lss .i64 (.t 12) (.t 11), []⟩ <|
    .nil)) (
  .seq (.cond (.t 13) (.skip) (.exit 0)) (
  .seq (.block 1 (.seq (.ops (
    .op ⟨(some 14), .indexA 1 (.t 10) (.t 12), []⟩ <|
    .op ⟨(some 15), .load1 (.t 14), []⟩ <|
    .op ⟨(some 9), .mov (.t 15), []⟩ <|
    .nil)) (
  .seq (.seq (.ops (
    .op ⟨(some 16), .mov (.t 7), []⟩ <|
    .op ⟨(some 17), .mov (.t 9), []⟩ <|
    .op ⟨(some 18), .call 441 [(.t 16), (.t 17)], []⟩ <|
    .op ⟨(some 19), .not (.t 18), []⟩ <|
    .nil)) (
  .cond (.t 19) (.seq (.ops (
      .op ⟨(some 4), .mov (.c .nilsl), []⟩ <|
      .op ⟨(some 5), .mov (.c (.bool false)), []⟩ <|
      .nil)) (
    .ret)) (.skip))) (
  .seq (.ops (
    .op ⟨(some 20), .mov (.t 6), []⟩ <|
    .op ⟨(some 21), .mov (.t 0), []⟩ <|
    .op ⟨(some 22), .mov (.t 7), []⟩ <|
    .op ⟨(some 23), .mov (.t 9), []⟩ <|
    .op ⟨(some 24), .call 396 [(.t 21), (.t 22), (.t 23)], []⟩ <|
    .op ⟨(some 25), .buildSl 1 1 [(.int .u64 0)] [(0, 1, (.t 24))], []⟩ <|
    .op ⟨(some 26), .append 1 8 (.t 20) (.t 25), []⟩ <|
    .op ⟨(some 6), .mov (.t 26), []⟩ <|
    .nil)) (
  .ops (
    .op ⟨(some 27), .mov (.t 7), []⟩ <|
    .op ⟨(some 28), .mov (.t 9), []⟩ <|
    .op ⟨(some 29), .arith .add .i64 (.t 27) (.t 28), []⟩ <|
    .op ⟨(some 7), .mov (.t 29), []⟩ <|
    .nil)))))) (
  .ops (
    .op ⟨(some 30), .arith .add .i64 (.t 12) (.c (.int .i64 1)), []⟩ <|
    .op ⟨(some 12), .mov (.t 30), []⟩ <|
    .nil))))

def word_Unpack_c0 : ACode :=
  .seq (.ops (
    .op ⟨(some 31), .mov (.t 6), []⟩ <|
    .op ⟨(some 4), .mov (.t 31), []⟩ <|
    .op ⟨(some 5), .mov (.c (.bool true)), []⟩ <|
    .nil)) (
  .ret)

/-- 379: withy/word.Unpack -/
def word_Unpack : AFunc where
  closed := false
  nparams := 2
  ntmps := 32
  results := [.tmp 4, .tmp 5]
  body := .seq (.ops (
      .op ⟨(some 4), .mov (.c .nilsl), []⟩ <|
      .op ⟨(some 5), .mov (.c (.bool false)), []⟩ <|
      .nil)) (
    .seq (.ops (
      .op ⟨(some 6), .mov (.c .nilsl), []⟩ <|
      .nil)) (
    .seq (.ops (
      .op ⟨(some 7), .mov (.c (.int .i64 0)), []⟩ <|
      .nil)) (
    .seq (.seq (.ops (
      .op ⟨(some 10), .mov (.t 1), []⟩ <|
      .op ⟨(some 11), .lenSl (.t 10), []⟩ <|
      .op ⟨(some 12), .mov (.c (.int .i64 0)), []⟩ <|
      .nil)) (
    .block 0 (.loop [0, 6, 7, 10, 11, 12] [4, 5, 6] (word_Unpack_c1)))) (
    word_Unpack_c0))))

def word_Unpack_hs : List (List Nat × List Nat) := [([0, 6, 7, 10, 11, 12], [4, 5, 6])]

end Wm.F
end

section
/- PRINTED by my tool (wip/wm/tool/Gen.lean): a function as one of my machine. -/
namespace Wm.F
open Wm
set_option maxRecDepth 100000

/-- 413: (*withy/mem.Mem).Size -/
def mem_Mem_Size : AFunc where
  closed := false
  nparams := 1
  ntmps := 10
  results := [.tmp 2]
  body := .seq (.ops (
      .op ⟨(some 2), .mov (.c (.int .i64 0)), []⟩ <|
      .nil)) (
    .seq (.seq (.ops (
      .op ⟨(some 3), .mov (.t 0), []⟩ <|
      .op ⟨(some 4), .eq false .ptr (.t 3) (.c .nilp), []⟩ <|
      .nil)) (
    .cond (.t 4) (.seq (.ops (
        .op ⟨(some 2), .mov (.c (.int .i64 0)), []⟩ <|
        .nil)) (
      .ret)) (.skip))) (
    .seq (.ops (
      .op ⟨(some 5), .mov (.t 0), []⟩ <|
      .op ⟨(some 6), .nilc (.t 5), []⟩ <|
      .op ⟨(some 7), .fieldA 0 (.t 6), []⟩ <|
      .op ⟨(some 8), .load1 (.t 7), []⟩ <|
      .op ⟨(some 9), .lenSl (.t 8), []⟩ <|
      .op ⟨(some 2), .mov (.t 9), []⟩ <|
      .nil)) (
    .ret)))

def mem_Mem_Size_hs : List (List Nat × List Nat) := []

end Wm.F
end

section
/- PRINTED by my tool (wip/wm/tool/Gen.lean): a function as one of my machine. -/
namespace Wm.F
open Wm
set_option maxRecDepth 100000

/-- 414: withy/tag.tagged -/
def tag_tagged : AFunc where
  closed := true
  nparams := 3
  ntmps := 24
  results := [.tmp 6, .tmp 7]
  body := .seq (.ops (
      .op ⟨(some 6), .mov (.c (.int .u64 0)), []⟩ <|
      .op ⟨(some 7), .mov (.c (.bool false)), []⟩ <|
      .nil)) (
    .seq (.seq (.ops (
      .op ⟨(some 8), .mov (.t 1), []⟩ <|
      .op ⟨(some 9), .call 462 [(.t 8)], []⟩ <|
      .op ⟨(some 10), .not (.t 9), []⟩ <|
      .nil)) (
    .cond (.t 10) (.seq (.ops (
        .op ⟨(some 6), .mov (.c (.int .u64 0)), []⟩ <|
        .op ⟨(some 7), .mov (.c (.bool false)), []⟩ <|
        .nil)) (
      .ret)) (.skip))) (
    .seq (.ops (
      .op ⟨(some 11), .mov (.t 2), []⟩ <|
      .op ⟨(some 12), .mov (.t 1), []⟩ <|
      .op ⟨(some 13), .arith .add .i64 (.t 12) (.c (.int .i64 1)), []⟩ <|
      .op ⟨(some 14), .conv .u64 (.t 13), []⟩ <|
      .op ⟨(some 15), .build [(.int .i64 0), (.int .u64 0)] [(0, 1, (.t 11)), (1, 1, (.t 14))], []⟩ <|
      .op ⟨(some 16), .mov (.t 2), []⟩ <|
      .op ⟨(some 17), .arith .sub .i64 (.c (.int .i64 64)) (.t 16), []⟩ <|
      .op ⟨(some 18), .mov (.t 0), []⟩ <|
      .op ⟨(some 19), .build [(.int .i64 0), (.int .u64 0)] [(0, 1, (.t 17)), (1, 1, (.t 18))], []⟩ <|
      .op ⟨(some 20), .buildSl 2 2 [(.int .i64 0), (.int .u64 0)] [(0, 2, (.t 15)), (2, 2, (.t 19))], []⟩ <|
      .op ⟨(some 21), .call 443 [(.t 20)], []⟩ <|
      .op ⟨(some 22), .extract (.t 21) 0, []⟩ <|
      .op ⟨(some 23), .extract (.t 21) 1, []⟩ <|
      .op ⟨(some 6), .mov (.t 22), []⟩ <|
      .op ⟨(some 7), .mov (.t 23), []⟩ <|
      .nil)) (
    .ret)))

def tag_tagged_hs : List (List Nat × List Nat) := []

end Wm.F
end

section
/- PRINTED by my tool (wip/wm/tool/Gen.lean): a function as one of my machine. -/
namespace Wm.F
open Wm
set_option maxRecDepth 100000

/-- 442: withy/turn.Cycle -/
def turn_Cycle : AFunc where
  closed := true
  nparams := 1
  ntmps := 5
  results := [.tmp 2]
  body := .seq (.ops (
      .op ⟨(some 2), .mov (.c (.int .u64 0)), []⟩ <|
      .nil)) (
    .seq (.ops (
      .op ⟨(some 3), .mov (.t 0), []⟩ <|
      .op ⟨(some 4), .arith .quo .u64 (.t 3) (.c (.int .u64 4)), []⟩ <|
      .op ⟨(some 2), .mov (.t 4), []⟩ <|
      .nil)) (
    .ret))

def turn_Cycle_hs : List (List Nat × List Nat) := []

end Wm.F
end

section
/- PRINTED by my tool (wip/wm/tool/Gen.lean): a function as one of my machine. -/
namespace Wm.F
open Wm
set_option maxRecDepth 100000

def word_Pack_c1 : ACode :=
  .seq (.ops (
    .op ⟨(some 11), .cmp .lss .i64 (.t 10) (.t 9), []⟩ <|
    .nil)) (
  .seq (.cond (.t 11) (.skip) (.exit 0)) (
  .seq (.block 1 (.seq (.ops (
    .op ⟨(some 12), .indexA 2 (.t 8) (.t 10), []⟩ <|
    .op ⟨(some 13), .loadN 2 (.t 12), []⟩ <|
    .op ⟨(some 7), .alloc [(.int .i64 0), (.int .u64 0)], []⟩ <|
    .op ⟨none, .store 2 (.t 7) (.t 13), []⟩ <|
    .nil)) (
  .seq (.seq (.ops (
    .op ⟨(some 14), .mov (.t 5), []⟩ <|
    .op ⟨(some 15), .fieldA 0 (.t 7), []⟩ <|
    .op ⟨(some 16), .load1 (.t 15), []⟩ <|
    .op ⟨(some 17), .call 441 [(.t 14), (.t 16)], []⟩ <|
    .op ⟨(some 18), .not (.t 17), []⟩ <|
    .op ⟨(some 19), .mov (.t 18), []⟩ <|
    .grd 19 false [⟨(some 20), .fieldA 1 (.t 7), []⟩,
        ⟨(some 21), .load1 (.t 20), []⟩,
        ⟨(some 22), .fieldA 0 (.t 7), []⟩,
        ⟨(some 23), .load1 (.t 22), []⟩,
        ⟨(some 24), .call 484 [(.t 21), (.t 23)], []⟩,
        ⟨(some 25), .not (.t 24), []⟩] <|
    .op ⟨(some 26), .pick (.t 19) (.c (.bool true)) (.t 25), []⟩ <|
    .nil)) (
  .cond (.t 26) (.seq (.ops (
      .op ⟨(some 2), .mov (.c (.int .u64 0)), []⟩ <|
      .op ⟨(some 3), .mov (.c (.bool false)), []⟩ <|
      .nil)) (
    .ret)) (.skip))) (
  .seq (.ops (
    .op ⟨(some 27), .mov (.t 4), []⟩ <|
    .op ⟨(some 28), .fieldA 1 (.t 7), []⟩ <|
    .op ⟨(some 29), .load1 (.t 28), []⟩ <|
    .op ⟨(some 30), .mov (.t 5), []⟩ <|
    .op ⟨(some 31), .shift true .u64 .i64 (.t 29) (.t 30), []⟩ <|
    .op ⟨(some 32), .arith .or .u64 (.t 27) (.t 31), []⟩ <|
    .op ⟨(some 4), .mov (.t 32), []⟩ <|
    .nil)) (
  .ops (
    .op ⟨(some 33), .mov (.t 5), []⟩ <|
    .op ⟨(some 34), .fieldA 0 (.t 7), []⟩ <|
    .op ⟨(some 35), .load1 (.t 34), []⟩ <|
    .op ⟨(some 36), .arith .add .i64 (.t 33) (.t 35), []⟩ <|
    .op ⟨(some 5), .mov (.t 36), []⟩ <|
    .nil)))))) (
  .ops (
    .op ⟨(some 37), .arith .add .i64 (.t 10) (.c (.int .i64 1)), []⟩ <|
    .op ⟨(some 10), .mov (.t 37), []⟩ <|
    .nil))))

def word_Pack_c0 : ACode :=
  .seq (.ops (
    .op ⟨(some 38), .mov (.t 4), []⟩ <|
    .op ⟨(some 2), .mov (.t 38), []⟩ <|
    .op ⟨(some 3), .mov (.c (.bool true)), []⟩ <|
    .nil)) (
  .ret)

/-- 443: withy/word.Pack -/
def word_Pack : AFunc where
  closed := false
  nparams := 1
  ntmps := 39
  results := [.tmp 2, .tmp 3]
  body := .seq (.ops (
      .op ⟨(some 2), .mov (.c (.int .u64 0)), []⟩ <|
      .op ⟨(some 3), .mov (.c (.bool false)), []⟩ <|
      .nil)) (
    .seq (.ops (
      .op ⟨(some 4), .mov (.c (.int .u64 0)), []⟩ <|
      .nil)) (
    .seq (.ops (
      .op ⟨(some 5), .mov (.c (.int .i64 0)), []⟩ <|
      .nil)) (
    .seq (.seq (.ops (
      .op ⟨(some 8), .mov (.t 0), []⟩ <|
      .op ⟨(some 9), .lenSl (.t 8), []⟩ <|
      .op ⟨(some 10), .mov (.c (.int .i64 0)), []⟩ <|
      .nil)) (
    .block 0 (.loop [4, 5, 8, 9, 10] [2, 3, 4] (word_Pack_c1)))) (
    word_Pack_c0))))

def word_Pack_hs : List (List Nat × List Nat) := [([4, 5, 8, 9, 10], [2, 3, 4])]

end Wm.F
end

section
/- PRINTED by my tool (wip/wm/tool/Gen.lean): a function as one of my machine. -/
namespace Wm.F
open Wm
set_option maxRecDepth 100000

/-- 444: withy/head.bit -/
def head_bit : AFunc where
  closed := true
  nparams := 1
  ntmps := 4
  results := [.tmp 2]
  body := .seq (.ops (
      .op ⟨(some 2), .mov (.c (.int .u64 0)), []⟩ <|
      .nil)) (
    .seq (.seq (.ops (
      .op ⟨(some 3), .mov (.t 0), []⟩ <|
      .nil)) (
    .cond (.t 3) (.seq (.ops (
        .op ⟨(some 2), .mov (.c (.int .u64 1)), []⟩ <|
        .nil)) (
      .ret)) (.skip))) (
    .seq (.ops (
      .op ⟨(some 2), .mov (.c (.int .u64 0)), []⟩ <|
      .nil)) (
    .ret)))

def head_bit_hs : List (List Nat × List Nat) := []

end Wm.F
end

section
/- PRINTED by my tool (wip/wm/tool/Gen.lean): a function as one of my machine. -/
namespace Wm.F
open Wm
set_option maxRecDepth 100000

/-- 396: withy/word.Get -/
def word_Get : AFunc where
  closed := true
  nparams := 3
  ntmps := 17
  results := [.tmp 6]
  body := .seq (.ops (
      .op ⟨(some 6), .mov (.c (.int .u64 0)), []⟩ <|
      .nil)) (
    .seq (.seq (.ops (
      .op ⟨(some 7), .mov (.t 1), []⟩ <|
      .op ⟨(some 8), .mov (.t 2), []⟩ <|
      .op ⟨(some 9), .call 441 [(.t 7), (.t 8)], []⟩ <|
      .op ⟨(some 10), .not (.t 9), []⟩ <|
      .nil)) (
    .cond (.t 10) (.seq (.ops (
        .op ⟨(some 6), .mov (.c (.int .u64 0)), []⟩ <|
        .nil)) (
      .ret)) (.skip))) (
    .seq (.ops (
      .op ⟨(some 11), .mov (.t 0), []⟩ <|
      .op ⟨(some 12), .mov (.t 1), []⟩ <|
      .op ⟨(some 13), .shift false .u64 .i64 (.t 11) (.t 12), []⟩ <|
      .op ⟨(some 14), .mov (.t 2), []⟩ <|
      .op ⟨(some 15), .call 449 [(.t 14)], []⟩ <|
      .op ⟨(some 16), .arith .and .u64 (.t 13) (.t 15), []⟩ <|
      .op ⟨(some 6), .mov (.t 16), []⟩ <|
      .nil)) (
    .ret)))

def word_Get_hs : List (List Nat × List Nat) := []

end Wm.F
end

section
/- PRINTED by my tool (wip/wm/tool/Gen.lean): a function as one of my machine. -/
namespace Wm.F
open Wm
set_option maxRecDepth 100000

/-- 441: withy/word.some -/
def word_some : AFunc where
  closed := true
  nparams := 2
  ntmps := 21
  results := [.tmp 4]
  body := .seq (.ops (
      .op ⟨(some 4), .mov (.c (.bool false)), []⟩ <|
      .nil)) (
    .seq (.ops (
      .op ⟨(some 5), .mov (.t 1), []⟩ <|
      .op ⟨(some 6), .cmp .geq .i64 (.t 5) (.c (.int .i64 1)), []⟩ <|
      .op ⟨(some 7), .mov (.t 6), []⟩ <|
      .grd 7 true [⟨(some 8), .mov (.t 1), []⟩,
          ⟨(some 9), .cmp .leq .i64 (.t 8) (.c (.int .i64 64)), []⟩] <|
      .op ⟨(some 10), .pick (.t 7) (.t 9) (.c (.bool false)), []⟩ <|
      .op ⟨(some 11), .mov (.t 10), []⟩ <|
      .grd 11 true [⟨(some 12), .mov (.t 0), []⟩,
          ⟨(some 13), .cmp .geq .i64 (.t 12) (.c (.int .i64 0)), []⟩] <|
      .op ⟨(some 14), .pick (.t 11) (.t 13) (.c (.bool false)), []⟩ <|
      .op ⟨(some 15), .mov (.t 14), []⟩ <|
      .grd 15 true [⟨(some 16), .mov (.t 0), []⟩,
          ⟨(some 17), .mov (.t 1), []⟩,
          ⟨(some 18), .arith .sub .i64 (.c (.int .i64 64)) (.t 17), []⟩,
          ⟨(some 19), .cmp .leq .i64 (.t 16) (.t 18), []⟩] <|
      .op ⟨(some 20), .pick (.t 15) (.t 19) (.c (.bool false)), []⟩ <|
      .op ⟨(some 4), .mov (.t 20), []⟩ <|
      .nil)) (
    .ret))

def word_some_hs : List (List Nat × List Nat) := []

end Wm.F
end

section
/- PRINTED by my tool (wip/wm/tool/Gen.lean): a function as one of my machine. -/
namespace Wm.F
open Wm
set_option maxRecDepth 100000

/-- 462: withy/tag.slots -/
def tag_slots : AFunc where
  closed := true
  nparams := 1
  ntmps := 9
  results := [.tmp 2]
  body := .seq (.ops (
      .op ⟨(some 2), .mov (.c (.bool false)), []⟩ <|
      .nil)) (
    .seq (.ops (
      .op ⟨(some 3), .mov (.t 0), []⟩ <|
      .op ⟨(some 4), .cmp .geq .i64 (.t 3) (.c (.int .i64 (-1))), []⟩ <|
      .op ⟨(some 5), .mov (.t 4), []⟩ <|
      .grd 5 true [⟨(some 6), .mov (.t 0), []⟩,
          ⟨(some 7), .cmp .lss .i64 (.t 6) (.c (.int .i64 64)), []⟩] <|
      .op ⟨(some 8), .pick (.t 5) (.t 7) (.c (.bool false)), []⟩ <|
      .op ⟨(some 2), .mov (.t 8), []⟩ <|
      .nil)) (
    .ret))

def tag_slots_hs : List (List Nat × List Nat) := []

end Wm.F
end

section
/- PRINTED by my tool (wip/wm/tool/Gen.lean): a function as one of my machine. -/
namespace Wm.F
open Wm
set_option maxRecDepth 100000

/-- 484: withy/word.Fits -/
def word_Fits : AFunc where
  closed := true
  nparams := 2
  ntmps := 17
  results := [.tmp 4]
  body := .seq (.ops (
      .op ⟨(some 4), .mov (.c (.bool false)), []⟩ <|
      .nil)) (
    .seq (.ops (
      .op ⟨(some 5), .mov (.t 1), []⟩ <|
      .op ⟨(some 6), .cmp .geq .i64 (.t 5) (.c (.int .i64 0)), []⟩ <|
      .op ⟨(some 7), .mov (.t 6), []⟩ <|
      .grd 7 true [⟨(some 8), .mov (.t 1), []⟩,
          ⟨(some 9), .cmp .gtr .i64 (.t 8) (.c (.int .i64 63)), []⟩,
          ⟨(some 10), .mov (.t 9), []⟩] <|
      .grd 10 false [⟨(some 11), .mov (.t 0), []⟩,
          ⟨(some 12), .mov (.t 1), []⟩,
          ⟨(some 13), .shift false .u64 .i64 (.t 11) (.t 12), []⟩,
          ⟨(some 14), .cmp .eql .u64 (.t 13) (.c (.int .u64 0)), []⟩] <|
      .grd 7 true [⟨(some 15), .pick (.t 10) (.c (.bool true)) (.t 14), []⟩] <|
      .op ⟨(some 16), .pick (.t 7) (.t 15) (.c (.bool false)), []⟩ <|
      .op ⟨(some 4), .mov (.t 16), []⟩ <|
      .nil)) (
    .ret))

def word_Fits_hs : List (List Nat × List Nat) := []

end Wm.F
end

section
/- PRINTED by my tool (wip/wm/tool/Gen.lean): a function as one of my machine. -/
namespace Wm.F
open Wm
set_option maxRecDepth 100000

/-- 449: withy/word.mask -/
def word_mask : AFunc where
  closed := true
  nparams := 1
  ntmps := 6
  results := [.tmp 2]
  body := .seq (.ops (
      .op ⟨(some 2), .mov (.c (.int .u64 0)), []⟩ <|
      .nil)) (
    .seq (.ops (
      .op ⟨(some 3), .mov (.t 0), []⟩ <|
      .op ⟨(some 4), .shift true .u64 .i64 (.c (.int .u64 1)) (.t 3), []⟩ <|
      .op ⟨(some 5), .arith .sub .u64 (.t 4) (.c (.int .u64 1)), []⟩ <|
      .op ⟨(some 2), .mov (.t 5), []⟩ <|
      .nil)) (
    .ret))

def word_mask_hs : List (List Nat × List Nat) := []

end Wm.F
end

section
/- PRINTED by my tool (wip/wm/tool/Gen.lean): a function as one of my machine. -/
namespace Wm.F
open Wm
set_option maxRecDepth 100000

/-- 402: withy/head.Blackened -/
def head_Blackened : AFunc where
  closed := true
  nparams := 1
  ntmps := 24
  results := [.tmp 2, .tmp 3]
  body := .seq (.ops (
      .op ⟨(some 2), .mov (.c (.int .u64 0)), []⟩ <|
      .op ⟨(some 3), .mov (.c (.bool false)), []⟩ <|
      .nil)) (
    .seq (.ops (
      .op ⟨(some 7), .mov (.t 0), []⟩ <|
      .op ⟨(some 8), .call 265 [(.t 7)], []⟩ <|
      .op ⟨(some 6), .mov (.t 8), []⟩ <|
      .op ⟨(some 9), .extract (.t 6) 0, []⟩ <|
      .op ⟨(some 10), .extract (.t 6) 1, []⟩ <|
      .op ⟨(some 4), .alloc [(.int .i64 0), (.int .i64 0), (.bool false), (.int .i64 0), (.int .i64 0), (.int .i64 0)], []⟩ <|
      .op ⟨none, .store 6 (.t 4) (.t 9), []⟩ <|
      .op ⟨(some 5), .mov (.t 10), []⟩ <|
      .nil)) (
    .seq (.seq (.ops (
      .op ⟨(some 11), .mov (.t 5), []⟩ <|
      .op ⟨(some 12), .not (.t 11), []⟩ <|
      .op ⟨(some 13), .mov (.t 12), []⟩ <|
      .grd 13 false [⟨(some 14), .fieldA 2 (.t 4), []⟩,
          ⟨(some 15), .load1 (.t 14), []⟩,
          ⟨(some 16), .not (.t 15), []⟩] <|
      .op ⟨(some 17), .pick (.t 13) (.c (.bool true)) (.t 16), []⟩ <|
      .nil)) (
    .cond (.t 17) (.seq (.ops (
        .op ⟨(some 18), .mov (.t 0), []⟩ <|
        .op ⟨(some 2), .mov (.t 18), []⟩ <|
        .op ⟨(some 3), .mov (.c (.bool false)), []⟩ <|
        .nil)) (
      .ret)) (.skip))) (
    .seq (.ops (
      .op ⟨(some 19), .fieldA 2 (.t 4), []⟩ <|
      .op ⟨none, .store 1 (.t 19) (.c (.bool false)), []⟩ <|
      .nil)) (
    .seq (.ops (
      .op ⟨(some 20), .loadN 6 (.t 4), []⟩ <|
      .op ⟨(some 21), .call 382 [(.t 20)], []⟩ <|
      .op ⟨(some 22), .extract (.t 21) 0, []⟩ <|
      .op ⟨(some 23), .extract (.t 21) 1, []⟩ <|
      .op ⟨(some 2), .mov (.t 22), []⟩ <|
      .op ⟨(some 3), .mov (.t 23), []⟩ <|
      .nil)) (
    .ret)))))

def head_Blackened_hs : List (List Nat × List Nat) := []

end Wm.F
end

section
/- PRINTED by my tool (wip/wm/tool/Gen.lean): a function as one of my machine. -/
namespace Wm.F
open Wm
set_option maxRecDepth 100000

/-- 409: withy/head.Freed -/
def head_Freed : AFunc where
  closed := true
  nparams := 2
  ntmps := 44
  results := [.tmp 4, .tmp 5]
  body := .seq (.ops (
      .op ⟨(some 4), .mov (.c (.int .u64 0)), []⟩ <|
      .op ⟨(some 5), .mov (.c (.bool false)), []⟩ <|
      .nil)) (
    .seq (.ops (
      .op ⟨(some 9), .mov (.t 0), []⟩ <|
      .op ⟨(some 10), .call 265 [(.t 9)], []⟩ <|
      .op ⟨(some 8), .mov (.t 10), []⟩ <|
      .op ⟨(some 11), .extract (.t 8) 0, []⟩ <|
      .op ⟨(some 12), .extract (.t 8) 1, []⟩ <|
      .op ⟨(some 6), .alloc [(.int .i64 0), (.int .i64 0), (.bool false), (.int .i64 0), (.int .i64 0), (.int .i64 0)], []⟩ <|
      .op ⟨none, .store 6 (.t 6) (.t 11), []⟩ <|
      .op ⟨(some 7), .mov (.t 12), []⟩ <|
      .nil)) (
    .seq (.seq (.ops (
      .op ⟨(some 13), .mov (.t 7), []⟩ <|
      .op ⟨(some 14), .not (.t 13), []⟩ <|
      .op ⟨(some 15), .mov (.t 14), []⟩ <|
      .grd 15 false [⟨(some 16), .fieldA 0 (.t 6), []⟩,
          ⟨(some 17), .load1 (.t 16), []⟩,
          ⟨(some 18), .cmp .neq .i64 (.t 17) (.c (.int .i64 3)), []⟩] <|
      .op ⟨(some 19), .pick (.t 15) (.c (.bool true)) (.t 18), []⟩ <|
      .nil)) (
    .cond (.t 19) (.seq (.ops (
        .op ⟨(some 20), .mov (.t 0), []⟩ <|
        .op ⟨(some 4), .mov (.t 20), []⟩ <|
        .op ⟨(some 5), .mov (.c (.bool false)), []⟩ <|
        .nil)) (
      .ret)) (.skip))) (
    .seq (.seq (.ops (
      .op ⟨(some 21), .fieldA 4 (.t 6), []⟩ <|
      .op ⟨(some 22), .load1 (.t 21), []⟩ <|
      .op ⟨(some 23), .arith .add .i64 (.t 22) (.c (.int .i64 1)), []⟩ <|
      .op ⟨(some 24), .mov (.t 1), []⟩ <|
      .op ⟨(some 25), .cmp .geq .i64 (.t 23) (.t 24), []⟩ <|
      .op ⟨(some 26), .mov (.t 25), []⟩ <|
      .grd 26 false [⟨(some 27), .fieldA 4 (.t 6), []⟩,
          ⟨(some 28), .load1 (.t 27), []⟩,
          ⟨(some 29), .arith .add .i64 (.t 28) (.c (.int .i64 1)), []⟩,
          ⟨(some 30), .cmp .geq .i64 (.t 29) (.c (.int .i64 4294967296)), []⟩] <|
      .op ⟨(some 31), .pick (.t 26) (.c (.bool true)) (.t 30), []⟩ <|
      .nil)) (
    .cond (.t 31) (.seq (.ops (
        .op ⟨(some 32), .fieldA 0 (.t 6), []⟩ <|
        .op ⟨none, .store 1 (.t 32) (.c (.int .i64 4)), []⟩ <|
        .nil)) (
      .seq (.ops (
        .op ⟨(some 33), .loadN 6 (.t 6), []⟩ <|
        .op ⟨(some 34), .call 382 [(.t 33)], []⟩ <|
        .op ⟨(some 35), .extract (.t 34) 0, []⟩ <|
        .op ⟨(some 36), .extract (.t 34) 1, []⟩ <|
        .op ⟨(some 4), .mov (.t 35), []⟩ <|
        .op ⟨(some 5), .mov (.t 36), []⟩ <|
        .nil)) (
      .ret))) (.skip))) (
    .seq (.ops (
      .op ⟨(some 37), .fieldA 4 (.t 6), []⟩ <|
      .op ⟨(some 38), .load1 (.t 37), []⟩ <|
      .op ⟨(some 39), .arith .add .i64 (.t 38) (.c (.int .i64 1)), []⟩ <|
      .op ⟨(some 40), .build [(.int .i64 0), (.int .i64 0), (.bool false), (.int .i64 0), (.int .i64 0), (.int .i64 0)] [(0, 1, (.c (.int .i64 0))), (4, 1, (.t 39))], []⟩ <|
      .op ⟨(some 41), .call 382 [(.t 40)], []⟩ <|
      .op ⟨(some 42), .extract (.t 41) 0, []⟩ <|
      .op ⟨(some 43), .extract (.t 41) 1, []⟩ <|
      .op ⟨(some 4), .mov (.t 42), []⟩ <|
      .op ⟨(some 5), .mov (.t 43), []⟩ <|
      .nil)) (
    .ret)))))

def head_Freed_hs : List (List Nat × List Nat) := []

end Wm.F
end

section
/- PRINTED by my tool (wip/wm/tool/Gen.lean): a function as one of my machine. -/
namespace Wm.F
open Wm
set_option maxRecDepth 100000

/-- 556: withy/head.Made -/
def head_Made : AFunc where
  closed := true
  nparams := 4
  ntmps := 25
  results := [.tmp 8, .tmp 9]
  body := .seq (.ops (
      .op ⟨(some 8), .mov (.c (.int .u64 0)), []⟩ <|
      .op ⟨(some 9), .mov (.c (.bool false)), []⟩ <|
      .nil)) (
    .seq (.seq (.ops (
      .op ⟨(some 10), .mov (.t 0), []⟩ <|
      .op ⟨(some 11), .cmp .neq .i64 (.t 10) (.c (.int .i64 1)), []⟩ <|
      .op ⟨(some 12), .mov (.t 11), []⟩ <|
      .grd 12 true [⟨(some 13), .mov (.t 0), []⟩,
          ⟨(some 14), .cmp .neq .i64 (.t 13) (.c (.int .i64 2)), []⟩] <|
      .op ⟨(some 15), .pick (.t 12) (.t 14) (.c (.bool false)), []⟩ <|
      .nil)) (
    .cond (.t 15) (.seq (.ops (
        .op ⟨(some 8), .mov (.c (.int .u64 0)), []⟩ <|
        .op ⟨(some 9), .mov (.c (.bool false)), []⟩ <|
        .nil)) (
      .ret)) (.skip))) (
    .seq (.ops (
      .op ⟨(some 16), .mov (.t 0), []⟩ <|
      .op ⟨(some 17), .mov (.t 3), []⟩ <|
      .op ⟨(some 18), .call 557 [(.t 17)], []⟩ <|
      .op ⟨(some 19), .mov (.t 1), []⟩ <|
      .op ⟨(some 20), .mov (.t 2), []⟩ <|
      .op ⟨(some 21), .build [(.int .i64 0), (.int .i64 0), (.bool false), (.int .i64 0), (.int .i64 0), (.int .i64 0)] [(0, 1, (.t 16)), (1, 1, (.t 18)), (3, 1, (.t 19)), (4, 1, (.t 20))], []⟩ <|
      .op ⟨(some 22), .call 382 [(.t 21)], []⟩ <|
      .op ⟨(some 23), .extract (.t 22) 0, []⟩ <|
      .op ⟨(some 24), .extract (.t 22) 1, []⟩ <|
      .op ⟨(some 8), .mov (.t 23), []⟩ <|
      .op ⟨(some 9), .mov (.t 24), []⟩ <|
      .nil)) (
    .ret)))

def head_Made_hs : List (List Nat × List Nat) := []

end Wm.F
end

section
/- PRINTED by my tool (wip/wm/tool/Gen.lean): a function as one of my machine. -/
namespace Wm.F
open Wm
set_option maxRecDepth 100000

/-- 317: withy/head.Marked -/
def head_Marked : AFunc where
  closed := true
  nparams := 2
  ntmps := 20
  results := [.tmp 4]
  body := .seq (.ops (
      .op ⟨(some 4), .mov (.c (.bool false)), []⟩ <|
      .nil)) (
    .seq (.ops (
      .op ⟨(some 8), .mov (.t 0), []⟩ <|
      .op ⟨(some 9), .call 380 [(.t 8)], []⟩ <|
      .op ⟨(some 7), .mov (.t 9), []⟩ <|
      .op ⟨(some 10), .extract (.t 7) 0, []⟩ <|
      .op ⟨(some 11), .extract (.t 7) 1, []⟩ <|
      .op ⟨(some 5), .alloc [(.int .i64 0), (.int .i64 0), (.bool false), (.int .i64 0), (.int .i64 0), (.int .i64 0)], []⟩ <|
      .op ⟨none, .store 6 (.t 5) (.t 10), []⟩ <|
      .op ⟨(some 6), .mov (.t 11), []⟩ <|
      .nil)) (
    .seq (.ops (
      .op ⟨(some 12), .mov (.t 6), []⟩ <|
      .op ⟨(some 13), .mov (.t 12), []⟩ <|
      .grd 13 true [⟨(some 14), .fieldA 1 (.t 5), []⟩,
          ⟨(some 15), .load1 (.t 14), []⟩,
          ⟨(some 16), .mov (.t 1), []⟩,
          ⟨(some 17), .call 381 [(.t 16)], [{ g := (some (13, true)), op := .load1 (.t 14), d := 15 }]⟩,
          ⟨(some 18), .cmp .eql .i64 (.t 15) (.t 17), []⟩] <|
      .op ⟨(some 19), .pick (.t 13) (.t 18) (.c (.bool false)), []⟩ <|
      .op ⟨(some 4), .mov (.t 19), []⟩ <|
      .nil)) (
    .ret)))

def head_Marked_hs : List (List Nat × List Nat) := []

end Wm.F
end

section
/- PRINTED by my tool (wip/wm/tool/Gen.lean): a function as one of my machine. -/
namespace Wm.F
open Wm
set_option maxRecDepth 100000

/-- 340: withy/head.Retired -/
def head_Retired : AFunc where
  closed := true
  nparams := 2
  ntmps := 33
  results := [.tmp 4, .tmp 5]
  body := .seq (.ops (
      .op ⟨(some 4), .mov (.c (.int .u64 0)), []⟩ <|
      .op ⟨(some 5), .mov (.c (.bool false)), []⟩ <|
      .nil)) (
    .seq (.ops (
      .op ⟨(some 9), .mov (.t 0), []⟩ <|
      .op ⟨(some 10), .call 380 [(.t 9)], []⟩ <|
      .op ⟨(some 8), .mov (.t 10), []⟩ <|
      .op ⟨(some 11), .extract (.t 8) 0, []⟩ <|
      .op ⟨(some 12), .extract (.t 8) 1, []⟩ <|
      .op ⟨(some 6), .alloc [(.int .i64 0), (.int .i64 0), (.bool false), (.int .i64 0), (.int .i64 0), (.int .i64 0)], []⟩ <|
      .op ⟨none, .store 6 (.t 6) (.t 11), []⟩ <|
      .op ⟨(some 7), .mov (.t 12), []⟩ <|
      .nil)) (
    .seq (.seq (.ops (
      .op ⟨(some 13), .mov (.t 7), []⟩ <|
      .op ⟨(some 14), .not (.t 13), []⟩ <|
      .op ⟨(some 15), .mov (.t 14), []⟩ <|
      .grd 15 false [⟨(some 16), .fieldA 1 (.t 6), []⟩,
          ⟨(some 17), .load1 (.t 16), []⟩,
          ⟨(some 18), .mov (.t 1), []⟩,
          ⟨(some 19), .call 381 [(.t 18)], [{ g := (some (15, false)), op := .load1 (.t 16), d := 17 }]⟩,
          ⟨(some 20), .cmp .eql .i64 (.t 17) (.t 19), []⟩] <|
      .op ⟨(some 21), .pick (.t 15) (.c (.bool true)) (.t 20), []⟩ <|
      .nil)) (
    .cond (.t 21) (.seq (.ops (
        .op ⟨(some 22), .mov (.t 0), []⟩ <|
        .op ⟨(some 4), .mov (.t 22), []⟩ <|
        .op ⟨(some 5), .mov (.c (.bool false)), []⟩ <|
        .nil)) (
      .ret)) (.skip))) (
    .seq (.ops (
      .op ⟨(some 23), .mov (.t 1), []⟩ <|
      .op ⟨(some 24), .arith .and .u64 (.t 23) (.c (.int .u64 65535)), []⟩ <|
      .op ⟨(some 25), .conv .i64 (.t 24), []⟩ <|
      .op ⟨(some 26), .fieldA 0 (.t 6), []⟩ <|
      .op ⟨none, .store 1 (.t 26) (.c (.int .i64 3)), []⟩ <|
      .op ⟨(some 27), .fieldA 2 (.t 6), []⟩ <|
      .op ⟨none, .store 1 (.t 27) (.c (.bool false)), []⟩ <|
      .op ⟨(some 28), .fieldA 5 (.t 6), []⟩ <|
      .op ⟨none, .store 1 (.t 28) (.t 25), []⟩ <|
      .nil)) (
    .seq (.ops (
      .op ⟨(some 29), .loadN 6 (.t 6), []⟩ <|
      .op ⟨(some 30), .call 382 [(.t 29)], []⟩ <|
      .op ⟨(some 31), .extract (.t 30) 0, []⟩ <|
      .op ⟨(some 32), .extract (.t 30) 1, []⟩ <|
      .op ⟨(some 4), .mov (.t 31), []⟩ <|
      .op ⟨(some 5), .mov (.t 32), []⟩ <|
      .nil)) (
    .ret)))))

def head_Retired_hs : List (List Nat × List Nat) := []

end Wm.F
end

section
/- PRINTED by my tool (wip/wm/tool/Gen.lean): a function as one of my machine. -/
namespace Wm.F
open Wm
set_option maxRecDepth 100000

/-- 557: withy/turn.Born -/
def turn_Born : AFunc where
  closed := true
  nparams := 1
  ntmps := 11
  results := [.tmp 2]
  body := .seq (.ops (
      .op ⟨(some 2), .mov (.c (.int .i64 0)), []⟩ <|
      .nil)) (
    .seq (.seq (.ops (
      .op ⟨(some 3), .mov (.t 0), []⟩ <|
      .op ⟨(some 4), .arith .rem .u64 (.t 3) (.c (.int .u64 4)), []⟩ <|
      .op ⟨(some 5), .cmp .eql .u64 (.t 4) (.c (.int .u64 0)), []⟩ <|
      .nil)) (
    .cond (.t 5) (.seq (.ops (
        .op ⟨(some 6), .mov (.t 0), []⟩ <|
        .op ⟨(some 7), .call 381 [(.t 6)], []⟩ <|
        .op ⟨(some 8), .arith .sub .i64 (.c (.int .i64 1)) (.t 7), []⟩ <|
        .op ⟨(some 2), .mov (.t 8), []⟩ <|
        .nil)) (
      .ret)) (.skip))) (
    .seq (.ops (
      .op ⟨(some 9), .mov (.t 0), []⟩ <|
      .op ⟨(some 10), .call 381 [(.t 9)], []⟩ <|
      .op ⟨(some 2), .mov (.t 10), []⟩ <|
      .nil)) (
    .ret)))

def turn_Born_hs : List (List Nat × List Nat) := []

end Wm.F
end

section
/- PRINTED by my tool (wip/wm/tool/Gen.lean): a function as one of my machine. -/
namespace Wm.F
open Wm
set_option maxRecDepth 100000

/-- 308: withy/turn.Fenced -/
def turn_Fenced : AFunc where
  closed := true
  nparams := 1
  ntmps := 11
  results := [.tmp 2]
  body := .seq (.ops (
      .op ⟨(some 2), .mov (.c (.bool false)), []⟩ <|
      .nil)) (
    .seq (.ops (
      .op ⟨(some 3), .mov (.t 0), []⟩ <|
      .op ⟨(some 4), .arith .rem .u64 (.t 3) (.c (.int .u64 4)), []⟩ <|
      .op ⟨(some 5), .cmp .eql .u64 (.t 4) (.c (.int .u64 1)), []⟩ <|
      .op ⟨(some 6), .mov (.t 5), []⟩ <|
      .grd 6 false [⟨(some 7), .mov (.t 0), []⟩,
          ⟨(some 8), .arith .rem .u64 (.t 7) (.c (.int .u64 4)), []⟩,
          ⟨(some 9), .cmp .eql .u64 (.t 8) (.c (.int .u64 2)), []⟩] <|
      .op ⟨(some 10), .pick (.t 6) (.c (.bool true)) (.t 9), []⟩ <|
      .op ⟨(some 2), .mov (.t 10), []⟩ <|
      .nil)) (
    .ret))

def turn_Fenced_hs : List (List Nat × List Nat) := []

end Wm.F
end

section
/- PRINTED by my tool (wip/wm/tool/Gen.lean): a function as one of my machine. -/
namespace Wm.F
open Wm
set_option maxRecDepth 100000

def withylaw09_ShadeAlone_c1 : ACode :=
  .seq (.seq (.ops (
    .op ⟨(some 73), .mov (.t 16), []⟩ <|
    .op ⟨(some 74), .cmp .lss .i64 (.t 73) (.c (.int .i64 9)), []⟩ <|
    .op ⟨(some 75), .mov (.t 74), []⟩ <|
    .grd 75 true [⟨(some 76), .mov (.t 12), []⟩,
        ⟨(some 77), .mov (.t 11), []⟩,
        ⟨(some 78), .call 91 [(.t 76), (.t 77)], []⟩,
        ⟨(some 79), .not (.t 78), []⟩] <|
    .op ⟨(some 80), .pick (.t 75) (.t 79) (.c (.bool false)), []⟩ <|
    .nil)) (
  .cond (.t 80) (.skip) (.exit 0))) (
  .block 1 (.ops (
    .op ⟨(some 81), .mov (.t 16), []⟩ <|
    .op ⟨(some 82), .arith .add .i64 (.t 81) (.c (.int .i64 1)), []⟩ <|
    .op ⟨(some 16), .mov (.t 82), []⟩ <|
    .nil)))

def withylaw09_ShadeAlone_c0 : ACode :=
  .seq (.ops (
    .op ⟨(some 83), .mov (.t 11), []⟩ <|
    .op ⟨(some 84), .call 107 [(.t 83)], []⟩ <|
    .op ⟨(some 17), .mov (.t 84), []⟩ <|
    .nil)) (
  .seq (.seq (.ops (
    .op ⟨(some 85), .mov (.t 12), []⟩ <|
    .op ⟨(some 86), .mov (.t 11), []⟩ <|
    .op ⟨(some 87), .call 91 [(.t 85), (.t 86)], []⟩ <|
    .op ⟨(some 88), .not (.t 87), []⟩ <|
    .op ⟨(some 89), .mov (.t 88), []⟩ <|
    .grd 89 false [⟨(some 90), .mov (.t 11), []⟩,
        ⟨(some 91), .call 107 [(.t 90)], []⟩,
        ⟨(some 92), .mov (.t 17), []⟩,
        ⟨(some 93), .cmp .neq .i64 (.t 91) (.t 92), []⟩] <|
    .op ⟨(some 94), .pick (.t 89) (.c (.bool true)) (.t 93), []⟩ <|
    .nil)) (
  .cond (.t 94) (.seq (.ops (
      .op ⟨(some 8), .mov (.c (.bool false)), []⟩ <|
      .nil)) (
    .ret)) (.skip))) (
  .seq (.ops (
    .op ⟨(some 95), .mov (.t 11), []⟩ <|
    .op ⟨(some 96), .call 94 [(.t 95)], []⟩ <|
    .op ⟨(some 18), .mov (.t 96), []⟩ <|
    .nil)) (
  .seq (.seq (.ops (
    .op ⟨(some 97), .mov (.t 15), []⟩ <|
    .op ⟨(some 98), .not (.t 97), []⟩ <|
    .nil)) (
  .cond (.t 98) (.seq (.ops (
      .op ⟨(some 99), .mov (.t 16), []⟩ <|
      .op ⟨(some 100), .cmp .eql .i64 (.t 99) (.c (.int .i64 0)), []⟩ <|
      .op ⟨(some 101), .mov (.t 100), []⟩ <|
      .grd 101 true [⟨(some 102), .mov (.t 12), []⟩,
          ⟨(some 103), .nilc (.t 102), []⟩,
          ⟨(some 104), .fieldA 0 (.t 103), []⟩,
          ⟨(some 105), .load1 (.t 104), []⟩,
          ⟨(some 106), .not (.t 105), []⟩] <|
      .op ⟨(some 107), .pick (.t 101) (.t 106) (.c (.bool false)), []⟩ <|
      .op ⟨(some 108), .mov (.t 107), []⟩ <|
      .grd 108 true [⟨(some 109), .mov (.t 18), []⟩,
          ⟨(some 110), .mov (.t 14), []⟩,
          ⟨(some 111), .call 95 [(.t 109), (.t 110)], []⟩] <|
      .op ⟨(some 112), .pick (.t 108) (.t 111) (.c (.bool false)), []⟩ <|
      .op ⟨(some 113), .mov (.t 112), []⟩ <|
      .grd 113 true [⟨(some 114), .mov (.t 17), []⟩,
          ⟨(some 115), .cmp .eql .i64 (.t 114) (.c (.int .i64 1)), []⟩] <|
      .op ⟨(some 116), .pick (.t 113) (.t 115) (.c (.bool false)), []⟩ <|
      .op ⟨(some 8), .mov (.t 116), []⟩ <|
      .nil)) (
    .ret)) (.skip))) (
  .seq (.ops (
    .op ⟨(some 117), .mov (.t 16), []⟩ <|
    .op ⟨(some 118), .cmp .eql .i64 (.t 117) (.c (.int .i64 2)), []⟩ <|
    .op ⟨(some 119), .mov (.t 118), []⟩ <|
    .grd 119 true [⟨(some 120), .mov (.t 12), []⟩,
        ⟨(some 121), .nilc (.t 120), []⟩,
        ⟨(some 122), .fieldA 0 (.t 121), []⟩,
        ⟨(some 123), .load1 (.t 122), []⟩] <|
    .op ⟨(some 124), .pick (.t 119) (.t 123) (.c (.bool false)), []⟩ <|
    .op ⟨(some 125), .mov (.t 124), []⟩ <|
    .grd 125 true [⟨(some 126), .mov (.t 18), []⟩,
        ⟨(some 127), .mov (.t 13), []⟩,
        ⟨(some 128), .indexA 1 (.t 126) (.t 127), []⟩,
        ⟨(some 129), .load1 (.t 128), []⟩,
        ⟨(some 130), .mov (.t 3), []⟩,
        ⟨(some 131), .call 113 [(.t 129), (.t 130)], []⟩] <|
    .op ⟨(some 132), .pick (.t 125) (.t 131) (.c (.bool false)), []⟩ <|
    .op ⟨(some 133), .mov (.t 132), []⟩ <|
    .grd 133 true [⟨(some 134), .mov (.t 17), []⟩,
        ⟨(some 135), .cmp .eql .i64 (.t 134) (.c (.int .i64 3)), []⟩] <|
    .op ⟨(some 136), .pick (.t 133) (.t 135) (.c (.bool false)), []⟩ <|
    .op ⟨(some 8), .mov (.t 136), []⟩ <|
    .nil)) (
  .ret)))))

/-- 16: withy/withylaw09.ShadeAlone -/
def withylaw09_ShadeAlone : AFunc where
  closed := true
  nparams := 4
  ntmps := 137
  results := [.tmp 8]
  body := .seq (.ops (
      .op ⟨(some 4), .box (.t 0), []⟩ <|
      .op ⟨(some 5), .box (.t 1), []⟩ <|
      .op ⟨(some 8), .mov (.c (.bool false)), []⟩ <|
      .nil)) (
    .seq (.ops (
      .op ⟨(some 19), .loadN 6 (.t 4), []⟩ <|
      .op ⟨(some 20), .call 92 [(.t 19)], []⟩ <|
      .op ⟨none, .store 6 (.t 4) (.t 20), []⟩ <|
      .nil)) (
    .seq (.ops (
      .op ⟨(some 21), .mov (.t 2), []⟩ <|
      .op ⟨(some 22), .conv .u64 (.t 21), []⟩ <|
      .op ⟨(some 23), .fieldA 0 (.t 4), []⟩ <|
      .op ⟨(some 24), .load1 (.t 23), []⟩ <|
      .op ⟨(some 25), .conv .u64 (.t 24), []⟩ <|
      .op ⟨(some 26), .arith .rem .u64 (.t 22) (.t 25), []⟩ <|
      .op ⟨(some 27), .conv .i64 (.t 26), []⟩ <|
      .op ⟨(some 9), .mov (.t 27), []⟩ <|
      .nil)) (
    .seq (.ops (
      .op ⟨(some 28), .fieldA 0 (.t 4), []⟩ <|
      .op ⟨(some 29), .load1 (.t 28), []⟩ <|
      .op ⟨(some 30), .mkSl 6 48 [(.int .i64 0), (.int .i64 0), (.bool false), (.int .i64 0), (.int .i64 0), (.int .i64 0)] (.t 29) (.t 29), []⟩ <|
      .op ⟨(some 10), .mov (.t 30), []⟩ <|
      .nil)) (
    .seq (.ops (
      .op ⟨(some 31), .mov (.t 10), []⟩ <|
      .op ⟨(some 32), .mov (.t 9), []⟩ <|
      .op ⟨(some 33), .loadN 6 (.t 5), []⟩ <|
      .op ⟨(some 34), .indexA 6 (.t 31) (.t 32), []⟩ <|
      .op ⟨none, .store 6 (.t 34) (.t 33), []⟩ <|
      .nil)) (
    .seq (.ops (
      .op ⟨(some 35), .loadN 6 (.t 4), []⟩ <|
      .op ⟨(some 36), .mov (.t 10), []⟩ <|
      .op ⟨(some 37), .mov (.t 3), []⟩ <|
      .op ⟨(some 38), .call 93 [(.t 35), (.t 36), (.t 37)], []⟩ <|
      .op ⟨(some 11), .mov (.t 38), []⟩ <|
      .nil)) (
    .seq (.ops (
      .op ⟨(some 39), .loadN 6 (.t 4), []⟩ <|
      .op ⟨(some 40), .mov (.t 9), []⟩ <|
      .op ⟨(some 41), .mov (.t 3), []⟩ <|
      .op ⟨(some 42), .call 90 [(.t 39), (.t 40), (.t 41)], []⟩ <|
      .op ⟨(some 12), .mov (.t 42), []⟩ <|
      .nil)) (
    .seq (.seq (.ops (
      .op ⟨(some 43), .mov (.t 11), []⟩ <|
      .op ⟨(some 44), .eq false .ptr (.t 43) (.c .nilp), []⟩ <|
      .op ⟨(some 45), .mov (.t 44), []⟩ <|
      .grd 45 false [⟨(some 46), .mov (.t 12), []⟩,
          ⟨(some 47), .eq false .ptr (.t 46) (.c .nilp), []⟩] <|
      .op ⟨(some 48), .pick (.t 45) (.c (.bool true)) (.t 47), []⟩ <|
      .op ⟨(some 49), .mov (.t 48), []⟩ <|
      .grd 49 false [⟨(some 50), .call 84 [], []⟩,
          ⟨(some 51), .not (.t 50), []⟩] <|
      .op ⟨(some 52), .pick (.t 49) (.c (.bool true)) (.t 51), []⟩ <|
      .nil)) (
    .cond (.t 52) (.seq (.ops (
        .op ⟨(some 8), .mov (.c (.bool false)), []⟩ <|
        .nil)) (
      .ret)) (.skip))) (
    .seq (.ops (
      .op ⟨(some 53), .loadN 6 (.t 4), []⟩ <|
      .op ⟨(some 54), .mov (.t 9), []⟩ <|
      .op ⟨(some 55), .build [(.str ⟨⟨[]⟩⟩), (.int .i64 0), (.int .i64 0)] [(0, 1, (.c (.str ⟨⟨[104, 101, 97, 100, 101, 114]⟩⟩))), (1, 1, (.t 54))], []⟩ <|
      .op ⟨(some 56), .call 108 [(.t 53), (.t 55)], []⟩ <|
      .op ⟨(some 13), .mov (.t 56), []⟩ <|
      .nil)) (
    .seq (.ops (
      .op ⟨(some 57), .mov (.t 11), []⟩ <|
      .op ⟨(some 58), .call 94 [(.t 57)], []⟩ <|
      .op ⟨(some 14), .mov (.t 58), []⟩ <|
      .nil)) (
    .seq (.ops (
      .op ⟨(some 59), .mov (.t 14), []⟩ <|
      .op ⟨(some 60), .mov (.t 13), []⟩ <|
      .op ⟨(some 61), .indexA 1 (.t 59) (.t 60), []⟩ <|
      .op ⟨(some 62), .load1 (.t 61), []⟩ <|
      .op ⟨(some 63), .call 112 [(.t 62)], []⟩ <|
      .op ⟨(some 64), .mov (.t 63), []⟩ <|
      .grd 64 true [⟨(some 65), .mov (.t 14), []⟩,
          ⟨(some 66), .mov (.t 13), []⟩,
          ⟨(some 67), .indexA 1 (.t 65) (.t 66), []⟩,
          ⟨(some 68), .load1 (.t 67), []⟩,
          ⟨(some 69), .mov (.t 3), []⟩,
          ⟨(some 70), .call 113 [(.t 68), (.t 69)], []⟩,
          ⟨(some 71), .not (.t 70), []⟩] <|
      .op ⟨(some 72), .pick (.t 64) (.t 71) (.c (.bool false)), []⟩ <|
      .op ⟨(some 15), .mov (.t 72), []⟩ <|
      .nil)) (
    .seq (.ops (
      .op ⟨(some 16), .mov (.c (.int .i64 0)), []⟩ <|
      .nil)) (
    .seq (.block 0 (.loop [3, 11, 12, 13, 14, 15, 16] [3, 11, 12, 13, 14, 15, 16] (withylaw09_ShadeAlone_c1))) (
    withylaw09_ShadeAlone_c0)))))))))))))

def withylaw09_ShadeAlone_hs : List (List Nat × List Nat) := [([3, 11, 12, 13, 14, 15, 16], [3, 11, 12, 13, 14, 15, 16])]

end Wm.F
end

section
/- PRINTED by my tool (wip/wm/tool/Gen.lean): a function as one of my machine. -/
namespace Wm.F
open Wm
set_option maxRecDepth 100000

def withylaw09_ShadeTwice_c1 : ACode :=
  .seq (.seq (.ops (
    .op ⟨(some 58), .mov (.t 14), []⟩ <|
    .op ⟨(some 59), .cmp .lss .i64 (.t 58) (.c (.int .i64 9)), []⟩ <|
    .op ⟨(some 60), .mov (.t 59), []⟩ <|
    .grd 60 true [⟨(some 61), .mov (.t 12), []⟩,
        ⟨(some 62), .mov (.t 11), []⟩,
        ⟨(some 63), .call 91 [(.t 61), (.t 62)], []⟩,
        ⟨(some 64), .not (.t 63), []⟩] <|
    .op ⟨(some 65), .pick (.t 60) (.t 64) (.c (.bool false)), []⟩ <|
    .nil)) (
  .cond (.t 65) (.skip) (.exit 0))) (
  .seq (.block 1 (.skip)) (
  .ops (
    .op ⟨(some 66), .mov (.t 14), []⟩ <|
    .op ⟨(some 67), .arith .add .i64 (.t 66) (.c (.int .i64 1)), []⟩ <|
    .op ⟨(some 14), .mov (.t 67), []⟩ <|
    .nil)))

def withylaw09_ShadeTwice_c0 : ACode :=
  .seq (.ops (
    .op ⟨(some 68), .mov (.t 11), []⟩ <|
    .op ⟨(some 69), .call 94 [(.t 68)], []⟩ <|
    .op ⟨(some 15), .mov (.t 69), []⟩ <|
    .nil)) (
  .seq (.ops (
    .op ⟨(some 70), .mov (.t 13), []⟩ <|
    .op ⟨(some 71), .mov (.t 11), []⟩ <|
    .op ⟨(some 72), .call 91 [(.t 70), (.t 71)], []⟩ <|
    .op ⟨(some 73), .mov (.t 72), []⟩ <|
    .grd 73 true [⟨(some 74), .mov (.t 13), []⟩,
        ⟨(some 75), .nilc (.t 74), []⟩,
        ⟨(some 76), .fieldA 0 (.t 75), []⟩,
        ⟨(some 77), .load1 (.t 76), []⟩,
        ⟨(some 78), .not (.t 77), []⟩] <|
    .op ⟨(some 79), .pick (.t 73) (.t 78) (.c (.bool false)), []⟩ <|
    .op ⟨(some 80), .mov (.t 79), []⟩ <|
    .grd 80 true [⟨(some 81), .mov (.t 11), []⟩,
        ⟨(some 82), .call 94 [(.t 81)], []⟩,
        ⟨(some 83), .mov (.t 15), []⟩,
        ⟨(some 84), .call 95 [(.t 82), (.t 83)], []⟩] <|
    .op ⟨(some 85), .pick (.t 80) (.t 84) (.c (.bool false)), []⟩ <|
    .op ⟨(some 8), .mov (.t 85), []⟩ <|
    .nil)) (
  .ret))

/-- 10: withy/withylaw09.ShadeTwice -/
def withylaw09_ShadeTwice : AFunc where
  closed := true
  nparams := 4
  ntmps := 86
  results := [.tmp 8]
  body := .seq (.ops (
      .op ⟨(some 4), .box (.t 0), []⟩ <|
      .op ⟨(some 5), .box (.t 1), []⟩ <|
      .op ⟨(some 8), .mov (.c (.bool false)), []⟩ <|
      .nil)) (
    .seq (.ops (
      .op ⟨(some 16), .loadN 6 (.t 4), []⟩ <|
      .op ⟨(some 17), .call 92 [(.t 16)], []⟩ <|
      .op ⟨none, .store 6 (.t 4) (.t 17), []⟩ <|
      .nil)) (
    .seq (.ops (
      .op ⟨(some 18), .mov (.t 2), []⟩ <|
      .op ⟨(some 19), .conv .u64 (.t 18), []⟩ <|
      .op ⟨(some 20), .fieldA 0 (.t 4), []⟩ <|
      .op ⟨(some 21), .load1 (.t 20), []⟩ <|
      .op ⟨(some 22), .conv .u64 (.t 21), []⟩ <|
      .op ⟨(some 23), .arith .rem .u64 (.t 19) (.t 22), []⟩ <|
      .op ⟨(some 24), .conv .i64 (.t 23), []⟩ <|
      .op ⟨(some 9), .mov (.t 24), []⟩ <|
      .nil)) (
    .seq (.ops (
      .op ⟨(some 25), .fieldA 0 (.t 4), []⟩ <|
      .op ⟨(some 26), .load1 (.t 25), []⟩ <|
      .op ⟨(some 27), .mkSl 6 48 [(.int .i64 0), (.int .i64 0), (.bool false), (.int .i64 0), (.int .i64 0), (.int .i64 0)] (.t 26) (.t 26), []⟩ <|
      .op ⟨(some 10), .mov (.t 27), []⟩ <|
      .nil)) (
    .seq (.ops (
      .op ⟨(some 28), .mov (.t 10), []⟩ <|
      .op ⟨(some 29), .mov (.t 9), []⟩ <|
      .op ⟨(some 30), .loadN 6 (.t 5), []⟩ <|
      .op ⟨(some 31), .indexA 6 (.t 28) (.t 29), []⟩ <|
      .op ⟨none, .store 6 (.t 31) (.t 30), []⟩ <|
      .nil)) (
    .seq (.ops (
      .op ⟨(some 32), .loadN 6 (.t 4), []⟩ <|
      .op ⟨(some 33), .mov (.t 10), []⟩ <|
      .op ⟨(some 34), .mov (.t 3), []⟩ <|
      .op ⟨(some 35), .call 93 [(.t 32), (.t 33), (.t 34)], []⟩ <|
      .op ⟨(some 11), .mov (.t 35), []⟩ <|
      .nil)) (
    .seq (.ops (
      .op ⟨(some 36), .loadN 6 (.t 4), []⟩ <|
      .op ⟨(some 37), .mov (.t 9), []⟩ <|
      .op ⟨(some 38), .mov (.t 3), []⟩ <|
      .op ⟨(some 40), .loadN 6 (.t 4), []⟩ <|
      .op ⟨(some 41), .mov (.t 9), []⟩ <|
      .op ⟨(some 42), .mov (.t 3), []⟩ <|
      .op ⟨(some 39), .call 90 [(.t 36), (.t 37), (.t 38)], [{ g := none, op := .loadN 6 (.t 4), d := 40 }]⟩ <|
      .op ⟨(some 43), .call 90 [(.t 40), (.t 41), (.t 42)], []⟩ <|
      .op ⟨(some 12), .mov (.t 39), []⟩ <|
      .op ⟨(some 13), .mov (.t 43), []⟩ <|
      .nil)) (
    .seq (.seq (.ops (
      .op ⟨(some 44), .mov (.t 11), []⟩ <|
      .op ⟨(some 45), .eq false .ptr (.t 44) (.c .nilp), []⟩ <|
      .op ⟨(some 46), .mov (.t 45), []⟩ <|
      .grd 46 false [⟨(some 47), .mov (.t 12), []⟩,
          ⟨(some 48), .eq false .ptr (.t 47) (.c .nilp), []⟩] <|
      .op ⟨(some 49), .pick (.t 46) (.c (.bool true)) (.t 48), []⟩ <|
      .op ⟨(some 50), .mov (.t 49), []⟩ <|
      .grd 50 false [⟨(some 51), .mov (.t 13), []⟩,
          ⟨(some 52), .eq false .ptr (.t 51) (.c .nilp), []⟩] <|
      .op ⟨(some 53), .pick (.t 50) (.c (.bool true)) (.t 52), []⟩ <|
      .op ⟨(some 54), .mov (.t 53), []⟩ <|
      .grd 54 false [⟨(some 55), .call 84 [], []⟩,
          ⟨(some 56), .not (.t 55), []⟩] <|
      .op ⟨(some 57), .pick (.t 54) (.c (.bool true)) (.t 56), []⟩ <|
      .nil)) (
    .cond (.t 57) (.seq (.ops (
        .op ⟨(some 8), .mov (.c (.bool false)), []⟩ <|
        .nil)) (
      .ret)) (.skip))) (
    .seq (.seq (.ops (
      .op ⟨(some 14), .mov (.c (.int .i64 0)), []⟩ <|
      .nil)) (
    .block 0 (.loop [11, 12, 13, 14] [11, 13] (withylaw09_ShadeTwice_c1)))) (
    withylaw09_ShadeTwice_c0)))))))))

def withylaw09_ShadeTwice_hs : List (List Nat × List Nat) := [([11, 12, 13, 14], [11, 13])]

end Wm.F
end

section
/- PRINTED by my tool (wip/wm/tool/Gen.lean): a function as one of my machine. -/
namespace Wm.F
open Wm
set_option maxRecDepth 100000

/-- 112: withy/withyref04.Lives -/
def withyref04_Lives : AFunc where
  closed := true
  nparams := 1
  ntmps := 21
  results := [.tmp 2]
  body := .seq (.ops (
      .op ⟨(some 2), .mov (.c (.bool false)), []⟩ <|
      .nil)) (
    .seq (.ops (
      .op ⟨(some 6), .mov (.t 0), []⟩ <|
      .op ⟨(some 7), .call 109 [(.t 6)], []⟩ <|
      .op ⟨(some 5), .mov (.t 7), []⟩ <|
      .op ⟨(some 8), .extract (.t 5) 0, []⟩ <|
      .op ⟨(some 9), .extract (.t 5) 1, []⟩ <|
      .op ⟨(some 3), .alloc [(.int .i64 0), (.int .i64 0), (.bool false), (.int .i64 0), (.int .i64 0), (.int .i64 0)], []⟩ <|
      .op ⟨none, .store 6 (.t 3) (.t 8), []⟩ <|
      .op ⟨(some 4), .mov (.t 9), []⟩ <|
      .nil)) (
    .seq (.ops (
      .op ⟨(some 10), .mov (.t 4), []⟩ <|
      .op ⟨(some 11), .mov (.t 10), []⟩ <|
      .grd 11 true [⟨(some 12), .fieldA 0 (.t 3), []⟩,
          ⟨(some 13), .load1 (.t 12), []⟩,
          ⟨(some 14), .cmp .eql .i64 (.t 13) (.c (.int .i64 1)), []⟩,
          ⟨(some 15), .mov (.t 14), []⟩] <|
      .grd 15 false [⟨(some 16), .fieldA 0 (.t 3), []⟩,
          ⟨(some 17), .load1 (.t 16), []⟩,
          ⟨(some 18), .cmp .eql .i64 (.t 17) (.c (.int .i64 2)), []⟩] <|
      .grd 11 true [⟨(some 19), .pick (.t 15) (.c (.bool true)) (.t 18), []⟩] <|
      .op ⟨(some 20), .pick (.t 11) (.t 19) (.c (.bool false)), []⟩ <|
      .op ⟨(some 2), .mov (.t 20), []⟩ <|
      .nil)) (
    .ret)))

def withyref04_Lives_hs : List (List Nat × List Nat) := []

end Wm.F
end

section
/- PRINTED by my tool (wip/wm/tool/Gen.lean): a function as one of my machine. -/
namespace Wm.F
open Wm
set_option maxRecDepth 100000

/-- 113: withy/withyref04.Marked -/
def withyref04_Marked : AFunc where
  closed := true
  nparams := 2
  ntmps := 21
  results := [.tmp 4]
  body := .seq (.ops (
      .op ⟨(some 4), .mov (.c (.bool false)), []⟩ <|
      .nil)) (
    .seq (.ops (
      .op ⟨(some 8), .mov (.t 0), []⟩ <|
      .op ⟨(some 9), .call 109 [(.t 8)], []⟩ <|
      .op ⟨(some 7), .mov (.t 9), []⟩ <|
      .op ⟨(some 10), .extract (.t 7) 0, []⟩ <|
      .op ⟨(some 11), .extract (.t 7) 1, []⟩ <|
      .op ⟨(some 5), .alloc [(.int .i64 0), (.int .i64 0), (.bool false), (.int .i64 0), (.int .i64 0), (.int .i64 0)], []⟩ <|
      .op ⟨none, .store 6 (.t 5) (.t 10), []⟩ <|
      .op ⟨(some 6), .mov (.t 11), []⟩ <|
      .nil)) (
    .seq (.ops (
      .op ⟨(some 12), .mov (.t 0), []⟩ <|
      .op ⟨(some 13), .call 112 [(.t 12)], []⟩ <|
      .op ⟨(some 14), .mov (.t 13), []⟩ <|
      .grd 14 true [⟨(some 15), .fieldA 1 (.t 5), []⟩,
          ⟨(some 16), .load1 (.t 15), []⟩,
          ⟨(some 17), .mov (.t 1), []⟩,
          ⟨(some 18), .call 110 [(.t 17)], [{ g := (some (14, true)), op := .load1 (.t 15), d := 16 }]⟩,
          ⟨(some 19), .cmp .eql .i64 (.t 16) (.t 18), []⟩] <|
      .op ⟨(some 20), .pick (.t 14) (.t 19) (.c (.bool false)), []⟩ <|
      .op ⟨(some 4), .mov (.t 20), []⟩ <|
      .nil)) (
    .ret)))

def withyref04_Marked_hs : List (List Nat × List Nat) := []

end Wm.F
end

section
/- PRINTED by my tool (wip/wm/tool/Gen.lean): a function as one of my machine. -/
namespace Wm.F
open Wm
set_option maxRecDepth 100000

def withyref06_Same_c1 : ACode :=
  .seq (.seq (.ops (
    .op ⟨(some 11), .mov (.t 5), []⟩ <|
    .op ⟨(some 12), .mov (.t 0), []⟩ <|
    .op ⟨(some 13), .lenSl (.t 12), []⟩ <|
    .op ⟨(some 14), .cmp .lss .i64 (.t 11) (.t 13), []⟩ <|
    .nil)) (
  .cond (.t 14) (.skip) (.exit 0))) (
  .seq (.block 1 (.seq (.ops (
    .op ⟨(some 17), .mov (.t 0), []⟩ <|
    .op ⟨(some 18), .mov (.t 5), []⟩ <|
    .op ⟨(some 19), .indexA 1 (.t 17) (.t 18), []⟩ <|
    .op ⟨(some 20), .load1 (.t 19), []⟩ <|
    .op ⟨(some 21), .mov (.t 1), []⟩ <|
    .op ⟨(some 22), .mov (.t 5), []⟩ <|
    .op ⟨(some 23), .indexA 1 (.t 21) (.t 22), []⟩ <|
    .op ⟨(some 24), .load1 (.t 23), []⟩ <|
    .op ⟨(some 25), .cmp .neq .u64 (.t 20) (.t 24), []⟩ <|
    .nil)) (
  .cond (.t 25) (.seq (.ops (
      .op ⟨(some 4), .mov (.c (.bool false)), []⟩ <|
      .nil)) (
    .ret)) (.skip)))) (
  .ops (
    .op ⟨(some 15), .mov (.t 5), []⟩ <|
    .op ⟨(some 16), .arith .add .i64 (.t 15) (.c (.int .i64 1)), []⟩ <|
    .op ⟨(some 5), .mov (.t 16), []⟩ <|
    .nil)))

def withyref06_Same_c0 : ACode :=
  .seq (.ops (
    .op ⟨(some 4), .mov (.c (.bool true)), []⟩ <|
    .nil)) (
  .ret)

/-- 95: withy/withyref06.Same -/
def withyref06_Same : AFunc where
  closed := false
  nparams := 2
  ntmps := 26
  results := [.tmp 4]
  body := .seq (.ops (
      .op ⟨(some 4), .mov (.c (.bool false)), []⟩ <|
      .nil)) (
    .seq (.seq (.ops (
      .op ⟨(some 6), .mov (.t 0), []⟩ <|
      .op ⟨(some 7), .lenSl (.t 6), []⟩ <|
      .op ⟨(some 8), .mov (.t 1), []⟩ <|
      .op ⟨(some 9), .lenSl (.t 8), []⟩ <|
      .op ⟨(some 10), .cmp .neq .i64 (.t 7) (.t 9), []⟩ <|
      .nil)) (
    .cond (.t 10) (.seq (.ops (
        .op ⟨(some 4), .mov (.c (.bool false)), []⟩ <|
        .nil)) (
      .ret)) (.skip))) (
    .seq (.seq (.ops (
      .op ⟨(some 5), .mov (.c (.int .i64 0)), []⟩ <|
      .nil)) (
    .block 0 (.loop [0, 1, 5] [4] (withyref06_Same_c1)))) (
    withyref06_Same_c0)))

def withyref06_Same_hs : List (List Nat × List Nat) := [([0, 1, 5], [4])]

end Wm.F
end

