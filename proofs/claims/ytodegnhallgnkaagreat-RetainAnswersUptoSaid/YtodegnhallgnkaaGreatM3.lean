/- Part of a proof of a law of this seat: the machine of plain values, its simulation, and the contracts of the functions that the law reaches. Conditions: none beyond the given row. -/
import Derived.Test.YtodegnhallgnkaaGreatM2
import Derived.Test.YtodegnhallgnkaaGreatProg
import Derived.KernelRfl
open Int renaming reduceLT → q1, reduceLE → q2, reduceBEq → q3, reduceBNe → q4, reduceEq → q5
open Nat renaming reduceAdd → q6, reduceLeDiff → q7, reduceLT → q8, reduceEqDiff → q9
set_option linter.unusedSimpArgs false
set_option linter.unusedVariables false
set_option linter.unnecessarySimpa false
set_option maxHeartbeats 4000000
section
namespace Go.Proofs.YtodegnhallgnkaaGreat.Ir
open Go.Rmp
set_option maxRecDepth 100000
abbrev op (d : Nat) (b : Bo) : O := ⟨some d, .b b, none, []⟩
abbrev ef (b : Bo) : O := ⟨none, .b b, none, []⟩
abbrev cl (d f : Nat) (az : List X) : O := ⟨some d, .call f az, none, []⟩
abbrev sq (a b : C) : C := .seq a b
def an3 : An := ⟨[], [(21, [(0, true), (1, true), (2, true), (3, true), (4, true), (5, true), (6, true), (7, true), (8, true), (9, false), (10, true), (11, true), (12, true), (13, true), (14, true)]), (22, [(0, true), (1, true), (2, true), (3, true), (4, true), (5, true), (6, true), (7, true), (8, true), (9, false), (10, true), (11, true), (12, true), (13, true), (14, true)]), (28, [(0, true), (1, true), (2, true), (3, true), (4, true), (5, true), (6, true), (7, true), (8, true), (9, false), (10, true), (11, true), (12, true), (13, true), (14, true)]), (29, [(0, true), (1, true), (2, true), (3, true), (4, true), (5, true), (6, true), (7, true), (8, true), (9, false), (10, true), (11, true), (12, true), (13, true), (14, true)])]⟩
def ir3 : Go.Rmp.Fn := ⟨289, 3, [.t 6],
  sq (.ops [op 6 (.mov (.c (.bool false)))]) <|
  sq (sq (.ops [cl 30 4 [], op 31 (.un .not (.r 30))]) <|
  .cond (.r 31)
    (sq (.ops [op 6 (.mov (.c (.bool false)))]) <|
    .ret)
    (.skip)) <|
  sq (.ops [cl 32 5 [], op 7 (.mov (.r 32))]) <|
  sq (.ops [cl 33 6 [], op 8 (.mov (.r 33))]) <|
  sq (sq (.ops [op 34 (.mov (.r 7)), op 35 (.eqr false .ptr (.r 34) (.c .nilp))]) <|
  .cond (.r 35)
    (sq (.ops [op 6 (.mov (.c (.bool false)))]) <|
    .ret)
    (.skip)) <|
  sq (.ops [op 9 (.mov (.c (.int .i64 0)))]) <|
  sq (sq (.ops [op 10 (.mov (.c (.int .i64 0)))]) <|
  .block 0 (
    .loop (
      sq (sq (.ops [op 36 (.mov (.r 10)), op 37 (.mov (.r 0)), op 38 (.len .sl (.r 37)), op 39 (.bin .lss (.r 36) (.r 38))]) <|
      .cond (.r 39)
        (.skip)
        (.exit 0)) <|
      sq (.block 1 (
        sq (.ops [op 43 (.mov (.r 0)), op 44 (.mov (.r 10)), op 45 (.iad 5 (.r 43) (.r 44)), op 46 (.ld 5 true (.r 45)), cl 47 7 [(.r 46)], op 42 (.mov (.r 47)), op 48 (.ext 0 (.r 42)), op 49 (.ext 1 (.r 42)), op 11 (.mov (.r 48)), op 12 (.mov (.r 49))]) <|
        sq (sq (.ops [op 50 (.mov (.r 0)), op 51 (.mov (.r 10)), op 52 (.iad 5 (.r 50) (.r 51)), op 53 (.fad 0 (.r 52)), op 54 (.ld 1 false (.r 53))]) <|
        .block 2 (
          sq (.ops [op 65 (.bin .eql (.r 54) (.c (.int .i64 1))), op 64 (.mov (.r 65))]) <|
          .cond (.r 64)
            (sq (.ops [op 66 (.mov (.r 7)), op 67 (.mov (.r 0)), op 68 (.mov (.r 10)), op 69 (.iad 5 (.r 67) (.r 68)), op 70 (.ld 5 true (.r 69)), cl 71 9 [(.r 70)], op 72 (.mov (.r 11)), op 73 (.mov (.r 12)), op 74 (.mov (.r 9)), cl 75 8 [(.r 66), (.r 71), (.r 72), (.r 73), (.r 74)]]) <|
            .ops [op 76 (.mov (.r 8)), op 77 (.mov (.r 0)), op 78 (.mov (.r 10)), op 79 (.iad 5 (.r 77) (.r 78)), op 80 (.ld 5 true (.r 79)), cl 81 9 [(.r 80)], op 82 (.mov (.r 11)), op 83 (.mov (.r 12)), op 84 (.mov (.r 9)), cl 85 10 [(.r 76), (.r 81), (.r 82), (.r 83), (.r 84)]])
            (sq (.ops [op 87 (.bin .eql (.r 54) (.c (.int .i64 2))), op 86 (.mov (.r 87))]) <|
            .cond (.r 86)
              (sq (.ops [op 88 (.mov (.r 7)), op 89 (.mov (.r 0)), op 90 (.mov (.r 10)), op 91 (.iad 5 (.r 89) (.r 90)), op 92 (.ld 5 true (.r 91)), cl 93 9 [(.r 92)], op 94 (.mov (.r 9)), cl 95 11 [(.r 88), (.r 93), (.r 94)]]) <|
              .ops [op 96 (.mov (.r 8)), op 97 (.mov (.r 0)), op 98 (.mov (.r 10)), op 99 (.iad 5 (.r 97) (.r 98)), op 100 (.ld 5 true (.r 99)), cl 101 9 [(.r 100)], op 102 (.mov (.r 9)), cl 103 12 [(.r 96), (.r 101), (.r 102)]])
              (.ops [op 55 (.mov (.r 9)), op 56 (.mov (.r 0)), op 57 (.mov (.r 10)), op 58 (.iad 5 (.r 56) (.r 57)), op 59 (.fad 1 (.r 58)), op 60 (.ld 1 false (.r 59)), op 61 (.bin .and (.r 60) (.c (.int .u64 7))), op 62 (.cvi .i64 (.r 61)), op 63 (.bin .add (.r 55) (.r 62)), op 9 (.mov (.r 63))])))) <|
        sq (.ops [op 104 (.mov (.r 10)), op 105 (.mov (.r 1)), op 106 (.len .sl (.r 105)), op 107 (.bin .lss (.r 104) (.r 106)), op 108 (.mov (.r 107)), ⟨(some 109), .b (.mov (.r 10)), (some (108, true)), []⟩, ⟨(some 110), .b (.mov (.r 2)), (some (108, true)), []⟩, ⟨(some 111), .b (.len .sl (.r 110)), (some (108, true)), []⟩, ⟨(some 112), .b (.bin .lss (.r 109) (.r 111)), (some (108, true)), []⟩, op 113 (.pick (.r 108) (.r 112) (.c (.bool false)))]) <|
        .cond (.r 113)
          (sq (.ops [op 115 (.mov (.r 7)), op 116 (.mov (.r 1)), op 117 (.mov (.r 10)), op 118 (.iad 1 (.r 116) (.r 117)), op 119 (.ld 1 false (.r 118)), op 120 (.mov (.r 2)), op 121 (.mov (.r 10)), op 122 (.iad 1 (.r 120) (.r 121)), op 123 (.ld 1 false (.r 122)), cl 124 13 [(.r 115), (.r 119), (.r 123)], op 114 (.mov (.r 124)), op 125 (.ext 0 (.r 114)), op 126 (.ext 1 (.r 114)), op 13 (.mov (.r 125)), op 14 (.mov (.r 126))]) <|
          sq (.ops [op 128 (.mov (.r 8)), op 129 (.mov (.r 1)), op 130 (.mov (.r 10)), op 131 (.iad 1 (.r 129) (.r 130)), op 132 (.ld 1 false (.r 131)), op 133 (.mov (.r 2)), op 134 (.mov (.r 10)), op 135 (.iad 1 (.r 133) (.r 134)), op 136 (.ld 1 false (.r 135)), cl 137 14 [(.r 128), (.r 132), (.r 136)], op 127 (.mov (.r 137)), op 138 (.ext 0 (.r 127)), op 139 (.ext 1 (.r 127)), op 15 (.mov (.r 138)), op 16 (.mov (.r 139))]) <|
          sq (.ops [op 141 (.mov (.r 7)), op 142 (.mov (.r 2)), op 143 (.mov (.r 10)), op 144 (.iad 1 (.r 142) (.r 143)), op 145 (.ld 1 false (.r 144)), cl 146 15 [(.r 141), (.r 145)], op 140 (.mov (.r 146)), op 147 (.ext 0 (.r 140)), op 148 (.ext 1 (.r 140)), op 149 (.ext 2 (.r 140)), op 17 (.mov (.r 147)), op 18 (.mov (.r 148)), op 19 (.mov (.r 149))]) <|
          sq (.ops [op 151 (.mov (.r 8)), op 152 (.mov (.r 2)), op 153 (.mov (.r 10)), op 154 (.iad 1 (.r 152) (.r 153)), op 155 (.ld 1 false (.r 154)), cl 156 16 [(.r 151), (.r 155)], op 150 (.mov (.r 156)), op 157 (.ext 0 (.r 150)), op 158 (.ext 1 (.r 150)), op 159 (.ext 2 (.r 150)), op 20 (.mov (.r 157)), op 21 (.mov (.r 158)), op 22 (.mov (.r 159))]) <|
          sq (sq (.ops [op 160 (.mov (.r 13)), op 161 (.mov (.r 15)), cl 162 17 [(.r 160), (.r 161)], op 163 (.un .not (.r 162)), op 164 (.mov (.r 163)), ⟨(some 165), .b (.mov (.r 14)), (some (164, false)), []⟩, ⟨(some 166), .b (.mov (.r 16)), (some (164, false)), []⟩, ⟨(some 167), .b (.bin .neq (.r 165) (.r 166)), (some (164, false)), []⟩, op 168 (.pick (.r 164) (.c (.bool true)) (.r 167)), op 169 (.mov (.r 168)), ⟨(some 170), .b (.mov (.r 17)), (some (169, false)), []⟩, ⟨(some 171), .b (.mov (.r 20)), (some (169, false)), []⟩, ⟨(some 172), .b (.bin .neq (.r 170) (.r 171)), (some (169, false)), []⟩, op 173 (.pick (.r 169) (.c (.bool true)) (.r 172)), op 174 (.mov (.r 173)), ⟨(some 175), .b (.mov (.r 18)), (some (174, false)), []⟩, ⟨(some 176), .b (.mov (.r 21)), (some (174, false)), []⟩, ⟨(some 177), .b (.beq true (.r 175) (.r 176)), (some (174, false)), []⟩, op 178 (.pick (.r 174) (.c (.bool true)) (.r 177)), op 179 (.mov (.r 178)), ⟨(some 180), .b (.mov (.r 19)), (some (179, false)), []⟩, ⟨(some 181), .b (.mov (.r 22)), (some (179, false)), []⟩, ⟨(some 182), .b (.bin .neq (.r 180) (.r 181)), (some (179, false)), []⟩, op 183 (.pick (.r 179) (.c (.bool true)) (.r 182)), op 184 (.mov (.r 183)), ⟨(some 185), .b (.mov (.r 7)), (some (184, false)), []⟩, ⟨(some 186), .call 19 [(.r 185)], (some (184, false)), []⟩, ⟨(some 187), .b (.mov (.r 8)), (some (184, false)), []⟩, ⟨(some 188), .call 20 [(.r 187)], (some (184, false)), []⟩, ⟨(some 189), .call 18 [(.r 186), (.r 188)], (some (184, false)), []⟩, ⟨(some 190), .b (.un .not (.r 189)), (some (184, false)), []⟩, op 191 (.pick (.r 184) (.c (.bool true)) (.r 190))]) <|
          .cond (.r 191)
            (sq (.ops [op 6 (.mov (.c (.bool false)))]) <|
            .ret)
            (.skip)) <|
          sq (.ops [op 192 (.mov (.r 10)), op 193 (.bin .and (.r 192) (.c (.int .i64 1))), op 194 (.bin .eql (.r 193) (.c (.int .i64 1)))]) <|
          .cond (.r 194)
            (sq (.ops [op 196 (.mov (.r 7)), op 197 (.mov (.r 1)), op 198 (.mov (.r 10)), op 199 (.iad 1 (.r 197) (.r 198)), op 200 (.ld 1 false (.r 199)), op 201 (.mov (.r 2)), op 202 (.mov (.r 10)), op 203 (.iad 1 (.r 201) (.r 202)), op 204 (.ld 1 false (.r 203)), cl 205 21 [(.r 196), (.r 200), (.r 204)], op 195 (.mov (.r 205)), op 206 (.ext 0 (.r 195)), op 207 (.ext 1 (.r 195)), op 13 (.mov (.r 206)), op 14 (.mov (.r 207))]) <|
            sq (.ops [op 209 (.mov (.r 8)), op 210 (.mov (.r 1)), op 211 (.mov (.r 10)), op 212 (.iad 1 (.r 210) (.r 211)), op 213 (.ld 1 false (.r 212)), op 214 (.mov (.r 2)), op 215 (.mov (.r 10)), op 216 (.iad 1 (.r 214) (.r 215)), op 217 (.ld 1 false (.r 216)), cl 218 22 [(.r 209), (.r 213), (.r 217)], op 208 (.mov (.r 218)), op 219 (.ext 0 (.r 208)), op 220 (.ext 1 (.r 208)), op 15 (.mov (.r 219)), op 16 (.mov (.r 220))]) <|
            sq (.ops [op 221 (.mov (.r 13)), op 222 (.mov (.r 15)), cl 223 17 [(.r 221), (.r 222)], op 224 (.un .not (.r 223)), op 225 (.mov (.r 224)), ⟨(some 226), .b (.mov (.r 14)), (some (225, false)), []⟩, ⟨(some 227), .b (.mov (.r 16)), (some (225, false)), []⟩, ⟨(some 228), .b (.bin .neq (.r 226) (.r 227)), (some (225, false)), []⟩, op 229 (.pick (.r 225) (.c (.bool true)) (.r 228)), op 230 (.mov (.r 229)), ⟨(some 231), .b (.mov (.r 7)), (some (230, false)), []⟩, ⟨(some 232), .call 19 [(.r 231)], (some (230, false)), []⟩, ⟨(some 233), .b (.mov (.r 8)), (some (230, false)), []⟩, ⟨(some 234), .call 20 [(.r 233)], (some (230, false)), []⟩, ⟨(some 235), .call 18 [(.r 232), (.r 234)], (some (230, false)), []⟩, ⟨(some 236), .b (.un .not (.r 235)), (some (230, false)), []⟩, op 237 (.pick (.r 230) (.c (.bool true)) (.r 236))]) <|
            .cond (.r 237)
              (sq (.ops [op 6 (.mov (.c (.bool false)))]) <|
              .ret)
              (.skip))
            (.skip))
          (.skip))) <|
      .ops [op 40 (.mov (.r 10)), op 41 (.bin .add (.r 40) (.c (.int .i64 1))), op 10 (.mov (.r 41))]))) <|
  sq (.ops [cl 239 13 [(.c .nilp), (.c (.int .i64 0)), (.c (.int .i64 0))], op 238 (.mov (.r 239)), op 240 (.ext 0 (.r 238)), op 241 (.ext 1 (.r 238)), op 23 (.mov (.r 240)), op 24 (.mov (.r 241))]) <|
  sq (.ops [cl 243 21 [(.c .nilp), (.c (.int .i64 0)), (.c (.int .i64 0))], op 242 (.mov (.r 243)), op 244 (.ext 0 (.r 242)), op 245 (.ext 1 (.r 242)), op 25 (.mov (.r 244)), op 26 (.mov (.r 245))]) <|
  sq (.ops [cl 247 15 [(.c .nilp), (.c (.int .i64 0))], op 246 (.mov (.r 247)), op 248 (.ext 0 (.r 246)), op 249 (.ext 1 (.r 246)), op 250 (.ext 2 (.r 246)), op 27 (.mov (.r 248)), op 28 (.mov (.r 249)), op 29 (.mov (.r 250))]) <|
  sq (.ops [op 251 (.mov (.r 7)), cl 252 19 [(.r 251)], op 253 (.mov (.r 8)), cl 254 20 [(.r 253)], cl 255 18 [(.r 252), (.r 254)], op 256 (.mov (.r 255)), ⟨(some 257), .b (.mov (.r 7)), (some (256, true)), []⟩, ⟨(some 258), .call 24 [(.r 257)], (some (256, true)), []⟩, ⟨(some 259), .b (.mov (.r 8)), (some (256, true)), []⟩, ⟨(some 260), .call 25 [(.r 259)], (some (256, true)), []⟩, ⟨(some 261), .call 23 [(.r 258), (.r 260)], (some (256, true)), []⟩, op 262 (.pick (.r 256) (.r 261) (.c (.bool false))), op 263 (.mov (.r 262)), ⟨(some 264), .b (.mov (.r 24)), (some (263, true)), []⟩, ⟨(some 265), .b (.bin .eql (.r 264) (.c (.int .i64 1))), (some (263, true)), []⟩, op 266 (.pick (.r 263) (.r 265) (.c (.bool false))), op 267 (.mov (.r 266)), ⟨(some 268), .b (.mov (.r 26)), (some (267, true)), []⟩, ⟨(some 269), .b (.bin .eql (.r 268) (.c (.int .i64 1))), (some (267, true)), []⟩, op 270 (.pick (.r 267) (.r 269) (.c (.bool false))), op 271 (.mov (.r 270)), ⟨(some 272), .b (.mov (.r 29)), (some (271, true)), []⟩, ⟨(some 273), .b (.bin .eql (.r 272) (.c (.int .i64 1))), (some (271, true)), []⟩, op 274 (.pick (.r 271) (.r 273) (.c (.bool false))), op 275 (.mov (.r 274)), ⟨(some 276), .b (.mov (.r 23)), (some (275, true)), []⟩, ⟨(some 277), .b (.len .sl (.r 276)), (some (275, true)), []⟩, ⟨(some 278), .b (.bin .eql (.r 277) (.c (.int .i64 0))), (some (275, true)), []⟩, op 279 (.pick (.r 275) (.r 278) (.c (.bool false))), op 280 (.mov (.r 279)), ⟨(some 281), .b (.mov (.r 25)), (some (280, true)), []⟩, ⟨(some 282), .b (.len .sl (.r 281)), (some (280, true)), []⟩, ⟨(some 283), .b (.bin .eql (.r 282) (.c (.int .i64 0))), (some (280, true)), []⟩, op 284 (.pick (.r 280) (.r 283) (.c (.bool false))), op 285 (.mov (.r 284)), ⟨(some 286), .b (.mov (.r 28)), (some (285, true)), []⟩, ⟨(some 287), .b (.un .not (.r 286)), (some (285, true)), []⟩, op 288 (.pick (.r 285) (.r 287) (.c (.bool false))), op 6 (.mov (.r 288))]) <|
  .ret⟩
def an4 : An := ⟨[], []⟩
def ir4 : Go.Rmp.Fn := ⟨81, 0, [.t 0],
  sq (.ops [op 0 (.mov (.c (.bool false)))]) <|
  sq (.ops [cl 9 5 [], op 1 (.mov (.r 9))]) <|
  sq (sq (.ops [op 10 (.mov (.r 1)), op 11 (.eqr false .ptr (.r 10) (.c .nilp))]) <|
  .cond (.r 11)
    (sq (.ops [op 0 (.mov (.c (.bool false)))]) <|
    .ret)
    (.skip)) <|
  sq (.ops [op 12 (.mov (.r 1)), op 13 (.build [.str ⟨#[]⟩, .str ⟨#[]⟩] [(0, 1, (.c (.str ⟨#[97]⟩))), (1, 1, (.c (.str ⟨#[120]⟩)))]), op 14 (.bsl 1 [.str ⟨#[]⟩, .str ⟨#[]⟩] [(0, (.r 13))]), op 15 (.bsl 1 [.str ⟨#[]⟩] [(0, (.c (.str ⟨#[97]⟩)))]), cl 16 8 [(.r 12), (.c (.int .u64 65536)), (.r 14), (.r 15), (.c (.int .i64 0))]]) <|
  sq (.ops [op 17 (.mov (.r 1)), cl 18 11 [(.r 17), (.c (.int .u64 65536)), (.c (.int .i64 0))]]) <|
  sq (.ops [op 19 (.mov (.r 1)), op 20 (.build [.str ⟨#[]⟩, .str ⟨#[]⟩] [(0, 1, (.c (.str ⟨#[97]⟩))), (1, 1, (.c (.str ⟨#[121]⟩)))]), op 21 (.bsl 1 [.str ⟨#[]⟩, .str ⟨#[]⟩] [(0, (.r 20))]), op 22 (.bsl 1 [.str ⟨#[]⟩] [(0, (.c (.str ⟨#[97]⟩)))]), cl 23 8 [(.r 19), (.c (.int .u64 131072)), (.r 21), (.r 22), (.c (.int .i64 1))]]) <|
  sq (.ops [op 24 (.mov (.r 1)), cl 25 11 [(.r 24), (.c (.int .u64 131072)), (.c (.int .i64 3))]]) <|
  sq (.ops [op 27 (.mov (.r 1)), cl 28 13 [(.r 27), (.c (.int .i64 12)), (.c (.int .i64 10))], op 26 (.mov (.r 28)), op 29 (.ext 0 (.r 26)), op 30 (.ext 1 (.r 26)), op 2 (.mov (.r 29)), op 3 (.mov (.r 30))]) <|
  sq (.ops [op 32 (.mov (.r 1)), cl 33 15 [(.r 32), (.c (.int .i64 10))], op 31 (.mov (.r 33)), op 34 (.ext 0 (.r 31)), op 35 (.ext 1 (.r 31)), op 36 (.ext 2 (.r 31)), op 4 (.mov (.r 34)), op 5 (.mov (.r 35)), op 6 (.mov (.r 36))]) <|
  sq (.ops [op 38 (.mov (.r 1)), cl 39 21 [(.r 38), (.c (.int .i64 13)), (.c (.int .i64 10))], op 37 (.mov (.r 39)), op 40 (.ext 0 (.r 37)), op 41 (.ext 1 (.r 37)), op 7 (.mov (.r 40)), op 8 (.mov (.r 41))]) <|
  sq (.ops [op 42 (.mov (.r 3)), op 43 (.bin .eql (.r 42) (.c (.int .i64 0))), op 44 (.mov (.r 43)), ⟨(some 45), .b (.mov (.r 6)), (some (44, true)), []⟩, ⟨(some 46), .b (.bin .eql (.r 45) (.c (.int .i64 0))), (some (44, true)), []⟩, op 47 (.pick (.r 44) (.r 46) (.c (.bool false))), op 48 (.mov (.r 47)), ⟨(some 49), .b (.mov (.r 8)), (some (48, true)), []⟩, ⟨(some 50), .b (.bin .eql (.r 49) (.c (.int .i64 0))), (some (48, true)), []⟩, op 51 (.pick (.r 48) (.r 50) (.c (.bool false))), op 52 (.mov (.r 51)), ⟨(some 53), .b (.mov (.r 2)), (some (52, true)), []⟩, ⟨(some 54), .b (.len .sl (.r 53)), (some (52, true)), []⟩, ⟨(some 55), .b (.bin .eql (.r 54) (.c (.int .i64 0))), (some (52, true)), []⟩, op 56 (.pick (.r 52) (.r 55) (.c (.bool false))), op 57 (.mov (.r 56)), ⟨(some 58), .b (.mov (.r 4)), (some (57, true)), []⟩, ⟨(some 59), .b (.bin .eql (.r 58) (.c (.int .i64 13))), (some (57, true)), []⟩, op 60 (.pick (.r 57) (.r 59) (.c (.bool false))), op 61 (.mov (.r 60)), ⟨(some 62), .b (.mov (.r 5)), (some (61, true)), []⟩, op 63 (.pick (.r 61) (.r 62) (.c (.bool false))), op 64 (.mov (.r 63)), ⟨(some 65), .b (.mov (.r 7)), (some (64, true)), []⟩, ⟨(some 66), .b (.len .sl (.r 65)), (some (64, true)), []⟩, ⟨(some 67), .b (.bin .eql (.r 66) (.c (.int .i64 1))), (some (64, true)), []⟩, op 68 (.pick (.r 64) (.r 67) (.c (.bool false))), op 69 (.mov (.r 68)), ⟨(some 70), .b (.mov (.r 7)), (some (69, true)), []⟩, ⟨(some 71), .b (.iad 2 (.r 70) (.c (.int .i64 0))), (some (69, true)), []⟩, ⟨(some 72), .b (.ld 2 true (.r 71)), (some (69, true)), []⟩, ⟨(some 73), .b (.build [.str ⟨#[]⟩, .int .u64 0] [(0, 1, (.c (.str ⟨#[97]⟩))), (1, 1, (.c (.int .u64 65536)))]), (some (69, true)), []⟩, ⟨(some 74), .b (.eqs false [.str, .int] (.r 72) (.r 73)), (some (69, true)), []⟩, op 75 (.pick (.r 69) (.r 74) (.c (.bool false))), op 76 (.mov (.r 75)), ⟨(some 77), .b (.mov (.r 1)), (some (76, true)), []⟩, ⟨(some 78), .call 26 [(.r 77), (.c (.int .u64 65536))], (some (76, true)), []⟩, ⟨(some 79), .b (.bin .eql (.r 78) (.c (.int .i64 0))), (some (76, true)), []⟩, op 80 (.pick (.r 76) (.r 79) (.c (.bool false))), op 0 (.mov (.r 80))]) <|
  .ret⟩
def an5 : An := ⟨[], []⟩
def ir5 : Go.Rmp.Fn := ⟨7, 0, [.t 0],
  sq (.ops [op 0 (.mov (.c .nilp))]) <|
  sq (.ops [op 1 (.mkm), op 2 (.mkm), op 3 (.mkm), op 4 (.mkm), op 5 (.build [.nilm, .nilm, .nilm, .nilm] [(0, 1, (.r 1)), (1, 1, (.r 2)), (2, 1, (.r 3)), (3, 1, (.r 4))]), op 6 (.box (.r 5)), op 0 (.mov (.r 6))]) <|
  .ret⟩
def an6 : An := ⟨[], []⟩
def ir6 : Go.Rmp.Fn := ⟨3, 0, [.t 0],
  sq (.ops [op 0 (.mov (.c .nilp))]) <|
  sq (.ops [op 1 (.build [.sl .nil [], .sl .nil []] []), op 2 (.box (.r 1)), op 0 (.mov (.r 2))]) <|
  .ret⟩
def an7 : An := ⟨[], [(7, [(0, true), (1, true), (2, true), (3, true), (4, true), (5, true), (6, true), (7, true), (8, true), (9, true), (10, true), (11, true), (12, true), (13, true), (14, false), (15, false)])]⟩
def ir7 : Go.Rmp.Fn := ⟨40, 1, [.t 2, .t 3],
  sq (.ops [op 1 (.box (.r 0)), op 2 (.mov (.c (.sl .nil []))), op 3 (.mov (.c (.sl .nil [])))]) <|
  sq (.ops [op 8 (.fad 2 (.r 1)), op 9 (.ld 1 false (.r 8)), cl 10 27 [(.r 9)], op 4 (.mov (.r 10))]) <|
  sq (.ops [op 11 (.fad 2 (.r 1)), op 12 (.ld 1 false (.r 11)), op 13 (.fad 3 (.r 1)), op 14 (.ld 1 false (.r 13)), op 15 (.bin .and (.r 12) (.r 14)), cl 16 27 [(.r 15)], op 5 (.mov (.r 16))]) <|
  sq (.ops [op 6 (.mov (.c (.sl .nil [])))]) <|
  sq (sq (.ops [op 7 (.mov (.c (.int .i64 0)))]) <|
  .block 0 (
    .loop (
      sq (sq (.ops [op 17 (.mov (.r 7)), op 18 (.mov (.r 5)), op 19 (.len .sl (.r 18)), op 20 (.bin .lss (.r 17) (.r 19))]) <|
      .cond (.r 20)
        (.skip)
        (.exit 0)) <|
      sq (.block 1 (
        .ops [op 23 (.mov (.r 6)), op 24 (.mov (.r 5)), op 25 (.mov (.r 7)), op 26 (.iad 1 (.r 24) (.r 25)), op 27 (.ld 1 false (.r 26)), op 28 (.fad 4 (.r 1)), op 29 (.ld 1 false (.r 28)), op 30 (.fad 4 (.r 1)), op 31 (.ld 1 false (.r 30)), op 32 (.len .str (.r 31)), op 33 (.mn (.r 32) (.c (.int .i64 300))), op 34 (.sls (.r 29) none (some (.r 33))), op 35 (.build [.str ⟨#[]⟩, .str ⟨#[]⟩] [(0, 1, (.r 27)), (1, 1, (.r 34))]), op 36 (.bsl 1 [.str ⟨#[]⟩, .str ⟨#[]⟩] [(0, (.r 35))]), op 37 (.app 2 32 false (.r 23) (.r 36)), op 6 (.mov (.r 37))])) <|
      .ops [op 21 (.mov (.r 7)), op 22 (.bin .add (.r 21) (.c (.int .i64 1))), op 7 (.mov (.r 22))]))) <|
  sq (.ops [op 38 (.mov (.r 6)), op 39 (.mov (.r 4)), op 2 (.mov (.r 38)), op 3 (.mov (.r 39))]) <|
  .ret⟩
def an8 : An := ⟨[], [(8, [(0, true), (1, true), (2, true), (3, true), (4, true), (5, true), (6, true), (7, true), (8, true), (9, true), (10, false), (11, true)]), (12, [(0, true), (1, true), (2, true), (3, true), (4, true), (5, true), (6, true), (7, true), (8, true)]), (14, [(0, true), (1, true), (2, true), (3, true), (4, true), (6, true), (5, false), (7, true), (8, false)])]⟩
def ir8 : Go.Rmp.Fn := ⟨70, 5, [.t 10, .t 11],
  sq (.ops [op 10 (.mov (.c (.bool false))), op 11 (.mov (.c (.int .i64 0)))]) <|
  sq (sq (.ops [op 19 (.mov (.r 1)), op 20 (.mov (.r 2)), op 21 (.mov (.r 3)), cl 22 28 [(.r 19), (.r 20), (.r 21)], op 23 (.un .not (.r 22)), op 24 (.mov (.r 23)), ⟨(some 25), .b (.mov (.r 4)), (some (24, false)), []⟩, ⟨(some 26), .call 29 [(.r 25)], (some (24, false)), []⟩, ⟨(some 27), .b (.un .not (.r 26)), (some (24, false)), []⟩, op 28 (.pick (.r 24) (.c (.bool true)) (.r 27))]) <|
  .cond (.r 28)
    (sq (.ops [op 10 (.mov (.c (.bool false))), op 11 (.mov (.c (.int .i64 1)))]) <|
    .ret)
    (.skip)) <|
  sq (.ops [op 12 (.mov (.c (.bool false)))]) <|
  sq (sq (.ops [op 29 (.mov (.r 2)), op 30 (.len .sl (.r 29)), op 31 (.mov (.c (.int .i64 0)))]) <|
  .block 0 (
    .loop (
      sq (.ops [op 32 (.bin .lss (.r 31) (.r 30))]) <|
      sq (.cond (.r 32)
        (.skip)
        (.exit 0)) <|
      sq (.block 1 (
        sq (.ops [op 33 (.iad 2 (.r 29) (.r 31)), op 34 (.ld 2 true (.r 33)), op 14 (.alloc [.str ⟨#[]⟩, .str ⟨#[]⟩]), ef (.st 2 (.r 14) (.r 34))]) <|
        sq (.ops [op 35 (.fad 0 (.r 14)), op 36 (.ld 1 false (.r 35)), op 37 (.mov (.r 1)), op 38 (.build [.str ⟨#[]⟩, .int .u64 0] [(0, 1, (.r 36)), (1, 1, (.r 37))]), op 15 (.alloc [.str ⟨#[]⟩, .int .u64 0]), ef (.st 2 (.r 15) (.r 38))]) <|
        sq (sq (.ops [op 40 (.mov (.r 0)), op 41 (.nilc (.r 40)), op 42 (.fad 0 (.r 41)), op 43 (.ld 1 false (.r 42)), op 44 (.ld 2 true (.r 15)), op 45 (.lkp (.st [.str, .int]) (.agg [.str ⟨#[]⟩, .sl .nil [], .int .i64 0]) true (.r 43) (.r 44)), op 39 (.mov (.r 45)), op 46 (.ext 0 (.r 39)), op 47 (.ext 1 (.r 39)), op 16 (.alloc [.str ⟨#[]⟩, .sl .nil [], .int .i64 0]), ef (.st 3 (.r 16) (.r 46)), op 17 (.mov (.r 47))]) <|
        sq (.ops [op 48 (.mov (.r 17))]) <|
        .cond (.r 48)
          (.exit 1)
          (.skip)) <|
        sq (.ops [op 12 (.mov (.c (.bool true)))]) <|
        sq (.ops [op 18 (.mov (.c (.int .i64 (-1))))]) <|
        sq (sq (.ops [op 49 (.mov (.r 1)), op 50 (.mov (.r 0)), op 51 (.nilc (.r 50)), op 52 (.fad 3 (.r 51)), op 53 (.ld 1 false (.r 52)), op 54 (.fad 0 (.r 14)), op 55 (.ld 1 false (.r 54)), op 56 (.lkp (.sc .str) (.int .u64 0) false (.r 53) (.r 55)), op 57 (.bin .lss (.r 49) (.r 56))]) <|
        .cond (.r 57)
          (.ops [op 58 (.mov (.r 4)), op 18 (.mov (.r 58))])
          (.skip)) <|
        .ops [op 59 (.mov (.r 0)), op 60 (.ld 2 true (.r 15)), op 61 (.fad 1 (.r 14)), op 62 (.ld 1 false (.r 61)), op 63 (.mov (.r 3)), op 65 (.mov (.r 18)), ⟨(some 64), .call 31 [(.r 63)], none, [⟨60, .ld 2 true (.r 15), none⟩, ⟨62, .ld 1 false (.r 61), none⟩]⟩, op 66 (.build [.str ⟨#[]⟩, .sl .nil [], .int .i64 0] [(0, 1, (.r 62)), (1, 1, (.r 64)), (2, 1, (.r 65))]), cl 67 30 [(.r 59), (.r 60), (.r 66)]])) <|
      .ops [op 68 (.bin .add (.r 31) (.c (.int .i64 1))), op 31 (.mov (.r 68))]))) <|
  sq (.ops [op 69 (.mov (.r 12)), op 10 (.mov (.r 69)), op 11 (.mov (.c (.int .i64 0)))]) <|
  .ret⟩
def an9 : An := ⟨[], []⟩
def ir9 : Go.Rmp.Fn := ⟨13, 1, [.t 2],
  sq (.ops [op 1 (.box (.r 0)), op 2 (.mov (.c (.int .u64 0)))]) <|
  sq (.ops [op 3 (.fad 1 (.r 1)), op 4 (.ld 1 false (.r 3)), op 5 (.bin .shr (.r 4) (.c (.int .u64 2))), op 6 (.bin .and (.r 5) (.c (.int .u64 15))), op 7 (.bin .add (.c (.int .u64 1)) (.r 6)), op 8 (.bin .mul (.c (.int .u64 65536)) (.r 7)), op 9 (.fad 1 (.r 1)), op 10 (.ld 1 false (.r 9)), op 11 (.bin .and (.r 10) (.c (.int .u64 3))), op 12 (.bin .add (.r 8) (.r 11)), op 2 (.mov (.r 12))]) <|
  .ret⟩
def an10 : An := ⟨[(13, 6), (14, 3), (15, 8)], [(10, [(0, true), (1, true), (2, true), (3, true), (4, true), (5, true), (6, true), (7, true), (8, true), (9, true), (10, true), (11, true), (15, true), (12, false), (13, true), (14, true), (16, false)])]⟩
def ir10 : Go.Rmp.Fn := ⟨95, 5, [.t 10, .t 11],
  sq (.ops [op 10 (.mov (.c (.bool false))), op 11 (.mov (.c (.int .i64 0)))]) <|
  sq (sq (.ops [op 18 (.mov (.r 1)), op 19 (.mov (.r 2)), op 20 (.mov (.r 3)), cl 21 32 [(.r 18), (.r 19), (.r 20)], op 22 (.un .not (.r 21)), op 23 (.mov (.r 22)), ⟨(some 24), .b (.mov (.r 4)), (some (23, false)), []⟩, ⟨(some 25), .call 33 [(.r 24)], (some (23, false)), []⟩, ⟨(some 26), .b (.un .not (.r 25)), (some (23, false)), []⟩, op 27 (.pick (.r 23) (.c (.bool true)) (.r 26))]) <|
  .cond (.r 27)
    (sq (.ops [op 10 (.mov (.c (.bool false))), op 11 (.mov (.c (.int .i64 1)))]) <|
    .ret)
    (.skip)) <|
  sq (.ops [op 12 (.mov (.c (.bool false)))]) <|
  sq (sq (.ops [op 13 (.mov (.c (.int .i64 0)))]) <|
  .block 0 (
    .loop (
      sq (sq (.ops [op 28 (.mov (.r 13)), op 29 (.mov (.r 2)), op 30 (.len .sl (.r 29)), op 31 (.bin .lss (.r 28) (.r 30))]) <|
      .cond (.r 31)
        (.skip)
        (.exit 0)) <|
      sq (.block 1 (
        sq (.ops [op 35 (.mov (.r 0)), op 36 (.mov (.r 2)), op 37 (.mov (.r 13)), op 38 (.iad 2 (.r 36) (.r 37)), op 39 (.fad 0 (.r 38)), op 40 (.ld 1 false (.r 39)), op 41 (.mov (.r 1)), cl 42 34 [(.r 35), (.r 40), (.r 41)], op 34 (.mov (.r 42)), op 43 (.ext 0 (.r 34)), op 44 (.ext 1 (.r 34)), op 14 (.mov (.r 43)), op 15 (.mov (.r 44))]) <|
        sq (sq (.ops [op 45 (.mov (.r 15))]) <|
        .cond (.r 45)
          (.exit 1)
          (.skip)) <|
        sq (.ops [op 12 (.mov (.c (.bool true)))]) <|
        sq (.ops [op 46 (.mov (.r 2)), op 47 (.mov (.r 13)), op 48 (.iad 2 (.r 46) (.r 47)), op 49 (.fad 0 (.r 48)), op 50 (.ld 1 false (.r 49)), op 51 (.mov (.r 1)), op 52 (.mov (.r 2)), op 53 (.mov (.r 13)), op 54 (.iad 2 (.r 52) (.r 53)), op 55 (.fad 1 (.r 54)), op 56 (.ld 1 false (.r 55)), op 57 (.mov (.r 3)), op 16 (.alloc [.str ⟨#[]⟩, .int .u64 0, .str ⟨#[]⟩, .sl .nil [], .int .i64 0]), ⟨(some 58), .b (.app 1 16 false (.c (.sl .nil [])) (.r 57)), none, [⟨50, .ld 1 false (.r 49), none⟩, ⟨56, .ld 1 false (.r 55), none⟩]⟩, op 59 (.build [.str ⟨#[]⟩, .int .u64 0, .str ⟨#[]⟩, .sl .nil []] [(0, 1, (.r 50)), (1, 1, (.r 51)), (2, 1, (.r 56)), (3, 1, (.r 58))]), op 60 (.build [.str ⟨#[]⟩, .int .u64 0, .str ⟨#[]⟩, .sl .nil [], .int .i64 0] [(0, 4, (.r 59)), (4, 1, (.c (.int .i64 (-1))))]), ef (.st 5 (.r 16) (.r 60))]) <|
        sq (sq (.ops [op 61 (.mov (.r 1)), op 62 (.mov (.r 0)), op 63 (.mov (.r 2)), op 64 (.mov (.r 13)), op 65 (.iad 2 (.r 63) (.r 64)), op 66 (.fad 0 (.r 65)), op 67 (.ld 1 false (.r 66)), cl 68 35 [(.r 62), (.r 67)], op 69 (.bin .lss (.r 61) (.r 68))]) <|
        .cond (.r 69)
          (.ops [op 70 (.mov (.r 4)), op 71 (.fad 4 (.r 16)), ef (.st 1 (.r 71) (.r 70))])
          (.skip)) <|
        sq (.ops [op 72 (.mov (.r 0)), op 73 (.nilc (.r 72)), op 74 (.fad 0 (.r 73)), op 75 (.ld 1 false (.r 74)), op 76 (.mov (.r 14)), op 77 (.sll 5 (.r 75) none (some (.r 76)) none), op 78 (.app 5 72 true (.c (.sl .nil [])) (.r 77)), op 17 (.mov (.r 78))]) <|
        sq (.ops [op 79 (.mov (.r 17)), op 80 (.ld 5 true (.r 16)), op 81 (.bsl 1 [.str ⟨#[]⟩, .int .u64 0, .str ⟨#[]⟩, .sl .nil [], .int .i64 0] [(0, (.r 80))]), op 82 (.app 5 72 true (.r 79) (.r 81)), op 17 (.mov (.r 82))]) <|
        .ops [op 83 (.mov (.r 0)), op 84 (.mov (.r 17)), op 85 (.mov (.r 0)), op 86 (.nilc (.r 85)), op 87 (.fad 0 (.r 86)), op 88 (.ld 1 false (.r 87)), op 89 (.mov (.r 14)), op 90 (.sll 5 (.r 88) (some (.r 89)) none none), op 91 (.app 5 72 true (.r 84) (.r 90)), op 92 (.nilc (.r 83)), op 93 (.fad 0 (.r 92)), ef (.st 1 (.r 93) (.r 91))])) <|
      .ops [op 32 (.mov (.r 13)), op 33 (.bin .add (.r 32) (.c (.int .i64 1))), op 13 (.mov (.r 33))]))) <|
  sq (.ops [op 94 (.mov (.r 12)), op 10 (.mov (.r 94)), op 11 (.mov (.c (.int .i64 0)))]) <|
  .ret⟩
def an11 : An := ⟨[], [(15, [(0, true), (1, true), (2, true), (3, true), (4, true), (5, true), (6, true), (7, true), (8, false)])]⟩
def ir11 : Go.Rmp.Fn := ⟨89, 3, [.t 6, .t 7],
  sq (.ops [op 6 (.mov (.c (.int .i64 0))), op 7 (.mov (.c (.int .i64 0)))]) <|
  sq (sq (.ops [op 13 (.mov (.r 1)), op 14 (.bin .lss (.r 13) (.c (.int .u64 65536))), op 15 (.mov (.r 14)), ⟨(some 16), .b (.mov (.r 2)), (some (15, false)), []⟩, ⟨(some 17), .call 29 [(.r 16)], (some (15, false)), []⟩, ⟨(some 18), .b (.un .not (.r 17)), (some (15, false)), []⟩, op 19 (.pick (.r 15) (.c (.bool true)) (.r 18))]) <|
  .cond (.r 19)
    (sq (.ops [op 6 (.mov (.c (.int .i64 0))), op 7 (.mov (.c (.int .i64 1)))]) <|
    .ret)
    (.skip)) <|
  sq (sq (.ops [op 20 (.mov (.r 0)), op 21 (.nilc (.r 20)), op 22 (.fad 2 (.r 21)), op 23 (.ld 1 false (.r 22)), op 24 (.mov (.r 1)), op 25 (.lkp (.sc .int) (.sl .nil []) false (.r 23) (.r 24)), op 26 (.len .sl (.r 25)), op 27 (.mov (.c (.int .i64 0)))]) <|
  .block 0 (
    .loop (
      sq (.ops [op 28 (.bin .lss (.r 27) (.r 26))]) <|
      sq (.cond (.r 28)
        (.skip)
        (.exit 0)) <|
      sq (.block 1 (
        sq (.ops [op 29 (.iad 1 (.r 25) (.r 27)), op 30 (.ld 1 false (.r 29)), op 9 (.mov (.r 30))]) <|
        sq (sq (.ops [op 31 (.mov (.r 0)), op 32 (.nilc (.r 31)), op 33 (.fad 3 (.r 32)), op 34 (.ld 1 false (.r 33)), op 35 (.mov (.r 9)), op 36 (.lkp (.sc .str) (.int .u64 0) false (.r 34) (.r 35)), op 37 (.mov (.r 1)), op 38 (.bin .geq (.r 36) (.r 37))]) <|
        .cond (.r 38)
          (.exit 1)
          (.skip)) <|
        sq (.ops [op 39 (.mov (.r 0)), op 40 (.nilc (.r 39)), op 41 (.fad 3 (.r 40)), op 42 (.ld 1 false (.r 41)), op 43 (.mov (.r 9)), op 44 (.mov (.r 1)), ef (.upm (.sc .str) (.r 42) (.r 43) (.r 44))]) <|
        sq (.ops [op 45 (.mov (.r 0)), op 46 (.nilc (.r 45)), op 47 (.fad 1 (.r 46)), op 48 (.ld 1 false (.r 47)), op 49 (.mov (.r 9)), op 50 (.lkp (.sc .str) (.sl .nil []) false (.r 48) (.r 49)), op 51 (.len .sl (.r 50)), op 52 (.mov (.c (.int .i64 0)))]) <|
        .block 2 (
          .loop (
            sq (.ops [op 53 (.bin .lss (.r 52) (.r 51))]) <|
            sq (.cond (.r 53)
              (.skip)
              (.exit 2)) <|
            sq (.block 3 (
              sq (.ops [op 54 (.iad 1 (.r 50) (.r 52)), op 55 (.ld 1 false (.r 54)), op 11 (.mov (.r 55))]) <|
              sq (sq (.ops [op 56 (.mov (.r 11)), op 57 (.mov (.r 1)), op 58 (.bin .geq (.r 56) (.r 57))]) <|
              .cond (.r 58)
                (.exit 2)
                (.skip)) <|
              sq (.ops [op 59 (.mov (.r 0)), op 60 (.nilc (.r 59)), op 61 (.fad 0 (.r 60)), op 62 (.ld 1 false (.r 61)), op 63 (.mov (.r 9)), op 64 (.mov (.r 11)), op 65 (.build [.str ⟨#[]⟩, .int .u64 0] [(0, 1, (.r 63)), (1, 1, (.r 64))]), op 66 (.lkp (.st [.str, .int]) (.agg [.str ⟨#[]⟩, .sl .nil [], .int .i64 0]) false (.r 62) (.r 65)), op 12 (.alloc [.str ⟨#[]⟩, .sl .nil [], .int .i64 0]), ef (.st 3 (.r 12) (.r 66))]) <|
              sq (.ops [op 67 (.fad 2 (.r 12)), op 68 (.ld 1 false (.r 67)), op 69 (.bin .eql (.r 68) (.c (.int .i64 (-1))))]) <|
              .cond (.r 69)
                (sq (.ops [op 70 (.mov (.r 2)), op 71 (.fad 2 (.r 12)), ef (.st 1 (.r 71) (.r 70))]) <|
                .ops [op 72 (.mov (.r 0)), op 73 (.nilc (.r 72)), op 74 (.fad 0 (.r 73)), op 75 (.ld 1 false (.r 74)), op 76 (.mov (.r 9)), op 77 (.mov (.r 11)), op 78 (.build [.str ⟨#[]⟩, .int .u64 0] [(0, 1, (.r 76)), (1, 1, (.r 77))]), op 79 (.ld 3 true (.r 12)), ef (.upm (.st [.str, .int]) (.r 75) (.r 78) (.r 79))])
                (.skip))) <|
            .ops [op 80 (.bin .add (.r 52) (.c (.int .i64 1))), op 52 (.mov (.r 80))])))) <|
      .ops [op 81 (.bin .add (.r 27) (.c (.int .i64 1))), op 27 (.mov (.r 81))]))) <|
  sq (.ops [op 82 (.mov (.r 0)), op 83 (.nilc (.r 82)), op 84 (.fad 2 (.r 83)), op 85 (.ld 1 false (.r 84)), op 86 (.mov (.r 1)), op 87 (.lkp (.sc .int) (.sl .nil []) false (.r 85) (.r 86)), op 88 (.len .sl (.r 87)), op 6 (.mov (.r 88)), op 7 (.mov (.c (.int .i64 0)))]) <|
  .ret⟩
def an12 : An := ⟨[], [(15, [(0, true), (1, true), (2, true), (3, true), (4, true), (5, true), (6, true), (7, true), (8, true), (9, true), (10, true), (11, true), (12, true), (13, true), (14, true), (15, true), (16, true), (17, true), (18, true), (19, true), (20, true), (21, true), (22, true), (23, true), (24, true), (25, true), (26, true), (27, true), (28, true), (29, false), (30, true), (31, true)])]⟩
def ir12 : Go.Rmp.Fn := ⟨104, 3, [.t 6, .t 7],
  sq (.ops [op 6 (.mov (.c (.int .i64 0))), op 7 (.mov (.c (.int .i64 0)))]) <|
  sq (sq (.ops [op 12 (.mov (.r 1)), cl 13 36 [(.r 12)], op 14 (.un .not (.r 13)), op 15 (.mov (.r 14)), ⟨(some 16), .b (.mov (.r 2)), (some (15, false)), []⟩, ⟨(some 17), .call 33 [(.r 16)], (some (15, false)), []⟩, ⟨(some 18), .b (.un .not (.r 17)), (some (15, false)), []⟩, op 19 (.pick (.r 15) (.c (.bool true)) (.r 18))]) <|
  .cond (.r 19)
    (sq (.ops [op 6 (.mov (.c (.int .i64 0))), op 7 (.mov (.c (.int .i64 1)))]) <|
    .ret)
    (.skip)) <|
  sq (.ops [op 8 (.mov (.c (.int .i64 0)))]) <|
  sq (sq (.ops [op 9 (.mov (.c (.int .i64 0)))]) <|
  .block 0 (
    .loop (
      sq (sq (.ops [op 20 (.mov (.r 9)), op 21 (.mov (.r 0)), op 22 (.nilc (.r 21)), op 23 (.fad 0 (.r 22)), op 24 (.ld 1 false (.r 23)), op 25 (.len .sl (.r 24)), op 26 (.bin .lss (.r 20) (.r 25))]) <|
      .cond (.r 26)
        (.skip)
        (.exit 0)) <|
      sq (.block 1 (
        sq (.ops [op 29 (.mov (.r 0)), op 30 (.nilc (.r 29)), op 31 (.fad 0 (.r 30)), op 32 (.ld 1 false (.r 31)), op 33 (.mov (.r 9)), op 34 (.iad 5 (.r 32) (.r 33)), op 35 (.fad 0 (.r 34)), op 36 (.ld 4 true (.r 35)), op 10 (.alloc [.str ⟨#[]⟩, .int .u64 0, .str ⟨#[]⟩, .sl .nil []]), ef (.st 4 (.r 10) (.r 36))]) <|
        sq (sq (.ops [op 37 (.fad 1 (.r 10)), op 38 (.ld 1 false (.r 37)), op 39 (.mov (.r 1)), op 40 (.bin .neq (.r 38) (.r 39))]) <|
        .cond (.r 40)
          (.exit 1)
          (.skip)) <|
        sq (.ops [op 41 (.mov (.r 8)), op 42 (.bin .add (.r 41) (.c (.int .i64 1))), op 8 (.mov (.r 42))]) <|
        sq (.ops [op 43 (.mov (.r 0)), op 44 (.fad 0 (.r 10)), op 45 (.ld 1 false (.r 44)), cl 46 35 [(.r 43), (.r 45)], op 47 (.mov (.r 1)), op 48 (.bin .lss (.r 46) (.r 47))]) <|
        .cond (.r 48)
          (.ops [op 49 (.mov (.r 0)), op 50 (.fad 0 (.r 10)), op 51 (.ld 1 false (.r 50)), op 52 (.mov (.r 1)), cl 53 37 [(.r 49), (.r 51), (.r 52)]])
          (.skip))) <|
      .ops [op 27 (.mov (.r 9)), op 28 (.bin .add (.r 27) (.c (.int .i64 1))), op 9 (.mov (.r 28))]))) <|
  sq (sq (.ops [op 11 (.mov (.c (.int .i64 0)))]) <|
  .block 2 (
    .loop (
      sq (sq (.ops [op 54 (.mov (.r 11)), op 55 (.mov (.r 0)), op 56 (.nilc (.r 55)), op 57 (.fad 0 (.r 56)), op 58 (.ld 1 false (.r 57)), op 59 (.len .sl (.r 58)), op 60 (.bin .lss (.r 54) (.r 59))]) <|
      .cond (.r 60)
        (.skip)
        (.exit 2)) <|
      sq (.block 3 (
        sq (.ops [op 63 (.mov (.r 0)), op 64 (.nilc (.r 63)), op 65 (.fad 0 (.r 64)), op 66 (.ld 1 false (.r 65)), op 67 (.mov (.r 11)), op 68 (.iad 5 (.r 66) (.r 67)), op 69 (.fad 4 (.r 68)), op 70 (.ld 1 false (.r 69)), op 71 (.bin .eql (.r 70) (.c (.int .i64 (-1)))), op 72 (.mov (.r 71)), ⟨(some 73), .b (.mov (.r 0)), (some (72, true)), []⟩, ⟨(some 74), .b (.nilc (.r 73)), (some (72, true)), []⟩, ⟨(some 75), .b (.fad 0 (.r 74)), (some (72, true)), []⟩, ⟨(some 76), .b (.ld 1 false (.r 75)), (some (72, true)), []⟩, ⟨(some 77), .b (.mov (.r 11)), (some (72, true)), []⟩, ⟨(some 78), .b (.iad 5 (.r 76) (.r 77)), (some (72, true)), []⟩, ⟨(some 79), .b (.fad 0 (.r 78)), (some (72, true)), []⟩, ⟨(some 80), .b (.fad 1 (.r 79)), (some (72, true)), []⟩, ⟨(some 81), .b (.ld 1 false (.r 80)), (some (72, true)), []⟩, ⟨(some 82), .b (.mov (.r 0)), (some (72, true)), []⟩, ⟨(some 83), .b (.mov (.r 0)), (some (72, true)), []⟩, ⟨(some 84), .b (.nilc (.r 83)), (some (72, true)), []⟩, ⟨(some 85), .b (.fad 0 (.r 84)), (some (72, true)), []⟩, ⟨(some 86), .b (.ld 1 false (.r 85)), (some (72, true)), []⟩, ⟨(some 87), .b (.mov (.r 11)), (some (72, true)), []⟩, ⟨(some 88), .b (.iad 5 (.r 86) (.r 87)), (some (72, true)), []⟩, ⟨(some 89), .b (.fad 0 (.r 88)), (some (72, true)), []⟩, ⟨(some 90), .b (.fad 0 (.r 89)), (some (72, true)), []⟩, ⟨(some 91), .b (.ld 1 false (.r 90)), (some (72, true)), []⟩, ⟨(some 92), .call 35 [(.r 82), (.r 91)], (some (72, true)), [⟨76, .ld 1 false (.r 75), (some (72, true))⟩, ⟨81, .ld 1 false (.r 80), (some (72, true))⟩]⟩, ⟨(some 93), .b (.bin .lss (.r 81) (.r 92)), (some (72, true)), []⟩, op 94 (.pick (.r 72) (.r 93) (.c (.bool false)))]) <|
        .cond (.r 94)
          (.ops [op 95 (.mov (.r 0)), op 96 (.nilc (.r 95)), op 97 (.fad 0 (.r 96)), op 98 (.ld 1 false (.r 97)), op 99 (.mov (.r 11)), op 100 (.mov (.r 2)), op 101 (.iad 5 (.r 98) (.r 99)), op 102 (.fad 4 (.r 101)), ef (.st 1 (.r 102) (.r 100))])
          (.skip))) <|
      .ops [op 61 (.mov (.r 11)), op 62 (.bin .add (.r 61) (.c (.int .i64 1))), op 11 (.mov (.r 62))]))) <|
  sq (.ops [op 103 (.mov (.r 8)), op 6 (.mov (.r 103)), op 7 (.mov (.c (.int .i64 0)))]) <|
  .ret⟩
def an13 : An := ⟨[], []⟩
def ir13 : Go.Rmp.Fn := ⟨53, 3, [.t 6, .t 7],
  sq (.ops [op 6 (.mov (.c (.sl .nil []))), op 7 (.mov (.c (.int .i64 0)))]) <|
  sq (sq (.ops [op 11 (.mov (.r 0)), op 12 (.eqr false .ptr (.r 11) (.c .nilp)), op 13 (.mov (.r 12)), ⟨(some 14), .b (.mov (.r 1)), (some (13, false)), []⟩, ⟨(some 15), .call 38 [(.r 14)], (some (13, false)), []⟩, ⟨(some 16), .b (.un .not (.r 15)), (some (13, false)), []⟩, op 17 (.pick (.r 13) (.c (.bool true)) (.r 16)), op 18 (.mov (.r 17)), ⟨(some 19), .b (.mov (.r 2)), (some (18, false)), []⟩, ⟨(some 20), .call 39 [(.r 19)], (some (18, false)), []⟩, ⟨(some 21), .b (.un .not (.r 20)), (some (18, false)), []⟩, op 22 (.pick (.r 18) (.c (.bool true)) (.r 21))]) <|
  .cond (.r 22)
    (sq (.ops [op 6 (.mov (.c (.sl .nil []))), op 7 (.mov (.c (.int .i64 1)))]) <|
    .ret)
    (.skip)) <|
  sq (.ops [op 8 (.mov (.c (.sl .nil [])))]) <|
  sq (sq (.ops [op 23 (.mov (.r 0)), cl 24 19 [(.r 23)], op 25 (.len .sl (.r 24)), op 26 (.mov (.c (.int .i64 0)))]) <|
  .block 0 (
    .loop (
      sq (.ops [op 27 (.bin .lss (.r 26) (.r 25))]) <|
      sq (.cond (.r 27)
        (.skip)
        (.exit 0)) <|
      sq (.block 1 (
        sq (.ops [op 28 (.iad 5 (.r 24) (.r 26)), op 29 (.ld 5 true (.r 28)), op 10 (.alloc [.str ⟨#[]⟩, .int .u64 0, .str ⟨#[]⟩, .sl .nil [], .int .i64 0]), ef (.st 5 (.r 10) (.r 29))]) <|
        sq (.ops [op 30 (.fad 4 (.r 10)), op 31 (.ld 1 false (.r 30)), op 32 (.bin .geq (.r 31) (.c (.int .i64 0))), op 33 (.mov (.r 32)), ⟨(some 34), .b (.fad 4 (.r 10)), (some (33, true)), []⟩, ⟨(some 35), .b (.ld 1 false (.r 34)), (some (33, true)), []⟩, ⟨(some 36), .b (.mov (.r 1)), (some (33, true)), []⟩, ⟨(some 37), .b (.mov (.r 2)), (some (33, true)), []⟩, ⟨(some 38), .b (.bin .sub (.r 36) (.r 37)), (some (33, true)), []⟩, ⟨(some 39), .b (.bin .leq (.r 35) (.r 38)), (some (33, true)), []⟩, op 40 (.pick (.r 33) (.r 39) (.c (.bool false)))]) <|
        .cond (.r 40)
          (.ops [op 41 (.mov (.r 8)), op 42 (.fad 0 (.r 10)), op 43 (.fad 0 (.r 42)), op 44 (.ld 1 false (.r 43)), op 45 (.fad 0 (.r 10)), op 46 (.fad 1 (.r 45)), op 47 (.ld 1 false (.r 46)), op 48 (.build [.str ⟨#[]⟩, .int .u64 0] [(0, 1, (.r 44)), (1, 1, (.r 47))]), op 49 (.bsl 1 [.str ⟨#[]⟩, .int .u64 0] [(0, (.r 48))]), op 50 (.app 2 24 false (.r 41) (.r 49)), op 8 (.mov (.r 50))])
          (.skip))) <|
      .ops [op 51 (.bin .add (.r 26) (.c (.int .i64 1))), op 26 (.mov (.r 51))]))) <|
  sq (.ops [op 52 (.mov (.r 8)), op 6 (.mov (.r 52)), op 7 (.mov (.c (.int .i64 0)))]) <|
  .ret⟩
def an14 : An := ⟨[], [(9, [(0, true), (1, true), (2, true), (3, true), (4, true), (5, false), (6, true), (7, true), (8, true), (9, true), (10, true), (11, true), (12, true), (13, true), (14, true), (15, true), (16, true), (17, true)])]⟩
def ir14 : Go.Rmp.Fn := ⟨70, 3, [.t 6, .t 7],
  sq (.ops [op 6 (.mov (.c (.sl .nil []))), op 7 (.mov (.c (.int .i64 0)))]) <|
  sq (sq (.ops [op 12 (.mov (.r 0)), op 13 (.eqr false .ptr (.r 12) (.c .nilp)), op 14 (.mov (.r 13)), ⟨(some 15), .b (.mov (.r 1)), (some (14, false)), []⟩, ⟨(some 16), .b (.bin .lss (.r 15) (.c (.int .i64 0))), (some (14, false)), []⟩, op 17 (.pick (.r 14) (.c (.bool true)) (.r 16)), op 18 (.mov (.r 17)), ⟨(some 19), .b (.mov (.r 1)), (some (18, false)), []⟩, ⟨(some 20), .b (.bin .gtr (.r 19) (.c (.int .i64 1099511627776))), (some (18, false)), []⟩, op 21 (.pick (.r 18) (.c (.bool true)) (.r 20)), op 22 (.mov (.r 21)), ⟨(some 23), .b (.mov (.r 2)), (some (22, false)), []⟩, ⟨(some 24), .b (.bin .lss (.r 23) (.c (.int .i64 0))), (some (22, false)), []⟩, op 25 (.pick (.r 22) (.c (.bool true)) (.r 24)), op 26 (.mov (.r 25)), ⟨(some 27), .b (.mov (.r 2)), (some (26, false)), []⟩, ⟨(some 28), .b (.bin .gtr (.r 27) (.c (.int .i64 1048576))), (some (26, false)), []⟩, op 29 (.pick (.r 26) (.c (.bool true)) (.r 28))]) <|
  .cond (.r 29)
    (sq (.ops [op 6 (.mov (.c (.sl .nil []))), op 7 (.mov (.c (.int .i64 1)))]) <|
    .ret)
    (.skip)) <|
  sq (.ops [op 8 (.mov (.c (.sl .nil [])))]) <|
  sq (.ops [op 30 (.mov (.r 0)), cl 31 20 [(.r 30)], op 9 (.mov (.r 31))]) <|
  sq (sq (.ops [op 10 (.mov (.c (.int .i64 0)))]) <|
  .block 0 (
    .loop (
      sq (sq (.ops [op 32 (.mov (.r 10)), op 33 (.mov (.r 9)), op 34 (.len .sl (.r 33)), op 35 (.bin .lss (.r 32) (.r 34))]) <|
      .cond (.r 35)
        (.skip)
        (.exit 0)) <|
      sq (.block 1 (
        sq (.ops [op 38 (.mov (.r 9)), op 39 (.mov (.r 10)), op 40 (.iad 5 (.r 38) (.r 39)), op 41 (.fad 0 (.r 40)), op 42 (.ld 4 true (.r 41)), op 11 (.alloc [.str ⟨#[]⟩, .int .u64 0, .str ⟨#[]⟩, .sl .nil []]), ef (.st 4 (.r 11) (.r 42))]) <|
        sq (.ops [op 43 (.fad 1 (.r 11)), op 44 (.ld 1 false (.r 43)), op 45 (.mov (.r 0)), op 46 (.fad 0 (.r 11)), op 47 (.ld 1 false (.r 46)), ⟨(some 48), .call 35 [(.r 45), (.r 47)], none, [⟨44, .ld 1 false (.r 43), none⟩]⟩, op 49 (.bin .lss (.r 44) (.r 48)), op 50 (.mov (.r 49)), ⟨(some 51), .b (.mov (.r 9)), (some (50, true)), []⟩, ⟨(some 52), .b (.mov (.r 10)), (some (50, true)), []⟩, ⟨(some 53), .b (.iad 5 (.r 51) (.r 52)), (some (50, true)), []⟩, ⟨(some 54), .b (.fad 4 (.r 53)), (some (50, true)), []⟩, ⟨(some 55), .b (.ld 1 false (.r 54)), (some (50, true)), []⟩, ⟨(some 56), .b (.mov (.r 1)), (some (50, true)), []⟩, ⟨(some 57), .b (.mov (.r 2)), (some (50, true)), []⟩, ⟨(some 58), .b (.bin .sub (.r 56) (.r 57)), (some (50, true)), []⟩, ⟨(some 59), .b (.bin .leq (.r 55) (.r 58)), (some (50, true)), []⟩, op 60 (.pick (.r 50) (.r 59) (.c (.bool false)))]) <|
        .cond (.r 60)
          (.ops [op 61 (.mov (.r 8)), op 62 (.fad 0 (.r 11)), op 63 (.ld 1 false (.r 62)), op 64 (.fad 1 (.r 11)), op 65 (.ld 1 false (.r 64)), op 66 (.build [.str ⟨#[]⟩, .int .u64 0] [(0, 1, (.r 63)), (1, 1, (.r 65))]), op 67 (.bsl 1 [.str ⟨#[]⟩, .int .u64 0] [(0, (.r 66))]), op 68 (.app 2 24 false (.r 61) (.r 67)), op 8 (.mov (.r 68))])
          (.skip))) <|
      .ops [op 36 (.mov (.r 10)), op 37 (.bin .add (.r 36) (.c (.int .i64 1))), op 10 (.mov (.r 37))]))) <|
  sq (.ops [op 69 (.mov (.r 8)), op 6 (.mov (.r 69)), op 7 (.mov (.c (.int .i64 0)))]) <|
  .ret⟩
def an15 : An := ⟨[], []⟩
def ir15 : Go.Rmp.Fn := ⟨47, 2, [.t 4, .t 5, .t 6],
  sq (.ops [op 4 (.mov (.c (.int .i64 0))), op 5 (.mov (.c (.bool false))), op 6 (.mov (.c (.int .i64 0)))]) <|
  sq (sq (.ops [op 11 (.mov (.r 0)), op 12 (.eqr false .ptr (.r 11) (.c .nilp)), op 13 (.mov (.r 12)), ⟨(some 14), .b (.mov (.r 1)), (some (13, false)), []⟩, ⟨(some 15), .call 39 [(.r 14)], (some (13, false)), []⟩, ⟨(some 16), .b (.un .not (.r 15)), (some (13, false)), []⟩, op 17 (.pick (.r 13) (.c (.bool true)) (.r 16))]) <|
  .cond (.r 17)
    (sq (.ops [op 4 (.mov (.c (.int .i64 0))), op 5 (.mov (.c (.bool false))), op 6 (.mov (.c (.int .i64 1)))]) <|
    .ret)
    (.skip)) <|
  sq (.ops [op 7 (.mov (.c (.int .i64 0))), op 8 (.mov (.c (.bool false)))]) <|
  sq (sq (.ops [op 18 (.mov (.r 0)), cl 19 19 [(.r 18)], op 20 (.len .sl (.r 19)), op 21 (.mov (.c (.int .i64 0)))]) <|
  .block 0 (
    .loop (
      sq (.ops [op 22 (.bin .lss (.r 21) (.r 20))]) <|
      sq (.cond (.r 22)
        (.skip)
        (.exit 0)) <|
      sq (.block 1 (
        sq (.ops [op 23 (.iad 5 (.r 19) (.r 21)), op 24 (.ld 5 true (.r 23)), op 10 (.alloc [.str ⟨#[]⟩, .int .u64 0, .str ⟨#[]⟩, .sl .nil [], .int .i64 0]), ef (.st 5 (.r 10) (.r 24))]) <|
        sq (.ops [op 25 (.fad 4 (.r 10)), op 26 (.ld 1 false (.r 25)), op 27 (.bin .geq (.r 26) (.c (.int .i64 0))), op 28 (.mov (.r 27)), ⟨(some 29), .b (.mov (.r 8)), (some (28, true)), []⟩, ⟨(some 30), .b (.un .not (.r 29)), (some (28, true)), []⟩, ⟨(some 31), .b (.mov (.r 30)), (some (28, true)), []⟩, ⟨(some 32), .b (.fad 4 (.r 10)), (some (31, false)), []⟩, ⟨(some 33), .b (.ld 1 false (.r 32)), (some (31, false)), []⟩, ⟨(some 34), .b (.mov (.r 1)), (some (31, false)), []⟩, ⟨(some 35), .b (.bin .add (.r 33) (.r 34)), (some (31, false)), []⟩, ⟨(some 36), .b (.mov (.r 7)), (some (31, false)), []⟩, ⟨(some 37), .b (.bin .lss (.r 35) (.r 36)), (some (31, false)), []⟩, ⟨(some 38), .b (.pick (.r 31) (.c (.bool true)) (.r 37)), (some (28, true)), []⟩, op 39 (.pick (.r 28) (.r 38) (.c (.bool false)))]) <|
        .cond (.r 39)
          (.ops [op 40 (.fad 4 (.r 10)), op 41 (.ld 1 false (.r 40)), op 42 (.mov (.r 1)), op 43 (.bin .add (.r 41) (.r 42)), op 7 (.mov (.r 43)), op 8 (.mov (.c (.bool true)))])
          (.skip))) <|
      .ops [op 44 (.bin .add (.r 21) (.c (.int .i64 1))), op 21 (.mov (.r 44))]))) <|
  sq (.ops [op 45 (.mov (.r 7)), op 46 (.mov (.r 8)), op 4 (.mov (.r 45)), op 5 (.mov (.r 46)), op 6 (.mov (.c (.int .i64 0)))]) <|
  .ret⟩
def an16 : An := ⟨[], [(10, [(0, true), (1, true), (2, true), (3, true), (4, true), (5, false), (6, true), (7, true), (8, true), (9, true), (10, true), (11, true), (12, true), (13, true), (14, true), (15, true), (16, true), (17, true), (18, true), (19, true), (20, true), (21, true)])]⟩
def ir16 : Go.Rmp.Fn := ⟨66, 2, [.t 4, .t 5, .t 6],
  sq (.ops [op 4 (.mov (.c (.int .i64 0))), op 5 (.mov (.c (.bool false))), op 6 (.mov (.c (.int .i64 0)))]) <|
  sq (sq (.ops [op 12 (.mov (.r 0)), op 13 (.eqr false .ptr (.r 12) (.c .nilp)), op 14 (.mov (.r 13)), ⟨(some 15), .b (.mov (.r 1)), (some (14, false)), []⟩, ⟨(some 16), .b (.bin .lss (.r 15) (.c (.int .i64 0))), (some (14, false)), []⟩, op 17 (.pick (.r 14) (.c (.bool true)) (.r 16)), op 18 (.mov (.r 17)), ⟨(some 19), .b (.mov (.r 1)), (some (18, false)), []⟩, ⟨(some 20), .b (.bin .gtr (.r 19) (.c (.int .i64 1048576))), (some (18, false)), []⟩, op 21 (.pick (.r 18) (.c (.bool true)) (.r 20))]) <|
  .cond (.r 21)
    (sq (.ops [op 4 (.mov (.c (.int .i64 0))), op 5 (.mov (.c (.bool false))), op 6 (.mov (.c (.int .i64 1)))]) <|
    .ret)
    (.skip)) <|
  sq (.ops [op 22 (.mov (.r 0)), cl 23 20 [(.r 22)], op 7 (.mov (.r 23))]) <|
  sq (.ops [op 8 (.mov (.c (.int .i64 0)))]) <|
  sq (.ops [op 9 (.mov (.c (.bool false)))]) <|
  sq (sq (.ops [op 10 (.mov (.c (.int .i64 0)))]) <|
  .block 0 (
    .loop (
      sq (sq (.ops [op 24 (.mov (.r 10)), op 25 (.mov (.r 7)), op 26 (.len .sl (.r 25)), op 27 (.bin .lss (.r 24) (.r 26))]) <|
      .cond (.r 27)
        (.skip)
        (.exit 0)) <|
      sq (.block 1 (
        sq (.ops [op 30 (.mov (.r 7)), op 31 (.mov (.r 10)), op 32 (.iad 5 (.r 30) (.r 31)), op 33 (.fad 0 (.r 32)), op 34 (.ld 4 true (.r 33)), op 11 (.alloc [.str ⟨#[]⟩, .int .u64 0, .str ⟨#[]⟩, .sl .nil []]), ef (.st 4 (.r 11) (.r 34))]) <|
        sq (.ops [op 35 (.fad 1 (.r 11)), op 36 (.ld 1 false (.r 35)), op 37 (.mov (.r 0)), op 38 (.fad 0 (.r 11)), op 39 (.ld 1 false (.r 38)), ⟨(some 40), .call 35 [(.r 37), (.r 39)], none, [⟨36, .ld 1 false (.r 35), none⟩]⟩, op 41 (.bin .lss (.r 36) (.r 40)), op 42 (.mov (.r 41)), ⟨(some 43), .b (.mov (.r 9)), (some (42, true)), []⟩, ⟨(some 44), .b (.un .not (.r 43)), (some (42, true)), []⟩, ⟨(some 45), .b (.mov (.r 44)), (some (42, true)), []⟩, ⟨(some 46), .b (.mov (.r 7)), (some (45, false)), []⟩, ⟨(some 47), .b (.mov (.r 10)), (some (45, false)), []⟩, ⟨(some 48), .b (.iad 5 (.r 46) (.r 47)), (some (45, false)), []⟩, ⟨(some 49), .b (.fad 4 (.r 48)), (some (45, false)), []⟩, ⟨(some 50), .b (.ld 1 false (.r 49)), (some (45, false)), []⟩, ⟨(some 51), .b (.mov (.r 1)), (some (45, false)), []⟩, ⟨(some 52), .b (.bin .add (.r 50) (.r 51)), (some (45, false)), []⟩, ⟨(some 53), .b (.mov (.r 8)), (some (45, false)), []⟩, ⟨(some 54), .b (.bin .lss (.r 52) (.r 53)), (some (45, false)), []⟩, ⟨(some 55), .b (.pick (.r 45) (.c (.bool true)) (.r 54)), (some (42, true)), []⟩, op 56 (.pick (.r 42) (.r 55) (.c (.bool false)))]) <|
        .cond (.r 56)
          (sq (.ops [op 57 (.mov (.r 7)), op 58 (.mov (.r 10)), op 59 (.iad 5 (.r 57) (.r 58)), op 60 (.fad 4 (.r 59)), op 61 (.ld 1 false (.r 60)), op 62 (.mov (.r 1)), op 63 (.bin .add (.r 61) (.r 62)), op 8 (.mov (.r 63))]) <|
          .ops [op 9 (.mov (.c (.bool true)))])
          (.skip))) <|
      .ops [op 28 (.mov (.r 10)), op 29 (.bin .add (.r 28) (.c (.int .i64 1))), op 10 (.mov (.r 29))]))) <|
  sq (.ops [op 64 (.mov (.r 8)), op 65 (.mov (.r 9)), op 4 (.mov (.r 64)), op 5 (.mov (.r 65)), op 6 (.mov (.c (.int .i64 0)))]) <|
  .ret⟩
def an17 : An := ⟨[], [(6, [(0, true), (1, true), (2, true), (3, true), (4, true), (5, true), (6, true), (7, true), (8, true)])]⟩
def ir17 : Go.Rmp.Fn := ⟨26, 2, [.t 4],
  sq (.ops [op 4 (.mov (.c (.bool false)))]) <|
  sq (sq (.ops [op 6 (.mov (.r 0)), op 7 (.len .sl (.r 6)), op 8 (.mov (.r 1)), op 9 (.len .sl (.r 8)), op 10 (.bin .neq (.r 7) (.r 9))]) <|
  .cond (.r 10)
    (sq (.ops [op 4 (.mov (.c (.bool false)))]) <|
    .ret)
    (.skip)) <|
  sq (sq (.ops [op 5 (.mov (.c (.int .i64 0)))]) <|
  .block 0 (
    .loop (
      sq (sq (.ops [op 11 (.mov (.r 5)), op 12 (.mov (.r 0)), op 13 (.len .sl (.r 12)), op 14 (.bin .lss (.r 11) (.r 13))]) <|
      .cond (.r 14)
        (.skip)
        (.exit 0)) <|
      sq (.block 1 (
        sq (.ops [op 17 (.mov (.r 0)), op 18 (.mov (.r 5)), op 19 (.iad 2 (.r 17) (.r 18)), op 20 (.ld 2 true (.r 19)), op 21 (.mov (.r 1)), op 22 (.mov (.r 5)), op 23 (.iad 2 (.r 21) (.r 22)), op 24 (.ld 2 true (.r 23)), op 25 (.eqs true [.str, .int] (.r 20) (.r 24))]) <|
        .cond (.r 25)
          (sq (.ops [op 4 (.mov (.c (.bool false)))]) <|
          .ret)
          (.skip))) <|
      .ops [op 15 (.mov (.r 5)), op 16 (.bin .add (.r 15) (.c (.int .i64 1))), op 5 (.mov (.r 16))]))) <|
  sq (.ops [op 4 (.mov (.c (.bool true)))]) <|
  .ret⟩
def an18 : An := ⟨[], [(6, [(0, true), (1, true), (2, true), (3, true), (4, true), (5, true), (6, true), (7, true), (8, true), (9, true), (10, true), (11, true), (12, true), (13, true), (14, true), (15, true), (16, true), (17, true), (18, true), (19, true), (20, true), (21, true), (22, false), (23, true), (24, true)])]⟩
def ir18 : Go.Rmp.Fn := ⟨42, 2, [.t 4],
  sq (.ops [op 4 (.mov (.c (.bool false)))]) <|
  sq (sq (.ops [op 6 (.mov (.r 0)), op 7 (.len .sl (.r 6)), op 8 (.mov (.r 1)), op 9 (.len .sl (.r 8)), op 10 (.bin .neq (.r 7) (.r 9))]) <|
  .cond (.r 10)
    (sq (.ops [op 4 (.mov (.c (.bool false)))]) <|
    .ret)
    (.skip)) <|
  sq (sq (.ops [op 5 (.mov (.c (.int .i64 0)))]) <|
  .block 0 (
    .loop (
      sq (sq (.ops [op 11 (.mov (.r 5)), op 12 (.mov (.r 0)), op 13 (.len .sl (.r 12)), op 14 (.bin .lss (.r 11) (.r 13))]) <|
      .cond (.r 14)
        (.skip)
        (.exit 0)) <|
      sq (.block 1 (
        sq (.ops [op 17 (.mov (.r 0)), op 18 (.mov (.r 5)), op 19 (.iad 5 (.r 17) (.r 18)), op 20 (.fad 4 (.r 19)), op 21 (.ld 1 false (.r 20)), op 22 (.mov (.r 1)), op 23 (.mov (.r 5)), op 24 (.iad 5 (.r 22) (.r 23)), op 25 (.fad 4 (.r 24)), op 26 (.ld 1 false (.r 25)), op 27 (.bin .neq (.r 21) (.r 26)), op 28 (.mov (.r 27)), ⟨(some 29), .b (.mov (.r 0)), (some (28, false)), []⟩, ⟨(some 30), .b (.mov (.r 5)), (some (28, false)), []⟩, ⟨(some 31), .b (.iad 5 (.r 29) (.r 30)), (some (28, false)), []⟩, ⟨(some 32), .b (.fad 0 (.r 31)), (some (28, false)), []⟩, ⟨(some 33), .b (.ld 4 true (.r 32)), (some (28, false)), []⟩, ⟨(some 34), .b (.mov (.r 1)), (some (28, false)), []⟩, ⟨(some 35), .b (.mov (.r 5)), (some (28, false)), []⟩, ⟨(some 36), .b (.iad 5 (.r 34) (.r 35)), (some (28, false)), []⟩, ⟨(some 37), .b (.fad 0 (.r 36)), (some (28, false)), []⟩, ⟨(some 38), .b (.ld 4 true (.r 37)), (some (28, false)), []⟩, ⟨(some 39), .call 40 [(.r 33), (.r 38)], (some (28, false)), []⟩, ⟨(some 40), .b (.un .not (.r 39)), (some (28, false)), []⟩, op 41 (.pick (.r 28) (.c (.bool true)) (.r 40))]) <|
        .cond (.r 41)
          (sq (.ops [op 4 (.mov (.c (.bool false)))]) <|
          .ret)
          (.skip))) <|
      .ops [op 15 (.mov (.r 5)), op 16 (.bin .add (.r 15) (.c (.int .i64 1))), op 5 (.mov (.r 16))]))) <|
  sq (.ops [op 4 (.mov (.c (.bool true)))]) <|
  .ret⟩
def an19 : An := ⟨[], [(5, [(0, true), (1, true), (2, true), (4, true), (5, true), (6, true), (7, true), (8, true), (9, true), (10, true), (3, false), (11, true), (12, true), (13, false), (14, false)])]⟩
def ir19 : Go.Rmp.Fn := ⟨33, 1, [.t 2],
  sq (.ops [op 2 (.mov (.c (.sl .nil [])))]) <|
  sq (.ops [op 3 (.mov (.c (.sl .nil [])))]) <|
  sq (sq (.ops [op 6 (.mov (.r 0)), op 7 (.nilc (.r 6)), op 8 (.fad 0 (.r 7)), op 9 (.ld 1 false (.r 8)), cl 10 42 [(.r 9)], cl 11 41 [(.r 10), (.c (.fn 43 []))], op 12 (.len .sl (.r 11)), op 13 (.mov (.c (.int .i64 0)))]) <|
  .block 0 (
    .loop (
      sq (.ops [op 14 (.bin .lss (.r 13) (.r 12))]) <|
      sq (.cond (.r 14)
        (.skip)
        (.exit 0)) <|
      sq (.block 1 (
        sq (.ops [op 15 (.iad 2 (.r 11) (.r 13)), op 16 (.ld 2 true (.r 15)), op 5 (.alloc [.str ⟨#[]⟩, .int .u64 0]), ef (.st 2 (.r 5) (.r 16))]) <|
        .ops [op 17 (.mov (.r 3)), op 18 (.mov (.r 0)), op 19 (.ld 2 true (.r 5)), op 21 (.mov (.r 0)), op 22 (.nilc (.r 21)), op 23 (.fad 0 (.r 22)), op 24 (.ld 1 false (.r 23)), op 25 (.ld 2 true (.r 5)), op 26 (.lkp (.st [.str, .int]) (.agg [.str ⟨#[]⟩, .sl .nil [], .int .i64 0]) false (.r 24) (.r 25)), op 27 (.fld 2 1 false (.r 26)), ⟨(some 20), .call 44 [(.r 18), (.r 19)], none, [⟨24, .ld 1 false (.r 23), none⟩, ⟨25, .ld 2 true (.r 5), none⟩, ⟨26, .lkp (.st [.str, .int]) (.agg [.str ⟨#[]⟩, .sl .nil [], .int .i64 0]) false (.r 24) (.r 25), none⟩]⟩, op 28 (.build [.str ⟨#[]⟩, .int .u64 0, .str ⟨#[]⟩, .sl .nil [], .int .i64 0] [(0, 4, (.r 20)), (4, 1, (.r 27))]), op 29 (.bsl 1 [.str ⟨#[]⟩, .int .u64 0, .str ⟨#[]⟩, .sl .nil [], .int .i64 0] [(0, (.r 28))]), op 30 (.app 5 72 false (.r 17) (.r 29)), op 3 (.mov (.r 30))])) <|
      .ops [op 31 (.bin .add (.r 13) (.c (.int .i64 1))), op 13 (.mov (.r 31))]))) <|
  sq (.ops [op 32 (.mov (.r 3)), op 2 (.mov (.r 32))]) <|
  .ret⟩
def an20 : An := ⟨[], [(5, [(0, true), (1, true), (2, true), (3, true), (4, true), (5, true), (6, true), (7, true), (8, true), (10, true), (11, true), (12, true), (13, true), (14, true), (15, true), (16, true), (17, true), (9, false), (18, true), (19, true), (20, false), (21, false)])]⟩
def ir20 : Go.Rmp.Fn := ⟨36, 1, [.t 2],
  sq (.ops [op 2 (.mov (.c (.sl .nil [])))]) <|
  sq (.ops [op 3 (.mov (.c (.sl .nil [])))]) <|
  sq (sq (.ops [op 4 (.mov (.c (.int .i64 0)))]) <|
  .block 0 (
    .loop (
      sq (sq (.ops [op 5 (.mov (.r 4)), op 6 (.mov (.r 0)), op 7 (.nilc (.r 6)), op 8 (.fad 0 (.r 7)), op 9 (.ld 1 false (.r 8)), op 10 (.len .sl (.r 9)), op 11 (.bin .lss (.r 5) (.r 10))]) <|
      .cond (.r 11)
        (.skip)
        (.exit 0)) <|
      sq (.block 1 (
        .ops [op 14 (.mov (.r 3)), op 15 (.mov (.r 0)), op 16 (.nilc (.r 15)), op 17 (.fad 0 (.r 16)), op 18 (.ld 1 false (.r 17)), op 19 (.mov (.r 4)), op 20 (.iad 5 (.r 18) (.r 19)), op 21 (.fad 0 (.r 20)), op 22 (.ld 4 true (.r 21)), op 24 (.mov (.r 0)), op 25 (.nilc (.r 24)), op 26 (.fad 0 (.r 25)), op 27 (.ld 1 false (.r 26)), op 28 (.mov (.r 4)), op 29 (.iad 5 (.r 27) (.r 28)), op 30 (.fad 4 (.r 29)), op 31 (.ld 1 false (.r 30)), ⟨(some 23), .call 45 [(.r 22)], none, [⟨27, .ld 1 false (.r 26), none⟩, ⟨31, .ld 1 false (.r 30), none⟩]⟩, op 32 (.build [.str ⟨#[]⟩, .int .u64 0, .str ⟨#[]⟩, .sl .nil [], .int .i64 0] [(0, 4, (.r 23)), (4, 1, (.r 31))]), op 33 (.bsl 1 [.str ⟨#[]⟩, .int .u64 0, .str ⟨#[]⟩, .sl .nil [], .int .i64 0] [(0, (.r 32))]), op 34 (.app 5 72 false (.r 14) (.r 33)), op 3 (.mov (.r 34))])) <|
      .ops [op 12 (.mov (.r 4)), op 13 (.bin .add (.r 12) (.c (.int .i64 1))), op 4 (.mov (.r 13))]))) <|
  sq (.ops [op 35 (.mov (.r 3)), op 2 (.mov (.r 35))]) <|
  .ret⟩
def an21 : An := ⟨[], []⟩
def ir21 : Go.Rmp.Fn := ⟨34, 3, [.t 6, .t 7],
  sq (.ops [op 6 (.mov (.c (.sl .nil []))), op 7 (.mov (.c (.int .i64 0)))]) <|
  sq (.ops [op 13 (.mov (.r 0)), op 14 (.mov (.r 1)), op 15 (.mov (.r 2)), cl 16 13 [(.r 13), (.r 14), (.r 15)], op 12 (.mov (.r 16)), op 17 (.ext 0 (.r 12)), op 18 (.ext 1 (.r 12)), op 8 (.mov (.r 17)), op 9 (.mov (.r 18))]) <|
  sq (sq (.ops [op 19 (.mov (.r 8)), op 20 (.len .sl (.r 19)), op 21 (.mov (.c (.int .i64 0)))]) <|
  .block 0 (
    .loop (
      sq (.ops [op 22 (.bin .lss (.r 21) (.r 20))]) <|
      sq (.cond (.r 22)
        (.skip)
        (.exit 0)) <|
      sq (.block 1 (
        sq (.ops [op 23 (.iad 2 (.r 19) (.r 21)), op 24 (.ld 2 true (.r 23)), op 11 (.alloc [.str ⟨#[]⟩, .int .u64 0]), ef (.st 2 (.r 11) (.r 24))]) <|
        .ops [op 25 (.mov (.r 0)), op 26 (.fad 0 (.r 11)), op 27 (.ld 1 false (.r 26)), op 28 (.fad 1 (.r 11)), op 29 (.ld 1 false (.r 28)), cl 30 46 [(.r 25), (.r 27), (.r 29)]])) <|
      .ops [op 31 (.bin .add (.r 21) (.c (.int .i64 1))), op 21 (.mov (.r 31))]))) <|
  sq (.ops [op 32 (.mov (.r 8)), op 33 (.mov (.r 9)), op 6 (.mov (.r 32)), op 7 (.mov (.r 33))]) <|
  .ret⟩
def an22 : An := ⟨[], [(5, [(0, true), (1, true), (2, true), (3, true), (4, true), (5, true), (6, true), (7, true), (8, true), (9, true), (10, true), (11, false)])]⟩
def ir22 : Go.Rmp.Fn := ⟨38, 3, [.t 6, .t 7],
  sq (.ops [op 6 (.mov (.c (.sl .nil []))), op 7 (.mov (.c (.int .i64 0)))]) <|
  sq (.ops [op 12 (.mov (.r 0)), op 13 (.mov (.r 1)), op 14 (.mov (.r 2)), cl 15 14 [(.r 12), (.r 13), (.r 14)], op 11 (.mov (.r 15)), op 16 (.ext 0 (.r 11)), op 17 (.ext 1 (.r 11)), op 8 (.mov (.r 16)), op 9 (.mov (.r 17))]) <|
  sq (sq (.ops [op 10 (.mov (.c (.int .i64 0)))]) <|
  .block 0 (
    .loop (
      sq (sq (.ops [op 18 (.mov (.r 10)), op 19 (.mov (.r 8)), op 20 (.len .sl (.r 19)), op 21 (.bin .lss (.r 18) (.r 20))]) <|
      .cond (.r 21)
        (.skip)
        (.exit 0)) <|
      sq (.block 1 (
        .ops [op 24 (.mov (.r 0)), op 25 (.mov (.r 8)), op 26 (.mov (.r 10)), op 27 (.iad 2 (.r 25) (.r 26)), op 28 (.fad 0 (.r 27)), op 29 (.ld 1 false (.r 28)), op 30 (.mov (.r 8)), op 31 (.mov (.r 10)), op 32 (.iad 2 (.r 30) (.r 31)), op 33 (.fad 1 (.r 32)), op 34 (.ld 1 false (.r 33)), cl 35 47 [(.r 24), (.r 29), (.r 34)]])) <|
      .ops [op 22 (.mov (.r 10)), op 23 (.bin .add (.r 22) (.c (.int .i64 1))), op 10 (.mov (.r 23))]))) <|
  sq (.ops [op 36 (.mov (.r 8)), op 37 (.mov (.r 9)), op 6 (.mov (.r 36)), op 7 (.mov (.r 37))]) <|
  .ret⟩
def an23 : An := ⟨[], [(6, [(0, true), (1, true), (2, true), (3, true), (4, true), (5, true), (6, true), (7, true), (8, true)])]⟩
def ir23 : Go.Rmp.Fn := ⟨26, 2, [.t 4],
  sq (.ops [op 4 (.mov (.c (.bool false)))]) <|
  sq (sq (.ops [op 6 (.mov (.r 0)), op 7 (.len .sl (.r 6)), op 8 (.mov (.r 1)), op 9 (.len .sl (.r 8)), op 10 (.bin .neq (.r 7) (.r 9))]) <|
  .cond (.r 10)
    (sq (.ops [op 4 (.mov (.c (.bool false)))]) <|
    .ret)
    (.skip)) <|
  sq (sq (.ops [op 5 (.mov (.c (.int .i64 0)))]) <|
  .block 0 (
    .loop (
      sq (sq (.ops [op 11 (.mov (.r 5)), op 12 (.mov (.r 0)), op 13 (.len .sl (.r 12)), op 14 (.bin .lss (.r 11) (.r 13))]) <|
      .cond (.r 14)
        (.skip)
        (.exit 0)) <|
      sq (.block 1 (
        sq (.ops [op 17 (.mov (.r 0)), op 18 (.mov (.r 5)), op 19 (.iad 2 (.r 17) (.r 18)), op 20 (.ld 2 true (.r 19)), op 21 (.mov (.r 1)), op 22 (.mov (.r 5)), op 23 (.iad 2 (.r 21) (.r 22)), op 24 (.ld 2 true (.r 23)), op 25 (.eqs true [.str, .int] (.r 20) (.r 24))]) <|
        .cond (.r 25)
          (sq (.ops [op 4 (.mov (.c (.bool false)))]) <|
          .ret)
          (.skip))) <|
      .ops [op 15 (.mov (.r 5)), op 16 (.bin .add (.r 15) (.c (.int .i64 1))), op 5 (.mov (.r 16))]))) <|
  sq (.ops [op 4 (.mov (.c (.bool true)))]) <|
  .ret⟩
def an24 : An := ⟨[], []⟩
def ir24 : Go.Rmp.Fn := ⟨30, 1, [.t 2],
  sq (.ops [op 2 (.mov (.c (.sl .nil [])))]) <|
  sq (.ops [op 3 (.mov (.c (.sl .nil [])))]) <|
  sq (sq (.ops [op 6 (.mov (.r 0)), op 7 (.nilc (.r 6)), op 8 (.fad 3 (.r 7)), op 9 (.ld 1 false (.r 8)), cl 10 49 [(.r 9)], cl 11 48 [(.r 10)], op 12 (.len .sl (.r 11)), op 13 (.mov (.c (.int .i64 0)))]) <|
  .block 0 (
    .loop (
      sq (.ops [op 14 (.bin .lss (.r 13) (.r 12))]) <|
      sq (.cond (.r 14)
        (.skip)
        (.exit 0)) <|
      sq (.block 1 (
        sq (.ops [op 15 (.iad 1 (.r 11) (.r 13)), op 16 (.ld 1 false (.r 15)), op 5 (.mov (.r 16))]) <|
        .ops [op 17 (.mov (.r 3)), op 18 (.mov (.r 5)), op 19 (.mov (.r 0)), op 20 (.nilc (.r 19)), op 21 (.fad 3 (.r 20)), op 22 (.ld 1 false (.r 21)), op 23 (.mov (.r 5)), op 24 (.lkp (.sc .str) (.int .u64 0) false (.r 22) (.r 23)), op 25 (.build [.str ⟨#[]⟩, .int .u64 0] [(0, 1, (.r 18)), (1, 1, (.r 24))]), op 26 (.bsl 1 [.str ⟨#[]⟩, .int .u64 0] [(0, (.r 25))]), op 27 (.app 2 24 false (.r 17) (.r 26)), op 3 (.mov (.r 27))])) <|
      .ops [op 28 (.bin .add (.r 13) (.c (.int .i64 1))), op 13 (.mov (.r 28))]))) <|
  sq (.ops [op 29 (.mov (.r 3)), op 2 (.mov (.r 29))]) <|
  .ret⟩
def an25 : An := ⟨[], []⟩
def ir25 : Go.Rmp.Fn := ⟨8, 1, [.t 2],
  sq (.ops [op 2 (.mov (.c (.sl .nil [])))]) <|
  sq (.ops [op 3 (.mov (.r 0)), op 4 (.nilc (.r 3)), op 5 (.fad 1 (.r 4)), op 6 (.ld 1 false (.r 5)), op 7 (.app 2 24 false (.c (.sl .nil [])) (.r 6)), op 2 (.mov (.r 7))]) <|
  .ret⟩
def an26 : An := ⟨[], []⟩
def ir26 : Go.Rmp.Fn := ⟨12, 2, [.t 4],
  sq (.ops [op 4 (.mov (.c (.int .i64 0)))]) <|
  sq (.ops [op 5 (.mov (.r 0)), op 6 (.nilc (.r 5)), op 7 (.fad 2 (.r 6)), op 8 (.ld 1 false (.r 7)), op 9 (.mov (.r 1)), op 10 (.lkp (.sc .int) (.sl .nil []) false (.r 8) (.r 9)), op 11 (.len .sl (.r 10)), op 4 (.mov (.r 11))]) <|
  .ret⟩
def an27 : An := ⟨[], []⟩
def ir27 : Go.Rmp.Fn := ⟨24, 1, [.t 2],
  sq (.ops [op 2 (.mov (.c (.sl .nil [])))]) <|
  sq (.ops [op 6 (.bsl 6 [.str ⟨#[]⟩] [(0, (.c (.str ⟨#[]⟩))), (1, (.c (.str ⟨#[97]⟩))), (2, (.c (.str ⟨#[98]⟩))), (3, (.c (.str ⟨#[99]⟩))), (4, (.c (.str ⟨#[100]⟩))), (5, (.c (.str ⟨#[101]⟩)))]), op 3 (.mov (.r 6))]) <|
  sq (.ops [op 4 (.mov (.c (.sl .nil [])))]) <|
  sq (sq (.ops [op 5 (.mov (.c (.int .i64 0)))]) <|
  .block 0 (
    .loop (
      sq (sq (.ops [op 7 (.mov (.r 5)), op 8 (.bin .lss (.r 7) (.c (.int .i64 6)))]) <|
      .cond (.r 8)
        (.skip)
        (.exit 0)) <|
      sq (.block 1 (
        sq (.ops [op 11 (.mov (.r 0)), op 12 (.mov (.r 5)), op 13 (.bin .shr (.r 11) (.r 12)), op 14 (.bin .and (.r 13) (.c (.int .u8 1))), op 15 (.bin .eql (.r 14) (.c (.int .u8 1)))]) <|
        .cond (.r 15)
          (.ops [op 16 (.mov (.r 4)), op 17 (.mov (.r 3)), op 18 (.mov (.r 5)), op 19 (.iad 1 (.r 17) (.r 18)), op 20 (.ld 1 false (.r 19)), op 21 (.bsl 1 [.str ⟨#[]⟩] [(0, (.r 20))]), op 22 (.app 1 16 false (.r 16) (.r 21)), op 4 (.mov (.r 22))])
          (.skip))) <|
      .ops [op 9 (.mov (.r 5)), op 10 (.bin .add (.r 9) (.c (.int .i64 1))), op 5 (.mov (.r 10))]))) <|
  sq (.ops [op 23 (.mov (.r 4)), op 2 (.mov (.r 23))]) <|
  .ret⟩
def an28 : An := ⟨[], [(6, [(0, true), (1, true), (2, true), (3, true), (4, true), (5, true), (6, true), (7, true), (8, true), (9, true), (10, true), (11, true), (12, true), (13, true), (14, true), (15, true), (16, true), (17, false), (18, true), (19, true), (20, true), (21, true), (22, true), (23, true), (24, true), (25, true)])]⟩
def ir28 : Go.Rmp.Fn := ⟨55, 3, [.t 6],
  sq (.ops [op 6 (.mov (.c (.bool false)))]) <|
  sq (sq (.ops [op 9 (.mov (.r 0)), op 10 (.bin .lss (.r 9) (.c (.int .u64 65536))), op 11 (.mov (.r 10)), ⟨(some 12), .b (.mov (.r 2)), (some (11, false)), []⟩, ⟨(some 13), .call 50 [(.r 12)], (some (11, false)), []⟩, ⟨(some 14), .b (.un .not (.r 13)), (some (11, false)), []⟩, op 15 (.pick (.r 11) (.c (.bool true)) (.r 14)), op 16 (.mov (.r 15)), ⟨(some 17), .b (.mov (.r 1)), (some (16, false)), []⟩, ⟨(some 18), .b (.len .sl (.r 17)), (some (16, false)), []⟩, ⟨(some 19), .b (.bin .lss (.r 18) (.c (.int .i64 1))), (some (16, false)), []⟩, op 20 (.pick (.r 16) (.c (.bool true)) (.r 19))]) <|
  .cond (.r 20)
    (sq (.ops [op 6 (.mov (.c (.bool false)))]) <|
    .ret)
    (.skip)) <|
  sq (sq (.ops [op 21 (.mov (.r 1)), op 22 (.len .sl (.r 21)), op 23 (.mov (.c (.int .i64 0)))]) <|
  .block 0 (
    .loop (
      sq (.ops [op 24 (.bin .lss (.r 23) (.r 22))]) <|
      sq (.cond (.r 24)
        (.skip)
        (.exit 0)) <|
      sq (.block 1 (
        sq (.ops [op 25 (.mov (.r 23)), op 26 (.iad 2 (.r 21) (.r 23)), op 27 (.ld 2 true (.r 26)), op 8 (.alloc [.str ⟨#[]⟩, .str ⟨#[]⟩]), op 7 (.mov (.r 25)), ef (.st 2 (.r 8) (.r 27))]) <|
        sq (.ops [op 28 (.mov (.r 7)), op 29 (.bin .gtr (.r 28) (.c (.int .i64 0))), op 30 (.mov (.r 29)), ⟨(some 31), .b (.fad 0 (.r 8)), (some (30, true)), []⟩, ⟨(some 32), .b (.ld 1 false (.r 31)), (some (30, true)), []⟩, ⟨(some 33), .b (.mov (.r 1)), (some (30, true)), []⟩, ⟨(some 34), .b (.mov (.r 7)), (some (30, true)), []⟩, ⟨(some 35), .b (.bin .sub (.r 34) (.c (.int .i64 1))), (some (30, true)), []⟩, ⟨(some 36), .b (.iad 2 (.r 33) (.r 35)), (some (30, true)), []⟩, ⟨(some 37), .b (.fad 0 (.r 36)), (some (30, true)), []⟩, ⟨(some 38), .b (.ld 1 false (.r 37)), (some (30, true)), []⟩, ⟨(some 39), .b (.bin .leq (.r 32) (.r 38)), (some (30, true)), []⟩, op 40 (.pick (.r 30) (.r 39) (.c (.bool false))), op 41 (.mov (.r 40)), ⟨(some 42), .b (.mov (.r 2)), (some (41, false)), []⟩, ⟨(some 43), .b (.fad 0 (.r 8)), (some (41, false)), []⟩, ⟨(some 44), .b (.ld 1 false (.r 43)), (some (41, false)), []⟩, ⟨(some 45), .call 51 [(.r 42), (.r 44)], (some (41, false)), []⟩, ⟨(some 46), .b (.un .not (.r 45)), (some (41, false)), []⟩, op 47 (.pick (.r 41) (.c (.bool true)) (.r 46)), op 48 (.mov (.r 47)), ⟨(some 49), .b (.fad 1 (.r 8)), (some (48, false)), []⟩, ⟨(some 50), .b (.ld 1 false (.r 49)), (some (48, false)), []⟩, ⟨(some 51), .b (.len .str (.r 50)), (some (48, false)), []⟩, ⟨(some 52), .b (.bin .gtr (.r 51) (.c (.int .i64 65535))), (some (48, false)), []⟩, op 53 (.pick (.r 48) (.c (.bool true)) (.r 52))]) <|
        .cond (.r 53)
          (sq (.ops [op 6 (.mov (.c (.bool false)))]) <|
          .ret)
          (.skip))) <|
      .ops [op 54 (.bin .add (.r 23) (.c (.int .i64 1))), op 23 (.mov (.r 54))]))) <|
  sq (.ops [op 6 (.mov (.c (.bool true)))]) <|
  .ret⟩
def an29 : An := ⟨[], []⟩
def ir29 : Go.Rmp.Fn := ⟨9, 1, [.t 2],
  sq (.ops [op 2 (.mov (.c (.bool false)))]) <|
  sq (.ops [op 3 (.mov (.r 0)), op 4 (.bin .geq (.r 3) (.c (.int .i64 0))), op 5 (.mov (.r 4)), ⟨(some 6), .b (.mov (.r 0)), (some (5, true)), []⟩, ⟨(some 7), .b (.bin .leq (.r 6) (.c (.int .i64 1099511627776))), (some (5, true)), []⟩, op 8 (.pick (.r 5) (.r 7) (.c (.bool false))), op 2 (.mov (.r 8))]) <|
  .ret⟩
def an30 : An := ⟨[(3, 16), (4, 16)], [(1, [(0, true), (1, true), (2, true), (3, true), (4, true), (5, true), (6, false)]), (2, [(0, true), (1, true), (2, true), (3, true), (4, true), (5, true), (6, true), (7, true), (8, true), (9, false), (10, true), (11, true), (12, true), (13, true), (14, true)]), (3, [(0, true), (1, true), (2, true), (3, true), (4, true), (5, true), (6, true), (7, true), (8, true), (9, true), (10, true), (11, true), (12, true), (13, true), (14, true), (15, true), (16, false), (17, false), (18, false)]), (4, [(0, true), (1, true), (2, true), (3, true), (4, true), (5, true), (6, true), (7, true), (8, true), (9, true), (10, true), (11, true), (12, true), (13, true), (14, true), (15, true), (16, false), (17, false)])]⟩
def ir30 : Go.Rmp.Fn := ⟨62, 3, [],
  sq (.ops [op 4 (.box (.r 1)), op 5 (.box (.r 2))]) <|
  sq (.ops [op 8 (.mov (.r 0)), op 9 (.nilc (.r 8)), op 10 (.fad 0 (.r 9)), op 11 (.ld 1 false (.r 10)), op 12 (.ld 2 true (.r 4)), op 13 (.ld 3 true (.r 5)), ef (.upm (.st [.str, .int]) (.r 11) (.r 12) (.r 13))]) <|
  sq (.ops [op 15 (.mov (.r 0)), op 16 (.nilc (.r 15)), op 17 (.fad 1 (.r 16)), op 18 (.ld 1 false (.r 17)), op 19 (.fad 0 (.r 4)), op 20 (.ld 1 false (.r 19)), op 21 (.lkp (.sc .str) (.sl .nil []) false (.r 18) (.r 20)), op 22 (.fad 1 (.r 4)), op 23 (.ld 1 false (.r 22)), cl 24 52 [(.r 21), (.r 23)], op 14 (.mov (.r 24)), op 25 (.ext 0 (.r 14)), op 26 (.ext 1 (.r 14)), op 6 (.mov (.r 25)), op 7 (.mov (.r 26))]) <|
  sq (.ops [op 27 (.mov (.r 0)), op 28 (.nilc (.r 27)), op 29 (.fad 1 (.r 28)), op 30 (.ld 1 false (.r 29)), op 31 (.fad 0 (.r 4)), op 32 (.ld 1 false (.r 31)), op 33 (.mov (.r 0)), op 34 (.nilc (.r 33)), op 35 (.fad 1 (.r 34)), op 36 (.ld 1 false (.r 35)), op 37 (.fad 0 (.r 4)), op 38 (.ld 1 false (.r 37)), op 39 (.lkp (.sc .str) (.sl .nil []) false (.r 36) (.r 38)), op 40 (.mov (.r 6)), op 41 (.fad 1 (.r 4)), op 42 (.ld 1 false (.r 41)), ⟨(some 43), .b (.bsm 1 [.int .u64 0] [(0, (.r 42))]), none, [⟨30, .ld 1 false (.r 29), none⟩, ⟨32, .ld 1 false (.r 31), none⟩, ⟨36, .ld 1 false (.r 35), none⟩, ⟨38, .ld 1 false (.r 37), none⟩, ⟨39, .lkp (.sc .str) (.sl .nil []) false (.r 36) (.r 38), none⟩]⟩, ⟨(some 44), .call 53 [(.r 39), (.r 40), (.r 43)], none, [⟨30, .ld 1 false (.r 29), none⟩, ⟨32, .ld 1 false (.r 31), none⟩]⟩, ef (.upm (.sc .str) (.r 30) (.r 32) (.r 44))]) <|
  .ops [op 45 (.mov (.r 0)), op 46 (.nilc (.r 45)), op 47 (.fad 2 (.r 46)), op 48 (.ld 1 false (.r 47)), op 49 (.fad 1 (.r 4)), op 50 (.ld 1 false (.r 49)), op 51 (.mov (.r 0)), op 52 (.nilc (.r 51)), op 53 (.fad 2 (.r 52)), op 54 (.ld 1 false (.r 53)), op 55 (.fad 1 (.r 4)), op 56 (.ld 1 false (.r 55)), op 57 (.lkp (.sc .int) (.sl .nil []) false (.r 54) (.r 56)), op 58 (.fad 0 (.r 4)), op 59 (.ld 1 false (.r 58)), op 60 (.bsl 1 [.str ⟨#[]⟩] [(0, (.r 59))]), ⟨(some 61), .b (.app 1 16 true (.r 57) (.r 60)), none, [⟨48, .ld 1 false (.r 47), none⟩, ⟨50, .ld 1 false (.r 49), none⟩]⟩, ef (.upm (.sc .int) (.r 48) (.r 50) (.r 61))]⟩
def an31 : An := ⟨[], []⟩
def ir31 : Go.Rmp.Fn := ⟨8, 1, [.t 2],
  sq (.ops [op 2 (.mov (.c (.sl .nil [])))]) <|
  sq (sq (.ops [op 3 (.mov (.r 0)), op 4 (.eqr false .slice (.r 3) (.c (.sl .nil [])))]) <|
  .cond (.r 4)
    (sq (.ops [op 2 (.mov (.c (.sl .nil [])))]) <|
    .ret)
    (.skip)) <|
  sq (.ops [op 5 (.bsl 0 [.str ⟨#[]⟩] []), op 6 (.mov (.r 0)), op 7 (.app 1 16 false (.r 5) (.r 6)), op 2 (.mov (.r 7))]) <|
  .ret⟩
def an32 : An := ⟨[], [(7, [(0, true), (1, true), (2, true), (3, false), (4, true), (5, true), (6, true), (7, true), (8, true), (9, true), (10, true), (11, true), (12, true), (13, true), (14, true), (15, true), (16, true), (17, true), (18, true), (19, true), (20, true), (21, true), (22, true), (23, true), (24, true), (25, true)])]⟩
def ir32 : Go.Rmp.Fn := ⟨58, 3, [.t 6],
  sq (.ops [op 6 (.mov (.c (.bool false)))]) <|
  sq (sq (.ops [op 9 (.mov (.r 0)), cl 10 36 [(.r 9)], op 11 (.un .not (.r 10)), op 12 (.mov (.r 11)), ⟨(some 13), .b (.mov (.r 2)), (some (12, false)), []⟩, ⟨(some 14), .call 54 [(.r 13)], (some (12, false)), []⟩, ⟨(some 15), .b (.un .not (.r 14)), (some (12, false)), []⟩, op 16 (.pick (.r 12) (.c (.bool true)) (.r 15)), op 17 (.mov (.r 16)), ⟨(some 18), .b (.mov (.r 1)), (some (17, false)), []⟩, ⟨(some 19), .b (.len .sl (.r 18)), (some (17, false)), []⟩, ⟨(some 20), .b (.bin .lss (.r 19) (.c (.int .i64 1))), (some (17, false)), []⟩, op 21 (.pick (.r 17) (.c (.bool true)) (.r 20))]) <|
  .cond (.r 21)
    (sq (.ops [op 6 (.mov (.c (.bool false)))]) <|
    .ret)
    (.skip)) <|
  sq (sq (.ops [op 7 (.mov (.c (.int .i64 0)))]) <|
  .block 0 (
    .loop (
      sq (sq (.ops [op 22 (.mov (.r 7)), op 23 (.mov (.r 1)), op 24 (.len .sl (.r 23)), op 25 (.bin .lss (.r 22) (.r 24))]) <|
      .cond (.r 25)
        (.skip)
        (.exit 0)) <|
      sq (.block 1 (
        sq (.ops [op 28 (.mov (.r 1)), op 29 (.mov (.r 7)), op 30 (.iad 2 (.r 28) (.r 29)), op 31 (.ld 2 true (.r 30)), op 8 (.alloc [.str ⟨#[]⟩, .str ⟨#[]⟩]), ef (.st 2 (.r 8) (.r 31))]) <|
        sq (.ops [op 32 (.mov (.r 2)), op 33 (.fad 0 (.r 8)), op 34 (.ld 1 false (.r 33)), cl 35 55 [(.r 32), (.r 34)], op 36 (.un .not (.r 35)), op 37 (.mov (.r 36)), ⟨(some 38), .b (.fad 1 (.r 8)), (some (37, false)), []⟩, ⟨(some 39), .b (.ld 1 false (.r 38)), (some (37, false)), []⟩, ⟨(some 40), .b (.len .str (.r 39)), (some (37, false)), []⟩, ⟨(some 41), .b (.bin .gtr (.r 40) (.c (.int .i64 65535))), (some (37, false)), []⟩, op 42 (.pick (.r 37) (.c (.bool true)) (.r 41)), op 43 (.mov (.r 42)), ⟨(some 44), .b (.mov (.r 7)), (some (43, false)), []⟩, ⟨(some 45), .b (.bin .gtr (.r 44) (.c (.int .i64 0))), (some (43, false)), []⟩, ⟨(some 46), .b (.mov (.r 45)), (some (43, false)), []⟩, ⟨(some 47), .b (.mov (.r 1)), (some (46, true)), []⟩, ⟨(some 48), .b (.mov (.r 7)), (some (46, true)), []⟩, ⟨(some 49), .b (.bin .sub (.r 48) (.c (.int .i64 1))), (some (46, true)), []⟩, ⟨(some 50), .b (.iad 2 (.r 47) (.r 49)), (some (46, true)), []⟩, ⟨(some 51), .b (.fad 0 (.r 50)), (some (46, true)), []⟩, ⟨(some 52), .b (.ld 1 false (.r 51)), (some (46, true)), []⟩, ⟨(some 53), .b (.fad 0 (.r 8)), (some (46, true)), []⟩, ⟨(some 54), .b (.ld 1 false (.r 53)), (some (46, true)), []⟩, ⟨(some 55), .b (.bin .geq (.r 52) (.r 54)), (some (46, true)), []⟩, ⟨(some 56), .b (.pick (.r 46) (.r 55) (.c (.bool false))), (some (43, false)), []⟩, op 57 (.pick (.r 43) (.c (.bool true)) (.r 56))]) <|
        .cond (.r 57)
          (sq (.ops [op 6 (.mov (.c (.bool false)))]) <|
          .ret)
          (.skip))) <|
      .ops [op 26 (.mov (.r 7)), op 27 (.bin .add (.r 26) (.c (.int .i64 1))), op 7 (.mov (.r 27))]))) <|
  sq (.ops [op 6 (.mov (.c (.bool true)))]) <|
  .ret⟩
def an33 : An := ⟨[], []⟩
def ir33 : Go.Rmp.Fn := ⟨9, 1, [.t 2],
  sq (.ops [op 2 (.mov (.c (.bool false)))]) <|
  sq (.ops [op 3 (.mov (.r 0)), op 4 (.bin .geq (.r 3) (.c (.int .i64 0))), op 5 (.mov (.r 4)), ⟨(some 6), .b (.mov (.r 0)), (some (5, true)), []⟩, ⟨(some 7), .b (.bin .leq (.r 6) (.c (.int .i64 1099511627776))), (some (5, true)), []⟩, op 8 (.pick (.r 5) (.r 7) (.c (.bool false))), op 2 (.mov (.r 8))]) <|
  .ret⟩
def an34 : An := ⟨[], [(4, [(0, true), (1, true), (2, true), (3, true), (4, true), (5, true), (6, true), (7, true), (8, true), (9, true), (10, true), (11, true), (12, true), (13, true), (14, true), (15, true), (16, true), (17, true), (18, true), (19, true), (20, true), (21, true), (22, true), (23, true), (24, true), (25, true), (26, true), (27, true), (28, true), (29, true), (30, true), (31, true), (32, true), (33, true), (34, true), (35, true)])]⟩
def ir34 : Go.Rmp.Fn := ⟨66, 3, [.t 6, .t 7],
  sq (.ops [op 6 (.mov (.c (.int .i64 0))), op 7 (.mov (.c (.bool false)))]) <|
  sq (.ops [op 8 (.mov (.c (.int .i64 0)))]) <|
  sq (.block 0 (
    .loop (
      sq (sq (.ops [op 9 (.mov (.r 8)), op 10 (.mov (.r 0)), op 11 (.nilc (.r 10)), op 12 (.fad 0 (.r 11)), op 13 (.ld 1 false (.r 12)), op 14 (.len .sl (.r 13)), op 15 (.bin .lss (.r 9) (.r 14)), op 16 (.mov (.r 15)), ⟨(some 17), .b (.mov (.r 0)), (some (16, true)), []⟩, ⟨(some 18), .b (.nilc (.r 17)), (some (16, true)), []⟩, ⟨(some 19), .b (.fad 0 (.r 18)), (some (16, true)), []⟩, ⟨(some 20), .b (.ld 1 false (.r 19)), (some (16, true)), []⟩, ⟨(some 21), .b (.mov (.r 8)), (some (16, true)), []⟩, ⟨(some 22), .b (.iad 5 (.r 20) (.r 21)), (some (16, true)), []⟩, ⟨(some 23), .b (.fad 0 (.r 22)), (some (16, true)), []⟩, ⟨(some 24), .b (.ld 4 true (.r 23)), (some (16, true)), []⟩, ⟨(some 25), .b (.mov (.r 1)), (some (16, true)), []⟩, ⟨(some 26), .b (.mov (.r 2)), (some (16, true)), []⟩, ⟨(some 27), .b (.build [.str ⟨#[]⟩, .int .u64 0, .str ⟨#[]⟩, .sl .nil []] [(0, 1, (.r 25)), (1, 1, (.r 26))]), (some (16, true)), []⟩, ⟨(some 28), .call 56 [(.r 24), (.r 27)], (some (16, true)), []⟩, op 29 (.pick (.r 16) (.r 28) (.c (.bool false)))]) <|
      .cond (.r 29)
        (.skip)
        (.exit 0)) <|
      .block 1 (
        .ops [op 30 (.mov (.r 8)), op 31 (.bin .add (.r 30) (.c (.int .i64 1))), op 8 (.mov (.r 31))])))) <|
  sq (.ops [op 32 (.mov (.r 8)), op 33 (.mov (.r 8)), op 34 (.mov (.r 0)), op 35 (.nilc (.r 34)), op 36 (.fad 0 (.r 35)), op 37 (.ld 1 false (.r 36)), op 38 (.len .sl (.r 37)), op 39 (.bin .lss (.r 33) (.r 38)), op 40 (.mov (.r 39)), ⟨(some 41), .b (.mov (.r 0)), (some (40, true)), []⟩, ⟨(some 42), .b (.nilc (.r 41)), (some (40, true)), []⟩, ⟨(some 43), .b (.fad 0 (.r 42)), (some (40, true)), []⟩, ⟨(some 44), .b (.ld 1 false (.r 43)), (some (40, true)), []⟩, ⟨(some 45), .b (.mov (.r 8)), (some (40, true)), []⟩, ⟨(some 46), .b (.iad 5 (.r 44) (.r 45)), (some (40, true)), []⟩, ⟨(some 47), .b (.fad 0 (.r 46)), (some (40, true)), []⟩, ⟨(some 48), .b (.fad 0 (.r 47)), (some (40, true)), []⟩, ⟨(some 49), .b (.ld 1 false (.r 48)), (some (40, true)), []⟩, ⟨(some 50), .b (.mov (.r 1)), (some (40, true)), []⟩, ⟨(some 51), .b (.bin .eql (.r 49) (.r 50)), (some (40, true)), []⟩, op 52 (.pick (.r 40) (.r 51) (.c (.bool false))), op 53 (.mov (.r 52)), ⟨(some 54), .b (.mov (.r 0)), (some (53, true)), []⟩, ⟨(some 55), .b (.nilc (.r 54)), (some (53, true)), []⟩, ⟨(some 56), .b (.fad 0 (.r 55)), (some (53, true)), []⟩, ⟨(some 57), .b (.ld 1 false (.r 56)), (some (53, true)), []⟩, ⟨(some 58), .b (.mov (.r 8)), (some (53, true)), []⟩, ⟨(some 59), .b (.iad 5 (.r 57) (.r 58)), (some (53, true)), []⟩, ⟨(some 60), .b (.fad 0 (.r 59)), (some (53, true)), []⟩, ⟨(some 61), .b (.fad 1 (.r 60)), (some (53, true)), []⟩, ⟨(some 62), .b (.ld 1 false (.r 61)), (some (53, true)), []⟩, ⟨(some 63), .b (.mov (.r 2)), (some (53, true)), []⟩, ⟨(some 64), .b (.bin .eql (.r 62) (.r 63)), (some (53, true)), []⟩, op 65 (.pick (.r 53) (.r 64) (.c (.bool false))), op 6 (.mov (.r 32)), op 7 (.mov (.r 65))]) <|
  .ret⟩
def an35 : An := ⟨[], []⟩
def ir35 : Go.Rmp.Fn := ⟨33, 2, [.t 4],
  sq (.ops [op 4 (.mov (.c (.int .u64 0)))]) <|
  sq (sq (.ops [op 5 (.mov (.c (.int .i64 0)))]) <|
  .block 0 (
    .loop (
      sq (sq (.ops [op 6 (.mov (.r 5)), op 7 (.mov (.r 0)), op 8 (.nilc (.r 7)), op 9 (.fad 1 (.r 8)), op 10 (.ld 1 false (.r 9)), op 11 (.len .sl (.r 10)), op 12 (.bin .lss (.r 6) (.r 11))]) <|
      .cond (.r 12)
        (.skip)
        (.exit 0)) <|
      sq (.block 1 (
        sq (.ops [op 15 (.mov (.r 0)), op 16 (.nilc (.r 15)), op 17 (.fad 1 (.r 16)), op 18 (.ld 1 false (.r 17)), op 19 (.mov (.r 5)), op 20 (.iad 2 (.r 18) (.r 19)), op 21 (.fad 0 (.r 20)), op 22 (.ld 1 false (.r 21)), op 23 (.mov (.r 1)), op 24 (.bin .eql (.r 22) (.r 23))]) <|
        .cond (.r 24)
          (sq (.ops [op 25 (.mov (.r 0)), op 26 (.nilc (.r 25)), op 27 (.fad 1 (.r 26)), op 28 (.ld 1 false (.r 27)), op 29 (.mov (.r 5)), op 30 (.iad 2 (.r 28) (.r 29)), op 31 (.fad 1 (.r 30)), op 32 (.ld 1 false (.r 31)), op 4 (.mov (.r 32))]) <|
          .ret)
          (.skip))) <|
      .ops [op 13 (.mov (.r 5)), op 14 (.bin .add (.r 13) (.c (.int .i64 1))), op 5 (.mov (.r 14))]))) <|
  sq (.ops [op 4 (.mov (.c (.int .u64 0)))]) <|
  .ret⟩
def an36 : An := ⟨[], []⟩
def ir36 : Go.Rmp.Fn := ⟨5, 1, [.t 2],
  sq (.ops [op 2 (.mov (.c (.bool false)))]) <|
  sq (.ops [op 3 (.mov (.r 0)), op 4 (.bin .geq (.r 3) (.c (.int .u64 65536))), op 2 (.mov (.r 4))]) <|
  .ret⟩
def an37 : An := ⟨[(5, 6), (6, 5), (7, 8)], []⟩
def ir37 : Go.Rmp.Fn := ⟨80, 3, [],
  sq (.ops [op 6 (.mov (.c (.int .i64 0)))]) <|
  sq (.block 0 (
    .loop (
      sq (sq (.ops [op 8 (.mov (.r 6)), op 9 (.mov (.r 0)), op 10 (.nilc (.r 9)), op 11 (.fad 1 (.r 10)), op 12 (.ld 1 false (.r 11)), op 13 (.len .sl (.r 12)), op 14 (.bin .lss (.r 8) (.r 13)), op 15 (.mov (.r 14)), ⟨(some 16), .b (.mov (.r 0)), (some (15, true)), []⟩, ⟨(some 17), .b (.nilc (.r 16)), (some (15, true)), []⟩, ⟨(some 18), .b (.fad 1 (.r 17)), (some (15, true)), []⟩, ⟨(some 19), .b (.ld 1 false (.r 18)), (some (15, true)), []⟩, ⟨(some 20), .b (.mov (.r 6)), (some (15, true)), []⟩, ⟨(some 21), .b (.iad 2 (.r 19) (.r 20)), (some (15, true)), []⟩, ⟨(some 22), .b (.fad 0 (.r 21)), (some (15, true)), []⟩, ⟨(some 23), .b (.ld 1 false (.r 22)), (some (15, true)), []⟩, ⟨(some 24), .b (.mov (.r 1)), (some (15, true)), []⟩, ⟨(some 25), .b (.bin .lss (.r 23) (.r 24)), (some (15, true)), []⟩, op 26 (.pick (.r 15) (.r 25) (.c (.bool false)))]) <|
      .cond (.r 26)
        (.skip)
        (.exit 0)) <|
      .block 1 (
        .ops [op 27 (.mov (.r 6)), op 28 (.bin .add (.r 27) (.c (.int .i64 1))), op 6 (.mov (.r 28))])))) <|
  sq (sq (.ops [op 29 (.mov (.r 6)), op 30 (.mov (.r 0)), op 31 (.nilc (.r 30)), op 32 (.fad 1 (.r 31)), op 33 (.ld 1 false (.r 32)), op 34 (.len .sl (.r 33)), op 35 (.bin .lss (.r 29) (.r 34)), op 36 (.mov (.r 35)), ⟨(some 37), .b (.mov (.r 0)), (some (36, true)), []⟩, ⟨(some 38), .b (.nilc (.r 37)), (some (36, true)), []⟩, ⟨(some 39), .b (.fad 1 (.r 38)), (some (36, true)), []⟩, ⟨(some 40), .b (.ld 1 false (.r 39)), (some (36, true)), []⟩, ⟨(some 41), .b (.mov (.r 6)), (some (36, true)), []⟩, ⟨(some 42), .b (.iad 2 (.r 40) (.r 41)), (some (36, true)), []⟩, ⟨(some 43), .b (.fad 0 (.r 42)), (some (36, true)), []⟩, ⟨(some 44), .b (.ld 1 false (.r 43)), (some (36, true)), []⟩, ⟨(some 45), .b (.mov (.r 1)), (some (36, true)), []⟩, ⟨(some 46), .b (.bin .eql (.r 44) (.r 45)), (some (36, true)), []⟩, op 47 (.pick (.r 36) (.r 46) (.c (.bool false)))]) <|
  .cond (.r 47)
    (sq (.ops [op 48 (.mov (.r 0)), op 49 (.nilc (.r 48)), op 50 (.fad 1 (.r 49)), op 51 (.ld 1 false (.r 50)), op 52 (.mov (.r 6)), op 53 (.mov (.r 2)), op 54 (.iad 2 (.r 51) (.r 52)), op 55 (.fad 1 (.r 54)), ef (.st 1 (.r 55) (.r 53))]) <|
    .ret)
    (.skip)) <|
  sq (.ops [op 56 (.mov (.r 0)), op 57 (.nilc (.r 56)), op 58 (.fad 1 (.r 57)), op 59 (.ld 1 false (.r 58)), op 60 (.mov (.r 6)), op 61 (.sll 2 (.r 59) none (some (.r 60)) none), op 62 (.app 2 24 true (.c (.sl .nil [])) (.r 61)), op 7 (.mov (.r 62))]) <|
  sq (.ops [op 63 (.mov (.r 7)), op 64 (.mov (.r 1)), op 65 (.mov (.r 2)), op 66 (.build [.str ⟨#[]⟩, .int .u64 0] [(0, 1, (.r 64)), (1, 1, (.r 65))]), op 67 (.bsl 1 [.str ⟨#[]⟩, .int .u64 0] [(0, (.r 66))]), op 68 (.app 2 24 true (.r 63) (.r 67)), op 7 (.mov (.r 68))]) <|
  .ops [op 69 (.mov (.r 0)), op 70 (.mov (.r 7)), op 71 (.mov (.r 0)), op 72 (.nilc (.r 71)), op 73 (.fad 1 (.r 72)), op 74 (.ld 1 false (.r 73)), op 75 (.mov (.r 6)), op 76 (.sll 2 (.r 74) (some (.r 75)) none none), op 77 (.app 2 24 true (.r 70) (.r 76)), op 78 (.nilc (.r 69)), op 79 (.fad 1 (.r 78)), ef (.st 1 (.r 79) (.r 77))]⟩
def an38 : An := ⟨[], []⟩
def ir38 : Go.Rmp.Fn := ⟨9, 1, [.t 2],
  sq (.ops [op 2 (.mov (.c (.bool false)))]) <|
  sq (.ops [op 3 (.mov (.r 0)), op 4 (.bin .geq (.r 3) (.c (.int .i64 0))), op 5 (.mov (.r 4)), ⟨(some 6), .b (.mov (.r 0)), (some (5, true)), []⟩, ⟨(some 7), .b (.bin .leq (.r 6) (.c (.int .i64 1099511627776))), (some (5, true)), []⟩, op 8 (.pick (.r 5) (.r 7) (.c (.bool false))), op 2 (.mov (.r 8))]) <|
  .ret⟩
def an39 : An := ⟨[], []⟩
def ir39 : Go.Rmp.Fn := ⟨9, 1, [.t 2],
  sq (.ops [op 2 (.mov (.c (.bool false)))]) <|
  sq (.ops [op 3 (.mov (.r 0)), op 4 (.bin .geq (.r 3) (.c (.int .i64 0))), op 5 (.mov (.r 4)), ⟨(some 6), .b (.mov (.r 0)), (some (5, true)), []⟩, ⟨(some 7), .b (.bin .leq (.r 6) (.c (.int .i64 1048576))), (some (5, true)), []⟩, op 8 (.pick (.r 5) (.r 7) (.c (.bool false))), op 2 (.mov (.r 8))]) <|
  .ret⟩
def an40 : An := ⟨[], []⟩
def ir40 : Go.Rmp.Fn := ⟨31, 2, [.t 4],
  sq (.ops [op 2 (.box (.r 0)), op 3 (.box (.r 1)), op 4 (.mov (.c (.bool false)))]) <|
  sq (.ops [op 5 (.fad 0 (.r 2)), op 6 (.ld 1 false (.r 5)), op 7 (.fad 0 (.r 3)), op 8 (.ld 1 false (.r 7)), op 9 (.bin .eql (.r 6) (.r 8)), op 10 (.mov (.r 9)), ⟨(some 11), .b (.fad 1 (.r 2)), (some (10, true)), []⟩, ⟨(some 12), .b (.ld 1 false (.r 11)), (some (10, true)), []⟩, ⟨(some 13), .b (.fad 1 (.r 3)), (some (10, true)), []⟩, ⟨(some 14), .b (.ld 1 false (.r 13)), (some (10, true)), []⟩, ⟨(some 15), .b (.bin .eql (.r 12) (.r 14)), (some (10, true)), []⟩, op 16 (.pick (.r 10) (.r 15) (.c (.bool false))), op 17 (.mov (.r 16)), ⟨(some 18), .b (.fad 2 (.r 2)), (some (17, true)), []⟩, ⟨(some 19), .b (.ld 1 false (.r 18)), (some (17, true)), []⟩, ⟨(some 20), .b (.fad 2 (.r 3)), (some (17, true)), []⟩, ⟨(some 21), .b (.ld 1 false (.r 20)), (some (17, true)), []⟩, ⟨(some 22), .b (.bin .eql (.r 19) (.r 21)), (some (17, true)), []⟩, op 23 (.pick (.r 17) (.r 22) (.c (.bool false))), op 24 (.mov (.r 23)), ⟨(some 25), .b (.fad 3 (.r 2)), (some (24, true)), []⟩, ⟨(some 26), .b (.ld 1 false (.r 25)), (some (24, true)), []⟩, ⟨(some 27), .b (.fad 3 (.r 3)), (some (24, true)), []⟩, ⟨(some 28), .b (.ld 1 false (.r 27)), (some (24, true)), []⟩, ⟨(some 29), .call 57 [(.r 26), (.r 28)], (some (24, true)), []⟩, op 30 (.pick (.r 24) (.r 29) (.c (.bool false))), op 4 (.mov (.r 30))]) <|
  .ret⟩
def an41 : An := ⟨[], []⟩
def ir41 : Go.Rmp.Fn := ⟨12, 2, [.t 4],
  sq (.ops [op 4 (.mov (.c (.sl .nil [])))]) <|
  sq (.ops [op 6 (.mov (.r 0)), cl 7 58 [(.r 6)], op 5 (.mov (.r 7))]) <|
  sq (.ops [op 8 (.mov (.r 5)), op 9 (.mov (.r 1)), cl 10 59 [(.r 8), (.r 9)]]) <|
  sq (.ops [op 11 (.mov (.r 5)), op 4 (.mov (.r 11))]) <|
  .ret⟩
def an42 : An := ⟨[], []⟩
def ir42 : Go.Rmp.Fn := ⟨4, 1, [.t 2],
  sq (.ops [op 1 (.box (.r 0)), op 2 (.mov (.c .nilf))]) <|
  sq (.ops [op 3 (.mkf 60 [(.r 1)]), op 2 (.mov (.r 3))]) <|
  .ret⟩
def an43 : An := ⟨[], [(1, [(0, true), (1, true), (2, true), (3, true), (5, true), (6, true), (7, true), (8, true), (4, false), (9, false), (10, true), (11, false), (12, true)])]⟩
def ir43 : Go.Rmp.Fn := ⟨17, 2, [.t 4],
  sq (.ops [op 2 (.box (.r 0)), op 3 (.box (.r 1)), op 4 (.mov (.c (.int .i64 0)))]) <|
  sq (.ops [op 5 (.fad 0 (.r 2)), op 6 (.ld 1 false (.r 5)), op 7 (.fad 0 (.r 3)), op 8 (.ld 1 false (.r 7)), op 10 (.fad 1 (.r 2)), op 11 (.ld 1 false (.r 10)), op 12 (.fad 1 (.r 3)), op 13 (.ld 1 false (.r 12)), ⟨(some 9), .call 62 [(.r 6), (.r 8)], none, [⟨11, .ld 1 false (.r 10), none⟩, ⟨13, .ld 1 false (.r 12), none⟩]⟩, cl 14 63 [(.r 11), (.r 13)], op 15 (.bsl 2 [.int .i64 0] [(0, (.r 9)), (1, (.r 14))]), cl 16 61 [(.r 15)], op 4 (.mov (.r 16))]) <|
  .ret⟩
def an44 : An := ⟨[], [(1, [(0, true), (1, true), (2, true), (3, true), (4, true), (5, true), (6, true), (7, false)]), (2, [(0, true), (1, true), (2, true), (3, true), (4, true), (5, true), (6, true), (7, true), (8, false), (9, true), (10, false)])]⟩
def ir44 : Go.Rmp.Fn := ⟨22, 2, [.cl 4 4 true],
  sq (.ops [op 3 (.box (.r 1)), op 4 (.alloc [.str ⟨#[]⟩, .int .u64 0, .str ⟨#[]⟩, .sl .nil []])]) <|
  sq (.ops [op 6 (.mov (.r 0)), op 7 (.nilc (.r 6)), op 8 (.fad 0 (.r 7)), op 9 (.ld 1 false (.r 8)), op 10 (.ld 2 true (.r 3)), op 11 (.lkp (.st [.str, .int]) (.agg [.str ⟨#[]⟩, .sl .nil [], .int .i64 0]) false (.r 9) (.r 10)), op 5 (.alloc [.str ⟨#[]⟩, .sl .nil [], .int .i64 0]), ef (.st 3 (.r 5) (.r 11))]) <|
  sq (.ops [op 12 (.fad 0 (.r 3)), op 13 (.ld 1 false (.r 12)), op 14 (.fad 1 (.r 3)), op 15 (.ld 1 false (.r 14)), op 16 (.fad 0 (.r 5)), op 17 (.ld 1 false (.r 16)), op 18 (.fad 1 (.r 5)), op 19 (.ld 1 false (.r 18)), ⟨(some 20), .call 31 [(.r 19)], none, [⟨13, .ld 1 false (.r 12), none⟩, ⟨15, .ld 1 false (.r 14), none⟩, ⟨17, .ld 1 false (.r 16), none⟩]⟩, op 21 (.build [.str ⟨#[]⟩, .int .u64 0, .str ⟨#[]⟩, .sl .nil []] [(0, 1, (.r 13)), (1, 1, (.r 15)), (2, 1, (.r 17)), (3, 1, (.r 20))]), ef (.st 4 (.r 4) (.r 21))]) <|
  .ret⟩
def an45 : An := ⟨[], []⟩
def ir45 : Go.Rmp.Fn := ⟨8, 1, [.cl 2 4 true],
  sq (.ops [op 1 (.box (.r 0)), op 2 (.alloc [.str ⟨#[]⟩, .int .u64 0, .str ⟨#[]⟩, .sl .nil []])]) <|
  sq (.ops [op 3 (.fad 3 (.r 1)), op 4 (.ld 1 false (.r 3)), op 5 (.app 1 16 false (.c (.sl .nil [])) (.r 4)), op 6 (.fad 3 (.r 1)), ef (.st 1 (.r 6) (.r 5))]) <|
  sq (.ops [op 7 (.ld 4 true (.r 1)), ef (.st 4 (.r 2) (.r 7))]) <|
  .ret⟩
def an46 : An := ⟨[], [(2, [(0, true), (1, true), (2, true), (3, true), (4, true), (5, true), (6, true), (7, true), (8, true), (9, true), (10, false), (11, true)]), (7, [(0, true), (1, true), (2, true), (3, true), (4, true), (5, false)]), (8, [(0, true), (1, true), (2, true), (3, true), (4, true), (5, true), (6, true), (7, true), (8, true), (9, true), (10, true), (11, true), (12, false), (13, false)]), (9, [(0, true), (1, true), (2, true), (3, true), (4, true), (5, true), (6, true), (7, true), (8, true), (9, true), (10, true), (11, true), (12, false), (13, false)])]⟩
def ir46 : Go.Rmp.Fn := ⟨71, 3, [.t 6],
  sq (.ops [op 6 (.mov (.c (.int .i64 0)))]) <|
  sq (.ops [op 10 (.mov (.r 1)), op 11 (.mov (.r 2)), op 12 (.build [.str ⟨#[]⟩, .int .u64 0] [(0, 1, (.r 10)), (1, 1, (.r 11))]), op 7 (.alloc [.str ⟨#[]⟩, .int .u64 0]), ef (.st 2 (.r 7) (.r 12))]) <|
  sq (.ops [op 14 (.mov (.r 0)), op 15 (.nilc (.r 14)), op 16 (.fad 0 (.r 15)), op 17 (.ld 1 false (.r 16)), op 18 (.ld 2 true (.r 7)), op 19 (.lkp (.st [.str, .int]) (.agg [.str ⟨#[]⟩, .sl .nil [], .int .i64 0]) true (.r 17) (.r 18)), op 13 (.mov (.r 19)), op 20 (.ext 0 (.r 13)), op 21 (.ext 1 (.r 13)), op 8 (.alloc [.str ⟨#[]⟩, .sl .nil [], .int .i64 0]), ef (.st 3 (.r 8) (.r 20)), op 9 (.mov (.r 21))]) <|
  sq (sq (.ops [op 22 (.mov (.r 9)), op 23 (.un .not (.r 22))]) <|
  .cond (.r 23)
    (sq (.ops [op 6 (.mov (.c (.int .i64 110)))]) <|
    .ret)
    (.skip)) <|
  sq (sq (.ops [op 24 (.fad 2 (.r 8)), op 25 (.ld 1 false (.r 24)), op 26 (.bin .eql (.r 25) (.c (.int .i64 (-1))))]) <|
  .cond (.r 26)
    (sq (.ops [op 6 (.mov (.c (.int .i64 1)))]) <|
    .ret)
    (.skip)) <|
  sq (.ops [op 27 (.mov (.r 0)), op 28 (.nilc (.r 27)), op 29 (.fad 0 (.r 28)), op 30 (.ld 1 false (.r 29)), op 31 (.ld 2 true (.r 7)), ef (.del (.st [.str, .int]) (.r 30) (.r 31))]) <|
  sq (.ops [op 32 (.mov (.r 0)), op 33 (.nilc (.r 32)), op 34 (.fad 1 (.r 33)), op 35 (.ld 1 false (.r 34)), op 36 (.mov (.r 1)), op 37 (.mov (.r 0)), op 38 (.nilc (.r 37)), op 39 (.fad 1 (.r 38)), op 40 (.ld 1 false (.r 39)), op 41 (.mov (.r 1)), op 42 (.lkp (.sc .str) (.sl .nil []) false (.r 40) (.r 41)), op 43 (.mov (.r 2)), ⟨(some 44), .call 64 [(.r 42), (.r 43)], none, [⟨35, .ld 1 false (.r 34), none⟩]⟩, ef (.upm (.sc .str) (.r 35) (.r 36) (.r 44))]) <|
  sq (.ops [op 45 (.mov (.r 0)), op 46 (.nilc (.r 45)), op 47 (.fad 2 (.r 46)), op 48 (.ld 1 false (.r 47)), op 49 (.mov (.r 2)), op 50 (.mov (.r 0)), op 51 (.nilc (.r 50)), op 52 (.fad 2 (.r 51)), op 53 (.ld 1 false (.r 52)), op 54 (.mov (.r 2)), op 55 (.lkp (.sc .int) (.sl .nil []) false (.r 53) (.r 54)), op 56 (.mov (.r 1)), ⟨(some 57), .call 65 [(.r 55), (.r 56)], none, [⟨48, .ld 1 false (.r 47), none⟩]⟩, ef (.upm (.sc .int) (.r 48) (.r 49) (.r 57))]) <|
  sq (sq (.ops [op 58 (.mov (.r 0)), op 59 (.nilc (.r 58)), op 60 (.fad 2 (.r 59)), op 61 (.ld 1 false (.r 60)), op 62 (.mov (.r 2)), op 63 (.lkp (.sc .int) (.sl .nil []) false (.r 61) (.r 62)), op 64 (.len .sl (.r 63)), op 65 (.bin .eql (.r 64) (.c (.int .i64 0)))]) <|
  .cond (.r 65)
    (.ops [op 66 (.mov (.r 0)), op 67 (.nilc (.r 66)), op 68 (.fad 2 (.r 67)), op 69 (.ld 1 false (.r 68)), op 70 (.mov (.r 2)), ef (.del (.sc .int) (.r 69) (.r 70))])
    (.skip)) <|
  sq (.ops [op 6 (.mov (.c (.int .i64 0)))]) <|
  .ret⟩
def an47 : An := ⟨[(6, 6), (7, 9)], []⟩
def ir47 : Go.Rmp.Fn := ⟨43, 3, [.t 6],
  sq (.ops [op 6 (.mov (.c (.int .i64 0)))]) <|
  sq (.ops [op 11 (.mov (.r 0)), op 12 (.mov (.r 1)), op 13 (.mov (.r 2)), cl 14 34 [(.r 11), (.r 12), (.r 13)], op 10 (.mov (.r 14)), op 15 (.ext 0 (.r 10)), op 16 (.ext 1 (.r 10)), op 7 (.mov (.r 15)), op 8 (.mov (.r 16))]) <|
  sq (sq (.ops [op 17 (.mov (.r 8)), op 18 (.un .not (.r 17))]) <|
  .cond (.r 18)
    (sq (.ops [op 6 (.mov (.c (.int .i64 110)))]) <|
    .ret)
    (.skip)) <|
  sq (sq (.ops [op 19 (.mov (.r 2)), op 20 (.mov (.r 0)), op 21 (.mov (.r 1)), cl 22 35 [(.r 20), (.r 21)], op 23 (.bin .geq (.r 19) (.r 22))]) <|
  .cond (.r 23)
    (sq (.ops [op 6 (.mov (.c (.int .i64 1)))]) <|
    .ret)
    (.skip)) <|
  sq (.ops [op 24 (.mov (.r 0)), op 25 (.nilc (.r 24)), op 26 (.fad 0 (.r 25)), op 27 (.ld 1 false (.r 26)), op 28 (.mov (.r 7)), op 29 (.sll 5 (.r 27) none (some (.r 28)) none), op 30 (.app 5 72 true (.c (.sl .nil [])) (.r 29)), op 9 (.mov (.r 30))]) <|
  sq (.ops [op 31 (.mov (.r 0)), op 32 (.mov (.r 9)), op 33 (.mov (.r 0)), op 34 (.nilc (.r 33)), op 35 (.fad 0 (.r 34)), op 36 (.ld 1 false (.r 35)), op 37 (.mov (.r 7)), op 38 (.bin .add (.r 37) (.c (.int .i64 1))), op 39 (.sll 5 (.r 36) (some (.r 38)) none none), op 40 (.app 5 72 true (.r 32) (.r 39)), op 41 (.nilc (.r 31)), op 42 (.fad 0 (.r 41)), ef (.st 1 (.r 42) (.r 40))]) <|
  sq (.ops [op 6 (.mov (.c (.int .i64 0)))]) <|
  .ret⟩
def an48 : An := ⟨[], []⟩
def ir48 : Go.Rmp.Fn := ⟨9, 1, [.t 2],
  sq (.ops [op 2 (.mov (.c (.sl .nil [])))]) <|
  sq (.ops [op 4 (.mov (.r 0)), cl 5 66 [(.r 4)], op 3 (.mov (.r 5))]) <|
  sq (.ops [op 6 (.mov (.r 3)), cl 7 67 [(.r 6)]]) <|
  sq (.ops [op 8 (.mov (.r 3)), op 2 (.mov (.r 8))]) <|
  .ret⟩
def an49 : An := ⟨[], []⟩
def ir49 : Go.Rmp.Fn := ⟨4, 1, [.t 2],
  sq (.ops [op 1 (.box (.r 0)), op 2 (.mov (.c .nilf))]) <|
  sq (.ops [op 3 (.mkf 68 [(.r 1)]), op 2 (.mov (.r 3))]) <|
  .ret⟩
def an50 : An := ⟨[], []⟩
def ir50 : Go.Rmp.Fn := ⟨37, 1, [.t 2],
  sq (.ops [op 2 (.mov (.c (.bool false)))]) <|
  sq (sq (.ops [op 5 (.mov (.r 0)), op 6 (.len .sl (.r 5)), op 7 (.mov (.c (.int .i64 0)))]) <|
  .block 0 (
    .loop (
      sq (.ops [op 8 (.bin .lss (.r 7) (.r 6))]) <|
      sq (.cond (.r 8)
        (.skip)
        (.exit 0)) <|
      sq (.block 1 (
        sq (.ops [op 9 (.mov (.r 7)), op 10 (.iad 1 (.r 5) (.r 7)), op 11 (.ld 1 false (.r 10)), op 3 (.mov (.r 9)), op 4 (.mov (.r 11))]) <|
        sq (.ops [op 12 (.mov (.r 4)), op 13 (.len .str (.r 12)), op 14 (.bin .gtr (.r 13) (.c (.int .i64 65535))), op 15 (.mov (.r 14)), ⟨(some 16), .b (.mov (.r 3)), (some (15, false)), []⟩, ⟨(some 17), .b (.bin .gtr (.r 16) (.c (.int .i64 0))), (some (15, false)), []⟩, ⟨(some 18), .b (.mov (.r 17)), (some (15, false)), []⟩, ⟨(some 19), .b (.mov (.r 4)), (some (18, true)), []⟩, ⟨(some 20), .b (.mov (.r 0)), (some (18, true)), []⟩, ⟨(some 21), .b (.mov (.r 3)), (some (18, true)), []⟩, ⟨(some 22), .b (.bin .sub (.r 21) (.c (.int .i64 1))), (some (18, true)), []⟩, ⟨(some 23), .b (.iad 1 (.r 20) (.r 22)), (some (18, true)), []⟩, ⟨(some 24), .b (.ld 1 false (.r 23)), (some (18, true)), []⟩, ⟨(some 25), .b (.bin .leq (.r 19) (.r 24)), (some (18, true)), []⟩, ⟨(some 26), .b (.pick (.r 18) (.r 25) (.c (.bool false))), (some (15, false)), []⟩, op 27 (.pick (.r 15) (.c (.bool true)) (.r 26))]) <|
        .cond (.r 27)
          (sq (.ops [op 2 (.mov (.c (.bool false)))]) <|
          .ret)
          (.skip))) <|
      .ops [op 28 (.bin .add (.r 7) (.c (.int .i64 1))), op 7 (.mov (.r 28))]))) <|
  sq (.ops [op 29 (.mov (.r 0)), op 30 (.len .sl (.r 29)), op 31 (.bin .geq (.r 30) (.c (.int .i64 1))), op 32 (.mov (.r 31)), ⟨(some 33), .b (.mov (.r 0)), (some (32, true)), []⟩, ⟨(some 34), .b (.len .sl (.r 33)), (some (32, true)), []⟩, ⟨(some 35), .b (.bin .leq (.r 34) (.c (.int .i64 1024))), (some (32, true)), []⟩, op 36 (.pick (.r 32) (.r 35) (.c (.bool false))), op 2 (.mov (.r 36))]) <|
  .ret⟩
def an51 : An := ⟨[], []⟩
def ir51 : Go.Rmp.Fn := ⟨14, 2, [.t 4],
  sq (.ops [op 4 (.mov (.c (.bool false)))]) <|
  sq (.ops [op 8 (.mov (.r 0)), op 9 (.mov (.r 1)), cl 10 69 [(.r 8), (.r 9)], op 7 (.mov (.r 10)), op 11 (.ext 0 (.r 7)), op 12 (.ext 1 (.r 7)), op 5 (.mov (.r 11)), op 6 (.mov (.r 12))]) <|
  sq (.ops [op 13 (.mov (.r 6)), op 4 (.mov (.r 13))]) <|
  .ret⟩
def an52 : An := ⟨[], []⟩
def ir52 : Go.Rmp.Fn := ⟨54, 2, [.t 4, .t 5],
  sq (.ops [op 4 (.mov (.c (.int .i64 0))), op 5 (.mov (.c (.bool false)))]) <|
  sq (.ops [op 10 (.mov (.r 0)), op 11 (.len .sl (.r 10)), op 6 (.mov (.r 11))]) <|
  sq (.ops [op 12 (.mov (.r 6)), op 7 (.mov (.c (.int .i64 0))), op 8 (.mov (.r 12))]) <|
  sq (.block 0 (
    .loop (
      sq (sq (.ops [op 13 (.mov (.r 7)), op 14 (.mov (.r 8)), op 15 (.bin .lss (.r 13) (.r 14))]) <|
      .cond (.r 15)
        (.skip)
        (.exit 0)) <|
      .block 1 (
        sq (.ops [op 16 (.mov (.r 7)), op 17 (.mov (.r 8)), op 18 (.bin .add (.r 16) (.r 17)), op 19 (.cvi .u64 (.r 18)), op 20 (.bin .shr (.r 19) (.c (.int .u64 1))), op 21 (.cvi .i64 (.r 20)), op 9 (.mov (.r 21))]) <|
        sq (.ops [op 22 (.mov (.r 0)), op 23 (.mov (.r 9)), op 24 (.iad 1 (.r 22) (.r 23)), op 25 (.ld 1 false (.r 24)), op 26 (.mov (.r 1)), cl 27 70 [(.r 25), (.r 26)]]) <|
        .cond (.r 27)
          (.ops [op 28 (.mov (.r 9)), op 29 (.bin .add (.r 28) (.c (.int .i64 1))), op 7 (.mov (.r 29))])
          (.ops [op 30 (.mov (.r 9)), op 8 (.mov (.r 30))]))))) <|
  sq (.ops [op 31 (.mov (.r 7)), op 32 (.mov (.r 7)), op 33 (.mov (.r 6)), op 34 (.bin .lss (.r 32) (.r 33)), op 35 (.mov (.r 34)), ⟨(some 36), .b (.mov (.r 0)), (some (35, true)), []⟩, ⟨(some 37), .b (.mov (.r 7)), (some (35, true)), []⟩, ⟨(some 38), .b (.iad 1 (.r 36) (.r 37)), (some (35, true)), []⟩, ⟨(some 39), .b (.ld 1 false (.r 38)), (some (35, true)), []⟩, ⟨(some 40), .b (.mov (.r 1)), (some (35, true)), []⟩, ⟨(some 41), .b (.bin .eql (.r 39) (.r 40)), (some (35, true)), []⟩, ⟨(some 42), .b (.mov (.r 41)), (some (35, true)), []⟩, ⟨(some 43), .b (.mov (.r 0)), (some (42, false)), []⟩, ⟨(some 44), .b (.mov (.r 7)), (some (42, false)), []⟩, ⟨(some 45), .b (.iad 1 (.r 43) (.r 44)), (some (42, false)), []⟩, ⟨(some 46), .b (.ld 1 false (.r 45)), (some (42, false)), []⟩, ⟨(some 47), .call 71 [(.r 46)], (some (42, false)), []⟩, ⟨(some 48), .b (.mov (.r 47)), (some (42, false)), []⟩, ⟨(some 49), .b (.mov (.r 1)), (some (48, true)), []⟩, ⟨(some 50), .call 71 [(.r 49)], (some (48, true)), []⟩, ⟨(some 51), .b (.pick (.r 48) (.r 50) (.c (.bool false))), (some (42, false)), []⟩, ⟨(some 52), .b (.pick (.r 42) (.c (.bool true)) (.r 51)), (some (35, true)), []⟩, op 53 (.pick (.r 35) (.r 52) (.c (.bool false))), op 4 (.mov (.r 31)), op 5 (.mov (.r 53))]) <|
  .ret⟩
def an53 : An := ⟨[(7, 2)], [(11, [(0, true), (1, true), (2, true), (3, true), (4, true), (5, true), (6, true), (7, true), (8, false)]), (15, [(0, true), (1, true), (2, true), (3, true), (4, true), (5, true), (6, true), (7, true), (8, false)])]⟩
def ir53 : Go.Rmp.Fn := ⟨95, 3, [.t 6],
  sq (.ops [op 6 (.mov (.c (.sl .nil [])))]) <|
  sq (.ops [op 10 (.mov (.r 0)), op 11 (.mov (.r 1)), op 12 (.sll 1 (.r 10) (some (.r 11)) none none)]) <|
  sq (.ops [op 13 (.mov (.r 2)), op 14 (.len .sl (.r 13)), op 7 (.mov (.r 14))]) <|
  sq (sq (.ops [op 15 (.mov (.r 7)), op 16 (.bin .eql (.r 15) (.c (.int .i64 0)))]) <|
  .cond (.r 16)
    (sq (.ops [op 17 (.mov (.r 0)), op 6 (.mov (.r 17))]) <|
    .ret)
    (.skip)) <|
  sq (.ops [op 18 (.mov (.r 0)), op 19 (.len .sl (.r 18)), op 8 (.mov (.r 19))]) <|
  sq (sq (.ops [op 20 (.mov (.r 1)), op 21 (.mov (.r 8)), op 22 (.bin .eql (.r 20) (.r 21))]) <|
  .cond (.r 22)
    (sq (.ops [op 23 (.mov (.r 0)), op 24 (.mov (.r 2)), op 25 (.app 1 8 true (.r 23) (.r 24)), op 6 (.mov (.r 25))]) <|
    .ret)
    (.skip)) <|
  sq (sq (.ops [op 26 (.mov (.r 8)), op 27 (.mov (.r 7)), op 28 (.bin .add (.r 26) (.r 27)), op 29 (.mov (.r 0)), op 30 (.cap (.r 29)), op 31 (.bin .gtr (.r 28) (.r 30))]) <|
  .cond (.r 31)
    (sq (.ops [op 32 (.mov (.r 0)), op 33 (.mov (.r 1)), op 34 (.sll 1 (.r 32) none (some (.r 33)) none), op 35 (.mov (.r 8)), op 36 (.mov (.r 7)), op 37 (.bin .add (.r 35) (.r 36)), op 38 (.mov (.r 1)), op 39 (.bin .sub (.r 37) (.r 38)), op 40 (.apz 1 8 [.int .u64 0] (.r 34) (.r 39)), op 9 (.mov (.r 40))]) <|
    sq (.ops [op 41 (.mov (.r 9)), op 42 (.mov (.r 1)), op 43 (.sll 1 (.r 41) (some (.r 42)) none none), op 44 (.mov (.r 2)), op 45 (.cpy 1 (.r 43) (.r 44))]) <|
    sq (.ops [op 46 (.mov (.r 9)), op 47 (.mov (.r 1)), op 48 (.mov (.r 7)), op 49 (.bin .add (.r 47) (.r 48)), op 50 (.sll 1 (.r 46) (some (.r 49)) none none), op 51 (.mov (.r 0)), op 52 (.mov (.r 1)), op 53 (.sll 1 (.r 51) (some (.r 52)) none none), op 54 (.cpy 1 (.r 50) (.r 53))]) <|
    sq (.ops [op 55 (.mov (.r 9)), op 6 (.mov (.r 55))]) <|
    .ret)
    (.skip)) <|
  sq (.ops [op 56 (.mov (.r 0)), op 57 (.mov (.r 8)), op 58 (.mov (.r 7)), op 59 (.bin .add (.r 57) (.r 58)), op 60 (.sll 1 (.r 56) none (some (.r 59)) none), op 0 (.mov (.r 60))]) <|
  sq (sq (.ops [op 61 (.mov (.r 2)), op 62 (.mov (.r 0)), op 63 (.mov (.r 1)), op 64 (.mov (.r 7)), op 65 (.bin .add (.r 63) (.r 64)), op 66 (.sll 1 (.r 62) (some (.r 65)) none none), op 67 (.ovl 1 (.r 61) (.r 66)), op 68 (.un .not (.r 67))]) <|
  .cond (.r 68)
    (sq (.ops [op 69 (.mov (.r 0)), op 70 (.mov (.r 1)), op 71 (.mov (.r 7)), op 72 (.bin .add (.r 70) (.r 71)), op 73 (.sll 1 (.r 69) (some (.r 72)) none none), op 74 (.mov (.r 0)), op 75 (.mov (.r 1)), op 76 (.sll 1 (.r 74) (some (.r 75)) none none), op 77 (.cpy 1 (.r 73) (.r 76))]) <|
    sq (.ops [op 78 (.mov (.r 0)), op 79 (.mov (.r 1)), op 80 (.sll 1 (.r 78) (some (.r 79)) none none), op 81 (.mov (.r 2)), op 82 (.cpy 1 (.r 80) (.r 81))]) <|
    sq (.ops [op 83 (.mov (.r 0)), op 6 (.mov (.r 83))]) <|
    .ret)
    (.skip)) <|
  sq (.ops [op 84 (.mov (.r 0)), op 85 (.mov (.r 8)), op 86 (.sll 1 (.r 84) (some (.r 85)) none none), op 87 (.mov (.r 2)), op 88 (.cpy 1 (.r 86) (.r 87))]) <|
  sq (.ops [op 89 (.mov (.r 0)), op 90 (.mov (.r 1)), op 91 (.sll 1 (.r 89) (some (.r 90)) none none), op 92 (.mov (.r 7)), cl 93 73 [(.r 91), (.r 92)]]) <|
  sq (.ops [op 94 (.mov (.r 0)), op 6 (.mov (.r 94))]) <|
  .ret⟩
def an54 : An := ⟨[], []⟩
def ir54 : Go.Rmp.Fn := ⟨9, 1, [.t 2],
  sq (.ops [op 2 (.mov (.c (.bool false)))]) <|
  sq (.ops [op 3 (.mov (.r 0)), cl 4 74 [(.r 3)], op 5 (.mov (.r 4)), ⟨(some 6), .b (.mov (.r 0)), (some (5, true)), []⟩, ⟨(some 7), .call 75 [(.r 6)], (some (5, true)), []⟩, op 8 (.pick (.r 5) (.r 7) (.c (.bool false))), op 2 (.mov (.r 8))]) <|
  .ret⟩
def an55 : An := ⟨[], []⟩
def ir55 : Go.Rmp.Fn := ⟨18, 2, [.t 4],
  sq (.ops [op 4 (.mov (.c (.bool false)))]) <|
  sq (sq (.ops [op 5 (.mov (.c (.int .i64 0)))]) <|
  .block 0 (
    .loop (
      sq (sq (.ops [op 6 (.mov (.r 5)), op 7 (.mov (.r 0)), op 8 (.len .sl (.r 7)), op 9 (.bin .lss (.r 6) (.r 8))]) <|
      .cond (.r 9)
        (.skip)
        (.exit 0)) <|
      sq (.block 1 (
        sq (.ops [op 12 (.mov (.r 0)), op 13 (.mov (.r 5)), op 14 (.iad 1 (.r 12) (.r 13)), op 15 (.ld 1 false (.r 14)), op 16 (.mov (.r 1)), op 17 (.bin .eql (.r 15) (.r 16))]) <|
        .cond (.r 17)
          (sq (.ops [op 4 (.mov (.c (.bool true)))]) <|
          .ret)
          (.skip))) <|
      .ops [op 10 (.mov (.r 5)), op 11 (.bin .add (.r 10) (.c (.int .i64 1))), op 5 (.mov (.r 11))]))) <|
  sq (.ops [op 4 (.mov (.c (.bool false)))]) <|
  .ret⟩
def an56 : An := ⟨[], []⟩
def ir56 : Go.Rmp.Fn := ⟨24, 2, [.t 4],
  sq (.ops [op 2 (.box (.r 0)), op 3 (.box (.r 1)), op 4 (.mov (.c (.bool false)))]) <|
  sq (.ops [op 5 (.fad 0 (.r 2)), op 6 (.ld 1 false (.r 5)), op 7 (.fad 0 (.r 3)), op 8 (.ld 1 false (.r 7)), op 9 (.bin .lss (.r 6) (.r 8)), op 10 (.mov (.r 9)), ⟨(some 11), .b (.fad 0 (.r 2)), (some (10, false)), []⟩, ⟨(some 12), .b (.ld 1 false (.r 11)), (some (10, false)), []⟩, ⟨(some 13), .b (.fad 0 (.r 3)), (some (10, false)), []⟩, ⟨(some 14), .b (.ld 1 false (.r 13)), (some (10, false)), []⟩, ⟨(some 15), .b (.bin .eql (.r 12) (.r 14)), (some (10, false)), []⟩, ⟨(some 16), .b (.mov (.r 15)), (some (10, false)), []⟩, ⟨(some 17), .b (.fad 1 (.r 2)), (some (16, true)), []⟩, ⟨(some 18), .b (.ld 1 false (.r 17)), (some (16, true)), []⟩, ⟨(some 19), .b (.fad 1 (.r 3)), (some (16, true)), []⟩, ⟨(some 20), .b (.ld 1 false (.r 19)), (some (16, true)), []⟩, ⟨(some 21), .b (.bin .lss (.r 18) (.r 20)), (some (16, true)), []⟩, ⟨(some 22), .b (.pick (.r 16) (.r 21) (.c (.bool false))), (some (10, false)), []⟩, op 23 (.pick (.r 10) (.c (.bool true)) (.r 22)), op 4 (.mov (.r 23))]) <|
  .ret⟩
def an57 : An := ⟨[], [(6, [(0, true), (1, true), (2, true), (3, true), (4, true), (5, true), (6, true), (7, true), (8, true)])]⟩
def ir57 : Go.Rmp.Fn := ⟨26, 2, [.t 4],
  sq (.ops [op 4 (.mov (.c (.bool false)))]) <|
  sq (sq (.ops [op 6 (.mov (.r 0)), op 7 (.len .sl (.r 6)), op 8 (.mov (.r 1)), op 9 (.len .sl (.r 8)), op 10 (.bin .neq (.r 7) (.r 9))]) <|
  .cond (.r 10)
    (sq (.ops [op 4 (.mov (.c (.bool false)))]) <|
    .ret)
    (.skip)) <|
  sq (sq (.ops [op 5 (.mov (.c (.int .i64 0)))]) <|
  .block 0 (
    .loop (
      sq (sq (.ops [op 11 (.mov (.r 5)), op 12 (.mov (.r 0)), op 13 (.len .sl (.r 12)), op 14 (.bin .lss (.r 11) (.r 13))]) <|
      .cond (.r 14)
        (.skip)
        (.exit 0)) <|
      sq (.block 1 (
        sq (.ops [op 17 (.mov (.r 0)), op 18 (.mov (.r 5)), op 19 (.iad 1 (.r 17) (.r 18)), op 20 (.ld 1 false (.r 19)), op 21 (.mov (.r 1)), op 22 (.mov (.r 5)), op 23 (.iad 1 (.r 21) (.r 22)), op 24 (.ld 1 false (.r 23)), op 25 (.bin .neq (.r 20) (.r 24))]) <|
        .cond (.r 25)
          (sq (.ops [op 4 (.mov (.c (.bool false)))]) <|
          .ret)
          (.skip))) <|
      .ops [op 15 (.mov (.r 5)), op 16 (.bin .add (.r 15) (.c (.int .i64 1))), op 5 (.mov (.r 16))]))) <|
  sq (.ops [op 4 (.mov (.c (.bool true)))]) <|
  .ret⟩
def an58 : An := ⟨[], []⟩
def ir58 : Go.Rmp.Fn := ⟨5, 1, [.t 2],
  sq (.ops [op 2 (.mov (.c (.sl .nil [])))]) <|
  sq (.ops [op 3 (.mov (.r 0)), cl 4 76 [(.c (.sl .nil [])), (.r 3)], op 2 (.mov (.r 4))]) <|
  .ret⟩
def an59 : An := ⟨[], []⟩
def ir59 : Go.Rmp.Fn := ⟨14, 2, [],
  sq (.ops [op 5 (.mov (.r 0)), op 6 (.len .sl (.r 5)), op 4 (.mov (.r 6))]) <|
  .ops [op 7 (.mov (.r 0)), op 8 (.mov (.r 4)), op 9 (.mov (.r 4)), op 10 (.cvi .u64 (.r 9)), cl 11 78 [(.r 10)], op 12 (.mov (.r 1)), cl 13 77 [(.r 7), (.c (.int .i64 0)), (.r 8), (.r 11), (.r 12)]]⟩
def an60 : An := ⟨[], []⟩
def ir60 : Go.Rmp.Fn := ⟨14, 2, [],
  sq (.ops [op 4 (.ld 1 false (.r 1)), op 5 (.rng (.r 4))]) <|
  .block 0 (
    .loop (
      sq (.ops [op 6 (.nxt (.r 5)), op 7 (.ext 0 (.r 6))]) <|
      sq (.cond (.r 7)
        (.skip)
        (.exit 0)) <|
      .block 1 (
        sq (.ops [op 8 (.ent (.r 5)), op 9 (.ext 0 (.r 8)), op 3 (.alloc [.str ⟨#[]⟩, .int .u64 0]), ef (.st 2 (.r 3) (.r 9))]) <|
        sq (.ops [op 10 (.mov (.r 0)), op 11 (.ld 2 true (.r 3)), ⟨(some 12), .callv (.r 10) [(.r 11)], none, []⟩, op 13 (.un .not (.r 12))]) <|
        .cond (.r 13)
          (.ret)
          (.skip))))⟩
def an61 : An := ⟨[], []⟩
def ir61 : Go.Rmp.Fn := ⟨18, 1, [.t 2],
  sq (.ops [op 2 (.mov (.c (.int .i64 0)))]) <|
  sq (.ops [op 3 (.mov (.c (.int .i64 0)))]) <|
  sq (sq (.ops [op 6 (.mov (.r 0)), op 7 (.len .sl (.r 6)), op 8 (.mov (.c (.int .i64 0)))]) <|
  .block 0 (
    .loop (
      sq (.ops [op 9 (.bin .lss (.r 8) (.r 7))]) <|
      sq (.cond (.r 9)
        (.skip)
        (.exit 0)) <|
      sq (.block 1 (
        sq (.ops [op 10 (.iad 1 (.r 6) (.r 8)), op 11 (.ld 1 false (.r 10)), op 5 (.mov (.r 11))]) <|
        sq (.ops [op 12 (.mov (.r 5)), op 13 (.mov (.r 3)), op 14 (.bin .neq (.r 12) (.r 13))]) <|
        .cond (.r 14)
          (sq (.ops [op 15 (.mov (.r 5)), op 2 (.mov (.r 15))]) <|
          .ret)
          (.skip))) <|
      .ops [op 16 (.bin .add (.r 8) (.c (.int .i64 1))), op 8 (.mov (.r 16))]))) <|
  sq (.ops [op 17 (.mov (.r 3)), op 2 (.mov (.r 17))]) <|
  .ret⟩
def an62 : An := ⟨[], []⟩
def ir62 : Go.Rmp.Fn := ⟨20, 2, [.t 4],
  sq (.ops [op 4 (.mov (.c (.int .i64 0)))]) <|
  sq (.ops [op 7 (.mov (.r 0)), cl 8 79 [(.r 7)], op 5 (.mov (.r 8))]) <|
  sq (.ops [op 9 (.mov (.r 1)), cl 10 79 [(.r 9)], op 6 (.mov (.r 10))]) <|
  sq (sq (.ops [op 11 (.mov (.r 5))]) <|
  .cond (.r 11)
    (sq (sq (.ops [op 12 (.mov (.r 6))]) <|
    .cond (.r 12)
      (sq (.ops [op 4 (.mov (.c (.int .i64 0)))]) <|
      .ret)
      (.skip)) <|
    sq (.ops [op 4 (.mov (.c (.int .i64 (-1))))]) <|
    .ret)
    (.skip)) <|
  sq (sq (.ops [op 13 (.mov (.r 6))]) <|
  .cond (.r 13)
    (sq (.ops [op 4 (.mov (.c (.int .i64 1)))]) <|
    .ret)
    (.skip)) <|
  sq (sq (.ops [op 14 (.mov (.r 0)), op 15 (.mov (.r 1)), op 16 (.bin .lss (.r 14) (.r 15))]) <|
  .cond (.r 16)
    (sq (.ops [op 4 (.mov (.c (.int .i64 (-1))))]) <|
    .ret)
    (.skip)) <|
  sq (sq (.ops [op 17 (.mov (.r 0)), op 18 (.mov (.r 1)), op 19 (.bin .gtr (.r 17) (.r 18))]) <|
  .cond (.r 19)
    (sq (.ops [op 4 (.mov (.c (.int .i64 1)))]) <|
    .ret)
    (.skip)) <|
  sq (.ops [op 4 (.mov (.c (.int .i64 0)))]) <|
  .ret⟩
def an63 : An := ⟨[], []⟩
def ir63 : Go.Rmp.Fn := ⟨20, 2, [.t 4],
  sq (.ops [op 4 (.mov (.c (.int .i64 0)))]) <|
  sq (.ops [op 7 (.mov (.r 0)), cl 8 80 [(.r 7)], op 5 (.mov (.r 8))]) <|
  sq (.ops [op 9 (.mov (.r 1)), cl 10 80 [(.r 9)], op 6 (.mov (.r 10))]) <|
  sq (sq (.ops [op 11 (.mov (.r 5))]) <|
  .cond (.r 11)
    (sq (sq (.ops [op 12 (.mov (.r 6))]) <|
    .cond (.r 12)
      (sq (.ops [op 4 (.mov (.c (.int .i64 0)))]) <|
      .ret)
      (.skip)) <|
    sq (.ops [op 4 (.mov (.c (.int .i64 (-1))))]) <|
    .ret)
    (.skip)) <|
  sq (sq (.ops [op 13 (.mov (.r 6))]) <|
  .cond (.r 13)
    (sq (.ops [op 4 (.mov (.c (.int .i64 1)))]) <|
    .ret)
    (.skip)) <|
  sq (sq (.ops [op 14 (.mov (.r 0)), op 15 (.mov (.r 1)), op 16 (.bin .lss (.r 14) (.r 15))]) <|
  .cond (.r 16)
    (sq (.ops [op 4 (.mov (.c (.int .i64 (-1))))]) <|
    .ret)
    (.skip)) <|
  sq (sq (.ops [op 17 (.mov (.r 0)), op 18 (.mov (.r 1)), op 19 (.bin .gtr (.r 17) (.r 18))]) <|
  .cond (.r 19)
    (sq (.ops [op 4 (.mov (.c (.int .i64 1)))]) <|
    .ret)
    (.skip)) <|
  sq (.ops [op 4 (.mov (.c (.int .i64 0)))]) <|
  .ret⟩
def an64 : An := ⟨[], []⟩
def ir64 : Go.Rmp.Fn := ⟨8, 2, [.t 4],
  sq (.ops [op 3 (.box (.r 1)), op 4 (.mov (.c (.sl .nil [])))]) <|
  sq (.ops [op 5 (.mov (.r 0)), op 6 (.mkf 82 [(.r 3)]), cl 7 81 [(.r 5), (.r 6)], op 4 (.mov (.r 7))]) <|
  .ret⟩
def an65 : An := ⟨[], []⟩
def ir65 : Go.Rmp.Fn := ⟨8, 2, [.t 4],
  sq (.ops [op 3 (.box (.r 1)), op 4 (.mov (.c (.sl .nil [])))]) <|
  sq (.ops [op 5 (.mov (.r 0)), op 6 (.mkf 84 [(.r 3)]), cl 7 83 [(.r 5), (.r 6)], op 4 (.mov (.r 7))]) <|
  .ret⟩
def an66 : An := ⟨[], []⟩
def ir66 : Go.Rmp.Fn := ⟨5, 1, [.t 2],
  sq (.ops [op 2 (.mov (.c (.sl .nil [])))]) <|
  sq (.ops [op 3 (.mov (.r 0)), cl 4 85 [(.c (.sl .nil [])), (.r 3)], op 2 (.mov (.r 4))]) <|
  .ret⟩
def an67 : An := ⟨[], []⟩
def ir67 : Go.Rmp.Fn := ⟨11, 1, [],
  sq (.ops [op 3 (.mov (.r 0)), op 4 (.len .sl (.r 3)), op 2 (.mov (.r 4))]) <|
  .ops [op 5 (.mov (.r 0)), op 6 (.mov (.r 2)), op 7 (.mov (.r 2)), op 8 (.cvi .u64 (.r 7)), cl 9 78 [(.r 8)], cl 10 86 [(.r 5), (.c (.int .i64 0)), (.r 6), (.r 9)]]⟩
def an68 : An := ⟨[], []⟩
def ir68 : Go.Rmp.Fn := ⟨14, 2, [],
  sq (.ops [op 4 (.ld 1 false (.r 1)), op 5 (.rng (.r 4))]) <|
  .block 0 (
    .loop (
      sq (.ops [op 6 (.nxt (.r 5)), op 7 (.ext 0 (.r 6))]) <|
      sq (.cond (.r 7)
        (.skip)
        (.exit 0)) <|
      .block 1 (
        sq (.ops [op 8 (.ent (.r 5)), op 9 (.ext 0 (.r 8)), op 3 (.mov (.r 9))]) <|
        sq (.ops [op 10 (.mov (.r 0)), op 11 (.mov (.r 3)), ⟨(some 12), .callv (.r 10) [(.r 11)], none, []⟩, op 13 (.un .not (.r 12))]) <|
        .cond (.r 13)
          (.ret)
          (.skip))))⟩
def an69 : An := ⟨[], []⟩
def ir69 : Go.Rmp.Fn := ⟨54, 2, [.t 4, .t 5],
  sq (.ops [op 4 (.mov (.c (.int .i64 0))), op 5 (.mov (.c (.bool false)))]) <|
  sq (.ops [op 10 (.mov (.r 0)), op 11 (.len .sl (.r 10)), op 6 (.mov (.r 11))]) <|
  sq (.ops [op 12 (.mov (.r 6)), op 7 (.mov (.c (.int .i64 0))), op 8 (.mov (.r 12))]) <|
  sq (.block 0 (
    .loop (
      sq (sq (.ops [op 13 (.mov (.r 7)), op 14 (.mov (.r 8)), op 15 (.bin .lss (.r 13) (.r 14))]) <|
      .cond (.r 15)
        (.skip)
        (.exit 0)) <|
      .block 1 (
        sq (.ops [op 16 (.mov (.r 7)), op 17 (.mov (.r 8)), op 18 (.bin .add (.r 16) (.r 17)), op 19 (.cvi .u64 (.r 18)), op 20 (.bin .shr (.r 19) (.c (.int .u64 1))), op 21 (.cvi .i64 (.r 20)), op 9 (.mov (.r 21))]) <|
        sq (.ops [op 22 (.mov (.r 0)), op 23 (.mov (.r 9)), op 24 (.iad 1 (.r 22) (.r 23)), op 25 (.ld 1 false (.r 24)), op 26 (.mov (.r 1)), cl 27 87 [(.r 25), (.r 26)]]) <|
        .cond (.r 27)
          (.ops [op 28 (.mov (.r 9)), op 29 (.bin .add (.r 28) (.c (.int .i64 1))), op 7 (.mov (.r 29))])
          (.ops [op 30 (.mov (.r 9)), op 8 (.mov (.r 30))]))))) <|
  sq (.ops [op 31 (.mov (.r 7)), op 32 (.mov (.r 7)), op 33 (.mov (.r 6)), op 34 (.bin .lss (.r 32) (.r 33)), op 35 (.mov (.r 34)), ⟨(some 36), .b (.mov (.r 0)), (some (35, true)), []⟩, ⟨(some 37), .b (.mov (.r 7)), (some (35, true)), []⟩, ⟨(some 38), .b (.iad 1 (.r 36) (.r 37)), (some (35, true)), []⟩, ⟨(some 39), .b (.ld 1 false (.r 38)), (some (35, true)), []⟩, ⟨(some 40), .b (.mov (.r 1)), (some (35, true)), []⟩, ⟨(some 41), .b (.bin .eql (.r 39) (.r 40)), (some (35, true)), []⟩, ⟨(some 42), .b (.mov (.r 41)), (some (35, true)), []⟩, ⟨(some 43), .b (.mov (.r 0)), (some (42, false)), []⟩, ⟨(some 44), .b (.mov (.r 7)), (some (42, false)), []⟩, ⟨(some 45), .b (.iad 1 (.r 43) (.r 44)), (some (42, false)), []⟩, ⟨(some 46), .b (.ld 1 false (.r 45)), (some (42, false)), []⟩, ⟨(some 47), .call 88 [(.r 46)], (some (42, false)), []⟩, ⟨(some 48), .b (.mov (.r 47)), (some (42, false)), []⟩, ⟨(some 49), .b (.mov (.r 1)), (some (48, true)), []⟩, ⟨(some 50), .call 88 [(.r 49)], (some (48, true)), []⟩, ⟨(some 51), .b (.pick (.r 48) (.r 50) (.c (.bool false))), (some (42, false)), []⟩, ⟨(some 52), .b (.pick (.r 42) (.c (.bool true)) (.r 51)), (some (35, true)), []⟩, op 53 (.pick (.r 35) (.r 52) (.c (.bool false))), op 4 (.mov (.r 31)), op 5 (.mov (.r 53))]) <|
  .ret⟩
def an70 : An := ⟨[], []⟩
def ir70 : Go.Rmp.Fn := ⟨17, 2, [.t 4],
  sq (.ops [op 4 (.mov (.c (.bool false)))]) <|
  sq (.ops [op 5 (.mov (.r 0)), cl 6 80 [(.r 5)], op 7 (.mov (.r 6)), ⟨(some 8), .b (.mov (.r 1)), (some (7, true)), []⟩, ⟨(some 9), .call 80 [(.r 8)], (some (7, true)), []⟩, ⟨(some 10), .b (.un .not (.r 9)), (some (7, true)), []⟩, op 11 (.pick (.r 7) (.r 10) (.c (.bool false))), op 12 (.mov (.r 11)), ⟨(some 13), .b (.mov (.r 0)), (some (12, false)), []⟩, ⟨(some 14), .b (.mov (.r 1)), (some (12, false)), []⟩, ⟨(some 15), .b (.bin .lss (.r 13) (.r 14)), (some (12, false)), []⟩, op 16 (.pick (.r 12) (.c (.bool true)) (.r 15)), op 4 (.mov (.r 16))]) <|
  .ret⟩
def an71 : An := ⟨[], []⟩
def ir71 : Go.Rmp.Fn := ⟨6, 1, [.t 2],
  sq (.ops [op 2 (.mov (.c (.bool false)))]) <|
  sq (.ops [op 3 (.mov (.r 0)), op 4 (.mov (.r 0)), op 5 (.bin .neq (.r 3) (.r 4)), op 2 (.mov (.r 5))]) <|
  .ret⟩
def an74 : An := ⟨[], []⟩
def ir74 : Go.Rmp.Fn := ⟨24, 1, [.t 2],
  sq (.ops [op 2 (.mov (.c (.bool false)))]) <|
  sq (sq (.ops [op 3 (.mov (.c (.int .i64 0)))]) <|
  .block 0 (
    .loop (
      sq (sq (.ops [op 4 (.mov (.r 3)), op 5 (.mov (.r 0)), op 6 (.len .sl (.r 5)), op 7 (.bin .lss (.r 4) (.r 6))]) <|
      .cond (.r 7)
        (.skip)
        (.exit 0)) <|
      sq (.block 1 (
        sq (.ops [op 10 (.mov (.r 0)), op 11 (.mov (.r 3)), op 12 (.iad 1 (.r 10) (.r 11)), op 13 (.ld 1 false (.r 12)), op 14 (.len .str (.r 13)), op 15 (.bin .gtr (.r 14) (.c (.int .i64 65535)))]) <|
        .cond (.r 15)
          (sq (.ops [op 2 (.mov (.c (.bool false)))]) <|
          .ret)
          (.skip))) <|
      .ops [op 8 (.mov (.r 3)), op 9 (.bin .add (.r 8) (.c (.int .i64 1))), op 3 (.mov (.r 9))]))) <|
  sq (.ops [op 16 (.mov (.r 0)), op 17 (.len .sl (.r 16)), op 18 (.bin .geq (.r 17) (.c (.int .i64 1))), op 19 (.mov (.r 18)), ⟨(some 20), .b (.mov (.r 0)), (some (19, true)), []⟩, ⟨(some 21), .b (.len .sl (.r 20)), (some (19, true)), []⟩, ⟨(some 22), .b (.bin .leq (.r 21) (.c (.int .i64 1024))), (some (19, true)), []⟩, op 23 (.pick (.r 19) (.r 22) (.c (.bool false))), op 2 (.mov (.r 23))]) <|
  .ret⟩
def an75 : An := ⟨[], [(4, [(0, true), (1, true), (2, true), (3, true), (4, true), (5, true), (6, true), (7, true), (8, true), (9, true)])]⟩
def ir75 : Go.Rmp.Fn := ⟨20, 1, [.t 2],
  sq (.ops [op 2 (.mov (.c (.bool false)))]) <|
  sq (sq (.ops [op 3 (.mov (.c (.int .i64 1)))]) <|
  .block 0 (
    .loop (
      sq (sq (.ops [op 4 (.mov (.r 3)), op 5 (.mov (.r 0)), op 6 (.len .sl (.r 5)), op 7 (.bin .lss (.r 4) (.r 6))]) <|
      .cond (.r 7)
        (.skip)
        (.exit 0)) <|
      sq (.block 1 (
        sq (.ops [op 10 (.mov (.r 0)), op 11 (.mov (.r 3)), op 12 (.bin .sub (.r 11) (.c (.int .i64 1))), op 13 (.iad 1 (.r 10) (.r 12)), op 14 (.ld 1 false (.r 13)), op 15 (.mov (.r 0)), op 16 (.mov (.r 3)), op 17 (.iad 1 (.r 15) (.r 16)), op 18 (.ld 1 false (.r 17)), op 19 (.bin .geq (.r 14) (.r 18))]) <|
        .cond (.r 19)
          (sq (.ops [op 2 (.mov (.c (.bool false)))]) <|
          .ret)
          (.skip))) <|
      .ops [op 8 (.mov (.r 3)), op 9 (.bin .add (.r 8) (.c (.int .i64 1))), op 3 (.mov (.r 9))]))) <|
  sq (.ops [op 2 (.mov (.c (.bool true)))]) <|
  .ret⟩
def an76 : An := ⟨[(3, 3)], []⟩
def ir76 : Go.Rmp.Fn := ⟨13, 2, [.t 4],
  sq (.ops [op 2 (.box (.r 0)), op 4 (.mov (.c (.sl .nil [])))]) <|
  sq (sq (.ops [op 6 (.mov (.r 1))]) <|
  .block 0 (
    .rangeF 13 (.r 6) [7]
      (.ops [op 5 (.alloc [.str ⟨#[]⟩, .int .u64 0]), ef (.st 2 (.r 5) (.r 7))])
      (.block 1 (
        .ops [op 8 (.ld 1 false (.r 2)), op 9 (.ld 2 true (.r 5)), op 10 (.bsl 1 [.str ⟨#[]⟩, .int .u64 0] [(0, (.r 9))]), op 11 (.app 2 24 true (.r 8) (.r 10)), ef (.st 1 (.r 2) (.r 11))])))) <|
  sq (.ops [op 12 (.ld 1 false (.r 2)), op 4 (.mov (.r 12))]) <|
  .ret⟩
def an77 : An := ⟨[], [(17, [(0, true), (1, true), (2, true), (3, true), (4, true), (5, true), (6, true), (7, true), (8, true), (9, true), (10, true), (11, true), (12, true), (13, false), (14, true), (15, true), (16, true)])]⟩
def ir77 : Go.Rmp.Fn := ⟨148, 5, [],
  sq (.ops [op 10 (.mov (.c (.bool true)))]) <|
  sq (.ops [op 11 (.mov (.c (.bool true)))]) <|
  .block 0 (
    .loop (
      .block 1 (
        sq (.ops [op 21 (.mov (.r 2)), op 22 (.mov (.r 1)), op 23 (.bin .sub (.r 21) (.r 22)), op 12 (.mov (.r 23))]) <|
        sq (sq (.ops [op 24 (.mov (.r 12)), op 25 (.bin .leq (.r 24) (.c (.int .i64 12)))]) <|
        .cond (.r 25)
          (sq (.ops [op 26 (.mov (.r 0)), op 27 (.mov (.r 1)), op 28 (.mov (.r 2)), op 29 (.mov (.r 4)), cl 30 90 [(.r 26), (.r 27), (.r 28), (.r 29)]]) <|
          .ret)
          (.skip)) <|
        sq (sq (.ops [op 31 (.mov (.r 3)), op 32 (.bin .eql (.r 31) (.c (.int .i64 0)))]) <|
        .cond (.r 32)
          (sq (.ops [op 33 (.mov (.r 0)), op 34 (.mov (.r 1)), op 35 (.mov (.r 2)), op 36 (.mov (.r 4)), cl 37 91 [(.r 33), (.r 34), (.r 35), (.r 36)]]) <|
          .ret)
          (.skip)) <|
        sq (sq (.ops [op 38 (.mov (.r 10)), op 39 (.un .not (.r 38))]) <|
        .cond (.r 39)
          (sq (.ops [op 40 (.mov (.r 0)), op 41 (.mov (.r 1)), op 42 (.mov (.r 2)), op 43 (.mov (.r 4)), cl 44 92 [(.r 40), (.r 41), (.r 42), (.r 43)]]) <|
          .ops [op 45 (.mov (.r 3)), op 46 (.bin .sub (.r 45) (.c (.int .i64 1))), op 3 (.mov (.r 46))])
          (.skip)) <|
        sq (.ops [op 48 (.mov (.r 0)), op 49 (.mov (.r 1)), op 50 (.mov (.r 2)), op 51 (.mov (.r 4)), cl 52 93 [(.r 48), (.r 49), (.r 50), (.r 51)], op 47 (.mov (.r 52)), op 53 (.ext 0 (.r 47)), op 54 (.ext 1 (.r 47)), op 13 (.mov (.r 53)), op 14 (.mov (.r 54))]) <|
        sq (sq (.ops [op 55 (.mov (.r 14)), op 56 (.bin .eql (.r 55) (.c (.int .i64 2)))]) <|
        .cond (.r 56)
          (sq (.ops [op 57 (.mov (.r 0)), op 58 (.mov (.r 1)), op 59 (.mov (.r 2)), op 60 (.mov (.r 4)), cl 61 94 [(.r 57), (.r 58), (.r 59), (.r 60)]]) <|
          sq (.ops [op 62 (.mov (.r 2)), op 63 (.bin .sub (.r 62) (.c (.int .i64 1))), op 64 (.mov (.r 13)), op 65 (.mov (.r 1)), op 66 (.bin .sub (.r 64) (.r 65)), op 67 (.bin .sub (.r 63) (.r 66)), op 13 (.mov (.r 67))]) <|
          .ops [op 14 (.mov (.c (.int .i64 1)))])
          (.skip)) <|
        sq (sq (.ops [op 68 (.mov (.r 10)), op 69 (.mov (.r 68)), ⟨(some 70), .b (.mov (.r 11)), (some (69, true)), []⟩, op 71 (.pick (.r 69) (.r 70) (.c (.bool false))), op 72 (.mov (.r 71)), ⟨(some 73), .b (.mov (.r 14)), (some (72, true)), []⟩, ⟨(some 74), .b (.bin .eql (.r 73) (.c (.int .i64 1))), (some (72, true)), []⟩, op 75 (.pick (.r 72) (.r 74) (.c (.bool false)))]) <|
        .cond (.r 75)
          (sq (.ops [op 76 (.mov (.r 0)), op 77 (.mov (.r 1)), op 78 (.mov (.r 2)), op 79 (.mov (.r 4)), cl 80 95 [(.r 76), (.r 77), (.r 78), (.r 79)]]) <|
          .cond (.r 80)
            (.ret)
            (.skip))
          (.skip)) <|
        sq (sq (.ops [op 81 (.mov (.r 1)), op 82 (.bin .gtr (.r 81) (.c (.int .i64 0))), op 83 (.mov (.r 82)), ⟨(some 84), .b (.mov (.r 4)), (some (83, true)), []⟩, ⟨(some 85), .b (.mov (.r 0)), (some (83, true)), []⟩, ⟨(some 86), .b (.mov (.r 1)), (some (83, true)), []⟩, ⟨(some 87), .b (.bin .sub (.r 86) (.c (.int .i64 1))), (some (83, true)), []⟩, ⟨(some 88), .b (.iad 2 (.r 85) (.r 87)), (some (83, true)), []⟩, ⟨(some 89), .b (.ld 2 true (.r 88)), (some (83, true)), []⟩, ⟨(some 90), .b (.mov (.r 0)), (some (83, true)), []⟩, ⟨(some 91), .b (.mov (.r 13)), (some (83, true)), []⟩, ⟨(some 92), .b (.iad 2 (.r 90) (.r 91)), (some (83, true)), []⟩, ⟨(some 93), .b (.ld 2 true (.r 92)), (some (83, true)), []⟩, ⟨(some 94), .callv (.r 84) [(.r 89), (.r 93)], (some (83, true)), []⟩, ⟨(some 95), .b (.bin .lss (.r 94) (.c (.int .i64 0))), (some (83, true)), []⟩, ⟨(some 96), .b (.un .not (.r 95)), (some (83, true)), []⟩, op 97 (.pick (.r 83) (.r 96) (.c (.bool false)))]) <|
        .cond (.r 97)
          (sq (.ops [op 98 (.mov (.r 0)), op 99 (.mov (.r 1)), op 100 (.mov (.r 2)), op 101 (.mov (.r 13)), op 102 (.mov (.r 4)), cl 103 96 [(.r 98), (.r 99), (.r 100), (.r 101), (.r 102)], op 15 (.mov (.r 103))]) <|
          sq (.ops [op 104 (.mov (.r 15)), op 1 (.mov (.r 104))]) <|
          .exit 1)
          (.skip)) <|
        sq (.ops [op 106 (.mov (.r 0)), op 107 (.mov (.r 1)), op 108 (.mov (.r 2)), op 109 (.mov (.r 13)), op 110 (.mov (.r 4)), cl 111 97 [(.r 106), (.r 107), (.r 108), (.r 109), (.r 110)], op 105 (.mov (.r 111)), op 112 (.ext 0 (.r 105)), op 113 (.ext 1 (.r 105)), op 16 (.mov (.r 112)), op 17 (.mov (.r 113))]) <|
        sq (.ops [op 114 (.mov (.r 17)), op 11 (.mov (.r 114))]) <|
        sq (.ops [op 115 (.mov (.r 16)), op 116 (.mov (.r 1)), op 117 (.bin .sub (.r 115) (.r 116)), op 118 (.mov (.r 2)), op 119 (.mov (.r 16)), op 120 (.bin .sub (.r 118) (.r 119)), op 18 (.mov (.r 117)), op 19 (.mov (.r 120))]) <|
        sq (.ops [op 121 (.mov (.r 12)), op 122 (.bin .quo (.r 121) (.c (.int .i64 8))), op 20 (.mov (.r 122))]) <|
        sq (.ops [op 123 (.mov (.r 18)), op 124 (.mov (.r 19)), op 125 (.bin .lss (.r 123) (.r 124))]) <|
        .cond (.r 125)
          (sq (.ops [op 126 (.mov (.r 18)), op 127 (.mov (.r 20)), op 128 (.bin .geq (.r 126) (.r 127)), op 10 (.mov (.r 128))]) <|
          sq (.ops [op 129 (.mov (.r 0)), op 130 (.mov (.r 1)), op 131 (.mov (.r 16)), op 132 (.mov (.r 3)), op 133 (.mov (.r 4)), cl 134 77 [(.r 129), (.r 130), (.r 131), (.r 132), (.r 133)]]) <|
          .ops [op 135 (.mov (.r 16)), op 136 (.bin .add (.r 135) (.c (.int .i64 1))), op 1 (.mov (.r 136))])
          (sq (.ops [op 137 (.mov (.r 19)), op 138 (.mov (.r 20)), op 139 (.bin .geq (.r 137) (.r 138)), op 10 (.mov (.r 139))]) <|
          sq (.ops [op 140 (.mov (.r 0)), op 141 (.mov (.r 16)), op 142 (.bin .add (.r 141) (.c (.int .i64 1))), op 143 (.mov (.r 2)), op 144 (.mov (.r 3)), op 145 (.mov (.r 4)), cl 146 77 [(.r 140), (.r 142), (.r 143), (.r 144), (.r 145)]]) <|
          .ops [op 147 (.mov (.r 16)), op 2 (.mov (.r 147))]))))⟩
def an78 : An := ⟨[], []⟩
def ir78 : Go.Rmp.Fn := ⟨8, 1, [.t 2],
  sq (.ops [op 2 (.mov (.c (.int .i64 0)))]) <|
  sq (.cond (.c (.bool false))
    (sq (.ops [op 3 (.mov (.r 0)), op 4 (.cvi .u32 (.r 3)), cl 5 98 [(.r 4)], op 2 (.mov (.r 5))]) <|
    .ret)
    (.skip)) <|
  sq (.ops [op 6 (.mov (.r 0)), cl 7 99 [(.r 6)], op 2 (.mov (.r 7))]) <|
  .ret⟩
def an79 : An := ⟨[], []⟩
def ir79 : Go.Rmp.Fn := ⟨6, 1, [.t 2],
  sq (.ops [op 2 (.mov (.c (.bool false)))]) <|
  sq (.ops [op 3 (.mov (.r 0)), op 4 (.mov (.r 0)), op 5 (.bin .neq (.r 3) (.r 4)), op 2 (.mov (.r 5))]) <|
  .ret⟩
def an80 : An := ⟨[], []⟩
def ir80 : Go.Rmp.Fn := ⟨6, 1, [.t 2],
  sq (.ops [op 2 (.mov (.c (.bool false)))]) <|
  sq (.ops [op 3 (.mov (.r 0)), op 4 (.mov (.r 0)), op 5 (.bin .neq (.r 3) (.r 4)), op 2 (.mov (.r 5))]) <|
  .ret⟩
def an81 : An := ⟨[], []⟩
def ir81 : Go.Rmp.Fn := ⟨42, 2, [.t 4],
  sq (.ops [op 4 (.mov (.c (.sl .nil [])))]) <|
  sq (.ops [op 8 (.mov (.r 0)), op 9 (.mov (.r 1)), cl 10 100 [(.r 8), (.r 9)], op 5 (.mov (.r 10))]) <|
  sq (sq (.ops [op 11 (.mov (.r 5)), op 12 (.bin .eql (.r 11) (.c (.int .i64 (-1))))]) <|
  .cond (.r 12)
    (sq (.ops [op 13 (.mov (.r 0)), op 4 (.mov (.r 13))]) <|
    .ret)
    (.skip)) <|
  sq (sq (.ops [op 14 (.mov (.r 5)), op 15 (.bin .add (.r 14) (.c (.int .i64 1))), op 6 (.mov (.r 15))]) <|
  .block 0 (
    .loop (
      sq (sq (.ops [op 16 (.mov (.r 6)), op 17 (.mov (.r 0)), op 18 (.len .sl (.r 17)), op 19 (.bin .lss (.r 16) (.r 18))]) <|
      .cond (.r 19)
        (.skip)
        (.exit 0)) <|
      sq (.block 1 (
        sq (.ops [op 22 (.mov (.r 0)), op 23 (.mov (.r 6)), op 24 (.iad 1 (.r 22) (.r 23)), op 25 (.ld 1 false (.r 24)), op 7 (.mov (.r 25))]) <|
        sq (.ops [op 26 (.mov (.r 1)), op 27 (.mov (.r 7)), ⟨(some 28), .callv (.r 26) [(.r 27)], none, []⟩, op 29 (.un .not (.r 28))]) <|
        .cond (.r 29)
          (sq (.ops [op 30 (.mov (.r 0)), op 31 (.mov (.r 5)), op 32 (.mov (.r 7)), op 33 (.iad 1 (.r 30) (.r 31)), ef (.st 1 (.r 33) (.r 32))]) <|
          .ops [op 34 (.mov (.r 5)), op 35 (.bin .add (.r 34) (.c (.int .i64 1))), op 5 (.mov (.r 35))])
          (.skip))) <|
      .ops [op 20 (.mov (.r 6)), op 21 (.bin .add (.r 20) (.c (.int .i64 1))), op 6 (.mov (.r 21))]))) <|
  sq (.ops [op 36 (.mov (.r 0)), op 37 (.mov (.r 5)), op 38 (.sll 1 (.r 36) (some (.r 37)) none none), ef (.clr 1 [.int .u64 0] (.r 38))]) <|
  sq (.ops [op 39 (.mov (.r 0)), op 40 (.mov (.r 5)), op 41 (.sll 1 (.r 39) none (some (.r 40)) none), op 4 (.mov (.r 41))]) <|
  .ret⟩
def an82 : An := ⟨[], []⟩
def ir82 : Go.Rmp.Fn := ⟨7, 2, [.t 3],
  sq (.ops [op 3 (.mov (.c (.bool false)))]) <|
  sq (.ops [op 4 (.mov (.r 0)), op 5 (.ld 1 false (.r 1)), op 6 (.bin .eql (.r 4) (.r 5)), op 3 (.mov (.r 6))]) <|
  .ret⟩
def an83 : An := ⟨[], []⟩
def ir83 : Go.Rmp.Fn := ⟨42, 2, [.t 4],
  sq (.ops [op 4 (.mov (.c (.sl .nil [])))]) <|
  sq (.ops [op 8 (.mov (.r 0)), op 9 (.mov (.r 1)), cl 10 101 [(.r 8), (.r 9)], op 5 (.mov (.r 10))]) <|
  sq (sq (.ops [op 11 (.mov (.r 5)), op 12 (.bin .eql (.r 11) (.c (.int .i64 (-1))))]) <|
  .cond (.r 12)
    (sq (.ops [op 13 (.mov (.r 0)), op 4 (.mov (.r 13))]) <|
    .ret)
    (.skip)) <|
  sq (sq (.ops [op 14 (.mov (.r 5)), op 15 (.bin .add (.r 14) (.c (.int .i64 1))), op 6 (.mov (.r 15))]) <|
  .block 0 (
    .loop (
      sq (sq (.ops [op 16 (.mov (.r 6)), op 17 (.mov (.r 0)), op 18 (.len .sl (.r 17)), op 19 (.bin .lss (.r 16) (.r 18))]) <|
      .cond (.r 19)
        (.skip)
        (.exit 0)) <|
      sq (.block 1 (
        sq (.ops [op 22 (.mov (.r 0)), op 23 (.mov (.r 6)), op 24 (.iad 1 (.r 22) (.r 23)), op 25 (.ld 1 false (.r 24)), op 7 (.mov (.r 25))]) <|
        sq (.ops [op 26 (.mov (.r 1)), op 27 (.mov (.r 7)), ⟨(some 28), .callv (.r 26) [(.r 27)], none, []⟩, op 29 (.un .not (.r 28))]) <|
        .cond (.r 29)
          (sq (.ops [op 30 (.mov (.r 0)), op 31 (.mov (.r 5)), op 32 (.mov (.r 7)), op 33 (.iad 1 (.r 30) (.r 31)), ef (.st 1 (.r 33) (.r 32))]) <|
          .ops [op 34 (.mov (.r 5)), op 35 (.bin .add (.r 34) (.c (.int .i64 1))), op 5 (.mov (.r 35))])
          (.skip))) <|
      .ops [op 20 (.mov (.r 6)), op 21 (.bin .add (.r 20) (.c (.int .i64 1))), op 6 (.mov (.r 21))]))) <|
  sq (.ops [op 36 (.mov (.r 0)), op 37 (.mov (.r 5)), op 38 (.sll 1 (.r 36) (some (.r 37)) none none), ef (.clr 1 [.str ⟨#[]⟩] (.r 38))]) <|
  sq (.ops [op 39 (.mov (.r 0)), op 40 (.mov (.r 5)), op 41 (.sll 1 (.r 39) none (some (.r 40)) none), op 4 (.mov (.r 41))]) <|
  .ret⟩
def an84 : An := ⟨[], []⟩
def ir84 : Go.Rmp.Fn := ⟨7, 2, [.t 3],
  sq (.ops [op 3 (.mov (.c (.bool false)))]) <|
  sq (.ops [op 4 (.mov (.r 0)), op 5 (.ld 1 false (.r 1)), op 6 (.bin .eql (.r 4) (.r 5)), op 3 (.mov (.r 6))]) <|
  .ret⟩
def an85 : An := ⟨[(3, 3)], []⟩
def ir85 : Go.Rmp.Fn := ⟨13, 2, [.t 4],
  sq (.ops [op 2 (.box (.r 0)), op 4 (.mov (.c (.sl .nil [])))]) <|
  sq (sq (.ops [op 6 (.mov (.r 1))]) <|
  .block 0 (
    .rangeF 13 (.r 6) [7]
      (.ops [op 5 (.mov (.r 7))])
      (.block 1 (
        .ops [op 8 (.ld 1 false (.r 2)), op 9 (.mov (.r 5)), op 10 (.bsl 1 [.str ⟨#[]⟩] [(0, (.r 9))]), op 11 (.app 1 16 true (.r 8) (.r 10)), ef (.st 1 (.r 2) (.r 11))])))) <|
  sq (.ops [op 12 (.ld 1 false (.r 2)), op 4 (.mov (.r 12))]) <|
  .ret⟩
def an86 : An := ⟨[], [(17, [(0, true), (1, true), (2, true), (3, true), (4, true), (5, true), (6, true), (7, true), (8, true), (9, true), (10, true), (11, true), (12, false), (13, true), (14, true)])]⟩
def ir86 : Go.Rmp.Fn := ⟨134, 4, [],
  sq (.ops [op 8 (.mov (.c (.bool true)))]) <|
  sq (.ops [op 9 (.mov (.c (.bool true)))]) <|
  .block 0 (
    .loop (
      .block 1 (
        sq (.ops [op 19 (.mov (.r 2)), op 20 (.mov (.r 1)), op 21 (.bin .sub (.r 19) (.r 20)), op 10 (.mov (.r 21))]) <|
        sq (sq (.ops [op 22 (.mov (.r 10)), op 23 (.bin .leq (.r 22) (.c (.int .i64 12)))]) <|
        .cond (.r 23)
          (sq (.ops [op 24 (.mov (.r 0)), op 25 (.mov (.r 1)), op 26 (.mov (.r 2)), cl 27 102 [(.r 24), (.r 25), (.r 26)]]) <|
          .ret)
          (.skip)) <|
        sq (sq (.ops [op 28 (.mov (.r 3)), op 29 (.bin .eql (.r 28) (.c (.int .i64 0)))]) <|
        .cond (.r 29)
          (sq (.ops [op 30 (.mov (.r 0)), op 31 (.mov (.r 1)), op 32 (.mov (.r 2)), cl 33 103 [(.r 30), (.r 31), (.r 32)]]) <|
          .ret)
          (.skip)) <|
        sq (sq (.ops [op 34 (.mov (.r 8)), op 35 (.un .not (.r 34))]) <|
        .cond (.r 35)
          (sq (.ops [op 36 (.mov (.r 0)), op 37 (.mov (.r 1)), op 38 (.mov (.r 2)), cl 39 104 [(.r 36), (.r 37), (.r 38)]]) <|
          .ops [op 40 (.mov (.r 3)), op 41 (.bin .sub (.r 40) (.c (.int .i64 1))), op 3 (.mov (.r 41))])
          (.skip)) <|
        sq (.ops [op 43 (.mov (.r 0)), op 44 (.mov (.r 1)), op 45 (.mov (.r 2)), cl 46 105 [(.r 43), (.r 44), (.r 45)], op 42 (.mov (.r 46)), op 47 (.ext 0 (.r 42)), op 48 (.ext 1 (.r 42)), op 11 (.mov (.r 47)), op 12 (.mov (.r 48))]) <|
        sq (sq (.ops [op 49 (.mov (.r 12)), op 50 (.bin .eql (.r 49) (.c (.int .i64 2)))]) <|
        .cond (.r 50)
          (sq (.ops [op 51 (.mov (.r 0)), op 52 (.mov (.r 1)), op 53 (.mov (.r 2)), cl 54 106 [(.r 51), (.r 52), (.r 53)]]) <|
          sq (.ops [op 55 (.mov (.r 2)), op 56 (.bin .sub (.r 55) (.c (.int .i64 1))), op 57 (.mov (.r 11)), op 58 (.mov (.r 1)), op 59 (.bin .sub (.r 57) (.r 58)), op 60 (.bin .sub (.r 56) (.r 59)), op 11 (.mov (.r 60))]) <|
          .ops [op 12 (.mov (.c (.int .i64 1)))])
          (.skip)) <|
        sq (sq (.ops [op 61 (.mov (.r 8)), op 62 (.mov (.r 61)), ⟨(some 63), .b (.mov (.r 9)), (some (62, true)), []⟩, op 64 (.pick (.r 62) (.r 63) (.c (.bool false))), op 65 (.mov (.r 64)), ⟨(some 66), .b (.mov (.r 12)), (some (65, true)), []⟩, ⟨(some 67), .b (.bin .eql (.r 66) (.c (.int .i64 1))), (some (65, true)), []⟩, op 68 (.pick (.r 65) (.r 67) (.c (.bool false)))]) <|
        .cond (.r 68)
          (sq (.ops [op 69 (.mov (.r 0)), op 70 (.mov (.r 1)), op 71 (.mov (.r 2)), cl 72 107 [(.r 69), (.r 70), (.r 71)]]) <|
          .cond (.r 72)
            (.ret)
            (.skip))
          (.skip)) <|
        sq (sq (.ops [op 73 (.mov (.r 1)), op 74 (.bin .gtr (.r 73) (.c (.int .i64 0))), op 75 (.mov (.r 74)), ⟨(some 76), .b (.mov (.r 0)), (some (75, true)), []⟩, ⟨(some 77), .b (.mov (.r 1)), (some (75, true)), []⟩, ⟨(some 78), .b (.bin .sub (.r 77) (.c (.int .i64 1))), (some (75, true)), []⟩, ⟨(some 79), .b (.iad 1 (.r 76) (.r 78)), (some (75, true)), []⟩, ⟨(some 80), .b (.ld 1 false (.r 79)), (some (75, true)), []⟩, ⟨(some 81), .b (.mov (.r 0)), (some (75, true)), []⟩, ⟨(some 82), .b (.mov (.r 11)), (some (75, true)), []⟩, ⟨(some 83), .b (.iad 1 (.r 81) (.r 82)), (some (75, true)), []⟩, ⟨(some 84), .b (.ld 1 false (.r 83)), (some (75, true)), []⟩, ⟨(some 85), .call 87 [(.r 80), (.r 84)], (some (75, true)), []⟩, ⟨(some 86), .b (.un .not (.r 85)), (some (75, true)), []⟩, op 87 (.pick (.r 75) (.r 86) (.c (.bool false)))]) <|
        .cond (.r 87)
          (sq (.ops [op 88 (.mov (.r 0)), op 89 (.mov (.r 1)), op 90 (.mov (.r 2)), op 91 (.mov (.r 11)), cl 92 108 [(.r 88), (.r 89), (.r 90), (.r 91)], op 13 (.mov (.r 92))]) <|
          sq (.ops [op 93 (.mov (.r 13)), op 1 (.mov (.r 93))]) <|
          .exit 1)
          (.skip)) <|
        sq (.ops [op 95 (.mov (.r 0)), op 96 (.mov (.r 1)), op 97 (.mov (.r 2)), op 98 (.mov (.r 11)), cl 99 109 [(.r 95), (.r 96), (.r 97), (.r 98)], op 94 (.mov (.r 99)), op 100 (.ext 0 (.r 94)), op 101 (.ext 1 (.r 94)), op 14 (.mov (.r 100)), op 15 (.mov (.r 101))]) <|
        sq (.ops [op 102 (.mov (.r 15)), op 9 (.mov (.r 102))]) <|
        sq (.ops [op 103 (.mov (.r 14)), op 104 (.mov (.r 1)), op 105 (.bin .sub (.r 103) (.r 104)), op 106 (.mov (.r 2)), op 107 (.mov (.r 14)), op 108 (.bin .sub (.r 106) (.r 107)), op 16 (.mov (.r 105)), op 17 (.mov (.r 108))]) <|
        sq (.ops [op 109 (.mov (.r 10)), op 110 (.bin .quo (.r 109) (.c (.int .i64 8))), op 18 (.mov (.r 110))]) <|
        sq (.ops [op 111 (.mov (.r 16)), op 112 (.mov (.r 17)), op 113 (.bin .lss (.r 111) (.r 112))]) <|
        .cond (.r 113)
          (sq (.ops [op 114 (.mov (.r 16)), op 115 (.mov (.r 18)), op 116 (.bin .geq (.r 114) (.r 115)), op 8 (.mov (.r 116))]) <|
          sq (.ops [op 117 (.mov (.r 0)), op 118 (.mov (.r 1)), op 119 (.mov (.r 14)), op 120 (.mov (.r 3)), cl 121 86 [(.r 117), (.r 118), (.r 119), (.r 120)]]) <|
          .ops [op 122 (.mov (.r 14)), op 123 (.bin .add (.r 122) (.c (.int .i64 1))), op 1 (.mov (.r 123))])
          (sq (.ops [op 124 (.mov (.r 17)), op 125 (.mov (.r 18)), op 126 (.bin .geq (.r 124) (.r 125)), op 8 (.mov (.r 126))]) <|
          sq (.ops [op 127 (.mov (.r 0)), op 128 (.mov (.r 14)), op 129 (.bin .add (.r 128) (.c (.int .i64 1))), op 130 (.mov (.r 2)), op 131 (.mov (.r 3)), cl 132 86 [(.r 127), (.r 129), (.r 130), (.r 131)]]) <|
          .ops [op 133 (.mov (.r 14)), op 2 (.mov (.r 133))]))))⟩
def an87 : An := ⟨[], []⟩
def ir87 : Go.Rmp.Fn := ⟨17, 2, [.t 4],
  sq (.ops [op 4 (.mov (.c (.bool false)))]) <|
  sq (.ops [op 5 (.mov (.r 0)), cl 6 79 [(.r 5)], op 7 (.mov (.r 6)), ⟨(some 8), .b (.mov (.r 1)), (some (7, true)), []⟩, ⟨(some 9), .call 79 [(.r 8)], (some (7, true)), []⟩, ⟨(some 10), .b (.un .not (.r 9)), (some (7, true)), []⟩, op 11 (.pick (.r 7) (.r 10) (.c (.bool false))), op 12 (.mov (.r 11)), ⟨(some 13), .b (.mov (.r 0)), (some (12, false)), []⟩, ⟨(some 14), .b (.mov (.r 1)), (some (12, false)), []⟩, ⟨(some 15), .b (.bin .lss (.r 13) (.r 14)), (some (12, false)), []⟩, op 16 (.pick (.r 12) (.c (.bool true)) (.r 15)), op 4 (.mov (.r 16))]) <|
  .ret⟩
def an88 : An := ⟨[], []⟩
def ir88 : Go.Rmp.Fn := ⟨6, 1, [.t 2],
  sq (.ops [op 2 (.mov (.c (.bool false)))]) <|
  sq (.ops [op 3 (.mov (.r 0)), op 4 (.mov (.r 0)), op 5 (.bin .neq (.r 3) (.r 4)), op 2 (.mov (.r 5))]) <|
  .ret⟩
def an90 : An := ⟨[], [(4, [(0, true), (1, true), (2, true), (3, true), (4, true), (5, true), (6, true), (7, true), (8, true), (9, true), (10, true), (11, true), (12, true), (13, true), (14, false), (15, true), (16, true)]), (6, [(0, true), (1, true), (2, true), (3, true), (4, true), (5, true), (6, true), (7, true), (8, true), (9, true), (10, true), (11, true), (12, true), (13, true), (14, true), (15, false), (16, true), (17, false)])]⟩
def ir90 : Go.Rmp.Fn := ⟨53, 4, [],
  sq (.ops [op 10 (.mov (.r 1)), op 11 (.bin .add (.r 10) (.c (.int .i64 1))), op 8 (.mov (.r 11))]) <|
  .block 0 (
    .loop (
      sq (sq (.ops [op 12 (.mov (.r 8)), op 13 (.mov (.r 2)), op 14 (.bin .lss (.r 12) (.r 13))]) <|
      .cond (.r 14)
        (.skip)
        (.exit 0)) <|
      sq (.block 1 (
        sq (.ops [op 17 (.mov (.r 8)), op 9 (.mov (.r 17))]) <|
        .block 2 (
          .loop (
            sq (sq (.ops [op 18 (.mov (.r 9)), op 19 (.mov (.r 1)), op 20 (.bin .gtr (.r 18) (.r 19)), op 21 (.mov (.r 20)), ⟨(some 22), .b (.mov (.r 3)), (some (21, true)), []⟩, ⟨(some 23), .b (.mov (.r 0)), (some (21, true)), []⟩, ⟨(some 24), .b (.mov (.r 9)), (some (21, true)), []⟩, ⟨(some 25), .b (.iad 2 (.r 23) (.r 24)), (some (21, true)), []⟩, ⟨(some 26), .b (.ld 2 true (.r 25)), (some (21, true)), []⟩, ⟨(some 27), .b (.mov (.r 0)), (some (21, true)), []⟩, ⟨(some 28), .b (.mov (.r 9)), (some (21, true)), []⟩, ⟨(some 29), .b (.bin .sub (.r 28) (.c (.int .i64 1))), (some (21, true)), []⟩, ⟨(some 30), .b (.iad 2 (.r 27) (.r 29)), (some (21, true)), []⟩, ⟨(some 31), .b (.ld 2 true (.r 30)), (some (21, true)), []⟩, ⟨(some 32), .callv (.r 22) [(.r 26), (.r 31)], (some (21, true)), []⟩, ⟨(some 33), .b (.bin .lss (.r 32) (.c (.int .i64 0))), (some (21, true)), []⟩, op 34 (.pick (.r 21) (.r 33) (.c (.bool false)))]) <|
            .cond (.r 34)
              (.skip)
              (.exit 2)) <|
            sq (.block 3 (
              .ops [op 37 (.mov (.r 0)), op 38 (.mov (.r 9)), op 39 (.mov (.r 0)), op 40 (.mov (.r 9)), op 41 (.bin .sub (.r 40) (.c (.int .i64 1))), op 42 (.mov (.r 0)), op 43 (.mov (.r 9)), op 44 (.bin .sub (.r 43) (.c (.int .i64 1))), op 45 (.iad 2 (.r 42) (.r 44)), op 46 (.ld 2 true (.r 45)), op 47 (.mov (.r 0)), op 48 (.mov (.r 9)), op 49 (.iad 2 (.r 47) (.r 48)), op 50 (.ld 2 true (.r 49)), op 51 (.iad 2 (.r 37) (.r 38)), ef (.st 2 (.r 51) (.r 46)), op 52 (.iad 2 (.r 39) (.r 41)), ef (.st 2 (.r 52) (.r 50))])) <|
            .ops [op 35 (.mov (.r 9)), op 36 (.bin .sub (.r 35) (.c (.int .i64 1))), op 9 (.mov (.r 36))])))) <|
      .ops [op 15 (.mov (.r 8)), op 16 (.bin .add (.r 15) (.c (.int .i64 1))), op 8 (.mov (.r 16))]))⟩
def an91 : An := ⟨[], [(10, [(0, true), (1, true), (2, true), (3, true), (4, true), (5, true), (6, true), (7, true), (8, true), (9, true), (10, true), (11, true), (12, true), (13, true), (14, true), (15, true), (16, true), (17, false), (18, true), (19, false)])]⟩
def ir91 : Go.Rmp.Fn := ⟨60, 4, [],
  sq (.ops [op 13 (.mov (.r 1)), op 8 (.mov (.r 13))]) <|
  sq (.ops [op 9 (.mov (.c (.int .i64 0)))]) <|
  sq (.ops [op 14 (.mov (.r 2)), op 15 (.mov (.r 1)), op 16 (.bin .sub (.r 14) (.r 15)), op 10 (.mov (.r 16))]) <|
  sq (sq (.ops [op 17 (.mov (.r 10)), op 18 (.bin .sub (.r 17) (.c (.int .i64 1))), op 19 (.bin .quo (.r 18) (.c (.int .i64 2))), op 11 (.mov (.r 19))]) <|
  .block 0 (
    .loop (
      sq (sq (.ops [op 20 (.mov (.r 11)), op 21 (.bin .geq (.r 20) (.c (.int .i64 0)))]) <|
      .cond (.r 21)
        (.skip)
        (.exit 0)) <|
      sq (.block 1 (
        .ops [op 24 (.mov (.r 0)), op 25 (.mov (.r 11)), op 26 (.mov (.r 10)), op 27 (.mov (.r 8)), op 28 (.mov (.r 3)), cl 29 111 [(.r 24), (.r 25), (.r 26), (.r 27), (.r 28)]])) <|
      .ops [op 22 (.mov (.r 11)), op 23 (.bin .sub (.r 22) (.c (.int .i64 1))), op 11 (.mov (.r 23))]))) <|
  sq (.ops [op 30 (.mov (.r 10)), op 31 (.bin .sub (.r 30) (.c (.int .i64 1))), op 12 (.mov (.r 31))]) <|
  .block 2 (
    .loop (
      sq (sq (.ops [op 32 (.mov (.r 12)), op 33 (.bin .geq (.r 32) (.c (.int .i64 0)))]) <|
      .cond (.r 33)
        (.skip)
        (.exit 2)) <|
      sq (.block 3 (
        sq (.ops [op 36 (.mov (.r 0)), op 37 (.mov (.r 8)), op 38 (.mov (.r 0)), op 39 (.mov (.r 8)), op 40 (.mov (.r 12)), op 41 (.bin .add (.r 39) (.r 40)), op 42 (.mov (.r 0)), op 43 (.mov (.r 8)), op 44 (.mov (.r 12)), op 45 (.bin .add (.r 43) (.r 44)), op 46 (.iad 2 (.r 42) (.r 45)), op 47 (.ld 2 true (.r 46)), op 48 (.mov (.r 0)), op 49 (.mov (.r 8)), op 50 (.iad 2 (.r 48) (.r 49)), op 51 (.ld 2 true (.r 50)), op 52 (.iad 2 (.r 36) (.r 37)), ef (.st 2 (.r 52) (.r 47)), op 53 (.iad 2 (.r 38) (.r 41)), ef (.st 2 (.r 53) (.r 51))]) <|
        .ops [op 54 (.mov (.r 0)), op 55 (.mov (.r 9)), op 56 (.mov (.r 12)), op 57 (.mov (.r 8)), op 58 (.mov (.r 3)), cl 59 111 [(.r 54), (.r 55), (.r 56), (.r 57), (.r 58)]])) <|
      .ops [op 34 (.mov (.r 12)), op 35 (.bin .sub (.r 34) (.c (.int .i64 1))), op 12 (.mov (.r 35))]))⟩
def an92 : An := ⟨[], [(10, [(0, true), (1, true), (2, true), (3, true), (4, true), (5, true), (6, true), (7, true), (8, true), (9, true), (10, true), (11, true), (12, true), (13, true), (14, true), (15, true), (16, true), (17, false), (18, true), (19, false)])]⟩
def ir92 : Go.Rmp.Fn := ⟨67, 4, [],
  sq (.ops [op 13 (.mov (.r 2)), op 14 (.mov (.r 1)), op 15 (.bin .sub (.r 13) (.r 14)), op 8 (.mov (.r 15))]) <|
  sq (.ops [op 16 (.mov (.r 8)), op 17 (.bin .geq (.r 16) (.c (.int .i64 8)))]) <|
  .cond (.r 17)
    (sq (.ops [op 18 (.mov (.r 8)), op 19 (.cvi .u64 (.r 18)), op 9 (.alloc [.int .u64 0]), ef (.st 1 (.r 9) (.r 19))]) <|
    sq (.ops [op 20 (.mov (.r 8)), cl 21 112 [(.r 20)], op 10 (.mov (.r 21))]) <|
    sq (.ops [op 22 (.mov (.r 1)), op 23 (.mov (.r 8)), op 24 (.bin .quo (.r 23) (.c (.int .i64 4))), op 25 (.bin .mul (.r 24) (.c (.int .i64 2))), op 26 (.bin .add (.r 22) (.r 25)), op 27 (.bin .sub (.r 26) (.c (.int .i64 1))), op 11 (.mov (.r 27))]) <|
    .block 0 (
      .loop (
        sq (sq (.ops [op 28 (.mov (.r 11)), op 29 (.mov (.r 1)), op 30 (.mov (.r 8)), op 31 (.bin .quo (.r 30) (.c (.int .i64 4))), op 32 (.bin .mul (.r 31) (.c (.int .i64 2))), op 33 (.bin .add (.r 29) (.r 32)), op 34 (.bin .add (.r 33) (.c (.int .i64 1))), op 35 (.bin .leq (.r 28) (.r 34))]) <|
        .cond (.r 35)
          (.skip)
          (.exit 0)) <|
        sq (.block 1 (
          sq (.ops [cl 38 113 [(.r 9)], op 39 (.mov (.r 10)), op 40 (.bin .sub (.r 39) (.c (.int .u64 1))), op 41 (.bin .and (.r 38) (.r 40)), op 42 (.cvi .i64 (.r 41)), op 12 (.mov (.r 42))]) <|
          sq (sq (.ops [op 43 (.mov (.r 12)), op 44 (.mov (.r 8)), op 45 (.bin .geq (.r 43) (.r 44))]) <|
          .cond (.r 45)
            (.ops [op 46 (.mov (.r 12)), op 47 (.mov (.r 8)), op 48 (.bin .sub (.r 46) (.r 47)), op 12 (.mov (.r 48))])
            (.skip)) <|
          .ops [op 49 (.mov (.r 0)), op 50 (.mov (.r 11)), op 51 (.mov (.r 0)), op 52 (.mov (.r 1)), op 53 (.mov (.r 12)), op 54 (.bin .add (.r 52) (.r 53)), op 55 (.mov (.r 0)), op 56 (.mov (.r 1)), op 57 (.mov (.r 12)), op 58 (.bin .add (.r 56) (.r 57)), op 59 (.iad 2 (.r 55) (.r 58)), op 60 (.ld 2 true (.r 59)), op 61 (.mov (.r 0)), op 62 (.mov (.r 11)), op 63 (.iad 2 (.r 61) (.r 62)), op 64 (.ld 2 true (.r 63)), op 65 (.iad 2 (.r 49) (.r 50)), ef (.st 2 (.r 65) (.r 60)), op 66 (.iad 2 (.r 51) (.r 54)), ef (.st 2 (.r 66) (.r 64))])) <|
        .ops [op 36 (.mov (.r 11)), op 37 (.bin .add (.r 36) (.c (.int .i64 1))), op 11 (.mov (.r 37))])))
    (.skip)⟩
def an93 : An := ⟨[], []⟩
def ir93 : Go.Rmp.Fn := ⟨63, 4, [.t 8, .t 9],
  sq (.ops [op 8 (.mov (.c (.int .i64 0))), op 9 (.mov (.c (.int .i64 0)))]) <|
  sq (.ops [op 15 (.mov (.r 2)), op 16 (.mov (.r 1)), op 17 (.bin .sub (.r 15) (.r 16)), op 10 (.mov (.r 17))]) <|
  sq (.ops [op 11 (.alloc [.int .i64 0])]) <|
  sq (.ops [op 18 (.mov (.r 1)), op 19 (.mov (.r 10)), op 20 (.bin .quo (.r 19) (.c (.int .i64 4))), op 21 (.bin .mul (.r 20) (.c (.int .i64 1))), op 22 (.bin .add (.r 18) (.r 21)), op 12 (.mov (.r 22))]) <|
  sq (.ops [op 23 (.mov (.r 1)), op 24 (.mov (.r 10)), op 25 (.bin .quo (.r 24) (.c (.int .i64 4))), op 26 (.bin .mul (.r 25) (.c (.int .i64 2))), op 27 (.bin .add (.r 23) (.r 26)), op 13 (.mov (.r 27))]) <|
  sq (.ops [op 28 (.mov (.r 1)), op 29 (.mov (.r 10)), op 30 (.bin .quo (.r 29) (.c (.int .i64 4))), op 31 (.bin .mul (.r 30) (.c (.int .i64 3))), op 32 (.bin .add (.r 28) (.r 31)), op 14 (.mov (.r 32))]) <|
  sq (sq (.ops [op 33 (.mov (.r 10)), op 34 (.bin .geq (.r 33) (.c (.int .i64 8)))]) <|
  .cond (.r 34)
    (sq (sq (.ops [op 35 (.mov (.r 10)), op 36 (.bin .geq (.r 35) (.c (.int .i64 50)))]) <|
    .cond (.r 36)
      (sq (.ops [op 37 (.mov (.r 0)), op 38 (.mov (.r 12)), op 39 (.mov (.r 3)), cl 40 114 [(.r 37), (.r 38), (.r 11), (.r 39)], op 12 (.mov (.r 40))]) <|
      sq (.ops [op 41 (.mov (.r 0)), op 42 (.mov (.r 13)), op 43 (.mov (.r 3)), cl 44 114 [(.r 41), (.r 42), (.r 11), (.r 43)], op 13 (.mov (.r 44))]) <|
      .ops [op 45 (.mov (.r 0)), op 46 (.mov (.r 14)), op 47 (.mov (.r 3)), cl 48 114 [(.r 45), (.r 46), (.r 11), (.r 47)], op 14 (.mov (.r 48))])
      (.skip)) <|
    .ops [op 49 (.mov (.r 0)), op 50 (.mov (.r 12)), op 51 (.mov (.r 13)), op 52 (.mov (.r 14)), op 53 (.mov (.r 3)), cl 54 115 [(.r 49), (.r 50), (.r 51), (.r 52), (.r 11), (.r 53)], op 13 (.mov (.r 54))])
    (.skip)) <|
  sq (.ops [op 55 (.ld 1 false (.r 11))]) <|
  .block 0 (
    sq (.ops [op 58 (.bin .eql (.r 55) (.c (.int .i64 0))), op 57 (.mov (.r 58))]) <|
    .cond (.r 57)
      (sq (.ops [op 59 (.mov (.r 13)), op 8 (.mov (.r 59)), op 9 (.mov (.c (.int .i64 1)))]) <|
      .ret)
      (sq (.ops [op 61 (.bin .eql (.r 55) (.c (.int .i64 12))), op 60 (.mov (.r 61))]) <|
      .cond (.r 60)
        (sq (.ops [op 62 (.mov (.r 13)), op 8 (.mov (.r 62)), op 9 (.mov (.c (.int .i64 2)))]) <|
        .ret)
        (sq (.ops [op 56 (.mov (.r 13)), op 8 (.mov (.r 56)), op 9 (.mov (.c (.int .i64 0)))]) <|
        .ret)))⟩
def an94 : An := ⟨[], [(3, [(0, true), (1, true), (2, true), (3, true), (4, true), (5, true), (6, true), (7, true), (8, true), (9, true), (10, true), (11, true), (12, true), (13, false), (14, true), (15, false)])]⟩
def ir94 : Go.Rmp.Fn := ⟨34, 4, [],
  sq (.ops [op 10 (.mov (.r 1)), op 8 (.mov (.r 10))]) <|
  sq (.ops [op 11 (.mov (.r 2)), op 12 (.bin .sub (.r 11) (.c (.int .i64 1))), op 9 (.mov (.r 12))]) <|
  .block 0 (
    .loop (
      sq (sq (.ops [op 13 (.mov (.r 8)), op 14 (.mov (.r 9)), op 15 (.bin .lss (.r 13) (.r 14))]) <|
      .cond (.r 15)
        (.skip)
        (.exit 0)) <|
      .block 1 (
        sq (.ops [op 16 (.mov (.r 0)), op 17 (.mov (.r 8)), op 18 (.mov (.r 0)), op 19 (.mov (.r 9)), op 20 (.mov (.r 0)), op 21 (.mov (.r 9)), op 22 (.iad 2 (.r 20) (.r 21)), op 23 (.ld 2 true (.r 22)), op 24 (.mov (.r 0)), op 25 (.mov (.r 8)), op 26 (.iad 2 (.r 24) (.r 25)), op 27 (.ld 2 true (.r 26)), op 28 (.iad 2 (.r 16) (.r 17)), ef (.st 2 (.r 28) (.r 23)), op 29 (.iad 2 (.r 18) (.r 19)), ef (.st 2 (.r 29) (.r 27))]) <|
        sq (.ops [op 30 (.mov (.r 8)), op 31 (.bin .add (.r 30) (.c (.int .i64 1))), op 8 (.mov (.r 31))]) <|
        .ops [op 32 (.mov (.r 9)), op 33 (.bin .sub (.r 32) (.c (.int .i64 1))), op 9 (.mov (.r 33))])))⟩
def an95 : An := ⟨[], [(5, [(0, true), (1, true), (2, true), (3, true), (4, true), (5, true), (6, true), (7, true), (8, true), (9, true), (10, true), (11, true), (12, true), (13, true), (14, false), (15, true), (16, true), (17, true)]), (11, [(0, true), (1, true), (2, true), (3, true), (4, true), (5, true), (6, true), (7, true), (8, true), (9, true), (10, true), (11, true), (12, true), (13, true), (14, true), (15, false), (16, true), (17, false)]), (16, [(0, true), (1, true), (2, true), (3, true), (4, true), (5, true), (6, true), (7, true), (8, true), (9, true), (10, false), (11, true), (12, true)]), (17, [(0, true), (1, true), (2, true), (3, true), (4, true), (5, true), (6, true), (7, true), (8, true), (9, true), (10, true), (11, true), (12, true), (13, true), (14, true), (15, false), (16, true), (17, false)]), (22, [(0, true), (1, true), (2, true), (3, true), (4, true), (5, true), (6, true), (7, true), (8, true), (9, true), (10, false), (11, true), (12, true)]), (23, [(0, true), (1, true), (2, true), (3, true), (4, true), (5, true), (6, true), (7, true), (8, true), (9, true), (10, true), (11, true), (12, true), (13, true), (14, true), (15, false), (16, true), (17, false)])]⟩
def ir95 : Go.Rmp.Fn := ⟨141, 4, [.t 8],
  sq (.ops [op 8 (.mov (.c (.bool false)))]) <|
  sq (.ops [op 13 (.mov (.r 1)), op 14 (.bin .add (.r 13) (.c (.int .i64 1))), op 9 (.mov (.r 14))]) <|
  sq (sq (.ops [op 10 (.mov (.c (.int .i64 0)))]) <|
  .block 0 (
    .loop (
      sq (sq (.ops [op 15 (.mov (.r 10)), op 16 (.bin .lss (.r 15) (.c (.int .i64 5)))]) <|
      .cond (.r 16)
        (.skip)
        (.exit 0)) <|
      sq (.block 1 (
        sq (.block 2 (
          .loop (
            sq (sq (.ops [op 19 (.mov (.r 9)), op 20 (.mov (.r 2)), op 21 (.bin .lss (.r 19) (.r 20)), op 22 (.mov (.r 21)), ⟨(some 23), .b (.mov (.r 3)), (some (22, true)), []⟩, ⟨(some 24), .b (.mov (.r 0)), (some (22, true)), []⟩, ⟨(some 25), .b (.mov (.r 9)), (some (22, true)), []⟩, ⟨(some 26), .b (.iad 2 (.r 24) (.r 25)), (some (22, true)), []⟩, ⟨(some 27), .b (.ld 2 true (.r 26)), (some (22, true)), []⟩, ⟨(some 28), .b (.mov (.r 0)), (some (22, true)), []⟩, ⟨(some 29), .b (.mov (.r 9)), (some (22, true)), []⟩, ⟨(some 30), .b (.bin .sub (.r 29) (.c (.int .i64 1))), (some (22, true)), []⟩, ⟨(some 31), .b (.iad 2 (.r 28) (.r 30)), (some (22, true)), []⟩, ⟨(some 32), .b (.ld 2 true (.r 31)), (some (22, true)), []⟩, ⟨(some 33), .callv (.r 23) [(.r 27), (.r 32)], (some (22, true)), []⟩, ⟨(some 34), .b (.bin .lss (.r 33) (.c (.int .i64 0))), (some (22, true)), []⟩, ⟨(some 35), .b (.un .not (.r 34)), (some (22, true)), []⟩, op 36 (.pick (.r 22) (.r 35) (.c (.bool false)))]) <|
            .cond (.r 36)
              (.skip)
              (.exit 2)) <|
            .block 3 (
              .ops [op 37 (.mov (.r 9)), op 38 (.bin .add (.r 37) (.c (.int .i64 1))), op 9 (.mov (.r 38))])))) <|
        sq (sq (.ops [op 39 (.mov (.r 9)), op 40 (.mov (.r 2)), op 41 (.bin .eql (.r 39) (.r 40))]) <|
        .cond (.r 41)
          (sq (.ops [op 8 (.mov (.c (.bool true)))]) <|
          .ret)
          (.skip)) <|
        sq (sq (.ops [op 42 (.mov (.r 2)), op 43 (.mov (.r 1)), op 44 (.bin .sub (.r 42) (.r 43)), op 45 (.bin .lss (.r 44) (.c (.int .i64 50)))]) <|
        .cond (.r 45)
          (sq (.ops [op 8 (.mov (.c (.bool false)))]) <|
          .ret)
          (.skip)) <|
        sq (.ops [op 46 (.mov (.r 0)), op 47 (.mov (.r 9)), op 48 (.mov (.r 0)), op 49 (.mov (.r 9)), op 50 (.bin .sub (.r 49) (.c (.int .i64 1))), op 51 (.mov (.r 0)), op 52 (.mov (.r 9)), op 53 (.bin .sub (.r 52) (.c (.int .i64 1))), op 54 (.iad 2 (.r 51) (.r 53)), op 55 (.ld 2 true (.r 54)), op 56 (.mov (.r 0)), op 57 (.mov (.r 9)), op 58 (.iad 2 (.r 56) (.r 57)), op 59 (.ld 2 true (.r 58)), op 60 (.iad 2 (.r 46) (.r 47)), ef (.st 2 (.r 60) (.r 55)), op 61 (.iad 2 (.r 48) (.r 50)), ef (.st 2 (.r 61) (.r 59))]) <|
        sq (sq (.ops [op 62 (.mov (.r 9)), op 63 (.mov (.r 1)), op 64 (.bin .sub (.r 62) (.r 63)), op 65 (.bin .geq (.r 64) (.c (.int .i64 2)))]) <|
        .cond (.r 65)
          (sq (.ops [op 66 (.mov (.r 9)), op 67 (.bin .sub (.r 66) (.c (.int .i64 1))), op 11 (.mov (.r 67))]) <|
          .block 4 (
            .loop (
              sq (sq (.ops [op 68 (.mov (.r 11)), op 69 (.bin .geq (.r 68) (.c (.int .i64 1)))]) <|
              .cond (.r 69)
                (.skip)
                (.exit 4)) <|
              sq (.block 5 (
                sq (sq (.ops [op 72 (.mov (.r 3)), op 73 (.mov (.r 0)), op 74 (.mov (.r 11)), op 75 (.iad 2 (.r 73) (.r 74)), op 76 (.ld 2 true (.r 75)), op 77 (.mov (.r 0)), op 78 (.mov (.r 11)), op 79 (.bin .sub (.r 78) (.c (.int .i64 1))), op 80 (.iad 2 (.r 77) (.r 79)), op 81 (.ld 2 true (.r 80)), ⟨(some 82), .callv (.r 72) [(.r 76), (.r 81)], none, []⟩, op 83 (.bin .lss (.r 82) (.c (.int .i64 0))), op 84 (.un .not (.r 83))]) <|
                .cond (.r 84)
                  (.exit 4)
                  (.skip)) <|
                .ops [op 85 (.mov (.r 0)), op 86 (.mov (.r 11)), op 87 (.mov (.r 0)), op 88 (.mov (.r 11)), op 89 (.bin .sub (.r 88) (.c (.int .i64 1))), op 90 (.mov (.r 0)), op 91 (.mov (.r 11)), op 92 (.bin .sub (.r 91) (.c (.int .i64 1))), op 93 (.iad 2 (.r 90) (.r 92)), op 94 (.ld 2 true (.r 93)), op 95 (.mov (.r 0)), op 96 (.mov (.r 11)), op 97 (.iad 2 (.r 95) (.r 96)), op 98 (.ld 2 true (.r 97)), op 99 (.iad 2 (.r 85) (.r 86)), ef (.st 2 (.r 99) (.r 94)), op 100 (.iad 2 (.r 87) (.r 89)), ef (.st 2 (.r 100) (.r 98))])) <|
              .ops [op 70 (.mov (.r 11)), op 71 (.bin .sub (.r 70) (.c (.int .i64 1))), op 11 (.mov (.r 71))])))
          (.skip)) <|
        sq (.ops [op 101 (.mov (.r 2)), op 102 (.mov (.r 9)), op 103 (.bin .sub (.r 101) (.r 102)), op 104 (.bin .geq (.r 103) (.c (.int .i64 2)))]) <|
        .cond (.r 104)
          (sq (.ops [op 105 (.mov (.r 9)), op 106 (.bin .add (.r 105) (.c (.int .i64 1))), op 12 (.mov (.r 106))]) <|
          .block 6 (
            .loop (
              sq (sq (.ops [op 107 (.mov (.r 12)), op 108 (.mov (.r 2)), op 109 (.bin .lss (.r 107) (.r 108))]) <|
              .cond (.r 109)
                (.skip)
                (.exit 6)) <|
              sq (.block 7 (
                sq (sq (.ops [op 112 (.mov (.r 3)), op 113 (.mov (.r 0)), op 114 (.mov (.r 12)), op 115 (.iad 2 (.r 113) (.r 114)), op 116 (.ld 2 true (.r 115)), op 117 (.mov (.r 0)), op 118 (.mov (.r 12)), op 119 (.bin .sub (.r 118) (.c (.int .i64 1))), op 120 (.iad 2 (.r 117) (.r 119)), op 121 (.ld 2 true (.r 120)), ⟨(some 122), .callv (.r 112) [(.r 116), (.r 121)], none, []⟩, op 123 (.bin .lss (.r 122) (.c (.int .i64 0))), op 124 (.un .not (.r 123))]) <|
                .cond (.r 124)
                  (.exit 6)
                  (.skip)) <|
                .ops [op 125 (.mov (.r 0)), op 126 (.mov (.r 12)), op 127 (.mov (.r 0)), op 128 (.mov (.r 12)), op 129 (.bin .sub (.r 128) (.c (.int .i64 1))), op 130 (.mov (.r 0)), op 131 (.mov (.r 12)), op 132 (.bin .sub (.r 131) (.c (.int .i64 1))), op 133 (.iad 2 (.r 130) (.r 132)), op 134 (.ld 2 true (.r 133)), op 135 (.mov (.r 0)), op 136 (.mov (.r 12)), op 137 (.iad 2 (.r 135) (.r 136)), op 138 (.ld 2 true (.r 137)), op 139 (.iad 2 (.r 125) (.r 126)), ef (.st 2 (.r 139) (.r 134)), op 140 (.iad 2 (.r 127) (.r 129)), ef (.st 2 (.r 140) (.r 138))])) <|
              .ops [op 110 (.mov (.r 12)), op 111 (.bin .add (.r 110) (.c (.int .i64 1))), op 12 (.mov (.r 111))])))
          (.skip))) <|
      .ops [op 17 (.mov (.r 10)), op 18 (.bin .add (.r 17) (.c (.int .i64 1))), op 10 (.mov (.r 18))]))) <|
  sq (.ops [op 8 (.mov (.c (.bool false)))]) <|
  .ret⟩
def an96 : An := ⟨[], [(1, [(0, true), (1, true), (2, true), (3, true), (4, true), (5, true), (6, true), (7, true), (8, true), (9, true), (10, true), (11, true), (12, true), (13, false), (14, true), (15, false)]), (3, [(0, true), (1, true), (2, true), (3, true), (4, true), (5, true), (6, true), (7, true), (8, true), (9, true), (10, true), (11, true), (12, true), (13, false), (14, true), (15, true), (16, true)]), (5, [(0, true), (1, true), (2, true), (3, true), (4, true), (5, true), (6, true), (7, true), (8, true), (9, true), (10, true), (11, true), (12, true), (13, false), (14, true), (15, true)]), (8, [(0, true), (1, true), (2, true), (3, true), (4, true), (5, true), (6, true), (7, true), (8, true), (9, true), (10, true), (11, true), (12, true), (13, false), (14, true), (15, false)])]⟩
def ir96 : Go.Rmp.Fn := ⟨90, 5, [.t 10],
  sq (.ops [op 10 (.mov (.c (.int .i64 0)))]) <|
  sq (.ops [op 13 (.mov (.r 0)), op 14 (.mov (.r 1)), op 15 (.mov (.r 0)), op 16 (.mov (.r 3)), op 17 (.mov (.r 0)), op 18 (.mov (.r 3)), op 19 (.iad 2 (.r 17) (.r 18)), op 20 (.ld 2 true (.r 19)), op 21 (.mov (.r 0)), op 22 (.mov (.r 1)), op 23 (.iad 2 (.r 21) (.r 22)), op 24 (.ld 2 true (.r 23)), op 25 (.iad 2 (.r 13) (.r 14)), ef (.st 2 (.r 25) (.r 20)), op 26 (.iad 2 (.r 15) (.r 16)), ef (.st 2 (.r 26) (.r 24))]) <|
  sq (.ops [op 27 (.mov (.r 1)), op 28 (.bin .add (.r 27) (.c (.int .i64 1))), op 29 (.mov (.r 2)), op 30 (.bin .sub (.r 29) (.c (.int .i64 1))), op 11 (.mov (.r 28)), op 12 (.mov (.r 30))]) <|
  sq (.block 0 (
    .loop (
      .block 1 (
        sq (.block 2 (
          .loop (
            sq (sq (.ops [op 31 (.mov (.r 11)), op 32 (.mov (.r 12)), op 33 (.bin .leq (.r 31) (.r 32)), op 34 (.mov (.r 33)), ⟨(some 35), .b (.mov (.r 4)), (some (34, true)), []⟩, ⟨(some 36), .b (.mov (.r 0)), (some (34, true)), []⟩, ⟨(some 37), .b (.mov (.r 1)), (some (34, true)), []⟩, ⟨(some 38), .b (.iad 2 (.r 36) (.r 37)), (some (34, true)), []⟩, ⟨(some 39), .b (.ld 2 true (.r 38)), (some (34, true)), []⟩, ⟨(some 40), .b (.mov (.r 0)), (some (34, true)), []⟩, ⟨(some 41), .b (.mov (.r 11)), (some (34, true)), []⟩, ⟨(some 42), .b (.iad 2 (.r 40) (.r 41)), (some (34, true)), []⟩, ⟨(some 43), .b (.ld 2 true (.r 42)), (some (34, true)), []⟩, ⟨(some 44), .callv (.r 35) [(.r 39), (.r 43)], (some (34, true)), []⟩, ⟨(some 45), .b (.bin .lss (.r 44) (.c (.int .i64 0))), (some (34, true)), []⟩, ⟨(some 46), .b (.un .not (.r 45)), (some (34, true)), []⟩, op 47 (.pick (.r 34) (.r 46) (.c (.bool false)))]) <|
            .cond (.r 47)
              (.skip)
              (.exit 2)) <|
            .block 3 (
              .ops [op 48 (.mov (.r 11)), op 49 (.bin .add (.r 48) (.c (.int .i64 1))), op 11 (.mov (.r 49))])))) <|
        sq (.block 4 (
          .loop (
            sq (sq (.ops [op 50 (.mov (.r 11)), op 51 (.mov (.r 12)), op 52 (.bin .leq (.r 50) (.r 51)), op 53 (.mov (.r 52)), ⟨(some 54), .b (.mov (.r 4)), (some (53, true)), []⟩, ⟨(some 55), .b (.mov (.r 0)), (some (53, true)), []⟩, ⟨(some 56), .b (.mov (.r 1)), (some (53, true)), []⟩, ⟨(some 57), .b (.iad 2 (.r 55) (.r 56)), (some (53, true)), []⟩, ⟨(some 58), .b (.ld 2 true (.r 57)), (some (53, true)), []⟩, ⟨(some 59), .b (.mov (.r 0)), (some (53, true)), []⟩, ⟨(some 60), .b (.mov (.r 12)), (some (53, true)), []⟩, ⟨(some 61), .b (.iad 2 (.r 59) (.r 60)), (some (53, true)), []⟩, ⟨(some 62), .b (.ld 2 true (.r 61)), (some (53, true)), []⟩, ⟨(some 63), .callv (.r 54) [(.r 58), (.r 62)], (some (53, true)), []⟩, ⟨(some 64), .b (.bin .lss (.r 63) (.c (.int .i64 0))), (some (53, true)), []⟩, op 65 (.pick (.r 53) (.r 64) (.c (.bool false)))]) <|
            .cond (.r 65)
              (.skip)
              (.exit 4)) <|
            .block 5 (
              .ops [op 66 (.mov (.r 12)), op 67 (.bin .sub (.r 66) (.c (.int .i64 1))), op 12 (.mov (.r 67))])))) <|
        sq (sq (.ops [op 68 (.mov (.r 11)), op 69 (.mov (.r 12)), op 70 (.bin .gtr (.r 68) (.r 69))]) <|
        .cond (.r 70)
          (.exit 0)
          (.skip)) <|
        sq (.ops [op 71 (.mov (.r 0)), op 72 (.mov (.r 11)), op 73 (.mov (.r 0)), op 74 (.mov (.r 12)), op 75 (.mov (.r 0)), op 76 (.mov (.r 12)), op 77 (.iad 2 (.r 75) (.r 76)), op 78 (.ld 2 true (.r 77)), op 79 (.mov (.r 0)), op 80 (.mov (.r 11)), op 81 (.iad 2 (.r 79) (.r 80)), op 82 (.ld 2 true (.r 81)), op 83 (.iad 2 (.r 71) (.r 72)), ef (.st 2 (.r 83) (.r 78)), op 84 (.iad 2 (.r 73) (.r 74)), ef (.st 2 (.r 84) (.r 82))]) <|
        sq (.ops [op 85 (.mov (.r 11)), op 86 (.bin .add (.r 85) (.c (.int .i64 1))), op 11 (.mov (.r 86))]) <|
        .ops [op 87 (.mov (.r 12)), op 88 (.bin .sub (.r 87) (.c (.int .i64 1))), op 12 (.mov (.r 88))])))) <|
  sq (.ops [op 89 (.mov (.r 11)), op 10 (.mov (.r 89))]) <|
  .ret⟩
def an97 : An := ⟨[], [(1, [(0, true), (1, true), (2, true), (3, true), (4, true), (5, true), (6, true), (7, true), (8, true), (9, true), (10, true), (11, true), (12, true), (13, false), (14, true), (15, false)]), (3, [(0, true), (1, true), (2, true), (3, true), (4, true), (5, true), (6, true), (7, true), (8, true), (9, true), (10, true), (11, true), (12, true), (13, false), (14, true), (15, true)]), (5, [(0, true), (1, true), (2, true), (3, true), (4, true), (5, true), (6, true), (7, true), (8, true), (9, true), (10, true), (11, true), (12, true), (13, false), (14, true), (15, true), (16, true)]), (8, [(0, true), (1, true), (2, true), (3, true), (4, true), (5, true), (6, true), (7, true), (8, true), (9, true), (10, true), (11, true), (12, true), (13, false), (14, true), (15, false)]), (10, [(0, true), (1, true), (2, true), (3, true), (4, true), (5, true), (6, true), (7, true), (8, true), (9, true), (10, true), (11, true), (12, true), (13, false), (14, true), (15, false)]), (13, [(0, true), (1, true), (2, true), (3, true), (4, true), (5, true), (6, true), (7, true), (8, true), (9, true), (10, true), (11, true), (12, true), (13, false), (14, true), (15, true)]), (15, [(0, true), (1, true), (2, true), (3, true), (4, true), (5, true), (6, true), (7, true), (8, true), (9, true), (10, true), (11, true), (12, true), (13, false), (14, true), (15, true), (16, true)]), (18, [(0, true), (1, true), (2, true), (3, true), (4, true), (5, true), (6, true), (7, true), (8, true), (9, true), (10, true), (11, true), (12, true), (13, false), (14, true), (15, false)]), (21, [(0, true), (1, true), (2, true), (3, true), (4, true), (5, true), (6, true), (7, true), (8, true), (9, true), (10, true), (11, true), (12, true), (13, false), (14, true), (15, false)])]⟩
def ir97 : Go.Rmp.Fn := ⟨178, 5, [.t 10, .t 11],
  sq (.ops [op 10 (.mov (.c (.int .i64 0))), op 11 (.mov (.c (.bool false)))]) <|
  sq (.ops [op 14 (.mov (.r 0)), op 15 (.mov (.r 1)), op 16 (.mov (.r 0)), op 17 (.mov (.r 3)), op 18 (.mov (.r 0)), op 19 (.mov (.r 3)), op 20 (.iad 2 (.r 18) (.r 19)), op 21 (.ld 2 true (.r 20)), op 22 (.mov (.r 0)), op 23 (.mov (.r 1)), op 24 (.iad 2 (.r 22) (.r 23)), op 25 (.ld 2 true (.r 24)), op 26 (.iad 2 (.r 14) (.r 15)), ef (.st 2 (.r 26) (.r 21)), op 27 (.iad 2 (.r 16) (.r 17)), ef (.st 2 (.r 27) (.r 25))]) <|
  sq (.ops [op 28 (.mov (.r 1)), op 29 (.bin .add (.r 28) (.c (.int .i64 1))), op 30 (.mov (.r 2)), op 31 (.bin .sub (.r 30) (.c (.int .i64 1))), op 12 (.mov (.r 29)), op 13 (.mov (.r 31))]) <|
  sq (.block 0 (
    .loop (
      sq (sq (.ops [op 32 (.mov (.r 12)), op 33 (.mov (.r 13)), op 34 (.bin .leq (.r 32) (.r 33)), op 35 (.mov (.r 34)), ⟨(some 36), .b (.mov (.r 4)), (some (35, true)), []⟩, ⟨(some 37), .b (.mov (.r 0)), (some (35, true)), []⟩, ⟨(some 38), .b (.mov (.r 12)), (some (35, true)), []⟩, ⟨(some 39), .b (.iad 2 (.r 37) (.r 38)), (some (35, true)), []⟩, ⟨(some 40), .b (.ld 2 true (.r 39)), (some (35, true)), []⟩, ⟨(some 41), .b (.mov (.r 0)), (some (35, true)), []⟩, ⟨(some 42), .b (.mov (.r 1)), (some (35, true)), []⟩, ⟨(some 43), .b (.iad 2 (.r 41) (.r 42)), (some (35, true)), []⟩, ⟨(some 44), .b (.ld 2 true (.r 43)), (some (35, true)), []⟩, ⟨(some 45), .callv (.r 36) [(.r 40), (.r 44)], (some (35, true)), []⟩, ⟨(some 46), .b (.bin .lss (.r 45) (.c (.int .i64 0))), (some (35, true)), []⟩, op 47 (.pick (.r 35) (.r 46) (.c (.bool false)))]) <|
      .cond (.r 47)
        (.skip)
        (.exit 0)) <|
      .block 1 (
        .ops [op 48 (.mov (.r 12)), op 49 (.bin .add (.r 48) (.c (.int .i64 1))), op 12 (.mov (.r 49))])))) <|
  sq (.block 2 (
    .loop (
      sq (sq (.ops [op 50 (.mov (.r 12)), op 51 (.mov (.r 13)), op 52 (.bin .leq (.r 50) (.r 51)), op 53 (.mov (.r 52)), ⟨(some 54), .b (.mov (.r 4)), (some (53, true)), []⟩, ⟨(some 55), .b (.mov (.r 0)), (some (53, true)), []⟩, ⟨(some 56), .b (.mov (.r 13)), (some (53, true)), []⟩, ⟨(some 57), .b (.iad 2 (.r 55) (.r 56)), (some (53, true)), []⟩, ⟨(some 58), .b (.ld 2 true (.r 57)), (some (53, true)), []⟩, ⟨(some 59), .b (.mov (.r 0)), (some (53, true)), []⟩, ⟨(some 60), .b (.mov (.r 1)), (some (53, true)), []⟩, ⟨(some 61), .b (.iad 2 (.r 59) (.r 60)), (some (53, true)), []⟩, ⟨(some 62), .b (.ld 2 true (.r 61)), (some (53, true)), []⟩, ⟨(some 63), .callv (.r 54) [(.r 58), (.r 62)], (some (53, true)), []⟩, ⟨(some 64), .b (.bin .lss (.r 63) (.c (.int .i64 0))), (some (53, true)), []⟩, ⟨(some 65), .b (.un .not (.r 64)), (some (53, true)), []⟩, op 66 (.pick (.r 53) (.r 65) (.c (.bool false)))]) <|
      .cond (.r 66)
        (.skip)
        (.exit 2)) <|
      .block 3 (
        .ops [op 67 (.mov (.r 13)), op 68 (.bin .sub (.r 67) (.c (.int .i64 1))), op 13 (.mov (.r 68))])))) <|
  sq (sq (.ops [op 69 (.mov (.r 12)), op 70 (.mov (.r 13)), op 71 (.bin .gtr (.r 69) (.r 70))]) <|
  .cond (.r 71)
    (sq (.ops [op 72 (.mov (.r 0)), op 73 (.mov (.r 13)), op 74 (.mov (.r 0)), op 75 (.mov (.r 1)), op 76 (.mov (.r 0)), op 77 (.mov (.r 1)), op 78 (.iad 2 (.r 76) (.r 77)), op 79 (.ld 2 true (.r 78)), op 80 (.mov (.r 0)), op 81 (.mov (.r 13)), op 82 (.iad 2 (.r 80) (.r 81)), op 83 (.ld 2 true (.r 82)), op 84 (.iad 2 (.r 72) (.r 73)), ef (.st 2 (.r 84) (.r 79)), op 85 (.iad 2 (.r 74) (.r 75)), ef (.st 2 (.r 85) (.r 83))]) <|
    sq (.ops [op 86 (.mov (.r 13)), op 10 (.mov (.r 86)), op 11 (.mov (.c (.bool true)))]) <|
    .ret)
    (.skip)) <|
  sq (.ops [op 87 (.mov (.r 0)), op 88 (.mov (.r 12)), op 89 (.mov (.r 0)), op 90 (.mov (.r 13)), op 91 (.mov (.r 0)), op 92 (.mov (.r 13)), op 93 (.iad 2 (.r 91) (.r 92)), op 94 (.ld 2 true (.r 93)), op 95 (.mov (.r 0)), op 96 (.mov (.r 12)), op 97 (.iad 2 (.r 95) (.r 96)), op 98 (.ld 2 true (.r 97)), op 99 (.iad 2 (.r 87) (.r 88)), ef (.st 2 (.r 99) (.r 94)), op 100 (.iad 2 (.r 89) (.r 90)), ef (.st 2 (.r 100) (.r 98))]) <|
  sq (.ops [op 101 (.mov (.r 12)), op 102 (.bin .add (.r 101) (.c (.int .i64 1))), op 12 (.mov (.r 102))]) <|
  sq (.ops [op 103 (.mov (.r 13)), op 104 (.bin .sub (.r 103) (.c (.int .i64 1))), op 13 (.mov (.r 104))]) <|
  sq (.block 4 (
    .loop (
      .block 5 (
        sq (.block 6 (
          .loop (
            sq (sq (.ops [op 105 (.mov (.r 12)), op 106 (.mov (.r 13)), op 107 (.bin .leq (.r 105) (.r 106)), op 108 (.mov (.r 107)), ⟨(some 109), .b (.mov (.r 4)), (some (108, true)), []⟩, ⟨(some 110), .b (.mov (.r 0)), (some (108, true)), []⟩, ⟨(some 111), .b (.mov (.r 12)), (some (108, true)), []⟩, ⟨(some 112), .b (.iad 2 (.r 110) (.r 111)), (some (108, true)), []⟩, ⟨(some 113), .b (.ld 2 true (.r 112)), (some (108, true)), []⟩, ⟨(some 114), .b (.mov (.r 0)), (some (108, true)), []⟩, ⟨(some 115), .b (.mov (.r 1)), (some (108, true)), []⟩, ⟨(some 116), .b (.iad 2 (.r 114) (.r 115)), (some (108, true)), []⟩, ⟨(some 117), .b (.ld 2 true (.r 116)), (some (108, true)), []⟩, ⟨(some 118), .callv (.r 109) [(.r 113), (.r 117)], (some (108, true)), []⟩, ⟨(some 119), .b (.bin .lss (.r 118) (.c (.int .i64 0))), (some (108, true)), []⟩, op 120 (.pick (.r 108) (.r 119) (.c (.bool false)))]) <|
            .cond (.r 120)
              (.skip)
              (.exit 6)) <|
            .block 7 (
              .ops [op 121 (.mov (.r 12)), op 122 (.bin .add (.r 121) (.c (.int .i64 1))), op 12 (.mov (.r 122))])))) <|
        sq (.block 8 (
          .loop (
            sq (sq (.ops [op 123 (.mov (.r 12)), op 124 (.mov (.r 13)), op 125 (.bin .leq (.r 123) (.r 124)), op 126 (.mov (.r 125)), ⟨(some 127), .b (.mov (.r 4)), (some (126, true)), []⟩, ⟨(some 128), .b (.mov (.r 0)), (some (126, true)), []⟩, ⟨(some 129), .b (.mov (.r 13)), (some (126, true)), []⟩, ⟨(some 130), .b (.iad 2 (.r 128) (.r 129)), (some (126, true)), []⟩, ⟨(some 131), .b (.ld 2 true (.r 130)), (some (126, true)), []⟩, ⟨(some 132), .b (.mov (.r 0)), (some (126, true)), []⟩, ⟨(some 133), .b (.mov (.r 1)), (some (126, true)), []⟩, ⟨(some 134), .b (.iad 2 (.r 132) (.r 133)), (some (126, true)), []⟩, ⟨(some 135), .b (.ld 2 true (.r 134)), (some (126, true)), []⟩, ⟨(some 136), .callv (.r 127) [(.r 131), (.r 135)], (some (126, true)), []⟩, ⟨(some 137), .b (.bin .lss (.r 136) (.c (.int .i64 0))), (some (126, true)), []⟩, ⟨(some 138), .b (.un .not (.r 137)), (some (126, true)), []⟩, op 139 (.pick (.r 126) (.r 138) (.c (.bool false)))]) <|
            .cond (.r 139)
              (.skip)
              (.exit 8)) <|
            .block 9 (
              .ops [op 140 (.mov (.r 13)), op 141 (.bin .sub (.r 140) (.c (.int .i64 1))), op 13 (.mov (.r 141))])))) <|
        sq (sq (.ops [op 142 (.mov (.r 12)), op 143 (.mov (.r 13)), op 144 (.bin .gtr (.r 142) (.r 143))]) <|
        .cond (.r 144)
          (.exit 4)
          (.skip)) <|
        sq (.ops [op 145 (.mov (.r 0)), op 146 (.mov (.r 12)), op 147 (.mov (.r 0)), op 148 (.mov (.r 13)), op 149 (.mov (.r 0)), op 150 (.mov (.r 13)), op 151 (.iad 2 (.r 149) (.r 150)), op 152 (.ld 2 true (.r 151)), op 153 (.mov (.r 0)), op 154 (.mov (.r 12)), op 155 (.iad 2 (.r 153) (.r 154)), op 156 (.ld 2 true (.r 155)), op 157 (.iad 2 (.r 145) (.r 146)), ef (.st 2 (.r 157) (.r 152)), op 158 (.iad 2 (.r 147) (.r 148)), ef (.st 2 (.r 158) (.r 156))]) <|
        sq (.ops [op 159 (.mov (.r 12)), op 160 (.bin .add (.r 159) (.c (.int .i64 1))), op 12 (.mov (.r 160))]) <|
        .ops [op 161 (.mov (.r 13)), op 162 (.bin .sub (.r 161) (.c (.int .i64 1))), op 13 (.mov (.r 162))])))) <|
  sq (.ops [op 163 (.mov (.r 0)), op 164 (.mov (.r 13)), op 165 (.mov (.r 0)), op 166 (.mov (.r 1)), op 167 (.mov (.r 0)), op 168 (.mov (.r 1)), op 169 (.iad 2 (.r 167) (.r 168)), op 170 (.ld 2 true (.r 169)), op 171 (.mov (.r 0)), op 172 (.mov (.r 13)), op 173 (.iad 2 (.r 171) (.r 172)), op 174 (.ld 2 true (.r 173)), op 175 (.iad 2 (.r 163) (.r 164)), ef (.st 2 (.r 175) (.r 170)), op 176 (.iad 2 (.r 165) (.r 166)), ef (.st 2 (.r 176) (.r 174))]) <|
  sq (.ops [op 177 (.mov (.r 13)), op 10 (.mov (.r 177)), op 11 (.mov (.c (.bool false)))]) <|
  .ret⟩
def an99 : An := ⟨[], []⟩
def ir99 : Go.Rmp.Fn := ⟨25, 1, [.t 2],
  sq (.ops [op 2 (.mov (.c (.int .i64 0)))]) <|
  sq (sq (.ops [op 3 (.mov (.r 0)), op 4 (.bin .geq (.r 3) (.c (.int .u64 4294967296)))]) <|
  .cond (.r 4)
    (sq (.ops [op 5 (.mov (.r 0)), op 6 (.bin .shr (.r 5) (.c (.int .u64 32))), op 0 (.mov (.r 6))]) <|
    .ops [op 2 (.mov (.c (.int .i64 32)))])
    (.skip)) <|
  sq (sq (.ops [op 7 (.mov (.r 0)), op 8 (.bin .geq (.r 7) (.c (.int .u64 65536)))]) <|
  .cond (.r 8)
    (sq (.ops [op 9 (.mov (.r 0)), op 10 (.bin .shr (.r 9) (.c (.int .u64 16))), op 0 (.mov (.r 10))]) <|
    .ops [op 11 (.mov (.r 2)), op 12 (.bin .add (.r 11) (.c (.int .i64 16))), op 2 (.mov (.r 12))])
    (.skip)) <|
  sq (sq (.ops [op 13 (.mov (.r 0)), op 14 (.bin .geq (.r 13) (.c (.int .u64 256)))]) <|
  .cond (.r 14)
    (sq (.ops [op 15 (.mov (.r 0)), op 16 (.bin .shr (.r 15) (.c (.int .u64 8))), op 0 (.mov (.r 16))]) <|
    .ops [op 17 (.mov (.r 2)), op 18 (.bin .add (.r 17) (.c (.int .i64 8))), op 2 (.mov (.r 18))])
    (.skip)) <|
  sq (.ops [op 19 (.mov (.r 2)), op 20 (.mov (.r 0)), op 21 (.cvi .u8 (.r 20)), op 22 (.ixs (.c (.str ⟨#[0, 1, 2, 2, 3, 3, 3, 3, 4, 4, 4, 4, 4, 4, 4, 4, 5, 5, 5, 5, 5, 5, 5, 5, 5, 5, 5, 5, 5, 5, 5, 5, 6, 6, 6, 6, 6, 6, 6, 6, 6, 6, 6, 6, 6, 6, 6, 6, 6, 6, 6, 6, 6, 6, 6, 6, 6, 6, 6, 6, 6, 6, 6, 6, 7, 7, 7, 7, 7, 7, 7, 7, 7, 7, 7, 7, 7, 7, 7, 7, 7, 7, 7, 7, 7, 7, 7, 7, 7, 7, 7, 7, 7, 7, 7, 7, 7, 7, 7, 7, 7, 7, 7, 7, 7, 7, 7, 7, 7, 7, 7, 7, 7, 7, 7, 7, 7, 7, 7, 7, 7, 7, 7, 7, 7, 7, 7, 7, 8, 8, 8, 8, 8, 8, 8, 8, 8, 8, 8, 8, 8, 8, 8, 8, 8, 8, 8, 8, 8, 8, 8, 8, 8, 8, 8, 8, 8, 8, 8, 8, 8, 8, 8, 8, 8, 8, 8, 8, 8, 8, 8, 8, 8, 8, 8, 8, 8, 8, 8, 8, 8, 8, 8, 8, 8, 8, 8, 8, 8, 8, 8, 8, 8, 8, 8, 8, 8, 8, 8, 8, 8, 8, 8, 8, 8, 8, 8, 8, 8, 8, 8, 8, 8, 8, 8, 8, 8, 8, 8, 8, 8, 8, 8, 8, 8, 8, 8, 8, 8, 8, 8, 8, 8, 8, 8, 8, 8, 8, 8, 8, 8, 8, 8, 8, 8, 8, 8, 8, 8, 8, 8, 8, 8, 8, 8, 8]⟩)) (.r 21)), op 23 (.cvi .i64 (.r 22)), op 24 (.bin .add (.r 19) (.r 23)), op 2 (.mov (.r 24))]) <|
  .ret⟩
def an100 : An := ⟨[], []⟩
def ir100 : Go.Rmp.Fn := ⟨19, 2, [.t 4],
  sq (.ops [op 4 (.mov (.c (.int .i64 0)))]) <|
  sq (sq (.ops [op 6 (.mov (.r 0)), op 7 (.len .sl (.r 6)), op 8 (.mov (.c (.int .i64 0)))]) <|
  .block 0 (
    .loop (
      sq (.ops [op 9 (.bin .lss (.r 8) (.r 7))]) <|
      sq (.cond (.r 9)
        (.skip)
        (.exit 0)) <|
      sq (.block 1 (
        sq (.ops [op 10 (.mov (.r 8)), op 5 (.mov (.r 10))]) <|
        sq (.ops [op 11 (.mov (.r 1)), op 12 (.mov (.r 0)), op 13 (.mov (.r 5)), op 14 (.iad 1 (.r 12) (.r 13)), op 15 (.ld 1 false (.r 14)), ⟨(some 16), .callv (.r 11) [(.r 15)], none, []⟩]) <|
        .cond (.r 16)
          (sq (.ops [op 17 (.mov (.r 5)), op 4 (.mov (.r 17))]) <|
          .ret)
          (.skip))) <|
      .ops [op 18 (.bin .add (.r 8) (.c (.int .i64 1))), op 8 (.mov (.r 18))]))) <|
  sq (.ops [op 4 (.mov (.c (.int .i64 (-1))))]) <|
  .ret⟩
def an101 : An := ⟨[], []⟩
def ir101 : Go.Rmp.Fn := ⟨19, 2, [.t 4],
  sq (.ops [op 4 (.mov (.c (.int .i64 0)))]) <|
  sq (sq (.ops [op 6 (.mov (.r 0)), op 7 (.len .sl (.r 6)), op 8 (.mov (.c (.int .i64 0)))]) <|
  .block 0 (
    .loop (
      sq (.ops [op 9 (.bin .lss (.r 8) (.r 7))]) <|
      sq (.cond (.r 9)
        (.skip)
        (.exit 0)) <|
      sq (.block 1 (
        sq (.ops [op 10 (.mov (.r 8)), op 5 (.mov (.r 10))]) <|
        sq (.ops [op 11 (.mov (.r 1)), op 12 (.mov (.r 0)), op 13 (.mov (.r 5)), op 14 (.iad 1 (.r 12) (.r 13)), op 15 (.ld 1 false (.r 14)), ⟨(some 16), .callv (.r 11) [(.r 15)], none, []⟩]) <|
        .cond (.r 16)
          (sq (.ops [op 17 (.mov (.r 5)), op 4 (.mov (.r 17))]) <|
          .ret)
          (.skip))) <|
      .ops [op 18 (.bin .add (.r 8) (.c (.int .i64 1))), op 8 (.mov (.r 18))]))) <|
  sq (.ops [op 4 (.mov (.c (.int .i64 (-1))))]) <|
  .ret⟩
def an102 : An := ⟨[], [(4, [(0, true), (1, true), (2, true), (3, true), (4, true), (5, true), (6, true), (7, true), (8, true), (9, true), (10, true), (11, true), (12, true), (13, false), (14, true)]), (6, [(0, true), (1, true), (2, true), (3, true), (4, true), (5, true), (6, true), (7, true), (8, true), (9, true), (10, true), (11, true), (12, true), (13, true), (14, true), (15, false), (16, true), (17, false)])]⟩
def ir102 : Go.Rmp.Fn := ⟨49, 3, [],
  sq (.ops [op 8 (.mov (.r 1)), op 9 (.bin .add (.r 8) (.c (.int .i64 1))), op 6 (.mov (.r 9))]) <|
  .block 0 (
    .loop (
      sq (sq (.ops [op 10 (.mov (.r 6)), op 11 (.mov (.r 2)), op 12 (.bin .lss (.r 10) (.r 11))]) <|
      .cond (.r 12)
        (.skip)
        (.exit 0)) <|
      sq (.block 1 (
        sq (.ops [op 15 (.mov (.r 6)), op 7 (.mov (.r 15))]) <|
        .block 2 (
          .loop (
            sq (sq (.ops [op 16 (.mov (.r 7)), op 17 (.mov (.r 1)), op 18 (.bin .gtr (.r 16) (.r 17)), op 19 (.mov (.r 18)), ⟨(some 20), .b (.mov (.r 0)), (some (19, true)), []⟩, ⟨(some 21), .b (.mov (.r 7)), (some (19, true)), []⟩, ⟨(some 22), .b (.iad 1 (.r 20) (.r 21)), (some (19, true)), []⟩, ⟨(some 23), .b (.ld 1 false (.r 22)), (some (19, true)), []⟩, ⟨(some 24), .b (.mov (.r 0)), (some (19, true)), []⟩, ⟨(some 25), .b (.mov (.r 7)), (some (19, true)), []⟩, ⟨(some 26), .b (.bin .sub (.r 25) (.c (.int .i64 1))), (some (19, true)), []⟩, ⟨(some 27), .b (.iad 1 (.r 24) (.r 26)), (some (19, true)), []⟩, ⟨(some 28), .b (.ld 1 false (.r 27)), (some (19, true)), []⟩, ⟨(some 29), .call 87 [(.r 23), (.r 28)], (some (19, true)), []⟩, op 30 (.pick (.r 19) (.r 29) (.c (.bool false)))]) <|
            .cond (.r 30)
              (.skip)
              (.exit 2)) <|
            sq (.block 3 (
              .ops [op 33 (.mov (.r 0)), op 34 (.mov (.r 7)), op 35 (.mov (.r 0)), op 36 (.mov (.r 7)), op 37 (.bin .sub (.r 36) (.c (.int .i64 1))), op 38 (.mov (.r 0)), op 39 (.mov (.r 7)), op 40 (.bin .sub (.r 39) (.c (.int .i64 1))), op 41 (.iad 1 (.r 38) (.r 40)), op 42 (.ld 1 false (.r 41)), op 43 (.mov (.r 0)), op 44 (.mov (.r 7)), op 45 (.iad 1 (.r 43) (.r 44)), op 46 (.ld 1 false (.r 45)), op 47 (.iad 1 (.r 33) (.r 34)), ef (.st 1 (.r 47) (.r 42)), op 48 (.iad 1 (.r 35) (.r 37)), ef (.st 1 (.r 48) (.r 46))])) <|
            .ops [op 31 (.mov (.r 7)), op 32 (.bin .sub (.r 31) (.c (.int .i64 1))), op 7 (.mov (.r 32))])))) <|
      .ops [op 13 (.mov (.r 6)), op 14 (.bin .add (.r 13) (.c (.int .i64 1))), op 6 (.mov (.r 14))]))⟩
def an111 : An := ⟨[], [(3, [(0, true), (1, true), (2, true), (3, true), (4, true), (5, true), (6, true), (7, true), (8, true), (9, true), (10, true), (11, true), (12, true), (13, true), (14, true), (15, true), (16, true), (17, true), (18, true), (19, false), (20, true), (21, true)]), (5, [(0, true), (1, true), (2, true), (3, true), (4, true), (5, true), (6, true), (7, true), (8, true), (9, true), (10, true), (11, true), (12, true), (13, false), (14, true), (15, true)]), (6, [(0, true), (1, true), (2, true), (3, true), (4, true), (5, true), (6, true), (7, true), (8, true), (9, true), (10, true), (11, true), (12, true), (13, true), (14, true), (15, true), (16, true), (17, true), (18, true), (19, true), (20, true), (21, false), (22, true), (23, false)])]⟩
def ir111 : Go.Rmp.Fn := ⟨82, 5, [],
  sq (.ops [op 12 (.mov (.r 1)), op 10 (.mov (.r 12))]) <|
  .block 0 (
    .loop (
      .block 1 (
        sq (.ops [op 13 (.mov (.r 10)), op 14 (.bin .mul (.c (.int .i64 2)) (.r 13)), op 15 (.bin .add (.r 14) (.c (.int .i64 1))), op 11 (.mov (.r 15))]) <|
        sq (sq (.ops [op 16 (.mov (.r 11)), op 17 (.mov (.r 2)), op 18 (.bin .geq (.r 16) (.r 17))]) <|
        .cond (.r 18)
          (.exit 0)
          (.skip)) <|
        sq (sq (.ops [op 19 (.mov (.r 11)), op 20 (.bin .add (.r 19) (.c (.int .i64 1))), op 21 (.mov (.r 2)), op 22 (.bin .lss (.r 20) (.r 21)), op 23 (.mov (.r 22)), ⟨(some 24), .b (.mov (.r 4)), (some (23, true)), []⟩, ⟨(some 25), .b (.mov (.r 0)), (some (23, true)), []⟩, ⟨(some 26), .b (.mov (.r 3)), (some (23, true)), []⟩, ⟨(some 27), .b (.mov (.r 11)), (some (23, true)), []⟩, ⟨(some 28), .b (.bin .add (.r 26) (.r 27)), (some (23, true)), []⟩, ⟨(some 29), .b (.iad 2 (.r 25) (.r 28)), (some (23, true)), []⟩, ⟨(some 30), .b (.ld 2 true (.r 29)), (some (23, true)), []⟩, ⟨(some 31), .b (.mov (.r 0)), (some (23, true)), []⟩, ⟨(some 32), .b (.mov (.r 3)), (some (23, true)), []⟩, ⟨(some 33), .b (.mov (.r 11)), (some (23, true)), []⟩, ⟨(some 34), .b (.bin .add (.r 32) (.r 33)), (some (23, true)), []⟩, ⟨(some 35), .b (.bin .add (.r 34) (.c (.int .i64 1))), (some (23, true)), []⟩, ⟨(some 36), .b (.iad 2 (.r 31) (.r 35)), (some (23, true)), []⟩, ⟨(some 37), .b (.ld 2 true (.r 36)), (some (23, true)), []⟩, ⟨(some 38), .callv (.r 24) [(.r 30), (.r 37)], (some (23, true)), []⟩, ⟨(some 39), .b (.bin .lss (.r 38) (.c (.int .i64 0))), (some (23, true)), []⟩, op 40 (.pick (.r 23) (.r 39) (.c (.bool false)))]) <|
        .cond (.r 40)
          (.ops [op 41 (.mov (.r 11)), op 42 (.bin .add (.r 41) (.c (.int .i64 1))), op 11 (.mov (.r 42))])
          (.skip)) <|
        sq (sq (.ops [op 43 (.mov (.r 4)), op 44 (.mov (.r 0)), op 45 (.mov (.r 3)), op 46 (.mov (.r 10)), op 47 (.bin .add (.r 45) (.r 46)), op 48 (.iad 2 (.r 44) (.r 47)), op 49 (.ld 2 true (.r 48)), op 50 (.mov (.r 0)), op 51 (.mov (.r 3)), op 52 (.mov (.r 11)), op 53 (.bin .add (.r 51) (.r 52)), op 54 (.iad 2 (.r 50) (.r 53)), op 55 (.ld 2 true (.r 54)), ⟨(some 56), .callv (.r 43) [(.r 49), (.r 55)], none, []⟩, op 57 (.bin .lss (.r 56) (.c (.int .i64 0))), op 58 (.un .not (.r 57))]) <|
        .cond (.r 58)
          (.ret)
          (.skip)) <|
        sq (.ops [op 59 (.mov (.r 0)), op 60 (.mov (.r 3)), op 61 (.mov (.r 10)), op 62 (.bin .add (.r 60) (.r 61)), op 63 (.mov (.r 0)), op 64 (.mov (.r 3)), op 65 (.mov (.r 11)), op 66 (.bin .add (.r 64) (.r 65)), op 67 (.mov (.r 0)), op 68 (.mov (.r 3)), op 69 (.mov (.r 11)), op 70 (.bin .add (.r 68) (.r 69)), op 71 (.iad 2 (.r 67) (.r 70)), op 72 (.ld 2 true (.r 71)), op 73 (.mov (.r 0)), op 74 (.mov (.r 3)), op 75 (.mov (.r 10)), op 76 (.bin .add (.r 74) (.r 75)), op 77 (.iad 2 (.r 73) (.r 76)), op 78 (.ld 2 true (.r 77)), op 79 (.iad 2 (.r 59) (.r 62)), ef (.st 2 (.r 79) (.r 72)), op 80 (.iad 2 (.r 63) (.r 66)), ef (.st 2 (.r 80) (.r 78))]) <|
        .ops [op 81 (.mov (.r 11)), op 10 (.mov (.r 81))])))⟩
def an112 : An := ⟨[], []⟩
def ir112 : Go.Rmp.Fn := ⟨7, 1, [.t 2],
  sq (.ops [op 2 (.mov (.c (.int .u64 0)))]) <|
  sq (.ops [op 3 (.mov (.r 0)), op 4 (.cvi .u64 (.r 3)), cl 5 78 [(.r 4)], op 6 (.bin .shl (.c (.int .u64 1)) (.r 5)), op 2 (.mov (.r 6))]) <|
  .ret⟩
def an113 : An := ⟨[], [(1, [(0, true), (1, true), (2, true), (3, true), (4, true), (5, true), (6, true), (7, true), (8, true), (9, false)]), (2, [(0, true), (1, true), (2, true), (3, true), (4, true), (5, true), (6, true), (7, true), (8, true), (9, false)]), (3, [(0, true), (1, true), (2, true), (3, true), (4, true), (5, true), (6, true), (7, true), (8, true), (9, false)])]⟩
def ir113 : Go.Rmp.Fn := ⟨33, 1, [.t 2],
  sq (.ops [op 2 (.mov (.c (.int .u64 0)))]) <|
  sq (.ops [op 3 (.mov (.r 0)), op 4 (.nilc (.r 3)), op 5 (.ld 1 false (.r 4)), op 6 (.mov (.r 0)), op 7 (.nilc (.r 6)), op 8 (.ld 1 false (.r 7)), op 9 (.bin .shl (.r 8) (.c (.int .u64 13))), op 10 (.bin .xor (.r 5) (.r 9)), op 11 (.nilc (.r 3)), ef (.st 1 (.r 11) (.r 10))]) <|
  sq (.ops [op 12 (.mov (.r 0)), op 13 (.nilc (.r 12)), op 14 (.ld 1 false (.r 13)), op 15 (.mov (.r 0)), op 16 (.nilc (.r 15)), op 17 (.ld 1 false (.r 16)), op 18 (.bin .shr (.r 17) (.c (.int .u64 7))), op 19 (.bin .xor (.r 14) (.r 18)), op 20 (.nilc (.r 12)), ef (.st 1 (.r 20) (.r 19))]) <|
  sq (.ops [op 21 (.mov (.r 0)), op 22 (.nilc (.r 21)), op 23 (.ld 1 false (.r 22)), op 24 (.mov (.r 0)), op 25 (.nilc (.r 24)), op 26 (.ld 1 false (.r 25)), op 27 (.bin .shl (.r 26) (.c (.int .u64 17))), op 28 (.bin .xor (.r 23) (.r 27)), op 29 (.nilc (.r 21)), ef (.st 1 (.r 29) (.r 28))]) <|
  sq (.ops [op 30 (.mov (.r 0)), op 31 (.nilc (.r 30)), op 32 (.ld 1 false (.r 31)), op 2 (.mov (.r 32))]) <|
  .ret⟩
def an114 : An := ⟨[], []⟩
def ir114 : Go.Rmp.Fn := ⟨18, 4, [.t 8],
  sq (.ops [op 8 (.mov (.c (.int .i64 0)))]) <|
  sq (.ops [op 9 (.mov (.r 0)), op 10 (.mov (.r 1)), op 11 (.bin .sub (.r 10) (.c (.int .i64 1))), op 12 (.mov (.r 1)), op 13 (.mov (.r 1)), op 14 (.bin .add (.r 13) (.c (.int .i64 1))), op 15 (.mov (.r 2)), op 16 (.mov (.r 3)), cl 17 115 [(.r 9), (.r 11), (.r 12), (.r 14), (.r 15), (.r 16)], op 8 (.mov (.r 17))]) <|
  .ret⟩
def an115 : An := ⟨[], []⟩
def ir115 : Go.Rmp.Fn := ⟨41, 6, [.t 12],
  sq (.ops [op 12 (.mov (.c (.int .i64 0)))]) <|
  sq (.ops [op 14 (.mov (.r 0)), op 15 (.mov (.r 1)), op 16 (.mov (.r 2)), op 17 (.mov (.r 4)), op 18 (.mov (.r 5)), cl 19 119 [(.r 14), (.r 15), (.r 16), (.r 17), (.r 18)], op 13 (.mov (.r 19)), op 20 (.ext 0 (.r 13)), op 21 (.ext 1 (.r 13)), op 1 (.mov (.r 20)), op 2 (.mov (.r 21))]) <|
  sq (.ops [op 23 (.mov (.r 0)), op 24 (.mov (.r 2)), op 25 (.mov (.r 3)), op 26 (.mov (.r 4)), op 27 (.mov (.r 5)), cl 28 119 [(.r 23), (.r 24), (.r 25), (.r 26), (.r 27)], op 22 (.mov (.r 28)), op 29 (.ext 0 (.r 22)), op 30 (.ext 1 (.r 22)), op 2 (.mov (.r 29)), op 3 (.mov (.r 30))]) <|
  sq (.ops [op 32 (.mov (.r 0)), op 33 (.mov (.r 1)), op 34 (.mov (.r 2)), op 35 (.mov (.r 4)), op 36 (.mov (.r 5)), cl 37 119 [(.r 32), (.r 33), (.r 34), (.r 35), (.r 36)], op 31 (.mov (.r 37)), op 38 (.ext 0 (.r 31)), op 39 (.ext 1 (.r 31)), op 1 (.mov (.r 38)), op 2 (.mov (.r 39))]) <|
  sq (.ops [op 40 (.mov (.r 2)), op 12 (.mov (.r 40))]) <|
  .ret⟩
def an119 : An := ⟨[], [(1, [(0, true), (1, true), (2, true), (3, true), (4, true), (5, true), (6, true), (7, true), (8, true), (9, false), (10, true)])]⟩
def ir119 : Go.Rmp.Fn := ⟨32, 5, [.t 10, .t 11],
  sq (.ops [op 10 (.mov (.c (.int .i64 0))), op 11 (.mov (.c (.int .i64 0)))]) <|
  sq (sq (.ops [op 12 (.mov (.r 4)), op 13 (.mov (.r 0)), op 14 (.mov (.r 2)), op 15 (.iad 2 (.r 13) (.r 14)), op 16 (.ld 2 true (.r 15)), op 17 (.mov (.r 0)), op 18 (.mov (.r 1)), op 19 (.iad 2 (.r 17) (.r 18)), op 20 (.ld 2 true (.r 19)), ⟨(some 21), .callv (.r 12) [(.r 16), (.r 20)], none, []⟩, op 22 (.bin .lss (.r 21) (.c (.int .i64 0)))]) <|
  .cond (.r 22)
    (sq (.ops [op 23 (.mov (.r 3)), op 24 (.nilc (.r 23)), op 25 (.ld 1 false (.r 24)), op 26 (.bin .add (.r 25) (.c (.int .i64 1))), op 27 (.nilc (.r 23)), ef (.st 1 (.r 27) (.r 26))]) <|
    sq (.ops [op 28 (.mov (.r 2)), op 29 (.mov (.r 1)), op 10 (.mov (.r 28)), op 11 (.mov (.r 29))]) <|
    .ret)
    (.skip)) <|
  sq (.ops [op 30 (.mov (.r 1)), op 31 (.mov (.r 2)), op 10 (.mov (.r 30)), op 11 (.mov (.r 31))]) <|
  .ret⟩
theorem c3 : compFn Tryz.prog an3 3 = some ir3 := by kernel_rfl
theorem c4 : compFn Tryz.prog an4 4 = some ir4 := by kernel_rfl
theorem c5 : compFn Tryz.prog an5 5 = some ir5 := by kernel_rfl
theorem c6 : compFn Tryz.prog an6 6 = some ir6 := by kernel_rfl
theorem c7 : compFn Tryz.prog an7 7 = some ir7 := by kernel_rfl
theorem c8 : compFn Tryz.prog an8 8 = some ir8 := by kernel_rfl
theorem c9 : compFn Tryz.prog an9 9 = some ir9 := by kernel_rfl
theorem c10 : compFn Tryz.prog an10 10 = some ir10 := by kernel_rfl
theorem c11 : compFn Tryz.prog an11 11 = some ir11 := by kernel_rfl
theorem c12 : compFn Tryz.prog an12 12 = some ir12 := by kernel_rfl
theorem c13 : compFn Tryz.prog an13 13 = some ir13 := by kernel_rfl
theorem c14 : compFn Tryz.prog an14 14 = some ir14 := by kernel_rfl
theorem c15 : compFn Tryz.prog an15 15 = some ir15 := by kernel_rfl
theorem c16 : compFn Tryz.prog an16 16 = some ir16 := by kernel_rfl
theorem c17 : compFn Tryz.prog an17 17 = some ir17 := by kernel_rfl
theorem c18 : compFn Tryz.prog an18 18 = some ir18 := by kernel_rfl
theorem c19 : compFn Tryz.prog an19 19 = some ir19 := by kernel_rfl
theorem c20 : compFn Tryz.prog an20 20 = some ir20 := by kernel_rfl
theorem c21 : compFn Tryz.prog an21 21 = some ir21 := by kernel_rfl
theorem c22 : compFn Tryz.prog an22 22 = some ir22 := by kernel_rfl
theorem c23 : compFn Tryz.prog an23 23 = some ir23 := by kernel_rfl
theorem c24 : compFn Tryz.prog an24 24 = some ir24 := by kernel_rfl
theorem c25 : compFn Tryz.prog an25 25 = some ir25 := by kernel_rfl
theorem c26 : compFn Tryz.prog an26 26 = some ir26 := by kernel_rfl
theorem c27 : compFn Tryz.prog an27 27 = some ir27 := by kernel_rfl
theorem c28 : compFn Tryz.prog an28 28 = some ir28 := by kernel_rfl
theorem c29 : compFn Tryz.prog an29 29 = some ir29 := by kernel_rfl
theorem c30 : compFn Tryz.prog an30 30 = some ir30 := by kernel_rfl
theorem c31 : compFn Tryz.prog an31 31 = some ir31 := by kernel_rfl
theorem c32 : compFn Tryz.prog an32 32 = some ir32 := by kernel_rfl
theorem c33 : compFn Tryz.prog an33 33 = some ir33 := by kernel_rfl
theorem c34 : compFn Tryz.prog an34 34 = some ir34 := by kernel_rfl
theorem c35 : compFn Tryz.prog an35 35 = some ir35 := by kernel_rfl
theorem c36 : compFn Tryz.prog an36 36 = some ir36 := by kernel_rfl
theorem c37 : compFn Tryz.prog an37 37 = some ir37 := by kernel_rfl
theorem c38 : compFn Tryz.prog an38 38 = some ir38 := by kernel_rfl
theorem c39 : compFn Tryz.prog an39 39 = some ir39 := by kernel_rfl
theorem c40 : compFn Tryz.prog an40 40 = some ir40 := by kernel_rfl
theorem c41 : compFn Tryz.prog an41 41 = some ir41 := by kernel_rfl
theorem c42 : compFn Tryz.prog an42 42 = some ir42 := by kernel_rfl
theorem c43 : compFn Tryz.prog an43 43 = some ir43 := by kernel_rfl
theorem c44 : compFn Tryz.prog an44 44 = some ir44 := by kernel_rfl
theorem c45 : compFn Tryz.prog an45 45 = some ir45 := by kernel_rfl
theorem c46 : compFn Tryz.prog an46 46 = some ir46 := by kernel_rfl
theorem c47 : compFn Tryz.prog an47 47 = some ir47 := by kernel_rfl
theorem c48 : compFn Tryz.prog an48 48 = some ir48 := by kernel_rfl
theorem c49 : compFn Tryz.prog an49 49 = some ir49 := by kernel_rfl
theorem c50 : compFn Tryz.prog an50 50 = some ir50 := by kernel_rfl
theorem c51 : compFn Tryz.prog an51 51 = some ir51 := by kernel_rfl
theorem c52 : compFn Tryz.prog an52 52 = some ir52 := by kernel_rfl
theorem c53 : compFn Tryz.prog an53 53 = some ir53 := by kernel_rfl
theorem c54 : compFn Tryz.prog an54 54 = some ir54 := by kernel_rfl
theorem c55 : compFn Tryz.prog an55 55 = some ir55 := by kernel_rfl
theorem c56 : compFn Tryz.prog an56 56 = some ir56 := by kernel_rfl
theorem c57 : compFn Tryz.prog an57 57 = some ir57 := by kernel_rfl
theorem c58 : compFn Tryz.prog an58 58 = some ir58 := by kernel_rfl
theorem c59 : compFn Tryz.prog an59 59 = some ir59 := by kernel_rfl
theorem c60 : compFn Tryz.prog an60 60 = some ir60 := by kernel_rfl
theorem c61 : compFn Tryz.prog an61 61 = some ir61 := by kernel_rfl
theorem c62 : compFn Tryz.prog an62 62 = some ir62 := by kernel_rfl
theorem c63 : compFn Tryz.prog an63 63 = some ir63 := by kernel_rfl
theorem c64 : compFn Tryz.prog an64 64 = some ir64 := by kernel_rfl
theorem c65 : compFn Tryz.prog an65 65 = some ir65 := by kernel_rfl
theorem c66 : compFn Tryz.prog an66 66 = some ir66 := by kernel_rfl
theorem c67 : compFn Tryz.prog an67 67 = some ir67 := by kernel_rfl
theorem c68 : compFn Tryz.prog an68 68 = some ir68 := by kernel_rfl
theorem c69 : compFn Tryz.prog an69 69 = some ir69 := by kernel_rfl
theorem c70 : compFn Tryz.prog an70 70 = some ir70 := by kernel_rfl
theorem c71 : compFn Tryz.prog an71 71 = some ir71 := by kernel_rfl
theorem c74 : compFn Tryz.prog an74 74 = some ir74 := by kernel_rfl
theorem c75 : compFn Tryz.prog an75 75 = some ir75 := by kernel_rfl
theorem c76 : compFn Tryz.prog an76 76 = some ir76 := by kernel_rfl
theorem c77 : compFn Tryz.prog an77 77 = some ir77 := by kernel_rfl
theorem c78 : compFn Tryz.prog an78 78 = some ir78 := by kernel_rfl
theorem c79 : compFn Tryz.prog an79 79 = some ir79 := by kernel_rfl
theorem c80 : compFn Tryz.prog an80 80 = some ir80 := by kernel_rfl
theorem c81 : compFn Tryz.prog an81 81 = some ir81 := by kernel_rfl
theorem c82 : compFn Tryz.prog an82 82 = some ir82 := by kernel_rfl
theorem c83 : compFn Tryz.prog an83 83 = some ir83 := by kernel_rfl
theorem c84 : compFn Tryz.prog an84 84 = some ir84 := by kernel_rfl
theorem c85 : compFn Tryz.prog an85 85 = some ir85 := by kernel_rfl
theorem c86 : compFn Tryz.prog an86 86 = some ir86 := by kernel_rfl
theorem c87 : compFn Tryz.prog an87 87 = some ir87 := by kernel_rfl
theorem c88 : compFn Tryz.prog an88 88 = some ir88 := by kernel_rfl
theorem c90 : compFn Tryz.prog an90 90 = some ir90 := by kernel_rfl
theorem c91 : compFn Tryz.prog an91 91 = some ir91 := by kernel_rfl
theorem c92 : compFn Tryz.prog an92 92 = some ir92 := by kernel_rfl
theorem c93 : compFn Tryz.prog an93 93 = some ir93 := by kernel_rfl
theorem c94 : compFn Tryz.prog an94 94 = some ir94 := by kernel_rfl
theorem c95 : compFn Tryz.prog an95 95 = some ir95 := by kernel_rfl
theorem c96 : compFn Tryz.prog an96 96 = some ir96 := by kernel_rfl
theorem c97 : compFn Tryz.prog an97 97 = some ir97 := by kernel_rfl
theorem c99 : compFn Tryz.prog an99 99 = some ir99 := by kernel_rfl
theorem c100 : compFn Tryz.prog an100 100 = some ir100 := by kernel_rfl
theorem c101 : compFn Tryz.prog an101 101 = some ir101 := by kernel_rfl
theorem c102 : compFn Tryz.prog an102 102 = some ir102 := by kernel_rfl
theorem c111 : compFn Tryz.prog an111 111 = some ir111 := by kernel_rfl
theorem c112 : compFn Tryz.prog an112 112 = some ir112 := by kernel_rfl
theorem c113 : compFn Tryz.prog an113 113 = some ir113 := by kernel_rfl
theorem c114 : compFn Tryz.prog an114 114 = some ir114 := by kernel_rfl
theorem c115 : compFn Tryz.prog an115 115 = some ir115 := by kernel_rfl
theorem c119 : compFn Tryz.prog an119 119 = some ir119 := by kernel_rfl
def envFn : Nat → Option Go.Rmp.Fn
  | 3 => some ir3
  | 4 => some ir4
  | 5 => some ir5
  | 6 => some ir6
  | 7 => some ir7
  | 8 => some ir8
  | 9 => some ir9
  | 10 => some ir10
  | 11 => some ir11
  | 12 => some ir12
  | 13 => some ir13
  | 14 => some ir14
  | 15 => some ir15
  | 16 => some ir16
  | 17 => some ir17
  | 18 => some ir18
  | 19 => some ir19
  | 20 => some ir20
  | 21 => some ir21
  | 22 => some ir22
  | 23 => some ir23
  | 24 => some ir24
  | 25 => some ir25
  | 26 => some ir26
  | 27 => some ir27
  | 28 => some ir28
  | 29 => some ir29
  | 30 => some ir30
  | 31 => some ir31
  | 32 => some ir32
  | 33 => some ir33
  | 34 => some ir34
  | 35 => some ir35
  | 36 => some ir36
  | 37 => some ir37
  | 38 => some ir38
  | 39 => some ir39
  | 40 => some ir40
  | 41 => some ir41
  | 42 => some ir42
  | 43 => some ir43
  | 44 => some ir44
  | 45 => some ir45
  | 46 => some ir46
  | 47 => some ir47
  | 48 => some ir48
  | 49 => some ir49
  | 50 => some ir50
  | 51 => some ir51
  | 52 => some ir52
  | 53 => some ir53
  | 54 => some ir54
  | 55 => some ir55
  | 56 => some ir56
  | 57 => some ir57
  | 58 => some ir58
  | 59 => some ir59
  | 60 => some ir60
  | 61 => some ir61
  | 62 => some ir62
  | 63 => some ir63
  | 64 => some ir64
  | 65 => some ir65
  | 66 => some ir66
  | 67 => some ir67
  | 68 => some ir68
  | 69 => some ir69
  | 70 => some ir70
  | 71 => some ir71
  | 74 => some ir74
  | 75 => some ir75
  | 76 => some ir76
  | 77 => some ir77
  | 78 => some ir78
  | 79 => some ir79
  | 80 => some ir80
  | 81 => some ir81
  | 82 => some ir82
  | 83 => some ir83
  | 84 => some ir84
  | 85 => some ir85
  | 86 => some ir86
  | 87 => some ir87
  | 88 => some ir88
  | 90 => some ir90
  | 91 => some ir91
  | 92 => some ir92
  | 93 => some ir93
  | 94 => some ir94
  | 95 => some ir95
  | 96 => some ir96
  | 97 => some ir97
  | 99 => some ir99
  | 100 => some ir100
  | 101 => some ir101
  | 102 => some ir102
  | 111 => some ir111
  | 112 => some ir112
  | 113 => some ir113
  | 114 => some ir114
  | 115 => some ir115
  | 119 => some ir119
  | _ => none
def env : Env := ⟨envFn, fun _ _ _ _ => False, fun _ _ _ _ _ h _ => h⟩
theorem envOk : EnvOk Tryz.prog env where
  mixed := by kernel_rfl
  fn := by
    intro f fn h
    simp only [env, envFn] at h
    split at h
    · cases h; exact ⟨_, c3⟩
    · cases h; exact ⟨_, c4⟩
    · cases h; exact ⟨_, c5⟩
    · cases h; exact ⟨_, c6⟩
    · cases h; exact ⟨_, c7⟩
    · cases h; exact ⟨_, c8⟩
    · cases h; exact ⟨_, c9⟩
    · cases h; exact ⟨_, c10⟩
    · cases h; exact ⟨_, c11⟩
    · cases h; exact ⟨_, c12⟩
    · cases h; exact ⟨_, c13⟩
    · cases h; exact ⟨_, c14⟩
    · cases h; exact ⟨_, c15⟩
    · cases h; exact ⟨_, c16⟩
    · cases h; exact ⟨_, c17⟩
    · cases h; exact ⟨_, c18⟩
    · cases h; exact ⟨_, c19⟩
    · cases h; exact ⟨_, c20⟩
    · cases h; exact ⟨_, c21⟩
    · cases h; exact ⟨_, c22⟩
    · cases h; exact ⟨_, c23⟩
    · cases h; exact ⟨_, c24⟩
    · cases h; exact ⟨_, c25⟩
    · cases h; exact ⟨_, c26⟩
    · cases h; exact ⟨_, c27⟩
    · cases h; exact ⟨_, c28⟩
    · cases h; exact ⟨_, c29⟩
    · cases h; exact ⟨_, c30⟩
    · cases h; exact ⟨_, c31⟩
    · cases h; exact ⟨_, c32⟩
    · cases h; exact ⟨_, c33⟩
    · cases h; exact ⟨_, c34⟩
    · cases h; exact ⟨_, c35⟩
    · cases h; exact ⟨_, c36⟩
    · cases h; exact ⟨_, c37⟩
    · cases h; exact ⟨_, c38⟩
    · cases h; exact ⟨_, c39⟩
    · cases h; exact ⟨_, c40⟩
    · cases h; exact ⟨_, c41⟩
    · cases h; exact ⟨_, c42⟩
    · cases h; exact ⟨_, c43⟩
    · cases h; exact ⟨_, c44⟩
    · cases h; exact ⟨_, c45⟩
    · cases h; exact ⟨_, c46⟩
    · cases h; exact ⟨_, c47⟩
    · cases h; exact ⟨_, c48⟩
    · cases h; exact ⟨_, c49⟩
    · cases h; exact ⟨_, c50⟩
    · cases h; exact ⟨_, c51⟩
    · cases h; exact ⟨_, c52⟩
    · cases h; exact ⟨_, c53⟩
    · cases h; exact ⟨_, c54⟩
    · cases h; exact ⟨_, c55⟩
    · cases h; exact ⟨_, c56⟩
    · cases h; exact ⟨_, c57⟩
    · cases h; exact ⟨_, c58⟩
    · cases h; exact ⟨_, c59⟩
    · cases h; exact ⟨_, c60⟩
    · cases h; exact ⟨_, c61⟩
    · cases h; exact ⟨_, c62⟩
    · cases h; exact ⟨_, c63⟩
    · cases h; exact ⟨_, c64⟩
    · cases h; exact ⟨_, c65⟩
    · cases h; exact ⟨_, c66⟩
    · cases h; exact ⟨_, c67⟩
    · cases h; exact ⟨_, c68⟩
    · cases h; exact ⟨_, c69⟩
    · cases h; exact ⟨_, c70⟩
    · cases h; exact ⟨_, c71⟩
    · cases h; exact ⟨_, c74⟩
    · cases h; exact ⟨_, c75⟩
    · cases h; exact ⟨_, c76⟩
    · cases h; exact ⟨_, c77⟩
    · cases h; exact ⟨_, c78⟩
    · cases h; exact ⟨_, c79⟩
    · cases h; exact ⟨_, c80⟩
    · cases h; exact ⟨_, c81⟩
    · cases h; exact ⟨_, c82⟩
    · cases h; exact ⟨_, c83⟩
    · cases h; exact ⟨_, c84⟩
    · cases h; exact ⟨_, c85⟩
    · cases h; exact ⟨_, c86⟩
    · cases h; exact ⟨_, c87⟩
    · cases h; exact ⟨_, c88⟩
    · cases h; exact ⟨_, c90⟩
    · cases h; exact ⟨_, c91⟩
    · cases h; exact ⟨_, c92⟩
    · cases h; exact ⟨_, c93⟩
    · cases h; exact ⟨_, c94⟩
    · cases h; exact ⟨_, c95⟩
    · cases h; exact ⟨_, c96⟩
    · cases h; exact ⟨_, c97⟩
    · cases h; exact ⟨_, c99⟩
    · cases h; exact ⟨_, c100⟩
    · cases h; exact ⟨_, c101⟩
    · cases h; exact ⟨_, c102⟩
    · cases h; exact ⟨_, c111⟩
    · cases h; exact ⟨_, c112⟩
    · cases h; exact ⟨_, c113⟩
    · cases h; exact ⟨_, c114⟩
    · cases h; exact ⟨_, c115⟩
    · cases h; exact ⟨_, c119⟩
    · cases h
  prim := by intro f az H Q h; exact h.elim
end Go.Proofs.YtodegnhallgnkaaGreat.Ir
end

section
namespace Go.Proofs.YtodegnhallgnkaaGreat.St
open Go.Rmp Go.Proofs.YtodegnhallgnkaaGreat.Ir
set_option maxRecDepth 10000
theorem getP {α : Type} {l : List α} {i : Nat} (h : i < l.length) : ∃ x, l[i]? = some x := ⟨l[i], List.getElem?_eq_getElem h⟩
def eS (s : ByteArray) : List T := [.str s]
def eU (n : Nat) : List T := [.int .u64 n]
theorem wrap8 {n : Nat} (h : n < 256) : IntKind.u8.wrap (n : Int) = (n : Int) := by
  unfold IntKind.wrap
  simp -implicitDefEqProofs only [IntKind.signed, IntKind.bits]
  simp
  omega
def rises : List ByteArray → Bool
  | a :: b :: l => strLt a b && rises (b :: l)
  | _ => true
theorem rises_iff : ∀ (l : List ByteArray), rises l = true ↔ ∀ (i : Nat) (a b : ByteArray), l[i]? = some a → l[i+1]? = some b → strLt a b = true
  | [] => by simp [rises]
  | [a] => by simp [rises]
  | a :: b :: l => by
    simp -implicitDefEqProofs only [rises, Bool.and_eq_true, rises_iff (b :: l)]
    constructor
    · rintro ⟨h1, h2⟩ i x y hx hy
      cases i with
      | zero => simp at hx hy; subst hx; subst hy; exact h1
      | succ i => exact h2 i x y (by simpa using hx) (by simpa using hy)
    · intro h
      exact ⟨h 0 a b rfl rfl, fun i x y hx hy => h (i + 1) x y (by simpa using hx) (by simpa using hy)⟩
theorem rises_lt {l : List ByteArray} (h : rises l = true) : ∀ (q p : Nat) (a b : ByteArray), p < q → l[p]? = some a → l[q]? = some b → strLt a b = true
  | 0, p, _, _, hpq, _, _ => by omega
  | q + 1, p, a, b, hpq, ha, hb => by
    obtain ⟨c, hc⟩ := getP (l := l) (i := q) (by have := (List.getElem?_eq_some_iff.1 hb).1; omega)
    have h1 := (rises_iff l).1 h q c b hc hb
    by_cases e : p = q
    · subst e; rw [ha] at hc; cases hc; exact h1
    · exact lt_trans' (rises_lt h q p a c (by omega) ha hc) h1
theorem wrapu {n : Nat} (h : n < 18446744073709551616) : IntKind.u64.wrap (n : Int) = (n : Int) := by
  unfold IntKind.wrap
  simp -implicitDefEqProofs only [IntKind.signed, IntKind.bits]
  simp
  omega
theorem tick31 (n : Int) (H : Heap) : W env (.call 29 [.int .i64 n]) H (Ret (.bool (decide (0 ≤ n) && decide (n ≤ 1099511627776))) H) := by
  refine W.fnI rfl rfl rfl ?_
  by_cases h1 : 0 ≤ n
  · simp -implicitDefEqProofs only [ir29, op, ef, cl, sq, reduceIte, q1, q2, q3, q4, q5, q6, q7, q8, q9, S1, h1]
  · simp -implicitDefEqProofs only [ir29, op, ef, cl, sq, reduceIte, q1, q2, q3, q4, q5, q6, q7, q8, q9, S1, h1, Bool.false_and]
end Go.Proofs.YtodegnhallgnkaaGreat.St
end

section
namespace Go.Proofs.YtodegnhallgnkaaGreat.St
open Go.Rmp Go.Proofs.YtodegnhallgnkaaGreat.Ir
set_option maxRecDepth 10000
theorem all_map {α : Type} {enc : α → List T} {n : Nat} (hn : ∀ x, (enc x).length = n) (l : List α) : (l.map enc).all (·.length == n) = true := by
  simp [List.all_map, hn]
theorem take_sn {α : Type} {l : List α} {i : Nat} {x : α} (h : l[i]? = some x) : l.take (i + 1) = l.take i ++ [x] := by
  obtain ⟨hi, e⟩ := List.getElem?_eq_some_iff.1 h
  rw [List.take_add_one, h]; rfl
theorem iadX {α : Type} {e : α → List T} {n : Nat} (hn : ∀ x, (e x).length = n) (h0 : n ≠ 0) {l : List α} {k : SK} {i : Nat} {x : α} (h : l[i]? = some x) : iadT n i (.sl k (l.map e)) = some (.iptr (e x)) := by
  simp -implicitDefEqProofs only [iadT, List.getElem?_map, h, Option.map_some, hn, h0, ne_eq, not_false_eq_true, and_self, if_true]
theorem roomS {n b : Nat} (h : n ≤ 16777216) (hb : b ≤ 64) : roomOk n b = true := by
  simp -implicitDefEqProofs only [roomOk, decide_eq_true_eq]
  have : (n + n / 4 + 512) * b ≤ (n + n / 4 + 512) * 64 := Nat.mul_le_mul_left _ hb
  omega
def KOk {α : Type} (k : SK) (l : List α) : Prop := k = .nil → l = []
theorem app_nn {H H' : Heap} {bytes : Nat} {k k' : SK} {es new es' : List (List T)} (ha : appT H bytes k es new = some (.sl k' es', H')) (hn : new ≠ []) : k' ≠ .nil := by
  rintro rfl
  unfold appT at ha
  split at ha
  · exact hn rfl
  · split at ha
    · cases k <;> simp only at ha
      · simp at ha
      · cases ha
      · simp at ha
      · split at ha
        · split at ha <;> simp at ha
        · cases ha
    · cases ha
theorem nan66 (s : ByteArray) (H : Heap) : W env (.call 79 [.str s]) H (Ret (.bool false) H) := by
  refine W.fnI rfl rfl rfl ?_
  simp -implicitDefEqProofs only [ir79, op, ef, cl, sq, reduceIte, q1, q2, q3, q4, q5, q6, q7, q8, q9, S1, Bool.not_true]
theorem nan94 (s : ByteArray) (H : Heap) : W env (.call 88 [.str s]) H (Ret (.bool false) H) := by
  refine W.fnI rfl rfl rfl ?_
  simp -implicitDefEqProofs only [ir88, op, ef, cl, sq, reduceIte, q1, q2, q3, q4, q5, q6, q7, q8, q9, S1, Bool.not_true]
theorem nan67 (n : Nat) (H : Heap) : W env (.call 80 [.int .u64 n]) H (Ret (.bool false) H) := by
  refine W.fnI rfl rfl rfl ?_
  simp -implicitDefEqProofs only [ir80, op, ef, cl, sq, reduceIte, q1, q2, q3, q4, q5, q6, q7, q8, q9, S1]
theorem nan72 (n : Nat) (H : Heap) : W env (.call 71 [.int .u64 n]) H (Ret (.bool false) H) := by
  refine W.fnI rfl rfl rfl ?_
  simp -implicitDefEqProofs only [ir71, op, ef, cl, sq, reduceIte, q1, q2, q3, q4, q5, q6, q7, q8, q9, S1]
def cmpS (a b : ByteArray) : Int := if strLt a b = true then -1 else if strLt b a = true then 1 else 0
def cmpN (a b : Nat) : Int := if a < b then -1 else if b < a then 1 else 0
theorem cmp52 (a b : ByteArray) (H : Heap) : W env (.call 62 [.str a, .str b]) H (Ret (.int .i64 (cmpS a b)) H) := by
  refine W.fnI rfl rfl rfl ?_
  simp -implicitDefEqProofs only [ir62, op, ef, cl, sq, reduceIte, q1, q2, q3, q4, q5, q6, q7, q8, q9, S1]
  refine callB_of _ _ _ _ _ _ _ _ (nan66 a _) ?_
  rintro u H1 ⟨hu, rfl⟩
  cases hu
  simp -implicitDefEqProofs only [op, ef, cl, sq, reduceIte, q1, q2, q3, q4, q5, q6, q7, q8, q9, S1]
  refine callB_of _ _ _ _ _ _ _ _ (nan66 b _) ?_
  rintro u H1 ⟨hu, rfl⟩
  cases hu
  cases h1 : strLt a b
  · cases h2 : strLt b a
    · simp -implicitDefEqProofs only [op, ef, cl, sq, reduceIte, q1, q2, q3, q4, q5, q6, q7, q8, q9, S1, cmpS, h1, h2]
    · simp -implicitDefEqProofs only [op, ef, cl, sq, reduceIte, q1, q2, q3, q4, q5, q6, q7, q8, q9, S1, cmpS, h1, h2]
  · simp -implicitDefEqProofs only [op, ef, cl, sq, reduceIte, q1, q2, q3, q4, q5, q6, q7, q8, q9, S1, cmpS, h1]
theorem cmp53 (a b : Nat) (H : Heap) : W env (.call 63 [.int .u64 a, .int .u64 b]) H (Ret (.int .i64 (cmpN a b)) H) := by
  refine W.fnI rfl rfl rfl ?_
  simp -implicitDefEqProofs only [ir63, op, ef, cl, sq, reduceIte, q1, q2, q3, q4, q5, q6, q7, q8, q9, S1]
  refine callB_of _ _ _ _ _ _ _ _ (nan67 a _) ?_
  rintro u H1 ⟨hu, rfl⟩
  cases hu
  simp -implicitDefEqProofs only [op, ef, cl, sq, reduceIte, q1, q2, q3, q4, q5, q6, q7, q8, q9, S1]
  refine callB_of _ _ _ _ _ _ _ _ (nan67 b _) ?_
  rintro u H1 ⟨hu, rfl⟩
  cases hu
  by_cases h1 : a < b
  · simp -implicitDefEqProofs only [op, ef, cl, sq, reduceIte, q1, q2, q3, q4, q5, q6, q7, q8, q9, S1, cmpN, h1]
  · by_cases h2 : b < a
    · simp -implicitDefEqProofs only [op, ef, cl, sq, reduceIte, q1, q2, q3, q4, q5, q6, q7, q8, q9, S1, cmpN, h1, h2]
    · simp -implicitDefEqProofs only [op, ef, cl, sq, reduceIte, q1, q2, q3, q4, q5, q6, q7, q8, q9, S1, cmpN, h1, h2]
theorem less91 (a b : ByteArray) (H : Heap) : W env (.call 87 [.str a, .str b]) H (Ret (.bool (strLt a b)) H) := by
  refine W.fnI rfl rfl rfl ?_
  simp -implicitDefEqProofs only [ir87, op, ef, cl, sq, reduceIte, q1, q2, q3, q4, q5, q6, q7, q8, q9, S1]
  refine callB_of _ _ _ _ _ _ _ _ (nan66 a _) ?_
  rintro u H1 ⟨hu, rfl⟩
  cases hu
  simp -implicitDefEqProofs only [op, ef, cl, sq, reduceIte, q1, q2, q3, q4, q5, q6, q7, q8, q9, S1]
theorem less71 (a b : Nat) (H : Heap) : W env (.call 70 [.int .u64 a, .int .u64 b]) H (Ret (.bool (decide (a < b))) H) := by
  refine W.fnI rfl rfl rfl ?_
  simp -implicitDefEqProofs only [ir70, op, ef, cl, sq, reduceIte, q1, q2, q3, q4, q5, q6, q7, q8, q9, S1]
  refine callB_of _ _ _ _ _ _ _ _ (nan67 a _) ?_
  rintro u H1 ⟨hu, rfl⟩
  cases hu
  simp -implicitDefEqProofs only [op, ef, cl, sq, reduceIte, q1, q2, q3, q4, q5, q6, q7, q8, q9, S1]
def or2 (x y : Int) : Int := if x = 0 then y else x
theorem or51 (x y : Int) (H : Heap) : W env (.call 61 [.sl .full [[.int .i64 x], [.int .i64 y]]]) H (Ret (.int .i64 (or2 x y)) H) := by
  refine W.fnI rfl rfl rfl ?_
  simp -implicitDefEqProofs only [ir61, op, ef, cl, sq, reduceIte, q1, q2, q3, q4, q5, q6, q7, q8, q9, S1]
  refine W.loopI (fun (i : Nat) R H' => H' = H ∧ R 3 = .int .i64 0 ∧ R 6 = .sl .full [[.int .i64 x], [.int .i64 y]] ∧ R 7 = .int .i64 2 ∧ R 8 = .int .i64 i ∧ i ≤ 2 ∧ (1 ≤ i → x = 0) ∧ (2 ≤ i → y = 0)) (fun i => 2 - i) 0 ⟨rfl, rfl, rfl, rfl, rfl, by omega, fun h => by omega, fun h => by omega⟩ ?_
  rintro i R _ ⟨rfl, h3, h6, h7, h8, hi, h1, h2⟩
  have hc : i = 0 ∨ i = 1 ∨ i = 2 := by omega
  have i0 : iadT 1 0 (.sl .full [[T.int .i64 x], [.int .i64 y]]) = some (.iptr [.int .i64 x]) := rfl
  have i1 : iadT 1 1 (.sl .full [[T.int .i64 x], [.int .i64 y]]) = some (.iptr [.int .i64 y]) := rfl
  have n0 : natOf (.int .i64 ((0 : Nat) : Int)) = some 0 := rfl
  have n1 : natOf (.int .i64 ((1 : Nat) : Int)) = some 1 := rfl
  have l0 : ((0 : Nat) : Int) < 2 := by decide
  have l1 : ((1 : Nat) : Int) < 2 := by decide
  have l2 : ¬ ((2 : Nat) : Int) < 2 := by decide
  have w0 : IntKind.i64.wrap (((0 : Nat) : Int) + 1) = ((1 : Nat) : Int) := by decide
  have w1 : IntKind.i64.wrap (((1 : Nat) : Int) + 1) = ((2 : Nat) : Int) := by decide
  rcases hc with rfl | rfl | rfl
  · by_cases hx : x = 0
    · subst hx
      simp -implicitDefEqProofs only [op, ef, cl, sq, reduceIte, q1, q2, q3, q4, q5, q6, q7, q8, q9, S1, h3, h6, h7, h8, l0, i0, n0, w0]
      exact ⟨1, by decide, rfl, by omega⟩
    · have hx' : (x != 0) = true := by simpa using hx
      simp -implicitDefEqProofs only [op, ef, cl, sq, reduceIte, q1, q2, q3, q4, q5, q6, q7, q8, q9, S1, h3, h6, h7, h8, l0, i0, n0, hx', or2, hx]
  · have hx := h1 (by decide)
    subst hx
    by_cases hy : y = 0
    · subst hy
      simp -implicitDefEqProofs only [op, ef, cl, sq, reduceIte, q1, q2, q3, q4, q5, q6, q7, q8, q9, S1, h3, h6, h7, h8, l1, i1, n1, w1]
      exact ⟨2, by decide, rfl, by omega⟩
    · have hy' : (y != 0) = true := by simpa using hy
      simp -implicitDefEqProofs only [op, ef, cl, sq, reduceIte, q1, q2, q3, q4, q5, q6, q7, q8, q9, S1, h3, h6, h7, h8, l1, i1, n1, hy', or2]
  · have hx := h1 (by decide)
    have hy := h2 (by decide)
    subst hx hy
    simp -implicitDefEqProofs only [op, ef, cl, sq, reduceIte, q1, q2, q3, q4, q5, q6, q7, q8, q9, S1, h3, h6, h7, h8, l2, or2]
abbrev Nm := ByteArray × Nat
def eN (n : Nm) : List T := [.str n.1, .int .u64 n.2]
def kN (n : Nm) : T := .agg (eN n)
theorem kNok : KeyOk (.st [.str, .int]) kN := ⟨fun _ => rfl, fun a b => by
  simp -implicitDefEqProofs only [kN, eN, keyEq, eqCells, eqSc, strEq_eq, if_true, deq]
  congr 1
  rw [Bool.eq_iff_iff]
  simp [Prod.ext_iff]⟩
def cmpM (a b : Nm) : Int := or2 (cmpS a.1 b.1) (cmpN a.2 b.2)
theorem byName36 (a b : Nm) (H : Heap) : W env (.call 43 [kN a, kN b]) H (RetG (.int .i64 (cmpM a b)) H) := by
  refine W.fnI rfl rfl rfl ?_
  simp -implicitDefEqProofs only [ir43, kN, eN, op, ef, cl, sq, reduceIte, q1, q2, q3, q4, q5, q6, q7, q8, q9, S1, S2, S3]
  refine callB_of _ _ _ _ _ _ _ _ (cmp52 _ _ _) ?_
  rintro u H1 ⟨hu, rfl⟩
  cases hu
  simp -implicitDefEqProofs only [op, ef, cl, sq, reduceIte, q1, q2, q3, q4, q5, q6, q7, q8, q9, S1, S2, S3]
  refine callB_of _ _ _ _ _ _ _ _ (cmp53 _ _ _) ?_
  rintro u H1 ⟨hu, rfl⟩
  cases hu
  simp -implicitDefEqProofs only [op, ef, cl, sq, reduceIte, q1, q2, q3, q4, q5, q6, q7, q8, q9, S1, S2, S3]
  refine callB_of _ _ _ _ _ _ _ _ (or51 _ _ _) ?_
  rintro u H1 ⟨hu, rfl⟩
  cases hu
  simp -implicitDefEqProofs only [op, ef, cl, sq, reduceIte, q1, q2, q3, q4, q5, q6, q7, q8, q9, S1]
  exact ⟨rfl, (Ext.rfl'.app _).app _⟩
end Go.Proofs.YtodegnhallgnkaaGreat.St
end

section
namespace Go.Proofs.YtodegnhallgnkaaGreat.St
open Go.Rmp Go.Proofs.YtodegnhallgnkaaGreat.Ir
set_option maxRecDepth 10000
theorem half (i j : Nat) (h : i + j < 9223372036854775807) : IntKind.i64.wrap ((IntKind.u64.wrap (IntKind.i64.wrap ((i : Int) + (j : Int)))).fdiv (2 ^ (min (1 : Int).toNat IntKind.u64.bits))) = (((i + j) / 2 : Nat) : Int) := by
  rw [wrap64 (n := (i : Int) + j) (by omega), wrapu64 (n := (i : Int) + j) (by omega)]
  have e : (2 : Int) ^ (min (1 : Int).toNat IntKind.u64.bits) = 2 := by decide
  rw [e, Int.fdiv_eq_ediv_of_nonneg _ (by omega), wrap64 (by omega)]
  omega
def memB (l : List ByteArray) (x : ByteArray) : Bool := l.any fun y => decide (y = x)
theorem memB_iff {l : List ByteArray} {x : ByteArray} : memB l x = true ↔ x ∈ l := by simp [memB]
theorem memB_no {l : List ByteArray} {x : ByteArray} : memB l x = false ↔ x ∉ l := by rw [← memB_iff]; simp
def OkKey (l : List ByteArray) (i : Nat) : Prop := ∀ x, l[i]? = some x → x.size ≤ 65535 ∧ (0 < i → ∀ y, l[i-1]? = some y → strLt y x = true)
def GoodKeys (l : List ByteArray) : Prop := (∀ i, i < l.length → OkKey l i) ∧ 1 ≤ l.length ∧ l.length ≤ 1024
def goodB (l : List ByteArray) : Bool := rises l && l.all (fun x => decide (x.size ≤ 65535)) && decide (1 ≤ l.length) && decide (l.length ≤ 1024)
theorem goodB_iff {l : List ByteArray} : goodB l = true ↔ GoodKeys l := by
  simp -implicitDefEqProofs only [goodB, Bool.and_eq_true, decide_eq_true_eq, List.all_eq_true, GoodKeys, rises_iff]
  constructor
  · rintro ⟨⟨⟨h1, h2⟩, h3⟩, h4⟩
    refine ⟨fun i hi x hx => ⟨h2 x (List.mem_of_getElem? hx), fun h0 y hy => h1 (i - 1) y x hy (by rw [show i - 1 + 1 = i by omega]; exact hx)⟩, h3, h4⟩
  · rintro ⟨h1, h3, h4⟩
    refine ⟨⟨⟨fun i a b ha hb => ?_, fun x hx => ?_⟩, h3⟩, h4⟩
    · exact (h1 (i + 1) (List.getElem?_eq_some_iff.1 hb).1 b hb).2 (by omega) a (by simpa using ha)
    · obtain ⟨i, hi, rfl⟩ := List.getElem_of_mem hx
      exact (h1 i hi _ (List.getElem?_eq_getElem hi)).1
theorem goodB_no {l : List ByteArray} (h : ¬ GoodKeys l) : goodB l = false := by
  cases e : goodB l with
  | false => rfl
  | true => exact absurd (goodB_iff.1 e) h
theorem GoodKeys.rises {l : List ByteArray} (h : GoodKeys l) : rises l = true := (rises_iff l).2 fun i a b ha hb => by
  have := (h.1 (i + 1) (List.getElem?_eq_some_iff.1 hb).1 b hb).2 (by omega) a (by simpa using ha)
  exact this
theorem rising57 (k : SK) (l : List ByteArray) (H : Heap) (hl : l.length < 9223372036854775807) : W env (.call 50 [.sl k (l.map eS)]) H (fun o H' => o = .val (.bool (goodB l)) ∧ H' = H) := by
  refine W.fnI rfl rfl rfl ?_
  simp -implicitDefEqProofs only [ir50, op, ef, cl, sq, reduceIte, q1, q2, q3, q4, q5, q6, q7, q8, q9, S1, List.length_map]
  refine W.loopI (fun (i : Nat) R H' => H' = H ∧ R 0 = .sl k (l.map eS) ∧ R 5 = .sl k (l.map eS) ∧ R 6 = .int .i64 l.length ∧ R 7 = .int .i64 i ∧ i ≤ l.length ∧ ∀ j, j < i → OkKey l j) (fun i => l.length - i) 0 ⟨rfl, rfl, rfl, rfl, rfl, Nat.zero_le _, fun j h => by omega⟩ ?_
  rintro i R _ ⟨rfl, h0, h5, h6, h7, hi, hok⟩
  by_cases hlt : i < l.length
  · obtain ⟨x, hx⟩ := getP hlt
    have ws := wrap_succ (show i < 9223372036854775807 by omega)
    have hia := iadX (e := eS) (n := 1) (fun _ => rfl) (by decide) (k := k) hx
    have bad : ¬ OkKey l i → goodB l = false := fun hb => goodB_no fun h => hb (h.1 i hlt)
    by_cases hsz : 65535 < x.size
    · have := bad fun h => by have := (h x hx).1; omega
      simp -implicitDefEqProofs only [op, ef, cl, sq, reduceIte, q1, q2, q3, q4, q5, q6, q7, q8, q9, S1, h0, h5, h6, h7, hlt, natOf_nat, hia, eS, hsz, this]
    · by_cases hi0 : 0 < i
      · obtain ⟨y, hy⟩ := getP (l := l) (i := i - 1) (by omega)
        have wp := wrap_pred (show i < 9223372036854775807 by omega) hi0
        have hiy := iadX (e := eS) (n := 1) (fun _ => rfl) (by decide) (k := k) hy
        cases hc : strLt y x
        · have := bad fun h => by have := (h x hx).2 hi0 y hy; rw [hc] at this; cases this
          simp -implicitDefEqProofs only [op, ef, cl, sq, reduceIte, q1, q2, q3, q4, q5, q6, q7, q8, q9, S1, h0, h5, h6, h7, hlt, natOf_nat, hia, hiy, eS, hsz, hi0, wp, hc, this]
        · simp -implicitDefEqProofs only [op, ef, cl, sq, reduceIte, q1, q2, q3, q4, q5, q6, q7, q8, q9, S1, h0, h5, h6, h7, hlt, natOf_nat, hia, hiy, eS, hsz, hi0, wp, hc, ws]
          refine ⟨i + 1, by omega, rfl, by omega, fun j hj => ?_⟩
          by_cases e : j = i
          · subst e; intro x' hx'; rw [hx] at hx'; cases hx'
            exact ⟨by omega, fun _ y' hy' => by rw [hy] at hy'; cases hy'; exact hc⟩
          · exact hok j (by omega)
      · simp -implicitDefEqProofs only [op, ef, cl, sq, reduceIte, q1, q2, q3, q4, q5, q6, q7, q8, q9, S1, h0, h5, h6, h7, hlt, natOf_nat, hia, eS, hsz, hi0, ws]
        refine ⟨i + 1, by omega, rfl, by omega, fun j hj => ?_⟩
        by_cases e : j = i
        · subst e; intro x' hx'; rw [hx] at hx'; cases hx'
          exact ⟨by omega, fun h => absurd h hi0⟩
        · exact hok j (by omega)
  · have hil : i = l.length := by omega
    subst hil
    by_cases h1 : 1 ≤ l.length
    · have e : goodB l = decide (l.length ≤ 1024) := by
        rw [Bool.eq_iff_iff, goodB_iff]; simp -implicitDefEqProofs only [decide_eq_true_eq]
        exact ⟨fun h => h.2.2, fun h => ⟨hok, h1, h⟩⟩
      simp -implicitDefEqProofs only [op, ef, cl, sq, reduceIte, q1, q2, q3, q4, q5, q6, q7, q8, q9, S1, h0, h5, h6, h7, hlt, List.length_map, h1, e]
    · have e : goodB l = false := goodB_no fun h => h1 h.2.1
      simp -implicitDefEqProofs only [op, ef, cl, sq, reduceIte, q1, q2, q3, q4, q5, q6, q7, q8, q9, S1, h0, h5, h6, h7, hlt, List.length_map, h1, e]
theorem bs70 (k : SK) (l : List ByteArray) (x : ByteArray) (H : Heap) (hl : l.length < 4611686018427387903) (hr : rises l = true) :
    W env (.call 69 [.sl k (l.map eS), .str x]) H (fun o H' => ∃ i : Nat, o = .val (.tup [.int .i64 i, .bool (memB l x)]) ∧ H' = H) := by
  refine W.fnI rfl rfl rfl ?_
  simp -implicitDefEqProofs only [ir69, op, ef, cl, sq, reduceIte, q1, q2, q3, q4, q5, q6, q7, q8, q9, S1, List.length_map]
  refine W.loopI (fun (s : Nat × Nat) R H' => H' = H ∧ R 0 = .sl k (l.map eS) ∧ R 1 = .str x ∧ R 6 = .int .i64 l.length ∧ R 7 = .int .i64 s.1 ∧ R 8 = .int .i64 s.2 ∧ s.1 ≤ s.2 ∧ s.2 ≤ l.length ∧ (∀ p a, p < s.1 → l[p]? = some a → strLt a x = true) ∧ ∀ p a, s.2 ≤ p → l[p]? = some a → strLt a x = false)
    (fun s => s.2 - s.1) (0, l.length) ⟨rfl, rfl, rfl, rfl, rfl, rfl, Nat.zero_le _, Nat.le_refl _, fun p a h => by omega, fun p a h ha => by rw [List.getElem?_eq_none h] at ha; cases ha⟩ ?_
  rintro ⟨i, j⟩ R _ ⟨rfl, h0, h1, h6, h7, h8, hij, hjn, hlo, hhi⟩
  simp -implicitDefEqProofs only [op, ef, cl, sq, reduceIte, q1, q2, q3, q4, q5, q6, q7, q8, q9, S1, h0, h1, h6, h7, h8, List.length_map]
  by_cases hlt : i < j
  · obtain ⟨y, hy⟩ := getP (l := l) (i := (i + j) / 2) (by omega)
    have hia := iadX (e := eS) (n := 1) (fun _ => rfl) (by decide) (k := k) hy
    simp -implicitDefEqProofs only [hlt, op, ef, cl, sq, reduceIte, q1, q2, q3, q4, q5, q6, q7, q8, q9, S1, h0, h1, h6, h7, h8, half i j (by omega), hia, eS]
    refine callB_of _ _ _ _ _ _ _ _ (less91 y x _) ?_
    rintro v H' ⟨hv, rfl⟩
    cases hv
    simp -implicitDefEqProofs only [op, ef, cl, sq, reduceIte, q1, q2, q3, q4, q5, q6, q7, q8, q9, S1, h0, h1, h6, h7, h8]
    cases hc : strLt y x
    · simp -implicitDefEqProofs only [op, ef, cl, sq, reduceIte, q1, q2, q3, q4, q5, q6, q7, q8, q9, S1, h0, h1, h6, h7, h8]
      refine ⟨(i, (i + j) / 2), by omega, rfl, rfl, by omega, by omega, hlo, fun p a hp ha => ?_⟩
      by_cases e : p = (i + j) / 2
      · subst e; rw [hy] at ha; cases ha; exact hc
      · cases hh : strLt a x with
        | false => rfl
        | true => rw [lt_trans' (rises_lt hr p ((i + j) / 2) y a (by omega) hy ha) hh] at hc; cases hc
    · simp -implicitDefEqProofs only [op, ef, cl, sq, reduceIte, q1, q2, q3, q4, q5, q6, q7, q8, q9, S1, h0, h1, h6, h7, h8, wrap_succ (show (i + j) / 2 < 9223372036854775807 by omega)]
      refine ⟨((i + j) / 2 + 1, j), by omega, rfl, rfl, by omega, by omega, fun p a hp ha => ?_, hhi⟩
      by_cases e : p = (i + j) / 2
      · subst e; rw [hy] at ha; cases ha; exact hc
      · exact lt_trans' (rises_lt hr ((i + j) / 2) p a y (by omega) ha hy) hc
  · have hij' : i = j := by simp only at hij; omega
    subst hij'
    by_cases hin : i < l.length
    · obtain ⟨y, hy⟩ := getP hin
      have hia := iadX (e := eS) (n := 1) (fun _ => rfl) (by decide) (k := k) hy
      by_cases hyx : y = x
      · have : memB l x = true := memB_iff.2 (hyx ▸ List.mem_of_getElem? hy)
        simp -implicitDefEqProofs only [op, ef, cl, sq, reduceIte, q1, q2, q3, q4, q5, q6, q7, q8, q9, S1, h0, h1, h6, h7, h8, List.length_map, hlt, hin, hia, eS, hyx, this]
        exact ⟨i, rfl⟩
      · have : memB l x = false := memB_no.2 fun hm => by
          obtain ⟨p, hp, e⟩ := List.getElem_of_mem hm
          have hpx : l[p]? = some x := by rw [List.getElem?_eq_getElem hp, e]
          rcases Nat.lt_trichotomy p i with h | h | h
          · have := hlo p x h hpx; rw [lt_irr] at this; cases this
          · subst h; rw [hy] at hpx; cases hpx; exact hyx rfl
          · have a1 := hhi i y (Nat.le_refl _) hy
            rw [rises_lt hr p i y x h hy hpx] at a1; cases a1
        simp -implicitDefEqProofs only [op, ef, cl, sq, reduceIte, q1, q2, q3, q4, q5, q6, q7, q8, q9, S1, h0, h1, h6, h7, h8, List.length_map, hlt, hin, hia, eS, hyx]
        refine callB_of _ _ _ _ _ _ _ _ (nan94 y _) ?_
        rintro v H' ⟨hv, rfl⟩
        cases hv
        simp -implicitDefEqProofs only [op, ef, cl, sq, reduceIte, q1, q2, q3, q4, q5, q6, q7, q8, q9, S1, this]
        exact ⟨i, rfl⟩
    · have : memB l x = false := memB_no.2 fun hm => by
        obtain ⟨p, hp, e⟩ := List.getElem_of_mem hm
        have hpx : l[p]? = some x := by rw [List.getElem?_eq_getElem hp, e]
        have := hlo p x (by omega) hpx; rw [lt_irr] at this; cases this
      simp -implicitDefEqProofs only [op, ef, cl, sq, reduceIte, q1, q2, q3, q4, q5, q6, q7, q8, q9, S1, h0, h1, h6, h7, h8, List.length_map, hlt, hin, this]
      exact ⟨i, rfl⟩
theorem has58 (k : SK) (l : List ByteArray) (x : ByteArray) (H : Heap) (hl : l.length < 4611686018427387903) (hr : rises l = true) : W env (.call 51 [.sl k (l.map eS), .str x]) H (Ret (.bool (memB l x)) H) := by
  refine W.fnI rfl rfl rfl ?_
  simp -implicitDefEqProofs only [ir51, op, ef, cl, sq, reduceIte, q1, q2, q3, q4, q5, q6, q7, q8, q9, S1]
  refine callB_of _ _ _ _ _ _ _ _ (bs70 k l x _ hl hr) ?_
  rintro v H' ⟨i, hv, rfl⟩
  cases hv
  simp -implicitDefEqProofs only [op, ef, cl, sq, reduceIte, q1, q2, q3, q4, q5, q6, q7, q8, q9, S1]
end Go.Proofs.YtodegnhallgnkaaGreat.St
end

section
namespace Go.Proofs.YtodegnhallgnkaaGreat.St
open Go.Rmp Go.Proofs.YtodegnhallgnkaaGreat.Ir
set_option maxRecDepth 10000
def eP (p : ByteArray × ByteArray) : List T := [.str p.1, .str p.2]
def OkPair (l : List (ByteArray × ByteArray)) (ks : List ByteArray) (i : Nat) : Prop := ∀ p, l[i]? = some p → (0 < i → ∀ q, l[i-1]? = some q → strLt q.1 p.1 = true) ∧ p.1 ∈ ks ∧ p.2.size ≤ 65535
def MayP (n : Nat) (l : List (ByteArray × ByteArray)) (ks : List ByteArray) : Prop := 65536 ≤ n ∧ GoodKeys ks ∧ 1 ≤ l.length ∧ ∀ i, i < l.length → OkPair l ks i
theorem may43 (n : Nat) (k k' : SK) (l : List (ByteArray × ByteArray)) (ks : List ByteArray) (H : Heap) (hl : l.length < 9223372036854775807) (hks : ks.length < 4611686018427387903) :
    W env (.call 28 [.int .u64 n, .sl k (l.map eP), .sl k' (ks.map eS)]) H (fun o H' => Ext H H' ∧ ∃ b, o = .val (.bool b) ∧ (b = true ↔ MayP n l ks)) := by
  refine W.fnI rfl rfl rfl ?_
  have no : ¬ MayP n l ks → ((false : Bool) = true ↔ MayP n l ks) := fun h => ⟨fun e => (by cases e), fun e => absurd e h⟩
  by_cases hn : n < 65536
  · simp -implicitDefEqProofs only [ir28, op, ef, cl, sq, reduceIte, q1, q2, q3, q4, q5, q6, q7, q8, q9, S1, hn]
    exact ⟨Ext.rfl', false, rfl, no fun h => by have := h.1; omega⟩
  simp -implicitDefEqProofs only [ir28, op, ef, cl, sq, reduceIte, q1, q2, q3, q4, q5, q6, q7, q8, q9, S1, hn]
  refine callB_of _ _ _ _ _ _ _ _ (rising57 k' ks _ (by omega)) ?_
  rintro u H1 ⟨hu, rfl⟩
  cases hu
  cases hg : goodB ks
  · simp -implicitDefEqProofs only [op, ef, cl, sq, reduceIte, q1, q2, q3, q4, q5, q6, q7, q8, q9, S1]
    exact ⟨Ext.rfl', false, rfl, no fun h => by have := goodB_iff.2 h.2.1; rw [hg] at this; cases this⟩
  have hgk := goodB_iff.1 hg
  by_cases hl1 : l.length < 1
  · simp -implicitDefEqProofs only [op, ef, cl, sq, reduceIte, q1, q2, q3, q4, q5, q6, q7, q8, q9, S1, List.length_map, hl1]
    exact ⟨Ext.rfl', false, rfl, no fun h => by have := h.2.2.1; omega⟩
  simp -implicitDefEqProofs only [op, ef, cl, sq, reduceIte, q1, q2, q3, q4, q5, q6, q7, q8, q9, S1, List.length_map, hl1]
  refine W.loopI (fun (i : Nat) R H' => At H' (fun H' => Ext H1 H') ∧ R 0 = .int .u64 n ∧ R 1 = .sl k (l.map eP) ∧ R 2 = .sl k' (ks.map eS) ∧ R 21 = .sl k (l.map eP) ∧ R 22 = .int .i64 l.length ∧ R 23 = .int .i64 i ∧ i ≤ l.length ∧ ∀ j, j < i → OkPair l ks j) (fun i => l.length - i) 0 ⟨.i Ext.rfl', rfl, rfl, rfl, rfl, rfl, rfl, Nat.zero_le _, fun j h => by omega⟩ ?_
  rintro i R H2 ⟨hx, h0, h1, h2, h21, h22, h23, hi, hok⟩
  have hx : Ext H1 H2 := hx
  by_cases hlt : i < l.length
  · obtain ⟨p, hp⟩ := getP hlt
    have ws := wrap_succ (show i < 9223372036854775807 by omega)
    have hia := iadX (e := eP) (n := 2) (fun _ => rfl) (by decide) (k := k) hp
    have bad : ¬ OkPair l ks i → ((false : Bool) = true ↔ MayP n l ks) := fun hb => no fun h => hb (h.2.2.2 i hlt)
    have hxx : ∀ y : B, Ext H1 (H2 ++ [y]) := fun y => hx.app _
    have key : (0 < i → ∀ q, l[i-1]? = some q → strLt q.1 p.1 = true) → ∀ c : Bool, c = memB ks p.1 → (c = false ∨ 65535 < p.2.size → ¬ OkPair l ks i) ∧ (c = true → ¬ 65535 < p.2.size → ∀ j, j < i + 1 → OkPair l ks j) := by
      rintro hs c rfl
      refine ⟨fun h ho => ?_, fun hc hsz j hj => ?_⟩
      · have := (ho p hp).2
        rcases h with h | h
        · exact memB_no.1 h this.1
        · omega
      · by_cases e : j = i
        · subst e; intro p' hp'; rw [hp] at hp'; cases hp'
          exact ⟨hs, memB_iff.1 hc, by omega⟩
        · exact hok j (by omega)
    by_cases hi0 : 0 < i
    · obtain ⟨q, hq⟩ := getP (l := l) (i := i - 1) (by omega)
      have wp := wrap_pred (show i < 9223372036854775807 by omega) hi0
      have hiq := iadX (e := eP) (n := 2) (fun _ => rfl) (by decide) (k := k) hq
      cases hc : strLt q.1 p.1
      · simp -implicitDefEqProofs only [op, ef, cl, sq, reduceIte, q1, q2, q3, q4, q5, q6, q7, q8, q9, S1, S2, S3, h0, h1, h2, h21, h22, h23, hlt, natOf_nat, hia, hiq, eP, hi0, wp, hc]
        exact ⟨(hx.app _), false, rfl, bad fun h => by have := (h p hp).1 hi0 q hq; rw [hc] at this; cases this⟩
      · have hk := key (fun _ q' hq' => by rw [hq] at hq'; cases hq'; exact hc) (memB ks p.1) rfl
        simp -implicitDefEqProofs only [op, ef, cl, sq, reduceIte, q1, q2, q3, q4, q5, q6, q7, q8, q9, S1, S2, S3, h0, h1, h2, h21, h22, h23, hlt, natOf_nat, hia, hiq, eP, hi0, wp, hc]
        refine callB_of _ _ _ _ _ _ _ _ (has58 k' ks p.1 _ (by omega) hgk.rises) ?_
        rintro u H3 ⟨hu, rfl⟩
        cases hu
        cases hm : memB ks p.1
        · simp -implicitDefEqProofs only [op, ef, cl, sq, reduceIte, q1, q2, q3, q4, q5, q6, q7, q8, q9, S1]
          exact ⟨(hx.app _), false, rfl, bad (hk.1 (.inl hm))⟩
        · by_cases hsz : 65535 < p.2.size
          · simp -implicitDefEqProofs only [op, ef, cl, sq, reduceIte, q1, q2, q3, q4, q5, q6, q7, q8, q9, S1, S2, S3, hsz]
            exact ⟨(hx.app _), false, rfl, bad (hk.1 (.inr hsz))⟩
          · simp -implicitDefEqProofs only [op, ef, cl, sq, reduceIte, q1, q2, q3, q4, q5, q6, q7, q8, q9, S1, S2, S3, hsz, h0, h1, h2, h21, h22, h23, ws]
            exact ⟨i + 1, by omega, .i (hx.app _), rfl, by omega, hk.2 hm hsz⟩
    · have hk := key (fun h => absurd h hi0) (memB ks p.1) rfl
      simp -implicitDefEqProofs only [op, ef, cl, sq, reduceIte, q1, q2, q3, q4, q5, q6, q7, q8, q9, S1, S2, S3, h0, h1, h2, h21, h22, h23, hlt, natOf_nat, hia, eP, hi0]
      refine callB_of _ _ _ _ _ _ _ _ (has58 k' ks p.1 _ (by omega) hgk.rises) ?_
      rintro u H3 ⟨hu, rfl⟩
      cases hu
      cases hm : memB ks p.1
      · simp -implicitDefEqProofs only [op, ef, cl, sq, reduceIte, q1, q2, q3, q4, q5, q6, q7, q8, q9, S1]
        exact ⟨(hx.app _), false, rfl, bad (hk.1 (.inl hm))⟩
      · by_cases hsz : 65535 < p.2.size
        · simp -implicitDefEqProofs only [op, ef, cl, sq, reduceIte, q1, q2, q3, q4, q5, q6, q7, q8, q9, S1, S2, S3, hsz]
          exact ⟨(hx.app _), false, rfl, bad (hk.1 (.inr hsz))⟩
        · simp -implicitDefEqProofs only [op, ef, cl, sq, reduceIte, q1, q2, q3, q4, q5, q6, q7, q8, q9, S1, S2, S3, hsz, h0, h1, h2, h21, h22, h23, ws]
          exact ⟨i + 1, by omega, .i (hx.app _), rfl, by omega, hk.2 hm hsz⟩
  · have hil : i = l.length := by omega
    subst hil
    simp -implicitDefEqProofs only [op, ef, cl, sq, reduceIte, q1, q2, q3, q4, q5, q6, q7, q8, q9, S1, h0, h1, h2, h21, h22, h23, hlt]
    exact ⟨hx, true, rfl, ⟨fun _ => ⟨by omega, hgk, by omega, hok⟩, fun _ => rfl⟩⟩
theorem er_map (l : List ByteArray) : (l.map eS).map (·.map T.erase) = l.map eS := by simp [List.map_map, Function.comp_def, eS, T.erase]
theorem clone42 (k : SK) (l : List ByteArray) (H : Heap) (hk : KOk k l) (hl : l.length ≤ 16777216) : W env (.call 31 [.sl k (l.map eS)]) H (fun o H' => Ext H H' ∧ ∃ k', KOk k' l ∧ o = .val (.sl k' (l.map eS))) := by
  refine W.fnI rfl rfl rfl ?_
  have app : l ≠ [] → ∃ k' H', appT H 16 .full [] (l.map eS) = some (.sl k' (l.map eS), H') ∧ Ext H H' ∧ k' ≠ .nil := fun hne => by
    obtain ⟨k', H', ha, hap, hst⟩ := app_ok (n0 := H.length) (H := H) (bytes := 16) (k := .full) [] (l.map eS) (.inr (.inl rfl)) (Nat.le_refl _) (by simpa using hne) (roomS (by simp; omega) (by omega))
    rw [List.nil_append, er_map] at ha
    refine ⟨k', H', ha, hst.ext H (Nat.le_refl _) Ext.rfl', fun h => ?_⟩
    subst h
    unfold appT at ha
    cases hl : l.map eS with
    | nil => simp at hl; exact hne hl
    | cons c cs => rw [hl] at ha; simp only at ha; split at ha <;> simp at ha
  cases k with
  | nil =>
    have := hk rfl; subst this
    simp -implicitDefEqProofs only [ir31, op, ef, cl, sq, reduceIte, q1, q2, q3, q4, q5, q6, q7, q8, q9, S1, eqRef, nilOf]
    exact ⟨Ext.rfl', .nil, fun _ => rfl, rfl⟩
  | arg =>
    cases l with
    | nil =>
      simp -implicitDefEqProofs only [ir31, op, ef, cl, sq, reduceIte, q1, q2, q3, q4, q5, q6, q7, q8, q9, S1, eqRef, nilOf, Option.map_none]
      refine fun t => ?_
      cases t
      · simp -implicitDefEqProofs only [op, ef, cl, sq, reduceIte, q1, q2, q3, q4, q5, q6, q7, q8, q9, S1, appT]
        exact ⟨Ext.rfl', .full, fun h => rfl, rfl⟩
      · simp -implicitDefEqProofs only [op, ef, cl, sq, reduceIte, q1, q2, q3, q4, q5, q6, q7, q8, q9, S1]
        exact ⟨Ext.rfl', .nil, fun _ => rfl, rfl⟩
    | cons a l =>
      obtain ⟨k', H', ha, hx, hk'⟩ := app (by simp)
      have h1 := all_map (enc := eS) (n := 1) (fun _ => rfl) (a :: l)
      simp -implicitDefEqProofs only [List.map_cons] at ha h1
      simp -implicitDefEqProofs only [ir31, op, ef, cl, sq, reduceIte, q1, q2, q3, q4, q5, q6, q7, q8, q9, S1, eqRef, nilOf, ha, h1]
      exact ⟨hx, k', fun h => absurd h hk', rfl⟩
  | full =>
    cases l with
    | nil =>
      simp -implicitDefEqProofs only [ir31, op, ef, cl, sq, reduceIte, q1, q2, q3, q4, q5, q6, q7, q8, q9, S1, eqRef, nilOf, appT]
      exact ⟨Ext.rfl', .full, fun h => rfl, rfl⟩
    | cons a l =>
      obtain ⟨k', H', ha, hx, hk'⟩ := app (by simp)
      have h1 := all_map (enc := eS) (n := 1) (fun _ => rfl) (a :: l)
      simp -implicitDefEqProofs only [List.map_cons] at ha h1
      simp -implicitDefEqProofs only [ir31, op, ef, cl, sq, reduceIte, q1, q2, q3, q4, q5, q6, q7, q8, q9, S1, eqRef, nilOf, ha, h1]
      exact ⟨hx, k', fun h => absurd h hk', rfl⟩
  | own t e =>
    cases l with
    | nil =>
      simp -implicitDefEqProofs only [ir31, op, ef, cl, sq, reduceIte, q1, q2, q3, q4, q5, q6, q7, q8, q9, S1, eqRef, nilOf, appT]
      exact ⟨Ext.rfl', .full, fun h => rfl, rfl⟩
    | cons a l =>
      obtain ⟨k', H', ha, hx, hk'⟩ := app (by simp)
      have h1 := all_map (enc := eS) (n := 1) (fun _ => rfl) (a :: l)
      simp -implicitDefEqProofs only [List.map_cons] at ha h1
      simp -implicitDefEqProofs only [ir31, op, ef, cl, sq, reduceIte, q1, q2, q3, q4, q5, q6, q7, q8, q9, S1, eqRef, nilOf, ha, h1]
      exact ⟨hx, k', fun h => absurd h hk', rfl⟩
end Go.Proofs.YtodegnhallgnkaaGreat.St
end

section
namespace Go.Proofs.YtodegnhallgnkaaGreat.St
open Go.Rmp Go.Proofs.YtodegnhallgnkaaGreat.Ir
set_option maxRecDepth 10000
def Frm (F : Nat → Prop) (H H' : Heap) : Prop := H.length ≤ H'.length ∧ ∀ c, c < H.length → ¬ F c → H'[c]? = H[c]?
theorem Frm.refl (F : Nat → Prop) (H : Heap) : Frm F H H := ⟨Nat.le_refl _, fun _ _ _ => rfl⟩
theorem Frm.trans {F G : Nat → Prop} {H H' H'' : Heap} (h : Frm F H H') (h' : Frm G H' H'') (hg : ∀ c, G c → F c ∨ H.length ≤ c) : Frm F H H'' :=
  ⟨Nat.le_trans h.1 h'.1, fun c hc hf => by rw [h'.2 c (Nat.lt_of_lt_of_le hc h.1) (fun hgc => (hg c hgc).elim hf (fun h => by omega)), h.2 c hc hf]⟩
theorem ext_frm {F : Nat → Prop} {H H' : Heap} (h : Ext H H') : Frm F H H' := ⟨h.len, fun c hc _ => by
  obtain ⟨m, rfl⟩ := h; rw [List.getElem?_append_left hc]⟩
theorem Frm.set {F : Nat → Prop} {H H' : Heap} (h : Frm F H H') {b : Nat} (hb : F b ∨ H.length ≤ b) (y : B) : Frm F H (H'.set b y) :=
  ⟨by rw [List.length_set]; exact h.1, fun c hc hf => by
    have : b ≠ c := by rintro rfl; rcases hb with hb | hb; exact hf hb; omega
    rw [g_ne this, h.2 c hc hf]⟩
theorem Frm.app {F : Nat → Prop} {H H' : Heap} (h : Frm F H H') (l : Heap) : Frm F H (H' ++ l) := ⟨by rw [List.length_append]; have := h.1; omega, fun c hc hf => by
  rw [List.getElem?_append_left (Nat.lt_of_lt_of_le hc h.1), h.2 c hc hf]⟩
theorem Frm.get {F : Nat → Prop} {H H' : Heap} (h : Frm F H H') {c : Nat} {x : B} (hx : H[c]? = some x) (hf : ¬ F c) : H'[c]? = some x := by rw [h.2 c (glt hx) hf]; exact hx
theorem Frm.mono {F G : Nat → Prop} {H H' : Heap} (h : Frm F H H') (hg : ∀ c, F c → G c) : Frm G H H' := ⟨h.1, fun c hc hf => h.2 c hc fun hh => hf (hg c hh)⟩
theorem mut_at {α : Type} {enc : α → List T} (hn : ∀ x, (enc x).length = 1) {n0 : Nat} {H : Heap} {t : T} {l : List α} (hm : Mut enc 1 n0 H t l) {i : Nat} {x : α} (hx : l[i]? = some x) : ∃ b, H[b]? = some (.cells (msC enc l)) ∧ iadT 1 i t = some (.ptr b (i * 1)) ∧ ldcB 1 (i * 1) (some (.cells (msC enc l))) = some (enc x) := by
  have hi := (List.getElem?_eq_some_iff.1 hx).1
  rcases hm with ⟨rfl, _⟩ | ⟨b, rfl, hb, _⟩
  · simp at hi
  · refine ⟨b, hb, by rw [iad_m]; simp [hi], ?_⟩
    have := msC_get hn hx 0 1 (by decide)
    simp -implicitDefEqProofs only [Nat.add_zero, List.drop_zero] at this
    rw [this, List.take_of_length_le (by rw [hn]; omega)]
def RiseN (l : List Nat) : Prop := ∀ (i j a b : Nat), i < j → l[i]? = some a → l[j]? = some b → a < b
theorem bs59 (n0 : Nat) (t : T) (l : List Nat) (x : Nat) (H : Heap) (hm : Mut eU 1 n0 H t l) (hl : l.length < 4611686018427387903) (hr : RiseN l) :
    W env (.call 52 [t, .int .u64 x]) H (fun o H' => ∃ (i : Nat) (fd : Bool), o = .val (.tup [.int .i64 i, .bool fd]) ∧ H' = H ∧ i ≤ l.length ∧ (∀ p a, p < i → l[p]? = some a → a < x) ∧ ∀ p a, i ≤ p → l[p]? = some a → x ≤ a) := by
  refine W.fnI rfl rfl rfl ?_
  have hlen := hm.len
  simp -implicitDefEqProofs only [ir52, op, ef, cl, sq, reduceIte, q1, q2, q3, q4, q5, q6, q7, q8, q9, S1, hlen]
  refine W.loopI (fun (s : Nat × Nat) R H' => H' = H ∧ R 0 = t ∧ R 1 = .int .u64 x ∧ R 6 = .int .i64 l.length ∧ R 7 = .int .i64 s.1 ∧ R 8 = .int .i64 s.2 ∧ s.1 ≤ s.2 ∧ s.2 ≤ l.length ∧ (∀ p a, p < s.1 → l[p]? = some a → a < x) ∧ ∀ p a, s.2 ≤ p → l[p]? = some a → x ≤ a)
    (fun s => s.2 - s.1) (0, l.length) ⟨rfl, rfl, rfl, rfl, rfl, rfl, Nat.zero_le _, Nat.le_refl _, fun p a h => by omega, fun p a h ha => by rw [List.getElem?_eq_none h] at ha; cases ha⟩ ?_
  rintro ⟨i, j⟩ R _ ⟨rfl, h0, h1, h6, h7, h8, hij, hjn, hlo, hhi⟩
  simp -implicitDefEqProofs only [op, ef, cl, sq, reduceIte, q1, q2, q3, q4, q5, q6, q7, q8, q9, S1, h0, h1, h6, h7, h8]
  by_cases hlt : i < j
  · obtain ⟨y, hy⟩ := getP (l := l) (i := (i + j) / 2) (by omega)
    obtain ⟨b, g1, g2, g3⟩ := mut_at (enc := eU) (fun _ => rfl) hm hy
    simp -implicitDefEqProofs only [hlt, op, ef, cl, sq, reduceIte, q1, q2, q3, q4, q5, q6, q7, q8, q9, S1, h0, h1, h6, h7, h8, half i j (by omega), natOf_nat, g1, g2, g3, eU]
    refine callB_of _ _ _ _ _ _ _ _ (less71 y x _) ?_
    rintro v H' ⟨hv, rfl⟩
    cases hv
    simp -implicitDefEqProofs only [op, ef, cl, sq, reduceIte, q1, q2, q3, q4, q5, q6, q7, q8, q9, S1, h0, h1, h6, h7, h8]
    by_cases hc : y < x
    · simp -implicitDefEqProofs only [op, ef, cl, sq, reduceIte, q1, q2, q3, q4, q5, q6, q7, q8, q9, S1, h0, h1, h6, h7, h8, hc, wrap_succ (show (i + j) / 2 < 9223372036854775807 by omega)]
      refine ⟨((i + j) / 2 + 1, j), by omega, rfl, rfl, by omega, by omega, fun p a hp ha => ?_, hhi⟩
      by_cases e : p = (i + j) / 2
      · subst e; rw [hy] at ha; cases ha; exact hc
      · have := hr p ((i + j) / 2) a y (by omega) ha hy; omega
    · simp -implicitDefEqProofs only [op, ef, cl, sq, reduceIte, q1, q2, q3, q4, q5, q6, q7, q8, q9, S1, h0, h1, h6, h7, h8, hc]
      refine ⟨(i, (i + j) / 2), by omega, rfl, rfl, by omega, by omega, hlo, fun p a hp ha => ?_⟩
      by_cases e : p = (i + j) / 2
      · subst e; rw [hy] at ha; cases ha; omega
      · have := hr ((i + j) / 2) p y a (by omega) hy ha; omega
  · have hij' : i = j := by simp only at hij; omega
    subst hij'
    by_cases hin : i < l.length
    · obtain ⟨y, hy⟩ := getP hin
      obtain ⟨b, g1, g2, g3⟩ := mut_at (enc := eU) (fun _ => rfl) hm hy
      by_cases hyx : y = x
      · simp -implicitDefEqProofs only [op, ef, cl, sq, reduceIte, q1, q2, q3, q4, q5, q6, q7, q8, q9, S1, h0, h1, h6, h7, h8, hlt, hin, natOf_nat, g1, g2, g3, eU, hyx]
        exact ⟨i, true, rfl, hjn, hlo, hhi⟩
      · simp -implicitDefEqProofs only [op, ef, cl, sq, reduceIte, q1, q2, q3, q4, q5, q6, q7, q8, q9, S1, h0, h1, h6, h7, h8, hlt, hin, natOf_nat, g1, g2, g3, eU, hyx]
        refine callB_of _ _ _ _ _ _ _ _ (nan72 y _) ?_
        rintro v H' ⟨hv, rfl⟩
        cases hv
        simp -implicitDefEqProofs only [op, ef, cl, sq, reduceIte, q1, q2, q3, q4, q5, q6, q7, q8, q9, S1]
        exact ⟨i, false, rfl, hjn, hlo, hhi⟩
    · simp -implicitDefEqProofs only [op, ef, cl, sq, reduceIte, q1, q2, q3, q4, q5, q6, q7, q8, q9, S1, h0, h1, h6, h7, h8, hlt, hin]
      exact ⟨i, false, rfl, hjn, hlo, hhi⟩
theorem is45 (y x : Nat) (c : Nat) (H : Heap) (hc : H[c]? = some (.cells (eU x))) : W env (.call 82 [(.int .u64 y), .ptr c 0]) H (Ret (.bool (decide (y = x))) H) := by
  refine W.fnI rfl rfl rfl ?_
  simp -implicitDefEqProofs only [ir82, op, ef, cl, sq, reduceIte, q1, q2, q3, q4, q5, q6, q7, q8, q9, S1, hc, eU]
theorem is47 (y x : ByteArray) (c : Nat) (H : Heap) (hc : H[c]? = some (.cells (eS x))) : W env (.call 84 [(.str y), .ptr c 0]) H (Ret (.bool (decide (y = x))) H) := by
  refine W.fnI rfl rfl rfl ?_
  simp -implicitDefEqProofs only [ir84, op, ef, cl, sq, reduceIte, q1, q2, q3, q4, q5, q6, q7, q8, q9, S1, hc, eS]
theorem idx61 (n0 : Nat) (t : T) (l : List Nat) (x : Nat) (c : Nat) (H : Heap) (hc : H[c]? = some (.cells (eU x))) (hm : Mut eU 1 n0 H t l) (hl : l.length < 4611686018427387903) :
    W env (.call 100 [t, .fn 82 [.ptr c 0]]) H (fun o H' => H' = H ∧ ((x ∉ l ∧ o = .val (.int .i64 (-1))) ∨ ∃ i : Nat, o = .val (.int .i64 i) ∧ l[i]? = some x ∧ ∀ p a, p < i → l[p]? = some a → a ≠ x)) := by
  refine W.fnI rfl rfl rfl ?_
  have hlen := hm.len
  simp -implicitDefEqProofs only [ir100, op, ef, cl, sq, reduceIte, q1, q2, q3, q4, q5, q6, q7, q8, q9, S1, hlen]
  refine W.loopI (fun (i : Nat) R H' => H' = H ∧ R 0 = t ∧ R 1 = .fn 82 [.ptr c 0] ∧ R 7 = .int .i64 l.length ∧ R 8 = .int .i64 i ∧ i ≤ l.length ∧ ∀ p a, p < i → l[p]? = some a → a ≠ x) (fun i => l.length - i) 0 ⟨rfl, rfl, rfl, rfl, rfl, Nat.zero_le _, fun p a h => by omega⟩ ?_
  rintro i R _ ⟨rfl, h0, h1, h7, h8, hi, hno⟩
  by_cases hlt : i < l.length
  · obtain ⟨y, hy⟩ := getP hlt
    obtain ⟨b, g1, g2, g3⟩ := mut_at (enc := eU) (fun _ => rfl) hm hy
    have ws := wrap_succ (show i < 9223372036854775807 by omega)
    simp -implicitDefEqProofs only [op, ef, cl, sq, reduceIte, q1, q2, q3, q4, q5, q6, q7, q8, q9, S1, h0, h1, h7, h8, hlt, natOf_nat, g1, g2, g3, eU]
    refine b_v _ _ _ _ _ _ _ ?_
    simp -implicitDefEqProofs only [op, ef, cl, sq, reduceIte, q1, q2, q3, q4, q5, q6, q7, q8, q9, S1, h1, callvB]
    refine callB_of _ _ _ _ _ _ _ _ (is45 y x c _ hc) ?_
    rintro v H' ⟨hv, rfl⟩
    cases hv
    by_cases e : y = x
    · simp -implicitDefEqProofs only [op, ef, cl, sq, reduceIte, q1, q2, q3, q4, q5, q6, q7, q8, q9, S1, e]
      exact .inr ⟨i, rfl, by rw [hy, e], hno⟩
    · simp -implicitDefEqProofs only [op, ef, cl, sq, reduceIte, q1, q2, q3, q4, q5, q6, q7, q8, q9, S1, h0, h1, h7, h8, e, ws]
      refine ⟨i + 1, by omega, rfl, by omega, fun p a hp ha => ?_⟩
      by_cases e' : p = i
      · subst e'; rw [hy] at ha; cases ha; exact e
      · exact hno p a (by omega) ha
  · simp -implicitDefEqProofs only [op, ef, cl, sq, reduceIte, q1, q2, q3, q4, q5, q6, q7, q8, q9, S1, h0, h1, h7, h8, hlt]
    refine .inl fun hm => ?_
    obtain ⟨p, hp, e⟩ := List.getElem_of_mem hm
    exact hno p x (by omega) (by rw [List.getElem?_eq_getElem hp, e]) rfl
theorem idx62 (n0 : Nat) (t : T) (l : List ByteArray) (x : ByteArray) (c : Nat) (H : Heap) (hc : H[c]? = some (.cells (eS x))) (hm : Mut eS 1 n0 H t l) (hl : l.length < 4611686018427387903) :
    W env (.call 101 [t, .fn 84 [.ptr c 0]]) H (fun o H' => H' = H ∧ ((x ∉ l ∧ o = .val (.int .i64 (-1))) ∨ ∃ i : Nat, o = .val (.int .i64 i) ∧ l[i]? = some x ∧ ∀ p a, p < i → l[p]? = some a → a ≠ x)) := by
  refine W.fnI rfl rfl rfl ?_
  have hlen := hm.len
  simp -implicitDefEqProofs only [ir101, op, ef, cl, sq, reduceIte, q1, q2, q3, q4, q5, q6, q7, q8, q9, S1, hlen]
  refine W.loopI (fun (i : Nat) R H' => H' = H ∧ R 0 = t ∧ R 1 = .fn 84 [.ptr c 0] ∧ R 7 = .int .i64 l.length ∧ R 8 = .int .i64 i ∧ i ≤ l.length ∧ ∀ p a, p < i → l[p]? = some a → a ≠ x) (fun i => l.length - i) 0 ⟨rfl, rfl, rfl, rfl, rfl, Nat.zero_le _, fun p a h => by omega⟩ ?_
  rintro i R _ ⟨rfl, h0, h1, h7, h8, hi, hno⟩
  by_cases hlt : i < l.length
  · obtain ⟨y, hy⟩ := getP hlt
    obtain ⟨b, g1, g2, g3⟩ := mut_at (enc := eS) (fun _ => rfl) hm hy
    have ws := wrap_succ (show i < 9223372036854775807 by omega)
    simp -implicitDefEqProofs only [op, ef, cl, sq, reduceIte, q1, q2, q3, q4, q5, q6, q7, q8, q9, S1, h0, h1, h7, h8, hlt, natOf_nat, g1, g2, g3, eS]
    refine b_v _ _ _ _ _ _ _ ?_
    simp -implicitDefEqProofs only [op, ef, cl, sq, reduceIte, q1, q2, q3, q4, q5, q6, q7, q8, q9, S1, h1, callvB]
    refine callB_of _ _ _ _ _ _ _ _ (is47 y x c _ hc) ?_
    rintro v H' ⟨hv, rfl⟩
    cases hv
    by_cases e : y = x
    · simp -implicitDefEqProofs only [op, ef, cl, sq, reduceIte, q1, q2, q3, q4, q5, q6, q7, q8, q9, S1, e]
      exact .inr ⟨i, rfl, by rw [hy, e], hno⟩
    · simp -implicitDefEqProofs only [op, ef, cl, sq, reduceIte, q1, q2, q3, q4, q5, q6, q7, q8, q9, S1, h0, h1, h7, h8, e, ws]
      refine ⟨i + 1, by omega, rfl, by omega, fun p a hp ha => ?_⟩
      by_cases e' : p = i
      · subst e'; rw [hy] at ha; cases ha; exact e
      · exact hno p a (by omega) ha
  · simp -implicitDefEqProofs only [op, ef, cl, sq, reduceIte, q1, q2, q3, q4, q5, q6, q7, q8, q9, S1, h0, h1, h7, h8, hlt]
    refine .inl fun hm => ?_
    obtain ⟨p, hp, e⟩ := List.getElem_of_mem hm
    exact hno p x (by omega) (by rw [List.getElem?_eq_getElem hp, e]) rfl
end Go.Proofs.YtodegnhallgnkaaGreat.St
end

section
namespace Go.Proofs.YtodegnhallgnkaaGreat.St
open Go.Rmp Go.Proofs.YtodegnhallgnkaaGreat.Ir
set_option maxRecDepth 10000
def wout {α : Type} [DecidableEq α] (l : List α) (x : α) : List α := l.filter fun y => !decide (y = x)
structure Cut {α : Type} [DecidableEq α] (l arr : List α) (x : α) (i j : Nat) : Prop where
  len : arr.length = l.length
  ij : i < j
  keep : arr.take i = wout (l.take j) x
  rest : ∀ p, j ≤ p → arr[p]? = l[p]?
theorem Cut.start {α : Type} [DecidableEq α] {l : List α} {x : α} {i : Nat} (hi : l[i]? = some x) (hno : ∀ p a, p < i → l[p]? = some a → a ≠ x) : Cut l l x i (i + 1) := by
  refine ⟨rfl, by omega, ?_, fun _ _ => rfl⟩
  rw [take_sn hi, wout, List.filter_append]
  have h1 : (l.take i).filter (fun y => !decide (y = x)) = l.take i := List.filter_eq_self.2 fun a ha => by
    obtain ⟨p, hp, e⟩ := List.getElem_of_mem ha
    have hp' : p < i ∧ p < l.length := by simp -implicitDefEqProofs only [List.length_take] at hp; omega
    have := hno p a hp'.1 (by rw [← e]; simp [List.getElem?_eq_getElem hp'.2])
    simp [this]
  rw [h1]; simp
theorem Cut.same {α : Type} [DecidableEq α] {l arr : List α} {x : α} {i j : Nat} (h : Cut l arr x i j) (hx : l[j]? = some x) : Cut l arr x i (j + 1) := by
  refine ⟨h.len, by have := h.ij; omega, ?_, fun p hp => h.rest p (by omega)⟩
  rw [take_sn hx, wout, List.filter_append, h.keep]; simp [wout]
theorem Cut.move {α : Type} [DecidableEq α] {l arr : List α} {x y : α} {i j : Nat} (h : Cut l arr x i j) (hy : l[j]? = some y) (hne : y ≠ x) : Cut l (arr.set i y) x (i + 1) (j + 1) := by
  have hj := (List.getElem?_eq_some_iff.1 hy).1
  have hi : i < arr.length := by have := h.ij; rw [h.len]; omega
  refine ⟨by simp [h.len], by have := h.ij; omega, ?_, fun p hp => by rw [List.getElem?_set_ne (by have := h.ij; omega)]; exact h.rest p (by omega)⟩
  have e1 : (arr.set i y).take (i + 1) = arr.take i ++ [y] := by
    rw [take_sn (x := y) (by rw [List.getElem?_set_self hi]), List.take_set_of_le (Nat.le_refl _)]
  rw [e1, h.keep, take_sn hy]
  simp [wout, hne]
theorem Cut.end' {α : Type} [DecidableEq α] {l arr : List α} {x : α} {i : Nat} (h : Cut l arr x i l.length) : arr.take i = wout l x := by
  rw [h.keep, List.take_length]
def DelQ {α : Type} [DecidableEq α] (enc : α → List T) (b : Nat) (l : List α) (x : α) (H : Heap) : Out → Heap → Prop := fun o H' => o = .val (.msl b 0 (wout l x).length 1) ∧ H'[b]? = some (.cells (msC enc (wout l x))) ∧ Frm (fun c => c = b) H H'
theorem wout_no {α : Type} [DecidableEq α] {l : List α} {x : α} (h : x ∉ l) : wout l x = l := List.filter_eq_self.2 fun a ha => by
  have : a ≠ x := by rintro rfl; exact h ha
  simp [this]
theorem del44 (b : Nat) (l : List Nat) (x : Nat) (c : Nat) (H : Heap) (hc : H[c]? = some (.cells (eU x))) (hb : H[b]? = some (.cells (msC eU l))) (hne : c ≠ b) (hl : l.length < 4611686018427387903) :
    W env (.call 81 [.msl b 0 l.length 1, .fn 82 [.ptr c 0]]) H (DelQ eU b l x H) := by
  refine .shr (fun o H' => ∃ n : Nat, o = .val (.msl b 0 (wout l x).length 1) ∧ ∃ cs, H'[b]? = some (.cells cs) ∧ cs.take n = msC eU (wout l x) ∧ Frm (fun c => c = b) H H') ?_ ?_
  rotate_left
  · rintro o H' ⟨n, ho, cs, h1, h2, h3⟩
    refine ⟨_, b, cs, n, ho, rfl, h1, rfl, by rw [h2]; exact g_eq (glt h1), h3.set (.inl rfl) _⟩
  refine W.fnI rfl rfl rfl ?_
  simp -implicitDefEqProofs only [ir81, op, ef, cl, sq, reduceIte, q1, q2, q3, q4, q5, q6, q7, q8, q9, S1]
  refine callB_of _ _ _ _ _ _ _ _ (idx61 0 _ l x c H hc (.inr ⟨b, rfl, hb, Nat.zero_le _⟩) hl) ?_
  rintro u H1 ⟨rfl, ⟨hno, hu⟩ | ⟨i, hu, hi, hmin⟩⟩
  · cases hu
    have e : ((-1 : Int) == -1) = true := rfl
    simp -implicitDefEqProofs only [op, ef, cl, sq, reduceIte, q1, q2, q3, q4, q5, q6, q7, q8, q9, S1]
    rw [wout_no hno]
    exact ⟨l.length, rfl, _, hb, List.take_of_length_le (by rw [msC_len (enc := eU) (n := 1) (fun _ => rfl)]; omega), Frm.refl _ _⟩
  cases hu
  have hil := (List.getElem?_eq_some_iff.1 hi).1
  have hi1 : ¬ ((i : Int) = -1) := by omega
  have ws := wrap_succ (show i < 9223372036854775807 by omega)
  have e1 : ((i : Int) == -1) = false := by simpa using hi1
  simp -implicitDefEqProofs only [op, ef, cl, sq, reduceIte, q1, q2, q3, q4, q5, q6, q7, q8, q9, S1, e1, ws]
  refine W.loopI (fun (s : Nat × Nat) R H' => At H' (fun H' => ∃ arr, H'[b]? = some (.cells (msC eU arr)) ∧ Cut l arr x s.1 s.2 ∧ Frm (fun c => c = b) H1 H') ∧ R 0 = .msl b 0 l.length 1 ∧ R 1 = .fn 82 [.ptr c 0] ∧ R 5 = .int .i64 s.1 ∧ R 6 = .int .i64 s.2 ∧ s.2 ≤ l.length) (fun s => l.length - s.2) (i, i + 1) ⟨.i ⟨l, hb, Cut.start hi hmin, Frm.refl _ _⟩, rfl, rfl, rfl, rfl, by simp only; omega⟩ ?_
  rintro ⟨i, j⟩ R H2 ⟨⟨arr, hb2, hcut, hfr⟩, h0, h1, h5, h6, hj⟩
  have hij := hcut.ij
  by_cases hlt : j < l.length
  · obtain ⟨y, hy⟩ := getP hlt
    have hya : arr[j]? = some y := by rw [hcut.rest j (Nat.le_refl _)]; exact hy
    have g1 : iadT 1 j (.msl b 0 l.length 1) = some (.ptr b (j * 1)) := by rw [iad_m]; simp [hlt]
    have hil' : i < l.length := by simp only at hij; omega
    have g4 : iadT 1 i (.msl b 0 l.length 1) = some (.ptr b (i * 1)) := by rw [iad_m]; simp [hil']
    obtain ⟨z, hz⟩ := getP (l := arr) (i := i) (by rw [hcut.len]; exact hil')
    have g2 := msC_get (enc := eU) (n := 1) (fun _ => rfl) hya 0 1 (by decide)
    have g3 := fun Hx => msC_set (enc := eU) (n := 1) (y := y) (fun _ => rfl) hz Hx b (eU y) 0 (by simp [eU]) (by simp [eU])
    simp -implicitDefEqProofs only [Nat.add_zero, List.drop_zero, eU, List.take_succ_cons, List.take_zero] at g2 g3
    have hc2 : H2[c]? = some (.cells (eU x)) := hfr.get hc hne
    have ws := wrap_succ (show j < 9223372036854775807 by omega)
    have wi := wrap_succ (show i < 9223372036854775807 by omega)
    simp -implicitDefEqProofs only [op, ef, cl, sq, reduceIte, q1, q2, q3, q4, q5, q6, q7, q8, q9, S1, h0, h1, h5, h6, hlt, natOf_nat, g1, hb2, g2, eU]
    refine b_v _ _ _ _ _ _ _ ?_
    simp -implicitDefEqProofs only [op, ef, cl, sq, reduceIte, q1, q2, q3, q4, q5, q6, q7, q8, q9, S1, h1, callvB]
    refine callB_of _ _ _ _ _ _ _ _ (is45 y x c _ hc2) ?_
    rintro v H3 ⟨hv, rfl⟩
    cases hv
    by_cases e : y = x
    · simp -implicitDefEqProofs only [op, ef, cl, sq, reduceIte, q1, q2, q3, q4, q5, q6, q7, q8, q9, S1, h0, h1, h5, h6, e, ws]
      exact ⟨(i, j + 1), by simp only; omega, .i ⟨arr, hb2, hcut.same (e ▸ hy), hfr⟩, rfl, rfl, by simp only; omega⟩
    · simp -implicitDefEqProofs only [op, ef, cl, sq, reduceIte, q1, q2, q3, q4, q5, q6, q7, q8, q9, S1, h0, h1, h5, h6, e, natOf_nat, g4, hb2, g3, ws, wi]
      exact ⟨(i + 1, j + 1), by simp only; omega, .i ⟨_, g_eq (glt hb2), hcut.move hy e, hfr.set (.inl rfl) _⟩, rfl, rfl, by simp only; omega⟩
  · have hjl : j = l.length := by simp only at hj; omega
    subst hjl
    have hil' : i < l.length := by simpa using hij
    have hle : i ≤ l.length := by omega
    have e2 : ¬ (i = l.length) := by omega
    have hcl : (msC eU arr).length = l.length := by rw [msC_len (enc := eU) (n := 1) (fun _ => rfl), hcut.len]; omega
    have e3 : i * 1 + (l.length - i) * 1 ≤ (msC eU arr).length := by rw [hcl]; omega
    simp -implicitDefEqProofs only [op, ef, cl, sq, reduceIte, q1, q2, q3, q4, q5, q6, q7, q8, q9, S1, h0, h1, h5, h6, hlt, natOf_nat, Nat.le_refl, hle, e2, and_self, clrV_msl, hb2, clrB, e3]
    have hw := hcut.end'
    have hwl : (wout l x).length = i := by rw [← hw, List.length_take, hcut.len]; omega
    have htk : ∀ m : List T, (((msC eU arr).take (i * 1)) ++ m).take (i * 1) = msC eU (wout l x) := fun m => by
      rw [List.take_append_of_le_length (by rw [List.length_take, hcl]; omega), List.take_take, Nat.min_self, ← hw, msC_take (n := 1) (fun _ => rfl)]
    by_cases hi0 : i = 0
    · subst hi0
      simp -implicitDefEqProofs only [op, ef, cl, sq, reduceIte, q1, q2, q3, q4, q5, q6, q7, q8, q9, S1, h0, h5, natOf_nat, hle, Nat.zero_le, Nat.le_refl, and_self]
      refine ⟨0 * 1, by rw [hwl], _, g_eq (glt hb2), ?_, hfr.set (.inl rfl) _⟩
      rw [List.append_assoc]; exact htk _
    · have h0i : ¬ (0 = i) := fun e => hi0 e.symm
      simp -implicitDefEqProofs only [op, ef, cl, sq, reduceIte, q1, q2, q3, q4, q5, q6, q7, q8, q9, S1, h0, h5, natOf_nat, h0i, hle, Nat.zero_le, Nat.le_refl, and_self]
      refine ⟨i * 1, by rw [hwl]; simp, _, g_eq (glt hb2), ?_, hfr.set (.inl rfl) _⟩
      rw [List.append_assoc]; exact htk _
theorem del46 (b : Nat) (l : List ByteArray) (x : ByteArray) (c : Nat) (H : Heap) (hc : H[c]? = some (.cells (eS x))) (hb : H[b]? = some (.cells (msC eS l))) (hne : c ≠ b) (hl : l.length < 4611686018427387903) :
    W env (.call 83 [.msl b 0 l.length 1, .fn 84 [.ptr c 0]]) H (DelQ eS b l x H) := by
  refine .shr (fun o H' => ∃ n : Nat, o = .val (.msl b 0 (wout l x).length 1) ∧ ∃ cs, H'[b]? = some (.cells cs) ∧ cs.take n = msC eS (wout l x) ∧ Frm (fun c => c = b) H H') ?_ ?_
  rotate_left
  · rintro o H' ⟨n, ho, cs, h1, h2, h3⟩
    refine ⟨_, b, cs, n, ho, rfl, h1, rfl, by rw [h2]; exact g_eq (glt h1), h3.set (.inl rfl) _⟩
  refine W.fnI rfl rfl rfl ?_
  simp -implicitDefEqProofs only [ir83, op, ef, cl, sq, reduceIte, q1, q2, q3, q4, q5, q6, q7, q8, q9, S1]
  refine callB_of _ _ _ _ _ _ _ _ (idx62 0 _ l x c H hc (.inr ⟨b, rfl, hb, Nat.zero_le _⟩) hl) ?_
  rintro u H1 ⟨rfl, ⟨hno, hu⟩ | ⟨i, hu, hi, hmin⟩⟩
  · cases hu
    have e : ((-1 : Int) == -1) = true := rfl
    simp -implicitDefEqProofs only [op, ef, cl, sq, reduceIte, q1, q2, q3, q4, q5, q6, q7, q8, q9, S1]
    rw [wout_no hno]
    exact ⟨l.length, rfl, _, hb, List.take_of_length_le (by rw [msC_len (enc := eS) (n := 1) (fun _ => rfl)]; omega), Frm.refl _ _⟩
  cases hu
  have hil := (List.getElem?_eq_some_iff.1 hi).1
  have hi1 : ¬ ((i : Int) = -1) := by omega
  have ws := wrap_succ (show i < 9223372036854775807 by omega)
  have e1 : ((i : Int) == -1) = false := by simpa using hi1
  simp -implicitDefEqProofs only [op, ef, cl, sq, reduceIte, q1, q2, q3, q4, q5, q6, q7, q8, q9, S1, e1, ws]
  refine W.loopI (fun (s : Nat × Nat) R H' => At H' (fun H' => ∃ arr, H'[b]? = some (.cells (msC eS arr)) ∧ Cut l arr x s.1 s.2 ∧ Frm (fun c => c = b) H1 H') ∧ R 0 = .msl b 0 l.length 1 ∧ R 1 = .fn 84 [.ptr c 0] ∧ R 5 = .int .i64 s.1 ∧ R 6 = .int .i64 s.2 ∧ s.2 ≤ l.length) (fun s => l.length - s.2) (i, i + 1) ⟨.i ⟨l, hb, Cut.start hi hmin, Frm.refl _ _⟩, rfl, rfl, rfl, rfl, by simp only; omega⟩ ?_
  rintro ⟨i, j⟩ R H2 ⟨⟨arr, hb2, hcut, hfr⟩, h0, h1, h5, h6, hj⟩
  have hij := hcut.ij
  by_cases hlt : j < l.length
  · obtain ⟨y, hy⟩ := getP hlt
    have hya : arr[j]? = some y := by rw [hcut.rest j (Nat.le_refl _)]; exact hy
    have g1 : iadT 1 j (.msl b 0 l.length 1) = some (.ptr b (j * 1)) := by rw [iad_m]; simp [hlt]
    have hil' : i < l.length := by simp only at hij; omega
    have g4 : iadT 1 i (.msl b 0 l.length 1) = some (.ptr b (i * 1)) := by rw [iad_m]; simp [hil']
    obtain ⟨z, hz⟩ := getP (l := arr) (i := i) (by rw [hcut.len]; exact hil')
    have g2 := msC_get (enc := eS) (n := 1) (fun _ => rfl) hya 0 1 (by decide)
    have g3 := fun Hx => msC_set (enc := eS) (n := 1) (y := y) (fun _ => rfl) hz Hx b (eS y) 0 (by simp [eS]) (by simp [eS])
    simp -implicitDefEqProofs only [Nat.add_zero, List.drop_zero, eS, List.take_succ_cons, List.take_zero] at g2 g3
    have hc2 : H2[c]? = some (.cells (eS x)) := hfr.get hc hne
    have ws := wrap_succ (show j < 9223372036854775807 by omega)
    have wi := wrap_succ (show i < 9223372036854775807 by omega)
    simp -implicitDefEqProofs only [op, ef, cl, sq, reduceIte, q1, q2, q3, q4, q5, q6, q7, q8, q9, S1, h0, h1, h5, h6, hlt, natOf_nat, g1, hb2, g2, eS]
    refine b_v _ _ _ _ _ _ _ ?_
    simp -implicitDefEqProofs only [op, ef, cl, sq, reduceIte, q1, q2, q3, q4, q5, q6, q7, q8, q9, S1, h1, callvB]
    refine callB_of _ _ _ _ _ _ _ _ (is47 y x c _ hc2) ?_
    rintro v H3 ⟨hv, rfl⟩
    cases hv
    by_cases e : y = x
    · simp -implicitDefEqProofs only [op, ef, cl, sq, reduceIte, q1, q2, q3, q4, q5, q6, q7, q8, q9, S1, h0, h1, h5, h6, e, ws]
      exact ⟨(i, j + 1), by simp only; omega, .i ⟨arr, hb2, hcut.same (e ▸ hy), hfr⟩, rfl, rfl, by simp only; omega⟩
    · simp -implicitDefEqProofs only [op, ef, cl, sq, reduceIte, q1, q2, q3, q4, q5, q6, q7, q8, q9, S1, h0, h1, h5, h6, e, natOf_nat, g4, hb2, g3, ws, wi]
      exact ⟨(i + 1, j + 1), by simp only; omega, .i ⟨_, g_eq (glt hb2), hcut.move hy e, hfr.set (.inl rfl) _⟩, rfl, rfl, by simp only; omega⟩
  · have hjl : j = l.length := by simp only at hj; omega
    subst hjl
    have hil' : i < l.length := by simpa using hij
    have hle : i ≤ l.length := by omega
    have e2 : ¬ (i = l.length) := by omega
    have hcl : (msC eS arr).length = l.length := by rw [msC_len (enc := eS) (n := 1) (fun _ => rfl), hcut.len]; omega
    have e3 : i * 1 + (l.length - i) * 1 ≤ (msC eS arr).length := by rw [hcl]; omega
    simp -implicitDefEqProofs only [op, ef, cl, sq, reduceIte, q1, q2, q3, q4, q5, q6, q7, q8, q9, S1, h0, h1, h5, h6, hlt, natOf_nat, Nat.le_refl, hle, e2, and_self, clrV_msl, hb2, clrB, e3]
    have hw := hcut.end'
    have hwl : (wout l x).length = i := by rw [← hw, List.length_take, hcut.len]; omega
    have htk : ∀ m : List T, (((msC eS arr).take (i * 1)) ++ m).take (i * 1) = msC eS (wout l x) := fun m => by
      rw [List.take_append_of_le_length (by rw [List.length_take, hcl]; omega), List.take_take, Nat.min_self, ← hw, msC_take (n := 1) (fun _ => rfl)]
    by_cases hi0 : i = 0
    · subst hi0
      simp -implicitDefEqProofs only [op, ef, cl, sq, reduceIte, q1, q2, q3, q4, q5, q6, q7, q8, q9, S1, h0, h5, natOf_nat, hle, Nat.zero_le, Nat.le_refl, and_self]
      refine ⟨0 * 1, by rw [hwl], _, g_eq (glt hb2), ?_, hfr.set (.inl rfl) _⟩
      rw [List.append_assoc]; exact htk _
    · have h0i : ¬ (0 = i) := fun e => hi0 e.symm
      simp -implicitDefEqProofs only [op, ef, cl, sq, reduceIte, q1, q2, q3, q4, q5, q6, q7, q8, q9, S1, h0, h5, natOf_nat, h0i, hle, Nat.zero_le, Nat.le_refl, and_self]
      refine ⟨i * 1, by rw [hwl]; simp, _, g_eq (glt hb2), ?_, hfr.set (.inl rfl) _⟩
      rw [List.append_assoc]; exact htk _
end Go.Proofs.YtodegnhallgnkaaGreat.St
end

section
namespace Go.Proofs.YtodegnhallgnkaaGreat.St
open Go.Rmp Go.Proofs.YtodegnhallgnkaaGreat.Ir
set_option maxRecDepth 10000
theorem wo32 (b : Nat) (l : List Nat) (x : Nat) (H : Heap) (hb : H[b]? = some (.cells (msC eU l))) (hl : l.length < 4611686018427387903) : W env (.call 64 [.msl b 0 l.length 1, (.int .u64 x)]) H (DelQ eU b l x H) := by
  refine W.fnI rfl rfl rfl ?_
  have hlb := glt hb
  simp -implicitDefEqProofs only [ir64, op, ef, cl, sq, reduceIte, q1, q2, q3, q4, q5, q6, q7, q8, q9, S1]
  refine callB_of _ _ _ _ _ _ _ _ (del44 b l x H.length _ (by rw [g_tail rfl]; rfl) (by rw [g_app hlb]; exact hb) (by omega) hl) ?_
  rintro u H1 ⟨hu, h1, h2⟩
  cases hu
  simp -implicitDefEqProofs only [op, ef, cl, sq, reduceIte, q1, q2, q3, q4, q5, q6, q7, q8, q9, S1]
  exact ⟨rfl, h1, (ext_frm (Ext.rfl'.app _)).trans h2 fun c h => .inl h⟩
theorem wo33 (b : Nat) (l : List ByteArray) (x : ByteArray) (H : Heap) (hb : H[b]? = some (.cells (msC eS l))) (hl : l.length < 4611686018427387903) : W env (.call 65 [.msl b 0 l.length 1, (.str x)]) H (DelQ eS b l x H) := by
  refine W.fnI rfl rfl rfl ?_
  have hlb := glt hb
  simp -implicitDefEqProofs only [ir65, op, ef, cl, sq, reduceIte, q1, q2, q3, q4, q5, q6, q7, q8, q9, S1]
  refine callB_of _ _ _ _ _ _ _ _ (del46 b l x H.length _ (by rw [g_tail rfl]; rfl) (by rw [g_app hlb]; exact hb) (by omega) hl) ?_
  rintro u H1 ⟨hu, h1, h2⟩
  cases hu
  simp -implicitDefEqProofs only [op, ef, cl, sq, reduceIte, q1, q2, q3, q4, q5, q6, q7, q8, q9, S1]
  exact ⟨rfl, h1, (ext_frm (Ext.rfl'.app _)).trans h2 fun c h => .inl h⟩
theorem ins60 (t : T) (l : List Nat) (i x bv : Nat) (H : Heap) (hm : Mut eU 1 0 H t l) (hv : H[bv]? = some (.cells (eU x))) (hne : ∀ off len n, t ≠ .msl bv off len n) (hi : i ≤ l.length) (hl : l.length ≤ 16777215) :
    W env (.call 53 [t, .int .i64 i, .msl bv 0 1 1]) H (InsQ eU 1 0 H t (l.take i ++ x :: l.drop i)) := by
  rcases hm with ⟨rfl, rfl⟩ | ⟨b, rfl, hb, hbn⟩
  · have hi0 : i = 0 := by simpa using hi
    subst hi0
    exact ins_nil (f := 53) (bytes := 8) (fr := 73) (enc := eU) (fun _ => rfl) (by decide) 0 rfl 0 bv x H (Nat.zero_le _) hv (roomS (by omega) (by omega))
  · exact ins_msl (f := 53) (bytes := 8) (fr := 73) (enc := eU) (fun _ => rfl) (by decide) 0 rfl 0 bv b i x l H (Nat.zero_le _) hv hb hbn (fun h => hne 0 l.length 1 (by rw [h])) hi (by omega) (roomS (by omega) (by omega))
section
variable {α β γ : Type} [DecidableEq α]
theorem mlook_map (f : β → γ) (es : List (α × β)) (k : α) : mlook (es.map fun e => (e.1, f e.2)) k = (mlook es k).map f := by
  induction es with
  | nil => rfl
  | cons e es ih => simp -implicitDefEqProofs only [List.map_cons, mlook_cons, ih]; split <;> rfl
theorem mput_map (f : β → γ) (es : List (α × β)) (k : α) (v : β) : mput (es.map fun e => (e.1, f e.2)) k (f v) = (mput es k v).map fun e => (e.1, f e.2) := by
  induction es with
  | nil => rfl
  | cons e es ih => simp -implicitDefEqProofs only [List.map_cons, mput_cons, ih]; split <;> simp
theorem mlook_mem {es : List (α × β)} {k : α} {v : β} (h : mlook es k = some v) : (k, v) ∈ es := by
  induction es with
  | nil => cases h
  | cons e es ih =>
    rw [mlook_cons] at h
    split at h
    · rename_i hk; cases h; subst hk; exact List.mem_cons_self
    · exact List.mem_cons_of_mem _ (ih h)
theorem mlook_none {es : List (α × β)} {k : α} : mlook es k = none ↔ k ∉ es.map (·.1) := by
  induction es with
  | nil => simp [mlook_nil]
  | cons e es ih =>
    rw [mlook_cons]
    by_cases hk : k = e.1
    · simp [hk]
    · simp -implicitDefEqProofs only [hk, if_false, ih, List.map_cons, List.mem_cons, false_or]
theorem mput_keys (es : List (α × β)) (k : α) (v : β) : (mput es k v).map (·.1) = if k ∈ es.map (·.1) then es.map (·.1) else es.map (·.1) ++ [k] := by
  induction es with
  | nil => rfl
  | cons e es ih =>
    rw [mput_cons]
    by_cases hk : k = e.1
    · simp [hk]
    · simp -implicitDefEqProofs only [hk, if_false, List.map_cons, ih, List.mem_cons, false_or]
      split <;> simp
theorem mput_nodup {es : List (α × β)} (h : (es.map (·.1)).Nodup) (k : α) (v : β) : ((mput es k v).map (·.1)).Nodup := by
  rw [mput_keys]; split
  · exact h
  · rename_i hk; rw [List.nodup_append]; exact ⟨h, by simp, fun a ha b hb => by simp at hb; subst hb; rintro rfl; exact hk ha⟩
theorem mdel_cons (e : α × T) (es : List (α × T)) (k : α) : mdel (e :: es) k = if k = e.1 then es else e :: mdel es k := by
  unfold mdel
  rw [List.findIdx?_cons]
  by_cases hk : k = e.1
  · simp [hk]
  · simp -implicitDefEqProofs only [hk, decide_false, if_false, Bool.false_eq_true]
    cases List.findIdx? (fun e => decide (k = e.1)) es <;> simp
theorem mdel_look {es : List (α × T)} (h : (es.map (·.1)).Nodup) (k k' : α) : mlook (mdel es k) k' = if k' = k then none else mlook es k' := by
  induction es with
  | nil => simp [mdel, mlook_nil]
  | cons e es ih =>
    rw [List.map_cons, List.nodup_cons] at h
    rw [mdel_cons]
    by_cases hk : k = e.1
    · subst hk
      by_cases hk' : k' = e.1
      · subst hk'; simp -implicitDefEqProofs only [if_true]; exact mlook_none.2 h.1
      · simp [mlook_cons, hk']
    · simp -implicitDefEqProofs only [hk, if_false, mlook_cons, ih h.2]
      by_cases hk' : k' = e.1
      · subst hk'; simp [Ne.symm hk]
      · simp [hk']
theorem mdel_nodup {es : List (α × T)} (h : (es.map (·.1)).Nodup) (k : α) : ((mdel es k).map (·.1)).Nodup := by
  induction es with
  | nil => simp [mdel]
  | cons e es ih =>
    rw [List.map_cons, List.nodup_cons] at h
    rw [mdel_cons]; split
    · exact h.2
    · rw [List.map_cons, List.nodup_cons]
      refine ⟨fun hm => h.1 ?_, ih h.2⟩
      have : mlook (mdel es k) e.1 ≠ none := fun hn => mlook_none.1 hn hm
      rw [mdel_look h.2] at this
      split at this
      · exact absurd rfl this
      · exact Classical.byContradiction fun hh => this (mlook_none.2 hh)
end
end Go.Proofs.YtodegnhallgnkaaGreat.St
end

section
namespace Go.Proofs.YtodegnhallgnkaaGreat.St
open Go.Rmp Go.Proofs.YtodegnhallgnkaaGreat.Ir
set_option maxRecDepth 10000
structure Hd where
  value : ByteArray
  kk : SK
  keys : List ByteArray
  stamp : Int
def encHd (h : Hd) : T := .agg [.str h.value, .sl h.kk (h.keys.map eS), .int .i64 h.stamp]
def encV (vs : List (Nm × Hd)) : List (Nm × T) := vs.map fun e => (e.1, encHd e.2)
def encL (ls : List (ByteArray × Nat)) : List (ByteArray × T) := ls.map fun e => (e.1, T.int .u64 e.2)
structure Sto where
  vs : List (Nm × Hd)
  ls : List (ByteArray × Nat)
  ids : ByteArray → List Nat
  pls : Nat → List ByteArray
  n : Nat
structure SInv (s : Sto) : Prop where
  rise : ∀ k, RiseN (s.ids k)
  idm : ∀ k n, n ∈ s.ids k ↔ (mlook s.vs (k, n)).isSome = true
  pnd : ∀ n, (s.pls n).Nodup
  plm : ∀ n k, k ∈ s.pls n ↔ (mlook s.vs (k, n)).isSome = true
  nd : (s.vs.map (·.1)).Nodup
  kok : ∀ m h, mlook s.vs m = some h → KOk h.kk h.keys ∧ h.keys.length ≤ 1024
  bi : ∀ k, (s.ids k).length ≤ s.n
  bp : ∀ n, (s.pls n).length ≤ s.n
  ndl : (s.ls.map (·.1)).Nodup
def Own {α : Type} (enc : α → List T) (F : Nat → Prop) (H : Heap) (o : Option T) (l : List α) : Prop := match o with
  | .none => l = []
  | some t => ∃ b, t = .msl b 0 l.length 1 ∧ H[b]? = some (.cells (msC enc l)) ∧ F b
def blk : Option T → Option Nat
  | some (.msl b _ _ _) => some b
  | _ => .none
theorem Own.mut {α : Type} {enc : α → List T} {F : Nat → Prop} {H : Heap} {o : Option T} {l : List α} (h : Own enc F H o l) : Mut enc 1 0 H (lkpT o (.sl .nil []) false) l := by
  cases o with
  | none => have h : l = [] := h; exact .inl ⟨h, rfl⟩
  | some t => obtain ⟨b, rfl, h1, _⟩ := h; exact .inr ⟨b, rfl, h1, Nat.zero_le _⟩
theorem Own.keep {α : Type} {enc : α → List T} {F F' : Nat → Prop} {H H' : Heap} {o : Option T} {l : List α} (h : Own enc F H o l) (hk : ∀ b x, blk o = some b → H[b]? = some x → H'[b]? = some x) (hF : ∀ b, blk o = some b → F b → F' b) : Own enc F' H' o l := by
  cases o with
  | none => exact h
  | some t => obtain ⟨b, rfl, h1, h2⟩ := h; exact ⟨b, rfl, hk b _ rfl h1, hF b rfl h2⟩
theorem Own.cells {α : Type} {enc : α → List T} {F : Nat → Prop} {H : Heap} {o : Option T} {l : List α} (h : Own enc F H o l) {b : Nat} (hb : blk o = some b) : H[b]? = some (.cells (msC enc l)) ∧ F b := by
  cases o with
  | none => cases hb
  | some t => obtain ⟨b', rfl, h1, h2⟩ := h; cases hb; exact ⟨h1, h2⟩
structure Bk where
  s : Nat
  v : Nat
  i : Nat
  p : Nat
  l : Nat
structure SAt (H : Heap) (b : Bk) (im : List (ByteArray × T)) (pm : List (Nat × T)) (s : Sto) (F : Nat → Prop) : Prop where
  hs : H[b.s]? = some (.cells [.map b.v, .map b.i, .map b.p, .map b.l])
  hv : H[b.v]? = some (.map (encK kN (encV s.vs)))
  hi : H[b.i]? = some (.map (encK T.str im))
  hp : H[b.p]? = some (.map (encK kU pm))
  hl : H[b.l]? = some (.map (encK T.str (encL s.ls)))
  vi : b.v ≠ b.i
  vp : b.v ≠ b.p
  vl : b.v ≠ b.l
  ip : b.i ≠ b.p
  il : b.i ≠ b.l
  pl : b.p ≠ b.l
  F0 : F b.s ∧ F b.v ∧ F b.i ∧ F b.p ∧ F b.l
  oi : ∀ k, Own eU F H (mlook im k) (s.ids k)
  op : ∀ n, Own eS F H (mlook pm n) (s.pls n)
  si : ∀ k k' c, blk (mlook im k) = some c → blk (mlook im k') = some c → k = k'
  sp : ∀ n n' c, blk (mlook pm n) = some c → blk (mlook pm n') = some c → n = n'
  sx : ∀ k n c, blk (mlook im k) = some c → blk (mlook pm n) = some c → False
  np : (pm.map (·.1)).Nodup
def SH (H : Heap) (b : Bk) (s : Sto) (F : Nat → Prop) : Prop := ∃ im pm, SAt H b im pm s F
theorem cell_ne {H : Heap} {b c : Nat} {es : List (T × T)} {cs : List T} (h : H[b]? = some (.map es)) (h' : H[c]? = some (.cells cs)) : b ≠ c := by rintro rfl; rw [h] at h'; cases h'
theorem SAt.ne {H : Heap} {b : Bk} {im : List (ByteArray × T)} {pm : List (Nat × T)} {s : Sto} {F : Nat → Prop} (h : SAt H b im pm s F) : b.v ≠ b.s ∧ b.i ≠ b.s ∧ b.p ≠ b.s ∧ b.l ≠ b.s := ⟨cell_ne h.hv h.hs, cell_ne h.hi h.hs, cell_ne h.hp h.hs, cell_ne h.hl h.hs⟩
theorem msC_blk {α : Type} {enc : α → List T} (hn : ∀ x, ∃ t, enc x = [t] ∧ ∀ b, t ≠ .map b) {l : List α} {a b c d : Nat} : msC enc l ≠ [.map a, .map b, .map c, .map d] := by
  intro h
  cases l with
  | nil => simp [msC] at h
  | cons x l =>
    obtain ⟨t, ht, hm⟩ := hn x
    simp -implicitDefEqProofs only [msC, List.flatMap_cons, ht, List.cons_append, List.nil_append, List.cons.injEq] at h
    exact hm _ h.1
theorem SAt.blkI {H : Heap} {b : Bk} {im : List (ByteArray × T)} {pm : List (Nat × T)} {s : Sto} {F : Nat → Prop} (h : SAt H b im pm s F) {k : ByteArray} {c : Nat} (hc : blk (mlook im k) = some c) : c ≠ b.s ∧ c ≠ b.v ∧ c ≠ b.i ∧ c ≠ b.p ∧ c ≠ b.l ∧ F c ∧ c < H.length := by
  obtain ⟨h1, h2⟩ := (h.oi k).cells hc
  refine ⟨?_, Ne.symm (cell_ne h.hv h1), Ne.symm (cell_ne h.hi h1), Ne.symm (cell_ne h.hp h1), Ne.symm (cell_ne h.hl h1), h2, glt h1⟩
  rintro rfl
  rw [h.hs] at h1
  exact msC_blk (enc := eU) (fun x => ⟨_, rfl, fun _ h => by cases h⟩) (B.cells.inj (Option.some.inj h1)).symm
theorem SAt.blkP {H : Heap} {b : Bk} {im : List (ByteArray × T)} {pm : List (Nat × T)} {s : Sto} {F : Nat → Prop} (h : SAt H b im pm s F) {n : Nat} {c : Nat} (hc : blk (mlook pm n) = some c) : c ≠ b.s ∧ c ≠ b.v ∧ c ≠ b.i ∧ c ≠ b.p ∧ c ≠ b.l ∧ F c ∧ c < H.length := by
  obtain ⟨h1, h2⟩ := (h.op n).cells hc
  refine ⟨?_, Ne.symm (cell_ne h.hv h1), Ne.symm (cell_ne h.hi h1), Ne.symm (cell_ne h.hp h1), Ne.symm (cell_ne h.hl h1), h2, glt h1⟩
  rintro rfl
  rw [h.hs] at h1
  exact msC_blk (enc := eS) (fun x => ⟨_, rfl, fun _ h => by cases h⟩) (B.cells.inj (Option.some.inj h1)).symm
theorem SAt.frm {H H' : Heap} {b : Bk} {im : List (ByteArray × T)} {pm : List (Nat × T)} {s : Sto} {F G : Nat → Prop} (h : SAt H b im pm s F) (hf : Frm G H H') (hg : ∀ c, F c → c < H.length → ¬ G c) : SAt H' b im pm s F := by
  obtain ⟨f0, f1, f2, f3, f4⟩ := h.F0
  have k : ∀ {c x}, F c → H[c]? = some x → H'[c]? = some x := fun hF hx => hf.get hx (hg _ hF (glt hx))
  exact ⟨k f0 h.hs, k f1 h.hv, k f2 h.hi, k f3 h.hp, k f4 h.hl, h.vi, h.vp, h.vl, h.ip, h.il, h.pl, h.F0,
    fun q => (h.oi q).keep (fun c x hc hx => k (h.blkI hc).2.2.2.2.2.1 hx) (fun _ _ h => h), fun q => (h.op q).keep (fun c x hc hx => k (h.blkP hc).2.2.2.2.2.1 hx) (fun _ _ h => h), h.si, h.sp, h.sx, h.np⟩
end Go.Proofs.YtodegnhallgnkaaGreat.St
end
