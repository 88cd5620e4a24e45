/- Part of a proof of a law of this seat: the machine of plain values, its simulation, and the contracts of the functions that the law reaches. Conditions: none beyond the given row. -/
import Derived.Test.YtmgldhlcapjdkaaGreatM2
import Derived.Test.YtmgldhlcapjdkaaGreatProg
import Derived.KernelRfl
open Int renaming reduceLT → q1, reduceLE → q2, reduceBEq → q3, reduceBNe → q4, reduceEq → q5
open Nat renaming reduceAdd → q6, reduceLeDiff → q7, reduceLT → q8, reduceEqDiff → q9
set_option linter.unusedSimpArgs false
set_option linter.unusedVariables false
set_option linter.unnecessarySimpa false
set_option maxHeartbeats 4000000
section
namespace Go.Proofs.YtmgldhlcapjdkaaGreat.Ir
open Go.Rmp
set_option maxRecDepth 100000
set_option maxHeartbeats 0
abbrev op (d : Nat) (b : Bo) : O := ⟨some d, .b b, none, []⟩
abbrev ef (b : Bo) : O := ⟨none, .b b, none, []⟩
abbrev cl (d f : Nat) (az : List X) : O := ⟨some d, .call f az, none, []⟩
abbrev sq (a b : C) : C := .seq a b
def an5 : An := ⟨[], [(14, [(0, true), (1, true), (3, true), (2, false), (4, false), (5, true), (6, true), (7, true), (8, true), (9, true)])]⟩
def ir5 : Go.Rmp.Fn := ⟨91, 3, [.t 6],
  sq (.ops [op 6 (.mov (.c (.bool false)))]) <|
  sq (sq (.ops [cl 19 10 [], op 20 (.un .not (.r 19))]) <|
  .cond (.r 20)
    (sq (.ops [op 6 (.mov (.c (.bool false)))]) <|
    .ret)
    (.skip)) <|
  sq (.ops [cl 21 22 [], op 7 (.mov (.r 21))]) <|
  sq (.ops [op 22 (.build [.int .i64 0, .int .i64 0] [(0, 1, (.c (.int .i64 8))), (1, 1, (.c (.int .i64 2)))]), op 8 (.alloc [.int .i64 0, .int .i64 0]), ef (.st 2 (.r 8) (.r 22))]) <|
  sq (.ops [op 9 (.mov (.c (.sl .nil [])))]) <|
  sq (sq (.ops [op 23 (.mov (.r 2)), op 24 (.bin .and (.r 23) (.c (.int .i64 1))), op 25 (.bin .eql (.r 24) (.c (.int .i64 1)))]) <|
  .cond (.r 25)
    (sq (.ops [op 10 (.mov (.c (.int .i64 0)))]) <|
    .block 0 (
      .loop (
        sq (sq (.ops [op 26 (.mov (.r 10)), op 27 (.bin .lss (.r 26) (.c (.int .i64 65)))]) <|
        .cond (.r 27)
          (.skip)
          (.exit 0)) <|
        sq (.block 1 (
          .ops [op 30 (.mov (.r 9)), op 31 (.mov (.r 7)), op 32 (.bsl 1 [.nilp] [(0, (.r 31))]), op 33 (.app 1 8 false (.r 30) (.r 32)), op 9 (.mov (.r 33))])) <|
        .ops [op 28 (.mov (.r 10)), op 29 (.bin .add (.r 28) (.c (.int .i64 1))), op 10 (.mov (.r 29))])))
    (.skip)) <|
  sq (sq (.ops [op 34 (.mov (.r 2)), op 35 (.bin .and (.r 34) (.c (.int .i64 3))), op 36 (.bin .eql (.r 35) (.c (.int .i64 2)))]) <|
  .cond (.r 36)
    (.ops [op 37 (.mov (.r 7)), op 38 (.bsl 2 [.nilp] [(0, (.r 37)), (1, (.c .nilp))]), op 9 (.mov (.r 38))])
    (.skip)) <|
  sq (.ops [op 40 (.mov (.r 9)), op 41 (.mov (.r 0)), op 42 (.ld 2 true (.r 8)), cl 43 23 [(.r 40), (.r 41), (.r 42)], op 39 (.mov (.r 43)), op 44 (.ext 0 (.r 39)), op 45 (.ext 1 (.r 39)), op 11 (.mov (.r 44)), op 12 (.mov (.r 45))]) <|
  sq (.ops [op 47 (.mov (.r 9)), op 48 (.mov (.r 1)), op 50 (.ld 2 true (.r 8)), ⟨(some 49), .call 15 [(.r 48)], none, [⟨50, .ld 2 true (.r 8), none⟩]⟩, cl 51 24 [(.r 47), (.r 49), (.r 50)], op 46 (.mov (.r 51)), op 52 (.ext 0 (.r 46)), op 53 (.ext 1 (.r 46)), op 13 (.mov (.r 52)), op 14 (.mov (.r 53))]) <|
  sq (.ops [op 55 (.mov (.r 7)), op 56 (.bsl 1 [.nilp] [(0, (.r 55))]), op 57 (.mov (.r 0)), op 58 (.build [.int .i64 0, .int .i64 0] [(0, 1, (.c (.int .i64 0))), (1, 1, (.c (.int .i64 1)))]), cl 59 23 [(.r 56), (.r 57), (.r 58)], op 54 (.mov (.r 59)), op 60 (.ext 0 (.r 54)), op 61 (.ext 1 (.r 54)), op 15 (.mov (.r 60)), op 16 (.mov (.r 61))]) <|
  sq (.ops [cl 63 25 [(.c (.str ⟨#[]⟩)), (.c (.int .i64 1))], op 62 (.mov (.r 63)), op 64 (.ext 0 (.r 62)), op 65 (.ext 1 (.r 62)), op 17 (.mov (.r 64)), op 18 (.mov (.r 65))]) <|
  sq (.ops [op 66 (.mov (.r 11)), op 67 (.len .sl (.r 66)), op 68 (.mov (.r 13)), op 69 (.len .sl (.r 68)), op 70 (.bin .add (.r 67) (.r 69)), op 71 (.mov (.r 15)), op 72 (.len .sl (.r 71)), op 73 (.bin .add (.r 70) (.r 72)), op 74 (.bin .eql (.r 73) (.c (.int .i64 0))), op 75 (.mov (.r 74)), ⟨(some 76), .b (.mov (.r 12)), (some (75, true)), []⟩, ⟨(some 77), .b (.bin .eql (.r 76) (.c (.int .i64 1))), (some (75, true)), []⟩, op 78 (.pick (.r 75) (.r 77) (.c (.bool false))), op 79 (.mov (.r 78)), ⟨(some 80), .b (.mov (.r 14)), (some (79, true)), []⟩, ⟨(some 81), .b (.bin .eql (.r 80) (.c (.int .i64 1))), (some (79, true)), []⟩, op 82 (.pick (.r 79) (.r 81) (.c (.bool false))), op 83 (.mov (.r 82)), ⟨(some 84), .b (.mov (.r 16)), (some (83, true)), []⟩, ⟨(some 85), .b (.bin .eql (.r 84) (.c (.int .i64 1))), (some (83, true)), []⟩, op 86 (.pick (.r 83) (.r 85) (.c (.bool false))), op 87 (.mov (.r 86)), ⟨(some 88), .b (.mov (.r 18)), (some (87, true)), []⟩, ⟨(some 89), .b (.bin .eql (.r 88) (.c (.int .i64 0))), (some (87, true)), []⟩, op 90 (.pick (.r 87) (.r 89) (.c (.bool false))), op 6 (.mov (.r 90))]) <|
  .ret⟩
def an10 : An := ⟨[], []⟩
def ir10 : Go.Rmp.Fn := ⟨81, 0, [.t 0],
  sq (.ops [op 0 (.mov (.c (.bool false)))]) <|
  sq (.ops [cl 6 22 [], op 1 (.mov (.r 6))]) <|
  sq (sq (.ops [op 7 (.mov (.r 1)), op 8 (.eqr false .ptr (.r 7) (.c .nilp))]) <|
  .cond (.r 8)
    (sq (.ops [op 0 (.mov (.c (.bool false)))]) <|
    .ret)
    (.skip)) <|
  sq (.ops [op 9 (.mov (.r 1)), op 10 (.build [.str ⟨#[]⟩, .str ⟨#[]⟩] [(0, 1, (.c (.str ⟨#[97]⟩))), (1, 1, (.c (.str ⟨#[49]⟩)))]), op 11 (.bsl 1 [.str ⟨#[]⟩, .str ⟨#[]⟩] [(0, (.r 10))]), op 12 (.bsl 1 [.str ⟨#[]⟩] [(0, (.c (.str ⟨#[97]⟩)))]), cl 13 42 [(.r 9), (.c (.int .u64 65536)), (.r 11), (.r 12), (.c (.int .i64 0))]]) <|
  sq (.ops [op 14 (.mov (.r 1)), cl 15 43 [(.r 14), (.c (.int .u64 65536)), (.c (.int .i64 0))]]) <|
  sq (.ops [op 17 (.mov (.r 1)), op 18 (.bsl 1 [.nilp] [(0, (.r 17))]), op 19 (.bsl 1 [.str ⟨#[]⟩] [(0, (.c (.str ⟨#[97]⟩)))]), op 20 (.build [.int .i64 0, .int .i64 0] [(0, 1, (.c (.int .i64 8))), (1, 1, (.c (.int .i64 2)))]), cl 21 23 [(.r 18), (.r 19), (.r 20)], op 16 (.mov (.r 21)), op 22 (.ext 0 (.r 16)), op 23 (.ext 1 (.r 16)), op 2 (.mov (.r 22)), op 3 (.mov (.r 23))]) <|
  sq (.ops [op 25 (.mov (.r 1)), op 26 (.bsl 1 [.nilp] [(0, (.r 25))]), op 27 (.mov (.r 2)), op 28 (.build [.int .i64 0, .int .i64 0] [(0, 1, (.c (.int .i64 8))), (1, 1, (.c (.int .i64 2)))]), cl 29 24 [(.r 26), (.r 27), (.r 28)], op 24 (.mov (.r 29)), op 30 (.ext 0 (.r 24)), op 31 (.ext 1 (.r 24)), op 4 (.mov (.r 30)), op 5 (.mov (.r 31))]) <|
  sq (.ops [op 32 (.mov (.r 3)), op 33 (.bin .eql (.r 32) (.c (.int .i64 0))), op 34 (.mov (.r 33)), ⟨(some 35), .b (.mov (.r 5)), (some (34, true)), []⟩, ⟨(some 36), .b (.bin .eql (.r 35) (.c (.int .i64 0))), (some (34, true)), []⟩, op 37 (.pick (.r 34) (.r 36) (.c (.bool false))), op 38 (.mov (.r 37)), ⟨(some 39), .b (.mov (.r 2)), (some (38, true)), []⟩, ⟨(some 40), .b (.len .sl (.r 39)), (some (38, true)), []⟩, ⟨(some 41), .b (.bin .eql (.r 40) (.c (.int .i64 1))), (some (38, true)), []⟩, op 42 (.pick (.r 38) (.r 41) (.c (.bool false))), op 43 (.mov (.r 42)), ⟨(some 44), .b (.mov (.r 4)), (some (43, true)), []⟩, ⟨(some 45), .b (.len .sl (.r 44)), (some (43, true)), []⟩, ⟨(some 46), .b (.bin .eql (.r 45) (.c (.int .i64 1))), (some (43, true)), []⟩, op 47 (.pick (.r 43) (.r 46) (.c (.bool false))), op 48 (.mov (.r 47)), ⟨(some 49), .b (.mov (.r 2)), (some (48, true)), []⟩, ⟨(some 50), .b (.iad 4 (.r 49) (.c (.int .i64 0))), (some (48, true)), []⟩, ⟨(some 51), .b (.fad 1 (.r 50)), (some (48, true)), []⟩, ⟨(some 52), .b (.ld 1 false (.r 51)), (some (48, true)), []⟩, ⟨(some 53), .b (.bin .eql (.r 52) (.c (.int .u64 65536))), (some (48, true)), []⟩, op 54 (.pick (.r 48) (.r 53) (.c (.bool false))), op 55 (.mov (.r 54)), ⟨(some 56), .b (.mov (.r 4)), (some (55, true)), []⟩, ⟨(some 57), .b (.iad 4 (.r 56) (.c (.int .i64 0))), (some (55, true)), []⟩, ⟨(some 58), .b (.fad 1 (.r 57)), (some (55, true)), []⟩, ⟨(some 59), .b (.ld 1 false (.r 58)), (some (55, true)), []⟩, ⟨(some 60), .b (.bin .eql (.r 59) (.c (.int .u64 65536))), (some (55, true)), []⟩, op 61 (.pick (.r 55) (.r 60) (.c (.bool false))), op 62 (.mov (.r 61)), ⟨(some 63), .b (.mov (.r 4)), (some (62, true)), []⟩, ⟨(some 64), .b (.iad 4 (.r 63) (.c (.int .i64 0))), (some (62, true)), []⟩, ⟨(some 65), .b (.fad 2 (.r 64)), (some (62, true)), []⟩, ⟨(some 66), .b (.ld 1 false (.r 65)), (some (62, true)), []⟩, ⟨(some 67), .b (.bin .eql (.r 66) (.c (.str ⟨#[49]⟩))), (some (62, true)), []⟩, op 68 (.pick (.r 62) (.r 67) (.c (.bool false))), op 69 (.mov (.r 68)), ⟨(some 70), .b (.mov (.r 2)), (some (69, true)), []⟩, ⟨(some 71), .b (.iad 4 (.r 70) (.c (.int .i64 0))), (some (69, true)), []⟩, ⟨(some 72), .b (.fad 3 (.r 71)), (some (69, true)), []⟩, ⟨(some 73), .b (.ld 1 false (.r 72)), (some (69, true)), []⟩, ⟨(some 74), .b (.len .sl (.r 73)), (some (69, true)), []⟩, ⟨(some 75), .b (.bin .eql (.r 74) (.c (.int .i64 6))), (some (69, true)), []⟩, op 76 (.pick (.r 69) (.r 75) (.c (.bool false))), op 77 (.mov (.r 76)), ⟨(some 78), .b (.mov (.r 2)), (some (77, true)), []⟩, ⟨(some 79), .call 16 [(.r 78)], (some (77, true)), []⟩, op 80 (.pick (.r 77) (.r 79) (.c (.bool false))), op 0 (.mov (.r 80))]) <|
  .ret⟩
def an11 : An := ⟨[], [(15, [(0, true), (1, true), (2, true), (3, true), (4, true), (5, true), (6, true), (7, false), (8, true), (9, false), (10, true)])]⟩
def ir11 : Go.Rmp.Fn := ⟨75, 2, [.cl 4 4 true, .t 5],
  sq (.ops [op 2 (.box (.r 0)), op 3 (.box (.r 1)), op 4 (.alloc [.str ⟨#[]⟩, .int .u64 0, .str ⟨#[]⟩, .sl .nil []]), op 5 (.mov (.c (.int .i64 0)))]) <|
  sq (.ops [op 11 (.fad 0 (.r 3)), op 12 (.ld 1 false (.r 11)), op 13 (.fad 1 (.r 3)), op 14 (.ld 1 false (.r 13)), cl 15 44 [(.r 12), (.r 14)], op 10 (.mov (.r 15)), op 16 (.ext 0 (.r 10)), op 17 (.ext 1 (.r 10)), op 6 (.mov (.r 16)), op 7 (.mov (.r 17))]) <|
  sq (sq (.ops [op 18 (.mov (.r 7)), op 19 (.bin .neq (.r 18) (.c (.int .i64 0)))]) <|
  .cond (.r 19)
    (sq (.ops [op 20 (.build [.str ⟨#[]⟩, .int .u64 0, .str ⟨#[]⟩, .sl .nil []] []), ef (.st 4 (.r 4) (.r 20)), op 5 (.mov (.c (.int .i64 1)))]) <|
    .ret)
    (.skip)) <|
  sq (sq (.ops [op 21 (.fad 1 (.r 2)), op 22 (.ld 1 false (.r 21)), op 23 (.bin .eql (.r 22) (.c (.int .u64 0)))]) <|
  .cond (.r 23)
    (sq (sq (.ops [op 24 (.fad 2 (.r 2)), op 25 (.ld 1 false (.r 24)), op 26 (.bin .neq (.r 25) (.c (.str ⟨#[]⟩))), op 27 (.mov (.r 26)), ⟨(some 28), .b (.fad 3 (.r 2)), (some (27, false)), []⟩, ⟨(some 29), .b (.ld 1 false (.r 28)), (some (27, false)), []⟩, ⟨(some 30), .b (.len .sl (.r 29)), (some (27, false)), []⟩, ⟨(some 31), .b (.bin .gtr (.r 30) (.c (.int .i64 0))), (some (27, false)), []⟩, op 32 (.pick (.r 27) (.c (.bool true)) (.r 31))]) <|
    .cond (.r 32)
      (sq (.ops [op 33 (.build [.str ⟨#[]⟩, .int .u64 0, .str ⟨#[]⟩, .sl .nil []] []), ef (.st 4 (.r 4) (.r 33)), op 5 (.mov (.c (.int .i64 1)))]) <|
      .ret)
      (.skip)) <|
    sq (.ops [op 34 (.fad 0 (.r 2)), op 35 (.ld 1 false (.r 34)), op 36 (.build [.str ⟨#[]⟩, .int .u64 0, .str ⟨#[]⟩, .sl .nil []] [(0, 1, (.r 35))]), ef (.st 4 (.r 4) (.r 36)), op 5 (.mov (.c (.int .i64 0)))]) <|
    .ret)
    (.skip)) <|
  sq (sq (.ops [op 37 (.fad 1 (.r 2)), op 38 (.ld 1 false (.r 37)), op 39 (.bin .lss (.r 38) (.c (.int .u64 65536))), op 40 (.mov (.r 39)), ⟨(some 41), .b (.fad 3 (.r 2)), (some (40, false)), []⟩, ⟨(some 42), .b (.ld 1 false (.r 41)), (some (40, false)), []⟩, ⟨(some 43), .call 45 [(.r 42)], (some (40, false)), []⟩, ⟨(some 44), .b (.un .not (.r 43)), (some (40, false)), []⟩, op 45 (.pick (.r 40) (.c (.bool true)) (.r 44)), op 46 (.mov (.r 45)), ⟨(some 47), .b (.fad 3 (.r 2)), (some (46, false)), []⟩, ⟨(some 48), .b (.ld 1 false (.r 47)), (some (46, false)), []⟩, ⟨(some 49), .b (.fad 0 (.r 2)), (some (46, false)), []⟩, ⟨(some 50), .b (.ld 1 false (.r 49)), (some (46, false)), []⟩, ⟨(some 51), .call 46 [(.r 48), (.r 50)], (some (46, false)), []⟩, ⟨(some 52), .b (.un .not (.r 51)), (some (46, false)), []⟩, op 53 (.pick (.r 46) (.c (.bool true)) (.r 52))]) <|
  .cond (.r 53)
    (sq (.ops [op 54 (.build [.str ⟨#[]⟩, .int .u64 0, .str ⟨#[]⟩, .sl .nil []] []), ef (.st 4 (.r 4) (.r 54)), op 5 (.mov (.c (.int .i64 1)))]) <|
    .ret)
    (.skip)) <|
  sq (sq (.ops [op 55 (.fad 3 (.r 2)), op 56 (.ld 1 false (.r 55)), op 57 (.len .sl (.r 56)), op 58 (.mov (.c (.int .i64 0)))]) <|
  .block 0 (
    .loop (
      sq (.ops [op 59 (.bin .lss (.r 58) (.r 57))]) <|
      sq (.cond (.r 59)
        (.skip)
        (.exit 0)) <|
      sq (.block 1 (
        sq (.ops [op 60 (.iad 1 (.r 56) (.r 58)), op 61 (.ld 1 false (.r 60)), op 9 (.mov (.r 61))]) <|
        .ops [op 62 (.mov (.r 6)), op 63 (.mov (.r 9)), cl 64 47 [(.r 62), (.r 63)]])) <|
      .ops [op 65 (.bin .add (.r 58) (.c (.int .i64 1))), op 58 (.mov (.r 65))]))) <|
  sq (.ops [op 66 (.fad 0 (.r 2)), op 67 (.ld 1 false (.r 66)), op 68 (.fad 1 (.r 2)), op 69 (.ld 1 false (.r 68)), op 70 (.fad 2 (.r 2)), op 71 (.ld 1 false (.r 70)), op 72 (.mov (.r 6)), ⟨(some 73), .call 48 [(.r 72)], none, [⟨67, .ld 1 false (.r 66), none⟩, ⟨69, .ld 1 false (.r 68), none⟩, ⟨71, .ld 1 false (.r 70), none⟩]⟩, op 74 (.build [.str ⟨#[]⟩, .int .u64 0, .str ⟨#[]⟩, .sl .nil []] [(0, 1, (.r 67)), (1, 1, (.r 69)), (2, 1, (.r 71)), (3, 1, (.r 73))]), ef (.st 4 (.r 4) (.r 74)), op 5 (.mov (.c (.int .i64 0)))]) <|
  .ret⟩
def an15 : An := ⟨[], [(6, [(0, true), (1, true), (2, true), (3, true), (4, true), (5, true), (6, true), (7, true), (8, true), (9, true), (10, true), (11, true), (12, true), (13, true), (14, true), (15, true), (16, true), (17, true), (18, true), (19, true), (20, true), (21, true), (22, true), (23, true), (24, true), (25, true), (26, false), (27, false)])]⟩
def ir15 : Go.Rmp.Fn := ⟨55, 1, [.t 2],
  sq (.ops [op 2 (.mov (.c (.sl .nil [])))]) <|
  sq (.ops [op 3 (.mov (.c (.sl .nil [])))]) <|
  sq (sq (.ops [op 4 (.mov (.c (.int .i64 0)))]) <|
  .block 0 (
    .loop (
      sq (sq (.ops [op 6 (.mov (.r 4)), op 7 (.mov (.r 0)), op 8 (.len .sl (.r 7)), op 9 (.bin .lss (.r 6) (.r 8))]) <|
      .cond (.r 9)
        (.skip)
        (.exit 0)) <|
      sq (.block 1 (
        sq (.ops [op 12 (.mov (.r 0)), op 13 (.mov (.r 4)), op 14 (.iad 4 (.r 12) (.r 13)), op 15 (.fad 3 (.r 14)), op 16 (.ld 1 false (.r 15)), cl 17 29 [(.r 16)], op 18 (.bsl 1 [.int .u8 0] [(0, (.c (.int .u8 165)))]), op 19 (.app 1 1 false (.r 17) (.r 18)), op 5 (.mov (.r 19))]) <|
        .ops [op 20 (.mov (.r 3)), op 21 (.mov (.r 0)), op 22 (.mov (.r 4)), op 23 (.iad 4 (.r 21) (.r 22)), op 24 (.fad 0 (.r 23)), op 25 (.ld 1 false (.r 24)), op 26 (.mov (.r 0)), op 27 (.mov (.r 4)), op 28 (.iad 4 (.r 26) (.r 27)), op 29 (.fad 1 (.r 28)), op 30 (.ld 1 false (.r 29)), op 31 (.mov (.r 0)), op 32 (.mov (.r 4)), op 33 (.iad 4 (.r 31) (.r 32)), op 34 (.fad 2 (.r 33)), op 35 (.ld 1 false (.r 34)), op 36 (.mov (.r 5)), op 37 (.mov (.r 0)), op 38 (.mov (.r 4)), op 39 (.iad 4 (.r 37) (.r 38)), op 40 (.fad 3 (.r 39)), op 41 (.ld 1 false (.r 40)), op 42 (.len .sl (.r 41)), op 43 (.sll 1 (.r 36) none (some (.r 42)) none), op 44 (.build [.str ⟨#[]⟩, .int .u64 0, .str ⟨#[]⟩, .sl .nil []] [(0, 1, (.r 25)), (1, 1, (.r 30)), (2, 1, (.r 35)), (3, 1, (.r 43))]), op 45 (.bsl 1 [.str ⟨#[]⟩, .int .u64 0, .str ⟨#[]⟩, .sl .nil []] [(0, (.r 44))]), op 46 (.app 4 64 false (.r 20) (.r 45)), op 3 (.mov (.r 46))])) <|
      .ops [op 10 (.mov (.r 4)), op 11 (.bin .add (.r 10) (.c (.int .i64 1))), op 4 (.mov (.r 11))]))) <|
  sq (.ops [op 47 (.mov (.r 3)), op 48 (.build [.str ⟨#[]⟩, .int .u64 0, .str ⟨#[]⟩, .sl .nil []] [(0, 1, (.c (.str ⟨#[115, 112, 97, 114, 101]⟩)))]), op 49 (.bsl 1 [.str ⟨#[]⟩, .int .u64 0, .str ⟨#[]⟩, .sl .nil []] [(0, (.r 48))]), op 50 (.app 4 64 false (.r 47) (.r 49)), op 3 (.mov (.r 50))]) <|
  sq (.ops [op 51 (.mov (.r 3)), op 52 (.mov (.r 0)), op 53 (.len .sl (.r 52)), op 54 (.sll 4 (.r 51) none (some (.r 53)) none), op 2 (.mov (.r 54))]) <|
  .ret⟩
def an16 : An := ⟨[], []⟩
def ir16 : Go.Rmp.Fn := ⟨11, 1, [.t 2],
  sq (.ops [op 2 (.mov (.c (.bool false)))]) <|
  sq (.ops [op 6 (.mov (.r 0)), cl 7 54 [(.r 6)], op 5 (.mov (.r 7)), op 8 (.ext 0 (.r 5)), op 9 (.ext 1 (.r 5)), op 3 (.mov (.r 8)), op 4 (.mov (.r 9))]) <|
  sq (.ops [op 10 (.mov (.r 4)), op 2 (.mov (.r 10))]) <|
  .ret⟩
def an17 : An := ⟨[(13, 7)], [(12, [(0, true), (1, true), (2, true), (3, true), (4, true), (5, true), (6, true), (7, true), (8, true), (9, true), (10, true), (11, true), (12, true), (13, true), (14, true), (15, true), (16, false), (17, true)]), (17, [(0, true), (1, true), (2, true), (3, true), (4, false), (5, true), (6, true), (7, false), (8, false)])]⟩
def ir17 : Go.Rmp.Fn := ⟨74, 1, [.t 2, .t 3],
  sq (.ops [op 2 (.mov (.c (.sl .nil []))), op 3 (.mov (.c (.int .i64 0)))]) <|
  sq (.ops [op 13 (.mov (.r 0)), cl 14 54 [(.r 13)], op 12 (.mov (.r 14)), op 15 (.ext 0 (.r 12)), op 16 (.ext 1 (.r 12)), op 4 (.mov (.r 15)), op 5 (.mov (.r 16))]) <|
  sq (sq (.ops [op 17 (.mov (.r 5)), op 18 (.un .not (.r 17))]) <|
  .cond (.r 18)
    (sq (.ops [op 2 (.mov (.c (.sl .nil []))), op 3 (.mov (.c (.int .i64 1)))]) <|
    .ret)
    (.skip)) <|
  sq (.ops [op 6 (.mov (.c (.sl .nil [])))]) <|
  sq (sq (.ops [op 19 (.mov (.r 0)), op 20 (.len .sl (.r 19)), op 21 (.mov (.c (.int .i64 0)))]) <|
  .block 0 (
    .loop (
      sq (.ops [op 22 (.bin .lss (.r 21) (.r 20))]) <|
      sq (.cond (.r 22)
        (.skip)
        (.exit 0)) <|
      sq (.block 1 (
        sq (.ops [op 23 (.iad 4 (.r 19) (.r 21)), op 24 (.ld 4 true (.r 23)), op 8 (.alloc [.str ⟨#[]⟩, .int .u64 0, .str ⟨#[]⟩, .sl .nil []]), ef (.st 4 (.r 8) (.r 24))]) <|
        sq (.ops [op 9 (.mov (.c (.sl .nil [])))]) <|
        sq (sq (.ops [op 25 (.mov (.r 4)), op 26 (.len .sl (.r 25)), op 27 (.mov (.c (.int .i64 0)))]) <|
        .block 2 (
          .loop (
            sq (.ops [op 28 (.bin .lss (.r 27) (.r 26))]) <|
            sq (.cond (.r 28)
              (.skip)
              (.exit 2)) <|
            sq (.block 3 (
              sq (.ops [op 29 (.mov (.r 27)), op 30 (.iad 1 (.r 25) (.r 27)), op 31 (.ld 1 false (.r 30)), op 10 (.mov (.r 29)), op 11 (.mov (.r 31))]) <|
              sq (.ops [op 32 (.mov (.r 11)), op 33 (.eqr true .ptr (.r 32) (.c .nilp)), op 34 (.mov (.r 33)), ⟨(some 35), .b (.mov (.r 0)), (some (34, true)), []⟩, ⟨(some 36), .b (.mov (.r 10)), (some (34, true)), []⟩, ⟨(some 37), .b (.iad 4 (.r 35) (.r 36)), (some (34, true)), []⟩, ⟨(some 38), .b (.fad 1 (.r 37)), (some (34, true)), []⟩, ⟨(some 39), .b (.ld 1 false (.r 38)), (some (34, true)), []⟩, ⟨(some 40), .b (.fad 1 (.r 8)), (some (34, true)), []⟩, ⟨(some 41), .b (.ld 1 false (.r 40)), (some (34, true)), []⟩, ⟨(some 42), .b (.bin .gtr (.r 39) (.r 41)), (some (34, true)), []⟩, op 43 (.pick (.r 34) (.r 42) (.c (.bool false))), op 44 (.mov (.r 43)), ⟨(some 45), .b (.mov (.r 11)), (some (44, true)), []⟩, ⟨(some 46), .b (.fad 0 (.r 8)), (some (44, true)), []⟩, ⟨(some 47), .b (.ld 1 false (.r 46)), (some (44, true)), []⟩, ⟨(some 48), .call 55 [(.r 45), (.r 47)], (some (44, true)), []⟩, op 49 (.pick (.r 44) (.r 48) (.c (.bool false)))]) <|
              .cond (.r 49)
                (.ops [op 50 (.mov (.r 9)), op 51 (.mov (.r 0)), op 52 (.mov (.r 10)), op 53 (.iad 4 (.r 51) (.r 52)), op 54 (.fad 1 (.r 53)), op 55 (.ld 1 false (.r 54)), op 56 (.bsl 1 [.int .u64 0] [(0, (.r 55))]), op 57 (.app 1 8 true (.r 50) (.r 56)), op 9 (.mov (.r 57))])
                (.skip))) <|
            .ops [op 58 (.bin .add (.r 27) (.c (.int .i64 1))), op 27 (.mov (.r 58))]))) <|
        sq (.ops [op 59 (.mov (.r 9)), op 60 (.len .sl (.r 59)), op 61 (.bin .gtr (.r 60) (.c (.int .i64 0)))]) <|
        .cond (.r 61)
          (sq (.ops [op 62 (.mov (.r 9)), cl 63 56 [(.r 62)]]) <|
          .ops [op 64 (.mov (.r 6)), op 65 (.fad 0 (.r 8)), op 66 (.ld 1 false (.r 65)), op 67 (.mov (.r 9)), ⟨(some 68), .call 57 [(.r 67)], none, [⟨66, .ld 1 false (.r 65), none⟩]⟩, op 69 (.build [.str ⟨#[]⟩, .sl .nil []] [(0, 1, (.r 66)), (1, 1, (.r 68))]), op 70 (.bsl 1 [.str ⟨#[]⟩, .sl .nil []] [(0, (.r 69))]), op 71 (.app 2 40 false (.r 64) (.r 70)), op 6 (.mov (.r 71))])
          (.skip))) <|
      .ops [op 72 (.bin .add (.r 21) (.c (.int .i64 1))), op 21 (.mov (.r 72))]))) <|
  sq (.ops [op 73 (.mov (.r 6)), op 2 (.mov (.r 73)), op 3 (.mov (.c (.int .i64 0)))]) <|
  .ret⟩
def an22 : An := ⟨[], []⟩
def ir22 : Go.Rmp.Fn := ⟨7, 0, [.t 0],
  sq (.ops [op 0 (.mov (.c .nilp))]) <|
  sq (.ops [op 1 (.mkm), op 2 (.mkm), op 3 (.mkm), op 4 (.mkm), op 5 (.build [.nilm, .nilm, .nilm, .nilm] [(0, 1, (.r 1)), (1, 1, (.r 2)), (2, 1, (.r 3)), (3, 1, (.r 4))]), op 6 (.box (.r 5)), op 0 (.mov (.r 6))]) <|
  .ret⟩
def an23 : An := ⟨[], [(9, [(0, true), (1, true), (3, true), (5, true), (10, true), (2, false), (4, false), (6, false), (7, true), (8, true), (9, true), (11, false), (12, true)])]⟩
def ir23 : Go.Rmp.Fn := ⟨49, 3, [.t 6, .t 7],
  sq (.ops [op 5 (.box (.r 2)), op 6 (.mov (.c (.sl .nil []))), op 7 (.mov (.c (.int .i64 0)))]) <|
  sq (sq (.ops [op 13 (.mov (.r 0)), cl 14 62 [(.r 13)], op 15 (.un .not (.r 14)), op 16 (.mov (.r 15)), ⟨(some 17), .b (.ld 2 true (.r 5)), (some (16, false)), []⟩, ⟨(some 18), .call 63 [(.r 17)], (some (16, false)), []⟩, ⟨(some 19), .b (.un .not (.r 18)), (some (16, false)), []⟩, op 20 (.pick (.r 16) (.c (.bool true)) (.r 19))]) <|
  .cond (.r 20)
    (sq (.ops [op 6 (.mov (.c (.sl .nil []))), op 7 (.mov (.c (.int .i64 1)))]) <|
    .ret)
    (.skip)) <|
  sq (sq (.ops [op 21 (.mov (.r 1)), cl 22 64 [(.r 21)], op 23 (.un .not (.r 22))]) <|
  .cond (.r 23)
    (sq (.ops [op 6 (.mov (.c (.sl .nil []))), op 7 (.mov (.c (.int .i64 40)))]) <|
    .ret)
    (.skip)) <|
  sq (.ops [op 8 (.mov (.c (.sl .nil [])))]) <|
  sq (sq (.ops [op 24 (.mov (.r 1)), op 25 (.len .sl (.r 24)), op 26 (.mov (.c (.int .i64 0)))]) <|
  .block 0 (
    .loop (
      sq (.ops [op 27 (.bin .lss (.r 26) (.r 25))]) <|
      sq (.cond (.r 27)
        (.skip)
        (.exit 0)) <|
      sq (.block 1 (
        sq (.ops [op 28 (.iad 1 (.r 24) (.r 26)), op 29 (.ld 1 false (.r 28)), op 10 (.mov (.r 29))]) <|
        sq (.ops [op 31 (.mov (.r 0)), op 32 (.mov (.r 10)), op 34 (.mov (.r 10)), op 36 (.ld 2 true (.r 5)), op 11 (.alloc [.str ⟨#[]⟩, .int .u64 0, .str ⟨#[]⟩, .sl .nil []]), ⟨(some 33), .call 65 [(.r 31), (.r 32)], none, [⟨36, .ld 2 true (.r 5), none⟩]⟩, ⟨(some 35), .call 66 [(.r 33), (.r 34)], none, [⟨36, .ld 2 true (.r 5), none⟩]⟩, cl 37 11 [(.r 35), (.r 36)], op 30 (.mov (.r 37)), op 38 (.ext 0 (.r 30)), op 39 (.ext 1 (.r 30)), ef (.st 4 (.r 11) (.r 38)), op 12 (.mov (.r 39))]) <|
        sq (sq (.ops [op 40 (.mov (.r 12)), op 41 (.bin .neq (.r 40) (.c (.int .i64 0)))]) <|
        .cond (.r 41)
          (sq (.ops [op 42 (.mov (.r 12)), op 6 (.mov (.c (.sl .nil []))), op 7 (.mov (.r 42))]) <|
          .ret)
          (.skip)) <|
        .ops [op 43 (.mov (.r 8)), op 44 (.ld 4 true (.r 11)), op 45 (.bsl 1 [.str ⟨#[]⟩, .int .u64 0, .str ⟨#[]⟩, .sl .nil []] [(0, (.r 44))]), op 46 (.app 4 64 false (.r 43) (.r 45)), op 8 (.mov (.r 46))])) <|
      .ops [op 47 (.bin .add (.r 26) (.c (.int .i64 1))), op 26 (.mov (.r 47))]))) <|
  sq (.ops [op 48 (.mov (.r 8)), op 6 (.mov (.r 48)), op 7 (.mov (.c (.int .i64 0)))]) <|
  .ret⟩
def an24 : An := ⟨[], [(11, [(0, true), (1, true), (2, true), (3, true), (4, true), (5, true), (6, true), (7, true), (8, true), (9, true), (10, true), (11, true)]), (12, [(0, true), (1, true), (2, true), (4, true), (5, true), (6, true), (7, true), (8, true), (9, true), (14, true), (3, false), (10, false), (11, true), (12, true), (13, true), (15, false), (16, true)])]⟩
def ir24 : Go.Rmp.Fn := ⟨91, 3, [.t 6, .t 7],
  sq (.ops [op 5 (.box (.r 2)), op 6 (.mov (.c (.sl .nil []))), op 7 (.mov (.c (.int .i64 0)))]) <|
  sq (sq (.ops [op 15 (.mov (.r 0)), cl 16 62 [(.r 15)], op 17 (.un .not (.r 16)), op 18 (.mov (.r 17)), ⟨(some 19), .b (.ld 2 true (.r 5)), (some (18, false)), []⟩, ⟨(some 20), .call 63 [(.r 19)], (some (18, false)), []⟩, ⟨(some 21), .b (.un .not (.r 20)), (some (18, false)), []⟩, op 22 (.pick (.r 18) (.c (.bool true)) (.r 21))]) <|
  .cond (.r 22)
    (sq (.ops [op 6 (.mov (.c (.sl .nil []))), op 7 (.mov (.c (.int .i64 1)))]) <|
    .ret)
    (.skip)) <|
  sq (.ops [op 24 (.mov (.r 1)), cl 25 17 [(.r 24)], op 23 (.mov (.r 25)), op 26 (.ext 0 (.r 23)), op 27 (.ext 1 (.r 23)), op 8 (.mov (.r 26)), op 9 (.mov (.r 27))]) <|
  sq (sq (.ops [op 28 (.mov (.r 9)), op 29 (.bin .neq (.r 28) (.c (.int .i64 0)))]) <|
  .cond (.r 29)
    (sq (.ops [op 30 (.mov (.r 9)), op 6 (.mov (.c (.sl .nil []))), op 7 (.mov (.r 30))]) <|
    .ret)
    (.skip)) <|
  sq (.ops [op 10 (.mov (.c (.sl .nil [])))]) <|
  sq (sq (.ops [op 31 (.mov (.r 1)), op 32 (.len .sl (.r 31)), op 33 (.mov (.c (.int .i64 0)))]) <|
  .block 0 (
    .loop (
      sq (.ops [op 34 (.bin .lss (.r 33) (.r 32))]) <|
      sq (.cond (.r 34)
        (.skip)
        (.exit 0)) <|
      sq (.block 1 (
        sq (.ops [op 35 (.iad 4 (.r 31) (.r 33)), op 36 (.ld 4 true (.r 35)), op 12 (.alloc [.str ⟨#[]⟩, .int .u64 0, .str ⟨#[]⟩, .sl .nil []]), ef (.st 4 (.r 12) (.r 36))]) <|
        sq (.ops [op 37 (.fad 3 (.r 12)), op 38 (.ld 1 false (.r 37)), cl 39 67 [(.r 38)], op 40 (.fad 3 (.r 12)), ef (.st 1 (.r 40) (.r 39))]) <|
        sq (sq (.ops [op 41 (.mov (.r 8)), op 42 (.len .sl (.r 41)), op 43 (.bin .gtr (.r 42) (.c (.int .i64 0))), op 44 (.mov (.r 43)), ⟨(some 45), .b (.mov (.r 8)), (some (44, true)), []⟩, ⟨(some 46), .b (.iad 2 (.r 45) (.c (.int .i64 0))), (some (44, true)), []⟩, ⟨(some 47), .b (.fad 0 (.r 46)), (some (44, true)), []⟩, ⟨(some 48), .b (.ld 1 false (.r 47)), (some (44, true)), []⟩, ⟨(some 49), .b (.fad 0 (.r 12)), (some (44, true)), []⟩, ⟨(some 50), .b (.ld 1 false (.r 49)), (some (44, true)), []⟩, ⟨(some 51), .b (.bin .eql (.r 48) (.r 50)), (some (44, true)), []⟩, op 52 (.pick (.r 44) (.r 51) (.c (.bool false)))]) <|
        .cond (.r 52)
          (sq (.ops [op 54 (.mov (.r 0)), op 55 (.fad 0 (.r 12)), op 56 (.ld 1 false (.r 55)), op 58 (.fad 0 (.r 12)), op 59 (.ld 1 false (.r 58)), op 60 (.mov (.r 8)), op 61 (.iad 2 (.r 60) (.c (.int .i64 0))), op 62 (.fad 1 (.r 61)), op 63 (.ld 1 false (.r 62)), op 13 (.alloc [.str ⟨#[]⟩, .int .u64 0, .str ⟨#[]⟩, .sl .nil []]), ⟨(some 57), .call 65 [(.r 54), (.r 56)], none, [⟨59, .ld 1 false (.r 58), none⟩, ⟨63, .ld 1 false (.r 62), none⟩]⟩, cl 64 68 [(.r 57), (.r 59), (.r 63)], op 53 (.mov (.r 64)), op 65 (.ext 0 (.r 53)), op 66 (.ext 1 (.r 53)), ef (.st 4 (.r 13) (.r 65)), op 14 (.mov (.r 66))]) <|
          sq (sq (.ops [op 67 (.mov (.r 14)), op 68 (.bin .eql (.r 67) (.c (.int .i64 0))), op 69 (.mov (.r 68)), ⟨(some 70), .b (.fad 1 (.r 13)), (some (69, true)), []⟩, ⟨(some 71), .b (.ld 1 false (.r 70)), (some (69, true)), []⟩, ⟨(some 72), .b (.bin .neq (.r 71) (.c (.int .u64 0))), (some (69, true)), []⟩, op 73 (.pick (.r 69) (.r 72) (.c (.bool false)))]) <|
          .cond (.r 73)
            (.ops [op 75 (.ld 4 true (.r 13)), op 76 (.ld 2 true (.r 5)), cl 77 11 [(.r 75), (.r 76)], op 74 (.mov (.r 77)), op 78 (.ext 0 (.r 74)), op 79 (.ext 1 (.r 74)), ef (.st 4 (.r 12) (.r 78)), op 14 (.mov (.r 79))])
            (.skip)) <|
          sq (sq (.ops [op 80 (.mov (.r 14)), op 81 (.bin .neq (.r 80) (.c (.int .i64 0)))]) <|
          .cond (.r 81)
            (sq (.ops [op 82 (.mov (.r 14)), op 6 (.mov (.c (.sl .nil []))), op 7 (.mov (.r 82))]) <|
            .ret)
            (.skip)) <|
          .ops [op 83 (.mov (.r 8)), op 84 (.sll 2 (.r 83) (some (.c (.int .i64 1))) none none), op 8 (.mov (.r 84))])
          (.skip)) <|
        .ops [op 85 (.mov (.r 10)), op 86 (.ld 4 true (.r 12)), op 87 (.bsl 1 [.str ⟨#[]⟩, .int .u64 0, .str ⟨#[]⟩, .sl .nil []] [(0, (.r 86))]), op 88 (.app 4 64 false (.r 85) (.r 87)), op 10 (.mov (.r 88))])) <|
      .ops [op 89 (.bin .add (.r 33) (.c (.int .i64 1))), op 33 (.mov (.r 89))]))) <|
  sq (.ops [op 90 (.mov (.r 10)), op 6 (.mov (.r 90)), op 7 (.mov (.c (.int .i64 0)))]) <|
  .ret⟩
def an25 : An := ⟨[], []⟩
def ir25 : Go.Rmp.Fn := ⟨12, 2, [.t 4, .t 5],
  sq (.ops [op 4 (.mov (.c (.int .i64 0))), op 5 (.mov (.c (.int .i64 0)))]) <|
  sq (sq (.ops [op 6 (.mov (.r 1)), cl 7 69 [(.r 6)], op 8 (.un .not (.r 7))]) <|
  .cond (.r 8)
    (sq (.ops [op 4 (.mov (.c (.int .i64 0))), op 5 (.mov (.c (.int .i64 1)))]) <|
    .ret)
    (.skip)) <|
  sq (.ops [op 9 (.mov (.r 0)), op 10 (.mov (.r 1)), cl 11 70 [(.r 9), (.r 10)], op 4 (.mov (.r 11)), op 5 (.mov (.c (.int .i64 0)))]) <|
  .ret⟩
def an29 : An := ⟨[], []⟩
def ir29 : Go.Rmp.Fn := ⟨7, 1, [.t 2],
  sq (.ops [op 2 (.mov (.c (.sl .nil [])))]) <|
  sq (.ops [op 3 (.mov (.c (.sl .nil [])))]) <|
  sq (.ops [op 4 (.mov (.r 3)), op 5 (.mov (.r 0)), op 6 (.app 1 1 false (.r 4) (.r 5)), op 2 (.mov (.r 6))]) <|
  .ret⟩
def an42 : An := ⟨[], [(8, [(0, true), (1, true), (2, true), (3, true), (4, true), (5, true), (6, true), (7, true), (8, true), (9, true), (10, false), (11, true)]), (12, [(0, true), (1, true), (2, true), (3, true), (4, true), (5, true), (6, true), (7, true), (8, true)]), (14, [(0, true), (1, true), (2, true), (3, true), (4, true), (6, true), (5, false), (7, true), (8, false)])]⟩
def ir42 : Go.Rmp.Fn := ⟨70, 5, [.t 10, .t 11],
  sq (.ops [op 10 (.mov (.c (.bool false))), op 11 (.mov (.c (.int .i64 0)))]) <|
  sq (sq (.ops [op 19 (.mov (.r 1)), op 20 (.mov (.r 2)), op 21 (.mov (.r 3)), cl 22 93 [(.r 19), (.r 20), (.r 21)], op 23 (.un .not (.r 22)), op 24 (.mov (.r 23)), ⟨(some 25), .b (.mov (.r 4)), (some (24, false)), []⟩, ⟨(some 26), .call 94 [(.r 25)], (some (24, false)), []⟩, ⟨(some 27), .b (.un .not (.r 26)), (some (24, false)), []⟩, op 28 (.pick (.r 24) (.c (.bool true)) (.r 27))]) <|
  .cond (.r 28)
    (sq (.ops [op 10 (.mov (.c (.bool false))), op 11 (.mov (.c (.int .i64 1)))]) <|
    .ret)
    (.skip)) <|
  sq (.ops [op 12 (.mov (.c (.bool false)))]) <|
  sq (sq (.ops [op 29 (.mov (.r 2)), op 30 (.len .sl (.r 29)), op 31 (.mov (.c (.int .i64 0)))]) <|
  .block 0 (
    .loop (
      sq (.ops [op 32 (.bin .lss (.r 31) (.r 30))]) <|
      sq (.cond (.r 32)
        (.skip)
        (.exit 0)) <|
      sq (.block 1 (
        sq (.ops [op 33 (.iad 2 (.r 29) (.r 31)), op 34 (.ld 2 true (.r 33)), op 14 (.alloc [.str ⟨#[]⟩, .str ⟨#[]⟩]), ef (.st 2 (.r 14) (.r 34))]) <|
        sq (.ops [op 35 (.fad 0 (.r 14)), op 36 (.ld 1 false (.r 35)), op 37 (.mov (.r 1)), op 38 (.build [.str ⟨#[]⟩, .int .u64 0] [(0, 1, (.r 36)), (1, 1, (.r 37))]), op 15 (.alloc [.str ⟨#[]⟩, .int .u64 0]), ef (.st 2 (.r 15) (.r 38))]) <|
        sq (sq (.ops [op 40 (.mov (.r 0)), op 41 (.nilc (.r 40)), op 42 (.fad 0 (.r 41)), op 43 (.ld 1 false (.r 42)), op 44 (.ld 2 true (.r 15)), op 45 (.lkp (.st [.str, .int]) (.agg [.str ⟨#[]⟩, .sl .nil [], .int .i64 0]) true (.r 43) (.r 44)), op 39 (.mov (.r 45)), op 46 (.ext 0 (.r 39)), op 47 (.ext 1 (.r 39)), op 16 (.alloc [.str ⟨#[]⟩, .sl .nil [], .int .i64 0]), ef (.st 3 (.r 16) (.r 46)), op 17 (.mov (.r 47))]) <|
        sq (.ops [op 48 (.mov (.r 17))]) <|
        .cond (.r 48)
          (.exit 1)
          (.skip)) <|
        sq (.ops [op 12 (.mov (.c (.bool true)))]) <|
        sq (.ops [op 18 (.mov (.c (.int .i64 (-1))))]) <|
        sq (sq (.ops [op 49 (.mov (.r 1)), op 50 (.mov (.r 0)), op 51 (.nilc (.r 50)), op 52 (.fad 3 (.r 51)), op 53 (.ld 1 false (.r 52)), op 54 (.fad 0 (.r 14)), op 55 (.ld 1 false (.r 54)), op 56 (.lkp (.sc .str) (.int .u64 0) false (.r 53) (.r 55)), op 57 (.bin .lss (.r 49) (.r 56))]) <|
        .cond (.r 57)
          (.ops [op 58 (.mov (.r 4)), op 18 (.mov (.r 58))])
          (.skip)) <|
        .ops [op 59 (.mov (.r 0)), op 60 (.ld 2 true (.r 15)), op 61 (.fad 1 (.r 14)), op 62 (.ld 1 false (.r 61)), op 63 (.mov (.r 3)), op 65 (.mov (.r 18)), ⟨(some 64), .call 82 [(.r 63)], none, [⟨60, .ld 2 true (.r 15), none⟩, ⟨62, .ld 1 false (.r 61), none⟩]⟩, op 66 (.build [.str ⟨#[]⟩, .sl .nil [], .int .i64 0] [(0, 1, (.r 62)), (1, 1, (.r 64)), (2, 1, (.r 65))]), cl 67 95 [(.r 59), (.r 60), (.r 66)]])) <|
      .ops [op 68 (.bin .add (.r 31) (.c (.int .i64 1))), op 31 (.mov (.r 68))]))) <|
  sq (.ops [op 69 (.mov (.r 12)), op 10 (.mov (.r 69)), op 11 (.mov (.c (.int .i64 0)))]) <|
  .ret⟩
def an43 : An := ⟨[], [(15, [(0, true), (1, true), (2, true), (3, true), (4, true), (5, true), (6, true), (7, true), (8, false)])]⟩
def ir43 : Go.Rmp.Fn := ⟨89, 3, [.t 6, .t 7],
  sq (.ops [op 6 (.mov (.c (.int .i64 0))), op 7 (.mov (.c (.int .i64 0)))]) <|
  sq (sq (.ops [op 13 (.mov (.r 1)), op 14 (.bin .lss (.r 13) (.c (.int .u64 65536))), op 15 (.mov (.r 14)), ⟨(some 16), .b (.mov (.r 2)), (some (15, false)), []⟩, ⟨(some 17), .call 94 [(.r 16)], (some (15, false)), []⟩, ⟨(some 18), .b (.un .not (.r 17)), (some (15, false)), []⟩, op 19 (.pick (.r 15) (.c (.bool true)) (.r 18))]) <|
  .cond (.r 19)
    (sq (.ops [op 6 (.mov (.c (.int .i64 0))), op 7 (.mov (.c (.int .i64 1)))]) <|
    .ret)
    (.skip)) <|
  sq (sq (.ops [op 20 (.mov (.r 0)), op 21 (.nilc (.r 20)), op 22 (.fad 2 (.r 21)), op 23 (.ld 1 false (.r 22)), op 24 (.mov (.r 1)), op 25 (.lkp (.sc .int) (.sl .nil []) false (.r 23) (.r 24)), op 26 (.len .sl (.r 25)), op 27 (.mov (.c (.int .i64 0)))]) <|
  .block 0 (
    .loop (
      sq (.ops [op 28 (.bin .lss (.r 27) (.r 26))]) <|
      sq (.cond (.r 28)
        (.skip)
        (.exit 0)) <|
      sq (.block 1 (
        sq (.ops [op 29 (.iad 1 (.r 25) (.r 27)), op 30 (.ld 1 false (.r 29)), op 9 (.mov (.r 30))]) <|
        sq (sq (.ops [op 31 (.mov (.r 0)), op 32 (.nilc (.r 31)), op 33 (.fad 3 (.r 32)), op 34 (.ld 1 false (.r 33)), op 35 (.mov (.r 9)), op 36 (.lkp (.sc .str) (.int .u64 0) false (.r 34) (.r 35)), op 37 (.mov (.r 1)), op 38 (.bin .geq (.r 36) (.r 37))]) <|
        .cond (.r 38)
          (.exit 1)
          (.skip)) <|
        sq (.ops [op 39 (.mov (.r 0)), op 40 (.nilc (.r 39)), op 41 (.fad 3 (.r 40)), op 42 (.ld 1 false (.r 41)), op 43 (.mov (.r 9)), op 44 (.mov (.r 1)), ef (.upm (.sc .str) (.r 42) (.r 43) (.r 44))]) <|
        sq (.ops [op 45 (.mov (.r 0)), op 46 (.nilc (.r 45)), op 47 (.fad 1 (.r 46)), op 48 (.ld 1 false (.r 47)), op 49 (.mov (.r 9)), op 50 (.lkp (.sc .str) (.sl .nil []) false (.r 48) (.r 49)), op 51 (.len .sl (.r 50)), op 52 (.mov (.c (.int .i64 0)))]) <|
        .block 2 (
          .loop (
            sq (.ops [op 53 (.bin .lss (.r 52) (.r 51))]) <|
            sq (.cond (.r 53)
              (.skip)
              (.exit 2)) <|
            sq (.block 3 (
              sq (.ops [op 54 (.iad 1 (.r 50) (.r 52)), op 55 (.ld 1 false (.r 54)), op 11 (.mov (.r 55))]) <|
              sq (sq (.ops [op 56 (.mov (.r 11)), op 57 (.mov (.r 1)), op 58 (.bin .geq (.r 56) (.r 57))]) <|
              .cond (.r 58)
                (.exit 2)
                (.skip)) <|
              sq (.ops [op 59 (.mov (.r 0)), op 60 (.nilc (.r 59)), op 61 (.fad 0 (.r 60)), op 62 (.ld 1 false (.r 61)), op 63 (.mov (.r 9)), op 64 (.mov (.r 11)), op 65 (.build [.str ⟨#[]⟩, .int .u64 0] [(0, 1, (.r 63)), (1, 1, (.r 64))]), op 66 (.lkp (.st [.str, .int]) (.agg [.str ⟨#[]⟩, .sl .nil [], .int .i64 0]) false (.r 62) (.r 65)), op 12 (.alloc [.str ⟨#[]⟩, .sl .nil [], .int .i64 0]), ef (.st 3 (.r 12) (.r 66))]) <|
              sq (.ops [op 67 (.fad 2 (.r 12)), op 68 (.ld 1 false (.r 67)), op 69 (.bin .eql (.r 68) (.c (.int .i64 (-1))))]) <|
              .cond (.r 69)
                (sq (.ops [op 70 (.mov (.r 2)), op 71 (.fad 2 (.r 12)), ef (.st 1 (.r 71) (.r 70))]) <|
                .ops [op 72 (.mov (.r 0)), op 73 (.nilc (.r 72)), op 74 (.fad 0 (.r 73)), op 75 (.ld 1 false (.r 74)), op 76 (.mov (.r 9)), op 77 (.mov (.r 11)), op 78 (.build [.str ⟨#[]⟩, .int .u64 0] [(0, 1, (.r 76)), (1, 1, (.r 77))]), op 79 (.ld 3 true (.r 12)), ef (.upm (.st [.str, .int]) (.r 75) (.r 78) (.r 79))])
                (.skip))) <|
            .ops [op 80 (.bin .add (.r 52) (.c (.int .i64 1))), op 52 (.mov (.r 80))])))) <|
      .ops [op 81 (.bin .add (.r 27) (.c (.int .i64 1))), op 27 (.mov (.r 81))]))) <|
  sq (.ops [op 82 (.mov (.r 0)), op 83 (.nilc (.r 82)), op 84 (.fad 2 (.r 83)), op 85 (.ld 1 false (.r 84)), op 86 (.mov (.r 1)), op 87 (.lkp (.sc .int) (.sl .nil []) false (.r 85) (.r 86)), op 88 (.len .sl (.r 87)), op 6 (.mov (.r 88)), op 7 (.mov (.c (.int .i64 0)))]) <|
  .ret⟩
def an44 : An := ⟨[(4, 3)], [(4, [(0, true), (1, true), (2, false), (3, false), (4, true), (5, false), (6, true), (7, true)])]⟩
def ir44 : Go.Rmp.Fn := ⟨19, 2, [.t 4, .t 5],
  sq (.ops [op 4 (.mov (.c .nilp)), op 5 (.mov (.c (.int .i64 0)))]) <|
  sq (.ops [op 7 (.mov (.r 0)), op 8 (.mov (.r 1)), op 9 (.build [.int .i64 0, .int .i64 0] [(0, 1, (.r 7)), (1, 1, (.r 8))]), op 6 (.alloc [.int .i64 0, .int .i64 0]), ef (.st 2 (.r 6) (.r 9))]) <|
  sq (sq (.ops [op 10 (.ld 2 true (.r 6)), cl 11 96 [(.r 10)], op 12 (.un .not (.r 11))]) <|
  .cond (.r 12)
    (sq (.ops [op 4 (.mov (.c .nilp)), op 5 (.mov (.c (.int .i64 1)))]) <|
    .ret)
    (.skip)) <|
  sq (.ops [op 13 (.ld 2 true (.r 6)), op 14 (.ld 2 true (.r 6)), ⟨(some 15), .call 97 [(.r 14)], none, [⟨13, .ld 2 true (.r 6), none⟩]⟩, ⟨(some 16), .b (.mks true 1 [.int .u8 0] (.r 15) (.r 15)), none, [⟨13, .ld 2 true (.r 6), none⟩]⟩, op 17 (.build [.int .i64 0, .int .i64 0, .sl .nil []] [(0, 2, (.r 13)), (2, 1, (.r 16))]), op 18 (.box (.r 17)), op 4 (.mov (.r 18)), op 5 (.mov (.c (.int .i64 0)))]) <|
  .ret⟩
def an45 : An := ⟨[], [(4, [(0, true), (1, true), (2, true), (3, true), (4, true), (5, true), (6, true), (7, true), (8, true), (9, true)])]⟩
def ir45 : Go.Rmp.Fn := ⟨28, 1, [.t 2],
  sq (.ops [op 2 (.mov (.c (.bool false)))]) <|
  sq (sq (.ops [op 3 (.mov (.c (.int .i64 1)))]) <|
  .block 0 (
    .loop (
      sq (sq (.ops [op 4 (.mov (.r 3)), op 5 (.mov (.r 0)), op 6 (.len .sl (.r 5)), op 7 (.bin .lss (.r 4) (.r 6))]) <|
      .cond (.r 7)
        (.skip)
        (.exit 0)) <|
      sq (.block 1 (
        sq (.ops [op 10 (.mov (.r 0)), op 11 (.mov (.r 3)), op 12 (.iad 1 (.r 10) (.r 11)), op 13 (.ld 1 false (.r 12)), op 14 (.mov (.r 0)), op 15 (.mov (.r 3)), op 16 (.bin .sub (.r 15) (.c (.int .i64 1))), op 17 (.iad 1 (.r 14) (.r 16)), op 18 (.ld 1 false (.r 17)), op 19 (.bin .leq (.r 13) (.r 18))]) <|
        .cond (.r 19)
          (sq (.ops [op 2 (.mov (.c (.bool false)))]) <|
          .ret)
          (.skip))) <|
      .ops [op 8 (.mov (.r 3)), op 9 (.bin .add (.r 8) (.c (.int .i64 1))), op 3 (.mov (.r 9))]))) <|
  sq (.ops [op 20 (.mov (.r 0)), op 21 (.len .sl (.r 20)), op 22 (.bin .geq (.r 21) (.c (.int .i64 1))), op 23 (.mov (.r 22)), ⟨(some 24), .b (.mov (.r 0)), (some (23, true)), []⟩, ⟨(some 25), .b (.len .sl (.r 24)), (some (23, true)), []⟩, ⟨(some 26), .b (.bin .leq (.r 25) (.c (.int .i64 1024))), (some (23, true)), []⟩, op 27 (.pick (.r 23) (.r 26) (.c (.bool false))), op 2 (.mov (.r 27))]) <|
  .ret⟩
def an46 : An := ⟨[], []⟩
def ir46 : Go.Rmp.Fn := ⟨9, 2, [.t 4],
  sq (.ops [op 4 (.mov (.c (.bool false)))]) <|
  sq (.ops [op 5 (.mov (.r 0)), op 6 (.mov (.r 1)), cl 7 98 [(.r 5), (.r 6)], op 8 (.bin .geq (.r 7) (.c (.int .i64 0))), op 4 (.mov (.r 8))]) <|
  .ret⟩
def an47 : An := ⟨[], [(3, [(0, true), (1, true), (2, true), (3, true), (4, true), (5, true), (6, true), (7, true), (8, true), (9, true), (10, true), (11, true), (12, true), (13, false)])]⟩
def ir47 : Go.Rmp.Fn := ⟨31, 2, [],
  sq (.ops [op 6 (.mov (.r 0)), op 7 (.nilc (.r 6)), op 8 (.fad 0 (.r 7)), op 9 (.ld 2 true (.r 8)), op 10 (.mov (.r 1)), cl 11 99 [(.r 9), (.r 10)], op 12 (.len .sl (.r 11)), op 13 (.mov (.c (.int .i64 0)))]) <|
  .block 0 (
    .loop (
      sq (.ops [op 14 (.bin .lss (.r 13) (.r 12))]) <|
      sq (.cond (.r 14)
        (.skip)
        (.exit 0)) <|
      sq (.block 1 (
        sq (.ops [op 15 (.iad 1 (.r 11) (.r 13)), op 16 (.ld 1 false (.r 15)), op 5 (.mov (.r 16))]) <|
        .ops [op 17 (.mov (.r 0)), op 18 (.nilc (.r 17)), op 19 (.fad 2 (.r 18)), op 20 (.ld 1 false (.r 19)), op 21 (.mov (.r 5)), op 22 (.bin .quo (.r 21) (.c (.int .i64 8))), op 23 (.iad 1 (.r 20) (.r 22)), op 24 (.ld 1 false (.r 23)), op 25 (.mov (.r 5)), op 26 (.bin .rem (.r 25) (.c (.int .i64 8))), op 27 (.bin .shl (.c (.int .u8 1)) (.r 26)), op 28 (.bin .or (.r 24) (.r 27)), op 29 (.iad 1 (.r 20) (.r 22)), ef (.st 1 (.r 29) (.r 28))])) <|
      .ops [op 30 (.bin .add (.r 13) (.c (.int .i64 1))), op 13 (.mov (.r 30))]))⟩
def an48 : An := ⟨[], [(2, [(0, true), (1, true), (2, true), (3, true), (4, true), (5, true), (6, true), (7, true), (8, true), (9, true), (10, true), (11, true), (12, true), (13, true), (14, true), (15, true), (16, true), (17, true), (18, true), (19, true), (20, true), (21, true), (22, false), (23, true)])]⟩
def ir48 : Go.Rmp.Fn := ⟨32, 1, [.t 2],
  sq (.ops [op 2 (.mov (.c (.sl .nil [])))]) <|
  sq (.ops [op 4 (.mov (.r 0)), op 5 (.nilc (.r 4)), op 6 (.fad 0 (.r 5)), op 7 (.fad 0 (.r 6)), op 8 (.ld 1 false (.r 7)), op 3 (.mov (.r 8))]) <|
  sq (.ops [op 9 (.mov (.r 3)), op 10 (.bin .shr (.r 9) (.c (.int .u64 24))), op 11 (.cvi .u8 (.r 10)), op 12 (.mov (.r 3)), op 13 (.bin .shr (.r 12) (.c (.int .u64 16))), op 14 (.cvi .u8 (.r 13)), op 15 (.mov (.r 3)), op 16 (.bin .shr (.r 15) (.c (.int .u64 8))), op 17 (.cvi .u8 (.r 16)), op 18 (.mov (.r 3)), op 19 (.cvi .u8 (.r 18)), op 20 (.mov (.r 0)), op 21 (.nilc (.r 20)), op 22 (.fad 0 (.r 21)), op 23 (.fad 1 (.r 22)), op 24 (.ld 1 false (.r 23)), op 25 (.cvi .u8 (.r 24)), op 26 (.bsl 5 [.int .u8 0] [(0, (.r 11)), (1, (.r 14)), (2, (.r 17)), (3, (.r 19)), (4, (.r 25))]), op 27 (.mov (.r 0)), op 28 (.nilc (.r 27)), op 29 (.fad 2 (.r 28)), op 30 (.ld 1 false (.r 29)), op 31 (.app 1 1 false (.r 26) (.r 30)), op 2 (.mov (.r 31))]) <|
  .ret⟩
def an54 : An := ⟨[], []⟩
def ir54 : Go.Rmp.Fn := ⟨50, 1, [.t 2, .t 3],
  sq (.ops [op 2 (.mov (.c (.sl .nil []))), op 3 (.mov (.c (.bool false)))]) <|
  sq (sq (.ops [op 10 (.mov (.r 0)), op 11 (.len .sl (.r 10)), op 12 (.bin .lss (.r 11) (.c (.int .i64 1))), op 13 (.mov (.r 12)), ⟨(some 14), .b (.mov (.r 0)), (some (13, false)), []⟩, ⟨(some 15), .b (.len .sl (.r 14)), (some (13, false)), []⟩, ⟨(some 16), .b (.bin .gtr (.r 15) (.c (.int .i64 1024))), (some (13, false)), []⟩, op 17 (.pick (.r 13) (.c (.bool true)) (.r 16))]) <|
  .cond (.r 17)
    (sq (.ops [op 2 (.mov (.c (.sl .nil []))), op 3 (.mov (.c (.bool false)))]) <|
    .ret)
    (.skip)) <|
  sq (.ops [op 18 (.mkm), op 4 (.mov (.r 18))]) <|
  sq (.ops [op 5 (.mov (.c (.sl .nil [])))]) <|
  sq (sq (.ops [op 19 (.mov (.r 0)), op 20 (.len .sl (.r 19)), op 21 (.mov (.c (.int .i64 0)))]) <|
  .block 0 (
    .loop (
      sq (.ops [op 22 (.bin .lss (.r 21) (.r 20))]) <|
      sq (.cond (.r 22)
        (.skip)
        (.exit 0)) <|
      sq (.block 1 (
        sq (.ops [op 23 (.iad 4 (.r 19) (.r 21)), op 24 (.ld 4 true (.r 23)), op 7 (.alloc [.str ⟨#[]⟩, .int .u64 0, .str ⟨#[]⟩, .sl .nil []]), ef (.st 4 (.r 7) (.r 24))]) <|
        sq (.ops [op 26 (.ld 4 true (.r 7)), cl 27 103 [(.r 26)], op 25 (.mov (.r 27)), op 28 (.ext 0 (.r 25)), op 29 (.ext 1 (.r 25)), op 8 (.mov (.r 28)), op 9 (.mov (.r 29))]) <|
        sq (sq (.ops [op 30 (.mov (.r 4)), op 31 (.fad 0 (.r 7)), op 32 (.ld 1 false (.r 31)), op 33 (.lkp (.sc .str) (.int .i64 0) false (.r 30) (.r 32)), op 34 (.bin .add (.r 33) (.c (.int .i64 1))), ef (.upm (.sc .str) (.r 30) (.r 32) (.r 34))]) <|
        sq (.ops [op 35 (.mov (.r 9)), op 36 (.un .not (.r 35)), op 37 (.mov (.r 36)), ⟨(some 38), .b (.mov (.r 4)), (some (37, false)), []⟩, ⟨(some 39), .b (.fad 0 (.r 7)), (some (37, false)), []⟩, ⟨(some 40), .b (.ld 1 false (.r 39)), (some (37, false)), []⟩, ⟨(some 41), .b (.lkp (.sc .str) (.int .i64 0) false (.r 38) (.r 40)), (some (37, false)), []⟩, ⟨(some 42), .b (.bin .gtr (.r 41) (.c (.int .i64 1))), (some (37, false)), []⟩, op 43 (.pick (.r 37) (.c (.bool true)) (.r 42))]) <|
        .cond (.r 43)
          (sq (.ops [op 2 (.mov (.c (.sl .nil []))), op 3 (.mov (.c (.bool false)))]) <|
          .ret)
          (.skip)) <|
        .ops [op 44 (.mov (.r 5)), op 45 (.mov (.r 8)), op 46 (.bsl 1 [.nilp] [(0, (.r 45))]), op 47 (.app 1 8 false (.r 44) (.r 46)), op 5 (.mov (.r 47))])) <|
      .ops [op 48 (.bin .add (.r 21) (.c (.int .i64 1))), op 21 (.mov (.r 48))]))) <|
  sq (.ops [op 49 (.mov (.r 5)), op 2 (.mov (.r 49)), op 3 (.mov (.c (.bool true)))]) <|
  .ret⟩
def an55 : An := ⟨[], []⟩
def ir55 : Go.Rmp.Fn := ⟨14, 2, [.t 4],
  sq (.ops [op 2 (.box (.r 0)), op 4 (.mov (.c (.bool false)))]) <|
  sq (.ops [op 5 (.ld 1 false (.r 2)), op 6 (.nilc (.r 5)), op 7 (.fad 0 (.r 6)), op 8 (.ld 2 true (.r 7)), op 9 (.mov (.r 1)), cl 10 99 [(.r 8), (.r 9)], op 11 (.mkf 105 [(.r 2)]), cl 12 104 [(.r 10), (.r 11)], op 13 (.un .not (.r 12)), op 4 (.mov (.r 13))]) <|
  .ret⟩
def an56 : An := ⟨[], []⟩
def ir56 : Go.Rmp.Fn := ⟨11, 1, [],
  sq (.ops [op 3 (.mov (.r 0)), op 4 (.len .sl (.r 3)), op 2 (.mov (.r 4))]) <|
  .ops [op 5 (.mov (.r 0)), op 6 (.mov (.r 2)), op 7 (.mov (.r 2)), op 8 (.cvi .u64 (.r 7)), cl 9 107 [(.r 8)], cl 10 106 [(.r 5), (.c (.int .i64 0)), (.r 6), (.r 9)]]⟩
def an57 : An := ⟨[], [(6, [(0, true), (1, true), (2, true), (3, true), (4, true), (5, true), (6, true), (7, true), (8, true), (9, true)]), (11, [(0, true), (1, true), (2, true), (3, true), (4, true), (5, true), (6, true), (7, true), (8, true), (9, true)])]⟩
def ir57 : Go.Rmp.Fn := ⟨61, 1, [.t 2],
  sq (.ops [op 2 (.mov (.c (.sl .nil [])))]) <|
  sq (sq (.ops [op 6 (.mov (.r 0)), op 7 (.len .sl (.r 6)), op 8 (.bin .lss (.r 7) (.c (.int .i64 2)))]) <|
  .cond (.r 8)
    (sq (.ops [op 9 (.mov (.r 0)), op 2 (.mov (.r 9))]) <|
    .ret)
    (.skip)) <|
  sq (sq (.ops [op 3 (.mov (.c (.int .i64 1)))]) <|
  .block 0 (
    .loop (
      sq (sq (.ops [op 10 (.mov (.r 3)), op 11 (.mov (.r 0)), op 12 (.len .sl (.r 11)), op 13 (.bin .lss (.r 10) (.r 12))]) <|
      .cond (.r 13)
        (.skip)
        (.exit 0)) <|
      sq (.block 1 (
        sq (.ops [op 16 (.mov (.r 0)), op 17 (.mov (.r 3)), op 18 (.iad 1 (.r 16) (.r 17)), op 19 (.ld 1 false (.r 18)), op 20 (.mov (.r 0)), op 21 (.mov (.r 3)), op 22 (.bin .sub (.r 21) (.c (.int .i64 1))), op 23 (.iad 1 (.r 20) (.r 22)), op 24 (.ld 1 false (.r 23)), op 25 (.bin .eql (.r 19) (.r 24))]) <|
        .cond (.r 25)
          (sq (.ops [op 26 (.mov (.r 0)), op 27 (.mov (.r 3)), op 28 (.sll 1 (.r 26) (some (.r 27)) none none), op 4 (.mov (.r 28))]) <|
          sq (sq (.ops [op 5 (.mov (.c (.int .i64 1)))]) <|
          .block 2 (
            .loop (
              sq (sq (.ops [op 29 (.mov (.r 5)), op 30 (.mov (.r 4)), op 31 (.len .sl (.r 30)), op 32 (.bin .lss (.r 29) (.r 31))]) <|
              .cond (.r 32)
                (.skip)
                (.exit 2)) <|
              sq (.block 3 (
                sq (.ops [op 35 (.mov (.r 4)), op 36 (.mov (.r 5)), op 37 (.iad 1 (.r 35) (.r 36)), op 38 (.ld 1 false (.r 37)), op 39 (.mov (.r 4)), op 40 (.mov (.r 5)), op 41 (.bin .sub (.r 40) (.c (.int .i64 1))), op 42 (.iad 1 (.r 39) (.r 41)), op 43 (.ld 1 false (.r 42)), op 44 (.bin .neq (.r 38) (.r 43))]) <|
                .cond (.r 44)
                  (sq (.ops [op 45 (.mov (.r 0)), op 46 (.mov (.r 3)), op 47 (.mov (.r 4)), op 48 (.mov (.r 5)), op 49 (.iad 1 (.r 47) (.r 48)), op 50 (.ld 1 false (.r 49)), op 51 (.iad 1 (.r 45) (.r 46)), ef (.st 1 (.r 51) (.r 50))]) <|
                  .ops [op 52 (.mov (.r 3)), op 53 (.bin .add (.r 52) (.c (.int .i64 1))), op 3 (.mov (.r 53))])
                  (.skip))) <|
              .ops [op 33 (.mov (.r 5)), op 34 (.bin .add (.r 33) (.c (.int .i64 1))), op 5 (.mov (.r 34))]))) <|
          sq (.ops [op 54 (.mov (.r 0)), op 55 (.mov (.r 3)), op 56 (.sll 1 (.r 54) (some (.r 55)) none none), ef (.clr 1 [.int .u64 0] (.r 56))]) <|
          sq (.ops [op 57 (.mov (.r 0)), op 58 (.mov (.r 3)), op 59 (.sll 1 (.r 57) none (some (.r 58)) none), op 2 (.mov (.r 59))]) <|
          .ret)
          (.skip))) <|
      .ops [op 14 (.mov (.r 3)), op 15 (.bin .add (.r 14) (.c (.int .i64 1))), op 3 (.mov (.r 15))]))) <|
  sq (.ops [op 60 (.mov (.r 0)), op 2 (.mov (.r 60))]) <|
  .ret⟩
def an62 : An := ⟨[], []⟩
def ir62 : Go.Rmp.Fn := ⟨16, 1, [.t 2],
  sq (.ops [op 2 (.mov (.c (.bool false)))]) <|
  sq (.ops [op 3 (.mov (.r 0)), op 4 (.len .sl (.r 3)), op 5 (.bin .geq (.r 4) (.c (.int .i64 1))), op 6 (.mov (.r 5)), ⟨(some 7), .b (.mov (.r 0)), (some (6, true)), []⟩, ⟨(some 8), .b (.len .sl (.r 7)), (some (6, true)), []⟩, ⟨(some 9), .b (.bin .leq (.r 8) (.c (.int .i64 64))), (some (6, true)), []⟩, op 10 (.pick (.r 6) (.r 9) (.c (.bool false))), op 11 (.mov (.r 10)), ⟨(some 12), .b (.mov (.r 0)), (some (11, true)), []⟩, ⟨(some 13), .call 108 [(.r 12), (.c .nilp)], (some (11, true)), []⟩, ⟨(some 14), .b (.un .not (.r 13)), (some (11, true)), []⟩, op 15 (.pick (.r 11) (.r 14) (.c (.bool false))), op 2 (.mov (.r 15))]) <|
  .ret⟩
def an63 : An := ⟨[], []⟩
def ir63 : Go.Rmp.Fn := ⟨15, 1, [.t 2],
  sq (.ops [op 1 (.box (.r 0)), op 2 (.mov (.c (.bool false)))]) <|
  sq (.ops [op 6 (.fad 0 (.r 1)), op 7 (.ld 1 false (.r 6)), op 8 (.fad 1 (.r 1)), op 9 (.ld 1 false (.r 8)), cl 10 44 [(.r 7), (.r 9)], op 5 (.mov (.r 10)), op 11 (.ext 0 (.r 5)), op 12 (.ext 1 (.r 5)), op 3 (.mov (.r 11)), op 4 (.mov (.r 12))]) <|
  sq (.ops [op 13 (.mov (.r 4)), op 14 (.bin .eql (.r 13) (.c (.int .i64 0))), op 2 (.mov (.r 14))]) <|
  .ret⟩
def an64 : An := ⟨[], []⟩
def ir64 : Go.Rmp.Fn := ⟨27, 1, [.t 2],
  sq (.ops [op 2 (.mov (.c (.bool false)))]) <|
  sq (sq (.ops [op 5 (.mov (.r 0)), op 6 (.len .sl (.r 5)), op 7 (.bin .lss (.r 6) (.c (.int .i64 1))), op 8 (.mov (.r 7)), ⟨(some 9), .b (.mov (.r 0)), (some (8, false)), []⟩, ⟨(some 10), .b (.len .sl (.r 9)), (some (8, false)), []⟩, ⟨(some 11), .b (.bin .gtr (.r 10) (.c (.int .i64 1024))), (some (8, false)), []⟩, op 12 (.pick (.r 8) (.c (.bool true)) (.r 11))]) <|
  .cond (.r 12)
    (sq (.ops [op 2 (.mov (.c (.bool false)))]) <|
    .ret)
    (.skip)) <|
  sq (sq (.ops [op 13 (.mov (.r 0)), op 14 (.len .sl (.r 13)), op 15 (.mov (.c (.int .i64 0)))]) <|
  .block 0 (
    .loop (
      sq (.ops [op 16 (.bin .lss (.r 15) (.r 14))]) <|
      sq (.cond (.r 16)
        (.skip)
        (.exit 0)) <|
      sq (.block 1 (
        sq (.ops [op 17 (.iad 1 (.r 13) (.r 15)), op 18 (.ld 1 false (.r 17)), op 4 (.mov (.r 18))]) <|
        sq (.ops [op 19 (.mov (.r 4)), op 20 (.len .str (.r 19)), op 21 (.bin .gtr (.r 20) (.c (.int .i64 65535)))]) <|
        .cond (.r 21)
          (sq (.ops [op 2 (.mov (.c (.bool false)))]) <|
          .ret)
          (.skip))) <|
      .ops [op 22 (.bin .add (.r 15) (.c (.int .i64 1))), op 15 (.mov (.r 22))]))) <|
  sq (.ops [op 23 (.mov (.r 0)), cl 24 111 [(.r 23)], cl 25 110 [(.r 24)], cl 26 109 [(.r 25)], op 2 (.mov (.r 26))]) <|
  .ret⟩
def an65 : An := ⟨[], []⟩
def ir65 : Go.Rmp.Fn := ⟨18, 2, [.t 4],
  sq (.ops [op 4 (.mov (.c .nilp))]) <|
  sq (.ops [op 8 (.mov (.r 1)), op 9 (.mov (.r 0)), op 10 (.len .sl (.r 9)), cl 11 25 [(.r 8), (.r 10)], op 7 (.mov (.r 11)), op 12 (.ext 0 (.r 7)), op 13 (.ext 1 (.r 7)), op 5 (.mov (.r 12)), op 6 (.mov (.r 13))]) <|
  sq (.ops [op 14 (.mov (.r 0)), op 15 (.mov (.r 5)), op 16 (.iad 1 (.r 14) (.r 15)), op 17 (.ld 1 false (.r 16)), op 4 (.mov (.r 17))]) <|
  .ret⟩
def an66 : An := ⟨[], []⟩
def ir66 : Go.Rmp.Fn := ⟨25, 2, [.cl 4 4 true],
  sq (.ops [op 4 (.alloc [.str ⟨#[]⟩, .int .u64 0, .str ⟨#[]⟩, .sl .nil []])]) <|
  sq (.ops [op 8 (.mov (.r 0)), op 9 (.nilc (.r 8)), op 10 (.fad 3 (.r 9)), op 11 (.ld 1 false (.r 10)), op 12 (.mov (.r 1)), op 13 (.lkp (.sc .str) (.int .u64 0) true (.r 11) (.r 12)), op 7 (.mov (.r 13)), op 14 (.ext 0 (.r 7)), op 15 (.ext 1 (.r 7)), op 5 (.mov (.r 14)), op 6 (.mov (.r 15))]) <|
  sq (sq (.ops [op 16 (.mov (.r 6)), op 17 (.un .not (.r 16))]) <|
  .cond (.r 17)
    (sq (.ops [op 18 (.mov (.r 1)), op 19 (.build [.str ⟨#[]⟩, .int .u64 0, .str ⟨#[]⟩, .sl .nil []] [(0, 1, (.r 18))]), ef (.st 4 (.r 4) (.r 19))]) <|
    .ret)
    (.skip)) <|
  sq (.ops [op 20 (.mov (.r 0)), op 21 (.mov (.r 1)), op 22 (.mov (.r 5)), op 23 (.build [.str ⟨#[]⟩, .int .u64 0] [(0, 1, (.r 21)), (1, 1, (.r 22))]), cl 24 91 [(.r 20), (.r 23)], ef (.st 4 (.r 4) (.r 24))]) <|
  .ret⟩
def an67 : An := ⟨[], []⟩
def ir67 : Go.Rmp.Fn := ⟨8, 1, [.t 2],
  sq (.ops [op 2 (.mov (.c (.sl .nil [])))]) <|
  sq (sq (.ops [op 3 (.mov (.r 0)), op 4 (.eqr false .slice (.r 3) (.c (.sl .nil [])))]) <|
  .cond (.r 4)
    (sq (.ops [op 2 (.mov (.c (.sl .nil [])))]) <|
    .ret)
    (.skip)) <|
  sq (.ops [op 5 (.bsl 0 [.int .u8 0] []), op 6 (.mov (.r 0)), op 7 (.app 1 1 false (.r 5) (.r 6)), op 2 (.mov (.r 7))]) <|
  .ret⟩
def an68 : An := ⟨[], []⟩
def ir68 : Go.Rmp.Fn := ⟨40, 3, [.cl 6 4 true, .t 7],
  sq (.ops [op 6 (.alloc [.str ⟨#[]⟩, .int .u64 0, .str ⟨#[]⟩, .sl .nil []]), op 7 (.mov (.c (.int .i64 0)))]) <|
  sq (sq (.ops [op 13 (.mov (.r 0)), op 14 (.eqr false .ptr (.r 13) (.c .nilp))]) <|
  .cond (.r 14)
    (sq (.ops [op 15 (.build [.str ⟨#[]⟩, .int .u64 0, .str ⟨#[]⟩, .sl .nil []] []), ef (.st 4 (.r 6) (.r 15)), op 7 (.mov (.c (.int .i64 1)))]) <|
    .ret)
    (.skip)) <|
  sq (.ops [op 16 (.mov (.r 1)), op 17 (.build [.str ⟨#[]⟩, .int .u64 0, .str ⟨#[]⟩, .sl .nil []] [(0, 1, (.r 16))]), op 8 (.alloc [.str ⟨#[]⟩, .int .u64 0, .str ⟨#[]⟩, .sl .nil []]), ef (.st 4 (.r 8) (.r 17))]) <|
  sq (sq (.ops [op 18 (.mov (.r 2)), op 19 (.len .sl (.r 18)), op 20 (.mov (.c (.int .i64 0)))]) <|
  .block 0 (
    .loop (
      sq (.ops [op 21 (.bin .lss (.r 20) (.r 19))]) <|
      sq (.cond (.r 21)
        (.skip)
        (.exit 0)) <|
      sq (.block 1 (
        sq (.ops [op 22 (.iad 1 (.r 18) (.r 20)), op 23 (.ld 1 false (.r 22)), op 10 (.mov (.r 23))]) <|
        sq (sq (.ops [op 24 (.mov (.r 10)), op 25 (.fad 1 (.r 8)), op 26 (.ld 1 false (.r 25)), op 27 (.bin .leq (.r 24) (.r 26))]) <|
        .cond (.r 27)
          (.exit 1)
          (.skip)) <|
        sq (.ops [op 29 (.mov (.r 0)), op 30 (.mov (.r 1)), op 31 (.mov (.r 10)), cl 32 80 [(.r 29), (.r 30), (.r 31)], op 28 (.mov (.r 32)), op 33 (.ext 0 (.r 28)), op 34 (.ext 1 (.r 28)), op 11 (.alloc [.str ⟨#[]⟩, .int .u64 0, .str ⟨#[]⟩, .sl .nil []]), ef (.st 4 (.r 11) (.r 33)), op 12 (.mov (.r 34))]) <|
        sq (.ops [op 35 (.mov (.r 12)), op 36 (.bin .eql (.r 35) (.c (.int .i64 0)))]) <|
        .cond (.r 36)
          (.ops [op 37 (.ld 4 true (.r 11)), ef (.st 4 (.r 8) (.r 37))])
          (.skip))) <|
      .ops [op 38 (.bin .add (.r 20) (.c (.int .i64 1))), op 20 (.mov (.r 38))]))) <|
  sq (.ops [op 39 (.ld 4 true (.r 8)), ef (.st 4 (.r 6) (.r 39)), op 7 (.mov (.c (.int .i64 0)))]) <|
  .ret⟩
def an69 : An := ⟨[], []⟩
def ir69 : Go.Rmp.Fn := ⟨9, 1, [.t 2],
  sq (.ops [op 2 (.mov (.c (.bool false)))]) <|
  sq (.ops [op 3 (.mov (.r 0)), op 4 (.bin .geq (.r 3) (.c (.int .i64 1))), op 5 (.mov (.r 4)), ⟨(some 6), .b (.mov (.r 0)), (some (5, true)), []⟩, ⟨(some 7), .b (.bin .leq (.r 6) (.c (.int .i64 64))), (some (5, true)), []⟩, op 8 (.pick (.r 5) (.r 7) (.c (.bool false))), op 2 (.mov (.r 8))]) <|
  .ret⟩
def an70 : An := ⟨[], []⟩
def ir70 : Go.Rmp.Fn := ⟨11, 2, [.t 4],
  sq (.ops [op 4 (.mov (.c (.int .i64 0)))]) <|
  sq (.ops [op 5 (.mov (.r 0)), cl 6 112 [(.r 5)], op 7 (.mov (.r 1)), op 8 (.cvi .u64 (.r 7)), op 9 (.bin .rem (.r 6) (.r 8)), op 10 (.cvi .i64 (.r 9)), op 4 (.mov (.r 10))]) <|
  .ret⟩
def an80 : An := ⟨[], [(2, [(0, true), (1, true), (2, true), (3, true), (4, true), (5, true), (6, true), (7, true), (8, true), (9, true), (10, false), (11, true)])]⟩
def ir80 : Go.Rmp.Fn := ⟨29, 3, [.cl 6 4 true, .t 7],
  sq (.ops [op 6 (.alloc [.str ⟨#[]⟩, .int .u64 0, .str ⟨#[]⟩, .sl .nil []]), op 7 (.mov (.c (.int .i64 0)))]) <|
  sq (.ops [op 11 (.mov (.r 1)), op 12 (.mov (.r 2)), op 13 (.build [.str ⟨#[]⟩, .int .u64 0] [(0, 1, (.r 11)), (1, 1, (.r 12))]), op 8 (.alloc [.str ⟨#[]⟩, .int .u64 0]), ef (.st 2 (.r 8) (.r 13))]) <|
  sq (sq (.ops [op 15 (.mov (.r 0)), op 16 (.nilc (.r 15)), op 17 (.fad 0 (.r 16)), op 18 (.ld 1 false (.r 17)), op 19 (.ld 2 true (.r 8)), op 20 (.lkp (.st [.str, .int]) (.agg [.str ⟨#[]⟩, .sl .nil [], .int .i64 0]) true (.r 18) (.r 19)), op 14 (.mov (.r 20)), op 21 (.ext 0 (.r 14)), op 22 (.ext 1 (.r 14)), op 9 (.alloc [.str ⟨#[]⟩, .sl .nil [], .int .i64 0]), ef (.st 3 (.r 9) (.r 21)), op 10 (.mov (.r 22))]) <|
  sq (.ops [op 23 (.mov (.r 10)), op 24 (.un .not (.r 23))]) <|
  .cond (.r 24)
    (sq (.ops [op 25 (.build [.str ⟨#[]⟩, .int .u64 0, .str ⟨#[]⟩, .sl .nil []] []), ef (.st 4 (.r 6) (.r 25)), op 7 (.mov (.c (.int .i64 110)))]) <|
    .ret)
    (.skip)) <|
  sq (.ops [op 26 (.mov (.r 0)), op 27 (.ld 2 true (.r 8)), cl 28 91 [(.r 26), (.r 27)], ef (.st 4 (.r 6) (.r 28)), op 7 (.mov (.c (.int .i64 0)))]) <|
  .ret⟩
def an82 : An := ⟨[], []⟩
def ir82 : Go.Rmp.Fn := ⟨8, 1, [.t 2],
  sq (.ops [op 2 (.mov (.c (.sl .nil [])))]) <|
  sq (sq (.ops [op 3 (.mov (.r 0)), op 4 (.eqr false .slice (.r 3) (.c (.sl .nil [])))]) <|
  .cond (.r 4)
    (sq (.ops [op 2 (.mov (.c (.sl .nil [])))]) <|
    .ret)
    (.skip)) <|
  sq (.ops [op 5 (.bsl 0 [.str ⟨#[]⟩] []), op 6 (.mov (.r 0)), op 7 (.app 1 16 false (.r 5) (.r 6)), op 2 (.mov (.r 7))]) <|
  .ret⟩
def an91 : An := ⟨[], [(1, [(0, true), (1, true), (2, true), (3, true), (4, true), (5, true), (6, true), (7, false)]), (2, [(0, true), (1, true), (2, true), (3, true), (4, true), (5, true), (6, true), (7, true), (8, false), (9, true), (10, false)])]⟩
def ir91 : Go.Rmp.Fn := ⟨22, 2, [.cl 4 4 true],
  sq (.ops [op 3 (.box (.r 1)), op 4 (.alloc [.str ⟨#[]⟩, .int .u64 0, .str ⟨#[]⟩, .sl .nil []])]) <|
  sq (.ops [op 6 (.mov (.r 0)), op 7 (.nilc (.r 6)), op 8 (.fad 0 (.r 7)), op 9 (.ld 1 false (.r 8)), op 10 (.ld 2 true (.r 3)), op 11 (.lkp (.st [.str, .int]) (.agg [.str ⟨#[]⟩, .sl .nil [], .int .i64 0]) false (.r 9) (.r 10)), op 5 (.alloc [.str ⟨#[]⟩, .sl .nil [], .int .i64 0]), ef (.st 3 (.r 5) (.r 11))]) <|
  sq (.ops [op 12 (.fad 0 (.r 3)), op 13 (.ld 1 false (.r 12)), op 14 (.fad 1 (.r 3)), op 15 (.ld 1 false (.r 14)), op 16 (.fad 0 (.r 5)), op 17 (.ld 1 false (.r 16)), op 18 (.fad 1 (.r 5)), op 19 (.ld 1 false (.r 18)), ⟨(some 20), .call 82 [(.r 19)], none, [⟨13, .ld 1 false (.r 12), none⟩, ⟨15, .ld 1 false (.r 14), none⟩, ⟨17, .ld 1 false (.r 16), none⟩]⟩, op 21 (.build [.str ⟨#[]⟩, .int .u64 0, .str ⟨#[]⟩, .sl .nil []] [(0, 1, (.r 13)), (1, 1, (.r 15)), (2, 1, (.r 17)), (3, 1, (.r 20))]), ef (.st 4 (.r 4) (.r 21))]) <|
  .ret⟩
def an93 : An := ⟨[], [(6, [(0, true), (1, true), (2, true), (3, true), (4, true), (5, true), (6, true), (7, true), (8, true), (9, true), (10, true), (11, true), (12, true), (13, true), (14, true), (15, true), (16, true), (17, false), (18, true), (19, true), (20, true), (21, true), (22, true), (23, true), (24, true), (25, true)])]⟩
def ir93 : Go.Rmp.Fn := ⟨55, 3, [.t 6],
  sq (.ops [op 6 (.mov (.c (.bool false)))]) <|
  sq (sq (.ops [op 9 (.mov (.r 0)), op 10 (.bin .lss (.r 9) (.c (.int .u64 65536))), op 11 (.mov (.r 10)), ⟨(some 12), .b (.mov (.r 2)), (some (11, false)), []⟩, ⟨(some 13), .call 133 [(.r 12)], (some (11, false)), []⟩, ⟨(some 14), .b (.un .not (.r 13)), (some (11, false)), []⟩, op 15 (.pick (.r 11) (.c (.bool true)) (.r 14)), op 16 (.mov (.r 15)), ⟨(some 17), .b (.mov (.r 1)), (some (16, false)), []⟩, ⟨(some 18), .b (.len .sl (.r 17)), (some (16, false)), []⟩, ⟨(some 19), .b (.bin .lss (.r 18) (.c (.int .i64 1))), (some (16, false)), []⟩, op 20 (.pick (.r 16) (.c (.bool true)) (.r 19))]) <|
  .cond (.r 20)
    (sq (.ops [op 6 (.mov (.c (.bool false)))]) <|
    .ret)
    (.skip)) <|
  sq (sq (.ops [op 21 (.mov (.r 1)), op 22 (.len .sl (.r 21)), op 23 (.mov (.c (.int .i64 0)))]) <|
  .block 0 (
    .loop (
      sq (.ops [op 24 (.bin .lss (.r 23) (.r 22))]) <|
      sq (.cond (.r 24)
        (.skip)
        (.exit 0)) <|
      sq (.block 1 (
        sq (.ops [op 25 (.mov (.r 23)), op 26 (.iad 2 (.r 21) (.r 23)), op 27 (.ld 2 true (.r 26)), op 8 (.alloc [.str ⟨#[]⟩, .str ⟨#[]⟩]), op 7 (.mov (.r 25)), ef (.st 2 (.r 8) (.r 27))]) <|
        sq (.ops [op 28 (.mov (.r 7)), op 29 (.bin .gtr (.r 28) (.c (.int .i64 0))), op 30 (.mov (.r 29)), ⟨(some 31), .b (.fad 0 (.r 8)), (some (30, true)), []⟩, ⟨(some 32), .b (.ld 1 false (.r 31)), (some (30, true)), []⟩, ⟨(some 33), .b (.mov (.r 1)), (some (30, true)), []⟩, ⟨(some 34), .b (.mov (.r 7)), (some (30, true)), []⟩, ⟨(some 35), .b (.bin .sub (.r 34) (.c (.int .i64 1))), (some (30, true)), []⟩, ⟨(some 36), .b (.iad 2 (.r 33) (.r 35)), (some (30, true)), []⟩, ⟨(some 37), .b (.fad 0 (.r 36)), (some (30, true)), []⟩, ⟨(some 38), .b (.ld 1 false (.r 37)), (some (30, true)), []⟩, ⟨(some 39), .b (.bin .leq (.r 32) (.r 38)), (some (30, true)), []⟩, op 40 (.pick (.r 30) (.r 39) (.c (.bool false))), op 41 (.mov (.r 40)), ⟨(some 42), .b (.mov (.r 2)), (some (41, false)), []⟩, ⟨(some 43), .b (.fad 0 (.r 8)), (some (41, false)), []⟩, ⟨(some 44), .b (.ld 1 false (.r 43)), (some (41, false)), []⟩, ⟨(some 45), .call 134 [(.r 42), (.r 44)], (some (41, false)), []⟩, ⟨(some 46), .b (.un .not (.r 45)), (some (41, false)), []⟩, op 47 (.pick (.r 41) (.c (.bool true)) (.r 46)), op 48 (.mov (.r 47)), ⟨(some 49), .b (.fad 1 (.r 8)), (some (48, false)), []⟩, ⟨(some 50), .b (.ld 1 false (.r 49)), (some (48, false)), []⟩, ⟨(some 51), .b (.len .str (.r 50)), (some (48, false)), []⟩, ⟨(some 52), .b (.bin .gtr (.r 51) (.c (.int .i64 65535))), (some (48, false)), []⟩, op 53 (.pick (.r 48) (.c (.bool true)) (.r 52))]) <|
        .cond (.r 53)
          (sq (.ops [op 6 (.mov (.c (.bool false)))]) <|
          .ret)
          (.skip))) <|
      .ops [op 54 (.bin .add (.r 23) (.c (.int .i64 1))), op 23 (.mov (.r 54))]))) <|
  sq (.ops [op 6 (.mov (.c (.bool true)))]) <|
  .ret⟩
def an94 : An := ⟨[], []⟩
def ir94 : Go.Rmp.Fn := ⟨9, 1, [.t 2],
  sq (.ops [op 2 (.mov (.c (.bool false)))]) <|
  sq (.ops [op 3 (.mov (.r 0)), op 4 (.bin .geq (.r 3) (.c (.int .i64 0))), op 5 (.mov (.r 4)), ⟨(some 6), .b (.mov (.r 0)), (some (5, true)), []⟩, ⟨(some 7), .b (.bin .leq (.r 6) (.c (.int .i64 1099511627776))), (some (5, true)), []⟩, op 8 (.pick (.r 5) (.r 7) (.c (.bool false))), op 2 (.mov (.r 8))]) <|
  .ret⟩
def an95 : An := ⟨[(3, 16), (4, 16)], [(1, [(0, true), (1, true), (2, true), (3, true), (4, true), (5, true), (6, false)]), (2, [(0, true), (1, true), (2, true), (3, true), (4, true), (5, true), (6, true), (7, true), (8, true), (9, false), (10, true), (11, true), (12, true), (13, true), (14, true)]), (3, [(0, true), (1, true), (2, true), (3, true), (4, true), (5, true), (6, true), (7, true), (8, true), (9, true), (10, true), (11, true), (12, true), (13, true), (14, true), (15, true), (16, false), (17, false), (18, false)]), (4, [(0, true), (1, true), (2, true), (3, true), (4, true), (5, true), (6, true), (7, true), (8, true), (9, true), (10, true), (11, true), (12, true), (13, true), (14, true), (15, true), (16, false), (17, false)])]⟩
def ir95 : Go.Rmp.Fn := ⟨62, 3, [],
  sq (.ops [op 4 (.box (.r 1)), op 5 (.box (.r 2))]) <|
  sq (.ops [op 8 (.mov (.r 0)), op 9 (.nilc (.r 8)), op 10 (.fad 0 (.r 9)), op 11 (.ld 1 false (.r 10)), op 12 (.ld 2 true (.r 4)), op 13 (.ld 3 true (.r 5)), ef (.upm (.st [.str, .int]) (.r 11) (.r 12) (.r 13))]) <|
  sq (.ops [op 15 (.mov (.r 0)), op 16 (.nilc (.r 15)), op 17 (.fad 1 (.r 16)), op 18 (.ld 1 false (.r 17)), op 19 (.fad 0 (.r 4)), op 20 (.ld 1 false (.r 19)), op 21 (.lkp (.sc .str) (.sl .nil []) false (.r 18) (.r 20)), op 22 (.fad 1 (.r 4)), op 23 (.ld 1 false (.r 22)), cl 24 135 [(.r 21), (.r 23)], op 14 (.mov (.r 24)), op 25 (.ext 0 (.r 14)), op 26 (.ext 1 (.r 14)), op 6 (.mov (.r 25)), op 7 (.mov (.r 26))]) <|
  sq (.ops [op 27 (.mov (.r 0)), op 28 (.nilc (.r 27)), op 29 (.fad 1 (.r 28)), op 30 (.ld 1 false (.r 29)), op 31 (.fad 0 (.r 4)), op 32 (.ld 1 false (.r 31)), op 33 (.mov (.r 0)), op 34 (.nilc (.r 33)), op 35 (.fad 1 (.r 34)), op 36 (.ld 1 false (.r 35)), op 37 (.fad 0 (.r 4)), op 38 (.ld 1 false (.r 37)), op 39 (.lkp (.sc .str) (.sl .nil []) false (.r 36) (.r 38)), op 40 (.mov (.r 6)), op 41 (.fad 1 (.r 4)), op 42 (.ld 1 false (.r 41)), ⟨(some 43), .b (.bsm 1 [.int .u64 0] [(0, (.r 42))]), none, [⟨30, .ld 1 false (.r 29), none⟩, ⟨32, .ld 1 false (.r 31), none⟩, ⟨36, .ld 1 false (.r 35), none⟩, ⟨38, .ld 1 false (.r 37), none⟩, ⟨39, .lkp (.sc .str) (.sl .nil []) false (.r 36) (.r 38), none⟩]⟩, ⟨(some 44), .call 136 [(.r 39), (.r 40), (.r 43)], none, [⟨30, .ld 1 false (.r 29), none⟩, ⟨32, .ld 1 false (.r 31), none⟩]⟩, ef (.upm (.sc .str) (.r 30) (.r 32) (.r 44))]) <|
  .ops [op 45 (.mov (.r 0)), op 46 (.nilc (.r 45)), op 47 (.fad 2 (.r 46)), op 48 (.ld 1 false (.r 47)), op 49 (.fad 1 (.r 4)), op 50 (.ld 1 false (.r 49)), op 51 (.mov (.r 0)), op 52 (.nilc (.r 51)), op 53 (.fad 2 (.r 52)), op 54 (.ld 1 false (.r 53)), op 55 (.fad 1 (.r 4)), op 56 (.ld 1 false (.r 55)), op 57 (.lkp (.sc .int) (.sl .nil []) false (.r 54) (.r 56)), op 58 (.fad 0 (.r 4)), op 59 (.ld 1 false (.r 58)), op 60 (.bsl 1 [.str ⟨#[]⟩] [(0, (.r 59))]), ⟨(some 61), .b (.app 1 16 true (.r 57) (.r 60)), none, [⟨48, .ld 1 false (.r 47), none⟩, ⟨50, .ld 1 false (.r 49), none⟩]⟩, ef (.upm (.sc .int) (.r 48) (.r 50) (.r 61))]⟩
def an96 : An := ⟨[], []⟩
def ir96 : Go.Rmp.Fn := ⟨21, 1, [.t 2],
  sq (.ops [op 1 (.box (.r 0)), op 2 (.mov (.c (.bool false)))]) <|
  sq (.ops [op 3 (.fad 0 (.r 1)), op 4 (.ld 1 false (.r 3)), op 5 (.bin .geq (.r 4) (.c (.int .i64 1))), op 6 (.mov (.r 5)), ⟨(some 7), .b (.fad 0 (.r 1)), (some (6, true)), []⟩, ⟨(some 8), .b (.ld 1 false (.r 7)), (some (6, true)), []⟩, ⟨(some 9), .b (.bin .leq (.r 8) (.c (.int .i64 65536))), (some (6, true)), []⟩, op 10 (.pick (.r 6) (.r 9) (.c (.bool false))), op 11 (.mov (.r 10)), ⟨(some 12), .b (.fad 1 (.r 1)), (some (11, true)), []⟩, ⟨(some 13), .b (.ld 1 false (.r 12)), (some (11, true)), []⟩, ⟨(some 14), .b (.bin .geq (.r 13) (.c (.int .i64 1))), (some (11, true)), []⟩, op 15 (.pick (.r 11) (.r 14) (.c (.bool false))), op 16 (.mov (.r 15)), ⟨(some 17), .b (.fad 1 (.r 1)), (some (16, true)), []⟩, ⟨(some 18), .b (.ld 1 false (.r 17)), (some (16, true)), []⟩, ⟨(some 19), .b (.bin .leq (.r 18) (.c (.int .i64 16))), (some (16, true)), []⟩, op 20 (.pick (.r 16) (.r 19) (.c (.bool false))), op 2 (.mov (.r 20))]) <|
  .ret⟩
def an97 : An := ⟨[], []⟩
def ir97 : Go.Rmp.Fn := ⟨7, 1, [.t 2],
  sq (.ops [op 1 (.box (.r 0)), op 2 (.mov (.c (.int .i64 0)))]) <|
  sq (.ops [op 3 (.fad 0 (.r 1)), op 4 (.ld 1 false (.r 3)), op 5 (.bin .add (.r 4) (.c (.int .i64 7))), op 6 (.bin .quo (.r 5) (.c (.int .i64 8))), op 2 (.mov (.r 6))]) <|
  .ret⟩
def an98 : An := ⟨[], []⟩
def ir98 : Go.Rmp.Fn := ⟨19, 2, [.t 4],
  sq (.ops [op 4 (.mov (.c (.int .i64 0)))]) <|
  sq (sq (.ops [op 6 (.mov (.r 0)), op 7 (.len .sl (.r 6)), op 8 (.mov (.c (.int .i64 0)))]) <|
  .block 0 (
    .loop (
      sq (.ops [op 9 (.bin .lss (.r 8) (.r 7))]) <|
      sq (.cond (.r 9)
        (.skip)
        (.exit 0)) <|
      sq (.block 1 (
        sq (.ops [op 10 (.mov (.r 8)), op 5 (.mov (.r 10))]) <|
        sq (.ops [op 11 (.mov (.r 1)), op 12 (.mov (.r 0)), op 13 (.mov (.r 5)), op 14 (.iad 1 (.r 12) (.r 13)), op 15 (.ld 1 false (.r 14)), op 16 (.bin .eql (.r 11) (.r 15))]) <|
        .cond (.r 16)
          (sq (.ops [op 17 (.mov (.r 5)), op 4 (.mov (.r 17))]) <|
          .ret)
          (.skip))) <|
      .ops [op 18 (.bin .add (.r 8) (.c (.int .i64 1))), op 8 (.mov (.r 18))]))) <|
  sq (.ops [op 4 (.mov (.c (.int .i64 (-1))))]) <|
  .ret⟩
def an99 : An := ⟨[], []⟩
def ir99 : Go.Rmp.Fn := ⟨33, 2, [.t 4],
  sq (.ops [op 2 (.box (.r 0)), op 4 (.mov (.c (.sl .nil [])))]) <|
  sq (.ops [op 9 (.mov (.r 1)), cl 10 112 [(.r 9)], op 5 (.mov (.r 10))]) <|
  sq (.ops [op 11 (.mov (.r 5)), op 12 (.bin .shr (.r 11) (.c (.int .u64 32))), op 13 (.mov (.r 5)), op 14 (.bin .and (.r 13) (.c (.int .u64 4294967295))), op 6 (.mov (.r 12)), op 7 (.mov (.r 14))]) <|
  sq (.ops [op 8 (.mov (.c (.sl .nil [])))]) <|
  sq (sq (.ops [op 15 (.fad 1 (.r 2)), op 16 (.ld 1 false (.r 15)), op 17 (.mov (.c (.int .i64 0)))]) <|
  .block 0 (
    .loop (
      sq (.ops [op 18 (.bin .lss (.r 17) (.r 16))]) <|
      sq (.cond (.r 18)
        (.skip)
        (.exit 0)) <|
      sq (.block 1 (
        sq (.ops [op 19 (.mov (.r 8)), op 20 (.mov (.r 6)), op 21 (.fad 0 (.r 2)), op 22 (.ld 1 false (.r 21)), op 23 (.cvi .u64 (.r 22)), op 24 (.bin .rem (.r 20) (.r 23)), op 25 (.cvi .i64 (.r 24)), op 26 (.bsl 1 [.int .i64 0] [(0, (.r 25))]), op 27 (.app 1 8 false (.r 19) (.r 26)), op 8 (.mov (.r 27))]) <|
        .ops [op 28 (.mov (.r 6)), op 29 (.mov (.r 7)), op 30 (.bin .add (.r 28) (.r 29)), op 6 (.mov (.r 30))])) <|
      .ops [op 31 (.bin .add (.r 17) (.c (.int .i64 1))), op 17 (.mov (.r 31))]))) <|
  sq (.ops [op 32 (.mov (.r 8)), op 4 (.mov (.r 32))]) <|
  .ret⟩
def an103 : An := ⟨[], [(2, [(0, true), (1, true), (2, true), (3, true), (4, true), (5, true), (6, true), (7, true), (8, true), (9, true), (10, true)])]⟩
def ir103 : Go.Rmp.Fn := ⟨39, 1, [.t 2, .t 3],
  sq (.ops [op 1 (.box (.r 0)), op 2 (.mov (.c .nilp)), op 3 (.mov (.c (.bool false)))]) <|
  sq (sq (.ops [op 6 (.fad 1 (.r 1)), op 7 (.ld 1 false (.r 6)), op 8 (.bin .eql (.r 7) (.c (.int .u64 0)))]) <|
  .cond (.r 8)
    (sq (.ops [op 9 (.fad 2 (.r 1)), op 10 (.ld 1 false (.r 9)), op 11 (.bin .eql (.r 10) (.c (.str ⟨#[]⟩))), op 12 (.mov (.r 11)), ⟨(some 13), .b (.fad 3 (.r 1)), (some (12, true)), []⟩, ⟨(some 14), .b (.ld 1 false (.r 13)), (some (12, true)), []⟩, ⟨(some 15), .b (.len .sl (.r 14)), (some (12, true)), []⟩, ⟨(some 16), .b (.bin .eql (.r 15) (.c (.int .i64 0))), (some (12, true)), []⟩, op 17 (.pick (.r 12) (.r 16) (.c (.bool false))), op 2 (.mov (.c .nilp)), op 3 (.mov (.r 17))]) <|
    .ret)
    (.skip)) <|
  sq (.ops [op 19 (.fad 3 (.r 1)), op 20 (.ld 1 false (.r 19)), cl 21 137 [(.r 20)], op 18 (.mov (.r 21)), op 22 (.ext 0 (.r 18)), op 23 (.ext 1 (.r 18)), op 4 (.mov (.r 22)), op 5 (.mov (.r 23))]) <|
  sq (sq (.ops [op 24 (.fad 1 (.r 1)), op 25 (.ld 1 false (.r 24)), op 26 (.bin .lss (.r 25) (.c (.int .u64 65536))), op 27 (.mov (.r 26)), ⟨(some 28), .b (.mov (.r 5)), (some (27, false)), []⟩, ⟨(some 29), .b (.bin .neq (.r 28) (.c (.int .i64 0))), (some (27, false)), []⟩, op 30 (.pick (.r 27) (.c (.bool true)) (.r 29)), op 31 (.mov (.r 30)), ⟨(some 32), .b (.mov (.r 4)), (some (31, false)), []⟩, ⟨(some 33), .b (.fad 0 (.r 1)), (some (31, false)), []⟩, ⟨(some 34), .b (.ld 1 false (.r 33)), (some (31, false)), []⟩, ⟨(some 35), .call 55 [(.r 32), (.r 34)], (some (31, false)), []⟩, ⟨(some 36), .b (.un .not (.r 35)), (some (31, false)), []⟩, op 37 (.pick (.r 31) (.c (.bool true)) (.r 36))]) <|
  .cond (.r 37)
    (sq (.ops [op 2 (.mov (.c .nilp)), op 3 (.mov (.c (.bool false)))]) <|
    .ret)
    (.skip)) <|
  sq (.ops [op 38 (.mov (.r 4)), op 2 (.mov (.r 38)), op 3 (.mov (.c (.bool true)))]) <|
  .ret⟩
def an104 : An := ⟨[], []⟩
def ir104 : Go.Rmp.Fn := ⟨9, 2, [.t 4],
  sq (.ops [op 4 (.mov (.c (.bool false)))]) <|
  sq (.ops [op 5 (.mov (.r 0)), op 6 (.mov (.r 1)), cl 7 138 [(.r 5), (.r 6)], op 8 (.bin .geq (.r 7) (.c (.int .i64 0))), op 4 (.mov (.r 8))]) <|
  .ret⟩
def an105 : An := ⟨[], []⟩
def ir105 : Go.Rmp.Fn := ⟨17, 2, [.t 3],
  sq (.ops [op 3 (.mov (.c (.bool false)))]) <|
  sq (.ops [op 4 (.ld 1 false (.r 1)), op 5 (.nilc (.r 4)), op 6 (.fad 2 (.r 5)), op 7 (.ld 1 false (.r 6)), op 8 (.mov (.r 0)), op 9 (.bin .quo (.r 8) (.c (.int .i64 8))), op 10 (.iad 1 (.r 7) (.r 9)), op 11 (.ld 1 false (.r 10)), op 12 (.mov (.r 0)), op 13 (.bin .rem (.r 12) (.c (.int .i64 8))), op 14 (.bin .shr (.r 11) (.r 13)), op 15 (.bin .and (.r 14) (.c (.int .u8 1))), op 16 (.bin .eql (.r 15) (.c (.int .u8 0))), op 3 (.mov (.r 16))]) <|
  .ret⟩
def an106 : An := ⟨[], [(17, [(0, true), (1, true), (2, true), (3, true), (4, true), (5, true), (6, true), (7, true), (8, true), (9, true), (10, true), (11, true), (12, false), (13, true), (14, true)])]⟩
def ir106 : Go.Rmp.Fn := ⟨134, 4, [],
  sq (.ops [op 8 (.mov (.c (.bool true)))]) <|
  sq (.ops [op 9 (.mov (.c (.bool true)))]) <|
  .block 0 (
    .loop (
      .block 1 (
        sq (.ops [op 19 (.mov (.r 2)), op 20 (.mov (.r 1)), op 21 (.bin .sub (.r 19) (.r 20)), op 10 (.mov (.r 21))]) <|
        sq (sq (.ops [op 22 (.mov (.r 10)), op 23 (.bin .leq (.r 22) (.c (.int .i64 12)))]) <|
        .cond (.r 23)
          (sq (.ops [op 24 (.mov (.r 0)), op 25 (.mov (.r 1)), op 26 (.mov (.r 2)), cl 27 139 [(.r 24), (.r 25), (.r 26)]]) <|
          .ret)
          (.skip)) <|
        sq (sq (.ops [op 28 (.mov (.r 3)), op 29 (.bin .eql (.r 28) (.c (.int .i64 0)))]) <|
        .cond (.r 29)
          (sq (.ops [op 30 (.mov (.r 0)), op 31 (.mov (.r 1)), op 32 (.mov (.r 2)), cl 33 140 [(.r 30), (.r 31), (.r 32)]]) <|
          .ret)
          (.skip)) <|
        sq (sq (.ops [op 34 (.mov (.r 8)), op 35 (.un .not (.r 34))]) <|
        .cond (.r 35)
          (sq (.ops [op 36 (.mov (.r 0)), op 37 (.mov (.r 1)), op 38 (.mov (.r 2)), cl 39 141 [(.r 36), (.r 37), (.r 38)]]) <|
          .ops [op 40 (.mov (.r 3)), op 41 (.bin .sub (.r 40) (.c (.int .i64 1))), op 3 (.mov (.r 41))])
          (.skip)) <|
        sq (.ops [op 43 (.mov (.r 0)), op 44 (.mov (.r 1)), op 45 (.mov (.r 2)), cl 46 142 [(.r 43), (.r 44), (.r 45)], op 42 (.mov (.r 46)), op 47 (.ext 0 (.r 42)), op 48 (.ext 1 (.r 42)), op 11 (.mov (.r 47)), op 12 (.mov (.r 48))]) <|
        sq (sq (.ops [op 49 (.mov (.r 12)), op 50 (.bin .eql (.r 49) (.c (.int .i64 2)))]) <|
        .cond (.r 50)
          (sq (.ops [op 51 (.mov (.r 0)), op 52 (.mov (.r 1)), op 53 (.mov (.r 2)), cl 54 143 [(.r 51), (.r 52), (.r 53)]]) <|
          sq (.ops [op 55 (.mov (.r 2)), op 56 (.bin .sub (.r 55) (.c (.int .i64 1))), op 57 (.mov (.r 11)), op 58 (.mov (.r 1)), op 59 (.bin .sub (.r 57) (.r 58)), op 60 (.bin .sub (.r 56) (.r 59)), op 11 (.mov (.r 60))]) <|
          .ops [op 12 (.mov (.c (.int .i64 1)))])
          (.skip)) <|
        sq (sq (.ops [op 61 (.mov (.r 8)), op 62 (.mov (.r 61)), ⟨(some 63), .b (.mov (.r 9)), (some (62, true)), []⟩, op 64 (.pick (.r 62) (.r 63) (.c (.bool false))), op 65 (.mov (.r 64)), ⟨(some 66), .b (.mov (.r 12)), (some (65, true)), []⟩, ⟨(some 67), .b (.bin .eql (.r 66) (.c (.int .i64 1))), (some (65, true)), []⟩, op 68 (.pick (.r 65) (.r 67) (.c (.bool false)))]) <|
        .cond (.r 68)
          (sq (.ops [op 69 (.mov (.r 0)), op 70 (.mov (.r 1)), op 71 (.mov (.r 2)), cl 72 144 [(.r 69), (.r 70), (.r 71)]]) <|
          .cond (.r 72)
            (.ret)
            (.skip))
          (.skip)) <|
        sq (sq (.ops [op 73 (.mov (.r 1)), op 74 (.bin .gtr (.r 73) (.c (.int .i64 0))), op 75 (.mov (.r 74)), ⟨(some 76), .b (.mov (.r 0)), (some (75, true)), []⟩, ⟨(some 77), .b (.mov (.r 1)), (some (75, true)), []⟩, ⟨(some 78), .b (.bin .sub (.r 77) (.c (.int .i64 1))), (some (75, true)), []⟩, ⟨(some 79), .b (.iad 1 (.r 76) (.r 78)), (some (75, true)), []⟩, ⟨(some 80), .b (.ld 1 false (.r 79)), (some (75, true)), []⟩, ⟨(some 81), .b (.mov (.r 0)), (some (75, true)), []⟩, ⟨(some 82), .b (.mov (.r 11)), (some (75, true)), []⟩, ⟨(some 83), .b (.iad 1 (.r 81) (.r 82)), (some (75, true)), []⟩, ⟨(some 84), .b (.ld 1 false (.r 83)), (some (75, true)), []⟩, ⟨(some 85), .call 145 [(.r 80), (.r 84)], (some (75, true)), []⟩, ⟨(some 86), .b (.un .not (.r 85)), (some (75, true)), []⟩, op 87 (.pick (.r 75) (.r 86) (.c (.bool false)))]) <|
        .cond (.r 87)
          (sq (.ops [op 88 (.mov (.r 0)), op 89 (.mov (.r 1)), op 90 (.mov (.r 2)), op 91 (.mov (.r 11)), cl 92 146 [(.r 88), (.r 89), (.r 90), (.r 91)], op 13 (.mov (.r 92))]) <|
          sq (.ops [op 93 (.mov (.r 13)), op 1 (.mov (.r 93))]) <|
          .exit 1)
          (.skip)) <|
        sq (.ops [op 95 (.mov (.r 0)), op 96 (.mov (.r 1)), op 97 (.mov (.r 2)), op 98 (.mov (.r 11)), cl 99 147 [(.r 95), (.r 96), (.r 97), (.r 98)], op 94 (.mov (.r 99)), op 100 (.ext 0 (.r 94)), op 101 (.ext 1 (.r 94)), op 14 (.mov (.r 100)), op 15 (.mov (.r 101))]) <|
        sq (.ops [op 102 (.mov (.r 15)), op 9 (.mov (.r 102))]) <|
        sq (.ops [op 103 (.mov (.r 14)), op 104 (.mov (.r 1)), op 105 (.bin .sub (.r 103) (.r 104)), op 106 (.mov (.r 2)), op 107 (.mov (.r 14)), op 108 (.bin .sub (.r 106) (.r 107)), op 16 (.mov (.r 105)), op 17 (.mov (.r 108))]) <|
        sq (.ops [op 109 (.mov (.r 10)), op 110 (.bin .quo (.r 109) (.c (.int .i64 8))), op 18 (.mov (.r 110))]) <|
        sq (.ops [op 111 (.mov (.r 16)), op 112 (.mov (.r 17)), op 113 (.bin .lss (.r 111) (.r 112))]) <|
        .cond (.r 113)
          (sq (.ops [op 114 (.mov (.r 16)), op 115 (.mov (.r 18)), op 116 (.bin .geq (.r 114) (.r 115)), op 8 (.mov (.r 116))]) <|
          sq (.ops [op 117 (.mov (.r 0)), op 118 (.mov (.r 1)), op 119 (.mov (.r 14)), op 120 (.mov (.r 3)), cl 121 106 [(.r 117), (.r 118), (.r 119), (.r 120)]]) <|
          .ops [op 122 (.mov (.r 14)), op 123 (.bin .add (.r 122) (.c (.int .i64 1))), op 1 (.mov (.r 123))])
          (sq (.ops [op 124 (.mov (.r 17)), op 125 (.mov (.r 18)), op 126 (.bin .geq (.r 124) (.r 125)), op 8 (.mov (.r 126))]) <|
          sq (.ops [op 127 (.mov (.r 0)), op 128 (.mov (.r 14)), op 129 (.bin .add (.r 128) (.c (.int .i64 1))), op 130 (.mov (.r 2)), op 131 (.mov (.r 3)), cl 132 106 [(.r 127), (.r 129), (.r 130), (.r 131)]]) <|
          .ops [op 133 (.mov (.r 14)), op 2 (.mov (.r 133))]))))⟩
def an107 : An := ⟨[], []⟩
def ir107 : Go.Rmp.Fn := ⟨8, 1, [.t 2],
  sq (.ops [op 2 (.mov (.c (.int .i64 0)))]) <|
  sq (.cond (.c (.bool false))
    (sq (.ops [op 3 (.mov (.r 0)), op 4 (.cvi .u32 (.r 3)), cl 5 148 [(.r 4)], op 2 (.mov (.r 5))]) <|
    .ret)
    (.skip)) <|
  sq (.ops [op 6 (.mov (.r 0)), cl 7 149 [(.r 6)], op 2 (.mov (.r 7))]) <|
  .ret⟩
def an108 : An := ⟨[], []⟩
def ir108 : Go.Rmp.Fn := ⟨9, 2, [.t 4],
  sq (.ops [op 4 (.mov (.c (.bool false)))]) <|
  sq (.ops [op 5 (.mov (.r 0)), op 6 (.mov (.r 1)), cl 7 150 [(.r 5), (.r 6)], op 8 (.bin .geq (.r 7) (.c (.int .i64 0))), op 4 (.mov (.r 8))]) <|
  .ret⟩
def an109 : An := ⟨[], [(4, [(0, true), (1, true), (2, true), (3, true), (4, true), (5, true), (6, true), (7, true), (8, true), (9, true)])]⟩
def ir109 : Go.Rmp.Fn := ⟨20, 1, [.t 2],
  sq (.ops [op 2 (.mov (.c (.bool false)))]) <|
  sq (sq (.ops [op 3 (.mov (.c (.int .i64 1)))]) <|
  .block 0 (
    .loop (
      sq (sq (.ops [op 4 (.mov (.r 3)), op 5 (.mov (.r 0)), op 6 (.len .sl (.r 5)), op 7 (.bin .lss (.r 4) (.r 6))]) <|
      .cond (.r 7)
        (.skip)
        (.exit 0)) <|
      sq (.block 1 (
        sq (.ops [op 10 (.mov (.r 0)), op 11 (.mov (.r 3)), op 12 (.bin .sub (.r 11) (.c (.int .i64 1))), op 13 (.iad 1 (.r 10) (.r 12)), op 14 (.ld 1 false (.r 13)), op 15 (.mov (.r 0)), op 16 (.mov (.r 3)), op 17 (.iad 1 (.r 15) (.r 16)), op 18 (.ld 1 false (.r 17)), op 19 (.bin .geq (.r 14) (.r 18))]) <|
        .cond (.r 19)
          (sq (.ops [op 2 (.mov (.c (.bool false)))]) <|
          .ret)
          (.skip))) <|
      .ops [op 8 (.mov (.r 3)), op 9 (.bin .add (.r 8) (.c (.int .i64 1))), op 3 (.mov (.r 9))]))) <|
  sq (.ops [op 2 (.mov (.c (.bool true)))]) <|
  .ret⟩
def an110 : An := ⟨[], []⟩
def ir110 : Go.Rmp.Fn := ⟨9, 1, [.t 2],
  sq (.ops [op 2 (.mov (.c (.sl .nil [])))]) <|
  sq (.ops [op 4 (.mov (.r 0)), cl 5 151 [(.r 4)], op 3 (.mov (.r 5))]) <|
  sq (.ops [op 6 (.mov (.r 3)), cl 7 152 [(.r 6)]]) <|
  sq (.ops [op 8 (.mov (.r 3)), op 2 (.mov (.r 8))]) <|
  .ret⟩
def an111 : An := ⟨[], []⟩
def ir111 : Go.Rmp.Fn := ⟨4, 1, [.t 2],
  sq (.ops [op 1 (.box (.r 0)), op 2 (.mov (.c .nilf))]) <|
  sq (.ops [op 3 (.mkf 153 [(.r 1)]), op 2 (.mov (.r 3))]) <|
  .ret⟩
def an112 : An := ⟨[], []⟩
def ir112 : Go.Rmp.Fn := ⟨6, 1, [.t 2],
  sq (.ops [op 2 (.mov (.c (.int .u64 0)))]) <|
  sq (.ops [cl 3 155 [], op 4 (.mov (.r 0)), cl 5 154 [(.r 3), (.r 4)], op 2 (.mov (.r 5))]) <|
  .ret⟩
def an133 : An := ⟨[], []⟩
def ir133 : Go.Rmp.Fn := ⟨37, 1, [.t 2],
  sq (.ops [op 2 (.mov (.c (.bool false)))]) <|
  sq (sq (.ops [op 5 (.mov (.r 0)), op 6 (.len .sl (.r 5)), op 7 (.mov (.c (.int .i64 0)))]) <|
  .block 0 (
    .loop (
      sq (.ops [op 8 (.bin .lss (.r 7) (.r 6))]) <|
      sq (.cond (.r 8)
        (.skip)
        (.exit 0)) <|
      sq (.block 1 (
        sq (.ops [op 9 (.mov (.r 7)), op 10 (.iad 1 (.r 5) (.r 7)), op 11 (.ld 1 false (.r 10)), op 3 (.mov (.r 9)), op 4 (.mov (.r 11))]) <|
        sq (.ops [op 12 (.mov (.r 4)), op 13 (.len .str (.r 12)), op 14 (.bin .gtr (.r 13) (.c (.int .i64 65535))), op 15 (.mov (.r 14)), ⟨(some 16), .b (.mov (.r 3)), (some (15, false)), []⟩, ⟨(some 17), .b (.bin .gtr (.r 16) (.c (.int .i64 0))), (some (15, false)), []⟩, ⟨(some 18), .b (.mov (.r 17)), (some (15, false)), []⟩, ⟨(some 19), .b (.mov (.r 4)), (some (18, true)), []⟩, ⟨(some 20), .b (.mov (.r 0)), (some (18, true)), []⟩, ⟨(some 21), .b (.mov (.r 3)), (some (18, true)), []⟩, ⟨(some 22), .b (.bin .sub (.r 21) (.c (.int .i64 1))), (some (18, true)), []⟩, ⟨(some 23), .b (.iad 1 (.r 20) (.r 22)), (some (18, true)), []⟩, ⟨(some 24), .b (.ld 1 false (.r 23)), (some (18, true)), []⟩, ⟨(some 25), .b (.bin .leq (.r 19) (.r 24)), (some (18, true)), []⟩, ⟨(some 26), .b (.pick (.r 18) (.r 25) (.c (.bool false))), (some (15, false)), []⟩, op 27 (.pick (.r 15) (.c (.bool true)) (.r 26))]) <|
        .cond (.r 27)
          (sq (.ops [op 2 (.mov (.c (.bool false)))]) <|
          .ret)
          (.skip))) <|
      .ops [op 28 (.bin .add (.r 7) (.c (.int .i64 1))), op 7 (.mov (.r 28))]))) <|
  sq (.ops [op 29 (.mov (.r 0)), op 30 (.len .sl (.r 29)), op 31 (.bin .geq (.r 30) (.c (.int .i64 1))), op 32 (.mov (.r 31)), ⟨(some 33), .b (.mov (.r 0)), (some (32, true)), []⟩, ⟨(some 34), .b (.len .sl (.r 33)), (some (32, true)), []⟩, ⟨(some 35), .b (.bin .leq (.r 34) (.c (.int .i64 1024))), (some (32, true)), []⟩, op 36 (.pick (.r 32) (.r 35) (.c (.bool false))), op 2 (.mov (.r 36))]) <|
  .ret⟩
def an134 : An := ⟨[], []⟩
def ir134 : Go.Rmp.Fn := ⟨14, 2, [.t 4],
  sq (.ops [op 4 (.mov (.c (.bool false)))]) <|
  sq (.ops [op 8 (.mov (.r 0)), op 9 (.mov (.r 1)), cl 10 171 [(.r 8), (.r 9)], op 7 (.mov (.r 10)), op 11 (.ext 0 (.r 7)), op 12 (.ext 1 (.r 7)), op 5 (.mov (.r 11)), op 6 (.mov (.r 12))]) <|
  sq (.ops [op 13 (.mov (.r 6)), op 4 (.mov (.r 13))]) <|
  .ret⟩
def an135 : An := ⟨[], []⟩
def ir135 : Go.Rmp.Fn := ⟨54, 2, [.t 4, .t 5],
  sq (.ops [op 4 (.mov (.c (.int .i64 0))), op 5 (.mov (.c (.bool false)))]) <|
  sq (.ops [op 10 (.mov (.r 0)), op 11 (.len .sl (.r 10)), op 6 (.mov (.r 11))]) <|
  sq (.ops [op 12 (.mov (.r 6)), op 7 (.mov (.c (.int .i64 0))), op 8 (.mov (.r 12))]) <|
  sq (.block 0 (
    .loop (
      sq (sq (.ops [op 13 (.mov (.r 7)), op 14 (.mov (.r 8)), op 15 (.bin .lss (.r 13) (.r 14))]) <|
      .cond (.r 15)
        (.skip)
        (.exit 0)) <|
      .block 1 (
        sq (.ops [op 16 (.mov (.r 7)), op 17 (.mov (.r 8)), op 18 (.bin .add (.r 16) (.r 17)), op 19 (.cvi .u64 (.r 18)), op 20 (.bin .shr (.r 19) (.c (.int .u64 1))), op 21 (.cvi .i64 (.r 20)), op 9 (.mov (.r 21))]) <|
        sq (.ops [op 22 (.mov (.r 0)), op 23 (.mov (.r 9)), op 24 (.iad 1 (.r 22) (.r 23)), op 25 (.ld 1 false (.r 24)), op 26 (.mov (.r 1)), cl 27 145 [(.r 25), (.r 26)]]) <|
        .cond (.r 27)
          (.ops [op 28 (.mov (.r 9)), op 29 (.bin .add (.r 28) (.c (.int .i64 1))), op 7 (.mov (.r 29))])
          (.ops [op 30 (.mov (.r 9)), op 8 (.mov (.r 30))]))))) <|
  sq (.ops [op 31 (.mov (.r 7)), op 32 (.mov (.r 7)), op 33 (.mov (.r 6)), op 34 (.bin .lss (.r 32) (.r 33)), op 35 (.mov (.r 34)), ⟨(some 36), .b (.mov (.r 0)), (some (35, true)), []⟩, ⟨(some 37), .b (.mov (.r 7)), (some (35, true)), []⟩, ⟨(some 38), .b (.iad 1 (.r 36) (.r 37)), (some (35, true)), []⟩, ⟨(some 39), .b (.ld 1 false (.r 38)), (some (35, true)), []⟩, ⟨(some 40), .b (.mov (.r 1)), (some (35, true)), []⟩, ⟨(some 41), .b (.bin .eql (.r 39) (.r 40)), (some (35, true)), []⟩, ⟨(some 42), .b (.mov (.r 41)), (some (35, true)), []⟩, ⟨(some 43), .b (.mov (.r 0)), (some (42, false)), []⟩, ⟨(some 44), .b (.mov (.r 7)), (some (42, false)), []⟩, ⟨(some 45), .b (.iad 1 (.r 43) (.r 44)), (some (42, false)), []⟩, ⟨(some 46), .b (.ld 1 false (.r 45)), (some (42, false)), []⟩, ⟨(some 47), .call 172 [(.r 46)], (some (42, false)), []⟩, ⟨(some 48), .b (.mov (.r 47)), (some (42, false)), []⟩, ⟨(some 49), .b (.mov (.r 1)), (some (48, true)), []⟩, ⟨(some 50), .call 172 [(.r 49)], (some (48, true)), []⟩, ⟨(some 51), .b (.pick (.r 48) (.r 50) (.c (.bool false))), (some (42, false)), []⟩, ⟨(some 52), .b (.pick (.r 42) (.c (.bool true)) (.r 51)), (some (35, true)), []⟩, op 53 (.pick (.r 35) (.r 52) (.c (.bool false))), op 4 (.mov (.r 31)), op 5 (.mov (.r 53))]) <|
  .ret⟩
def an136 : An := ⟨[(7, 2)], [(11, [(0, true), (1, true), (2, true), (3, true), (4, true), (5, true), (6, true), (7, true), (8, false)]), (15, [(0, true), (1, true), (2, true), (3, true), (4, true), (5, true), (6, true), (7, true), (8, false)])]⟩
def ir136 : Go.Rmp.Fn := ⟨95, 3, [.t 6],
  sq (.ops [op 6 (.mov (.c (.sl .nil [])))]) <|
  sq (.ops [op 10 (.mov (.r 0)), op 11 (.mov (.r 1)), op 12 (.sll 1 (.r 10) (some (.r 11)) none none)]) <|
  sq (.ops [op 13 (.mov (.r 2)), op 14 (.len .sl (.r 13)), op 7 (.mov (.r 14))]) <|
  sq (sq (.ops [op 15 (.mov (.r 7)), op 16 (.bin .eql (.r 15) (.c (.int .i64 0)))]) <|
  .cond (.r 16)
    (sq (.ops [op 17 (.mov (.r 0)), op 6 (.mov (.r 17))]) <|
    .ret)
    (.skip)) <|
  sq (.ops [op 18 (.mov (.r 0)), op 19 (.len .sl (.r 18)), op 8 (.mov (.r 19))]) <|
  sq (sq (.ops [op 20 (.mov (.r 1)), op 21 (.mov (.r 8)), op 22 (.bin .eql (.r 20) (.r 21))]) <|
  .cond (.r 22)
    (sq (.ops [op 23 (.mov (.r 0)), op 24 (.mov (.r 2)), op 25 (.app 1 8 true (.r 23) (.r 24)), op 6 (.mov (.r 25))]) <|
    .ret)
    (.skip)) <|
  sq (sq (.ops [op 26 (.mov (.r 8)), op 27 (.mov (.r 7)), op 28 (.bin .add (.r 26) (.r 27)), op 29 (.mov (.r 0)), op 30 (.cap (.r 29)), op 31 (.bin .gtr (.r 28) (.r 30))]) <|
  .cond (.r 31)
    (sq (.ops [op 32 (.mov (.r 0)), op 33 (.mov (.r 1)), op 34 (.sll 1 (.r 32) none (some (.r 33)) none), op 35 (.mov (.r 8)), op 36 (.mov (.r 7)), op 37 (.bin .add (.r 35) (.r 36)), op 38 (.mov (.r 1)), op 39 (.bin .sub (.r 37) (.r 38)), op 40 (.apz 1 8 [.int .u64 0] (.r 34) (.r 39)), op 9 (.mov (.r 40))]) <|
    sq (.ops [op 41 (.mov (.r 9)), op 42 (.mov (.r 1)), op 43 (.sll 1 (.r 41) (some (.r 42)) none none), op 44 (.mov (.r 2)), op 45 (.cpy 1 (.r 43) (.r 44))]) <|
    sq (.ops [op 46 (.mov (.r 9)), op 47 (.mov (.r 1)), op 48 (.mov (.r 7)), op 49 (.bin .add (.r 47) (.r 48)), op 50 (.sll 1 (.r 46) (some (.r 49)) none none), op 51 (.mov (.r 0)), op 52 (.mov (.r 1)), op 53 (.sll 1 (.r 51) (some (.r 52)) none none), op 54 (.cpy 1 (.r 50) (.r 53))]) <|
    sq (.ops [op 55 (.mov (.r 9)), op 6 (.mov (.r 55))]) <|
    .ret)
    (.skip)) <|
  sq (.ops [op 56 (.mov (.r 0)), op 57 (.mov (.r 8)), op 58 (.mov (.r 7)), op 59 (.bin .add (.r 57) (.r 58)), op 60 (.sll 1 (.r 56) none (some (.r 59)) none), op 0 (.mov (.r 60))]) <|
  sq (sq (.ops [op 61 (.mov (.r 2)), op 62 (.mov (.r 0)), op 63 (.mov (.r 1)), op 64 (.mov (.r 7)), op 65 (.bin .add (.r 63) (.r 64)), op 66 (.sll 1 (.r 62) (some (.r 65)) none none), op 67 (.ovl 1 (.r 61) (.r 66)), op 68 (.un .not (.r 67))]) <|
  .cond (.r 68)
    (sq (.ops [op 69 (.mov (.r 0)), op 70 (.mov (.r 1)), op 71 (.mov (.r 7)), op 72 (.bin .add (.r 70) (.r 71)), op 73 (.sll 1 (.r 69) (some (.r 72)) none none), op 74 (.mov (.r 0)), op 75 (.mov (.r 1)), op 76 (.sll 1 (.r 74) (some (.r 75)) none none), op 77 (.cpy 1 (.r 73) (.r 76))]) <|
    sq (.ops [op 78 (.mov (.r 0)), op 79 (.mov (.r 1)), op 80 (.sll 1 (.r 78) (some (.r 79)) none none), op 81 (.mov (.r 2)), op 82 (.cpy 1 (.r 80) (.r 81))]) <|
    sq (.ops [op 83 (.mov (.r 0)), op 6 (.mov (.r 83))]) <|
    .ret)
    (.skip)) <|
  sq (.ops [op 84 (.mov (.r 0)), op 85 (.mov (.r 8)), op 86 (.sll 1 (.r 84) (some (.r 85)) none none), op 87 (.mov (.r 2)), op 88 (.cpy 1 (.r 86) (.r 87))]) <|
  sq (.ops [op 89 (.mov (.r 0)), op 90 (.mov (.r 1)), op 91 (.sll 1 (.r 89) (some (.r 90)) none none), op 92 (.mov (.r 7)), cl 93 174 [(.r 91), (.r 92)]]) <|
  sq (.ops [op 94 (.mov (.r 0)), op 6 (.mov (.r 94))]) <|
  .ret⟩
def an137 : An := ⟨[], [(3, [(0, true), (1, true), (2, true), (3, true), (4, true), (5, true), (6, true), (7, true), (8, true), (9, true), (10, true), (11, true), (12, true), (13, true), (14, true), (15, true), (16, true), (17, true), (18, true), (19, true), (20, true), (21, true), (22, true), (23, true), (24, true), (25, true), (26, true), (27, true), (28, false)]), (9, [(0, true), (1, true), (2, true), (3, false), (4, true), (5, false), (6, true), (7, true)])]⟩
def ir137 : Go.Rmp.Fn := ⟨69, 1, [.t 2, .t 3],
  sq (.ops [op 2 (.mov (.c .nilp)), op 3 (.mov (.c (.int .i64 0)))]) <|
  sq (sq (.ops [op 6 (.mov (.r 0)), op 7 (.len .sl (.r 6)), op 8 (.bin .lss (.r 7) (.c (.int .i64 5)))]) <|
  .cond (.r 8)
    (sq (.ops [op 2 (.mov (.c .nilp)), op 3 (.mov (.c (.int .i64 2)))]) <|
    .ret)
    (.skip)) <|
  sq (.ops [op 9 (.mov (.r 0)), op 10 (.iad 1 (.r 9) (.c (.int .i64 0))), op 11 (.ld 1 false (.r 10)), op 12 (.cvi .i64 (.r 11)), op 13 (.bin .shl (.r 12) (.c (.int .u64 24))), op 14 (.mov (.r 0)), op 15 (.iad 1 (.r 14) (.c (.int .i64 1))), op 16 (.ld 1 false (.r 15)), op 17 (.cvi .i64 (.r 16)), op 18 (.bin .shl (.r 17) (.c (.int .u64 16))), op 19 (.bin .or (.r 13) (.r 18)), op 20 (.mov (.r 0)), op 21 (.iad 1 (.r 20) (.c (.int .i64 2))), op 22 (.ld 1 false (.r 21)), op 23 (.cvi .i64 (.r 22)), op 24 (.bin .shl (.r 23) (.c (.int .u64 8))), op 25 (.bin .or (.r 19) (.r 24)), op 26 (.mov (.r 0)), op 27 (.iad 1 (.r 26) (.c (.int .i64 3))), op 28 (.ld 1 false (.r 27)), op 29 (.cvi .i64 (.r 28)), op 30 (.bin .or (.r 25) (.r 29)), op 31 (.mov (.r 0)), op 32 (.iad 1 (.r 31) (.c (.int .i64 4))), op 33 (.ld 1 false (.r 32)), op 34 (.cvi .i64 (.r 33)), op 35 (.build [.int .i64 0, .int .i64 0] [(0, 1, (.r 30)), (1, 1, (.r 34))]), op 4 (.alloc [.int .i64 0, .int .i64 0]), ef (.st 2 (.r 4) (.r 35))]) <|
  sq (sq (.ops [op 36 (.ld 2 true (.r 4)), cl 37 96 [(.r 36)], op 38 (.un .not (.r 37)), op 39 (.mov (.r 38)), ⟨(some 40), .b (.mov (.r 0)), (some (39, false)), []⟩, ⟨(some 41), .b (.len .sl (.r 40)), (some (39, false)), []⟩, ⟨(some 42), .b (.ld 2 true (.r 4)), (some (39, false)), []⟩, ⟨(some 43), .call 97 [(.r 42)], (some (39, false)), []⟩, ⟨(some 44), .b (.bin .add (.c (.int .i64 5)) (.r 43)), (some (39, false)), []⟩, ⟨(some 45), .b (.bin .neq (.r 41) (.r 44)), (some (39, false)), []⟩, op 46 (.pick (.r 39) (.c (.bool true)) (.r 45))]) <|
  .cond (.r 46)
    (sq (.ops [op 2 (.mov (.c .nilp)), op 3 (.mov (.c (.int .i64 2)))]) <|
    .ret)
    (.skip)) <|
  sq (sq (.ops [op 47 (.fad 0 (.r 4)), op 48 (.ld 1 false (.r 47)), op 49 (.bin .rem (.r 48) (.c (.int .i64 8))), op 5 (.mov (.r 49))]) <|
  sq (.ops [op 50 (.mov (.r 5)), op 51 (.bin .gtr (.r 50) (.c (.int .i64 0))), op 52 (.mov (.r 51)), ⟨(some 53), .b (.mov (.r 0)), (some (52, true)), []⟩, ⟨(some 54), .b (.mov (.r 0)), (some (52, true)), []⟩, ⟨(some 55), .b (.len .sl (.r 54)), (some (52, true)), []⟩, ⟨(some 56), .b (.bin .sub (.r 55) (.c (.int .i64 1))), (some (52, true)), []⟩, ⟨(some 57), .b (.iad 1 (.r 53) (.r 56)), (some (52, true)), []⟩, ⟨(some 58), .b (.ld 1 false (.r 57)), (some (52, true)), []⟩, ⟨(some 59), .b (.mov (.r 5)), (some (52, true)), []⟩, ⟨(some 60), .b (.bin .shr (.r 58) (.r 59)), (some (52, true)), []⟩, ⟨(some 61), .b (.bin .neq (.r 60) (.c (.int .u8 0))), (some (52, true)), []⟩, op 62 (.pick (.r 52) (.r 61) (.c (.bool false)))]) <|
  .cond (.r 62)
    (sq (.ops [op 2 (.mov (.c .nilp)), op 3 (.mov (.c (.int .i64 2)))]) <|
    .ret)
    (.skip)) <|
  sq (.ops [op 63 (.ld 2 true (.r 4)), op 64 (.mov (.r 0)), op 65 (.sll 1 (.r 64) (some (.c (.int .i64 5))) none none), ⟨(some 66), .call 67 [(.r 65)], none, [⟨63, .ld 2 true (.r 4), none⟩]⟩, op 67 (.build [.int .i64 0, .int .i64 0, .sl .nil []] [(0, 2, (.r 63)), (2, 1, (.r 66))]), op 68 (.box (.r 67)), op 2 (.mov (.r 68)), op 3 (.mov (.c (.int .i64 0)))]) <|
  .ret⟩
def an138 : An := ⟨[], []⟩
def ir138 : Go.Rmp.Fn := ⟨19, 2, [.t 4],
  sq (.ops [op 4 (.mov (.c (.int .i64 0)))]) <|
  sq (sq (.ops [op 6 (.mov (.r 0)), op 7 (.len .sl (.r 6)), op 8 (.mov (.c (.int .i64 0)))]) <|
  .block 0 (
    .loop (
      sq (.ops [op 9 (.bin .lss (.r 8) (.r 7))]) <|
      sq (.cond (.r 9)
        (.skip)
        (.exit 0)) <|
      sq (.block 1 (
        sq (.ops [op 10 (.mov (.r 8)), op 5 (.mov (.r 10))]) <|
        sq (.ops [op 11 (.mov (.r 1)), op 12 (.mov (.r 0)), op 13 (.mov (.r 5)), op 14 (.iad 1 (.r 12) (.r 13)), op 15 (.ld 1 false (.r 14)), ⟨(some 16), .callv (.r 11) [(.r 15)], none, []⟩]) <|
        .cond (.r 16)
          (sq (.ops [op 17 (.mov (.r 5)), op 4 (.mov (.r 17))]) <|
          .ret)
          (.skip))) <|
      .ops [op 18 (.bin .add (.r 8) (.c (.int .i64 1))), op 8 (.mov (.r 18))]))) <|
  sq (.ops [op 4 (.mov (.c (.int .i64 (-1))))]) <|
  .ret⟩
def an139 : An := ⟨[], [(4, [(0, true), (1, true), (2, true), (3, true), (4, true), (5, true), (6, true), (7, true), (8, true), (9, true), (10, true), (11, true), (12, true), (13, false), (14, true)]), (6, [(0, true), (1, true), (2, true), (3, true), (4, true), (5, true), (6, true), (7, true), (8, true), (9, true), (10, true), (11, true), (12, true), (13, true), (14, true), (15, false), (16, true), (17, false)])]⟩
def ir139 : Go.Rmp.Fn := ⟨49, 3, [],
  sq (.ops [op 8 (.mov (.r 1)), op 9 (.bin .add (.r 8) (.c (.int .i64 1))), op 6 (.mov (.r 9))]) <|
  .block 0 (
    .loop (
      sq (sq (.ops [op 10 (.mov (.r 6)), op 11 (.mov (.r 2)), op 12 (.bin .lss (.r 10) (.r 11))]) <|
      .cond (.r 12)
        (.skip)
        (.exit 0)) <|
      sq (.block 1 (
        sq (.ops [op 15 (.mov (.r 6)), op 7 (.mov (.r 15))]) <|
        .block 2 (
          .loop (
            sq (sq (.ops [op 16 (.mov (.r 7)), op 17 (.mov (.r 1)), op 18 (.bin .gtr (.r 16) (.r 17)), op 19 (.mov (.r 18)), ⟨(some 20), .b (.mov (.r 0)), (some (19, true)), []⟩, ⟨(some 21), .b (.mov (.r 7)), (some (19, true)), []⟩, ⟨(some 22), .b (.iad 1 (.r 20) (.r 21)), (some (19, true)), []⟩, ⟨(some 23), .b (.ld 1 false (.r 22)), (some (19, true)), []⟩, ⟨(some 24), .b (.mov (.r 0)), (some (19, true)), []⟩, ⟨(some 25), .b (.mov (.r 7)), (some (19, true)), []⟩, ⟨(some 26), .b (.bin .sub (.r 25) (.c (.int .i64 1))), (some (19, true)), []⟩, ⟨(some 27), .b (.iad 1 (.r 24) (.r 26)), (some (19, true)), []⟩, ⟨(some 28), .b (.ld 1 false (.r 27)), (some (19, true)), []⟩, ⟨(some 29), .call 145 [(.r 23), (.r 28)], (some (19, true)), []⟩, op 30 (.pick (.r 19) (.r 29) (.c (.bool false)))]) <|
            .cond (.r 30)
              (.skip)
              (.exit 2)) <|
            sq (.block 3 (
              .ops [op 33 (.mov (.r 0)), op 34 (.mov (.r 7)), op 35 (.mov (.r 0)), op 36 (.mov (.r 7)), op 37 (.bin .sub (.r 36) (.c (.int .i64 1))), op 38 (.mov (.r 0)), op 39 (.mov (.r 7)), op 40 (.bin .sub (.r 39) (.c (.int .i64 1))), op 41 (.iad 1 (.r 38) (.r 40)), op 42 (.ld 1 false (.r 41)), op 43 (.mov (.r 0)), op 44 (.mov (.r 7)), op 45 (.iad 1 (.r 43) (.r 44)), op 46 (.ld 1 false (.r 45)), op 47 (.iad 1 (.r 33) (.r 34)), ef (.st 1 (.r 47) (.r 42)), op 48 (.iad 1 (.r 35) (.r 37)), ef (.st 1 (.r 48) (.r 46))])) <|
            .ops [op 31 (.mov (.r 7)), op 32 (.bin .sub (.r 31) (.c (.int .i64 1))), op 7 (.mov (.r 32))])))) <|
      .ops [op 13 (.mov (.r 6)), op 14 (.bin .add (.r 13) (.c (.int .i64 1))), op 6 (.mov (.r 14))]))⟩
def an140 : An := ⟨[], [(10, [(0, true), (1, true), (2, true), (3, true), (4, true), (5, true), (6, true), (7, true), (8, true), (9, true), (10, true), (11, true), (12, true), (13, true), (14, true), (15, true), (16, true), (17, false), (18, true), (19, false)])]⟩
def ir140 : Go.Rmp.Fn := ⟨56, 3, [],
  sq (.ops [op 11 (.mov (.r 1)), op 6 (.mov (.r 11))]) <|
  sq (.ops [op 7 (.mov (.c (.int .i64 0)))]) <|
  sq (.ops [op 12 (.mov (.r 2)), op 13 (.mov (.r 1)), op 14 (.bin .sub (.r 12) (.r 13)), op 8 (.mov (.r 14))]) <|
  sq (sq (.ops [op 15 (.mov (.r 8)), op 16 (.bin .sub (.r 15) (.c (.int .i64 1))), op 17 (.bin .quo (.r 16) (.c (.int .i64 2))), op 9 (.mov (.r 17))]) <|
  .block 0 (
    .loop (
      sq (sq (.ops [op 18 (.mov (.r 9)), op 19 (.bin .geq (.r 18) (.c (.int .i64 0)))]) <|
      .cond (.r 19)
        (.skip)
        (.exit 0)) <|
      sq (.block 1 (
        .ops [op 22 (.mov (.r 0)), op 23 (.mov (.r 9)), op 24 (.mov (.r 8)), op 25 (.mov (.r 6)), cl 26 175 [(.r 22), (.r 23), (.r 24), (.r 25)]])) <|
      .ops [op 20 (.mov (.r 9)), op 21 (.bin .sub (.r 20) (.c (.int .i64 1))), op 9 (.mov (.r 21))]))) <|
  sq (.ops [op 27 (.mov (.r 8)), op 28 (.bin .sub (.r 27) (.c (.int .i64 1))), op 10 (.mov (.r 28))]) <|
  .block 2 (
    .loop (
      sq (sq (.ops [op 29 (.mov (.r 10)), op 30 (.bin .geq (.r 29) (.c (.int .i64 0)))]) <|
      .cond (.r 30)
        (.skip)
        (.exit 2)) <|
      sq (.block 3 (
        sq (.ops [op 33 (.mov (.r 0)), op 34 (.mov (.r 6)), op 35 (.mov (.r 0)), op 36 (.mov (.r 6)), op 37 (.mov (.r 10)), op 38 (.bin .add (.r 36) (.r 37)), op 39 (.mov (.r 0)), op 40 (.mov (.r 6)), op 41 (.mov (.r 10)), op 42 (.bin .add (.r 40) (.r 41)), op 43 (.iad 1 (.r 39) (.r 42)), op 44 (.ld 1 false (.r 43)), op 45 (.mov (.r 0)), op 46 (.mov (.r 6)), op 47 (.iad 1 (.r 45) (.r 46)), op 48 (.ld 1 false (.r 47)), op 49 (.iad 1 (.r 33) (.r 34)), ef (.st 1 (.r 49) (.r 44)), op 50 (.iad 1 (.r 35) (.r 38)), ef (.st 1 (.r 50) (.r 48))]) <|
        .ops [op 51 (.mov (.r 0)), op 52 (.mov (.r 7)), op 53 (.mov (.r 10)), op 54 (.mov (.r 6)), cl 55 175 [(.r 51), (.r 52), (.r 53), (.r 54)]])) <|
      .ops [op 31 (.mov (.r 10)), op 32 (.bin .sub (.r 31) (.c (.int .i64 1))), op 10 (.mov (.r 32))]))⟩
def an141 : An := ⟨[], [(10, [(0, true), (1, true), (2, true), (3, true), (4, true), (5, true), (6, true), (7, true), (8, true), (9, true), (10, true), (11, true), (12, true), (13, true), (14, true), (15, true), (16, true), (17, false), (18, true), (19, false)])]⟩
def ir141 : Go.Rmp.Fn := ⟨65, 3, [],
  sq (.ops [op 11 (.mov (.r 2)), op 12 (.mov (.r 1)), op 13 (.bin .sub (.r 11) (.r 12)), op 6 (.mov (.r 13))]) <|
  sq (.ops [op 14 (.mov (.r 6)), op 15 (.bin .geq (.r 14) (.c (.int .i64 8)))]) <|
  .cond (.r 15)
    (sq (.ops [op 16 (.mov (.r 6)), op 17 (.cvi .u64 (.r 16)), op 7 (.alloc [.int .u64 0]), ef (.st 1 (.r 7) (.r 17))]) <|
    sq (.ops [op 18 (.mov (.r 6)), cl 19 176 [(.r 18)], op 8 (.mov (.r 19))]) <|
    sq (.ops [op 20 (.mov (.r 1)), op 21 (.mov (.r 6)), op 22 (.bin .quo (.r 21) (.c (.int .i64 4))), op 23 (.bin .mul (.r 22) (.c (.int .i64 2))), op 24 (.bin .add (.r 20) (.r 23)), op 25 (.bin .sub (.r 24) (.c (.int .i64 1))), op 9 (.mov (.r 25))]) <|
    .block 0 (
      .loop (
        sq (sq (.ops [op 26 (.mov (.r 9)), op 27 (.mov (.r 1)), op 28 (.mov (.r 6)), op 29 (.bin .quo (.r 28) (.c (.int .i64 4))), op 30 (.bin .mul (.r 29) (.c (.int .i64 2))), op 31 (.bin .add (.r 27) (.r 30)), op 32 (.bin .add (.r 31) (.c (.int .i64 1))), op 33 (.bin .leq (.r 26) (.r 32))]) <|
        .cond (.r 33)
          (.skip)
          (.exit 0)) <|
        sq (.block 1 (
          sq (.ops [cl 36 177 [(.r 7)], op 37 (.mov (.r 8)), op 38 (.bin .sub (.r 37) (.c (.int .u64 1))), op 39 (.bin .and (.r 36) (.r 38)), op 40 (.cvi .i64 (.r 39)), op 10 (.mov (.r 40))]) <|
          sq (sq (.ops [op 41 (.mov (.r 10)), op 42 (.mov (.r 6)), op 43 (.bin .geq (.r 41) (.r 42))]) <|
          .cond (.r 43)
            (.ops [op 44 (.mov (.r 10)), op 45 (.mov (.r 6)), op 46 (.bin .sub (.r 44) (.r 45)), op 10 (.mov (.r 46))])
            (.skip)) <|
          .ops [op 47 (.mov (.r 0)), op 48 (.mov (.r 9)), op 49 (.mov (.r 0)), op 50 (.mov (.r 1)), op 51 (.mov (.r 10)), op 52 (.bin .add (.r 50) (.r 51)), op 53 (.mov (.r 0)), op 54 (.mov (.r 1)), op 55 (.mov (.r 10)), op 56 (.bin .add (.r 54) (.r 55)), op 57 (.iad 1 (.r 53) (.r 56)), op 58 (.ld 1 false (.r 57)), op 59 (.mov (.r 0)), op 60 (.mov (.r 9)), op 61 (.iad 1 (.r 59) (.r 60)), op 62 (.ld 1 false (.r 61)), op 63 (.iad 1 (.r 47) (.r 48)), ef (.st 1 (.r 63) (.r 58)), op 64 (.iad 1 (.r 49) (.r 52)), ef (.st 1 (.r 64) (.r 62))])) <|
        .ops [op 34 (.mov (.r 9)), op 35 (.bin .add (.r 34) (.c (.int .i64 1))), op 9 (.mov (.r 35))])))
    (.skip)⟩
def an142 : An := ⟨[], []⟩
def ir142 : Go.Rmp.Fn := ⟨57, 3, [.t 6, .t 7],
  sq (.ops [op 6 (.mov (.c (.int .i64 0))), op 7 (.mov (.c (.int .i64 0)))]) <|
  sq (.ops [op 13 (.mov (.r 2)), op 14 (.mov (.r 1)), op 15 (.bin .sub (.r 13) (.r 14)), op 8 (.mov (.r 15))]) <|
  sq (.ops [op 9 (.alloc [.int .i64 0])]) <|
  sq (.ops [op 16 (.mov (.r 1)), op 17 (.mov (.r 8)), op 18 (.bin .quo (.r 17) (.c (.int .i64 4))), op 19 (.bin .mul (.r 18) (.c (.int .i64 1))), op 20 (.bin .add (.r 16) (.r 19)), op 10 (.mov (.r 20))]) <|
  sq (.ops [op 21 (.mov (.r 1)), op 22 (.mov (.r 8)), op 23 (.bin .quo (.r 22) (.c (.int .i64 4))), op 24 (.bin .mul (.r 23) (.c (.int .i64 2))), op 25 (.bin .add (.r 21) (.r 24)), op 11 (.mov (.r 25))]) <|
  sq (.ops [op 26 (.mov (.r 1)), op 27 (.mov (.r 8)), op 28 (.bin .quo (.r 27) (.c (.int .i64 4))), op 29 (.bin .mul (.r 28) (.c (.int .i64 3))), op 30 (.bin .add (.r 26) (.r 29)), op 12 (.mov (.r 30))]) <|
  sq (sq (.ops [op 31 (.mov (.r 8)), op 32 (.bin .geq (.r 31) (.c (.int .i64 8)))]) <|
  .cond (.r 32)
    (sq (sq (.ops [op 33 (.mov (.r 8)), op 34 (.bin .geq (.r 33) (.c (.int .i64 50)))]) <|
    .cond (.r 34)
      (sq (.ops [op 35 (.mov (.r 0)), op 36 (.mov (.r 10)), cl 37 178 [(.r 35), (.r 36), (.r 9)], op 10 (.mov (.r 37))]) <|
      sq (.ops [op 38 (.mov (.r 0)), op 39 (.mov (.r 11)), cl 40 178 [(.r 38), (.r 39), (.r 9)], op 11 (.mov (.r 40))]) <|
      .ops [op 41 (.mov (.r 0)), op 42 (.mov (.r 12)), cl 43 178 [(.r 41), (.r 42), (.r 9)], op 12 (.mov (.r 43))])
      (.skip)) <|
    .ops [op 44 (.mov (.r 0)), op 45 (.mov (.r 10)), op 46 (.mov (.r 11)), op 47 (.mov (.r 12)), cl 48 179 [(.r 44), (.r 45), (.r 46), (.r 47), (.r 9)], op 11 (.mov (.r 48))])
    (.skip)) <|
  sq (.ops [op 49 (.ld 1 false (.r 9))]) <|
  .block 0 (
    sq (.ops [op 52 (.bin .eql (.r 49) (.c (.int .i64 0))), op 51 (.mov (.r 52))]) <|
    .cond (.r 51)
      (sq (.ops [op 53 (.mov (.r 11)), op 6 (.mov (.r 53)), op 7 (.mov (.c (.int .i64 1)))]) <|
      .ret)
      (sq (.ops [op 55 (.bin .eql (.r 49) (.c (.int .i64 12))), op 54 (.mov (.r 55))]) <|
      .cond (.r 54)
        (sq (.ops [op 56 (.mov (.r 11)), op 6 (.mov (.r 56)), op 7 (.mov (.c (.int .i64 2)))]) <|
        .ret)
        (sq (.ops [op 50 (.mov (.r 11)), op 6 (.mov (.r 50)), op 7 (.mov (.c (.int .i64 0)))]) <|
        .ret)))⟩
def an143 : An := ⟨[], [(3, [(0, true), (1, true), (2, true), (3, true), (4, true), (5, true), (6, true), (7, true), (8, true), (9, true), (10, true), (11, true), (12, true), (13, false), (14, true), (15, false)])]⟩
def ir143 : Go.Rmp.Fn := ⟨32, 3, [],
  sq (.ops [op 8 (.mov (.r 1)), op 6 (.mov (.r 8))]) <|
  sq (.ops [op 9 (.mov (.r 2)), op 10 (.bin .sub (.r 9) (.c (.int .i64 1))), op 7 (.mov (.r 10))]) <|
  .block 0 (
    .loop (
      sq (sq (.ops [op 11 (.mov (.r 6)), op 12 (.mov (.r 7)), op 13 (.bin .lss (.r 11) (.r 12))]) <|
      .cond (.r 13)
        (.skip)
        (.exit 0)) <|
      .block 1 (
        sq (.ops [op 14 (.mov (.r 0)), op 15 (.mov (.r 6)), op 16 (.mov (.r 0)), op 17 (.mov (.r 7)), op 18 (.mov (.r 0)), op 19 (.mov (.r 7)), op 20 (.iad 1 (.r 18) (.r 19)), op 21 (.ld 1 false (.r 20)), op 22 (.mov (.r 0)), op 23 (.mov (.r 6)), op 24 (.iad 1 (.r 22) (.r 23)), op 25 (.ld 1 false (.r 24)), op 26 (.iad 1 (.r 14) (.r 15)), ef (.st 1 (.r 26) (.r 21)), op 27 (.iad 1 (.r 16) (.r 17)), ef (.st 1 (.r 27) (.r 25))]) <|
        sq (.ops [op 28 (.mov (.r 6)), op 29 (.bin .add (.r 28) (.c (.int .i64 1))), op 6 (.mov (.r 29))]) <|
        .ops [op 30 (.mov (.r 7)), op 31 (.bin .sub (.r 30) (.c (.int .i64 1))), op 7 (.mov (.r 31))])))⟩
def an144 : An := ⟨[], [(5, [(0, true), (1, true), (2, true), (3, true), (4, true), (5, true), (6, true), (7, true), (8, true), (9, true), (10, true), (11, true), (12, true), (13, false), (14, true), (15, true)]), (11, [(0, true), (1, true), (2, true), (3, true), (4, true), (5, true), (6, true), (7, true), (8, true), (9, true), (10, true), (11, true), (12, true), (13, true), (14, true), (15, false), (16, true), (17, false)]), (16, [(0, true), (1, true), (2, true), (3, true), (4, true), (5, true), (6, true), (7, true), (8, true), (9, false), (10, true)]), (17, [(0, true), (1, true), (2, true), (3, true), (4, true), (5, true), (6, true), (7, true), (8, true), (9, true), (10, true), (11, true), (12, true), (13, true), (14, true), (15, false), (16, true), (17, false)]), (22, [(0, true), (1, true), (2, true), (3, true), (4, true), (5, true), (6, true), (7, true), (8, true), (9, false), (10, true)]), (23, [(0, true), (1, true), (2, true), (3, true), (4, true), (5, true), (6, true), (7, true), (8, true), (9, true), (10, true), (11, true), (12, true), (13, true), (14, true), (15, false), (16, true), (17, false)])]⟩
def ir144 : Go.Rmp.Fn := ⟨133, 3, [.t 6],
  sq (.ops [op 6 (.mov (.c (.bool false)))]) <|
  sq (.ops [op 11 (.mov (.r 1)), op 12 (.bin .add (.r 11) (.c (.int .i64 1))), op 7 (.mov (.r 12))]) <|
  sq (sq (.ops [op 8 (.mov (.c (.int .i64 0)))]) <|
  .block 0 (
    .loop (
      sq (sq (.ops [op 13 (.mov (.r 8)), op 14 (.bin .lss (.r 13) (.c (.int .i64 5)))]) <|
      .cond (.r 14)
        (.skip)
        (.exit 0)) <|
      sq (.block 1 (
        sq (.block 2 (
          .loop (
            sq (sq (.ops [op 17 (.mov (.r 7)), op 18 (.mov (.r 2)), op 19 (.bin .lss (.r 17) (.r 18)), op 20 (.mov (.r 19)), ⟨(some 21), .b (.mov (.r 0)), (some (20, true)), []⟩, ⟨(some 22), .b (.mov (.r 7)), (some (20, true)), []⟩, ⟨(some 23), .b (.iad 1 (.r 21) (.r 22)), (some (20, true)), []⟩, ⟨(some 24), .b (.ld 1 false (.r 23)), (some (20, true)), []⟩, ⟨(some 25), .b (.mov (.r 0)), (some (20, true)), []⟩, ⟨(some 26), .b (.mov (.r 7)), (some (20, true)), []⟩, ⟨(some 27), .b (.bin .sub (.r 26) (.c (.int .i64 1))), (some (20, true)), []⟩, ⟨(some 28), .b (.iad 1 (.r 25) (.r 27)), (some (20, true)), []⟩, ⟨(some 29), .b (.ld 1 false (.r 28)), (some (20, true)), []⟩, ⟨(some 30), .call 145 [(.r 24), (.r 29)], (some (20, true)), []⟩, ⟨(some 31), .b (.un .not (.r 30)), (some (20, true)), []⟩, op 32 (.pick (.r 20) (.r 31) (.c (.bool false)))]) <|
            .cond (.r 32)
              (.skip)
              (.exit 2)) <|
            .block 3 (
              .ops [op 33 (.mov (.r 7)), op 34 (.bin .add (.r 33) (.c (.int .i64 1))), op 7 (.mov (.r 34))])))) <|
        sq (sq (.ops [op 35 (.mov (.r 7)), op 36 (.mov (.r 2)), op 37 (.bin .eql (.r 35) (.r 36))]) <|
        .cond (.r 37)
          (sq (.ops [op 6 (.mov (.c (.bool true)))]) <|
          .ret)
          (.skip)) <|
        sq (sq (.ops [op 38 (.mov (.r 2)), op 39 (.mov (.r 1)), op 40 (.bin .sub (.r 38) (.r 39)), op 41 (.bin .lss (.r 40) (.c (.int .i64 50)))]) <|
        .cond (.r 41)
          (sq (.ops [op 6 (.mov (.c (.bool false)))]) <|
          .ret)
          (.skip)) <|
        sq (.ops [op 42 (.mov (.r 0)), op 43 (.mov (.r 7)), op 44 (.mov (.r 0)), op 45 (.mov (.r 7)), op 46 (.bin .sub (.r 45) (.c (.int .i64 1))), op 47 (.mov (.r 0)), op 48 (.mov (.r 7)), op 49 (.bin .sub (.r 48) (.c (.int .i64 1))), op 50 (.iad 1 (.r 47) (.r 49)), op 51 (.ld 1 false (.r 50)), op 52 (.mov (.r 0)), op 53 (.mov (.r 7)), op 54 (.iad 1 (.r 52) (.r 53)), op 55 (.ld 1 false (.r 54)), op 56 (.iad 1 (.r 42) (.r 43)), ef (.st 1 (.r 56) (.r 51)), op 57 (.iad 1 (.r 44) (.r 46)), ef (.st 1 (.r 57) (.r 55))]) <|
        sq (sq (.ops [op 58 (.mov (.r 7)), op 59 (.mov (.r 1)), op 60 (.bin .sub (.r 58) (.r 59)), op 61 (.bin .geq (.r 60) (.c (.int .i64 2)))]) <|
        .cond (.r 61)
          (sq (.ops [op 62 (.mov (.r 7)), op 63 (.bin .sub (.r 62) (.c (.int .i64 1))), op 9 (.mov (.r 63))]) <|
          .block 4 (
            .loop (
              sq (sq (.ops [op 64 (.mov (.r 9)), op 65 (.bin .geq (.r 64) (.c (.int .i64 1)))]) <|
              .cond (.r 65)
                (.skip)
                (.exit 4)) <|
              sq (.block 5 (
                sq (sq (.ops [op 68 (.mov (.r 0)), op 69 (.mov (.r 9)), op 70 (.iad 1 (.r 68) (.r 69)), op 71 (.ld 1 false (.r 70)), op 72 (.mov (.r 0)), op 73 (.mov (.r 9)), op 74 (.bin .sub (.r 73) (.c (.int .i64 1))), op 75 (.iad 1 (.r 72) (.r 74)), op 76 (.ld 1 false (.r 75)), cl 77 145 [(.r 71), (.r 76)], op 78 (.un .not (.r 77))]) <|
                .cond (.r 78)
                  (.exit 4)
                  (.skip)) <|
                .ops [op 79 (.mov (.r 0)), op 80 (.mov (.r 9)), op 81 (.mov (.r 0)), op 82 (.mov (.r 9)), op 83 (.bin .sub (.r 82) (.c (.int .i64 1))), op 84 (.mov (.r 0)), op 85 (.mov (.r 9)), op 86 (.bin .sub (.r 85) (.c (.int .i64 1))), op 87 (.iad 1 (.r 84) (.r 86)), op 88 (.ld 1 false (.r 87)), op 89 (.mov (.r 0)), op 90 (.mov (.r 9)), op 91 (.iad 1 (.r 89) (.r 90)), op 92 (.ld 1 false (.r 91)), op 93 (.iad 1 (.r 79) (.r 80)), ef (.st 1 (.r 93) (.r 88)), op 94 (.iad 1 (.r 81) (.r 83)), ef (.st 1 (.r 94) (.r 92))])) <|
              .ops [op 66 (.mov (.r 9)), op 67 (.bin .sub (.r 66) (.c (.int .i64 1))), op 9 (.mov (.r 67))])))
          (.skip)) <|
        sq (.ops [op 95 (.mov (.r 2)), op 96 (.mov (.r 7)), op 97 (.bin .sub (.r 95) (.r 96)), op 98 (.bin .geq (.r 97) (.c (.int .i64 2)))]) <|
        .cond (.r 98)
          (sq (.ops [op 99 (.mov (.r 7)), op 100 (.bin .add (.r 99) (.c (.int .i64 1))), op 10 (.mov (.r 100))]) <|
          .block 6 (
            .loop (
              sq (sq (.ops [op 101 (.mov (.r 10)), op 102 (.mov (.r 2)), op 103 (.bin .lss (.r 101) (.r 102))]) <|
              .cond (.r 103)
                (.skip)
                (.exit 6)) <|
              sq (.block 7 (
                sq (sq (.ops [op 106 (.mov (.r 0)), op 107 (.mov (.r 10)), op 108 (.iad 1 (.r 106) (.r 107)), op 109 (.ld 1 false (.r 108)), op 110 (.mov (.r 0)), op 111 (.mov (.r 10)), op 112 (.bin .sub (.r 111) (.c (.int .i64 1))), op 113 (.iad 1 (.r 110) (.r 112)), op 114 (.ld 1 false (.r 113)), cl 115 145 [(.r 109), (.r 114)], op 116 (.un .not (.r 115))]) <|
                .cond (.r 116)
                  (.exit 6)
                  (.skip)) <|
                .ops [op 117 (.mov (.r 0)), op 118 (.mov (.r 10)), op 119 (.mov (.r 0)), op 120 (.mov (.r 10)), op 121 (.bin .sub (.r 120) (.c (.int .i64 1))), op 122 (.mov (.r 0)), op 123 (.mov (.r 10)), op 124 (.bin .sub (.r 123) (.c (.int .i64 1))), op 125 (.iad 1 (.r 122) (.r 124)), op 126 (.ld 1 false (.r 125)), op 127 (.mov (.r 0)), op 128 (.mov (.r 10)), op 129 (.iad 1 (.r 127) (.r 128)), op 130 (.ld 1 false (.r 129)), op 131 (.iad 1 (.r 117) (.r 118)), ef (.st 1 (.r 131) (.r 126)), op 132 (.iad 1 (.r 119) (.r 121)), ef (.st 1 (.r 132) (.r 130))])) <|
              .ops [op 104 (.mov (.r 10)), op 105 (.bin .add (.r 104) (.c (.int .i64 1))), op 10 (.mov (.r 105))])))
          (.skip))) <|
      .ops [op 15 (.mov (.r 8)), op 16 (.bin .add (.r 15) (.c (.int .i64 1))), op 8 (.mov (.r 16))]))) <|
  sq (.ops [op 6 (.mov (.c (.bool false)))]) <|
  .ret⟩
def an145 : An := ⟨[], []⟩
def ir145 : Go.Rmp.Fn := ⟨17, 2, [.t 4],
  sq (.ops [op 4 (.mov (.c (.bool false)))]) <|
  sq (.ops [op 5 (.mov (.r 0)), cl 6 170 [(.r 5)], op 7 (.mov (.r 6)), ⟨(some 8), .b (.mov (.r 1)), (some (7, true)), []⟩, ⟨(some 9), .call 170 [(.r 8)], (some (7, true)), []⟩, ⟨(some 10), .b (.un .not (.r 9)), (some (7, true)), []⟩, op 11 (.pick (.r 7) (.r 10) (.c (.bool false))), op 12 (.mov (.r 11)), ⟨(some 13), .b (.mov (.r 0)), (some (12, false)), []⟩, ⟨(some 14), .b (.mov (.r 1)), (some (12, false)), []⟩, ⟨(some 15), .b (.bin .lss (.r 13) (.r 14)), (some (12, false)), []⟩, op 16 (.pick (.r 12) (.c (.bool true)) (.r 15)), op 4 (.mov (.r 16))]) <|
  .ret⟩
def an146 : An := ⟨[], [(1, [(0, true), (1, true), (2, true), (3, true), (4, true), (5, true), (6, true), (7, true), (8, true), (9, true), (10, true), (11, true), (12, true), (13, false), (14, true), (15, false)]), (3, [(0, true), (1, true), (2, true), (3, true), (4, true), (5, true), (6, true), (7, true), (8, true), (9, true), (10, true), (11, true), (12, false), (13, true), (14, true)]), (5, [(0, true), (1, true), (2, true), (3, true), (4, true), (5, true), (6, true), (7, true), (8, true), (9, true), (10, true), (11, true), (12, false), (13, true)]), (8, [(0, true), (1, true), (2, true), (3, true), (4, true), (5, true), (6, true), (7, true), (8, true), (9, true), (10, true), (11, true), (12, true), (13, false), (14, true), (15, false)])]⟩
def ir146 : Go.Rmp.Fn := ⟨84, 4, [.t 8],
  sq (.ops [op 8 (.mov (.c (.int .i64 0)))]) <|
  sq (.ops [op 11 (.mov (.r 0)), op 12 (.mov (.r 1)), op 13 (.mov (.r 0)), op 14 (.mov (.r 3)), op 15 (.mov (.r 0)), op 16 (.mov (.r 3)), op 17 (.iad 1 (.r 15) (.r 16)), op 18 (.ld 1 false (.r 17)), op 19 (.mov (.r 0)), op 20 (.mov (.r 1)), op 21 (.iad 1 (.r 19) (.r 20)), op 22 (.ld 1 false (.r 21)), op 23 (.iad 1 (.r 11) (.r 12)), ef (.st 1 (.r 23) (.r 18)), op 24 (.iad 1 (.r 13) (.r 14)), ef (.st 1 (.r 24) (.r 22))]) <|
  sq (.ops [op 25 (.mov (.r 1)), op 26 (.bin .add (.r 25) (.c (.int .i64 1))), op 27 (.mov (.r 2)), op 28 (.bin .sub (.r 27) (.c (.int .i64 1))), op 9 (.mov (.r 26)), op 10 (.mov (.r 28))]) <|
  sq (.block 0 (
    .loop (
      .block 1 (
        sq (.block 2 (
          .loop (
            sq (sq (.ops [op 29 (.mov (.r 9)), op 30 (.mov (.r 10)), op 31 (.bin .leq (.r 29) (.r 30)), op 32 (.mov (.r 31)), ⟨(some 33), .b (.mov (.r 0)), (some (32, true)), []⟩, ⟨(some 34), .b (.mov (.r 1)), (some (32, true)), []⟩, ⟨(some 35), .b (.iad 1 (.r 33) (.r 34)), (some (32, true)), []⟩, ⟨(some 36), .b (.ld 1 false (.r 35)), (some (32, true)), []⟩, ⟨(some 37), .b (.mov (.r 0)), (some (32, true)), []⟩, ⟨(some 38), .b (.mov (.r 9)), (some (32, true)), []⟩, ⟨(some 39), .b (.iad 1 (.r 37) (.r 38)), (some (32, true)), []⟩, ⟨(some 40), .b (.ld 1 false (.r 39)), (some (32, true)), []⟩, ⟨(some 41), .call 145 [(.r 36), (.r 40)], (some (32, true)), []⟩, ⟨(some 42), .b (.un .not (.r 41)), (some (32, true)), []⟩, op 43 (.pick (.r 32) (.r 42) (.c (.bool false)))]) <|
            .cond (.r 43)
              (.skip)
              (.exit 2)) <|
            .block 3 (
              .ops [op 44 (.mov (.r 9)), op 45 (.bin .add (.r 44) (.c (.int .i64 1))), op 9 (.mov (.r 45))])))) <|
        sq (.block 4 (
          .loop (
            sq (sq (.ops [op 46 (.mov (.r 9)), op 47 (.mov (.r 10)), op 48 (.bin .leq (.r 46) (.r 47)), op 49 (.mov (.r 48)), ⟨(some 50), .b (.mov (.r 0)), (some (49, true)), []⟩, ⟨(some 51), .b (.mov (.r 1)), (some (49, true)), []⟩, ⟨(some 52), .b (.iad 1 (.r 50) (.r 51)), (some (49, true)), []⟩, ⟨(some 53), .b (.ld 1 false (.r 52)), (some (49, true)), []⟩, ⟨(some 54), .b (.mov (.r 0)), (some (49, true)), []⟩, ⟨(some 55), .b (.mov (.r 10)), (some (49, true)), []⟩, ⟨(some 56), .b (.iad 1 (.r 54) (.r 55)), (some (49, true)), []⟩, ⟨(some 57), .b (.ld 1 false (.r 56)), (some (49, true)), []⟩, ⟨(some 58), .call 145 [(.r 53), (.r 57)], (some (49, true)), []⟩, op 59 (.pick (.r 49) (.r 58) (.c (.bool false)))]) <|
            .cond (.r 59)
              (.skip)
              (.exit 4)) <|
            .block 5 (
              .ops [op 60 (.mov (.r 10)), op 61 (.bin .sub (.r 60) (.c (.int .i64 1))), op 10 (.mov (.r 61))])))) <|
        sq (sq (.ops [op 62 (.mov (.r 9)), op 63 (.mov (.r 10)), op 64 (.bin .gtr (.r 62) (.r 63))]) <|
        .cond (.r 64)
          (.exit 0)
          (.skip)) <|
        sq (.ops [op 65 (.mov (.r 0)), op 66 (.mov (.r 9)), op 67 (.mov (.r 0)), op 68 (.mov (.r 10)), op 69 (.mov (.r 0)), op 70 (.mov (.r 10)), op 71 (.iad 1 (.r 69) (.r 70)), op 72 (.ld 1 false (.r 71)), op 73 (.mov (.r 0)), op 74 (.mov (.r 9)), op 75 (.iad 1 (.r 73) (.r 74)), op 76 (.ld 1 false (.r 75)), op 77 (.iad 1 (.r 65) (.r 66)), ef (.st 1 (.r 77) (.r 72)), op 78 (.iad 1 (.r 67) (.r 68)), ef (.st 1 (.r 78) (.r 76))]) <|
        sq (.ops [op 79 (.mov (.r 9)), op 80 (.bin .add (.r 79) (.c (.int .i64 1))), op 9 (.mov (.r 80))]) <|
        .ops [op 81 (.mov (.r 10)), op 82 (.bin .sub (.r 81) (.c (.int .i64 1))), op 10 (.mov (.r 82))])))) <|
  sq (.ops [op 83 (.mov (.r 9)), op 8 (.mov (.r 83))]) <|
  .ret⟩
def an147 : An := ⟨[], [(1, [(0, true), (1, true), (2, true), (3, true), (4, true), (5, true), (6, true), (7, true), (8, true), (9, true), (10, true), (11, true), (12, true), (13, false), (14, true), (15, false)]), (3, [(0, true), (1, true), (2, true), (3, true), (4, true), (5, true), (6, true), (7, true), (8, true), (9, true), (10, true), (11, true), (12, false), (13, true)]), (5, [(0, true), (1, true), (2, true), (3, true), (4, true), (5, true), (6, true), (7, true), (8, true), (9, true), (10, true), (11, true), (12, false), (13, true), (14, true)]), (8, [(0, true), (1, true), (2, true), (3, true), (4, true), (5, true), (6, true), (7, true), (8, true), (9, true), (10, true), (11, true), (12, true), (13, false), (14, true), (15, false)]), (10, [(0, true), (1, true), (2, true), (3, true), (4, true), (5, true), (6, true), (7, true), (8, true), (9, true), (10, true), (11, true), (12, true), (13, false), (14, true), (15, false)]), (13, [(0, true), (1, true), (2, true), (3, true), (4, true), (5, true), (6, true), (7, true), (8, true), (9, true), (10, true), (11, true), (12, false), (13, true)]), (15, [(0, true), (1, true), (2, true), (3, true), (4, true), (5, true), (6, true), (7, true), (8, true), (9, true), (10, true), (11, true), (12, false), (13, true), (14, true)]), (18, [(0, true), (1, true), (2, true), (3, true), (4, true), (5, true), (6, true), (7, true), (8, true), (9, true), (10, true), (11, true), (12, true), (13, false), (14, true), (15, false)]), (21, [(0, true), (1, true), (2, true), (3, true), (4, true), (5, true), (6, true), (7, true), (8, true), (9, true), (10, true), (11, true), (12, true), (13, false), (14, true), (15, false)])]⟩
def ir147 : Go.Rmp.Fn := ⟨168, 4, [.t 8, .t 9],
  sq (.ops [op 8 (.mov (.c (.int .i64 0))), op 9 (.mov (.c (.bool false)))]) <|
  sq (.ops [op 12 (.mov (.r 0)), op 13 (.mov (.r 1)), op 14 (.mov (.r 0)), op 15 (.mov (.r 3)), op 16 (.mov (.r 0)), op 17 (.mov (.r 3)), op 18 (.iad 1 (.r 16) (.r 17)), op 19 (.ld 1 false (.r 18)), op 20 (.mov (.r 0)), op 21 (.mov (.r 1)), op 22 (.iad 1 (.r 20) (.r 21)), op 23 (.ld 1 false (.r 22)), op 24 (.iad 1 (.r 12) (.r 13)), ef (.st 1 (.r 24) (.r 19)), op 25 (.iad 1 (.r 14) (.r 15)), ef (.st 1 (.r 25) (.r 23))]) <|
  sq (.ops [op 26 (.mov (.r 1)), op 27 (.bin .add (.r 26) (.c (.int .i64 1))), op 28 (.mov (.r 2)), op 29 (.bin .sub (.r 28) (.c (.int .i64 1))), op 10 (.mov (.r 27)), op 11 (.mov (.r 29))]) <|
  sq (.block 0 (
    .loop (
      sq (sq (.ops [op 30 (.mov (.r 10)), op 31 (.mov (.r 11)), op 32 (.bin .leq (.r 30) (.r 31)), op 33 (.mov (.r 32)), ⟨(some 34), .b (.mov (.r 0)), (some (33, true)), []⟩, ⟨(some 35), .b (.mov (.r 10)), (some (33, true)), []⟩, ⟨(some 36), .b (.iad 1 (.r 34) (.r 35)), (some (33, true)), []⟩, ⟨(some 37), .b (.ld 1 false (.r 36)), (some (33, true)), []⟩, ⟨(some 38), .b (.mov (.r 0)), (some (33, true)), []⟩, ⟨(some 39), .b (.mov (.r 1)), (some (33, true)), []⟩, ⟨(some 40), .b (.iad 1 (.r 38) (.r 39)), (some (33, true)), []⟩, ⟨(some 41), .b (.ld 1 false (.r 40)), (some (33, true)), []⟩, ⟨(some 42), .call 145 [(.r 37), (.r 41)], (some (33, true)), []⟩, op 43 (.pick (.r 33) (.r 42) (.c (.bool false)))]) <|
      .cond (.r 43)
        (.skip)
        (.exit 0)) <|
      .block 1 (
        .ops [op 44 (.mov (.r 10)), op 45 (.bin .add (.r 44) (.c (.int .i64 1))), op 10 (.mov (.r 45))])))) <|
  sq (.block 2 (
    .loop (
      sq (sq (.ops [op 46 (.mov (.r 10)), op 47 (.mov (.r 11)), op 48 (.bin .leq (.r 46) (.r 47)), op 49 (.mov (.r 48)), ⟨(some 50), .b (.mov (.r 0)), (some (49, true)), []⟩, ⟨(some 51), .b (.mov (.r 11)), (some (49, true)), []⟩, ⟨(some 52), .b (.iad 1 (.r 50) (.r 51)), (some (49, true)), []⟩, ⟨(some 53), .b (.ld 1 false (.r 52)), (some (49, true)), []⟩, ⟨(some 54), .b (.mov (.r 0)), (some (49, true)), []⟩, ⟨(some 55), .b (.mov (.r 1)), (some (49, true)), []⟩, ⟨(some 56), .b (.iad 1 (.r 54) (.r 55)), (some (49, true)), []⟩, ⟨(some 57), .b (.ld 1 false (.r 56)), (some (49, true)), []⟩, ⟨(some 58), .call 145 [(.r 53), (.r 57)], (some (49, true)), []⟩, ⟨(some 59), .b (.un .not (.r 58)), (some (49, true)), []⟩, op 60 (.pick (.r 49) (.r 59) (.c (.bool false)))]) <|
      .cond (.r 60)
        (.skip)
        (.exit 2)) <|
      .block 3 (
        .ops [op 61 (.mov (.r 11)), op 62 (.bin .sub (.r 61) (.c (.int .i64 1))), op 11 (.mov (.r 62))])))) <|
  sq (sq (.ops [op 63 (.mov (.r 10)), op 64 (.mov (.r 11)), op 65 (.bin .gtr (.r 63) (.r 64))]) <|
  .cond (.r 65)
    (sq (.ops [op 66 (.mov (.r 0)), op 67 (.mov (.r 11)), op 68 (.mov (.r 0)), op 69 (.mov (.r 1)), op 70 (.mov (.r 0)), op 71 (.mov (.r 1)), op 72 (.iad 1 (.r 70) (.r 71)), op 73 (.ld 1 false (.r 72)), op 74 (.mov (.r 0)), op 75 (.mov (.r 11)), op 76 (.iad 1 (.r 74) (.r 75)), op 77 (.ld 1 false (.r 76)), op 78 (.iad 1 (.r 66) (.r 67)), ef (.st 1 (.r 78) (.r 73)), op 79 (.iad 1 (.r 68) (.r 69)), ef (.st 1 (.r 79) (.r 77))]) <|
    sq (.ops [op 80 (.mov (.r 11)), op 8 (.mov (.r 80)), op 9 (.mov (.c (.bool true)))]) <|
    .ret)
    (.skip)) <|
  sq (.ops [op 81 (.mov (.r 0)), op 82 (.mov (.r 10)), op 83 (.mov (.r 0)), op 84 (.mov (.r 11)), op 85 (.mov (.r 0)), op 86 (.mov (.r 11)), op 87 (.iad 1 (.r 85) (.r 86)), op 88 (.ld 1 false (.r 87)), op 89 (.mov (.r 0)), op 90 (.mov (.r 10)), op 91 (.iad 1 (.r 89) (.r 90)), op 92 (.ld 1 false (.r 91)), op 93 (.iad 1 (.r 81) (.r 82)), ef (.st 1 (.r 93) (.r 88)), op 94 (.iad 1 (.r 83) (.r 84)), ef (.st 1 (.r 94) (.r 92))]) <|
  sq (.ops [op 95 (.mov (.r 10)), op 96 (.bin .add (.r 95) (.c (.int .i64 1))), op 10 (.mov (.r 96))]) <|
  sq (.ops [op 97 (.mov (.r 11)), op 98 (.bin .sub (.r 97) (.c (.int .i64 1))), op 11 (.mov (.r 98))]) <|
  sq (.block 4 (
    .loop (
      .block 5 (
        sq (.block 6 (
          .loop (
            sq (sq (.ops [op 99 (.mov (.r 10)), op 100 (.mov (.r 11)), op 101 (.bin .leq (.r 99) (.r 100)), op 102 (.mov (.r 101)), ⟨(some 103), .b (.mov (.r 0)), (some (102, true)), []⟩, ⟨(some 104), .b (.mov (.r 10)), (some (102, true)), []⟩, ⟨(some 105), .b (.iad 1 (.r 103) (.r 104)), (some (102, true)), []⟩, ⟨(some 106), .b (.ld 1 false (.r 105)), (some (102, true)), []⟩, ⟨(some 107), .b (.mov (.r 0)), (some (102, true)), []⟩, ⟨(some 108), .b (.mov (.r 1)), (some (102, true)), []⟩, ⟨(some 109), .b (.iad 1 (.r 107) (.r 108)), (some (102, true)), []⟩, ⟨(some 110), .b (.ld 1 false (.r 109)), (some (102, true)), []⟩, ⟨(some 111), .call 145 [(.r 106), (.r 110)], (some (102, true)), []⟩, op 112 (.pick (.r 102) (.r 111) (.c (.bool false)))]) <|
            .cond (.r 112)
              (.skip)
              (.exit 6)) <|
            .block 7 (
              .ops [op 113 (.mov (.r 10)), op 114 (.bin .add (.r 113) (.c (.int .i64 1))), op 10 (.mov (.r 114))])))) <|
        sq (.block 8 (
          .loop (
            sq (sq (.ops [op 115 (.mov (.r 10)), op 116 (.mov (.r 11)), op 117 (.bin .leq (.r 115) (.r 116)), op 118 (.mov (.r 117)), ⟨(some 119), .b (.mov (.r 0)), (some (118, true)), []⟩, ⟨(some 120), .b (.mov (.r 11)), (some (118, true)), []⟩, ⟨(some 121), .b (.iad 1 (.r 119) (.r 120)), (some (118, true)), []⟩, ⟨(some 122), .b (.ld 1 false (.r 121)), (some (118, true)), []⟩, ⟨(some 123), .b (.mov (.r 0)), (some (118, true)), []⟩, ⟨(some 124), .b (.mov (.r 1)), (some (118, true)), []⟩, ⟨(some 125), .b (.iad 1 (.r 123) (.r 124)), (some (118, true)), []⟩, ⟨(some 126), .b (.ld 1 false (.r 125)), (some (118, true)), []⟩, ⟨(some 127), .call 145 [(.r 122), (.r 126)], (some (118, true)), []⟩, ⟨(some 128), .b (.un .not (.r 127)), (some (118, true)), []⟩, op 129 (.pick (.r 118) (.r 128) (.c (.bool false)))]) <|
            .cond (.r 129)
              (.skip)
              (.exit 8)) <|
            .block 9 (
              .ops [op 130 (.mov (.r 11)), op 131 (.bin .sub (.r 130) (.c (.int .i64 1))), op 11 (.mov (.r 131))])))) <|
        sq (sq (.ops [op 132 (.mov (.r 10)), op 133 (.mov (.r 11)), op 134 (.bin .gtr (.r 132) (.r 133))]) <|
        .cond (.r 134)
          (.exit 4)
          (.skip)) <|
        sq (.ops [op 135 (.mov (.r 0)), op 136 (.mov (.r 10)), op 137 (.mov (.r 0)), op 138 (.mov (.r 11)), op 139 (.mov (.r 0)), op 140 (.mov (.r 11)), op 141 (.iad 1 (.r 139) (.r 140)), op 142 (.ld 1 false (.r 141)), op 143 (.mov (.r 0)), op 144 (.mov (.r 10)), op 145 (.iad 1 (.r 143) (.r 144)), op 146 (.ld 1 false (.r 145)), op 147 (.iad 1 (.r 135) (.r 136)), ef (.st 1 (.r 147) (.r 142)), op 148 (.iad 1 (.r 137) (.r 138)), ef (.st 1 (.r 148) (.r 146))]) <|
        sq (.ops [op 149 (.mov (.r 10)), op 150 (.bin .add (.r 149) (.c (.int .i64 1))), op 10 (.mov (.r 150))]) <|
        .ops [op 151 (.mov (.r 11)), op 152 (.bin .sub (.r 151) (.c (.int .i64 1))), op 11 (.mov (.r 152))])))) <|
  sq (.ops [op 153 (.mov (.r 0)), op 154 (.mov (.r 11)), op 155 (.mov (.r 0)), op 156 (.mov (.r 1)), op 157 (.mov (.r 0)), op 158 (.mov (.r 1)), op 159 (.iad 1 (.r 157) (.r 158)), op 160 (.ld 1 false (.r 159)), op 161 (.mov (.r 0)), op 162 (.mov (.r 11)), op 163 (.iad 1 (.r 161) (.r 162)), op 164 (.ld 1 false (.r 163)), op 165 (.iad 1 (.r 153) (.r 154)), ef (.st 1 (.r 165) (.r 160)), op 166 (.iad 1 (.r 155) (.r 156)), ef (.st 1 (.r 166) (.r 164))]) <|
  sq (.ops [op 167 (.mov (.r 11)), op 8 (.mov (.r 167)), op 9 (.mov (.c (.bool false)))]) <|
  .ret⟩
def an149 : An := ⟨[], []⟩
def ir149 : Go.Rmp.Fn := ⟨25, 1, [.t 2],
  sq (.ops [op 2 (.mov (.c (.int .i64 0)))]) <|
  sq (sq (.ops [op 3 (.mov (.r 0)), op 4 (.bin .geq (.r 3) (.c (.int .u64 4294967296)))]) <|
  .cond (.r 4)
    (sq (.ops [op 5 (.mov (.r 0)), op 6 (.bin .shr (.r 5) (.c (.int .u64 32))), op 0 (.mov (.r 6))]) <|
    .ops [op 2 (.mov (.c (.int .i64 32)))])
    (.skip)) <|
  sq (sq (.ops [op 7 (.mov (.r 0)), op 8 (.bin .geq (.r 7) (.c (.int .u64 65536)))]) <|
  .cond (.r 8)
    (sq (.ops [op 9 (.mov (.r 0)), op 10 (.bin .shr (.r 9) (.c (.int .u64 16))), op 0 (.mov (.r 10))]) <|
    .ops [op 11 (.mov (.r 2)), op 12 (.bin .add (.r 11) (.c (.int .i64 16))), op 2 (.mov (.r 12))])
    (.skip)) <|
  sq (sq (.ops [op 13 (.mov (.r 0)), op 14 (.bin .geq (.r 13) (.c (.int .u64 256)))]) <|
  .cond (.r 14)
    (sq (.ops [op 15 (.mov (.r 0)), op 16 (.bin .shr (.r 15) (.c (.int .u64 8))), op 0 (.mov (.r 16))]) <|
    .ops [op 17 (.mov (.r 2)), op 18 (.bin .add (.r 17) (.c (.int .i64 8))), op 2 (.mov (.r 18))])
    (.skip)) <|
  sq (.ops [op 19 (.mov (.r 2)), op 20 (.mov (.r 0)), op 21 (.cvi .u8 (.r 20)), op 22 (.ixs (.c (.str ⟨#[0, 1, 2, 2, 3, 3, 3, 3, 4, 4, 4, 4, 4, 4, 4, 4, 5, 5, 5, 5, 5, 5, 5, 5, 5, 5, 5, 5, 5, 5, 5, 5, 6, 6, 6, 6, 6, 6, 6, 6, 6, 6, 6, 6, 6, 6, 6, 6, 6, 6, 6, 6, 6, 6, 6, 6, 6, 6, 6, 6, 6, 6, 6, 6, 7, 7, 7, 7, 7, 7, 7, 7, 7, 7, 7, 7, 7, 7, 7, 7, 7, 7, 7, 7, 7, 7, 7, 7, 7, 7, 7, 7, 7, 7, 7, 7, 7, 7, 7, 7, 7, 7, 7, 7, 7, 7, 7, 7, 7, 7, 7, 7, 7, 7, 7, 7, 7, 7, 7, 7, 7, 7, 7, 7, 7, 7, 7, 7, 8, 8, 8, 8, 8, 8, 8, 8, 8, 8, 8, 8, 8, 8, 8, 8, 8, 8, 8, 8, 8, 8, 8, 8, 8, 8, 8, 8, 8, 8, 8, 8, 8, 8, 8, 8, 8, 8, 8, 8, 8, 8, 8, 8, 8, 8, 8, 8, 8, 8, 8, 8, 8, 8, 8, 8, 8, 8, 8, 8, 8, 8, 8, 8, 8, 8, 8, 8, 8, 8, 8, 8, 8, 8, 8, 8, 8, 8, 8, 8, 8, 8, 8, 8, 8, 8, 8, 8, 8, 8, 8, 8, 8, 8, 8, 8, 8, 8, 8, 8, 8, 8, 8, 8, 8, 8, 8, 8, 8, 8, 8, 8, 8, 8, 8, 8, 8, 8, 8, 8, 8, 8, 8, 8, 8, 8, 8, 8]⟩)) (.r 21)), op 23 (.cvi .i64 (.r 22)), op 24 (.bin .add (.r 19) (.r 23)), op 2 (.mov (.r 24))]) <|
  .ret⟩
def an150 : An := ⟨[], []⟩
def ir150 : Go.Rmp.Fn := ⟨19, 2, [.t 4],
  sq (.ops [op 4 (.mov (.c (.int .i64 0)))]) <|
  sq (sq (.ops [op 6 (.mov (.r 0)), op 7 (.len .sl (.r 6)), op 8 (.mov (.c (.int .i64 0)))]) <|
  .block 0 (
    .loop (
      sq (.ops [op 9 (.bin .lss (.r 8) (.r 7))]) <|
      sq (.cond (.r 9)
        (.skip)
        (.exit 0)) <|
      sq (.block 1 (
        sq (.ops [op 10 (.mov (.r 8)), op 5 (.mov (.r 10))]) <|
        sq (.ops [op 11 (.mov (.r 1)), op 12 (.mov (.r 0)), op 13 (.mov (.r 5)), op 14 (.iad 1 (.r 12) (.r 13)), op 15 (.ld 1 false (.r 14)), op 16 (.eqr false .ptr (.r 11) (.r 15))]) <|
        .cond (.r 16)
          (sq (.ops [op 17 (.mov (.r 5)), op 4 (.mov (.r 17))]) <|
          .ret)
          (.skip))) <|
      .ops [op 18 (.bin .add (.r 8) (.c (.int .i64 1))), op 8 (.mov (.r 18))]))) <|
  sq (.ops [op 4 (.mov (.c (.int .i64 (-1))))]) <|
  .ret⟩
def an151 : An := ⟨[], []⟩
def ir151 : Go.Rmp.Fn := ⟨5, 1, [.t 2],
  sq (.ops [op 2 (.mov (.c (.sl .nil [])))]) <|
  sq (.ops [op 3 (.mov (.r 0)), cl 4 180 [(.c (.sl .nil [])), (.r 3)], op 2 (.mov (.r 4))]) <|
  .ret⟩
def an152 : An := ⟨[], []⟩
def ir152 : Go.Rmp.Fn := ⟨11, 1, [],
  sq (.ops [op 3 (.mov (.r 0)), op 4 (.len .sl (.r 3)), op 2 (.mov (.r 4))]) <|
  .ops [op 5 (.mov (.r 0)), op 6 (.mov (.r 2)), op 7 (.mov (.r 2)), op 8 (.cvi .u64 (.r 7)), cl 9 107 [(.r 8)], cl 10 181 [(.r 5), (.c (.int .i64 0)), (.r 6), (.r 9)]]⟩
def an153 : An := ⟨[], []⟩
def ir153 : Go.Rmp.Fn := ⟨16, 2, [],
  sq (.ops [op 5 (.ld 1 false (.r 1)), op 6 (.len .sl (.r 5)), op 7 (.mov (.c (.int .i64 0)))]) <|
  .block 0 (
    .loop (
      sq (.ops [op 8 (.bin .lss (.r 7) (.r 6))]) <|
      sq (.cond (.r 8)
        (.skip)
        (.exit 0)) <|
      sq (.block 1 (
        sq (.ops [op 9 (.iad 1 (.r 5) (.r 7)), op 10 (.ld 1 false (.r 9)), op 4 (.mov (.r 10))]) <|
        sq (.ops [op 11 (.mov (.r 0)), op 12 (.mov (.r 4)), ⟨(some 13), .callv (.r 11) [(.r 12)], none, []⟩, op 14 (.un .not (.r 13))]) <|
        .cond (.r 14)
          (.ret)
          (.skip))) <|
      .ops [op 15 (.bin .add (.r 7) (.c (.int .i64 1))), op 7 (.mov (.r 15))]))⟩
def an154 : An := ⟨[], []⟩
def ir154 : Go.Rmp.Fn := ⟨21, 2, [.t 4],
  sq (.ops [op 4 (.mov (.c (.int .u64 0)))]) <|
  sq (sq (.ops [op 6 (.mov (.r 1)), op 7 (.len .str (.r 6)), op 8 (.mov (.c (.int .i64 0)))]) <|
  .block 0 (
    .loop (
      sq (.ops [op 9 (.bin .lss (.r 8) (.r 7))]) <|
      sq (.cond (.r 9)
        (.skip)
        (.exit 0)) <|
      sq (.block 1 (
        sq (.ops [op 10 (.mov (.r 8)), op 5 (.mov (.r 10))]) <|
        sq (.ops [op 11 (.mov (.r 0)), op 12 (.mov (.r 1)), op 13 (.mov (.r 5)), op 14 (.ixs (.r 12) (.r 13)), op 15 (.cvi .u64 (.r 14)), op 16 (.bin .xor (.r 11) (.r 15)), op 0 (.mov (.r 16))]) <|
        .ops [op 17 (.mov (.r 0)), op 18 (.bin .mul (.r 17) (.c (.int .u64 1099511628211))), op 0 (.mov (.r 18))])) <|
      .ops [op 19 (.bin .add (.r 8) (.c (.int .i64 1))), op 8 (.mov (.r 19))]))) <|
  sq (.ops [op 20 (.mov (.r 0)), op 4 (.mov (.r 20))]) <|
  .ret⟩
def an155 : An := ⟨[], []⟩
def ir155 : Go.Rmp.Fn := ⟨1, 0, [.t 0],
  sq (.ops [op 0 (.mov (.c (.int .u64 0)))]) <|
  sq (.ops [op 0 (.mov (.c (.int .u64 14695981039346656037)))]) <|
  .ret⟩
def an169 : An := ⟨[], []⟩
def ir169 : Go.Rmp.Fn := ⟨6, 1, [.t 2],
  sq (.ops [op 2 (.mov (.c (.bool false)))]) <|
  sq (.ops [op 3 (.mov (.r 0)), op 4 (.mov (.r 0)), op 5 (.bin .neq (.r 3) (.r 4)), op 2 (.mov (.r 5))]) <|
  .ret⟩
def an170 : An := ⟨[], []⟩
def ir170 : Go.Rmp.Fn := ⟨6, 1, [.t 2],
  sq (.ops [op 2 (.mov (.c (.bool false)))]) <|
  sq (.ops [op 3 (.mov (.r 0)), op 4 (.mov (.r 0)), op 5 (.bin .neq (.r 3) (.r 4)), op 2 (.mov (.r 5))]) <|
  .ret⟩
def an171 : An := ⟨[], []⟩
def ir171 : Go.Rmp.Fn := ⟨54, 2, [.t 4, .t 5],
  sq (.ops [op 4 (.mov (.c (.int .i64 0))), op 5 (.mov (.c (.bool false)))]) <|
  sq (.ops [op 10 (.mov (.r 0)), op 11 (.len .sl (.r 10)), op 6 (.mov (.r 11))]) <|
  sq (.ops [op 12 (.mov (.r 6)), op 7 (.mov (.c (.int .i64 0))), op 8 (.mov (.r 12))]) <|
  sq (.block 0 (
    .loop (
      sq (sq (.ops [op 13 (.mov (.r 7)), op 14 (.mov (.r 8)), op 15 (.bin .lss (.r 13) (.r 14))]) <|
      .cond (.r 15)
        (.skip)
        (.exit 0)) <|
      .block 1 (
        sq (.ops [op 16 (.mov (.r 7)), op 17 (.mov (.r 8)), op 18 (.bin .add (.r 16) (.r 17)), op 19 (.cvi .u64 (.r 18)), op 20 (.bin .shr (.r 19) (.c (.int .u64 1))), op 21 (.cvi .i64 (.r 20)), op 9 (.mov (.r 21))]) <|
        sq (.ops [op 22 (.mov (.r 0)), op 23 (.mov (.r 9)), op 24 (.iad 1 (.r 22) (.r 23)), op 25 (.ld 1 false (.r 24)), op 26 (.mov (.r 1)), cl 27 194 [(.r 25), (.r 26)]]) <|
        .cond (.r 27)
          (.ops [op 28 (.mov (.r 9)), op 29 (.bin .add (.r 28) (.c (.int .i64 1))), op 7 (.mov (.r 29))])
          (.ops [op 30 (.mov (.r 9)), op 8 (.mov (.r 30))]))))) <|
  sq (.ops [op 31 (.mov (.r 7)), op 32 (.mov (.r 7)), op 33 (.mov (.r 6)), op 34 (.bin .lss (.r 32) (.r 33)), op 35 (.mov (.r 34)), ⟨(some 36), .b (.mov (.r 0)), (some (35, true)), []⟩, ⟨(some 37), .b (.mov (.r 7)), (some (35, true)), []⟩, ⟨(some 38), .b (.iad 1 (.r 36) (.r 37)), (some (35, true)), []⟩, ⟨(some 39), .b (.ld 1 false (.r 38)), (some (35, true)), []⟩, ⟨(some 40), .b (.mov (.r 1)), (some (35, true)), []⟩, ⟨(some 41), .b (.bin .eql (.r 39) (.r 40)), (some (35, true)), []⟩, ⟨(some 42), .b (.mov (.r 41)), (some (35, true)), []⟩, ⟨(some 43), .b (.mov (.r 0)), (some (42, false)), []⟩, ⟨(some 44), .b (.mov (.r 7)), (some (42, false)), []⟩, ⟨(some 45), .b (.iad 1 (.r 43) (.r 44)), (some (42, false)), []⟩, ⟨(some 46), .b (.ld 1 false (.r 45)), (some (42, false)), []⟩, ⟨(some 47), .call 195 [(.r 46)], (some (42, false)), []⟩, ⟨(some 48), .b (.mov (.r 47)), (some (42, false)), []⟩, ⟨(some 49), .b (.mov (.r 1)), (some (48, true)), []⟩, ⟨(some 50), .call 195 [(.r 49)], (some (48, true)), []⟩, ⟨(some 51), .b (.pick (.r 48) (.r 50) (.c (.bool false))), (some (42, false)), []⟩, ⟨(some 52), .b (.pick (.r 42) (.c (.bool true)) (.r 51)), (some (35, true)), []⟩, op 53 (.pick (.r 35) (.r 52) (.c (.bool false))), op 4 (.mov (.r 31)), op 5 (.mov (.r 53))]) <|
  .ret⟩
def an172 : An := ⟨[], []⟩
def ir172 : Go.Rmp.Fn := ⟨6, 1, [.t 2],
  sq (.ops [op 2 (.mov (.c (.bool false)))]) <|
  sq (.ops [op 3 (.mov (.r 0)), op 4 (.mov (.r 0)), op 5 (.bin .neq (.r 3) (.r 4)), op 2 (.mov (.r 5))]) <|
  .ret⟩
def an175 : An := ⟨[], [(3, [(0, true), (1, true), (2, true), (3, true), (4, true), (5, true), (6, true), (7, true), (8, true), (9, true), (10, true), (11, true), (12, true), (13, true), (14, true), (15, true), (16, true), (17, true), (18, false), (19, true)]), (5, [(0, true), (1, true), (2, true), (3, true), (4, true), (5, true), (6, true), (7, true), (8, true), (9, true), (10, true), (11, true), (12, false), (13, true)]), (6, [(0, true), (1, true), (2, true), (3, true), (4, true), (5, true), (6, true), (7, true), (8, true), (9, true), (10, true), (11, true), (12, true), (13, true), (14, true), (15, true), (16, true), (17, true), (18, true), (19, true), (20, true), (21, false), (22, true), (23, false)])]⟩
def ir175 : Go.Rmp.Fn := ⟨76, 4, [],
  sq (.ops [op 10 (.mov (.r 1)), op 8 (.mov (.r 10))]) <|
  .block 0 (
    .loop (
      .block 1 (
        sq (.ops [op 11 (.mov (.r 8)), op 12 (.bin .mul (.c (.int .i64 2)) (.r 11)), op 13 (.bin .add (.r 12) (.c (.int .i64 1))), op 9 (.mov (.r 13))]) <|
        sq (sq (.ops [op 14 (.mov (.r 9)), op 15 (.mov (.r 2)), op 16 (.bin .geq (.r 14) (.r 15))]) <|
        .cond (.r 16)
          (.exit 0)
          (.skip)) <|
        sq (sq (.ops [op 17 (.mov (.r 9)), op 18 (.bin .add (.r 17) (.c (.int .i64 1))), op 19 (.mov (.r 2)), op 20 (.bin .lss (.r 18) (.r 19)), op 21 (.mov (.r 20)), ⟨(some 22), .b (.mov (.r 0)), (some (21, true)), []⟩, ⟨(some 23), .b (.mov (.r 3)), (some (21, true)), []⟩, ⟨(some 24), .b (.mov (.r 9)), (some (21, true)), []⟩, ⟨(some 25), .b (.bin .add (.r 23) (.r 24)), (some (21, true)), []⟩, ⟨(some 26), .b (.iad 1 (.r 22) (.r 25)), (some (21, true)), []⟩, ⟨(some 27), .b (.ld 1 false (.r 26)), (some (21, true)), []⟩, ⟨(some 28), .b (.mov (.r 0)), (some (21, true)), []⟩, ⟨(some 29), .b (.mov (.r 3)), (some (21, true)), []⟩, ⟨(some 30), .b (.mov (.r 9)), (some (21, true)), []⟩, ⟨(some 31), .b (.bin .add (.r 29) (.r 30)), (some (21, true)), []⟩, ⟨(some 32), .b (.bin .add (.r 31) (.c (.int .i64 1))), (some (21, true)), []⟩, ⟨(some 33), .b (.iad 1 (.r 28) (.r 32)), (some (21, true)), []⟩, ⟨(some 34), .b (.ld 1 false (.r 33)), (some (21, true)), []⟩, ⟨(some 35), .call 145 [(.r 27), (.r 34)], (some (21, true)), []⟩, op 36 (.pick (.r 21) (.r 35) (.c (.bool false)))]) <|
        .cond (.r 36)
          (.ops [op 37 (.mov (.r 9)), op 38 (.bin .add (.r 37) (.c (.int .i64 1))), op 9 (.mov (.r 38))])
          (.skip)) <|
        sq (sq (.ops [op 39 (.mov (.r 0)), op 40 (.mov (.r 3)), op 41 (.mov (.r 8)), op 42 (.bin .add (.r 40) (.r 41)), op 43 (.iad 1 (.r 39) (.r 42)), op 44 (.ld 1 false (.r 43)), op 45 (.mov (.r 0)), op 46 (.mov (.r 3)), op 47 (.mov (.r 9)), op 48 (.bin .add (.r 46) (.r 47)), op 49 (.iad 1 (.r 45) (.r 48)), op 50 (.ld 1 false (.r 49)), cl 51 145 [(.r 44), (.r 50)], op 52 (.un .not (.r 51))]) <|
        .cond (.r 52)
          (.ret)
          (.skip)) <|
        sq (.ops [op 53 (.mov (.r 0)), op 54 (.mov (.r 3)), op 55 (.mov (.r 8)), op 56 (.bin .add (.r 54) (.r 55)), op 57 (.mov (.r 0)), op 58 (.mov (.r 3)), op 59 (.mov (.r 9)), op 60 (.bin .add (.r 58) (.r 59)), op 61 (.mov (.r 0)), op 62 (.mov (.r 3)), op 63 (.mov (.r 9)), op 64 (.bin .add (.r 62) (.r 63)), op 65 (.iad 1 (.r 61) (.r 64)), op 66 (.ld 1 false (.r 65)), op 67 (.mov (.r 0)), op 68 (.mov (.r 3)), op 69 (.mov (.r 8)), op 70 (.bin .add (.r 68) (.r 69)), op 71 (.iad 1 (.r 67) (.r 70)), op 72 (.ld 1 false (.r 71)), op 73 (.iad 1 (.r 53) (.r 56)), ef (.st 1 (.r 73) (.r 66)), op 74 (.iad 1 (.r 57) (.r 60)), ef (.st 1 (.r 74) (.r 72))]) <|
        .ops [op 75 (.mov (.r 9)), op 8 (.mov (.r 75))])))⟩
def an176 : An := ⟨[], []⟩
def ir176 : Go.Rmp.Fn := ⟨7, 1, [.t 2],
  sq (.ops [op 2 (.mov (.c (.int .u64 0)))]) <|
  sq (.ops [op 3 (.mov (.r 0)), op 4 (.cvi .u64 (.r 3)), cl 5 107 [(.r 4)], op 6 (.bin .shl (.c (.int .u64 1)) (.r 5)), op 2 (.mov (.r 6))]) <|
  .ret⟩
def an177 : An := ⟨[], [(1, [(0, true), (1, true), (2, true), (3, true), (4, true), (5, true), (6, true), (7, true), (8, true), (9, false)]), (2, [(0, true), (1, true), (2, true), (3, true), (4, true), (5, true), (6, true), (7, true), (8, true), (9, false)]), (3, [(0, true), (1, true), (2, true), (3, true), (4, true), (5, true), (6, true), (7, true), (8, true), (9, false)])]⟩
def ir177 : Go.Rmp.Fn := ⟨33, 1, [.t 2],
  sq (.ops [op 2 (.mov (.c (.int .u64 0)))]) <|
  sq (.ops [op 3 (.mov (.r 0)), op 4 (.nilc (.r 3)), op 5 (.ld 1 false (.r 4)), op 6 (.mov (.r 0)), op 7 (.nilc (.r 6)), op 8 (.ld 1 false (.r 7)), op 9 (.bin .shl (.r 8) (.c (.int .u64 13))), op 10 (.bin .xor (.r 5) (.r 9)), op 11 (.nilc (.r 3)), ef (.st 1 (.r 11) (.r 10))]) <|
  sq (.ops [op 12 (.mov (.r 0)), op 13 (.nilc (.r 12)), op 14 (.ld 1 false (.r 13)), op 15 (.mov (.r 0)), op 16 (.nilc (.r 15)), op 17 (.ld 1 false (.r 16)), op 18 (.bin .shr (.r 17) (.c (.int .u64 7))), op 19 (.bin .xor (.r 14) (.r 18)), op 20 (.nilc (.r 12)), ef (.st 1 (.r 20) (.r 19))]) <|
  sq (.ops [op 21 (.mov (.r 0)), op 22 (.nilc (.r 21)), op 23 (.ld 1 false (.r 22)), op 24 (.mov (.r 0)), op 25 (.nilc (.r 24)), op 26 (.ld 1 false (.r 25)), op 27 (.bin .shl (.r 26) (.c (.int .u64 17))), op 28 (.bin .xor (.r 23) (.r 27)), op 29 (.nilc (.r 21)), ef (.st 1 (.r 29) (.r 28))]) <|
  sq (.ops [op 30 (.mov (.r 0)), op 31 (.nilc (.r 30)), op 32 (.ld 1 false (.r 31)), op 2 (.mov (.r 32))]) <|
  .ret⟩
def an178 : An := ⟨[], []⟩
def ir178 : Go.Rmp.Fn := ⟨15, 3, [.t 6],
  sq (.ops [op 6 (.mov (.c (.int .i64 0)))]) <|
  sq (.ops [op 7 (.mov (.r 0)), op 8 (.mov (.r 1)), op 9 (.bin .sub (.r 8) (.c (.int .i64 1))), op 10 (.mov (.r 1)), op 11 (.mov (.r 1)), op 12 (.bin .add (.r 11) (.c (.int .i64 1))), op 13 (.mov (.r 2)), cl 14 179 [(.r 7), (.r 9), (.r 10), (.r 12), (.r 13)], op 6 (.mov (.r 14))]) <|
  .ret⟩
def an179 : An := ⟨[], []⟩
def ir179 : Go.Rmp.Fn := ⟨36, 5, [.t 10],
  sq (.ops [op 10 (.mov (.c (.int .i64 0)))]) <|
  sq (.ops [op 12 (.mov (.r 0)), op 13 (.mov (.r 1)), op 14 (.mov (.r 2)), op 15 (.mov (.r 4)), cl 16 197 [(.r 12), (.r 13), (.r 14), (.r 15)], op 11 (.mov (.r 16)), op 17 (.ext 0 (.r 11)), op 18 (.ext 1 (.r 11)), op 1 (.mov (.r 17)), op 2 (.mov (.r 18))]) <|
  sq (.ops [op 20 (.mov (.r 0)), op 21 (.mov (.r 2)), op 22 (.mov (.r 3)), op 23 (.mov (.r 4)), cl 24 197 [(.r 20), (.r 21), (.r 22), (.r 23)], op 19 (.mov (.r 24)), op 25 (.ext 0 (.r 19)), op 26 (.ext 1 (.r 19)), op 2 (.mov (.r 25)), op 3 (.mov (.r 26))]) <|
  sq (.ops [op 28 (.mov (.r 0)), op 29 (.mov (.r 1)), op 30 (.mov (.r 2)), op 31 (.mov (.r 4)), cl 32 197 [(.r 28), (.r 29), (.r 30), (.r 31)], op 27 (.mov (.r 32)), op 33 (.ext 0 (.r 27)), op 34 (.ext 1 (.r 27)), op 1 (.mov (.r 33)), op 2 (.mov (.r 34))]) <|
  sq (.ops [op 35 (.mov (.r 2)), op 10 (.mov (.r 35))]) <|
  .ret⟩
def an180 : An := ⟨[(3, 3)], []⟩
def ir180 : Go.Rmp.Fn := ⟨13, 2, [.t 4],
  sq (.ops [op 2 (.box (.r 0)), op 4 (.mov (.c (.sl .nil [])))]) <|
  sq (sq (.ops [op 6 (.mov (.r 1))]) <|
  .block 0 (
    .rangeF 13 (.r 6) [7]
      (.ops [op 5 (.mov (.r 7))])
      (.block 1 (
        .ops [op 8 (.ld 1 false (.r 2)), op 9 (.mov (.r 5)), op 10 (.bsl 1 [.str ⟨#[]⟩] [(0, (.r 9))]), op 11 (.app 1 16 true (.r 8) (.r 10)), ef (.st 1 (.r 2) (.r 11))])))) <|
  sq (.ops [op 12 (.ld 1 false (.r 2)), op 4 (.mov (.r 12))]) <|
  .ret⟩
def an181 : An := ⟨[], [(17, [(0, true), (1, true), (2, true), (3, true), (4, true), (5, true), (6, true), (7, true), (8, true), (9, true), (10, true), (11, true), (12, false), (13, true), (14, true)])]⟩
def ir181 : Go.Rmp.Fn := ⟨134, 4, [],
  sq (.ops [op 8 (.mov (.c (.bool true)))]) <|
  sq (.ops [op 9 (.mov (.c (.bool true)))]) <|
  .block 0 (
    .loop (
      .block 1 (
        sq (.ops [op 19 (.mov (.r 2)), op 20 (.mov (.r 1)), op 21 (.bin .sub (.r 19) (.r 20)), op 10 (.mov (.r 21))]) <|
        sq (sq (.ops [op 22 (.mov (.r 10)), op 23 (.bin .leq (.r 22) (.c (.int .i64 12)))]) <|
        .cond (.r 23)
          (sq (.ops [op 24 (.mov (.r 0)), op 25 (.mov (.r 1)), op 26 (.mov (.r 2)), cl 27 198 [(.r 24), (.r 25), (.r 26)]]) <|
          .ret)
          (.skip)) <|
        sq (sq (.ops [op 28 (.mov (.r 3)), op 29 (.bin .eql (.r 28) (.c (.int .i64 0)))]) <|
        .cond (.r 29)
          (sq (.ops [op 30 (.mov (.r 0)), op 31 (.mov (.r 1)), op 32 (.mov (.r 2)), cl 33 199 [(.r 30), (.r 31), (.r 32)]]) <|
          .ret)
          (.skip)) <|
        sq (sq (.ops [op 34 (.mov (.r 8)), op 35 (.un .not (.r 34))]) <|
        .cond (.r 35)
          (sq (.ops [op 36 (.mov (.r 0)), op 37 (.mov (.r 1)), op 38 (.mov (.r 2)), cl 39 200 [(.r 36), (.r 37), (.r 38)]]) <|
          .ops [op 40 (.mov (.r 3)), op 41 (.bin .sub (.r 40) (.c (.int .i64 1))), op 3 (.mov (.r 41))])
          (.skip)) <|
        sq (.ops [op 43 (.mov (.r 0)), op 44 (.mov (.r 1)), op 45 (.mov (.r 2)), cl 46 201 [(.r 43), (.r 44), (.r 45)], op 42 (.mov (.r 46)), op 47 (.ext 0 (.r 42)), op 48 (.ext 1 (.r 42)), op 11 (.mov (.r 47)), op 12 (.mov (.r 48))]) <|
        sq (sq (.ops [op 49 (.mov (.r 12)), op 50 (.bin .eql (.r 49) (.c (.int .i64 2)))]) <|
        .cond (.r 50)
          (sq (.ops [op 51 (.mov (.r 0)), op 52 (.mov (.r 1)), op 53 (.mov (.r 2)), cl 54 202 [(.r 51), (.r 52), (.r 53)]]) <|
          sq (.ops [op 55 (.mov (.r 2)), op 56 (.bin .sub (.r 55) (.c (.int .i64 1))), op 57 (.mov (.r 11)), op 58 (.mov (.r 1)), op 59 (.bin .sub (.r 57) (.r 58)), op 60 (.bin .sub (.r 56) (.r 59)), op 11 (.mov (.r 60))]) <|
          .ops [op 12 (.mov (.c (.int .i64 1)))])
          (.skip)) <|
        sq (sq (.ops [op 61 (.mov (.r 8)), op 62 (.mov (.r 61)), ⟨(some 63), .b (.mov (.r 9)), (some (62, true)), []⟩, op 64 (.pick (.r 62) (.r 63) (.c (.bool false))), op 65 (.mov (.r 64)), ⟨(some 66), .b (.mov (.r 12)), (some (65, true)), []⟩, ⟨(some 67), .b (.bin .eql (.r 66) (.c (.int .i64 1))), (some (65, true)), []⟩, op 68 (.pick (.r 65) (.r 67) (.c (.bool false)))]) <|
        .cond (.r 68)
          (sq (.ops [op 69 (.mov (.r 0)), op 70 (.mov (.r 1)), op 71 (.mov (.r 2)), cl 72 203 [(.r 69), (.r 70), (.r 71)]]) <|
          .cond (.r 72)
            (.ret)
            (.skip))
          (.skip)) <|
        sq (sq (.ops [op 73 (.mov (.r 1)), op 74 (.bin .gtr (.r 73) (.c (.int .i64 0))), op 75 (.mov (.r 74)), ⟨(some 76), .b (.mov (.r 0)), (some (75, true)), []⟩, ⟨(some 77), .b (.mov (.r 1)), (some (75, true)), []⟩, ⟨(some 78), .b (.bin .sub (.r 77) (.c (.int .i64 1))), (some (75, true)), []⟩, ⟨(some 79), .b (.iad 1 (.r 76) (.r 78)), (some (75, true)), []⟩, ⟨(some 80), .b (.ld 1 false (.r 79)), (some (75, true)), []⟩, ⟨(some 81), .b (.mov (.r 0)), (some (75, true)), []⟩, ⟨(some 82), .b (.mov (.r 11)), (some (75, true)), []⟩, ⟨(some 83), .b (.iad 1 (.r 81) (.r 82)), (some (75, true)), []⟩, ⟨(some 84), .b (.ld 1 false (.r 83)), (some (75, true)), []⟩, ⟨(some 85), .call 194 [(.r 80), (.r 84)], (some (75, true)), []⟩, ⟨(some 86), .b (.un .not (.r 85)), (some (75, true)), []⟩, op 87 (.pick (.r 75) (.r 86) (.c (.bool false)))]) <|
        .cond (.r 87)
          (sq (.ops [op 88 (.mov (.r 0)), op 89 (.mov (.r 1)), op 90 (.mov (.r 2)), op 91 (.mov (.r 11)), cl 92 204 [(.r 88), (.r 89), (.r 90), (.r 91)], op 13 (.mov (.r 92))]) <|
          sq (.ops [op 93 (.mov (.r 13)), op 1 (.mov (.r 93))]) <|
          .exit 1)
          (.skip)) <|
        sq (.ops [op 95 (.mov (.r 0)), op 96 (.mov (.r 1)), op 97 (.mov (.r 2)), op 98 (.mov (.r 11)), cl 99 205 [(.r 95), (.r 96), (.r 97), (.r 98)], op 94 (.mov (.r 99)), op 100 (.ext 0 (.r 94)), op 101 (.ext 1 (.r 94)), op 14 (.mov (.r 100)), op 15 (.mov (.r 101))]) <|
        sq (.ops [op 102 (.mov (.r 15)), op 9 (.mov (.r 102))]) <|
        sq (.ops [op 103 (.mov (.r 14)), op 104 (.mov (.r 1)), op 105 (.bin .sub (.r 103) (.r 104)), op 106 (.mov (.r 2)), op 107 (.mov (.r 14)), op 108 (.bin .sub (.r 106) (.r 107)), op 16 (.mov (.r 105)), op 17 (.mov (.r 108))]) <|
        sq (.ops [op 109 (.mov (.r 10)), op 110 (.bin .quo (.r 109) (.c (.int .i64 8))), op 18 (.mov (.r 110))]) <|
        sq (.ops [op 111 (.mov (.r 16)), op 112 (.mov (.r 17)), op 113 (.bin .lss (.r 111) (.r 112))]) <|
        .cond (.r 113)
          (sq (.ops [op 114 (.mov (.r 16)), op 115 (.mov (.r 18)), op 116 (.bin .geq (.r 114) (.r 115)), op 8 (.mov (.r 116))]) <|
          sq (.ops [op 117 (.mov (.r 0)), op 118 (.mov (.r 1)), op 119 (.mov (.r 14)), op 120 (.mov (.r 3)), cl 121 181 [(.r 117), (.r 118), (.r 119), (.r 120)]]) <|
          .ops [op 122 (.mov (.r 14)), op 123 (.bin .add (.r 122) (.c (.int .i64 1))), op 1 (.mov (.r 123))])
          (sq (.ops [op 124 (.mov (.r 17)), op 125 (.mov (.r 18)), op 126 (.bin .geq (.r 124) (.r 125)), op 8 (.mov (.r 126))]) <|
          sq (.ops [op 127 (.mov (.r 0)), op 128 (.mov (.r 14)), op 129 (.bin .add (.r 128) (.c (.int .i64 1))), op 130 (.mov (.r 2)), op 131 (.mov (.r 3)), cl 132 181 [(.r 127), (.r 129), (.r 130), (.r 131)]]) <|
          .ops [op 133 (.mov (.r 14)), op 2 (.mov (.r 133))]))))⟩
def an194 : An := ⟨[], []⟩
def ir194 : Go.Rmp.Fn := ⟨17, 2, [.t 4],
  sq (.ops [op 4 (.mov (.c (.bool false)))]) <|
  sq (.ops [op 5 (.mov (.r 0)), cl 6 169 [(.r 5)], op 7 (.mov (.r 6)), ⟨(some 8), .b (.mov (.r 1)), (some (7, true)), []⟩, ⟨(some 9), .call 169 [(.r 8)], (some (7, true)), []⟩, ⟨(some 10), .b (.un .not (.r 9)), (some (7, true)), []⟩, op 11 (.pick (.r 7) (.r 10) (.c (.bool false))), op 12 (.mov (.r 11)), ⟨(some 13), .b (.mov (.r 0)), (some (12, false)), []⟩, ⟨(some 14), .b (.mov (.r 1)), (some (12, false)), []⟩, ⟨(some 15), .b (.bin .lss (.r 13) (.r 14)), (some (12, false)), []⟩, op 16 (.pick (.r 12) (.c (.bool true)) (.r 15)), op 4 (.mov (.r 16))]) <|
  .ret⟩
def an195 : An := ⟨[], []⟩
def ir195 : Go.Rmp.Fn := ⟨6, 1, [.t 2],
  sq (.ops [op 2 (.mov (.c (.bool false)))]) <|
  sq (.ops [op 3 (.mov (.r 0)), op 4 (.mov (.r 0)), op 5 (.bin .neq (.r 3) (.r 4)), op 2 (.mov (.r 5))]) <|
  .ret⟩
def an197 : An := ⟨[], [(1, [(0, true), (1, true), (2, true), (3, true), (4, true), (5, true), (6, true), (7, true), (8, false)])]⟩
def ir197 : Go.Rmp.Fn := ⟨28, 4, [.t 8, .t 9],
  sq (.ops [op 8 (.mov (.c (.int .i64 0))), op 9 (.mov (.c (.int .i64 0)))]) <|
  sq (sq (.ops [op 10 (.mov (.r 0)), op 11 (.mov (.r 2)), op 12 (.iad 1 (.r 10) (.r 11)), op 13 (.ld 1 false (.r 12)), op 14 (.mov (.r 0)), op 15 (.mov (.r 1)), op 16 (.iad 1 (.r 14) (.r 15)), op 17 (.ld 1 false (.r 16)), cl 18 145 [(.r 13), (.r 17)]]) <|
  .cond (.r 18)
    (sq (.ops [op 19 (.mov (.r 3)), op 20 (.nilc (.r 19)), op 21 (.ld 1 false (.r 20)), op 22 (.bin .add (.r 21) (.c (.int .i64 1))), op 23 (.nilc (.r 19)), ef (.st 1 (.r 23) (.r 22))]) <|
    sq (.ops [op 24 (.mov (.r 2)), op 25 (.mov (.r 1)), op 8 (.mov (.r 24)), op 9 (.mov (.r 25))]) <|
    .ret)
    (.skip)) <|
  sq (.ops [op 26 (.mov (.r 1)), op 27 (.mov (.r 2)), op 8 (.mov (.r 26)), op 9 (.mov (.r 27))]) <|
  .ret⟩
def an198 : An := ⟨[], [(4, [(0, true), (1, true), (2, true), (3, true), (4, true), (5, true), (6, true), (7, true), (8, true), (9, true), (10, true), (11, true), (12, true), (13, false), (14, true)]), (6, [(0, true), (1, true), (2, true), (3, true), (4, true), (5, true), (6, true), (7, true), (8, true), (9, true), (10, true), (11, true), (12, true), (13, true), (14, true), (15, false), (16, true), (17, false)])]⟩
def ir198 : Go.Rmp.Fn := ⟨49, 3, [],
  sq (.ops [op 8 (.mov (.r 1)), op 9 (.bin .add (.r 8) (.c (.int .i64 1))), op 6 (.mov (.r 9))]) <|
  .block 0 (
    .loop (
      sq (sq (.ops [op 10 (.mov (.r 6)), op 11 (.mov (.r 2)), op 12 (.bin .lss (.r 10) (.r 11))]) <|
      .cond (.r 12)
        (.skip)
        (.exit 0)) <|
      sq (.block 1 (
        sq (.ops [op 15 (.mov (.r 6)), op 7 (.mov (.r 15))]) <|
        .block 2 (
          .loop (
            sq (sq (.ops [op 16 (.mov (.r 7)), op 17 (.mov (.r 1)), op 18 (.bin .gtr (.r 16) (.r 17)), op 19 (.mov (.r 18)), ⟨(some 20), .b (.mov (.r 0)), (some (19, true)), []⟩, ⟨(some 21), .b (.mov (.r 7)), (some (19, true)), []⟩, ⟨(some 22), .b (.iad 1 (.r 20) (.r 21)), (some (19, true)), []⟩, ⟨(some 23), .b (.ld 1 false (.r 22)), (some (19, true)), []⟩, ⟨(some 24), .b (.mov (.r 0)), (some (19, true)), []⟩, ⟨(some 25), .b (.mov (.r 7)), (some (19, true)), []⟩, ⟨(some 26), .b (.bin .sub (.r 25) (.c (.int .i64 1))), (some (19, true)), []⟩, ⟨(some 27), .b (.iad 1 (.r 24) (.r 26)), (some (19, true)), []⟩, ⟨(some 28), .b (.ld 1 false (.r 27)), (some (19, true)), []⟩, ⟨(some 29), .call 194 [(.r 23), (.r 28)], (some (19, true)), []⟩, op 30 (.pick (.r 19) (.r 29) (.c (.bool false)))]) <|
            .cond (.r 30)
              (.skip)
              (.exit 2)) <|
            sq (.block 3 (
              .ops [op 33 (.mov (.r 0)), op 34 (.mov (.r 7)), op 35 (.mov (.r 0)), op 36 (.mov (.r 7)), op 37 (.bin .sub (.r 36) (.c (.int .i64 1))), op 38 (.mov (.r 0)), op 39 (.mov (.r 7)), op 40 (.bin .sub (.r 39) (.c (.int .i64 1))), op 41 (.iad 1 (.r 38) (.r 40)), op 42 (.ld 1 false (.r 41)), op 43 (.mov (.r 0)), op 44 (.mov (.r 7)), op 45 (.iad 1 (.r 43) (.r 44)), op 46 (.ld 1 false (.r 45)), op 47 (.iad 1 (.r 33) (.r 34)), ef (.st 1 (.r 47) (.r 42)), op 48 (.iad 1 (.r 35) (.r 37)), ef (.st 1 (.r 48) (.r 46))])) <|
            .ops [op 31 (.mov (.r 7)), op 32 (.bin .sub (.r 31) (.c (.int .i64 1))), op 7 (.mov (.r 32))])))) <|
      .ops [op 13 (.mov (.r 6)), op 14 (.bin .add (.r 13) (.c (.int .i64 1))), op 6 (.mov (.r 14))]))⟩
def an199 : An := ⟨[], [(10, [(0, true), (1, true), (2, true), (3, true), (4, true), (5, true), (6, true), (7, true), (8, true), (9, true), (10, true), (11, true), (12, true), (13, true), (14, true), (15, true), (16, true), (17, false), (18, true), (19, false)])]⟩
def ir199 : Go.Rmp.Fn := ⟨56, 3, [],
  sq (.ops [op 11 (.mov (.r 1)), op 6 (.mov (.r 11))]) <|
  sq (.ops [op 7 (.mov (.c (.int .i64 0)))]) <|
  sq (.ops [op 12 (.mov (.r 2)), op 13 (.mov (.r 1)), op 14 (.bin .sub (.r 12) (.r 13)), op 8 (.mov (.r 14))]) <|
  sq (sq (.ops [op 15 (.mov (.r 8)), op 16 (.bin .sub (.r 15) (.c (.int .i64 1))), op 17 (.bin .quo (.r 16) (.c (.int .i64 2))), op 9 (.mov (.r 17))]) <|
  .block 0 (
    .loop (
      sq (sq (.ops [op 18 (.mov (.r 9)), op 19 (.bin .geq (.r 18) (.c (.int .i64 0)))]) <|
      .cond (.r 19)
        (.skip)
        (.exit 0)) <|
      sq (.block 1 (
        .ops [op 22 (.mov (.r 0)), op 23 (.mov (.r 9)), op 24 (.mov (.r 8)), op 25 (.mov (.r 6)), cl 26 210 [(.r 22), (.r 23), (.r 24), (.r 25)]])) <|
      .ops [op 20 (.mov (.r 9)), op 21 (.bin .sub (.r 20) (.c (.int .i64 1))), op 9 (.mov (.r 21))]))) <|
  sq (.ops [op 27 (.mov (.r 8)), op 28 (.bin .sub (.r 27) (.c (.int .i64 1))), op 10 (.mov (.r 28))]) <|
  .block 2 (
    .loop (
      sq (sq (.ops [op 29 (.mov (.r 10)), op 30 (.bin .geq (.r 29) (.c (.int .i64 0)))]) <|
      .cond (.r 30)
        (.skip)
        (.exit 2)) <|
      sq (.block 3 (
        sq (.ops [op 33 (.mov (.r 0)), op 34 (.mov (.r 6)), op 35 (.mov (.r 0)), op 36 (.mov (.r 6)), op 37 (.mov (.r 10)), op 38 (.bin .add (.r 36) (.r 37)), op 39 (.mov (.r 0)), op 40 (.mov (.r 6)), op 41 (.mov (.r 10)), op 42 (.bin .add (.r 40) (.r 41)), op 43 (.iad 1 (.r 39) (.r 42)), op 44 (.ld 1 false (.r 43)), op 45 (.mov (.r 0)), op 46 (.mov (.r 6)), op 47 (.iad 1 (.r 45) (.r 46)), op 48 (.ld 1 false (.r 47)), op 49 (.iad 1 (.r 33) (.r 34)), ef (.st 1 (.r 49) (.r 44)), op 50 (.iad 1 (.r 35) (.r 38)), ef (.st 1 (.r 50) (.r 48))]) <|
        .ops [op 51 (.mov (.r 0)), op 52 (.mov (.r 7)), op 53 (.mov (.r 10)), op 54 (.mov (.r 6)), cl 55 210 [(.r 51), (.r 52), (.r 53), (.r 54)]])) <|
      .ops [op 31 (.mov (.r 10)), op 32 (.bin .sub (.r 31) (.c (.int .i64 1))), op 10 (.mov (.r 32))]))⟩
def an200 : An := ⟨[], [(10, [(0, true), (1, true), (2, true), (3, true), (4, true), (5, true), (6, true), (7, true), (8, true), (9, true), (10, true), (11, true), (12, true), (13, true), (14, true), (15, true), (16, true), (17, false), (18, true), (19, false)])]⟩
def ir200 : Go.Rmp.Fn := ⟨65, 3, [],
  sq (.ops [op 11 (.mov (.r 2)), op 12 (.mov (.r 1)), op 13 (.bin .sub (.r 11) (.r 12)), op 6 (.mov (.r 13))]) <|
  sq (.ops [op 14 (.mov (.r 6)), op 15 (.bin .geq (.r 14) (.c (.int .i64 8)))]) <|
  .cond (.r 15)
    (sq (.ops [op 16 (.mov (.r 6)), op 17 (.cvi .u64 (.r 16)), op 7 (.alloc [.int .u64 0]), ef (.st 1 (.r 7) (.r 17))]) <|
    sq (.ops [op 18 (.mov (.r 6)), cl 19 176 [(.r 18)], op 8 (.mov (.r 19))]) <|
    sq (.ops [op 20 (.mov (.r 1)), op 21 (.mov (.r 6)), op 22 (.bin .quo (.r 21) (.c (.int .i64 4))), op 23 (.bin .mul (.r 22) (.c (.int .i64 2))), op 24 (.bin .add (.r 20) (.r 23)), op 25 (.bin .sub (.r 24) (.c (.int .i64 1))), op 9 (.mov (.r 25))]) <|
    .block 0 (
      .loop (
        sq (sq (.ops [op 26 (.mov (.r 9)), op 27 (.mov (.r 1)), op 28 (.mov (.r 6)), op 29 (.bin .quo (.r 28) (.c (.int .i64 4))), op 30 (.bin .mul (.r 29) (.c (.int .i64 2))), op 31 (.bin .add (.r 27) (.r 30)), op 32 (.bin .add (.r 31) (.c (.int .i64 1))), op 33 (.bin .leq (.r 26) (.r 32))]) <|
        .cond (.r 33)
          (.skip)
          (.exit 0)) <|
        sq (.block 1 (
          sq (.ops [cl 36 177 [(.r 7)], op 37 (.mov (.r 8)), op 38 (.bin .sub (.r 37) (.c (.int .u64 1))), op 39 (.bin .and (.r 36) (.r 38)), op 40 (.cvi .i64 (.r 39)), op 10 (.mov (.r 40))]) <|
          sq (sq (.ops [op 41 (.mov (.r 10)), op 42 (.mov (.r 6)), op 43 (.bin .geq (.r 41) (.r 42))]) <|
          .cond (.r 43)
            (.ops [op 44 (.mov (.r 10)), op 45 (.mov (.r 6)), op 46 (.bin .sub (.r 44) (.r 45)), op 10 (.mov (.r 46))])
            (.skip)) <|
          .ops [op 47 (.mov (.r 0)), op 48 (.mov (.r 9)), op 49 (.mov (.r 0)), op 50 (.mov (.r 1)), op 51 (.mov (.r 10)), op 52 (.bin .add (.r 50) (.r 51)), op 53 (.mov (.r 0)), op 54 (.mov (.r 1)), op 55 (.mov (.r 10)), op 56 (.bin .add (.r 54) (.r 55)), op 57 (.iad 1 (.r 53) (.r 56)), op 58 (.ld 1 false (.r 57)), op 59 (.mov (.r 0)), op 60 (.mov (.r 9)), op 61 (.iad 1 (.r 59) (.r 60)), op 62 (.ld 1 false (.r 61)), op 63 (.iad 1 (.r 47) (.r 48)), ef (.st 1 (.r 63) (.r 58)), op 64 (.iad 1 (.r 49) (.r 52)), ef (.st 1 (.r 64) (.r 62))])) <|
        .ops [op 34 (.mov (.r 9)), op 35 (.bin .add (.r 34) (.c (.int .i64 1))), op 9 (.mov (.r 35))])))
    (.skip)⟩
def an201 : An := ⟨[], []⟩
def ir201 : Go.Rmp.Fn := ⟨57, 3, [.t 6, .t 7],
  sq (.ops [op 6 (.mov (.c (.int .i64 0))), op 7 (.mov (.c (.int .i64 0)))]) <|
  sq (.ops [op 13 (.mov (.r 2)), op 14 (.mov (.r 1)), op 15 (.bin .sub (.r 13) (.r 14)), op 8 (.mov (.r 15))]) <|
  sq (.ops [op 9 (.alloc [.int .i64 0])]) <|
  sq (.ops [op 16 (.mov (.r 1)), op 17 (.mov (.r 8)), op 18 (.bin .quo (.r 17) (.c (.int .i64 4))), op 19 (.bin .mul (.r 18) (.c (.int .i64 1))), op 20 (.bin .add (.r 16) (.r 19)), op 10 (.mov (.r 20))]) <|
  sq (.ops [op 21 (.mov (.r 1)), op 22 (.mov (.r 8)), op 23 (.bin .quo (.r 22) (.c (.int .i64 4))), op 24 (.bin .mul (.r 23) (.c (.int .i64 2))), op 25 (.bin .add (.r 21) (.r 24)), op 11 (.mov (.r 25))]) <|
  sq (.ops [op 26 (.mov (.r 1)), op 27 (.mov (.r 8)), op 28 (.bin .quo (.r 27) (.c (.int .i64 4))), op 29 (.bin .mul (.r 28) (.c (.int .i64 3))), op 30 (.bin .add (.r 26) (.r 29)), op 12 (.mov (.r 30))]) <|
  sq (sq (.ops [op 31 (.mov (.r 8)), op 32 (.bin .geq (.r 31) (.c (.int .i64 8)))]) <|
  .cond (.r 32)
    (sq (sq (.ops [op 33 (.mov (.r 8)), op 34 (.bin .geq (.r 33) (.c (.int .i64 50)))]) <|
    .cond (.r 34)
      (sq (.ops [op 35 (.mov (.r 0)), op 36 (.mov (.r 10)), cl 37 211 [(.r 35), (.r 36), (.r 9)], op 10 (.mov (.r 37))]) <|
      sq (.ops [op 38 (.mov (.r 0)), op 39 (.mov (.r 11)), cl 40 211 [(.r 38), (.r 39), (.r 9)], op 11 (.mov (.r 40))]) <|
      .ops [op 41 (.mov (.r 0)), op 42 (.mov (.r 12)), cl 43 211 [(.r 41), (.r 42), (.r 9)], op 12 (.mov (.r 43))])
      (.skip)) <|
    .ops [op 44 (.mov (.r 0)), op 45 (.mov (.r 10)), op 46 (.mov (.r 11)), op 47 (.mov (.r 12)), cl 48 212 [(.r 44), (.r 45), (.r 46), (.r 47), (.r 9)], op 11 (.mov (.r 48))])
    (.skip)) <|
  sq (.ops [op 49 (.ld 1 false (.r 9))]) <|
  .block 0 (
    sq (.ops [op 52 (.bin .eql (.r 49) (.c (.int .i64 0))), op 51 (.mov (.r 52))]) <|
    .cond (.r 51)
      (sq (.ops [op 53 (.mov (.r 11)), op 6 (.mov (.r 53)), op 7 (.mov (.c (.int .i64 1)))]) <|
      .ret)
      (sq (.ops [op 55 (.bin .eql (.r 49) (.c (.int .i64 12))), op 54 (.mov (.r 55))]) <|
      .cond (.r 54)
        (sq (.ops [op 56 (.mov (.r 11)), op 6 (.mov (.r 56)), op 7 (.mov (.c (.int .i64 2)))]) <|
        .ret)
        (sq (.ops [op 50 (.mov (.r 11)), op 6 (.mov (.r 50)), op 7 (.mov (.c (.int .i64 0)))]) <|
        .ret)))⟩
def an202 : An := ⟨[], [(3, [(0, true), (1, true), (2, true), (3, true), (4, true), (5, true), (6, true), (7, true), (8, true), (9, true), (10, true), (11, true), (12, true), (13, false), (14, true), (15, false)])]⟩
def ir202 : Go.Rmp.Fn := ⟨32, 3, [],
  sq (.ops [op 8 (.mov (.r 1)), op 6 (.mov (.r 8))]) <|
  sq (.ops [op 9 (.mov (.r 2)), op 10 (.bin .sub (.r 9) (.c (.int .i64 1))), op 7 (.mov (.r 10))]) <|
  .block 0 (
    .loop (
      sq (sq (.ops [op 11 (.mov (.r 6)), op 12 (.mov (.r 7)), op 13 (.bin .lss (.r 11) (.r 12))]) <|
      .cond (.r 13)
        (.skip)
        (.exit 0)) <|
      .block 1 (
        sq (.ops [op 14 (.mov (.r 0)), op 15 (.mov (.r 6)), op 16 (.mov (.r 0)), op 17 (.mov (.r 7)), op 18 (.mov (.r 0)), op 19 (.mov (.r 7)), op 20 (.iad 1 (.r 18) (.r 19)), op 21 (.ld 1 false (.r 20)), op 22 (.mov (.r 0)), op 23 (.mov (.r 6)), op 24 (.iad 1 (.r 22) (.r 23)), op 25 (.ld 1 false (.r 24)), op 26 (.iad 1 (.r 14) (.r 15)), ef (.st 1 (.r 26) (.r 21)), op 27 (.iad 1 (.r 16) (.r 17)), ef (.st 1 (.r 27) (.r 25))]) <|
        sq (.ops [op 28 (.mov (.r 6)), op 29 (.bin .add (.r 28) (.c (.int .i64 1))), op 6 (.mov (.r 29))]) <|
        .ops [op 30 (.mov (.r 7)), op 31 (.bin .sub (.r 30) (.c (.int .i64 1))), op 7 (.mov (.r 31))])))⟩
def an203 : An := ⟨[], [(5, [(0, true), (1, true), (2, true), (3, true), (4, true), (5, true), (6, true), (7, true), (8, true), (9, true), (10, true), (11, true), (12, true), (13, false), (14, true), (15, true)]), (11, [(0, true), (1, true), (2, true), (3, true), (4, true), (5, true), (6, true), (7, true), (8, true), (9, true), (10, true), (11, true), (12, true), (13, true), (14, true), (15, false), (16, true), (17, false)]), (16, [(0, true), (1, true), (2, true), (3, true), (4, true), (5, true), (6, true), (7, true), (8, true), (9, false), (10, true)]), (17, [(0, true), (1, true), (2, true), (3, true), (4, true), (5, true), (6, true), (7, true), (8, true), (9, true), (10, true), (11, true), (12, true), (13, true), (14, true), (15, false), (16, true), (17, false)]), (22, [(0, true), (1, true), (2, true), (3, true), (4, true), (5, true), (6, true), (7, true), (8, true), (9, false), (10, true)]), (23, [(0, true), (1, true), (2, true), (3, true), (4, true), (5, true), (6, true), (7, true), (8, true), (9, true), (10, true), (11, true), (12, true), (13, true), (14, true), (15, false), (16, true), (17, false)])]⟩
def ir203 : Go.Rmp.Fn := ⟨133, 3, [.t 6],
  sq (.ops [op 6 (.mov (.c (.bool false)))]) <|
  sq (.ops [op 11 (.mov (.r 1)), op 12 (.bin .add (.r 11) (.c (.int .i64 1))), op 7 (.mov (.r 12))]) <|
  sq (sq (.ops [op 8 (.mov (.c (.int .i64 0)))]) <|
  .block 0 (
    .loop (
      sq (sq (.ops [op 13 (.mov (.r 8)), op 14 (.bin .lss (.r 13) (.c (.int .i64 5)))]) <|
      .cond (.r 14)
        (.skip)
        (.exit 0)) <|
      sq (.block 1 (
        sq (.block 2 (
          .loop (
            sq (sq (.ops [op 17 (.mov (.r 7)), op 18 (.mov (.r 2)), op 19 (.bin .lss (.r 17) (.r 18)), op 20 (.mov (.r 19)), ⟨(some 21), .b (.mov (.r 0)), (some (20, true)), []⟩, ⟨(some 22), .b (.mov (.r 7)), (some (20, true)), []⟩, ⟨(some 23), .b (.iad 1 (.r 21) (.r 22)), (some (20, true)), []⟩, ⟨(some 24), .b (.ld 1 false (.r 23)), (some (20, true)), []⟩, ⟨(some 25), .b (.mov (.r 0)), (some (20, true)), []⟩, ⟨(some 26), .b (.mov (.r 7)), (some (20, true)), []⟩, ⟨(some 27), .b (.bin .sub (.r 26) (.c (.int .i64 1))), (some (20, true)), []⟩, ⟨(some 28), .b (.iad 1 (.r 25) (.r 27)), (some (20, true)), []⟩, ⟨(some 29), .b (.ld 1 false (.r 28)), (some (20, true)), []⟩, ⟨(some 30), .call 194 [(.r 24), (.r 29)], (some (20, true)), []⟩, ⟨(some 31), .b (.un .not (.r 30)), (some (20, true)), []⟩, op 32 (.pick (.r 20) (.r 31) (.c (.bool false)))]) <|
            .cond (.r 32)
              (.skip)
              (.exit 2)) <|
            .block 3 (
              .ops [op 33 (.mov (.r 7)), op 34 (.bin .add (.r 33) (.c (.int .i64 1))), op 7 (.mov (.r 34))])))) <|
        sq (sq (.ops [op 35 (.mov (.r 7)), op 36 (.mov (.r 2)), op 37 (.bin .eql (.r 35) (.r 36))]) <|
        .cond (.r 37)
          (sq (.ops [op 6 (.mov (.c (.bool true)))]) <|
          .ret)
          (.skip)) <|
        sq (sq (.ops [op 38 (.mov (.r 2)), op 39 (.mov (.r 1)), op 40 (.bin .sub (.r 38) (.r 39)), op 41 (.bin .lss (.r 40) (.c (.int .i64 50)))]) <|
        .cond (.r 41)
          (sq (.ops [op 6 (.mov (.c (.bool false)))]) <|
          .ret)
          (.skip)) <|
        sq (.ops [op 42 (.mov (.r 0)), op 43 (.mov (.r 7)), op 44 (.mov (.r 0)), op 45 (.mov (.r 7)), op 46 (.bin .sub (.r 45) (.c (.int .i64 1))), op 47 (.mov (.r 0)), op 48 (.mov (.r 7)), op 49 (.bin .sub (.r 48) (.c (.int .i64 1))), op 50 (.iad 1 (.r 47) (.r 49)), op 51 (.ld 1 false (.r 50)), op 52 (.mov (.r 0)), op 53 (.mov (.r 7)), op 54 (.iad 1 (.r 52) (.r 53)), op 55 (.ld 1 false (.r 54)), op 56 (.iad 1 (.r 42) (.r 43)), ef (.st 1 (.r 56) (.r 51)), op 57 (.iad 1 (.r 44) (.r 46)), ef (.st 1 (.r 57) (.r 55))]) <|
        sq (sq (.ops [op 58 (.mov (.r 7)), op 59 (.mov (.r 1)), op 60 (.bin .sub (.r 58) (.r 59)), op 61 (.bin .geq (.r 60) (.c (.int .i64 2)))]) <|
        .cond (.r 61)
          (sq (.ops [op 62 (.mov (.r 7)), op 63 (.bin .sub (.r 62) (.c (.int .i64 1))), op 9 (.mov (.r 63))]) <|
          .block 4 (
            .loop (
              sq (sq (.ops [op 64 (.mov (.r 9)), op 65 (.bin .geq (.r 64) (.c (.int .i64 1)))]) <|
              .cond (.r 65)
                (.skip)
                (.exit 4)) <|
              sq (.block 5 (
                sq (sq (.ops [op 68 (.mov (.r 0)), op 69 (.mov (.r 9)), op 70 (.iad 1 (.r 68) (.r 69)), op 71 (.ld 1 false (.r 70)), op 72 (.mov (.r 0)), op 73 (.mov (.r 9)), op 74 (.bin .sub (.r 73) (.c (.int .i64 1))), op 75 (.iad 1 (.r 72) (.r 74)), op 76 (.ld 1 false (.r 75)), cl 77 194 [(.r 71), (.r 76)], op 78 (.un .not (.r 77))]) <|
                .cond (.r 78)
                  (.exit 4)
                  (.skip)) <|
                .ops [op 79 (.mov (.r 0)), op 80 (.mov (.r 9)), op 81 (.mov (.r 0)), op 82 (.mov (.r 9)), op 83 (.bin .sub (.r 82) (.c (.int .i64 1))), op 84 (.mov (.r 0)), op 85 (.mov (.r 9)), op 86 (.bin .sub (.r 85) (.c (.int .i64 1))), op 87 (.iad 1 (.r 84) (.r 86)), op 88 (.ld 1 false (.r 87)), op 89 (.mov (.r 0)), op 90 (.mov (.r 9)), op 91 (.iad 1 (.r 89) (.r 90)), op 92 (.ld 1 false (.r 91)), op 93 (.iad 1 (.r 79) (.r 80)), ef (.st 1 (.r 93) (.r 88)), op 94 (.iad 1 (.r 81) (.r 83)), ef (.st 1 (.r 94) (.r 92))])) <|
              .ops [op 66 (.mov (.r 9)), op 67 (.bin .sub (.r 66) (.c (.int .i64 1))), op 9 (.mov (.r 67))])))
          (.skip)) <|
        sq (.ops [op 95 (.mov (.r 2)), op 96 (.mov (.r 7)), op 97 (.bin .sub (.r 95) (.r 96)), op 98 (.bin .geq (.r 97) (.c (.int .i64 2)))]) <|
        .cond (.r 98)
          (sq (.ops [op 99 (.mov (.r 7)), op 100 (.bin .add (.r 99) (.c (.int .i64 1))), op 10 (.mov (.r 100))]) <|
          .block 6 (
            .loop (
              sq (sq (.ops [op 101 (.mov (.r 10)), op 102 (.mov (.r 2)), op 103 (.bin .lss (.r 101) (.r 102))]) <|
              .cond (.r 103)
                (.skip)
                (.exit 6)) <|
              sq (.block 7 (
                sq (sq (.ops [op 106 (.mov (.r 0)), op 107 (.mov (.r 10)), op 108 (.iad 1 (.r 106) (.r 107)), op 109 (.ld 1 false (.r 108)), op 110 (.mov (.r 0)), op 111 (.mov (.r 10)), op 112 (.bin .sub (.r 111) (.c (.int .i64 1))), op 113 (.iad 1 (.r 110) (.r 112)), op 114 (.ld 1 false (.r 113)), cl 115 194 [(.r 109), (.r 114)], op 116 (.un .not (.r 115))]) <|
                .cond (.r 116)
                  (.exit 6)
                  (.skip)) <|
                .ops [op 117 (.mov (.r 0)), op 118 (.mov (.r 10)), op 119 (.mov (.r 0)), op 120 (.mov (.r 10)), op 121 (.bin .sub (.r 120) (.c (.int .i64 1))), op 122 (.mov (.r 0)), op 123 (.mov (.r 10)), op 124 (.bin .sub (.r 123) (.c (.int .i64 1))), op 125 (.iad 1 (.r 122) (.r 124)), op 126 (.ld 1 false (.r 125)), op 127 (.mov (.r 0)), op 128 (.mov (.r 10)), op 129 (.iad 1 (.r 127) (.r 128)), op 130 (.ld 1 false (.r 129)), op 131 (.iad 1 (.r 117) (.r 118)), ef (.st 1 (.r 131) (.r 126)), op 132 (.iad 1 (.r 119) (.r 121)), ef (.st 1 (.r 132) (.r 130))])) <|
              .ops [op 104 (.mov (.r 10)), op 105 (.bin .add (.r 104) (.c (.int .i64 1))), op 10 (.mov (.r 105))])))
          (.skip))) <|
      .ops [op 15 (.mov (.r 8)), op 16 (.bin .add (.r 15) (.c (.int .i64 1))), op 8 (.mov (.r 16))]))) <|
  sq (.ops [op 6 (.mov (.c (.bool false)))]) <|
  .ret⟩
def an204 : An := ⟨[], [(1, [(0, true), (1, true), (2, true), (3, true), (4, true), (5, true), (6, true), (7, true), (8, true), (9, true), (10, true), (11, true), (12, true), (13, false), (14, true), (15, false)]), (3, [(0, true), (1, true), (2, true), (3, true), (4, true), (5, true), (6, true), (7, true), (8, true), (9, true), (10, true), (11, true), (12, false), (13, true), (14, true)]), (5, [(0, true), (1, true), (2, true), (3, true), (4, true), (5, true), (6, true), (7, true), (8, true), (9, true), (10, true), (11, true), (12, false), (13, true)]), (8, [(0, true), (1, true), (2, true), (3, true), (4, true), (5, true), (6, true), (7, true), (8, true), (9, true), (10, true), (11, true), (12, true), (13, false), (14, true), (15, false)])]⟩
def ir204 : Go.Rmp.Fn := ⟨84, 4, [.t 8],
  sq (.ops [op 8 (.mov (.c (.int .i64 0)))]) <|
  sq (.ops [op 11 (.mov (.r 0)), op 12 (.mov (.r 1)), op 13 (.mov (.r 0)), op 14 (.mov (.r 3)), op 15 (.mov (.r 0)), op 16 (.mov (.r 3)), op 17 (.iad 1 (.r 15) (.r 16)), op 18 (.ld 1 false (.r 17)), op 19 (.mov (.r 0)), op 20 (.mov (.r 1)), op 21 (.iad 1 (.r 19) (.r 20)), op 22 (.ld 1 false (.r 21)), op 23 (.iad 1 (.r 11) (.r 12)), ef (.st 1 (.r 23) (.r 18)), op 24 (.iad 1 (.r 13) (.r 14)), ef (.st 1 (.r 24) (.r 22))]) <|
  sq (.ops [op 25 (.mov (.r 1)), op 26 (.bin .add (.r 25) (.c (.int .i64 1))), op 27 (.mov (.r 2)), op 28 (.bin .sub (.r 27) (.c (.int .i64 1))), op 9 (.mov (.r 26)), op 10 (.mov (.r 28))]) <|
  sq (.block 0 (
    .loop (
      .block 1 (
        sq (.block 2 (
          .loop (
            sq (sq (.ops [op 29 (.mov (.r 9)), op 30 (.mov (.r 10)), op 31 (.bin .leq (.r 29) (.r 30)), op 32 (.mov (.r 31)), ⟨(some 33), .b (.mov (.r 0)), (some (32, true)), []⟩, ⟨(some 34), .b (.mov (.r 1)), (some (32, true)), []⟩, ⟨(some 35), .b (.iad 1 (.r 33) (.r 34)), (some (32, true)), []⟩, ⟨(some 36), .b (.ld 1 false (.r 35)), (some (32, true)), []⟩, ⟨(some 37), .b (.mov (.r 0)), (some (32, true)), []⟩, ⟨(some 38), .b (.mov (.r 9)), (some (32, true)), []⟩, ⟨(some 39), .b (.iad 1 (.r 37) (.r 38)), (some (32, true)), []⟩, ⟨(some 40), .b (.ld 1 false (.r 39)), (some (32, true)), []⟩, ⟨(some 41), .call 194 [(.r 36), (.r 40)], (some (32, true)), []⟩, ⟨(some 42), .b (.un .not (.r 41)), (some (32, true)), []⟩, op 43 (.pick (.r 32) (.r 42) (.c (.bool false)))]) <|
            .cond (.r 43)
              (.skip)
              (.exit 2)) <|
            .block 3 (
              .ops [op 44 (.mov (.r 9)), op 45 (.bin .add (.r 44) (.c (.int .i64 1))), op 9 (.mov (.r 45))])))) <|
        sq (.block 4 (
          .loop (
            sq (sq (.ops [op 46 (.mov (.r 9)), op 47 (.mov (.r 10)), op 48 (.bin .leq (.r 46) (.r 47)), op 49 (.mov (.r 48)), ⟨(some 50), .b (.mov (.r 0)), (some (49, true)), []⟩, ⟨(some 51), .b (.mov (.r 1)), (some (49, true)), []⟩, ⟨(some 52), .b (.iad 1 (.r 50) (.r 51)), (some (49, true)), []⟩, ⟨(some 53), .b (.ld 1 false (.r 52)), (some (49, true)), []⟩, ⟨(some 54), .b (.mov (.r 0)), (some (49, true)), []⟩, ⟨(some 55), .b (.mov (.r 10)), (some (49, true)), []⟩, ⟨(some 56), .b (.iad 1 (.r 54) (.r 55)), (some (49, true)), []⟩, ⟨(some 57), .b (.ld 1 false (.r 56)), (some (49, true)), []⟩, ⟨(some 58), .call 194 [(.r 53), (.r 57)], (some (49, true)), []⟩, op 59 (.pick (.r 49) (.r 58) (.c (.bool false)))]) <|
            .cond (.r 59)
              (.skip)
              (.exit 4)) <|
            .block 5 (
              .ops [op 60 (.mov (.r 10)), op 61 (.bin .sub (.r 60) (.c (.int .i64 1))), op 10 (.mov (.r 61))])))) <|
        sq (sq (.ops [op 62 (.mov (.r 9)), op 63 (.mov (.r 10)), op 64 (.bin .gtr (.r 62) (.r 63))]) <|
        .cond (.r 64)
          (.exit 0)
          (.skip)) <|
        sq (.ops [op 65 (.mov (.r 0)), op 66 (.mov (.r 9)), op 67 (.mov (.r 0)), op 68 (.mov (.r 10)), op 69 (.mov (.r 0)), op 70 (.mov (.r 10)), op 71 (.iad 1 (.r 69) (.r 70)), op 72 (.ld 1 false (.r 71)), op 73 (.mov (.r 0)), op 74 (.mov (.r 9)), op 75 (.iad 1 (.r 73) (.r 74)), op 76 (.ld 1 false (.r 75)), op 77 (.iad 1 (.r 65) (.r 66)), ef (.st 1 (.r 77) (.r 72)), op 78 (.iad 1 (.r 67) (.r 68)), ef (.st 1 (.r 78) (.r 76))]) <|
        sq (.ops [op 79 (.mov (.r 9)), op 80 (.bin .add (.r 79) (.c (.int .i64 1))), op 9 (.mov (.r 80))]) <|
        .ops [op 81 (.mov (.r 10)), op 82 (.bin .sub (.r 81) (.c (.int .i64 1))), op 10 (.mov (.r 82))])))) <|
  sq (.ops [op 83 (.mov (.r 9)), op 8 (.mov (.r 83))]) <|
  .ret⟩
def an205 : An := ⟨[], [(1, [(0, true), (1, true), (2, true), (3, true), (4, true), (5, true), (6, true), (7, true), (8, true), (9, true), (10, true), (11, true), (12, true), (13, false), (14, true), (15, false)]), (3, [(0, true), (1, true), (2, true), (3, true), (4, true), (5, true), (6, true), (7, true), (8, true), (9, true), (10, true), (11, true), (12, false), (13, true)]), (5, [(0, true), (1, true), (2, true), (3, true), (4, true), (5, true), (6, true), (7, true), (8, true), (9, true), (10, true), (11, true), (12, false), (13, true), (14, true)]), (8, [(0, true), (1, true), (2, true), (3, true), (4, true), (5, true), (6, true), (7, true), (8, true), (9, true), (10, true), (11, true), (12, true), (13, false), (14, true), (15, false)]), (10, [(0, true), (1, true), (2, true), (3, true), (4, true), (5, true), (6, true), (7, true), (8, true), (9, true), (10, true), (11, true), (12, true), (13, false), (14, true), (15, false)]), (13, [(0, true), (1, true), (2, true), (3, true), (4, true), (5, true), (6, true), (7, true), (8, true), (9, true), (10, true), (11, true), (12, false), (13, true)]), (15, [(0, true), (1, true), (2, true), (3, true), (4, true), (5, true), (6, true), (7, true), (8, true), (9, true), (10, true), (11, true), (12, false), (13, true), (14, true)]), (18, [(0, true), (1, true), (2, true), (3, true), (4, true), (5, true), (6, true), (7, true), (8, true), (9, true), (10, true), (11, true), (12, true), (13, false), (14, true), (15, false)]), (21, [(0, true), (1, true), (2, true), (3, true), (4, true), (5, true), (6, true), (7, true), (8, true), (9, true), (10, true), (11, true), (12, true), (13, false), (14, true), (15, false)])]⟩
def ir205 : Go.Rmp.Fn := ⟨168, 4, [.t 8, .t 9],
  sq (.ops [op 8 (.mov (.c (.int .i64 0))), op 9 (.mov (.c (.bool false)))]) <|
  sq (.ops [op 12 (.mov (.r 0)), op 13 (.mov (.r 1)), op 14 (.mov (.r 0)), op 15 (.mov (.r 3)), op 16 (.mov (.r 0)), op 17 (.mov (.r 3)), op 18 (.iad 1 (.r 16) (.r 17)), op 19 (.ld 1 false (.r 18)), op 20 (.mov (.r 0)), op 21 (.mov (.r 1)), op 22 (.iad 1 (.r 20) (.r 21)), op 23 (.ld 1 false (.r 22)), op 24 (.iad 1 (.r 12) (.r 13)), ef (.st 1 (.r 24) (.r 19)), op 25 (.iad 1 (.r 14) (.r 15)), ef (.st 1 (.r 25) (.r 23))]) <|
  sq (.ops [op 26 (.mov (.r 1)), op 27 (.bin .add (.r 26) (.c (.int .i64 1))), op 28 (.mov (.r 2)), op 29 (.bin .sub (.r 28) (.c (.int .i64 1))), op 10 (.mov (.r 27)), op 11 (.mov (.r 29))]) <|
  sq (.block 0 (
    .loop (
      sq (sq (.ops [op 30 (.mov (.r 10)), op 31 (.mov (.r 11)), op 32 (.bin .leq (.r 30) (.r 31)), op 33 (.mov (.r 32)), ⟨(some 34), .b (.mov (.r 0)), (some (33, true)), []⟩, ⟨(some 35), .b (.mov (.r 10)), (some (33, true)), []⟩, ⟨(some 36), .b (.iad 1 (.r 34) (.r 35)), (some (33, true)), []⟩, ⟨(some 37), .b (.ld 1 false (.r 36)), (some (33, true)), []⟩, ⟨(some 38), .b (.mov (.r 0)), (some (33, true)), []⟩, ⟨(some 39), .b (.mov (.r 1)), (some (33, true)), []⟩, ⟨(some 40), .b (.iad 1 (.r 38) (.r 39)), (some (33, true)), []⟩, ⟨(some 41), .b (.ld 1 false (.r 40)), (some (33, true)), []⟩, ⟨(some 42), .call 194 [(.r 37), (.r 41)], (some (33, true)), []⟩, op 43 (.pick (.r 33) (.r 42) (.c (.bool false)))]) <|
      .cond (.r 43)
        (.skip)
        (.exit 0)) <|
      .block 1 (
        .ops [op 44 (.mov (.r 10)), op 45 (.bin .add (.r 44) (.c (.int .i64 1))), op 10 (.mov (.r 45))])))) <|
  sq (.block 2 (
    .loop (
      sq (sq (.ops [op 46 (.mov (.r 10)), op 47 (.mov (.r 11)), op 48 (.bin .leq (.r 46) (.r 47)), op 49 (.mov (.r 48)), ⟨(some 50), .b (.mov (.r 0)), (some (49, true)), []⟩, ⟨(some 51), .b (.mov (.r 11)), (some (49, true)), []⟩, ⟨(some 52), .b (.iad 1 (.r 50) (.r 51)), (some (49, true)), []⟩, ⟨(some 53), .b (.ld 1 false (.r 52)), (some (49, true)), []⟩, ⟨(some 54), .b (.mov (.r 0)), (some (49, true)), []⟩, ⟨(some 55), .b (.mov (.r 1)), (some (49, true)), []⟩, ⟨(some 56), .b (.iad 1 (.r 54) (.r 55)), (some (49, true)), []⟩, ⟨(some 57), .b (.ld 1 false (.r 56)), (some (49, true)), []⟩, ⟨(some 58), .call 194 [(.r 53), (.r 57)], (some (49, true)), []⟩, ⟨(some 59), .b (.un .not (.r 58)), (some (49, true)), []⟩, op 60 (.pick (.r 49) (.r 59) (.c (.bool false)))]) <|
      .cond (.r 60)
        (.skip)
        (.exit 2)) <|
      .block 3 (
        .ops [op 61 (.mov (.r 11)), op 62 (.bin .sub (.r 61) (.c (.int .i64 1))), op 11 (.mov (.r 62))])))) <|
  sq (sq (.ops [op 63 (.mov (.r 10)), op 64 (.mov (.r 11)), op 65 (.bin .gtr (.r 63) (.r 64))]) <|
  .cond (.r 65)
    (sq (.ops [op 66 (.mov (.r 0)), op 67 (.mov (.r 11)), op 68 (.mov (.r 0)), op 69 (.mov (.r 1)), op 70 (.mov (.r 0)), op 71 (.mov (.r 1)), op 72 (.iad 1 (.r 70) (.r 71)), op 73 (.ld 1 false (.r 72)), op 74 (.mov (.r 0)), op 75 (.mov (.r 11)), op 76 (.iad 1 (.r 74) (.r 75)), op 77 (.ld 1 false (.r 76)), op 78 (.iad 1 (.r 66) (.r 67)), ef (.st 1 (.r 78) (.r 73)), op 79 (.iad 1 (.r 68) (.r 69)), ef (.st 1 (.r 79) (.r 77))]) <|
    sq (.ops [op 80 (.mov (.r 11)), op 8 (.mov (.r 80)), op 9 (.mov (.c (.bool true)))]) <|
    .ret)
    (.skip)) <|
  sq (.ops [op 81 (.mov (.r 0)), op 82 (.mov (.r 10)), op 83 (.mov (.r 0)), op 84 (.mov (.r 11)), op 85 (.mov (.r 0)), op 86 (.mov (.r 11)), op 87 (.iad 1 (.r 85) (.r 86)), op 88 (.ld 1 false (.r 87)), op 89 (.mov (.r 0)), op 90 (.mov (.r 10)), op 91 (.iad 1 (.r 89) (.r 90)), op 92 (.ld 1 false (.r 91)), op 93 (.iad 1 (.r 81) (.r 82)), ef (.st 1 (.r 93) (.r 88)), op 94 (.iad 1 (.r 83) (.r 84)), ef (.st 1 (.r 94) (.r 92))]) <|
  sq (.ops [op 95 (.mov (.r 10)), op 96 (.bin .add (.r 95) (.c (.int .i64 1))), op 10 (.mov (.r 96))]) <|
  sq (.ops [op 97 (.mov (.r 11)), op 98 (.bin .sub (.r 97) (.c (.int .i64 1))), op 11 (.mov (.r 98))]) <|
  sq (.block 4 (
    .loop (
      .block 5 (
        sq (.block 6 (
          .loop (
            sq (sq (.ops [op 99 (.mov (.r 10)), op 100 (.mov (.r 11)), op 101 (.bin .leq (.r 99) (.r 100)), op 102 (.mov (.r 101)), ⟨(some 103), .b (.mov (.r 0)), (some (102, true)), []⟩, ⟨(some 104), .b (.mov (.r 10)), (some (102, true)), []⟩, ⟨(some 105), .b (.iad 1 (.r 103) (.r 104)), (some (102, true)), []⟩, ⟨(some 106), .b (.ld 1 false (.r 105)), (some (102, true)), []⟩, ⟨(some 107), .b (.mov (.r 0)), (some (102, true)), []⟩, ⟨(some 108), .b (.mov (.r 1)), (some (102, true)), []⟩, ⟨(some 109), .b (.iad 1 (.r 107) (.r 108)), (some (102, true)), []⟩, ⟨(some 110), .b (.ld 1 false (.r 109)), (some (102, true)), []⟩, ⟨(some 111), .call 194 [(.r 106), (.r 110)], (some (102, true)), []⟩, op 112 (.pick (.r 102) (.r 111) (.c (.bool false)))]) <|
            .cond (.r 112)
              (.skip)
              (.exit 6)) <|
            .block 7 (
              .ops [op 113 (.mov (.r 10)), op 114 (.bin .add (.r 113) (.c (.int .i64 1))), op 10 (.mov (.r 114))])))) <|
        sq (.block 8 (
          .loop (
            sq (sq (.ops [op 115 (.mov (.r 10)), op 116 (.mov (.r 11)), op 117 (.bin .leq (.r 115) (.r 116)), op 118 (.mov (.r 117)), ⟨(some 119), .b (.mov (.r 0)), (some (118, true)), []⟩, ⟨(some 120), .b (.mov (.r 11)), (some (118, true)), []⟩, ⟨(some 121), .b (.iad 1 (.r 119) (.r 120)), (some (118, true)), []⟩, ⟨(some 122), .b (.ld 1 false (.r 121)), (some (118, true)), []⟩, ⟨(some 123), .b (.mov (.r 0)), (some (118, true)), []⟩, ⟨(some 124), .b (.mov (.r 1)), (some (118, true)), []⟩, ⟨(some 125), .b (.iad 1 (.r 123) (.r 124)), (some (118, true)), []⟩, ⟨(some 126), .b (.ld 1 false (.r 125)), (some (118, true)), []⟩, ⟨(some 127), .call 194 [(.r 122), (.r 126)], (some (118, true)), []⟩, ⟨(some 128), .b (.un .not (.r 127)), (some (118, true)), []⟩, op 129 (.pick (.r 118) (.r 128) (.c (.bool false)))]) <|
            .cond (.r 129)
              (.skip)
              (.exit 8)) <|
            .block 9 (
              .ops [op 130 (.mov (.r 11)), op 131 (.bin .sub (.r 130) (.c (.int .i64 1))), op 11 (.mov (.r 131))])))) <|
        sq (sq (.ops [op 132 (.mov (.r 10)), op 133 (.mov (.r 11)), op 134 (.bin .gtr (.r 132) (.r 133))]) <|
        .cond (.r 134)
          (.exit 4)
          (.skip)) <|
        sq (.ops [op 135 (.mov (.r 0)), op 136 (.mov (.r 10)), op 137 (.mov (.r 0)), op 138 (.mov (.r 11)), op 139 (.mov (.r 0)), op 140 (.mov (.r 11)), op 141 (.iad 1 (.r 139) (.r 140)), op 142 (.ld 1 false (.r 141)), op 143 (.mov (.r 0)), op 144 (.mov (.r 10)), op 145 (.iad 1 (.r 143) (.r 144)), op 146 (.ld 1 false (.r 145)), op 147 (.iad 1 (.r 135) (.r 136)), ef (.st 1 (.r 147) (.r 142)), op 148 (.iad 1 (.r 137) (.r 138)), ef (.st 1 (.r 148) (.r 146))]) <|
        sq (.ops [op 149 (.mov (.r 10)), op 150 (.bin .add (.r 149) (.c (.int .i64 1))), op 10 (.mov (.r 150))]) <|
        .ops [op 151 (.mov (.r 11)), op 152 (.bin .sub (.r 151) (.c (.int .i64 1))), op 11 (.mov (.r 152))])))) <|
  sq (.ops [op 153 (.mov (.r 0)), op 154 (.mov (.r 11)), op 155 (.mov (.r 0)), op 156 (.mov (.r 1)), op 157 (.mov (.r 0)), op 158 (.mov (.r 1)), op 159 (.iad 1 (.r 157) (.r 158)), op 160 (.ld 1 false (.r 159)), op 161 (.mov (.r 0)), op 162 (.mov (.r 11)), op 163 (.iad 1 (.r 161) (.r 162)), op 164 (.ld 1 false (.r 163)), op 165 (.iad 1 (.r 153) (.r 154)), ef (.st 1 (.r 165) (.r 160)), op 166 (.iad 1 (.r 155) (.r 156)), ef (.st 1 (.r 166) (.r 164))]) <|
  sq (.ops [op 167 (.mov (.r 11)), op 8 (.mov (.r 167)), op 9 (.mov (.c (.bool false)))]) <|
  .ret⟩
def an210 : An := ⟨[], [(3, [(0, true), (1, true), (2, true), (3, true), (4, true), (5, true), (6, true), (7, true), (8, true), (9, true), (10, true), (11, true), (12, true), (13, true), (14, true), (15, true), (16, true), (17, true), (18, false), (19, true)]), (5, [(0, true), (1, true), (2, true), (3, true), (4, true), (5, true), (6, true), (7, true), (8, true), (9, true), (10, true), (11, true), (12, false), (13, true)]), (6, [(0, true), (1, true), (2, true), (3, true), (4, true), (5, true), (6, true), (7, true), (8, true), (9, true), (10, true), (11, true), (12, true), (13, true), (14, true), (15, true), (16, true), (17, true), (18, true), (19, true), (20, true), (21, false), (22, true), (23, false)])]⟩
def ir210 : Go.Rmp.Fn := ⟨76, 4, [],
  sq (.ops [op 10 (.mov (.r 1)), op 8 (.mov (.r 10))]) <|
  .block 0 (
    .loop (
      .block 1 (
        sq (.ops [op 11 (.mov (.r 8)), op 12 (.bin .mul (.c (.int .i64 2)) (.r 11)), op 13 (.bin .add (.r 12) (.c (.int .i64 1))), op 9 (.mov (.r 13))]) <|
        sq (sq (.ops [op 14 (.mov (.r 9)), op 15 (.mov (.r 2)), op 16 (.bin .geq (.r 14) (.r 15))]) <|
        .cond (.r 16)
          (.exit 0)
          (.skip)) <|
        sq (sq (.ops [op 17 (.mov (.r 9)), op 18 (.bin .add (.r 17) (.c (.int .i64 1))), op 19 (.mov (.r 2)), op 20 (.bin .lss (.r 18) (.r 19)), op 21 (.mov (.r 20)), ⟨(some 22), .b (.mov (.r 0)), (some (21, true)), []⟩, ⟨(some 23), .b (.mov (.r 3)), (some (21, true)), []⟩, ⟨(some 24), .b (.mov (.r 9)), (some (21, true)), []⟩, ⟨(some 25), .b (.bin .add (.r 23) (.r 24)), (some (21, true)), []⟩, ⟨(some 26), .b (.iad 1 (.r 22) (.r 25)), (some (21, true)), []⟩, ⟨(some 27), .b (.ld 1 false (.r 26)), (some (21, true)), []⟩, ⟨(some 28), .b (.mov (.r 0)), (some (21, true)), []⟩, ⟨(some 29), .b (.mov (.r 3)), (some (21, true)), []⟩, ⟨(some 30), .b (.mov (.r 9)), (some (21, true)), []⟩, ⟨(some 31), .b (.bin .add (.r 29) (.r 30)), (some (21, true)), []⟩, ⟨(some 32), .b (.bin .add (.r 31) (.c (.int .i64 1))), (some (21, true)), []⟩, ⟨(some 33), .b (.iad 1 (.r 28) (.r 32)), (some (21, true)), []⟩, ⟨(some 34), .b (.ld 1 false (.r 33)), (some (21, true)), []⟩, ⟨(some 35), .call 194 [(.r 27), (.r 34)], (some (21, true)), []⟩, op 36 (.pick (.r 21) (.r 35) (.c (.bool false)))]) <|
        .cond (.r 36)
          (.ops [op 37 (.mov (.r 9)), op 38 (.bin .add (.r 37) (.c (.int .i64 1))), op 9 (.mov (.r 38))])
          (.skip)) <|
        sq (sq (.ops [op 39 (.mov (.r 0)), op 40 (.mov (.r 3)), op 41 (.mov (.r 8)), op 42 (.bin .add (.r 40) (.r 41)), op 43 (.iad 1 (.r 39) (.r 42)), op 44 (.ld 1 false (.r 43)), op 45 (.mov (.r 0)), op 46 (.mov (.r 3)), op 47 (.mov (.r 9)), op 48 (.bin .add (.r 46) (.r 47)), op 49 (.iad 1 (.r 45) (.r 48)), op 50 (.ld 1 false (.r 49)), cl 51 194 [(.r 44), (.r 50)], op 52 (.un .not (.r 51))]) <|
        .cond (.r 52)
          (.ret)
          (.skip)) <|
        sq (.ops [op 53 (.mov (.r 0)), op 54 (.mov (.r 3)), op 55 (.mov (.r 8)), op 56 (.bin .add (.r 54) (.r 55)), op 57 (.mov (.r 0)), op 58 (.mov (.r 3)), op 59 (.mov (.r 9)), op 60 (.bin .add (.r 58) (.r 59)), op 61 (.mov (.r 0)), op 62 (.mov (.r 3)), op 63 (.mov (.r 9)), op 64 (.bin .add (.r 62) (.r 63)), op 65 (.iad 1 (.r 61) (.r 64)), op 66 (.ld 1 false (.r 65)), op 67 (.mov (.r 0)), op 68 (.mov (.r 3)), op 69 (.mov (.r 8)), op 70 (.bin .add (.r 68) (.r 69)), op 71 (.iad 1 (.r 67) (.r 70)), op 72 (.ld 1 false (.r 71)), op 73 (.iad 1 (.r 53) (.r 56)), ef (.st 1 (.r 73) (.r 66)), op 74 (.iad 1 (.r 57) (.r 60)), ef (.st 1 (.r 74) (.r 72))]) <|
        .ops [op 75 (.mov (.r 9)), op 8 (.mov (.r 75))])))⟩
def an211 : An := ⟨[], []⟩
def ir211 : Go.Rmp.Fn := ⟨15, 3, [.t 6],
  sq (.ops [op 6 (.mov (.c (.int .i64 0)))]) <|
  sq (.ops [op 7 (.mov (.r 0)), op 8 (.mov (.r 1)), op 9 (.bin .sub (.r 8) (.c (.int .i64 1))), op 10 (.mov (.r 1)), op 11 (.mov (.r 1)), op 12 (.bin .add (.r 11) (.c (.int .i64 1))), op 13 (.mov (.r 2)), cl 14 212 [(.r 7), (.r 9), (.r 10), (.r 12), (.r 13)], op 6 (.mov (.r 14))]) <|
  .ret⟩
def an212 : An := ⟨[], []⟩
def ir212 : Go.Rmp.Fn := ⟨36, 5, [.t 10],
  sq (.ops [op 10 (.mov (.c (.int .i64 0)))]) <|
  sq (.ops [op 12 (.mov (.r 0)), op 13 (.mov (.r 1)), op 14 (.mov (.r 2)), op 15 (.mov (.r 4)), cl 16 214 [(.r 12), (.r 13), (.r 14), (.r 15)], op 11 (.mov (.r 16)), op 17 (.ext 0 (.r 11)), op 18 (.ext 1 (.r 11)), op 1 (.mov (.r 17)), op 2 (.mov (.r 18))]) <|
  sq (.ops [op 20 (.mov (.r 0)), op 21 (.mov (.r 2)), op 22 (.mov (.r 3)), op 23 (.mov (.r 4)), cl 24 214 [(.r 20), (.r 21), (.r 22), (.r 23)], op 19 (.mov (.r 24)), op 25 (.ext 0 (.r 19)), op 26 (.ext 1 (.r 19)), op 2 (.mov (.r 25)), op 3 (.mov (.r 26))]) <|
  sq (.ops [op 28 (.mov (.r 0)), op 29 (.mov (.r 1)), op 30 (.mov (.r 2)), op 31 (.mov (.r 4)), cl 32 214 [(.r 28), (.r 29), (.r 30), (.r 31)], op 27 (.mov (.r 32)), op 33 (.ext 0 (.r 27)), op 34 (.ext 1 (.r 27)), op 1 (.mov (.r 33)), op 2 (.mov (.r 34))]) <|
  sq (.ops [op 35 (.mov (.r 2)), op 10 (.mov (.r 35))]) <|
  .ret⟩
def an214 : An := ⟨[], [(1, [(0, true), (1, true), (2, true), (3, true), (4, true), (5, true), (6, true), (7, true), (8, false)])]⟩
def ir214 : Go.Rmp.Fn := ⟨28, 4, [.t 8, .t 9],
  sq (.ops [op 8 (.mov (.c (.int .i64 0))), op 9 (.mov (.c (.int .i64 0)))]) <|
  sq (sq (.ops [op 10 (.mov (.r 0)), op 11 (.mov (.r 2)), op 12 (.iad 1 (.r 10) (.r 11)), op 13 (.ld 1 false (.r 12)), op 14 (.mov (.r 0)), op 15 (.mov (.r 1)), op 16 (.iad 1 (.r 14) (.r 15)), op 17 (.ld 1 false (.r 16)), cl 18 194 [(.r 13), (.r 17)]]) <|
  .cond (.r 18)
    (sq (.ops [op 19 (.mov (.r 3)), op 20 (.nilc (.r 19)), op 21 (.ld 1 false (.r 20)), op 22 (.bin .add (.r 21) (.c (.int .i64 1))), op 23 (.nilc (.r 19)), ef (.st 1 (.r 23) (.r 22))]) <|
    sq (.ops [op 24 (.mov (.r 2)), op 25 (.mov (.r 1)), op 8 (.mov (.r 24)), op 9 (.mov (.r 25))]) <|
    .ret)
    (.skip)) <|
  sq (.ops [op 26 (.mov (.r 1)), op 27 (.mov (.r 2)), op 8 (.mov (.r 26)), op 9 (.mov (.r 27))]) <|
  .ret⟩
theorem c5 : compFn Tryz.prog an5 5 = some ir5 := by kernel_rfl
theorem c10 : compFn Tryz.prog an10 10 = some ir10 := by kernel_rfl
theorem c11 : compFn Tryz.prog an11 11 = some ir11 := by kernel_rfl
theorem c15 : compFn Tryz.prog an15 15 = some ir15 := by kernel_rfl
theorem c16 : compFn Tryz.prog an16 16 = some ir16 := by kernel_rfl
theorem c17 : compFn Tryz.prog an17 17 = some ir17 := by kernel_rfl
theorem c22 : compFn Tryz.prog an22 22 = some ir22 := by kernel_rfl
theorem c23 : compFn Tryz.prog an23 23 = some ir23 := by kernel_rfl
theorem c24 : compFn Tryz.prog an24 24 = some ir24 := by kernel_rfl
theorem c25 : compFn Tryz.prog an25 25 = some ir25 := by kernel_rfl
theorem c29 : compFn Tryz.prog an29 29 = some ir29 := by kernel_rfl
theorem c42 : compFn Tryz.prog an42 42 = some ir42 := by kernel_rfl
theorem c43 : compFn Tryz.prog an43 43 = some ir43 := by kernel_rfl
theorem c44 : compFn Tryz.prog an44 44 = some ir44 := by kernel_rfl
theorem c45 : compFn Tryz.prog an45 45 = some ir45 := by kernel_rfl
theorem c46 : compFn Tryz.prog an46 46 = some ir46 := by kernel_rfl
theorem c47 : compFn Tryz.prog an47 47 = some ir47 := by kernel_rfl
theorem c48 : compFn Tryz.prog an48 48 = some ir48 := by kernel_rfl
theorem c54 : compFn Tryz.prog an54 54 = some ir54 := by kernel_rfl
theorem c55 : compFn Tryz.prog an55 55 = some ir55 := by kernel_rfl
theorem c56 : compFn Tryz.prog an56 56 = some ir56 := by kernel_rfl
theorem c57 : compFn Tryz.prog an57 57 = some ir57 := by kernel_rfl
theorem c62 : compFn Tryz.prog an62 62 = some ir62 := by kernel_rfl
theorem c63 : compFn Tryz.prog an63 63 = some ir63 := by kernel_rfl
theorem c64 : compFn Tryz.prog an64 64 = some ir64 := by kernel_rfl
theorem c65 : compFn Tryz.prog an65 65 = some ir65 := by kernel_rfl
theorem c66 : compFn Tryz.prog an66 66 = some ir66 := by kernel_rfl
theorem c67 : compFn Tryz.prog an67 67 = some ir67 := by kernel_rfl
theorem c68 : compFn Tryz.prog an68 68 = some ir68 := by kernel_rfl
theorem c69 : compFn Tryz.prog an69 69 = some ir69 := by kernel_rfl
theorem c70 : compFn Tryz.prog an70 70 = some ir70 := by kernel_rfl
theorem c80 : compFn Tryz.prog an80 80 = some ir80 := by kernel_rfl
theorem c82 : compFn Tryz.prog an82 82 = some ir82 := by kernel_rfl
theorem c91 : compFn Tryz.prog an91 91 = some ir91 := by kernel_rfl
theorem c93 : compFn Tryz.prog an93 93 = some ir93 := by kernel_rfl
theorem c94 : compFn Tryz.prog an94 94 = some ir94 := by kernel_rfl
theorem c95 : compFn Tryz.prog an95 95 = some ir95 := by kernel_rfl
theorem c96 : compFn Tryz.prog an96 96 = some ir96 := by kernel_rfl
theorem c97 : compFn Tryz.prog an97 97 = some ir97 := by kernel_rfl
theorem c98 : compFn Tryz.prog an98 98 = some ir98 := by kernel_rfl
theorem c99 : compFn Tryz.prog an99 99 = some ir99 := by kernel_rfl
theorem c103 : compFn Tryz.prog an103 103 = some ir103 := by kernel_rfl
theorem c104 : compFn Tryz.prog an104 104 = some ir104 := by kernel_rfl
theorem c105 : compFn Tryz.prog an105 105 = some ir105 := by kernel_rfl
theorem c106 : compFn Tryz.prog an106 106 = some ir106 := by kernel_rfl
theorem c107 : compFn Tryz.prog an107 107 = some ir107 := by kernel_rfl
theorem c108 : compFn Tryz.prog an108 108 = some ir108 := by kernel_rfl
theorem c109 : compFn Tryz.prog an109 109 = some ir109 := by kernel_rfl
theorem c110 : compFn Tryz.prog an110 110 = some ir110 := by kernel_rfl
theorem c111 : compFn Tryz.prog an111 111 = some ir111 := by kernel_rfl
theorem c112 : compFn Tryz.prog an112 112 = some ir112 := by kernel_rfl
theorem c133 : compFn Tryz.prog an133 133 = some ir133 := by kernel_rfl
theorem c134 : compFn Tryz.prog an134 134 = some ir134 := by kernel_rfl
theorem c135 : compFn Tryz.prog an135 135 = some ir135 := by kernel_rfl
theorem c136 : compFn Tryz.prog an136 136 = some ir136 := by kernel_rfl
theorem c137 : compFn Tryz.prog an137 137 = some ir137 := by kernel_rfl
theorem c138 : compFn Tryz.prog an138 138 = some ir138 := by kernel_rfl
theorem c139 : compFn Tryz.prog an139 139 = some ir139 := by kernel_rfl
theorem c140 : compFn Tryz.prog an140 140 = some ir140 := by kernel_rfl
theorem c141 : compFn Tryz.prog an141 141 = some ir141 := by kernel_rfl
theorem c142 : compFn Tryz.prog an142 142 = some ir142 := by kernel_rfl
theorem c143 : compFn Tryz.prog an143 143 = some ir143 := by kernel_rfl
theorem c144 : compFn Tryz.prog an144 144 = some ir144 := by kernel_rfl
theorem c145 : compFn Tryz.prog an145 145 = some ir145 := by kernel_rfl
theorem c146 : compFn Tryz.prog an146 146 = some ir146 := by kernel_rfl
theorem c147 : compFn Tryz.prog an147 147 = some ir147 := by kernel_rfl
theorem c149 : compFn Tryz.prog an149 149 = some ir149 := by kernel_rfl
theorem c150 : compFn Tryz.prog an150 150 = some ir150 := by kernel_rfl
theorem c151 : compFn Tryz.prog an151 151 = some ir151 := by kernel_rfl
theorem c152 : compFn Tryz.prog an152 152 = some ir152 := by kernel_rfl
theorem c153 : compFn Tryz.prog an153 153 = some ir153 := by kernel_rfl
theorem c154 : compFn Tryz.prog an154 154 = some ir154 := by kernel_rfl
theorem c155 : compFn Tryz.prog an155 155 = some ir155 := by kernel_rfl
theorem c169 : compFn Tryz.prog an169 169 = some ir169 := by kernel_rfl
theorem c170 : compFn Tryz.prog an170 170 = some ir170 := by kernel_rfl
theorem c171 : compFn Tryz.prog an171 171 = some ir171 := by kernel_rfl
theorem c172 : compFn Tryz.prog an172 172 = some ir172 := by kernel_rfl
theorem c175 : compFn Tryz.prog an175 175 = some ir175 := by kernel_rfl
theorem c176 : compFn Tryz.prog an176 176 = some ir176 := by kernel_rfl
theorem c177 : compFn Tryz.prog an177 177 = some ir177 := by kernel_rfl
theorem c178 : compFn Tryz.prog an178 178 = some ir178 := by kernel_rfl
theorem c179 : compFn Tryz.prog an179 179 = some ir179 := by kernel_rfl
theorem c180 : compFn Tryz.prog an180 180 = some ir180 := by kernel_rfl
theorem c181 : compFn Tryz.prog an181 181 = some ir181 := by kernel_rfl
theorem c194 : compFn Tryz.prog an194 194 = some ir194 := by kernel_rfl
theorem c195 : compFn Tryz.prog an195 195 = some ir195 := by kernel_rfl
theorem c197 : compFn Tryz.prog an197 197 = some ir197 := by kernel_rfl
theorem c198 : compFn Tryz.prog an198 198 = some ir198 := by kernel_rfl
theorem c199 : compFn Tryz.prog an199 199 = some ir199 := by kernel_rfl
theorem c200 : compFn Tryz.prog an200 200 = some ir200 := by kernel_rfl
theorem c201 : compFn Tryz.prog an201 201 = some ir201 := by kernel_rfl
theorem c202 : compFn Tryz.prog an202 202 = some ir202 := by kernel_rfl
theorem c203 : compFn Tryz.prog an203 203 = some ir203 := by kernel_rfl
theorem c204 : compFn Tryz.prog an204 204 = some ir204 := by kernel_rfl
theorem c205 : compFn Tryz.prog an205 205 = some ir205 := by kernel_rfl
theorem c210 : compFn Tryz.prog an210 210 = some ir210 := by kernel_rfl
theorem c211 : compFn Tryz.prog an211 211 = some ir211 := by kernel_rfl
theorem c212 : compFn Tryz.prog an212 212 = some ir212 := by kernel_rfl
theorem c214 : compFn Tryz.prog an214 214 = some ir214 := by kernel_rfl
def envFn : Nat → Option Go.Rmp.Fn
  | 5 => some ir5
  | 10 => some ir10
  | 11 => some ir11
  | 15 => some ir15
  | 16 => some ir16
  | 17 => some ir17
  | 22 => some ir22
  | 23 => some ir23
  | 24 => some ir24
  | 25 => some ir25
  | 29 => some ir29
  | 42 => some ir42
  | 43 => some ir43
  | 44 => some ir44
  | 45 => some ir45
  | 46 => some ir46
  | 47 => some ir47
  | 48 => some ir48
  | 54 => some ir54
  | 55 => some ir55
  | 56 => some ir56
  | 57 => some ir57
  | 62 => some ir62
  | 63 => some ir63
  | 64 => some ir64
  | 65 => some ir65
  | 66 => some ir66
  | 67 => some ir67
  | 68 => some ir68
  | 69 => some ir69
  | 70 => some ir70
  | 80 => some ir80
  | 82 => some ir82
  | 91 => some ir91
  | 93 => some ir93
  | 94 => some ir94
  | 95 => some ir95
  | 96 => some ir96
  | 97 => some ir97
  | 98 => some ir98
  | 99 => some ir99
  | 103 => some ir103
  | 104 => some ir104
  | 105 => some ir105
  | 106 => some ir106
  | 107 => some ir107
  | 108 => some ir108
  | 109 => some ir109
  | 110 => some ir110
  | 111 => some ir111
  | 112 => some ir112
  | 133 => some ir133
  | 134 => some ir134
  | 135 => some ir135
  | 136 => some ir136
  | 137 => some ir137
  | 138 => some ir138
  | 139 => some ir139
  | 140 => some ir140
  | 141 => some ir141
  | 142 => some ir142
  | 143 => some ir143
  | 144 => some ir144
  | 145 => some ir145
  | 146 => some ir146
  | 147 => some ir147
  | 149 => some ir149
  | 150 => some ir150
  | 151 => some ir151
  | 152 => some ir152
  | 153 => some ir153
  | 154 => some ir154
  | 155 => some ir155
  | 169 => some ir169
  | 170 => some ir170
  | 171 => some ir171
  | 172 => some ir172
  | 175 => some ir175
  | 176 => some ir176
  | 177 => some ir177
  | 178 => some ir178
  | 179 => some ir179
  | 180 => some ir180
  | 181 => some ir181
  | 194 => some ir194
  | 195 => some ir195
  | 197 => some ir197
  | 198 => some ir198
  | 199 => some ir199
  | 200 => some ir200
  | 201 => some ir201
  | 202 => some ir202
  | 203 => some ir203
  | 204 => some ir204
  | 205 => some ir205
  | 210 => some ir210
  | 211 => some ir211
  | 212 => some ir212
  | 214 => some ir214
  | _ => none
def env : Env := ⟨envFn, fun _ _ _ _ => False, fun _ _ _ _ _ h _ => h⟩
theorem envOk : EnvOk Tryz.prog env where
  mixed := by kernel_rfl
  fn := by
    intro f fn h
    simp only [env, envFn] at h
    split at h
    · cases h; exact ⟨_, c5⟩
    · cases h; exact ⟨_, c10⟩
    · cases h; exact ⟨_, c11⟩
    · cases h; exact ⟨_, c15⟩
    · cases h; exact ⟨_, c16⟩
    · cases h; exact ⟨_, c17⟩
    · cases h; exact ⟨_, c22⟩
    · cases h; exact ⟨_, c23⟩
    · cases h; exact ⟨_, c24⟩
    · cases h; exact ⟨_, c25⟩
    · cases h; exact ⟨_, c29⟩
    · cases h; exact ⟨_, c42⟩
    · cases h; exact ⟨_, c43⟩
    · cases h; exact ⟨_, c44⟩
    · cases h; exact ⟨_, c45⟩
    · cases h; exact ⟨_, c46⟩
    · cases h; exact ⟨_, c47⟩
    · cases h; exact ⟨_, c48⟩
    · cases h; exact ⟨_, c54⟩
    · cases h; exact ⟨_, c55⟩
    · cases h; exact ⟨_, c56⟩
    · cases h; exact ⟨_, c57⟩
    · cases h; exact ⟨_, c62⟩
    · cases h; exact ⟨_, c63⟩
    · cases h; exact ⟨_, c64⟩
    · cases h; exact ⟨_, c65⟩
    · cases h; exact ⟨_, c66⟩
    · cases h; exact ⟨_, c67⟩
    · cases h; exact ⟨_, c68⟩
    · cases h; exact ⟨_, c69⟩
    · cases h; exact ⟨_, c70⟩
    · cases h; exact ⟨_, c80⟩
    · cases h; exact ⟨_, c82⟩
    · cases h; exact ⟨_, c91⟩
    · cases h; exact ⟨_, c93⟩
    · cases h; exact ⟨_, c94⟩
    · cases h; exact ⟨_, c95⟩
    · cases h; exact ⟨_, c96⟩
    · cases h; exact ⟨_, c97⟩
    · cases h; exact ⟨_, c98⟩
    · cases h; exact ⟨_, c99⟩
    · cases h; exact ⟨_, c103⟩
    · cases h; exact ⟨_, c104⟩
    · cases h; exact ⟨_, c105⟩
    · cases h; exact ⟨_, c106⟩
    · cases h; exact ⟨_, c107⟩
    · cases h; exact ⟨_, c108⟩
    · cases h; exact ⟨_, c109⟩
    · cases h; exact ⟨_, c110⟩
    · cases h; exact ⟨_, c111⟩
    · cases h; exact ⟨_, c112⟩
    · cases h; exact ⟨_, c133⟩
    · cases h; exact ⟨_, c134⟩
    · cases h; exact ⟨_, c135⟩
    · cases h; exact ⟨_, c136⟩
    · cases h; exact ⟨_, c137⟩
    · cases h; exact ⟨_, c138⟩
    · cases h; exact ⟨_, c139⟩
    · cases h; exact ⟨_, c140⟩
    · cases h; exact ⟨_, c141⟩
    · cases h; exact ⟨_, c142⟩
    · cases h; exact ⟨_, c143⟩
    · cases h; exact ⟨_, c144⟩
    · cases h; exact ⟨_, c145⟩
    · cases h; exact ⟨_, c146⟩
    · cases h; exact ⟨_, c147⟩
    · cases h; exact ⟨_, c149⟩
    · cases h; exact ⟨_, c150⟩
    · cases h; exact ⟨_, c151⟩
    · cases h; exact ⟨_, c152⟩
    · cases h; exact ⟨_, c153⟩
    · cases h; exact ⟨_, c154⟩
    · cases h; exact ⟨_, c155⟩
    · cases h; exact ⟨_, c169⟩
    · cases h; exact ⟨_, c170⟩
    · cases h; exact ⟨_, c171⟩
    · cases h; exact ⟨_, c172⟩
    · cases h; exact ⟨_, c175⟩
    · cases h; exact ⟨_, c176⟩
    · cases h; exact ⟨_, c177⟩
    · cases h; exact ⟨_, c178⟩
    · cases h; exact ⟨_, c179⟩
    · cases h; exact ⟨_, c180⟩
    · cases h; exact ⟨_, c181⟩
    · cases h; exact ⟨_, c194⟩
    · cases h; exact ⟨_, c195⟩
    · cases h; exact ⟨_, c197⟩
    · cases h; exact ⟨_, c198⟩
    · cases h; exact ⟨_, c199⟩
    · cases h; exact ⟨_, c200⟩
    · cases h; exact ⟨_, c201⟩
    · cases h; exact ⟨_, c202⟩
    · cases h; exact ⟨_, c203⟩
    · cases h; exact ⟨_, c204⟩
    · cases h; exact ⟨_, c205⟩
    · cases h; exact ⟨_, c210⟩
    · cases h; exact ⟨_, c211⟩
    · cases h; exact ⟨_, c212⟩
    · cases h; exact ⟨_, c214⟩
    · cases h
  prim := by intro f az H Q h; exact h.elim
end Go.Proofs.YtmgldhlcapjdkaaGreat.Ir
end

section
namespace Go.Proofs.YtmgldhlcapjdkaaGreat.St
open Go.Rmp Go.Proofs.YtmgldhlcapjdkaaGreat.Ir
set_option maxRecDepth 10000
theorem getP {α : Type} {l : List α} {i : Nat} (h : i < l.length) : ∃ x, l[i]? = some x := ⟨l[i], List.getElem?_eq_getElem h⟩
def eS (s : ByteArray) : List T := [.str s]
def eU (n : Nat) : List T := [.int .u64 n]
theorem wrap8 {n : Nat} (h : n < 256) : IntKind.u8.wrap (n : Int) = (n : Int) := by
  unfold IntKind.wrap
  simp -implicitDefEqProofs only [IntKind.signed, IntKind.bits]
  simp
  omega
def rises : List ByteArray → Bool
  | a :: b :: l => strLt a b && rises (b :: l)
  | _ => true
theorem rises_iff : ∀ (l : List ByteArray), rises l = true ↔ ∀ (i : Nat) (a b : ByteArray), l[i]? = some a → l[i+1]? = some b → strLt a b = true
  | [] => by simp [rises]
  | [a] => by simp [rises]
  | a :: b :: l => by
    simp -implicitDefEqProofs only [rises, Bool.and_eq_true, rises_iff (b :: l)]
    constructor
    · rintro ⟨h1, h2⟩ i x y hx hy
      cases i with
      | zero => simp at hx hy; subst hx; subst hy; exact h1
      | succ i => exact h2 i x y (by simpa using hx) (by simpa using hy)
    · intro h
      exact ⟨h 0 a b rfl rfl, fun i x y hx hy => h (i + 1) x y (by simpa using hx) (by simpa using hy)⟩
theorem rises_lt {l : List ByteArray} (h : rises l = true) : ∀ (q p : Nat) (a b : ByteArray), p < q → l[p]? = some a → l[q]? = some b → strLt a b = true
  | 0, p, _, _, hpq, _, _ => by omega
  | q + 1, p, a, b, hpq, ha, hb => by
    obtain ⟨c, hc⟩ := getP (l := l) (i := q) (by have := (List.getElem?_eq_some_iff.1 hb).1; omega)
    have h1 := (rises_iff l).1 h q c b hc hb
    by_cases e : p = q
    · subst e; rw [ha] at hc; cases hc; exact h1
    · exact lt_trans' (rises_lt h q p a c (by omega) ha hc) h1
theorem wrapu {n : Nat} (h : n < 18446744073709551616) : IntKind.u64.wrap (n : Int) = (n : Int) := by
  unfold IntKind.wrap
  simp -implicitDefEqProofs only [IntKind.signed, IntKind.bits]
  simp
  omega
theorem tick31 (n : Int) (H : Heap) : W env (.call 94 [.int .i64 n]) H (Ret (.bool (decide (0 ≤ n) && decide (n ≤ 1099511627776))) H) := by
  refine W.fnI rfl rfl rfl ?_
  by_cases h1 : 0 ≤ n
  · simp -implicitDefEqProofs only [ir94, op, ef, cl, sq, reduceIte, q1, q2, q3, q4, q5, q6, q7, q8, q9, S1, h1]
  · simp -implicitDefEqProofs only [ir94, op, ef, cl, sq, reduceIte, q1, q2, q3, q4, q5, q6, q7, q8, q9, S1, h1, Bool.false_and]
end Go.Proofs.YtmgldhlcapjdkaaGreat.St
end

section
namespace Go.Proofs.YtmgldhlcapjdkaaGreat.St
open Go.Rmp Go.Proofs.YtmgldhlcapjdkaaGreat.Ir
set_option maxRecDepth 10000
theorem all_map {α : Type} {enc : α → List T} {n : Nat} (hn : ∀ x, (enc x).length = n) (l : List α) : (l.map enc).all (·.length == n) = true := by
  simp [List.all_map, hn]
theorem take_sn {α : Type} {l : List α} {i : Nat} {x : α} (h : l[i]? = some x) : l.take (i + 1) = l.take i ++ [x] := by
  obtain ⟨hi, e⟩ := List.getElem?_eq_some_iff.1 h
  rw [List.take_add_one, h]; rfl
theorem iadX {α : Type} {e : α → List T} {n : Nat} (hn : ∀ x, (e x).length = n) (h0 : n ≠ 0) {l : List α} {k : SK} {i : Nat} {x : α} (h : l[i]? = some x) : iadT n i (.sl k (l.map e)) = some (.iptr (e x)) := by
  simp -implicitDefEqProofs only [iadT, List.getElem?_map, h, Option.map_some, hn, h0, ne_eq, not_false_eq_true, and_self, if_true]
theorem roomS {n b : Nat} (h : n ≤ 16777216) (hb : b ≤ 64) : roomOk n b = true := by
  simp -implicitDefEqProofs only [roomOk, decide_eq_true_eq]
  have : (n + n / 4 + 512) * b ≤ (n + n / 4 + 512) * 64 := Nat.mul_le_mul_left _ hb
  omega
def KOk {α : Type} (k : SK) (l : List α) : Prop := k = .nil → l = []
theorem app_nn {H H' : Heap} {bytes : Nat} {k k' : SK} {es new es' : List (List T)} (ha : appT H bytes k es new = some (.sl k' es', H')) (hn : new ≠ []) : k' ≠ .nil := by
  rintro rfl
  unfold appT at ha
  split at ha
  · exact hn rfl
  · split at ha
    · cases k <;> simp only at ha
      · simp at ha
      · cases ha
      · simp at ha
      · split at ha
        · split at ha <;> simp at ha
        · cases ha
    · cases ha
theorem nan66 (s : ByteArray) (H : Heap) : W env (.call 169 [.str s]) H (Ret (.bool false) H) := by
  refine W.fnI rfl rfl rfl ?_
  simp -implicitDefEqProofs only [ir169, op, ef, cl, sq, reduceIte, q1, q2, q3, q4, q5, q6, q7, q8, q9, S1, Bool.not_true]
theorem nan94 (s : ByteArray) (H : Heap) : W env (.call 195 [.str s]) H (Ret (.bool false) H) := by
  refine W.fnI rfl rfl rfl ?_
  simp -implicitDefEqProofs only [ir195, op, ef, cl, sq, reduceIte, q1, q2, q3, q4, q5, q6, q7, q8, q9, S1, Bool.not_true]
theorem nan67 (n : Nat) (H : Heap) : W env (.call 170 [.int .u64 n]) H (Ret (.bool false) H) := by
  refine W.fnI rfl rfl rfl ?_
  simp -implicitDefEqProofs only [ir170, op, ef, cl, sq, reduceIte, q1, q2, q3, q4, q5, q6, q7, q8, q9, S1]
theorem nan72 (n : Nat) (H : Heap) : W env (.call 172 [.int .u64 n]) H (Ret (.bool false) H) := by
  refine W.fnI rfl rfl rfl ?_
  simp -implicitDefEqProofs only [ir172, op, ef, cl, sq, reduceIte, q1, q2, q3, q4, q5, q6, q7, q8, q9, S1]
theorem less91 (a b : ByteArray) (H : Heap) : W env (.call 194 [.str a, .str b]) H (Ret (.bool (strLt a b)) H) := by
  refine W.fnI rfl rfl rfl ?_
  simp -implicitDefEqProofs only [ir194, op, ef, cl, sq, reduceIte, q1, q2, q3, q4, q5, q6, q7, q8, q9, S1]
  refine callB_of _ _ _ _ _ _ _ _ (nan66 a _) ?_
  rintro u H1 ⟨hu, rfl⟩
  cases hu
  simp -implicitDefEqProofs only [op, ef, cl, sq, reduceIte, q1, q2, q3, q4, q5, q6, q7, q8, q9, S1]
theorem less71 (a b : Nat) (H : Heap) : W env (.call 145 [.int .u64 a, .int .u64 b]) H (Ret (.bool (decide (a < b))) H) := by
  refine W.fnI rfl rfl rfl ?_
  simp -implicitDefEqProofs only [ir145, op, ef, cl, sq, reduceIte, q1, q2, q3, q4, q5, q6, q7, q8, q9, S1]
  refine callB_of _ _ _ _ _ _ _ _ (nan67 a _) ?_
  rintro u H1 ⟨hu, rfl⟩
  cases hu
  simp -implicitDefEqProofs only [op, ef, cl, sq, reduceIte, q1, q2, q3, q4, q5, q6, q7, q8, q9, S1]
abbrev Nm := ByteArray × Nat
def eN (n : Nm) : List T := [.str n.1, .int .u64 n.2]
def kN (n : Nm) : T := .agg (eN n)
theorem kNok : KeyOk (.st [.str, .int]) kN := ⟨fun _ => rfl, fun a b => by
  simp -implicitDefEqProofs only [kN, eN, keyEq, eqCells, eqSc, strEq_eq, if_true, deq]
  congr 1
  rw [Bool.eq_iff_iff]
  simp [Prod.ext_iff]⟩
end Go.Proofs.YtmgldhlcapjdkaaGreat.St
end

section
namespace Go.Proofs.YtmgldhlcapjdkaaGreat.St
open Go.Rmp Go.Proofs.YtmgldhlcapjdkaaGreat.Ir
set_option maxRecDepth 10000
theorem half (i j : Nat) (h : i + j < 9223372036854775807) : IntKind.i64.wrap ((IntKind.u64.wrap (IntKind.i64.wrap ((i : Int) + (j : Int)))).fdiv (2 ^ (min (1 : Int).toNat IntKind.u64.bits))) = (((i + j) / 2 : Nat) : Int) := by
  rw [wrap64 (n := (i : Int) + j) (by omega), wrapu64 (n := (i : Int) + j) (by omega)]
  have e : (2 : Int) ^ (min (1 : Int).toNat IntKind.u64.bits) = 2 := by decide
  rw [e, Int.fdiv_eq_ediv_of_nonneg _ (by omega), wrap64 (by omega)]
  omega
def memB (l : List ByteArray) (x : ByteArray) : Bool := l.any fun y => decide (y = x)
theorem memB_iff {l : List ByteArray} {x : ByteArray} : memB l x = true ↔ x ∈ l := by simp [memB]
theorem memB_no {l : List ByteArray} {x : ByteArray} : memB l x = false ↔ x ∉ l := by rw [← memB_iff]; simp
def OkKey (l : List ByteArray) (i : Nat) : Prop := ∀ x, l[i]? = some x → x.size ≤ 65535 ∧ (0 < i → ∀ y, l[i-1]? = some y → strLt y x = true)
def GoodKeys (l : List ByteArray) : Prop := (∀ i, i < l.length → OkKey l i) ∧ 1 ≤ l.length ∧ l.length ≤ 1024
def goodB (l : List ByteArray) : Bool := rises l && l.all (fun x => decide (x.size ≤ 65535)) && decide (1 ≤ l.length) && decide (l.length ≤ 1024)
theorem goodB_iff {l : List ByteArray} : goodB l = true ↔ GoodKeys l := by
  simp -implicitDefEqProofs only [goodB, Bool.and_eq_true, decide_eq_true_eq, List.all_eq_true, GoodKeys, rises_iff]
  constructor
  · rintro ⟨⟨⟨h1, h2⟩, h3⟩, h4⟩
    refine ⟨fun i hi x hx => ⟨h2 x (List.mem_of_getElem? hx), fun h0 y hy => h1 (i - 1) y x hy (by rw [show i - 1 + 1 = i by omega]; exact hx)⟩, h3, h4⟩
  · rintro ⟨h1, h3, h4⟩
    refine ⟨⟨⟨fun i a b ha hb => ?_, fun x hx => ?_⟩, h3⟩, h4⟩
    · exact (h1 (i + 1) (List.getElem?_eq_some_iff.1 hb).1 b hb).2 (by omega) a (by simpa using ha)
    · obtain ⟨i, hi, rfl⟩ := List.getElem_of_mem hx
      exact (h1 i hi _ (List.getElem?_eq_getElem hi)).1
theorem goodB_no {l : List ByteArray} (h : ¬ GoodKeys l) : goodB l = false := by
  cases e : goodB l with
  | false => rfl
  | true => exact absurd (goodB_iff.1 e) h
theorem GoodKeys.rises {l : List ByteArray} (h : GoodKeys l) : rises l = true := (rises_iff l).2 fun i a b ha hb => by
  have := (h.1 (i + 1) (List.getElem?_eq_some_iff.1 hb).1 b hb).2 (by omega) a (by simpa using ha)
  exact this
theorem rising57 (k : SK) (l : List ByteArray) (H : Heap) (hl : l.length < 9223372036854775807) : W env (.call 133 [.sl k (l.map eS)]) H (fun o H' => o = .val (.bool (goodB l)) ∧ H' = H) := by
  refine W.fnI rfl rfl rfl ?_
  simp -implicitDefEqProofs only [ir133, op, ef, cl, sq, reduceIte, q1, q2, q3, q4, q5, q6, q7, q8, q9, S1, List.length_map]
  refine W.loopI (fun (i : Nat) R H' => H' = H ∧ R 0 = .sl k (l.map eS) ∧ R 5 = .sl k (l.map eS) ∧ R 6 = .int .i64 l.length ∧ R 7 = .int .i64 i ∧ i ≤ l.length ∧ ∀ j, j < i → OkKey l j) (fun i => l.length - i) 0 ⟨rfl, rfl, rfl, rfl, rfl, Nat.zero_le _, fun j h => by omega⟩ ?_
  rintro i R _ ⟨rfl, h0, h5, h6, h7, hi, hok⟩
  by_cases hlt : i < l.length
  · obtain ⟨x, hx⟩ := getP hlt
    have ws := wrap_succ (show i < 9223372036854775807 by omega)
    have hia := iadX (e := eS) (n := 1) (fun _ => rfl) (by decide) (k := k) hx
    have bad : ¬ OkKey l i → goodB l = false := fun hb => goodB_no fun h => hb (h.1 i hlt)
    by_cases hsz : 65535 < x.size
    · have := bad fun h => by have := (h x hx).1; omega
      simp -implicitDefEqProofs only [op, ef, cl, sq, reduceIte, q1, q2, q3, q4, q5, q6, q7, q8, q9, S1, h0, h5, h6, h7, hlt, natOf_nat, hia, eS, hsz, this]
    · by_cases hi0 : 0 < i
      · obtain ⟨y, hy⟩ := getP (l := l) (i := i - 1) (by omega)
        have wp := wrap_pred (show i < 9223372036854775807 by omega) hi0
        have hiy := iadX (e := eS) (n := 1) (fun _ => rfl) (by decide) (k := k) hy
        cases hc : strLt y x
        · have := bad fun h => by have := (h x hx).2 hi0 y hy; rw [hc] at this; cases this
          simp -implicitDefEqProofs only [op, ef, cl, sq, reduceIte, q1, q2, q3, q4, q5, q6, q7, q8, q9, S1, h0, h5, h6, h7, hlt, natOf_nat, hia, hiy, eS, hsz, hi0, wp, hc, this]
        · simp -implicitDefEqProofs only [op, ef, cl, sq, reduceIte, q1, q2, q3, q4, q5, q6, q7, q8, q9, S1, h0, h5, h6, h7, hlt, natOf_nat, hia, hiy, eS, hsz, hi0, wp, hc, ws]
          refine ⟨i + 1, by omega, rfl, by omega, fun j hj => ?_⟩
          by_cases e : j = i
          · subst e; intro x' hx'; rw [hx] at hx'; cases hx'
            exact ⟨by omega, fun _ y' hy' => by rw [hy] at hy'; cases hy'; exact hc⟩
          · exact hok j (by omega)
      · simp -implicitDefEqProofs only [op, ef, cl, sq, reduceIte, q1, q2, q3, q4, q5, q6, q7, q8, q9, S1, h0, h5, h6, h7, hlt, natOf_nat, hia, eS, hsz, hi0, ws]
        refine ⟨i + 1, by omega, rfl, by omega, fun j hj => ?_⟩
        by_cases e : j = i
        · subst e; intro x' hx'; rw [hx] at hx'; cases hx'
          exact ⟨by omega, fun h => absurd h hi0⟩
        · exact hok j (by omega)
  · have hil : i = l.length := by omega
    subst hil
    by_cases h1 : 1 ≤ l.length
    · have e : goodB l = decide (l.length ≤ 1024) := by
        rw [Bool.eq_iff_iff, goodB_iff]; simp -implicitDefEqProofs only [decide_eq_true_eq]
        exact ⟨fun h => h.2.2, fun h => ⟨hok, h1, h⟩⟩
      simp -implicitDefEqProofs only [op, ef, cl, sq, reduceIte, q1, q2, q3, q4, q5, q6, q7, q8, q9, S1, h0, h5, h6, h7, hlt, List.length_map, h1, e]
    · have e : goodB l = false := goodB_no fun h => h1 h.2.1
      simp -implicitDefEqProofs only [op, ef, cl, sq, reduceIte, q1, q2, q3, q4, q5, q6, q7, q8, q9, S1, h0, h5, h6, h7, hlt, List.length_map, h1, e]
theorem bs70 (k : SK) (l : List ByteArray) (x : ByteArray) (H : Heap) (hl : l.length < 4611686018427387903) (hr : rises l = true) :
    W env (.call 171 [.sl k (l.map eS), .str x]) H (fun o H' => ∃ i : Nat, o = .val (.tup [.int .i64 i, .bool (memB l x)]) ∧ H' = H) := by
  refine W.fnI rfl rfl rfl ?_
  simp -implicitDefEqProofs only [ir171, op, ef, cl, sq, reduceIte, q1, q2, q3, q4, q5, q6, q7, q8, q9, S1, List.length_map]
  refine W.loopI (fun (s : Nat × Nat) R H' => H' = H ∧ R 0 = .sl k (l.map eS) ∧ R 1 = .str x ∧ R 6 = .int .i64 l.length ∧ R 7 = .int .i64 s.1 ∧ R 8 = .int .i64 s.2 ∧ s.1 ≤ s.2 ∧ s.2 ≤ l.length ∧ (∀ p a, p < s.1 → l[p]? = some a → strLt a x = true) ∧ ∀ p a, s.2 ≤ p → l[p]? = some a → strLt a x = false)
    (fun s => s.2 - s.1) (0, l.length) ⟨rfl, rfl, rfl, rfl, rfl, rfl, Nat.zero_le _, Nat.le_refl _, fun p a h => by omega, fun p a h ha => by rw [List.getElem?_eq_none h] at ha; cases ha⟩ ?_
  rintro ⟨i, j⟩ R _ ⟨rfl, h0, h1, h6, h7, h8, hij, hjn, hlo, hhi⟩
  simp -implicitDefEqProofs only [op, ef, cl, sq, reduceIte, q1, q2, q3, q4, q5, q6, q7, q8, q9, S1, h0, h1, h6, h7, h8, List.length_map]
  by_cases hlt : i < j
  · obtain ⟨y, hy⟩ := getP (l := l) (i := (i + j) / 2) (by omega)
    have hia := iadX (e := eS) (n := 1) (fun _ => rfl) (by decide) (k := k) hy
    simp -implicitDefEqProofs only [hlt, op, ef, cl, sq, reduceIte, q1, q2, q3, q4, q5, q6, q7, q8, q9, S1, h0, h1, h6, h7, h8, half i j (by omega), hia, eS]
    refine callB_of _ _ _ _ _ _ _ _ (less91 y x _) ?_
    rintro v H' ⟨hv, rfl⟩
    cases hv
    simp -implicitDefEqProofs only [op, ef, cl, sq, reduceIte, q1, q2, q3, q4, q5, q6, q7, q8, q9, S1, h0, h1, h6, h7, h8]
    cases hc : strLt y x
    · simp -implicitDefEqProofs only [op, ef, cl, sq, reduceIte, q1, q2, q3, q4, q5, q6, q7, q8, q9, S1, h0, h1, h6, h7, h8]
      refine ⟨(i, (i + j) / 2), by omega, rfl, rfl, by omega, by omega, hlo, fun p a hp ha => ?_⟩
      by_cases e : p = (i + j) / 2
      · subst e; rw [hy] at ha; cases ha; exact hc
      · cases hh : strLt a x with
        | false => rfl
        | true => rw [lt_trans' (rises_lt hr p ((i + j) / 2) y a (by omega) hy ha) hh] at hc; cases hc
    · simp -implicitDefEqProofs only [op, ef, cl, sq, reduceIte, q1, q2, q3, q4, q5, q6, q7, q8, q9, S1, h0, h1, h6, h7, h8, wrap_succ (show (i + j) / 2 < 9223372036854775807 by omega)]
      refine ⟨((i + j) / 2 + 1, j), by omega, rfl, rfl, by omega, by omega, fun p a hp ha => ?_, hhi⟩
      by_cases e : p = (i + j) / 2
      · subst e; rw [hy] at ha; cases ha; exact hc
      · exact lt_trans' (rises_lt hr ((i + j) / 2) p a y (by omega) ha hy) hc
  · have hij' : i = j := by simp only at hij; omega
    subst hij'
    by_cases hin : i < l.length
    · obtain ⟨y, hy⟩ := getP hin
      have hia := iadX (e := eS) (n := 1) (fun _ => rfl) (by decide) (k := k) hy
      by_cases hyx : y = x
      · have : memB l x = true := memB_iff.2 (hyx ▸ List.mem_of_getElem? hy)
        simp -implicitDefEqProofs only [op, ef, cl, sq, reduceIte, q1, q2, q3, q4, q5, q6, q7, q8, q9, S1, h0, h1, h6, h7, h8, List.length_map, hlt, hin, hia, eS, hyx, this]
        exact ⟨i, rfl⟩
      · have : memB l x = false := memB_no.2 fun hm => by
          obtain ⟨p, hp, e⟩ := List.getElem_of_mem hm
          have hpx : l[p]? = some x := by rw [List.getElem?_eq_getElem hp, e]
          rcases Nat.lt_trichotomy p i with h | h | h
          · have := hlo p x h hpx; rw [lt_irr] at this; cases this
          · subst h; rw [hy] at hpx; cases hpx; exact hyx rfl
          · have a1 := hhi i y (Nat.le_refl _) hy
            rw [rises_lt hr p i y x h hy hpx] at a1; cases a1
        simp -implicitDefEqProofs only [op, ef, cl, sq, reduceIte, q1, q2, q3, q4, q5, q6, q7, q8, q9, S1, h0, h1, h6, h7, h8, List.length_map, hlt, hin, hia, eS, hyx]
        refine callB_of _ _ _ _ _ _ _ _ (nan94 y _) ?_
        rintro v H' ⟨hv, rfl⟩
        cases hv
        simp -implicitDefEqProofs only [op, ef, cl, sq, reduceIte, q1, q2, q3, q4, q5, q6, q7, q8, q9, S1, this]
        exact ⟨i, rfl⟩
    · have : memB l x = false := memB_no.2 fun hm => by
        obtain ⟨p, hp, e⟩ := List.getElem_of_mem hm
        have hpx : l[p]? = some x := by rw [List.getElem?_eq_getElem hp, e]
        have := hlo p x (by omega) hpx; rw [lt_irr] at this; cases this
      simp -implicitDefEqProofs only [op, ef, cl, sq, reduceIte, q1, q2, q3, q4, q5, q6, q7, q8, q9, S1, h0, h1, h6, h7, h8, List.length_map, hlt, hin, this]
      exact ⟨i, rfl⟩
theorem has58 (k : SK) (l : List ByteArray) (x : ByteArray) (H : Heap) (hl : l.length < 4611686018427387903) (hr : rises l = true) : W env (.call 134 [.sl k (l.map eS), .str x]) H (Ret (.bool (memB l x)) H) := by
  refine W.fnI rfl rfl rfl ?_
  simp -implicitDefEqProofs only [ir134, op, ef, cl, sq, reduceIte, q1, q2, q3, q4, q5, q6, q7, q8, q9, S1]
  refine callB_of _ _ _ _ _ _ _ _ (bs70 k l x _ hl hr) ?_
  rintro v H' ⟨i, hv, rfl⟩
  cases hv
  simp -implicitDefEqProofs only [op, ef, cl, sq, reduceIte, q1, q2, q3, q4, q5, q6, q7, q8, q9, S1]
end Go.Proofs.YtmgldhlcapjdkaaGreat.St
end

section
namespace Go.Proofs.YtmgldhlcapjdkaaGreat.St
open Go.Rmp Go.Proofs.YtmgldhlcapjdkaaGreat.Ir
set_option maxRecDepth 10000
def eP (p : ByteArray × ByteArray) : List T := [.str p.1, .str p.2]
def OkPair (l : List (ByteArray × ByteArray)) (ks : List ByteArray) (i : Nat) : Prop := ∀ p, l[i]? = some p → (0 < i → ∀ q, l[i-1]? = some q → strLt q.1 p.1 = true) ∧ p.1 ∈ ks ∧ p.2.size ≤ 65535
def MayP (n : Nat) (l : List (ByteArray × ByteArray)) (ks : List ByteArray) : Prop := 65536 ≤ n ∧ GoodKeys ks ∧ 1 ≤ l.length ∧ ∀ i, i < l.length → OkPair l ks i
theorem may43 (n : Nat) (k k' : SK) (l : List (ByteArray × ByteArray)) (ks : List ByteArray) (H : Heap) (hl : l.length < 9223372036854775807) (hks : ks.length < 4611686018427387903) :
    W env (.call 93 [.int .u64 n, .sl k (l.map eP), .sl k' (ks.map eS)]) H (fun o H' => Ext H H' ∧ ∃ b, o = .val (.bool b) ∧ (b = true ↔ MayP n l ks)) := by
  refine W.fnI rfl rfl rfl ?_
  have no : ¬ MayP n l ks → ((false : Bool) = true ↔ MayP n l ks) := fun h => ⟨fun e => (by cases e), fun e => absurd e h⟩
  by_cases hn : n < 65536
  · simp -implicitDefEqProofs only [ir93, op, ef, cl, sq, reduceIte, q1, q2, q3, q4, q5, q6, q7, q8, q9, S1, hn]
    exact ⟨Ext.rfl', false, rfl, no fun h => by have := h.1; omega⟩
  simp -implicitDefEqProofs only [ir93, op, ef, cl, sq, reduceIte, q1, q2, q3, q4, q5, q6, q7, q8, q9, S1, hn]
  refine callB_of _ _ _ _ _ _ _ _ (rising57 k' ks _ (by omega)) ?_
  rintro u H1 ⟨hu, rfl⟩
  cases hu
  cases hg : goodB ks
  · simp -implicitDefEqProofs only [op, ef, cl, sq, reduceIte, q1, q2, q3, q4, q5, q6, q7, q8, q9, S1]
    exact ⟨Ext.rfl', false, rfl, no fun h => by have := goodB_iff.2 h.2.1; rw [hg] at this; cases this⟩
  have hgk := goodB_iff.1 hg
  by_cases hl1 : l.length < 1
  · simp -implicitDefEqProofs only [op, ef, cl, sq, reduceIte, q1, q2, q3, q4, q5, q6, q7, q8, q9, S1, List.length_map, hl1]
    exact ⟨Ext.rfl', false, rfl, no fun h => by have := h.2.2.1; omega⟩
  simp -implicitDefEqProofs only [op, ef, cl, sq, reduceIte, q1, q2, q3, q4, q5, q6, q7, q8, q9, S1, List.length_map, hl1]
  refine W.loopI (fun (i : Nat) R H' => At H' (fun H' => Ext H1 H') ∧ R 0 = .int .u64 n ∧ R 1 = .sl k (l.map eP) ∧ R 2 = .sl k' (ks.map eS) ∧ R 21 = .sl k (l.map eP) ∧ R 22 = .int .i64 l.length ∧ R 23 = .int .i64 i ∧ i ≤ l.length ∧ ∀ j, j < i → OkPair l ks j) (fun i => l.length - i) 0 ⟨.i Ext.rfl', rfl, rfl, rfl, rfl, rfl, rfl, Nat.zero_le _, fun j h => by omega⟩ ?_
  rintro i R H2 ⟨hx, h0, h1, h2, h21, h22, h23, hi, hok⟩
  have hx : Ext H1 H2 := hx
  by_cases hlt : i < l.length
  · obtain ⟨p, hp⟩ := getP hlt
    have ws := wrap_succ (show i < 9223372036854775807 by omega)
    have hia := iadX (e := eP) (n := 2) (fun _ => rfl) (by decide) (k := k) hp
    have bad : ¬ OkPair l ks i → ((false : Bool) = true ↔ MayP n l ks) := fun hb => no fun h => hb (h.2.2.2 i hlt)
    have hxx : ∀ y : B, Ext H1 (H2 ++ [y]) := fun y => hx.app _
    have key : (0 < i → ∀ q, l[i-1]? = some q → strLt q.1 p.1 = true) → ∀ c : Bool, c = memB ks p.1 → (c = false ∨ 65535 < p.2.size → ¬ OkPair l ks i) ∧ (c = true → ¬ 65535 < p.2.size → ∀ j, j < i + 1 → OkPair l ks j) := by
      rintro hs c rfl
      refine ⟨fun h ho => ?_, fun hc hsz j hj => ?_⟩
      · have := (ho p hp).2
        rcases h with h | h
        · exact memB_no.1 h this.1
        · omega
      · by_cases e : j = i
        · subst e; intro p' hp'; rw [hp] at hp'; cases hp'
          exact ⟨hs, memB_iff.1 hc, by omega⟩
        · exact hok j (by omega)
    by_cases hi0 : 0 < i
    · obtain ⟨q, hq⟩ := getP (l := l) (i := i - 1) (by omega)
      have wp := wrap_pred (show i < 9223372036854775807 by omega) hi0
      have hiq := iadX (e := eP) (n := 2) (fun _ => rfl) (by decide) (k := k) hq
      cases hc : strLt q.1 p.1
      · simp -implicitDefEqProofs only [op, ef, cl, sq, reduceIte, q1, q2, q3, q4, q5, q6, q7, q8, q9, S1, S2, S3, h0, h1, h2, h21, h22, h23, hlt, natOf_nat, hia, hiq, eP, hi0, wp, hc]
        exact ⟨(hx.app _), false, rfl, bad fun h => by have := (h p hp).1 hi0 q hq; rw [hc] at this; cases this⟩
      · have hk := key (fun _ q' hq' => by rw [hq] at hq'; cases hq'; exact hc) (memB ks p.1) rfl
        simp -implicitDefEqProofs only [op, ef, cl, sq, reduceIte, q1, q2, q3, q4, q5, q6, q7, q8, q9, S1, S2, S3, h0, h1, h2, h21, h22, h23, hlt, natOf_nat, hia, hiq, eP, hi0, wp, hc]
        refine callB_of _ _ _ _ _ _ _ _ (has58 k' ks p.1 _ (by omega) hgk.rises) ?_
        rintro u H3 ⟨hu, rfl⟩
        cases hu
        cases hm : memB ks p.1
        · simp -implicitDefEqProofs only [op, ef, cl, sq, reduceIte, q1, q2, q3, q4, q5, q6, q7, q8, q9, S1]
          exact ⟨(hx.app _), false, rfl, bad (hk.1 (.inl hm))⟩
        · by_cases hsz : 65535 < p.2.size
          · simp -implicitDefEqProofs only [op, ef, cl, sq, reduceIte, q1, q2, q3, q4, q5, q6, q7, q8, q9, S1, S2, S3, hsz]
            exact ⟨(hx.app _), false, rfl, bad (hk.1 (.inr hsz))⟩
          · simp -implicitDefEqProofs only [op, ef, cl, sq, reduceIte, q1, q2, q3, q4, q5, q6, q7, q8, q9, S1, S2, S3, hsz, h0, h1, h2, h21, h22, h23, ws]
            exact ⟨i + 1, by omega, .i (hx.app _), rfl, by omega, hk.2 hm hsz⟩
    · have hk := key (fun h => absurd h hi0) (memB ks p.1) rfl
      simp -implicitDefEqProofs only [op, ef, cl, sq, reduceIte, q1, q2, q3, q4, q5, q6, q7, q8, q9, S1, S2, S3, h0, h1, h2, h21, h22, h23, hlt, natOf_nat, hia, eP, hi0]
      refine callB_of _ _ _ _ _ _ _ _ (has58 k' ks p.1 _ (by omega) hgk.rises) ?_
      rintro u H3 ⟨hu, rfl⟩
      cases hu
      cases hm : memB ks p.1
      · simp -implicitDefEqProofs only [op, ef, cl, sq, reduceIte, q1, q2, q3, q4, q5, q6, q7, q8, q9, S1]
        exact ⟨(hx.app _), false, rfl, bad (hk.1 (.inl hm))⟩
      · by_cases hsz : 65535 < p.2.size
        · simp -implicitDefEqProofs only [op, ef, cl, sq, reduceIte, q1, q2, q3, q4, q5, q6, q7, q8, q9, S1, S2, S3, hsz]
          exact ⟨(hx.app _), false, rfl, bad (hk.1 (.inr hsz))⟩
        · simp -implicitDefEqProofs only [op, ef, cl, sq, reduceIte, q1, q2, q3, q4, q5, q6, q7, q8, q9, S1, S2, S3, hsz, h0, h1, h2, h21, h22, h23, ws]
          exact ⟨i + 1, by omega, .i (hx.app _), rfl, by omega, hk.2 hm hsz⟩
  · have hil : i = l.length := by omega
    subst hil
    simp -implicitDefEqProofs only [op, ef, cl, sq, reduceIte, q1, q2, q3, q4, q5, q6, q7, q8, q9, S1, h0, h1, h2, h21, h22, h23, hlt]
    exact ⟨hx, true, rfl, ⟨fun _ => ⟨by omega, hgk, by omega, hok⟩, fun _ => rfl⟩⟩
theorem er_map (l : List ByteArray) : (l.map eS).map (·.map T.erase) = l.map eS := by simp [List.map_map, Function.comp_def, eS, T.erase]
theorem clone42 (k : SK) (l : List ByteArray) (H : Heap) (hk : KOk k l) (hl : l.length ≤ 16777216) : W env (.call 82 [.sl k (l.map eS)]) H (fun o H' => Ext H H' ∧ ∃ k', KOk k' l ∧ o = .val (.sl k' (l.map eS))) := by
  refine W.fnI rfl rfl rfl ?_
  have app : l ≠ [] → ∃ k' H', appT H 16 .full [] (l.map eS) = some (.sl k' (l.map eS), H') ∧ Ext H H' ∧ k' ≠ .nil := fun hne => by
    obtain ⟨k', H', ha, hap, hst⟩ := app_ok (n0 := H.length) (H := H) (bytes := 16) (k := .full) [] (l.map eS) (.inr (.inl rfl)) (Nat.le_refl _) (by simpa using hne) (roomS (by simp; omega) (by omega))
    rw [List.nil_append, er_map] at ha
    refine ⟨k', H', ha, hst.ext H (Nat.le_refl _) Ext.rfl', fun h => ?_⟩
    subst h
    unfold appT at ha
    cases hl : l.map eS with
    | nil => simp at hl; exact hne hl
    | cons c cs => rw [hl] at ha; simp only at ha; split at ha <;> simp at ha
  cases k with
  | nil =>
    have := hk rfl; subst this
    simp -implicitDefEqProofs only [ir82, op, ef, cl, sq, reduceIte, q1, q2, q3, q4, q5, q6, q7, q8, q9, S1, eqRef, nilOf]
    exact ⟨Ext.rfl', .nil, fun _ => rfl, rfl⟩
  | arg =>
    cases l with
    | nil =>
      simp -implicitDefEqProofs only [ir82, op, ef, cl, sq, reduceIte, q1, q2, q3, q4, q5, q6, q7, q8, q9, S1, eqRef, nilOf, Option.map_none]
      refine fun t => ?_
      cases t
      · simp -implicitDefEqProofs only [op, ef, cl, sq, reduceIte, q1, q2, q3, q4, q5, q6, q7, q8, q9, S1, appT]
        exact ⟨Ext.rfl', .full, fun h => rfl, rfl⟩
      · simp -implicitDefEqProofs only [op, ef, cl, sq, reduceIte, q1, q2, q3, q4, q5, q6, q7, q8, q9, S1]
        exact ⟨Ext.rfl', .nil, fun _ => rfl, rfl⟩
    | cons a l =>
      obtain ⟨k', H', ha, hx, hk'⟩ := app (by simp)
      have h1 := all_map (enc := eS) (n := 1) (fun _ => rfl) (a :: l)
      simp -implicitDefEqProofs only [List.map_cons] at ha h1
      simp -implicitDefEqProofs only [ir82, op, ef, cl, sq, reduceIte, q1, q2, q3, q4, q5, q6, q7, q8, q9, S1, eqRef, nilOf, ha, h1]
      exact ⟨hx, k', fun h => absurd h hk', rfl⟩
  | full =>
    cases l with
    | nil =>
      simp -implicitDefEqProofs only [ir82, op, ef, cl, sq, reduceIte, q1, q2, q3, q4, q5, q6, q7, q8, q9, S1, eqRef, nilOf, appT]
      exact ⟨Ext.rfl', .full, fun h => rfl, rfl⟩
    | cons a l =>
      obtain ⟨k', H', ha, hx, hk'⟩ := app (by simp)
      have h1 := all_map (enc := eS) (n := 1) (fun _ => rfl) (a :: l)
      simp -implicitDefEqProofs only [List.map_cons] at ha h1
      simp -implicitDefEqProofs only [ir82, op, ef, cl, sq, reduceIte, q1, q2, q3, q4, q5, q6, q7, q8, q9, S1, eqRef, nilOf, ha, h1]
      exact ⟨hx, k', fun h => absurd h hk', rfl⟩
  | own t e =>
    cases l with
    | nil =>
      simp -implicitDefEqProofs only [ir82, op, ef, cl, sq, reduceIte, q1, q2, q3, q4, q5, q6, q7, q8, q9, S1, eqRef, nilOf, appT]
      exact ⟨Ext.rfl', .full, fun h => rfl, rfl⟩
    | cons a l =>
      obtain ⟨k', H', ha, hx, hk'⟩ := app (by simp)
      have h1 := all_map (enc := eS) (n := 1) (fun _ => rfl) (a :: l)
      simp -implicitDefEqProofs only [List.map_cons] at ha h1
      simp -implicitDefEqProofs only [ir82, op, ef, cl, sq, reduceIte, q1, q2, q3, q4, q5, q6, q7, q8, q9, S1, eqRef, nilOf, ha, h1]
      exact ⟨hx, k', fun h => absurd h hk', rfl⟩
end Go.Proofs.YtmgldhlcapjdkaaGreat.St
end

section
namespace Go.Proofs.YtmgldhlcapjdkaaGreat.St
open Go.Rmp Go.Proofs.YtmgldhlcapjdkaaGreat.Ir
set_option maxRecDepth 10000
def Frm (F : Nat → Prop) (H H' : Heap) : Prop := H.length ≤ H'.length ∧ ∀ c, c < H.length → ¬ F c → H'[c]? = H[c]?
theorem Frm.refl (F : Nat → Prop) (H : Heap) : Frm F H H := ⟨Nat.le_refl _, fun _ _ _ => rfl⟩
theorem Frm.trans {F G : Nat → Prop} {H H' H'' : Heap} (h : Frm F H H') (h' : Frm G H' H'') (hg : ∀ c, G c → F c ∨ H.length ≤ c) : Frm F H H'' :=
  ⟨Nat.le_trans h.1 h'.1, fun c hc hf => by rw [h'.2 c (Nat.lt_of_lt_of_le hc h.1) (fun hgc => (hg c hgc).elim hf (fun h => by omega)), h.2 c hc hf]⟩
theorem ext_frm {F : Nat → Prop} {H H' : Heap} (h : Ext H H') : Frm F H H' := ⟨h.len, fun c hc _ => by
  obtain ⟨m, rfl⟩ := h; rw [List.getElem?_append_left hc]⟩
theorem Frm.set {F : Nat → Prop} {H H' : Heap} (h : Frm F H H') {b : Nat} (hb : F b ∨ H.length ≤ b) (y : B) : Frm F H (H'.set b y) :=
  ⟨by rw [List.length_set]; exact h.1, fun c hc hf => by
    have : b ≠ c := by rintro rfl; rcases hb with hb | hb; exact hf hb; omega
    rw [g_ne this, h.2 c hc hf]⟩
theorem Frm.app {F : Nat → Prop} {H H' : Heap} (h : Frm F H H') (l : Heap) : Frm F H (H' ++ l) := ⟨by rw [List.length_append]; have := h.1; omega, fun c hc hf => by
  rw [List.getElem?_append_left (Nat.lt_of_lt_of_le hc h.1), h.2 c hc hf]⟩
theorem Frm.get {F : Nat → Prop} {H H' : Heap} (h : Frm F H H') {c : Nat} {x : B} (hx : H[c]? = some x) (hf : ¬ F c) : H'[c]? = some x := by rw [h.2 c (glt hx) hf]; exact hx
theorem mut_at {α : Type} {enc : α → List T} (hn : ∀ x, (enc x).length = 1) {n0 : Nat} {H : Heap} {t : T} {l : List α} (hm : Mut enc 1 n0 H t l) {i : Nat} {x : α} (hx : l[i]? = some x) : ∃ b, H[b]? = some (.cells (msC enc l)) ∧ iadT 1 i t = some (.ptr b (i * 1)) ∧ ldcB 1 (i * 1) (some (.cells (msC enc l))) = some (enc x) := by
  have hi := (List.getElem?_eq_some_iff.1 hx).1
  rcases hm with ⟨rfl, _⟩ | ⟨b, rfl, hb, _⟩
  · simp at hi
  · refine ⟨b, hb, by rw [iad_m]; simp [hi], ?_⟩
    have := msC_get hn hx 0 1 (by decide)
    simp -implicitDefEqProofs only [Nat.add_zero, List.drop_zero] at this
    rw [this, List.take_of_length_le (by rw [hn]; omega)]
def RiseN (l : List Nat) : Prop := ∀ (i j a b : Nat), i < j → l[i]? = some a → l[j]? = some b → a < b
theorem bs59 (n0 : Nat) (t : T) (l : List Nat) (x : Nat) (H : Heap) (hm : Mut eU 1 n0 H t l) (hl : l.length < 4611686018427387903) (hr : RiseN l) :
    W env (.call 135 [t, .int .u64 x]) H (fun o H' => ∃ (i : Nat) (fd : Bool), o = .val (.tup [.int .i64 i, .bool fd]) ∧ H' = H ∧ i ≤ l.length ∧ (∀ p a, p < i → l[p]? = some a → a < x) ∧ ∀ p a, i ≤ p → l[p]? = some a → x ≤ a) := by
  refine W.fnI rfl rfl rfl ?_
  have hlen := hm.len
  simp -implicitDefEqProofs only [ir135, op, ef, cl, sq, reduceIte, q1, q2, q3, q4, q5, q6, q7, q8, q9, S1, hlen]
  refine W.loopI (fun (s : Nat × Nat) R H' => H' = H ∧ R 0 = t ∧ R 1 = .int .u64 x ∧ R 6 = .int .i64 l.length ∧ R 7 = .int .i64 s.1 ∧ R 8 = .int .i64 s.2 ∧ s.1 ≤ s.2 ∧ s.2 ≤ l.length ∧ (∀ p a, p < s.1 → l[p]? = some a → a < x) ∧ ∀ p a, s.2 ≤ p → l[p]? = some a → x ≤ a)
    (fun s => s.2 - s.1) (0, l.length) ⟨rfl, rfl, rfl, rfl, rfl, rfl, Nat.zero_le _, Nat.le_refl _, fun p a h => by omega, fun p a h ha => by rw [List.getElem?_eq_none h] at ha; cases ha⟩ ?_
  rintro ⟨i, j⟩ R _ ⟨rfl, h0, h1, h6, h7, h8, hij, hjn, hlo, hhi⟩
  simp -implicitDefEqProofs only [op, ef, cl, sq, reduceIte, q1, q2, q3, q4, q5, q6, q7, q8, q9, S1, h0, h1, h6, h7, h8]
  by_cases hlt : i < j
  · obtain ⟨y, hy⟩ := getP (l := l) (i := (i + j) / 2) (by omega)
    obtain ⟨b, g1, g2, g3⟩ := mut_at (enc := eU) (fun _ => rfl) hm hy
    simp -implicitDefEqProofs only [hlt, op, ef, cl, sq, reduceIte, q1, q2, q3, q4, q5, q6, q7, q8, q9, S1, h0, h1, h6, h7, h8, half i j (by omega), natOf_nat, g1, g2, g3, eU]
    refine callB_of _ _ _ _ _ _ _ _ (less71 y x _) ?_
    rintro v H' ⟨hv, rfl⟩
    cases hv
    simp -implicitDefEqProofs only [op, ef, cl, sq, reduceIte, q1, q2, q3, q4, q5, q6, q7, q8, q9, S1, h0, h1, h6, h7, h8]
    by_cases hc : y < x
    · simp -implicitDefEqProofs only [op, ef, cl, sq, reduceIte, q1, q2, q3, q4, q5, q6, q7, q8, q9, S1, h0, h1, h6, h7, h8, hc, wrap_succ (show (i + j) / 2 < 9223372036854775807 by omega)]
      refine ⟨((i + j) / 2 + 1, j), by omega, rfl, rfl, by omega, by omega, fun p a hp ha => ?_, hhi⟩
      by_cases e : p = (i + j) / 2
      · subst e; rw [hy] at ha; cases ha; exact hc
      · have := hr p ((i + j) / 2) a y (by omega) ha hy; omega
    · simp -implicitDefEqProofs only [op, ef, cl, sq, reduceIte, q1, q2, q3, q4, q5, q6, q7, q8, q9, S1, h0, h1, h6, h7, h8, hc]
      refine ⟨(i, (i + j) / 2), by omega, rfl, rfl, by omega, by omega, hlo, fun p a hp ha => ?_⟩
      by_cases e : p = (i + j) / 2
      · subst e; rw [hy] at ha; cases ha; omega
      · have := hr ((i + j) / 2) p y a (by omega) hy ha; omega
  · have hij' : i = j := by simp only at hij; omega
    subst hij'
    by_cases hin : i < l.length
    · obtain ⟨y, hy⟩ := getP hin
      obtain ⟨b, g1, g2, g3⟩ := mut_at (enc := eU) (fun _ => rfl) hm hy
      by_cases hyx : y = x
      · simp -implicitDefEqProofs only [op, ef, cl, sq, reduceIte, q1, q2, q3, q4, q5, q6, q7, q8, q9, S1, h0, h1, h6, h7, h8, hlt, hin, natOf_nat, g1, g2, g3, eU, hyx]
        exact ⟨i, true, rfl, hjn, hlo, hhi⟩
      · simp -implicitDefEqProofs only [op, ef, cl, sq, reduceIte, q1, q2, q3, q4, q5, q6, q7, q8, q9, S1, h0, h1, h6, h7, h8, hlt, hin, natOf_nat, g1, g2, g3, eU, hyx]
        refine callB_of _ _ _ _ _ _ _ _ (nan72 y _) ?_
        rintro v H' ⟨hv, rfl⟩
        cases hv
        simp -implicitDefEqProofs only [op, ef, cl, sq, reduceIte, q1, q2, q3, q4, q5, q6, q7, q8, q9, S1]
        exact ⟨i, false, rfl, hjn, hlo, hhi⟩
    · simp -implicitDefEqProofs only [op, ef, cl, sq, reduceIte, q1, q2, q3, q4, q5, q6, q7, q8, q9, S1, h0, h1, h6, h7, h8, hlt, hin]
      exact ⟨i, false, rfl, hjn, hlo, hhi⟩
end Go.Proofs.YtmgldhlcapjdkaaGreat.St
end

section

end

section
namespace Go.Proofs.YtmgldhlcapjdkaaGreat.St
open Go.Rmp Go.Proofs.YtmgldhlcapjdkaaGreat.Ir
set_option maxRecDepth 10000
theorem ins60 (t : T) (l : List Nat) (i x bv : Nat) (H : Heap) (hm : Mut eU 1 0 H t l) (hv : H[bv]? = some (.cells (eU x))) (hne : ∀ off len n, t ≠ .msl bv off len n) (hi : i ≤ l.length) (hl : l.length ≤ 16777215) :
    W env (.call 136 [t, .int .i64 i, .msl bv 0 1 1]) H (InsQ eU 1 0 H t (l.take i ++ x :: l.drop i)) := by
  rcases hm with ⟨rfl, rfl⟩ | ⟨b, rfl, hb, hbn⟩
  · have hi0 : i = 0 := by simpa using hi
    subst hi0
    exact ins_nil (f := 136) (bytes := 8) (fr := 174) (enc := eU) (fun _ => rfl) (by decide) 0 rfl 0 bv x H (Nat.zero_le _) hv (roomS (by omega) (by omega))
  · exact ins_msl (f := 136) (bytes := 8) (fr := 174) (enc := eU) (fun _ => rfl) (by decide) 0 rfl 0 bv b i x l H (Nat.zero_le _) hv hb hbn (fun h => hne 0 l.length 1 (by rw [h])) hi (by omega) (roomS (by omega) (by omega))
section
variable {α β γ : Type} [DecidableEq α]
theorem mlook_map (f : β → γ) (es : List (α × β)) (k : α) : mlook (es.map fun e => (e.1, f e.2)) k = (mlook es k).map f := by
  induction es with
  | nil => rfl
  | cons e es ih => simp -implicitDefEqProofs only [List.map_cons, mlook_cons, ih]; split <;> rfl
theorem mput_map (f : β → γ) (es : List (α × β)) (k : α) (v : β) : mput (es.map fun e => (e.1, f e.2)) k (f v) = (mput es k v).map fun e => (e.1, f e.2) := by
  induction es with
  | nil => rfl
  | cons e es ih => simp -implicitDefEqProofs only [List.map_cons, mput_cons, ih]; split <;> simp
theorem mlook_mem {es : List (α × β)} {k : α} {v : β} (h : mlook es k = some v) : (k, v) ∈ es := by
  induction es with
  | nil => cases h
  | cons e es ih =>
    rw [mlook_cons] at h
    split at h
    · rename_i hk; cases h; subst hk; exact List.mem_cons_self
    · exact List.mem_cons_of_mem _ (ih h)
theorem mlook_none {es : List (α × β)} {k : α} : mlook es k = none ↔ k ∉ es.map (·.1) := by
  induction es with
  | nil => simp [mlook_nil]
  | cons e es ih =>
    rw [mlook_cons]
    by_cases hk : k = e.1
    · simp [hk]
    · simp -implicitDefEqProofs only [hk, if_false, ih, List.map_cons, List.mem_cons, false_or]
theorem mput_keys (es : List (α × β)) (k : α) (v : β) : (mput es k v).map (·.1) = if k ∈ es.map (·.1) then es.map (·.1) else es.map (·.1) ++ [k] := by
  induction es with
  | nil => rfl
  | cons e es ih =>
    rw [mput_cons]
    by_cases hk : k = e.1
    · simp [hk]
    · simp -implicitDefEqProofs only [hk, if_false, List.map_cons, ih, List.mem_cons, false_or]
      split <;> simp
theorem mput_nodup {es : List (α × β)} (h : (es.map (·.1)).Nodup) (k : α) (v : β) : ((mput es k v).map (·.1)).Nodup := by
  rw [mput_keys]; split
  · exact h
  · rename_i hk; rw [List.nodup_append]; exact ⟨h, by simp, fun a ha b hb => by simp at hb; subst hb; rintro rfl; exact hk ha⟩
end
end Go.Proofs.YtmgldhlcapjdkaaGreat.St
end

section
namespace Go.Proofs.YtmgldhlcapjdkaaGreat.St
open Go.Rmp Go.Proofs.YtmgldhlcapjdkaaGreat.Ir
set_option maxRecDepth 10000
structure Hd where
  value : ByteArray
  kk : SK
  keys : List ByteArray
  stamp : Int
def encHd (h : Hd) : T := .agg [.str h.value, .sl h.kk (h.keys.map eS), .int .i64 h.stamp]
def encV (vs : List (Nm × Hd)) : List (Nm × T) := vs.map fun e => (e.1, encHd e.2)
def encL (ls : List (ByteArray × Nat)) : List (ByteArray × T) := ls.map fun e => (e.1, T.int .u64 e.2)
structure Sto where
  vs : List (Nm × Hd)
  ls : List (ByteArray × Nat)
  ids : ByteArray → List Nat
  pls : Nat → List ByteArray
  n : Nat
structure SInv (s : Sto) : Prop where
  rise : ∀ k, RiseN (s.ids k)
  idm : ∀ k n, n ∈ s.ids k ↔ (mlook s.vs (k, n)).isSome = true
  pnd : ∀ n, (s.pls n).Nodup
  plm : ∀ n k, k ∈ s.pls n ↔ (mlook s.vs (k, n)).isSome = true
  nd : (s.vs.map (·.1)).Nodup
  kok : ∀ m h, mlook s.vs m = some h → KOk h.kk h.keys ∧ h.keys.length ≤ 1024
  bi : ∀ k, (s.ids k).length ≤ s.n
  bp : ∀ n, (s.pls n).length ≤ s.n
  ndl : (s.ls.map (·.1)).Nodup
def Own {α : Type} (enc : α → List T) (F : Nat → Prop) (H : Heap) (o : Option T) (l : List α) : Prop := match o with
  | .none => l = []
  | some t => ∃ b, t = .msl b 0 l.length 1 ∧ H[b]? = some (.cells (msC enc l)) ∧ F b
def blk : Option T → Option Nat
  | some (.msl b _ _ _) => some b
  | _ => .none
theorem Own.mut {α : Type} {enc : α → List T} {F : Nat → Prop} {H : Heap} {o : Option T} {l : List α} (h : Own enc F H o l) : Mut enc 1 0 H (lkpT o (.sl .nil []) false) l := by
  cases o with
  | none => have h : l = [] := h; exact .inl ⟨h, rfl⟩
  | some t => obtain ⟨b, rfl, h1, _⟩ := h; exact .inr ⟨b, rfl, h1, Nat.zero_le _⟩
theorem Own.keep {α : Type} {enc : α → List T} {F F' : Nat → Prop} {H H' : Heap} {o : Option T} {l : List α} (h : Own enc F H o l) (hk : ∀ b x, blk o = some b → H[b]? = some x → H'[b]? = some x) (hF : ∀ b, blk o = some b → F b → F' b) : Own enc F' H' o l := by
  cases o with
  | none => exact h
  | some t => obtain ⟨b, rfl, h1, h2⟩ := h; exact ⟨b, rfl, hk b _ rfl h1, hF b rfl h2⟩
theorem Own.cells {α : Type} {enc : α → List T} {F : Nat → Prop} {H : Heap} {o : Option T} {l : List α} (h : Own enc F H o l) {b : Nat} (hb : blk o = some b) : H[b]? = some (.cells (msC enc l)) ∧ F b := by
  cases o with
  | none => cases hb
  | some t => obtain ⟨b', rfl, h1, h2⟩ := h; cases hb; exact ⟨h1, h2⟩
structure Bk where
  s : Nat
  v : Nat
  i : Nat
  p : Nat
  l : Nat
structure SAt (H : Heap) (b : Bk) (im : List (ByteArray × T)) (pm : List (Nat × T)) (s : Sto) (F : Nat → Prop) : Prop where
  hs : H[b.s]? = some (.cells [.map b.v, .map b.i, .map b.p, .map b.l])
  hv : H[b.v]? = some (.map (encK kN (encV s.vs)))
  hi : H[b.i]? = some (.map (encK T.str im))
  hp : H[b.p]? = some (.map (encK kU pm))
  hl : H[b.l]? = some (.map (encK T.str (encL s.ls)))
  vi : b.v ≠ b.i
  vp : b.v ≠ b.p
  vl : b.v ≠ b.l
  ip : b.i ≠ b.p
  il : b.i ≠ b.l
  pl : b.p ≠ b.l
  F0 : F b.s ∧ F b.v ∧ F b.i ∧ F b.p ∧ F b.l
  oi : ∀ k, Own eU F H (mlook im k) (s.ids k)
  op : ∀ n, Own eS F H (mlook pm n) (s.pls n)
  si : ∀ k k' c, blk (mlook im k) = some c → blk (mlook im k') = some c → k = k'
  sp : ∀ n n' c, blk (mlook pm n) = some c → blk (mlook pm n') = some c → n = n'
  sx : ∀ k n c, blk (mlook im k) = some c → blk (mlook pm n) = some c → False
  np : (pm.map (·.1)).Nodup
def SH (H : Heap) (b : Bk) (s : Sto) (F : Nat → Prop) : Prop := ∃ im pm, SAt H b im pm s F
theorem cell_ne {H : Heap} {b c : Nat} {es : List (T × T)} {cs : List T} (h : H[b]? = some (.map es)) (h' : H[c]? = some (.cells cs)) : b ≠ c := by rintro rfl; rw [h] at h'; cases h'
theorem SAt.ne {H : Heap} {b : Bk} {im : List (ByteArray × T)} {pm : List (Nat × T)} {s : Sto} {F : Nat → Prop} (h : SAt H b im pm s F) : b.v ≠ b.s ∧ b.i ≠ b.s ∧ b.p ≠ b.s ∧ b.l ≠ b.s := ⟨cell_ne h.hv h.hs, cell_ne h.hi h.hs, cell_ne h.hp h.hs, cell_ne h.hl h.hs⟩
theorem msC_blk {α : Type} {enc : α → List T} (hn : ∀ x, ∃ t, enc x = [t] ∧ ∀ b, t ≠ .map b) {l : List α} {a b c d : Nat} : msC enc l ≠ [.map a, .map b, .map c, .map d] := by
  intro h
  cases l with
  | nil => simp [msC] at h
  | cons x l =>
    obtain ⟨t, ht, hm⟩ := hn x
    simp -implicitDefEqProofs only [msC, List.flatMap_cons, ht, List.cons_append, List.nil_append, List.cons.injEq] at h
    exact hm _ h.1
theorem SAt.blkI {H : Heap} {b : Bk} {im : List (ByteArray × T)} {pm : List (Nat × T)} {s : Sto} {F : Nat → Prop} (h : SAt H b im pm s F) {k : ByteArray} {c : Nat} (hc : blk (mlook im k) = some c) : c ≠ b.s ∧ c ≠ b.v ∧ c ≠ b.i ∧ c ≠ b.p ∧ c ≠ b.l ∧ F c ∧ c < H.length := by
  obtain ⟨h1, h2⟩ := (h.oi k).cells hc
  refine ⟨?_, Ne.symm (cell_ne h.hv h1), Ne.symm (cell_ne h.hi h1), Ne.symm (cell_ne h.hp h1), Ne.symm (cell_ne h.hl h1), h2, glt h1⟩
  rintro rfl
  rw [h.hs] at h1
  exact msC_blk (enc := eU) (fun x => ⟨_, rfl, fun _ h => by cases h⟩) (B.cells.inj (Option.some.inj h1)).symm
theorem SAt.blkP {H : Heap} {b : Bk} {im : List (ByteArray × T)} {pm : List (Nat × T)} {s : Sto} {F : Nat → Prop} (h : SAt H b im pm s F) {n : Nat} {c : Nat} (hc : blk (mlook pm n) = some c) : c ≠ b.s ∧ c ≠ b.v ∧ c ≠ b.i ∧ c ≠ b.p ∧ c ≠ b.l ∧ F c ∧ c < H.length := by
  obtain ⟨h1, h2⟩ := (h.op n).cells hc
  refine ⟨?_, Ne.symm (cell_ne h.hv h1), Ne.symm (cell_ne h.hi h1), Ne.symm (cell_ne h.hp h1), Ne.symm (cell_ne h.hl h1), h2, glt h1⟩
  rintro rfl
  rw [h.hs] at h1
  exact msC_blk (enc := eS) (fun x => ⟨_, rfl, fun _ h => by cases h⟩) (B.cells.inj (Option.some.inj h1)).symm
theorem SAt.frm {H H' : Heap} {b : Bk} {im : List (ByteArray × T)} {pm : List (Nat × T)} {s : Sto} {F G : Nat → Prop} (h : SAt H b im pm s F) (hf : Frm G H H') (hg : ∀ c, F c → c < H.length → ¬ G c) : SAt H' b im pm s F := by
  obtain ⟨f0, f1, f2, f3, f4⟩ := h.F0
  have k : ∀ {c x}, F c → H[c]? = some x → H'[c]? = some x := fun hF hx => hf.get hx (hg _ hF (glt hx))
  exact ⟨k f0 h.hs, k f1 h.hv, k f2 h.hi, k f3 h.hp, k f4 h.hl, h.vi, h.vp, h.vl, h.ip, h.il, h.pl, h.F0,
    fun q => (h.oi q).keep (fun c x hc hx => k (h.blkI hc).2.2.2.2.2.1 hx) (fun _ _ h => h), fun q => (h.op q).keep (fun c x hc hx => k (h.blkP hc).2.2.2.2.2.1 hx) (fun _ _ h => h), h.si, h.sp, h.sx, h.np⟩
end Go.Proofs.YtmgldhlcapjdkaaGreat.St
end

section
namespace Go.Proofs.YtmgldhlcapjdkaaGreat.St
open Go.Rmp Go.Proofs.YtmgldhlcapjdkaaGreat.Ir
set_option maxRecDepth 10000
theorem rise_pw {l : List Nat} : RiseN l ↔ l.Pairwise (· < ·) := by
  rw [List.pairwise_iff_getElem]
  constructor
  · intro h i j hi hj hij
    exact h i j _ _ hij (List.getElem?_eq_getElem hi) (List.getElem?_eq_getElem hj)
  · intro h i j a b hij ha hb
    obtain ⟨hi, e1⟩ := List.getElem?_eq_some_iff.1 ha
    obtain ⟨hj, e2⟩ := List.getElem?_eq_some_iff.1 hb
    have := h i j hi hj hij
    rw [e1, e2] at this; exact this
theorem rise_ins {l : List Nat} {i x : Nat} (h : RiseN l) (hx : x ∉ l) (h1 : ∀ p a, p < i → l[p]? = some a → a < x) (h2 : ∀ p a, i ≤ p → l[p]? = some a → x ≤ a) : RiseN (l.take i ++ x :: l.drop i) := by
  rw [rise_pw] at h ⊢
  have m1 : ∀ a ∈ l.take i, a < x := fun a ha => by
    obtain ⟨p, hp, e⟩ := List.getElem_of_mem ha
    have hp' : p < i ∧ p < l.length := by simp -implicitDefEqProofs only [List.length_take] at hp; omega
    exact h1 p a hp'.1 (by rw [← e]; simp [List.getElem?_eq_getElem hp'.2])
  have m2 : ∀ a ∈ l.drop i, x < a := fun a ha => by
    obtain ⟨p, hp, e⟩ := List.getElem_of_mem ha
    have hp' : i + p < l.length := by simp -implicitDefEqProofs only [List.length_drop] at hp; omega
    have h3 := h2 (i + p) a (by omega) (by rw [← e]; simp [List.getElem?_eq_getElem hp'])
    have : a ≠ x := by rintro rfl; exact hx (List.mem_of_mem_drop ha)
    omega
  rw [List.pairwise_append]
  refine ⟨h.sublist (List.take_sublist _ _), ?_, fun a ha b hb => ?_⟩
  · rw [List.pairwise_cons]
    exact ⟨m2, h.sublist (List.drop_sublist _ _)⟩
  · have := m1 a ha
    rcases List.mem_cons.1 hb with rfl | hb
    · exact this
    · have := m2 b hb; omega
theorem mem_ins {l : List Nat} {i x a : Nat} : a ∈ l.take i ++ x :: l.drop i ↔ a = x ∨ a ∈ l := by
  conv => rhs; rw [← List.take_append_drop i l]
  simp -implicitDefEqProofs only [List.mem_append, List.mem_cons]
  constructor
  · rintro (h | h | h)
    · exact .inr (.inl h)
    · exact .inl h
    · exact .inr (.inr h)
  · rintro (h | h | h)
    · exact .inr (.inl h)
    · exact .inl h
    · exact .inr (.inr h)
theorem blk_lkp {o : Option T} {c off len m : Nat} (h : lkpT o (.sl .nil []) false = .msl c off len m) : blk o = some c := by
  cases o with
  | none => cases h
  | some t => have h : t = _ := h; subst h; rfl
def Sto.put (s : Sto) (k : ByteArray) (n : Nat) (h : Hd) (l : List Nat) : Sto := ⟨mput s.vs (k, n) h, s.ls, fun k' => if k' = k then l else s.ids k', fun n' => if n' = n then s.pls n ++ [k] else s.pls n', s.n + 1⟩
theorem SInv.put {s : Sto} (hi : SInv s) {k : ByteArray} {n : Nat} {h : Hd} (hno : mlook s.vs (k, n) = none) (hk : KOk h.kk h.keys ∧ h.keys.length ≤ 1024) {i : Nat} (h1 : ∀ p a, p < i → (s.ids k)[p]? = some a → a < n) (h2 : ∀ p a, i ≤ p → (s.ids k)[p]? = some a → n ≤ a) : SInv (s.put k n h ((s.ids k).take i ++ n :: (s.ids k).drop i)) := by
  have hx : n ∉ s.ids k := fun hm => by rw [hi.idm, hno] at hm; cases hm
  have hp : k ∉ s.pls n := fun hm => by rw [hi.plm, hno] at hm; cases hm
  refine ⟨fun k' => ?_, fun k' n' => ?_, fun n' => ?_, fun n' k' => ?_, mput_nodup hi.nd _ _, fun m h' hm => ?_, fun k' => ?_, fun n' => ?_, hi.ndl⟩
  · simp -implicitDefEqProofs only [Sto.put]; split
    · exact rise_ins (hi.rise k) hx h1 h2
    · exact hi.rise k'
  · simp -implicitDefEqProofs only [Sto.put, mlook_put]
    by_cases e : k' = k
    · subst e
      simp -implicitDefEqProofs only [if_true, mem_ins, hi.idm, Prod.mk.injEq, true_and]
      by_cases e2 : n' = n <;> simp [e2]
    · simp [e, hi.idm]
  · simp -implicitDefEqProofs only [Sto.put]; split
    · rw [List.nodup_append]; exact ⟨hi.pnd n, by simp, fun a ha c hc => by simp at hc; subst hc; rintro rfl; exact hp ha⟩
    · exact hi.pnd n'
  · simp -implicitDefEqProofs only [Sto.put, mlook_put]
    by_cases e : n' = n
    · subst e
      simp -implicitDefEqProofs only [if_true, List.mem_append, List.mem_singleton, hi.plm, Prod.mk.injEq, and_true]
      by_cases e2 : k' = k <;> simp [e2]
    · simp [e, hi.plm]
  · simp -implicitDefEqProofs only [Sto.put, mlook_put] at hm
    split at hm
    · cases hm; exact hk
    · exact hi.kok m h' hm
  · have := hi.bi k'
    simp -implicitDefEqProofs only [Sto.put]; split
    · rename_i e; subst e; simp -implicitDefEqProofs only [List.length_append, List.length_take, List.length_cons, List.length_drop]; omega
    · omega
  · have := hi.bp n'
    simp -implicitDefEqProofs only [Sto.put]; split
    · rename_i e; subst e; simp -implicitDefEqProofs only [List.length_append, List.length_singleton]; omega
    · omega
theorem put41 (b : Bk) (s : Sto) (F : Nat → Prop) (k : ByteArray) (n : Nat) (h : Hd) (H : Heap) (hs : SH H b s F) (hi : SInv s) (hno : mlook s.vs (k, n) = none) (hn : s.n ≤ 8000000) (hk : KOk h.kk h.keys ∧ h.keys.length ≤ 1024) :
    W env (.call 95 [.ptr b.s 0, kN (k, n), encHd h]) H (fun o H' => o = .val (.tup []) ∧ ∃ s' F', SH H' b s' F' ∧ SInv s' ∧ s'.vs = mput s.vs (k, n) h ∧ s'.ls = s.ls ∧ s'.n = s.n + 1 ∧ Frm F H H' ∧ ∀ c, F' c → F c ∨ (H.length ≤ c ∧ c < H'.length)) := by
  obtain ⟨im, pm, sa⟩ := hs
  obtain ⟨sv, si, sp, sl⟩ := sa.ne
  have l0 := glt sa.hs
  have lv := glt sa.hv
  have li := glt sa.hi
  have lp := glt sa.hp
  have ll := glt sa.hl
  obtain ⟨t, ht⟩ : ∃ t, lkpT (mlook im k) (.sl .nil []) false = t := ⟨_, rfl⟩
  have hmt := (sa.oi k).mut
  rw [ht] at hmt
  have hup := fun Hx v => upmB_K kNok Hx b.v (encV s.vs) (k, n) v
  simp -implicitDefEqProofs only [kN, eN] at hup
  refine W.fnI rfl rfl rfl ?_
  simp -implicitDefEqProofs only [ir95, kN, eN, encHd, op, ef, cl, sq, reduceIte, q1, q2, q3, q4, q5, q6, q7, q8, q9, S1, S2, S3, List.length_set, sa.hs, sa.hv, l0, lv, hup, sv, li, sa.hi, sa.vi, lkpB_M, ht]
  generalize hH1 : H.set b.v (B.map (encK kN (mput (encV s.vs) (k, n) (T.agg [T.str h.value, T.sl h.kk (h.keys.map eS), T.int IntKind.i64 h.stamp])))) ++ [B.cells [T.str k, T.int IntKind.u64 n]] ++ [B.cells [T.str h.value, T.sl h.kk (h.keys.map eS), T.int IntKind.i64 h.stamp]] = H1
  have len1 : H1.length = H.length + 2 := by rw [← hH1]; simp
  have keep1 : ∀ {c x}, c ≠ b.v → H[c]? = some x → H1[c]? = some x := fun hc hx => by
    have := glt hx
    rw [← hH1, g_app (by simp; omega), g_app (by simpa using this), g_ne (Ne.symm hc)]; exact hx
  have c1 : H1[H.length]? = some (.cells [T.str k, T.int IntKind.u64 n]) := by rw [← hH1, g_app (by simp), g_tail (by simp)]
  have v1 : H1[b.v]? = some (.map (encK kN (encV (mput s.vs (k, n) h)))) := by
    rw [← hH1, g_app (by simp; omega), g_app (by simpa using lv), g_eq lv]
    congr 3; exact mput_map encHd s.vs (k, n) h
  have s1 := keep1 (Ne.symm sv) sa.hs
  have i1 := keep1 (Ne.symm sa.vi) sa.hi
  have p1 := keep1 (Ne.symm sa.vp) sa.hp
  have w1 := keep1 (Ne.symm sa.vl) sa.hl
  have hmt1 : Mut eU 1 0 H1 t (s.ids k) := by
    have := ((sa.oi k).keep (F' := F) (H' := H1) (fun c x hc hx => keep1 (sa.blkI hc).2.1 hx) (fun _ _ h => h)).mut
    rwa [ht] at this
  refine callB_of _ _ _ _ _ _ _ _ (bs59 0 t (s.ids k) n H1 hmt1 (by have := hi.bi k; omega) (hi.rise k)) ?_
  rintro u H2 ⟨i, fd, hu, rfl, hi1, hi2, hi3⟩
  cases hu
  have l10 : b.s < H2.length := glt s1
  have l11 : H.length < H2.length := glt c1
  have l12 : b.i < H2.length := glt i1
  have l13 : b.p < H2.length := glt p1
  simp -implicitDefEqProofs only [op, ef, cl, sq, reduceIte, q1, q2, q3, q4, q5, q6, q7, q8, q9, S1, S2, S3, s1, c1, i1, l10, l11, l12, lkpB_M, ht]
  have tne : ∀ c, (∀ c', blk (mlook im k) = some c' → c' ≠ c) → ∀ off len m, t ≠ .msl c off len m := fun c hc off len m he => hc c (blk_lkp (ht.trans he)) rfl
  have fr2 : ∀ y : B, Ext H2 (H2 ++ [y]) := fun y => ⟨_, rfl⟩
  have h60 := ins60 t (s.ids k) i n H2.length _ (hmt1.ext (fr2 (.cells [.int .u64 n]))) (g_tail rfl) (fun off len m he => by have := (sa.blkI (blk_lkp (ht.trans he))).2.2.2.2.2.2; omega) hi1 (by have := hi.bi k; omega)
  obtain ⟨ys, hys⟩ : ∃ ys, ys = (s.ids k).take i ++ n :: (s.ids k).drop i := ⟨_, rfl⟩
  rw [← hys] at h60
  refine callB_of _ _ _ _ _ _ _ _ h60 ?_
  rintro u H3 ⟨b', hu, hb', _, hst, hfr⟩
  cases hu
  have keep3 : ∀ {c x}, H2[c]? = some x → (∀ c', blk (mlook im k) = some c' → c' ≠ c) → H3[c]? = some x := fun hx hc => hst.get _ _ ((fr2 _).get hx) (tne _ hc)
  have s3 := keep3 s1 fun c' hc => (sa.blkI hc).1
  have v3 := keep3 v1 fun c' hc => (sa.blkI hc).2.1
  have i3 := keep3 i1 fun c' hc => (sa.blkI hc).2.2.1
  have p3 := keep3 p1 fun c' hc => (sa.blkI hc).2.2.2.1
  have w3 := keep3 w1 fun c' hc => (sa.blkI hc).2.2.2.2.1
  have c3 := keep3 c1 fun c' hc => by have := (sa.blkI hc).2.2.2.2.2.2; omega
  have l30 := glt s3
  have l31 := glt c3
  have l32 := glt i3
  have l33 := glt p3
  have len3 : H2.length + 1 ≤ H3.length := by have := hst.len; simpa using this
  have bH : b.i ≠ H.length := by omega
  obtain ⟨t2, ht2⟩ : ∃ t2, lkpT (mlook pm n) (.sl .nil []) false = t2 := ⟨_, rfl⟩
  obtain ⟨H4, hH4⟩ : ∃ H4, H4 = H3.set b.i (.map (encK T.str (mput im k (.msl b' 0 ys.length 1)))) := ⟨_, rfl⟩
  have keep4 : ∀ {c x}, H3[c]? = some x → c ≠ b.i → H4[c]? = some x := fun hx hc => by rw [hH4, g_ne (Ne.symm hc)]; exact hx
  have s4 := keep4 s3 (Ne.symm si)
  have c4 := keep4 c3 (Ne.symm bH)
  have p4 := keep4 p3 (Ne.symm sa.ip)
  have v4 := keep4 v3 sa.vi
  have w4 := keep4 w3 (Ne.symm sa.il)
  have i4 : H4[b.i]? = some (.map (encK T.str (mput im k (.msl b' 0 ys.length 1)))) := by rw [hH4, g_eq l32]
  have kP : ∀ n' c x, blk (mlook pm n') = some c → H[c]? = some x → H4[c]? = some x := fun n' c x hc hx => by
    obtain ⟨e1, e2, e3, e4, e5, _, e6⟩ := sa.blkP hc
    exact keep4 (keep3 (keep1 e2 hx) fun c' hc' e => sa.sx k n' c (e ▸ hc') hc) e3
  have hmt2 : Mut eS 1 0 H4 t2 (s.pls n) := by
    have := ((sa.op n).keep (F' := F) (H' := H4) (fun c x hc hx => kP n c x hc hx) (fun _ _ h => h)).mut
    rwa [ht2] at this
  have hfg : fgt t2 = t2 := by
    rcases hmt2 with ⟨_, rfl⟩ | ⟨_, rfl, _⟩ <;> rfl
  obtain ⟨t3, H5, hap, hm3, hst3⟩ := appM_ok (enc := eS) (n := 1) (n0 := 0) (bytes := 16) (fun _ => rfl) [k] hmt2 (Nat.zero_le _) (by simp) (roomS (by have := hi.bp n; simp; omega) (by omega))
  simp -implicitDefEqProofs only [List.map_cons, List.map_nil, eS] at hap
  have t2ne : ∀ c, (∀ c', blk (mlook pm n) = some c' → c' ≠ c) → ∀ off len m, t2 ≠ .msl c off len m := fun c hc off len m he => hc c (blk_lkp (ht2.trans he)) rfl
  have keep5 : ∀ {c x}, H4[c]? = some x → (∀ c', blk (mlook pm n) = some c' → c' ≠ c) → H5[c]? = some x := fun hx hc => hst3.get _ _ hx (t2ne _ hc)
  have s5 := keep5 s4 fun c' hc => (sa.blkP hc).1
  have v5 := keep5 v4 fun c' hc => (sa.blkP hc).2.1
  have i5 := keep5 i4 fun c' hc => (sa.blkP hc).2.2.1
  have p5 := keep5 p4 fun c' hc => (sa.blkP hc).2.2.2.1
  have w5 := keep5 w4 fun c' hc => (sa.blkP hc).2.2.2.2.1
  have c5 := keep5 c4 fun c' hc => by have := (sa.blkP hc).2.2.2.2.2.2; omega
  simp -implicitDefEqProofs only [op, ef, cl, sq, reduceIte, q1, q2, q3, q4, q5, q6, q7, q8, q9, S1, S2, s3, c3, i3, upmB_M, ← hH4, s4, c4, p4, s5, c5, p5, lkpB_N, ht2, hfg, hap, upmB_N]
  have hpl : s.pls n ++ [k] ≠ [] := by simp
  obtain ⟨b3, rfl, hb3, _⟩ : ∃ b3, t3 = .msl b3 0 (s.pls n ++ [k]).length 1 ∧ H5[b3]? = some (.cells (msC eS (s.pls n ++ [k]))) ∧ 0 ≤ b3 := by
    rcases hm3 with ⟨h, _⟩ | h
    · exact absurd h hpl
    · exact h
  have fr3 : H4.length ≤ b3 := appM_fr hap (by simp)
  have len4 : H4.length = H3.length := by rw [hH4]; simp
  have lb' := glt hb'
  have lb3 := glt hb3
  have nb : H.length ≤ b' ∨ blk (mlook im k) = some b' := by
    rcases hfr with h | ⟨off, len, m, h⟩
    · rw [List.length_append] at h; exact .inl (by omega)
    · exact .inr (blk_lkp (ht.trans h))
  have nbS : ∀ {c}, c < H.length → (∀ c', blk (mlook im k) = some c' → c' ≠ c) → b' ≠ c := fun hc hh => nb.elim (fun h => by omega) fun h => hh _ h
  have keep6 : ∀ {c x}, H5[c]? = some x → c ≠ b.p → (H5.set b.p (.map (encK kU (mput pm n (.msl b3 0 (s.pls n ++ [k]).length 1)))))[c]? = some x := fun hx hc => by rw [g_ne (Ne.symm hc)]; exact hx
  have kI : ∀ k' c x, k' ≠ k → blk (mlook im k') = some c → H[c]? = some x → (H5.set b.p (.map (encK kU (mput pm n (.msl b3 0 (s.pls n ++ [k]).length 1)))))[c]? = some x := fun k' c x hk hc hx => by
    obtain ⟨e1, e2, e3, e4, e5, _, e6⟩ := sa.blkI hc
    exact keep6 (keep5 (keep4 (keep3 (keep1 e2 hx) fun c' hc' e => hk (sa.si k' k c hc (e ▸ hc'))) e3) fun c' hc' e => sa.sx k' n c hc (e ▸ hc')) e4
  refine ⟨rfl, s.put k n h ys, fun c => F c ∨ (H.length ≤ c ∧ c < H5.length), ⟨mput im k (.msl b' 0 ys.length 1), mput pm n (.msl b3 0 (s.pls n ++ [k]).length 1), ?_⟩, by rw [hys]; exact hi.put hno hk hi2 hi3, rfl, rfl, rfl, ?_, fun c h => h⟩
  · refine ⟨keep6 s5 (Ne.symm sp), keep6 v5 sa.vp, keep6 i5 sa.ip, g_eq (glt p5), keep6 w5 (Ne.symm sa.pl), sa.vi, sa.vp, sa.vl, sa.ip, sa.il, sa.pl, ⟨.inl sa.F0.1, .inl sa.F0.2.1, .inl sa.F0.2.2.1, .inl sa.F0.2.2.2.1, .inl sa.F0.2.2.2.2⟩, fun k' => ?_, fun n' => ?_, fun k1 k2 c h1 h2 => ?_, fun n1 n2 c h1 h2 => ?_, fun k1 n1 c h1 h2 => ?_, mput_nodup sa.np _ _⟩
    · simp -implicitDefEqProofs only [Sto.put, mlook_put]
      by_cases e : k' = k
      · simp -implicitDefEqProofs only [e, if_true]
        refine ⟨b', rfl, keep6 (keep5 (keep4 hb' (nbS li fun c' hc' => (sa.blkI hc').2.2.1)) fun c' hc' e' => ?_) (nbS lp fun c' hc' => (sa.blkI hc').2.2.2.1), nb.elim (fun h => .inr ⟨h, by have := hst3.len; omega⟩) fun h => .inl (sa.blkI h).2.2.2.2.2.1⟩
        subst e'
        exact nb.elim (fun h => by have := (sa.blkP hc').2.2.2.2.2.2; omega) fun h => sa.sx k n _ h hc'
      · simp -implicitDefEqProofs only [e, if_false]
        exact (sa.oi k').keep (fun c x hc hx => kI k' c x e hc hx) fun c _ h => .inl h
    · simp -implicitDefEqProofs only [Sto.put, mlook_put]
      by_cases e : n' = n
      · simp -implicitDefEqProofs only [e, if_true]
        exact ⟨b3, rfl, keep6 hb3 (by omega), .inr ⟨by omega, lb3⟩⟩
      · simp -implicitDefEqProofs only [e, if_false]
        refine (sa.op n').keep (fun c x hc hx => keep6 (keep5 (kP n' c x hc hx) fun c' hc' e' => e (sa.sp n' n c hc (e' ▸ hc'))) (sa.blkP hc).2.2.2.1) fun c _ h => .inl h
    · simp -implicitDefEqProofs only [mlook_put] at h1 h2
      by_cases e1 : k1 = k
      · by_cases e2 : k2 = k
        · rw [e1, e2]
        · simp -implicitDefEqProofs only [e1, if_true, blk, Option.some.injEq] at h1
          simp -implicitDefEqProofs only [e2, if_false] at h2
          subst h1
          exact absurd (nb.elim (fun h => by have := (sa.blkI h2).2.2.2.2.2.2; omega) fun h => sa.si _ _ _ h2 h) e2
      · by_cases e2 : k2 = k
        · simp -implicitDefEqProofs only [e2, if_true, blk, Option.some.injEq] at h2
          simp -implicitDefEqProofs only [e1, if_false] at h1
          subst h2
          exact absurd (nb.elim (fun h => by have := (sa.blkI h1).2.2.2.2.2.2; omega) fun h => sa.si _ _ _ h1 h) e1
        · simp -implicitDefEqProofs only [e1, e2, if_false] at h1 h2
          exact sa.si _ _ _ h1 h2
    · simp -implicitDefEqProofs only [mlook_put] at h1 h2
      by_cases e1 : n1 = n
      · by_cases e2 : n2 = n
        · rw [e1, e2]
        · simp -implicitDefEqProofs only [e1, if_true, blk, Option.some.injEq] at h1
          simp -implicitDefEqProofs only [e2, if_false] at h2
          have := (sa.blkP h2).2.2.2.2.2.2; omega
      · by_cases e2 : n2 = n
        · simp -implicitDefEqProofs only [e2, if_true, blk, Option.some.injEq] at h2
          simp -implicitDefEqProofs only [e1, if_false] at h1
          have := (sa.blkP h1).2.2.2.2.2.2; omega
        · simp -implicitDefEqProofs only [e1, e2, if_false] at h1 h2
          exact sa.sp _ _ _ h1 h2
    · simp -implicitDefEqProofs only [mlook_put] at h1 h2
      by_cases e1 : k1 = k
      · simp -implicitDefEqProofs only [e1, if_true, blk, Option.some.injEq] at h1
        by_cases e2 : n1 = n
        · simp -implicitDefEqProofs only [e2, if_true, blk, Option.some.injEq] at h2
          omega
        · simp -implicitDefEqProofs only [e2, if_false] at h2
          subst h1
          exact nb.elim (fun h => by have := (sa.blkP h2).2.2.2.2.2.2; omega) fun h => sa.sx _ _ _ h h2
      · simp -implicitDefEqProofs only [e1, if_false] at h1
        by_cases e2 : n1 = n
        · simp -implicitDefEqProofs only [e2, if_true, blk, Option.some.injEq] at h2
          have := (sa.blkI h1).2.2.2.2.2.2; omega
        · simp -implicitDefEqProofs only [e2, if_false] at h2
          exact sa.sx _ _ _ h1 h2
  · refine ⟨by have := hst3.len; rw [List.length_set]; omega, fun c hc hF => ?_⟩
    obtain ⟨x, hx⟩ := getP hc
    have ne : ∀ {c'}, F c' → c ≠ c' := fun h e => hF (e ▸ h)
    rw [hx]
    exact keep6 (keep5 (keep4 (keep3 (keep1 (ne sa.F0.2.1) hx) fun c' hc' => Ne.symm (ne (sa.blkI hc').2.2.2.2.2.1)) (ne sa.F0.2.2.1)) fun c' hc' => Ne.symm (ne (sa.blkP hc').2.2.2.2.2.1)) (ne sa.F0.2.2.2.1)
end Go.Proofs.YtmgldhlcapjdkaaGreat.St
end

section
namespace Go.Proofs.YtmgldhlcapjdkaaGreat.St
open Go.Rmp Go.Proofs.YtmgldhlcapjdkaaGreat.Ir
set_option maxRecDepth 10000
def Sto.emp : Sto := ⟨[], [], fun _ => [], fun _ => [], 0⟩
theorem SInv.emp : SInv Sto.emp := ⟨fun _ i j a b _ h => by simp [Sto.emp] at h, fun k n => by simp [Sto.emp, mlook_nil], fun _ => by simp [Sto.emp], fun n k => by simp [Sto.emp, mlook_nil], by simp [Sto.emp], fun m h hm => by simp [Sto.emp, mlook_nil] at hm, fun _ => by simp [Sto.emp], fun _ => by simp [Sto.emp], by simp [Sto.emp]⟩
theorem new7 (H : Heap) : W env (.call 22 []) H (fun o H' => Ext H H' ∧ ∃ b F, o = .val (.ptr b.s 0) ∧ SH H' b Sto.emp F ∧ ∀ c, F c → H.length ≤ c ∧ c < H'.length) := by
  refine W.fnI rfl rfl rfl ?_
  simp -implicitDefEqProofs only [ir22, op, ef, cl, sq, reduceIte, q1, q2, q3, q4, q5, q6, q7, q8, q9, S1, S3]
  refine ⟨(((((Ext.rfl'.app _).app _).app _).app _).app _), ⟨H.length + 4, H.length, H.length + 1, H.length + 2, H.length + 3⟩, fun c => H.length ≤ c ∧ c < H.length + 5, rfl, ⟨[], [], ?_⟩, fun c h => ⟨h.1, by have := h.2; simp; omega⟩⟩
  refine ⟨?_, ?_, ?_, ?_, ?_, by simp, by simp, by simp, by simp, by simp, by simp, by simp, fun _ => rfl, fun _ => rfl, fun k k' c h => by simp [mlook_nil, blk] at h, fun k k' c h => by simp [mlook_nil, blk] at h, fun k k' c h => by simp [mlook_nil, blk] at h, by simp⟩
  · rw [g_tail (by simp)]
  · rw [g_app (by simp <;> omega), g_app (by simp <;> omega), g_app (by simp <;> omega), g_app (by simp), g_tail (by simp)]; rfl
  · rw [g_app (by simp), g_app (by simp), g_app (by simp), g_tail (by simp)]; rfl
  · rw [g_app (by simp), g_app (by simp), g_tail (by simp)]; rfl
  · rw [g_app (by simp), g_tail (by simp)]; rfl
def hdOf (o : Option Hd) : Hd := o.getD ⟨⟨#[]⟩, .nil, [], 0⟩
theorem lkp_hd (vs : List (Nm × Hd)) (n : Nm) : lkpT (mlook (encV vs) n) (.agg [.str ⟨#[]⟩, .sl .nil [], .int .i64 0]) false = encHd (hdOf (mlook vs n)) := by
  unfold encV; rw [mlook_map]
  cases mlook vs n <;> rfl
def eVer (k : ByteArray) (n : Nat) (v : ByteArray) (kk : SK) (keys : List ByteArray) : List T := [.str k, .int .u64 n, .str v, .sl kk (keys.map eS)]
def VerQ (H : Heap) (k : ByteArray) (n : Nat) (h : Hd) : Out → Heap → Prop := fun o H' => Ext H H' ∧ ∃ kk, KOk kk h.keys ∧ o = .val (.agg (eVer k n h.value kk h.keys))
theorem version30 (b : Bk) (s : Sto) (F : Nat → Prop) (k : ByteArray) (n : Nat) (H : Heap) (hs : SH H b s F) (hi : SInv s) : W env (.call 91 [.ptr b.s 0, kN (k, n)]) H (VerQ H k n (hdOf (mlook s.vs (k, n)))) := by
  obtain ⟨im, pm, sa⟩ := hs
  have l0 := glt sa.hs
  have lv := glt sa.hv
  have hlk := fun Hx z ok => lkpB_K kNok z ok Hx (encV s.vs) (k, n)
  simp -implicitDefEqProofs only [kN, eN] at hlk
  have hh := lkp_hd s.vs (k, n)
  obtain ⟨h, hh'⟩ : ∃ h, h = hdOf (mlook s.vs (k, n)) := ⟨_, rfl⟩
  have hko : KOk h.kk h.keys ∧ h.keys.length ≤ 1024 := by
    rw [hh']
    cases e : mlook s.vs (k, n) with
    | none => exact ⟨fun _ => rfl, by simp [hdOf]⟩
    | some h => exact hi.kok _ _ e
  rw [← hh'] at hh ⊢
  refine W.fnI rfl rfl rfl ?_
  simp -implicitDefEqProofs only [ir91, kN, eN, op, ef, cl, sq, reduceIte, q1, q2, q3, q4, q5, q6, q7, q8, q9, S1, S2, S3, List.length_set, sa.hs, sa.hv, l0, lv, hlk, hh, encHd]
  refine callB_of _ _ _ _ _ _ _ _ (clone42 h.kk h.keys _ hko.1 (by omega)) ?_
  rintro u H2 ⟨hx, kk, hkk, hu⟩
  cases hu
  have c0 : H2[H.length]? = some (.cells [.str k, .int .u64 n]) := hx.get (by rw [g_app (by simp <;> omega), g_app (by simp), g_tail rfl])
  have c1 : H2[H.length + 1]? = some (.cells [.str ⟨#[]⟩, .int .u64 0, .str ⟨#[]⟩, .sl .nil []]) := hx.get (by rw [g_app (by simp), g_tail (by simp)])
  have c2 : H2[H.length + 2]? = some (.cells [.str h.value, .sl h.kk (h.keys.map eS), .int .i64 h.stamp]) := hx.get (by rw [g_tail (by simp)])
  have k1 := glt c1
  simp -implicitDefEqProofs only [op, ef, cl, sq, reduceIte, q1, q2, q3, q4, q5, q6, q7, q8, q9, S1, c0, c1, c2, S2, k1]
  exact ⟨((((Ext.rfl'.app _).app _).app _).trans hx).set (by omega) _, kk, hkk, rfl⟩
theorem mlook_encL (ls : List (ByteArray × Nat)) (k : ByteArray) : mlook (encL ls) k = (mlook ls k).map fun n : Nat => T.int .u64 n := mlook_map (fun n : Nat => T.int .u64 n) ls k
def lastOf (s : Sto) (k : ByteArray) : Nat := (mlook s.ls k).getD 0
theorem lkp_last (s : Sto) (k : ByteArray) : lkpT (mlook (encL s.ls) k) (.int .u64 0) false = .int .u64 (lastOf s k) := by
  unfold lastOf; rw [mlook_encL]
  cases mlook s.ls k <;> rfl
def latest (s : Sto) (k : ByteArray) : Hd := match mlook s.ls k with
  | none => hdOf none
  | some id => hdOf (mlook s.vs (k, id))
theorem latest16 (b : Bk) (s : Sto) (F : Nat → Prop) (k : ByteArray) (H : Heap) (hs : SH H b s F) (hi : SInv s) : W env (.call 66 [.ptr b.s 0, .str k]) H (VerQ H k (lastOf s k) (latest s k)) := by
  obtain ⟨im, pm, sa⟩ := hs
  have l0 := glt sa.hs
  have ll := glt sa.hl
  have hlk : lkpT (mlook (encL s.ls) k) (.int .u64 0) true = .tup [.int .u64 (lastOf s k : Nat), .bool (mlook s.ls k).isSome] := by
    unfold lastOf; rw [mlook_encL]
    cases mlook s.ls k <;> rfl
  refine W.fnI rfl rfl rfl ?_
  cases e : mlook s.ls k with
  | none =>
    have e0 : lastOf s k = 0 := by simp [lastOf, e]
    rw [e] at hlk
    simp -implicitDefEqProofs only [Option.isSome_none] at hlk
    simp -implicitDefEqProofs only [ir66, op, ef, cl, sq, reduceIte, q1, q2, q3, q4, q5, q6, q7, q8, q9, S1, S2, S3, sa.hs, sa.hl, l0, ll, lkpB_M, hlk]
    refine ⟨Ext.rfl'.app _, .nil, fun _ => ?_, ?_⟩
    · simp [latest, e, hdOf]
    · simp [latest, e, hdOf, eVer, e0]
  | some id =>
    have e0 : lastOf s k = id := by simp [lastOf, e]
    have e1 : latest s k = hdOf (mlook s.vs (k, id)) := by simp [latest, e]
    rw [e] at hlk
    simp -implicitDefEqProofs only [Option.isSome_some] at hlk
    simp -implicitDefEqProofs only [ir66, op, ef, cl, sq, reduceIte, q1, q2, q3, q4, q5, q6, q7, q8, q9, S1, S2, S3, sa.hs, sa.hl, l0, ll, lkpB_M, hlk]
    have hx0 : Ext H (H ++ [B.cells [T.str ⟨#[]⟩, .int .u64 0, .str ⟨#[]⟩, .sl .nil []]]) := ⟨_, rfl⟩
    rw [e1]
    refine callB_of _ _ _ _ _ _ _ _ (version30 b s F k (lastOf s k) _ ⟨im, pm, sa.frm (ext_frm (F := fun _ => False) hx0) (fun _ _ _ h => h)⟩ hi) ?_
    rintro u H2 ⟨hx, kk, hkk, hu⟩
    cases hu
    have c0 : H2[H.length]? = some (.cells [.str ⟨#[]⟩, .int .u64 0, .str ⟨#[]⟩, .sl .nil []]) := hx.get (by rw [g_tail rfl])
    have k1 := glt c0
    simp -implicitDefEqProofs only [op, ef, cl, sq, reduceIte, q1, q2, q3, q4, q5, q6, q7, q8, q9, S1, c0, S2, k1, eVer]
    rw [e0] at *
    exact ⟨(hx0.trans hx).set (by omega) _, kk, hkk, rfl⟩
theorem byID12 (b : Bk) (s : Sto) (F : Nat → Prop) (k : ByteArray) (n : Nat) (H : Heap) (hs : SH H b s F) (hi : SInv s) : W env (.call 80 [.ptr b.s 0, .str k, .int .u64 n]) H (fun o H' => Ext H H' ∧ ((mlook s.vs (k, n) = none ∧ o = .val (.tup [.agg [.str ⟨#[]⟩, .int .u64 0, .str ⟨#[]⟩, .sl .nil []], .int .i64 110])) ∨ ∃ h kk, mlook s.vs (k, n) = some h ∧ KOk kk h.keys ∧ o = .val (.tup [.agg (eVer k n h.value kk h.keys), .int .i64 0]))) := by
  obtain ⟨im, pm, sa⟩ := hs
  have l0 := glt sa.hs
  have lv := glt sa.hv
  have hlk := fun Hx z ok => lkpB_K kNok z ok Hx (encV s.vs) (k, n)
  simp -implicitDefEqProofs only [kN, eN] at hlk
  have hhd : lkpT (mlook (encV s.vs) (k, n)) (.agg [.str ⟨#[]⟩, .sl .nil [], .int .i64 0]) true = .tup [encHd (hdOf (mlook s.vs (k, n))), .bool (mlook s.vs (k, n)).isSome] := by
    unfold encV; rw [mlook_map]
    cases mlook s.vs (k, n) <;> rfl
  refine W.fnI rfl rfl rfl ?_
  cases e : mlook s.vs (k, n) with
  | none =>
    rw [e] at hhd
    simp -implicitDefEqProofs only [Option.isSome_none] at hhd
    simp -implicitDefEqProofs only [ir80, op, ef, cl, sq, reduceIte, q1, q2, q3, q4, q5, q6, q7, q8, q9, S1, S2, S3, List.length_set, sa.hs, sa.hv, l0, lv, hlk, hhd, encHd]
    exact ⟨((Ext.rfl'.app _).app _).app _, .inl trivial⟩
  | some h =>
    rw [e] at hhd
    simp -implicitDefEqProofs only [Option.isSome_some] at hhd
    simp -implicitDefEqProofs only [ir80, op, ef, cl, sq, reduceIte, q1, q2, q3, q4, q5, q6, q7, q8, q9, S1, S2, S3, List.length_set, sa.hs, sa.hv, l0, lv, hlk, hhd, encHd]
    refine callB_of _ _ _ _ _ _ _ _ (version30 b s F k n _ ⟨im, pm, sa.frm (ext_frm (F := fun _ => False) (((Ext.rfl'.app _).app _).app _)) (fun _ _ _ h => h)⟩ hi) ?_
    rintro u H2 ⟨hx, kk, hkk, hu⟩
    cases hu
    have c0 : H2[H.length]? = some (.cells [.str ⟨#[]⟩, .int .u64 0, .str ⟨#[]⟩, .sl .nil []]) := hx.get (by rw [g_app (by simp <;> omega), g_app (by simp), g_tail rfl])
    have k1 := glt c0
    rw [e] at hkk
    simp -implicitDefEqProofs only [op, ef, cl, sq, reduceIte, q1, q2, q3, q4, q5, q6, q7, q8, q9, S1, c0, S2, k1, eVer, e]
    exact ⟨(((((Ext.rfl'.app _).app _).app _).trans hx).set (by omega) _), .inr ⟨h, kk, rfl, hkk, rfl⟩⟩
end Go.Proofs.YtmgldhlcapjdkaaGreat.St
end
