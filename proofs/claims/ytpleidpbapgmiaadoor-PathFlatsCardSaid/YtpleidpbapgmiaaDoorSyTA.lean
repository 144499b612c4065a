/- Functions of the program, slimmed down, and the check that they are. Conditions: none. -/
import Derived.Test.YtpleidpbapgmiaaDoorSyO
import Derived.Test.YtpleidpbapgmiaaDoorProg
import Derived.KernelRfl
namespace Go.Proofs.YtpleidpbapgmiaaDoor.Sy
open Go Go.Proofs
set_option linter.unusedVariables false

def r3_0 : List SOper := [
  ⟨(some 4), .mv (.c (.one (.sc (.bool false)))), none⟩]
def r3_1 : List SOper := [
  ⟨(some 12), .mv (.t 0), none⟩,
  ⟨(some 13), .len (.t 12), none⟩,
  ⟨(some 14), .bin .gtr (.t 13) (.c (.one (.sc (.int .i64 60)))), none⟩]
def r3_2 : List SOper := [
  ⟨(some 15), .call .t 9 [], none⟩,
  ⟨(some 4), .mv (.t 15), none⟩]
def r3_3 : List SOper := [
  ⟨(some 17), .mv (.t 0), none⟩,
  ⟨(some 18), .mv (.t 1), none⟩,
  ⟨(some 19), .call .k 10 [(.t 17), (.t 18)], none⟩,
  ⟨(some 16), .mv (.t 19), none⟩,
  ⟨(some 20), .ext (.t 16) 0, none⟩,
  ⟨(some 21), .ext (.t 16) 1, none⟩,
  ⟨(some 5), .mv (.t 20), none⟩,
  ⟨(some 6), .mv (.t 21), none⟩]
def r3_4 : List SOper := [
  ⟨(some 22), .mv (.t 0), none⟩,
  ⟨(some 23), .call .k 12 [(.t 22)], none⟩,
  ⟨(some 24), .call .q 11 [(.t 23)], none⟩,
  ⟨(some 7), .mv (.t 24), none⟩]
def r3_5 : List SOper := [
  ⟨(some 25), .mv (.t 7), none⟩,
  ⟨(some 26), .bin .neq (.t 25) (.c (.one (.sc (.int .i64 0)))), none⟩]
def r3_6 : List SOper := [
  ⟨(some 27), .mv (.t 6), none⟩,
  ⟨(some 28), .mv (.t 7), none⟩,
  ⟨(some 29), .bin .eql (.t 27) (.t 28), none⟩,
  ⟨(some 30), .mv (.t 29), none⟩,
  ⟨(some 31), .mv (.t 5), (some (some 30, true))⟩,
  ⟨(some 32), .len (.t 31), (some (some 30, true))⟩,
  ⟨(some 33), .bin .eql (.t 32) (.c (.one (.sc (.int .i64 0)))), (some (some 30, true))⟩,
  ⟨(some 34), .pick (.t 30) (.t 33) (.c (.one (.sc (.bool false)))), none⟩,
  ⟨(some 35), .mv (.t 34), none⟩,
  ⟨(some 36), .call .t 9 [], (some (some 35, true))⟩,
  ⟨(some 37), .pick (.t 35) (.t 36) (.c (.one (.sc (.bool false)))), none⟩,
  ⟨(some 4), .mv (.t 37), none⟩]
def r3_7 : List SOper := [
  ⟨(some 38), .mv (.t 1), none⟩,
  ⟨(some 39), .bin .lss (.t 38) (.c (.one (.sc (.int .i64 0)))), none⟩,
  ⟨(some 40), .mv (.t 39), none⟩,
  ⟨(some 41), .mv (.t 1), (some (some 40, false))⟩,
  ⟨(some 42), .bin .gtr (.t 41) (.c (.one (.sc (.int .i64 6)))), (some (some 40, false))⟩,
  ⟨(some 43), .pick (.t 40) (.c (.one (.sc (.bool true)))) (.t 42), none⟩]
def r3_8 : List SOper := [
  ⟨(some 44), .mv (.t 6), none⟩,
  ⟨(some 45), .bin .eql (.t 44) (.c (.one (.sc (.int .i64 30)))), none⟩,
  ⟨(some 46), .mv (.t 45), none⟩,
  ⟨(some 47), .mv (.t 5), (some (some 46, true))⟩,
  ⟨(some 48), .len (.t 47), (some (some 46, true))⟩,
  ⟨(some 49), .bin .eql (.t 48) (.c (.one (.sc (.int .i64 0)))), (some (some 46, true))⟩,
  ⟨(some 50), .pick (.t 46) (.t 49) (.c (.one (.sc (.bool false)))), none⟩,
  ⟨(some 51), .mv (.t 50), none⟩,
  ⟨(some 52), .call .t 9 [], (some (some 51, true))⟩,
  ⟨(some 53), .pick (.t 51) (.t 52) (.c (.one (.sc (.bool false)))), none⟩,
  ⟨(some 4), .mv (.t 53), none⟩]
def r3_9 : List SOper := [
  ⟨(some 54), .mv (.t 0), none⟩,
  ⟨(some 55), .call .k 12 [(.t 54)], none⟩,
  ⟨(some 56), .mv (.t 1), none⟩,
  ⟨(some 57), .call .k 13 [(.t 55), (.t 56)], none⟩,
  ⟨(some 8), .mv (.t 57), none⟩]
def r3_10 : List SOper := [
  ⟨(some 58), .mv (.t 6), none⟩,
  ⟨(some 59), .bin .neq (.t 58) (.c (.one (.sc (.int .i64 0)))), none⟩,
  ⟨(some 60), .mv (.t 59), none⟩,
  ⟨(some 61), .mv (.t 5), (some (some 60, false))⟩,
  ⟨(some 62), .len (.t 61), (some (some 60, false))⟩,
  ⟨(some 63), .mv (.t 8), (some (some 60, false))⟩,
  ⟨(some 64), .len (.t 63), (some (some 60, false))⟩,
  ⟨(some 65), .bin .neq (.t 62) (.t 64), (some (some 60, false))⟩,
  ⟨(some 66), .pick (.t 60) (.c (.one (.sc (.bool true)))) (.t 65), none⟩]
def r3_11 : List SOper := [
  ⟨(some 4), .mv (.c (.one (.sc (.bool false)))), none⟩]
def r3_12 : List SOper := [
  ⟨(some 67), .mv (.t 5), none⟩,
  ⟨(some 68), .len (.t 67), none⟩,
  ⟨(some 69), .mv (.c (.one (.sc (.int .i64 0)))), none⟩]
def r3_13 : List SOper := [
  ⟨(some 70), .bin .lss (.t 69) (.t 68), none⟩]
def r3_14 : List SOper := [
  ⟨(some 71), .mv (.t 69), none⟩,
  ⟨(some 9), .mv (.t 71), none⟩]
def r3_15 : List SOper := [
  ⟨(some 72), .mv (.t 5), none⟩,
  ⟨(some 73), .mv (.t 9), none⟩,
  ⟨(some 74), .iadrS 2 (.t 72) (.t 73), none⟩,
  ⟨(some 75), .fadr 1 (.t 74), none⟩,
  ⟨(some 76), .load1 (.t 75), none⟩,
  ⟨(some 77), .mv (.t 8), none⟩,
  ⟨(some 78), .mv (.t 9), none⟩,
  ⟨(some 79), .iadrS 2 (.t 77) (.t 78), none⟩,
  ⟨(some 80), .fadr 1 (.t 79), none⟩,
  ⟨(some 81), .load1 (.t 80), none⟩,
  ⟨(some 82), .beq true (.t 76) (.t 81), none⟩,
  ⟨(some 83), .mv (.t 82), none⟩,
  ⟨(some 84), .mv (.t 5), (some (some 83, false))⟩,
  ⟨(some 85), .mv (.t 9), (some (some 83, false))⟩,
  ⟨(some 86), .iadrS 2 (.t 84) (.t 85), (some (some 83, false))⟩,
  ⟨(some 87), .fadr 0 (.t 86), (some (some 83, false))⟩,
  ⟨(some 88), .load1 (.t 87), (some (some 83, false))⟩,
  ⟨(some 89), .len (.t 88), (some (some 83, false))⟩,
  ⟨(some 90), .mv (.t 8), (some (some 83, false))⟩,
  ⟨(some 91), .mv (.t 9), (some (some 83, false))⟩,
  ⟨(some 92), .iadrS 2 (.t 90) (.t 91), (some (some 83, false))⟩,
  ⟨(some 93), .fadr 0 (.t 92), (some (some 83, false))⟩,
  ⟨(some 94), .load1 (.t 93), (some (some 83, false))⟩,
  ⟨(some 95), .len (.t 94), (some (some 83, false))⟩,
  ⟨(some 96), .bin .neq (.t 89) (.t 95), (some (some 83, false))⟩,
  ⟨(some 97), .pick (.t 83) (.c (.one (.sc (.bool true)))) (.t 96), none⟩]
def r3_16 : List SOper := [
  ⟨(some 4), .mv (.c (.one (.sc (.bool false)))), none⟩]
def r3_17 : List SOper := [
  ⟨(some 98), .mv (.t 5), none⟩,
  ⟨(some 99), .mv (.t 9), none⟩,
  ⟨(some 100), .iadrS 2 (.t 98) (.t 99), none⟩,
  ⟨(some 101), .fadr 0 (.t 100), none⟩,
  ⟨(some 102), .load1 (.t 101), none⟩,
  ⟨(some 103), .len (.t 102), none⟩,
  ⟨(some 104), .mv (.c (.one (.sc (.int .i64 0)))), none⟩]
def r3_18 : List SOper := [
  ⟨(some 105), .bin .lss (.t 104) (.t 103), none⟩]
def r3_19 : List SOper := [
  ⟨(some 106), .mv (.t 104), none⟩,
  ⟨(some 107), .iadrS 2 (.t 102) (.t 104), none⟩,
  ⟨(some 108), .loadA 2 (.t 107), none⟩,
  ⟨(some 11), .alloc [.sc (.int .i64 0), .sc (.int .i64 0)], none⟩,
  ⟨(some 10), .mv (.t 106), none⟩,
  ⟨none, .store 2 (.t 11) (.t 108), none⟩]
def r3_20 : List SOper := [
  ⟨(some 109), .fadr 0 (.t 11), none⟩,
  ⟨(some 110), .load1 (.t 109), none⟩,
  ⟨(some 111), .mv (.t 8), none⟩,
  ⟨(some 112), .mv (.t 9), none⟩,
  ⟨(some 113), .iadrS 2 (.t 111) (.t 112), none⟩,
  ⟨(some 114), .fadr 0 (.t 113), none⟩,
  ⟨(some 115), .load1 (.t 114), none⟩,
  ⟨(some 116), .mv (.t 10), none⟩,
  ⟨(some 117), .iadrS 2 (.t 115) (.t 116), none⟩,
  ⟨(some 118), .fadr 0 (.t 117), none⟩,
  ⟨(some 119), .load1 (.t 118), none⟩,
  ⟨(some 120), .bin .neq (.t 110) (.t 119), none⟩,
  ⟨(some 121), .mv (.t 120), none⟩,
  ⟨(some 122), .fadr 1 (.t 11), (some (some 121, false))⟩,
  ⟨(some 123), .load1 (.t 122), (some (some 121, false))⟩,
  ⟨(some 124), .mv (.t 8), (some (some 121, false))⟩,
  ⟨(some 125), .mv (.t 9), (some (some 121, false))⟩,
  ⟨(some 126), .iadrS 2 (.t 124) (.t 125), (some (some 121, false))⟩,
  ⟨(some 127), .fadr 0 (.t 126), (some (some 121, false))⟩,
  ⟨(some 128), .load1 (.t 127), (some (some 121, false))⟩,
  ⟨(some 129), .mv (.t 10), (some (some 121, false))⟩,
  ⟨(some 130), .iadrS 2 (.t 128) (.t 129), (some (some 121, false))⟩,
  ⟨(some 131), .fadr 1 (.t 130), (some (some 121, false))⟩,
  ⟨(some 132), .load1 (.t 131), (some (some 121, false))⟩,
  ⟨(some 133), .bin .neq (.t 123) (.t 132), (some (some 121, false))⟩,
  ⟨(some 134), .pick (.t 121) (.c (.one (.sc (.bool true)))) (.t 133), none⟩]
def r3_21 : List SOper := [
  ⟨(some 4), .mv (.c (.one (.sc (.bool false)))), none⟩]
def r3_22 : List SOper := [
  ⟨(some 135), .bin .add (.t 104) (.c (.one (.sc (.int .i64 1)))), none⟩,
  ⟨(some 104), .mv (.t 135), none⟩]
def l3_0 : SC := (.seq (.reg r3_18) (.seq (.cond (.t 105) .skip (.exit 2)) (.seq (.block 3 (.seq (.reg r3_19) (.seq (.reg r3_20) (.cond (.t 134) (.seq (.reg r3_21) .ret) .skip)))) (.reg r3_22))))
def r3_23 : List SOper := [
  ⟨(some 136), .bin .add (.t 69) (.c (.one (.sc (.int .i64 1)))), none⟩,
  ⟨(some 69), .mv (.t 136), none⟩]
def l3_1 : SC := (.seq (.reg r3_13) (.seq (.cond (.t 70) .skip (.exit 0)) (.seq (.block 1 (.seq (.reg r3_14) (.seq (.seq (.reg r3_15) (.cond (.t 97) (.seq (.reg r3_16) .ret) .skip)) (.seq (.reg r3_17) (.block 2 (.loop l3_0)))))) (.reg r3_23))))
def r3_24 : List SOper := [
  ⟨(some 137), .call .t 9 [], none⟩,
  ⟨(some 4), .mv (.t 137), none⟩]
def c3 : SC := (.seq (.reg r3_0) (.seq (.seq (.reg r3_1) (.cond (.t 14) (.seq (.reg r3_2) .ret) .skip)) (.seq (.reg r3_3) (.seq (.seq (.reg r3_4) (.seq (.reg r3_5) (.cond (.t 26) (.seq (.reg r3_6) .ret) .skip))) (.seq (.seq (.reg r3_7) (.cond (.t 43) (.seq (.reg r3_8) .ret) .skip)) (.seq (.reg r3_9) (.seq (.seq (.reg r3_10) (.cond (.t 66) (.seq (.reg r3_11) .ret) .skip)) (.seq (.seq (.reg r3_12) (.block 0 (.loop l3_1))) (.seq (.reg r3_24) .ret)))))))))
/-- limner/limnerlaw06.PathFlats -/
def F3 : SFun := ⟨138, c3, [.tmp 4]⟩

def r4_0 : List SOper := [
  ⟨(some 4), .mv (.c (.one (.sc (.bool false)))), none⟩]
def r4_1 : List SOper := [
  ⟨(some 5), .mv (.t 0), none⟩,
  ⟨(some 6), .len (.t 5), none⟩,
  ⟨(some 7), .bin .gtr (.t 6) (.c (.one (.sc (.int .i64 200)))), none⟩]
def r4_2 : List SOper := [
  ⟨(some 8), .call .t 9 [], none⟩,
  ⟨(some 4), .mv (.t 8), none⟩]
def r4_3 : List SOper := [
  ⟨(some 9), .mv (.t 0), none⟩,
  ⟨(some 10), .call .q 14 [(.t 9)], none⟩,
  ⟨(some 11), .mv (.t 0), none⟩,
  ⟨(some 12), .call .k 12 [(.t 11)], none⟩,
  ⟨(some 13), .call .q 11 [(.t 12)], none⟩,
  ⟨(some 14), .bin .eql (.t 10) (.t 13), none⟩,
  ⟨(some 15), .mv (.t 14), none⟩,
  ⟨(some 16), .mv (.t 1), (some (some 15, true))⟩,
  ⟨(some 17), .call .t 15 [(.t 16)], (some (some 15, true))⟩,
  ⟨(some 18), .mv (.t 1), (some (some 15, true))⟩,
  ⟨(some 19), .call (.z 1) 16 [(.t 18)], (some (some 15, true))⟩,
  ⟨(some 20), .bin .eql (.t 17) (.t 19), (some (some 15, true))⟩,
  ⟨(some 21), .pick (.t 15) (.t 20) (.c (.one (.sc (.bool false)))), none⟩,
  ⟨(some 22), .mv (.t 21), none⟩,
  ⟨(some 23), .mv (.t 0), (some (some 22, true))⟩,
  ⟨(some 24), .mv (.t 0), (some (some 22, true))⟩,
  ⟨(some 25), .call .q 17 [(.t 23), (.t 24)], (some (some 22, true))⟩,
  ⟨(some 26), .pick (.t 22) (.t 25) (.c (.one (.sc (.bool false)))), none⟩,
  ⟨(some 27), .mv (.t 26), none⟩,
  ⟨(some 28), .call .t 9 [], (some (some 27, true))⟩,
  ⟨(some 29), .pick (.t 27) (.t 28) (.c (.one (.sc (.bool false)))), none⟩,
  ⟨(some 4), .mv (.t 29), none⟩]
def c4 : SC := (.seq (.reg r4_0) (.seq (.seq (.reg r4_1) (.cond (.t 7) (.seq (.reg r4_2) .ret) .skip)) (.seq (.reg r4_3) .ret)))
/-- limner/limnerlaw06.PathChecks -/
def F4 : SFun := ⟨30, c4, [.tmp 4]⟩

def r6_0 : List SOper := [
  ⟨(some 3), .box (.t 1), none⟩,
  ⟨(some 4), .mv (.c (.one (.sc (.bool false)))), none⟩]
def r6_1 : List SOper := [
  ⟨(some 17), .mv (.t 0), none⟩,
  ⟨(some 18), .len (.t 17), none⟩,
  ⟨(some 19), .bin .gtr (.t 18) (.c (.one (.sc (.int .i64 100)))), none⟩]
def r6_2 : List SOper := [
  ⟨(some 20), .call .t 9 [], none⟩,
  ⟨(some 4), .mv (.t 20), none⟩]
def r6_3 : List SOper := [
  ⟨(some 21), .mv (.t 0), none⟩,
  ⟨(some 22), .call .k 12 [(.t 21)], none⟩,
  ⟨(some 5), .mv (.t 22), none⟩]
def r6_4 : List SOper := [
  ⟨(some 24), .mv (.t 0), none⟩,
  ⟨(some 25), .loadA 6 (.t 3), none⟩,
  ⟨(some 26), .call .k 23 [(.t 24), (.t 25)], none⟩,
  ⟨(some 23), .mv (.t 26), none⟩,
  ⟨(some 27), .ext (.t 23) 0, none⟩,
  ⟨(some 28), .ext (.t 23) 1, none⟩,
  ⟨(some 6), .mv (.t 27), none⟩,
  ⟨(some 7), .mv (.t 28), none⟩]
def r6_5 : List SOper := [
  ⟨(some 29), .mv (.t 5), none⟩,
  ⟨(some 30), .call .q 11 [(.t 29)], none⟩,
  ⟨(some 8), .mv (.t 30), none⟩]
def r6_6 : List SOper := [
  ⟨(some 31), .mv (.t 8), none⟩,
  ⟨(some 32), .bin .neq (.t 31) (.c (.one (.sc (.int .i64 0)))), none⟩]
def r6_7 : List SOper := [
  ⟨(some 33), .mv (.t 7), none⟩,
  ⟨(some 34), .mv (.t 8), none⟩,
  ⟨(some 35), .bin .eql (.t 33) (.t 34), none⟩,
  ⟨(some 36), .mv (.t 35), none⟩,
  ⟨(some 37), .mv (.t 6), (some (some 36, true))⟩,
  ⟨(some 38), .len (.t 37), (some (some 36, true))⟩,
  ⟨(some 39), .bin .eql (.t 38) (.c (.one (.sc (.int .i64 0)))), (some (some 36, true))⟩,
  ⟨(some 40), .pick (.t 36) (.t 39) (.c (.one (.sc (.bool false)))), none⟩,
  ⟨(some 41), .mv (.t 40), none⟩,
  ⟨(some 42), .call .t 9 [], (some (some 41, true))⟩,
  ⟨(some 43), .pick (.t 41) (.t 42) (.c (.one (.sc (.bool false)))), none⟩,
  ⟨(some 4), .mv (.t 43), none⟩]
def r6_8 : List SOper := [
  ⟨(some 44), .loadA 6 (.t 3), none⟩,
  ⟨(some 45), .call (.z 1) 24 [(.t 44)], none⟩,
  ⟨(some 46), .un .not (.t 45), none⟩,
  ⟨(some 9), .mv (.t 46), none⟩]
def r6_9 : List SOper := [
  ⟨(some 10), .mv (.c (.one (.sc (.slice none 0 0)))), none⟩]
def r6_10 : List SOper := [
  ⟨(some 47), .mv (.t 5), none⟩,
  ⟨(some 48), .call .k 21 [(.t 47), (.c (.one (.sc (.int .i64 0)))), (.c (.one (.sc (.int .i64 0)))), (.c (.one (.sc (.slice none 0 0))))], none⟩,
  ⟨(some 11), .mv (.t 48), none⟩]
def r6_11 : List SOper := [
  ⟨(some 49), .mv (.t 0), none⟩,
  ⟨(some 50), .len (.t 49), none⟩,
  ⟨(some 51), .mv (.c (.one (.sc (.int .i64 0)))), none⟩]
def r6_12 : List SOper := [
  ⟨(some 52), .bin .lss (.t 51) (.t 50), none⟩]
def r6_13 : List SOper := [
  ⟨(some 53), .mv (.t 51), none⟩,
  ⟨(some 54), .iadrS 7 (.t 49) (.t 51), none⟩,
  ⟨(some 55), .loadA 7 (.t 54), none⟩,
  ⟨(some 13), .alloc [.sc (.int .i64 0), .sc (.int .i64 0), .sc (.int .i64 0), .sc (.int .i64 0), .sc (.int .i64 0), .sc (.int .i64 0), .sc (.int .i64 0)], none⟩,
  ⟨(some 12), .mv (.t 53), none⟩,
  ⟨none, .store 7 (.t 13) (.t 55), none⟩]
def r6_14 : List SOper := [
  ⟨(some 56), .fadr 0 (.t 13), none⟩,
  ⟨(some 57), .load1 (.t 56), none⟩,
  ⟨(some 58), .call (.z 1) 16 [(.t 57)], none⟩,
  ⟨(some 59), .mv (.c (.one (.sc (.int .i64 0)))), none⟩]
def r6_15 : List SOper := [
  ⟨(some 60), .bin .lss (.t 59) (.t 58), none⟩]
def r6_16 : List SOper := [
  ⟨(some 61), .mv (.t 59), none⟩,
  ⟨(some 14), .mv (.t 61), none⟩]
def r6_17 : List SOper := [
  ⟨(some 62), .mv (.t 10), none⟩,
  ⟨(some 63), .mv (.t 14), none⟩,
  ⟨(some 64), .fadr 1 (.t 13), none⟩,
  ⟨(some 65), .iadrA 3 2 (.t 64) (.t 63), none⟩,
  ⟨(some 66), .loadA 2 (.t 65), none⟩,
  ⟨(some 67), .bslice [.sc (.int .i64 0), .sc (.int .i64 0)] 1 2 [(0, 2, (.t 66))], none⟩,
  ⟨(some 68), .app 2 16 (.t 62) (.t 67), none⟩,
  ⟨(some 10), .mv (.t 68), none⟩]
def r6_18 : List SOper := [
  ⟨(some 70), .loadA 6 (.t 3), none⟩,
  ⟨(some 71), .mv (.t 14), none⟩,
  ⟨(some 72), .fadr 1 (.t 13), none⟩,
  ⟨(some 73), .iadrA 3 2 (.t 72) (.t 71), none⟩,
  ⟨(some 74), .loadA 2 (.t 73), none⟩,
  ⟨(some 75), .call (.z 1) 25 [(.t 70), (.t 74)], none⟩,
  ⟨(some 69), .mv (.t 75), none⟩,
  ⟨(some 76), .ext (.t 69) 0, none⟩,
  ⟨(some 77), .ext (.t 69) 1, none⟩,
  ⟨(some 15), .alloc [.sc (.int .i64 0), .sc (.int .i64 0)], none⟩,
  ⟨none, .store 2 (.t 15) (.t 76), none⟩,
  ⟨(some 16), .mv (.t 77), none⟩]
def r6_19 : List SOper := [
  ⟨(some 78), .mv (.t 9), none⟩,
  ⟨(some 79), .mv (.t 78), none⟩,
  ⟨(some 80), .mv (.t 16), (some (some 79, false))⟩,
  ⟨(some 81), .bin .neq (.t 80) (.c (.one (.sc (.int .i64 0)))), (some (some 79, false))⟩,
  ⟨(some 82), .pick (.t 79) (.c (.one (.sc (.bool true)))) (.t 81), none⟩,
  ⟨(some 9), .mv (.t 82), none⟩]
def r6_20 : List SOper := [
  ⟨(some 83), .mv (.t 11), none⟩,
  ⟨(some 84), .mv (.t 12), none⟩,
  ⟨(some 85), .mv (.t 14), none⟩,
  ⟨(some 86), .fadr 0 (.t 15), none⟩,
  ⟨(some 87), .load1 (.t 86), none⟩,
  ⟨(some 88), .fadr 1 (.t 15), none⟩,
  ⟨(some 89), .load1 (.t 88), none⟩,
  ⟨(some 90), .build [.sc (.int .i64 0), .sc (.int .i64 0)] [(0, 1, (.t 87)), (1, 1, (.t 89))], none⟩,
  ⟨(some 91), .iadrS 7 (.t 83) (.t 84), none⟩,
  ⟨(some 92), .fadr 1 (.t 91), none⟩,
  ⟨(some 93), .iadrA 3 2 (.t 92) (.t 85), none⟩,
  ⟨none, .store 2 (.t 93) (.t 90), none⟩]
def r6_21 : List SOper := [
  ⟨(some 94), .bin .add (.t 59) (.c (.one (.sc (.int .i64 1)))), none⟩,
  ⟨(some 59), .mv (.t 94), none⟩]
def l6_0 : SC := (.seq (.reg r6_15) (.seq (.cond (.t 60) .skip (.exit 2)) (.seq (.block 3 (.seq (.reg r6_16) (.seq (.reg r6_17) (.seq (.reg r6_18) (.seq (.reg r6_19) (.reg r6_20)))))) (.reg r6_21))))
def r6_22 : List SOper := [
  ⟨(some 95), .bin .add (.t 51) (.c (.one (.sc (.int .i64 1)))), none⟩,
  ⟨(some 51), .mv (.t 95), none⟩]
def l6_1 : SC := (.seq (.reg r6_12) (.seq (.cond (.t 52) .skip (.exit 0)) (.seq (.block 1 (.seq (.reg r6_13) (.seq (.reg r6_14) (.block 2 (.loop l6_0))))) (.reg r6_22))))
def r6_23 : List SOper := [
  ⟨(some 96), .mv (.t 0), none⟩,
  ⟨(some 97), .call .q 26 [(.t 96)], none⟩,
  ⟨(some 98), .mv (.t 10), none⟩,
  ⟨(some 99), .call .q 27 [(.t 98)], none⟩,
  ⟨(some 100), .eqv [.i, .i, .i, .i] true (.t 97) (.t 99), none⟩]
def r6_24 : List SOper := [
  ⟨(some 4), .mv (.c (.one (.sc (.bool false)))), none⟩]
def r6_25 : List SOper := [
  ⟨(some 101), .mv (.t 9), none⟩]
def r6_26 : List SOper := [
  ⟨(some 102), .mv (.t 7), none⟩,
  ⟨(some 103), .bin .eql (.t 102) (.c (.one (.sc (.int .i64 10)))), none⟩,
  ⟨(some 104), .mv (.t 103), none⟩,
  ⟨(some 105), .mv (.t 6), (some (some 104, true))⟩,
  ⟨(some 106), .len (.t 105), (some (some 104, true))⟩,
  ⟨(some 107), .bin .eql (.t 106) (.c (.one (.sc (.int .i64 0)))), (some (some 104, true))⟩,
  ⟨(some 108), .pick (.t 104) (.t 107) (.c (.one (.sc (.bool false)))), none⟩,
  ⟨(some 109), .mv (.t 108), none⟩,
  ⟨(some 110), .call .t 9 [], (some (some 109, true))⟩,
  ⟨(some 111), .pick (.t 109) (.t 110) (.c (.one (.sc (.bool false)))), none⟩,
  ⟨(some 4), .mv (.t 111), none⟩]
def r6_27 : List SOper := [
  ⟨(some 112), .mv (.t 7), none⟩,
  ⟨(some 113), .bin .eql (.t 112) (.c (.one (.sc (.int .i64 0)))), none⟩,
  ⟨(some 114), .mv (.t 113), none⟩,
  ⟨(some 115), .mv (.t 6), (some (some 114, true))⟩,
  ⟨(some 116), .mv (.t 11), (some (some 114, true))⟩,
  ⟨(some 117), .call .q 28 [(.t 115), (.t 116)], (some (some 114, true))⟩,
  ⟨(some 118), .pick (.t 114) (.t 117) (.c (.one (.sc (.bool false)))), none⟩,
  ⟨(some 119), .mv (.t 118), none⟩,
  ⟨(some 120), .call .t 9 [], (some (some 119, true))⟩,
  ⟨(some 121), .pick (.t 119) (.t 120) (.c (.one (.sc (.bool false)))), none⟩,
  ⟨(some 4), .mv (.t 121), none⟩]
def c6 : SC := (.seq (.reg r6_0) (.seq (.seq (.reg r6_1) (.cond (.t 19) (.seq (.reg r6_2) .ret) .skip)) (.seq (.reg r6_3) (.seq (.reg r6_4) (.seq (.seq (.reg r6_5) (.seq (.reg r6_6) (.cond (.t 32) (.seq (.reg r6_7) .ret) .skip))) (.seq (.reg r6_8) (.seq (.reg r6_9) (.seq (.reg r6_10) (.seq (.seq (.reg r6_11) (.block 0 (.loop l6_1))) (.seq (.seq (.reg r6_23) (.cond (.t 100) (.seq (.reg r6_24) .ret) .skip)) (.seq (.seq (.reg r6_25) (.cond (.t 101) (.seq (.reg r6_26) .ret) .skip)) (.seq (.reg r6_27) .ret))))))))))))
/-- limner/limnerlaw06.PathApplies -/
def F6 : SFun := ⟨122, c6, [.tmp 4]⟩

def r7_0 : List SOper := [
  ⟨(some 1), .box (.t 0), none⟩,
  ⟨(some 2), .mv (.c (.one (.sc (.bool false)))), none⟩]
def r7_1 : List SOper := [
  ⟨(some 12), .fadr 0 (.t 1), none⟩,
  ⟨(some 13), .load1 (.t 12), none⟩,
  ⟨(some 14), .len (.t 13), none⟩,
  ⟨(some 15), .bin .gtr (.t 14) (.c (.one (.sc (.int .i64 100)))), none⟩]
def r7_2 : List SOper := [
  ⟨(some 16), .call .t 9 [], none⟩,
  ⟨(some 2), .mv (.t 16), none⟩]
def r7_3 : List SOper := [
  ⟨(some 17), .fadr 0 (.t 1), none⟩,
  ⟨(some 18), .load1 (.t 17), none⟩,
  ⟨(some 19), .call .k 12 [(.t 18)], none⟩,
  ⟨(some 3), .mv (.t 19), none⟩]
def r7_4 : List SOper := [
  ⟨(some 20), .mv (.t 3), none⟩,
  ⟨(some 21), .call .q 11 [(.t 20)], none⟩,
  ⟨(some 4), .mv (.t 21), none⟩]
def r7_5 : List SOper := [
  ⟨(some 23), .fadr 0 (.t 1), none⟩,
  ⟨(some 24), .load1 (.t 23), none⟩,
  ⟨(some 25), .fadr 1 (.t 1), none⟩,
  ⟨(some 26), .load1 (.t 25), none⟩,
  ⟨(some 27), .fadr 2 (.t 1), none⟩,
  ⟨(some 28), .load1 (.t 27), none⟩,
  ⟨(some 29), .fadr 10 (.t 1), none⟩,
  ⟨(some 30), .loadA 2 (.t 29), none⟩,
  ⟨(some 31), .call .k 29 [(.t 24), (.t 26), (.t 28), (.t 30)], none⟩,
  ⟨(some 22), .mv (.t 31), none⟩,
  ⟨(some 32), .ext (.t 22) 0, none⟩,
  ⟨(some 33), .ext (.t 22) 1, none⟩,
  ⟨(some 5), .mv (.t 32), none⟩,
  ⟨(some 6), .mv (.t 33), none⟩]
def r7_6 : List SOper := [
  ⟨(some 35), .fadr 0 (.t 1), none⟩,
  ⟨(some 36), .load1 (.t 35), none⟩,
  ⟨(some 37), .fadr 1 (.t 1), none⟩,
  ⟨(some 38), .load1 (.t 37), none⟩,
  ⟨(some 39), .fadr 3 (.t 1), none⟩,
  ⟨(some 40), .loadA 7 (.t 39), none⟩,
  ⟨(some 41), .call .k 30 [(.t 36), (.t 38), (.t 40)], none⟩,
  ⟨(some 34), .mv (.t 41), none⟩,
  ⟨(some 42), .ext (.t 34) 0, none⟩,
  ⟨(some 43), .ext (.t 34) 1, none⟩,
  ⟨(some 7), .mv (.t 42), none⟩,
  ⟨(some 8), .mv (.t 43), none⟩]
def r7_7 : List SOper := [
  ⟨(some 45), .fadr 0 (.t 1), none⟩,
  ⟨(some 46), .load1 (.t 45), none⟩,
  ⟨(some 47), .fadr 1 (.t 1), none⟩,
  ⟨(some 48), .load1 (.t 47), none⟩,
  ⟨(some 49), .call .k 31 [(.t 46), (.t 48)], none⟩,
  ⟨(some 44), .mv (.t 49), none⟩,
  ⟨(some 50), .ext (.t 44) 0, none⟩,
  ⟨(some 51), .ext (.t 44) 1, none⟩,
  ⟨(some 9), .mv (.t 50), none⟩,
  ⟨(some 10), .mv (.t 51), none⟩]
def r7_8 : List SOper := [
  ⟨(some 52), .fadr 0 (.t 1), none⟩,
  ⟨(some 53), .load1 (.t 52), none⟩,
  ⟨(some 54), .mv (.t 3), none⟩,
  ⟨(some 55), .call .q 28 [(.t 53), (.t 54)], none⟩,
  ⟨(some 56), .un .not (.t 55), none⟩]
def r7_9 : List SOper := [
  ⟨(some 2), .mv (.c (.one (.sc (.bool false)))), none⟩]
def r7_10 : List SOper := [
  ⟨(some 57), .mv (.t 4), none⟩,
  ⟨(some 58), .bin .neq (.t 57) (.c (.one (.sc (.int .i64 0)))), none⟩]
def r7_11 : List SOper := [
  ⟨(some 59), .mv (.t 6), none⟩,
  ⟨(some 60), .mv (.t 4), none⟩,
  ⟨(some 61), .bin .eql (.t 59) (.t 60), none⟩,
  ⟨(some 62), .mv (.t 61), none⟩,
  ⟨(some 63), .mv (.t 8), (some (some 62, true))⟩,
  ⟨(some 64), .mv (.t 4), (some (some 62, true))⟩,
  ⟨(some 65), .bin .eql (.t 63) (.t 64), (some (some 62, true))⟩,
  ⟨(some 66), .pick (.t 62) (.t 65) (.c (.one (.sc (.bool false)))), none⟩,
  ⟨(some 67), .mv (.t 66), none⟩,
  ⟨(some 68), .mv (.t 10), (some (some 67, true))⟩,
  ⟨(some 69), .mv (.t 4), (some (some 67, true))⟩,
  ⟨(some 70), .bin .eql (.t 68) (.t 69), (some (some 67, true))⟩,
  ⟨(some 71), .pick (.t 67) (.t 70) (.c (.one (.sc (.bool false)))), none⟩,
  ⟨(some 72), .mv (.t 71), none⟩,
  ⟨(some 73), .mv (.t 5), (some (some 72, true))⟩,
  ⟨(some 74), .len (.t 73), (some (some 72, true))⟩,
  ⟨(some 75), .mv (.t 7), (some (some 72, true))⟩,
  ⟨(some 76), .len (.t 75), (some (some 72, true))⟩,
  ⟨(some 77), .bin .add (.t 74) (.t 76), (some (some 72, true))⟩,
  ⟨(some 78), .mv (.t 9), (some (some 72, true))⟩,
  ⟨(some 79), .len (.t 78), (some (some 72, true))⟩,
  ⟨(some 80), .bin .add (.t 77) (.t 79), (some (some 72, true))⟩,
  ⟨(some 81), .bin .eql (.t 80) (.c (.one (.sc (.int .i64 0)))), (some (some 72, true))⟩,
  ⟨(some 82), .pick (.t 72) (.t 81) (.c (.one (.sc (.bool false)))), none⟩,
  ⟨(some 83), .mv (.t 82), none⟩,
  ⟨(some 84), .call .t 9 [], (some (some 83, true))⟩,
  ⟨(some 85), .pick (.t 83) (.t 84) (.c (.one (.sc (.bool false)))), none⟩,
  ⟨(some 2), .mv (.t 85), none⟩]
def r7_12 : List SOper := [
  ⟨(some 86), .fadr 1 (.t 1), none⟩,
  ⟨(some 87), .load1 (.t 86), none⟩,
  ⟨(some 88), .bin .lss (.t 87) (.c (.one (.sc (.int .i64 0)))), none⟩,
  ⟨(some 89), .mv (.t 88), none⟩,
  ⟨(some 90), .fadr 1 (.t 1), (some (some 89, false))⟩,
  ⟨(some 91), .load1 (.t 90), (some (some 89, false))⟩,
  ⟨(some 92), .mv (.t 3), (some (some 89, false))⟩,
  ⟨(some 93), .len (.t 92), (some (some 89, false))⟩,
  ⟨(some 94), .bin .gtr (.t 91) (.t 93), (some (some 89, false))⟩,
  ⟨(some 95), .pick (.t 89) (.c (.one (.sc (.bool true)))) (.t 94), none⟩]
def r7_13 : List SOper := [
  ⟨(some 96), .mv (.t 6), none⟩,
  ⟨(some 97), .bin .eql (.t 96) (.c (.one (.sc (.int .i64 30)))), none⟩,
  ⟨(some 98), .mv (.t 97), none⟩,
  ⟨(some 99), .mv (.t 8), (some (some 98, true))⟩,
  ⟨(some 100), .bin .eql (.t 99) (.c (.one (.sc (.int .i64 30)))), (some (some 98, true))⟩,
  ⟨(some 101), .pick (.t 98) (.t 100) (.c (.one (.sc (.bool false)))), none⟩,
  ⟨(some 102), .mv (.t 101), none⟩,
  ⟨(some 103), .mv (.t 10), (some (some 102, true))⟩,
  ⟨(some 104), .bin .eql (.t 103) (.c (.one (.sc (.int .i64 30)))), (some (some 102, true))⟩,
  ⟨(some 105), .pick (.t 102) (.t 104) (.c (.one (.sc (.bool false)))), none⟩,
  ⟨(some 106), .mv (.t 105), none⟩,
  ⟨(some 107), .mv (.t 5), (some (some 106, true))⟩,
  ⟨(some 108), .len (.t 107), (some (some 106, true))⟩,
  ⟨(some 109), .mv (.t 7), (some (some 106, true))⟩,
  ⟨(some 110), .len (.t 109), (some (some 106, true))⟩,
  ⟨(some 111), .bin .add (.t 108) (.t 110), (some (some 106, true))⟩,
  ⟨(some 112), .mv (.t 9), (some (some 106, true))⟩,
  ⟨(some 113), .len (.t 112), (some (some 106, true))⟩,
  ⟨(some 114), .bin .add (.t 111) (.t 113), (some (some 106, true))⟩,
  ⟨(some 115), .bin .eql (.t 114) (.c (.one (.sc (.int .i64 0)))), (some (some 106, true))⟩,
  ⟨(some 116), .pick (.t 106) (.t 115) (.c (.one (.sc (.bool false)))), none⟩,
  ⟨(some 117), .mv (.t 116), none⟩,
  ⟨(some 118), .call .t 9 [], (some (some 117, true))⟩,
  ⟨(some 119), .pick (.t 117) (.t 118) (.c (.one (.sc (.bool false)))), none⟩,
  ⟨(some 2), .mv (.t 119), none⟩]
def r7_14 : List SOper := [
  ⟨(some 120), .mv (.t 7), none⟩,
  ⟨(some 121), .mv (.t 8), none⟩,
  ⟨(some 122), .mv (.t 3), none⟩,
  ⟨(some 123), .fadr 1 (.t 1), none⟩,
  ⟨(some 124), .load1 (.t 123), none⟩,
  ⟨(some 125), .fadr 3 (.t 1), none⟩,
  ⟨(some 126), .loadA 7 (.t 125), none⟩,
  ⟨(some 127), .bslice [.sc (.int .i64 0), .sc (.int .i64 0), .sc (.int .i64 0), .sc (.int .i64 0), .sc (.int .i64 0), .sc (.int .i64 0), .sc (.int .i64 0)] 1 7 [(0, 7, (.t 126))], none⟩,
  ⟨(some 128), .call .k 12 [(.t 127)], none⟩,
  ⟨(some 129), .call .k 21 [(.t 122), (.t 124), (.c (.one (.sc (.int .i64 0)))), (.t 128)], none⟩,
  ⟨(some 130), .call .q 20 [(.t 120), (.t 121), (.t 129)], none⟩,
  ⟨(some 131), .un .not (.t 130), none⟩]
def r7_15 : List SOper := [
  ⟨(some 2), .mv (.c (.one (.sc (.bool false)))), none⟩]
def r7_16 : List SOper := [
  ⟨(some 132), .fadr 1 (.t 1), none⟩,
  ⟨(some 133), .load1 (.t 132), none⟩,
  ⟨(some 134), .mv (.t 3), none⟩,
  ⟨(some 135), .len (.t 134), none⟩,
  ⟨(some 136), .bin .eql (.t 133) (.t 135), none⟩]
def r7_17 : List SOper := [
  ⟨(some 137), .mv (.t 6), none⟩,
  ⟨(some 138), .bin .eql (.t 137) (.c (.one (.sc (.int .i64 30)))), none⟩,
  ⟨(some 139), .mv (.t 138), none⟩,
  ⟨(some 140), .mv (.t 10), (some (some 139, true))⟩,
  ⟨(some 141), .bin .eql (.t 140) (.c (.one (.sc (.int .i64 30)))), (some (some 139, true))⟩,
  ⟨(some 142), .pick (.t 139) (.t 141) (.c (.one (.sc (.bool false)))), none⟩,
  ⟨(some 143), .mv (.t 142), none⟩,
  ⟨(some 144), .mv (.t 5), (some (some 143, true))⟩,
  ⟨(some 145), .len (.t 144), (some (some 143, true))⟩,
  ⟨(some 146), .mv (.t 9), (some (some 143, true))⟩,
  ⟨(some 147), .len (.t 146), (some (some 143, true))⟩,
  ⟨(some 148), .bin .add (.t 145) (.t 147), (some (some 143, true))⟩,
  ⟨(some 149), .bin .eql (.t 148) (.c (.one (.sc (.int .i64 0)))), (some (some 143, true))⟩,
  ⟨(some 150), .pick (.t 143) (.t 149) (.c (.one (.sc (.bool false)))), none⟩,
  ⟨(some 151), .mv (.t 150), none⟩,
  ⟨(some 152), .call .t 9 [], (some (some 151, true))⟩,
  ⟨(some 153), .pick (.t 151) (.t 152) (.c (.one (.sc (.bool false)))), none⟩,
  ⟨(some 2), .mv (.t 153), none⟩]
def r7_18 : List SOper := [
  ⟨(some 154), .mv (.t 9), none⟩,
  ⟨(some 155), .mv (.t 10), none⟩,
  ⟨(some 156), .mv (.t 3), none⟩,
  ⟨(some 157), .fadr 1 (.t 1), none⟩,
  ⟨(some 158), .load1 (.t 157), none⟩,
  ⟨(some 159), .call .k 21 [(.t 156), (.t 158), (.c (.one (.sc (.int .i64 1)))), (.c (.one (.sc (.slice none 0 0))))], none⟩,
  ⟨(some 160), .call .q 20 [(.t 154), (.t 155), (.t 159)], none⟩,
  ⟨(some 161), .un .not (.t 160), none⟩]
def r7_19 : List SOper := [
  ⟨(some 2), .mv (.c (.one (.sc (.bool false)))), none⟩]
def r7_20 : List SOper := [
  ⟨(some 162), .fadr 2 (.t 1), none⟩,
  ⟨(some 163), .load1 (.t 162), none⟩,
  ⟨(some 164), .bin .lss (.t 163) (.c (.one (.sc (.int .i64 0)))), none⟩,
  ⟨(some 165), .mv (.t 164), none⟩,
  ⟨(some 166), .fadr 2 (.t 1), (some (some 165, false))⟩,
  ⟨(some 167), .load1 (.t 166), (some (some 165, false))⟩,
  ⟨(some 168), .mv (.t 3), (some (some 165, false))⟩,
  ⟨(some 169), .fadr 1 (.t 1), (some (some 165, false))⟩,
  ⟨(some 170), .load1 (.t 169), (some (some 165, false))⟩,
  ⟨(some 171), .iadrS 7 (.t 168) (.t 170), (some (some 165, false))⟩,
  ⟨(some 172), .fadr 0 (.t 171), (some (some 165, false))⟩,
  ⟨(some 173), .load1 (.t 172), (some (some 165, false))⟩,
  ⟨(some 174), .call (.z 1) 16 [(.t 173)], (some (some 165, false))⟩,
  ⟨(some 175), .bin .geq (.t 167) (.t 174), (some (some 165, false))⟩,
  ⟨(some 176), .pick (.t 165) (.c (.one (.sc (.bool true)))) (.t 175), none⟩]
def r7_21 : List SOper := [
  ⟨(some 177), .mv (.t 6), none⟩,
  ⟨(some 178), .bin .eql (.t 177) (.c (.one (.sc (.int .i64 30)))), none⟩,
  ⟨(some 179), .mv (.t 178), none⟩,
  ⟨(some 180), .mv (.t 5), (some (some 179, true))⟩,
  ⟨(some 181), .len (.t 180), (some (some 179, true))⟩,
  ⟨(some 182), .bin .eql (.t 181) (.c (.one (.sc (.int .i64 0)))), (some (some 179, true))⟩,
  ⟨(some 183), .pick (.t 179) (.t 182) (.c (.one (.sc (.bool false)))), none⟩,
  ⟨(some 184), .mv (.t 183), none⟩,
  ⟨(some 185), .call .t 9 [], (some (some 184, true))⟩,
  ⟨(some 186), .pick (.t 184) (.t 185) (.c (.one (.sc (.bool false)))), none⟩,
  ⟨(some 2), .mv (.t 186), none⟩]
def r7_22 : List SOper := [
  ⟨(some 187), .mv (.t 3), none⟩,
  ⟨(some 188), .call .k 21 [(.t 187), (.c (.one (.sc (.int .i64 0)))), (.c (.one (.sc (.int .i64 0)))), (.c (.one (.sc (.slice none 0 0))))], none⟩,
  ⟨(some 11), .mv (.t 188), none⟩]
def r7_23 : List SOper := [
  ⟨(some 189), .mv (.t 11), none⟩,
  ⟨(some 190), .fadr 1 (.t 1), none⟩,
  ⟨(some 191), .load1 (.t 190), none⟩,
  ⟨(some 192), .fadr 2 (.t 1), none⟩,
  ⟨(some 193), .load1 (.t 192), none⟩,
  ⟨(some 194), .fadr 10 (.t 1), none⟩,
  ⟨(some 195), .fadr 0 (.t 194), none⟩,
  ⟨(some 196), .load1 (.t 195), none⟩,
  ⟨(some 197), .fadr 10 (.t 1), none⟩,
  ⟨(some 198), .fadr 1 (.t 197), none⟩,
  ⟨(some 199), .load1 (.t 198), none⟩,
  ⟨(some 200), .build [.sc (.int .i64 0), .sc (.int .i64 0)] [(0, 1, (.t 196)), (1, 1, (.t 199))], none⟩,
  ⟨(some 201), .iadrS 7 (.t 189) (.t 191), none⟩,
  ⟨(some 202), .fadr 1 (.t 201), none⟩,
  ⟨(some 203), .iadrA 3 2 (.t 202) (.t 193), none⟩,
  ⟨none, .store 2 (.t 203) (.t 200), none⟩]
def r7_24 : List SOper := [
  ⟨(some 204), .mv (.t 5), none⟩,
  ⟨(some 205), .mv (.t 6), none⟩,
  ⟨(some 206), .mv (.t 11), none⟩,
  ⟨(some 207), .call .q 20 [(.t 204), (.t 205), (.t 206)], none⟩,
  ⟨(some 208), .mv (.t 207), none⟩,
  ⟨(some 209), .call .t 9 [], (some (some 208, true))⟩,
  ⟨(some 210), .pick (.t 208) (.t 209) (.c (.one (.sc (.bool false)))), none⟩,
  ⟨(some 2), .mv (.t 210), none⟩]
def c7 : SC := (.seq (.reg r7_0) (.seq (.seq (.reg r7_1) (.cond (.t 15) (.seq (.reg r7_2) .ret) .skip)) (.seq (.reg r7_3) (.seq (.reg r7_4) (.seq (.reg r7_5) (.seq (.reg r7_6) (.seq (.reg r7_7) (.seq (.seq (.reg r7_8) (.cond (.t 56) (.seq (.reg r7_9) .ret) .skip)) (.seq (.seq (.reg r7_10) (.cond (.t 58) (.seq (.reg r7_11) .ret) .skip)) (.seq (.seq (.reg r7_12) (.cond (.t 95) (.seq (.reg r7_13) .ret) .skip)) (.seq (.seq (.reg r7_14) (.cond (.t 131) (.seq (.reg r7_15) .ret) .skip)) (.seq (.seq (.reg r7_16) (.cond (.t 136) (.seq (.reg r7_17) .ret) .skip)) (.seq (.seq (.reg r7_18) (.cond (.t 161) (.seq (.reg r7_19) .ret) .skip)) (.seq (.seq (.reg r7_20) (.cond (.t 176) (.seq (.reg r7_21) .ret) .skip)) (.seq (.reg r7_22) (.seq (.reg r7_23) (.seq (.reg r7_24) .ret)))))))))))))))))
/-- limner/limnerlaw06.PathEdits -/
def F7 : SFun := ⟨211, c7, [.tmp 2]⟩

def r8_0 : List SOper := [
  ⟨(some 1), .box (.t 0), none⟩,
  ⟨(some 2), .mv (.c (.one (.sc (.bool false)))), none⟩]
def r8_1 : List SOper := [
  ⟨(some 11), .fadr 0 (.t 1), none⟩,
  ⟨(some 12), .load1 (.t 11), none⟩,
  ⟨(some 13), .len (.t 12), none⟩,
  ⟨(some 14), .bin .gtr (.t 13) (.c (.one (.sc (.int .i64 100)))), none⟩]
def r8_2 : List SOper := [
  ⟨(some 15), .call .t 9 [], none⟩,
  ⟨(some 2), .mv (.t 15), none⟩]
def r8_3 : List SOper := [
  ⟨(some 17), .fadr 0 (.t 1), none⟩,
  ⟨(some 18), .load1 (.t 17), none⟩,
  ⟨(some 19), .fadr 1 (.t 1), none⟩,
  ⟨(some 20), .load1 (.t 19), none⟩,
  ⟨(some 21), .fadr 3 (.t 1), none⟩,
  ⟨(some 22), .loadA 7 (.t 21), none⟩,
  ⟨(some 23), .call .k 30 [(.t 18), (.t 20), (.t 22)], none⟩,
  ⟨(some 16), .mv (.t 23), none⟩,
  ⟨(some 24), .ext (.t 16) 0, none⟩,
  ⟨(some 25), .ext (.t 16) 1, none⟩,
  ⟨(some 3), .mv (.t 24), none⟩,
  ⟨(some 4), .mv (.t 25), none⟩]
def r8_4 : List SOper := [
  ⟨(some 26), .mv (.t 4), none⟩,
  ⟨(some 27), .bin .eql (.t 26) (.c (.one (.sc (.int .i64 0)))), none⟩]
def r8_5 : List SOper := [
  ⟨(some 29), .mv (.t 3), none⟩,
  ⟨(some 30), .fadr 1 (.t 1), none⟩,
  ⟨(some 31), .load1 (.t 30), none⟩,
  ⟨(some 32), .call .k 31 [(.t 29), (.t 31)], none⟩,
  ⟨(some 28), .mv (.t 32), none⟩,
  ⟨(some 33), .ext (.t 28) 0, none⟩,
  ⟨(some 34), .ext (.t 28) 1, none⟩,
  ⟨(some 5), .mv (.t 33), none⟩,
  ⟨(some 6), .mv (.t 34), none⟩]
def r8_6 : List SOper := [
  ⟨(some 35), .mv (.t 6), none⟩,
  ⟨(some 36), .bin .neq (.t 35) (.c (.one (.sc (.int .i64 0)))), none⟩,
  ⟨(some 37), .mv (.t 36), none⟩,
  ⟨(some 38), .mv (.t 5), (some (some 37, false))⟩,
  ⟨(some 39), .fadr 0 (.t 1), (some (some 37, false))⟩,
  ⟨(some 40), .load1 (.t 39), (some (some 37, false))⟩,
  ⟨(some 41), .call .q 17 [(.t 38), (.t 40)], (some (some 37, false))⟩,
  ⟨(some 42), .un .not (.t 41), (some (some 37, false))⟩,
  ⟨(some 43), .pick (.t 37) (.c (.one (.sc (.bool true)))) (.t 42), none⟩,
  ⟨(some 44), .mv (.t 43), none⟩,
  ⟨(some 45), .mv (.t 3), (some (some 44, false))⟩,
  ⟨(some 46), .fadr 0 (.t 1), (some (some 44, false))⟩,
  ⟨(some 47), .load1 (.t 46), (some (some 44, false))⟩,
  ⟨(some 48), .call .q 17 [(.t 45), (.t 47)], (some (some 44, false))⟩,
  ⟨(some 49), .pick (.t 44) (.c (.one (.sc (.bool true)))) (.t 48), none⟩]
def r8_7 : List SOper := [
  ⟨(some 2), .mv (.c (.one (.sc (.bool false)))), none⟩]
def r8_8 : List SOper := [
  ⟨(some 51), .fadr 0 (.t 1), none⟩,
  ⟨(some 52), .load1 (.t 51), none⟩,
  ⟨(some 53), .fadr 1 (.t 1), none⟩,
  ⟨(some 54), .load1 (.t 53), none⟩,
  ⟨(some 55), .fadr 2 (.t 1), none⟩,
  ⟨(some 56), .load1 (.t 55), none⟩,
  ⟨(some 57), .fadr 10 (.t 1), none⟩,
  ⟨(some 58), .loadA 2 (.t 57), none⟩,
  ⟨(some 59), .call .k 29 [(.t 52), (.t 54), (.t 56), (.t 58)], none⟩,
  ⟨(some 50), .mv (.t 59), none⟩,
  ⟨(some 60), .ext (.t 50) 0, none⟩,
  ⟨(some 61), .ext (.t 50) 1, none⟩,
  ⟨(some 7), .mv (.t 60), none⟩,
  ⟨(some 8), .mv (.t 61), none⟩]
def r8_9 : List SOper := [
  ⟨(some 62), .mv (.t 8), none⟩,
  ⟨(some 63), .bin .eql (.t 62) (.c (.one (.sc (.int .i64 0)))), none⟩]
def r8_10 : List SOper := [
  ⟨(some 65), .mv (.t 7), none⟩,
  ⟨(some 66), .fadr 1 (.t 1), none⟩,
  ⟨(some 67), .load1 (.t 66), none⟩,
  ⟨(some 68), .fadr 2 (.t 1), none⟩,
  ⟨(some 69), .load1 (.t 68), none⟩,
  ⟨(some 70), .fadr 0 (.t 1), none⟩,
  ⟨(some 71), .load1 (.t 70), none⟩,
  ⟨(some 72), .fadr 1 (.t 1), none⟩,
  ⟨(some 73), .load1 (.t 72), none⟩,
  ⟨(some 74), .fadr 2 (.t 1), none⟩,
  ⟨(some 75), .load1 (.t 74), none⟩,
  ⟨(some 76), .iadrS 7 (.t 71) (.t 73), none⟩,
  ⟨(some 77), .fadr 1 (.t 76), none⟩,
  ⟨(some 78), .iadrA 3 2 (.t 77) (.t 75), none⟩,
  ⟨(some 79), .loadA 2 (.t 78), none⟩,
  ⟨(some 80), .call .k 29 [(.t 65), (.t 67), (.t 69), (.t 79)], none⟩,
  ⟨(some 64), .mv (.t 80), none⟩,
  ⟨(some 81), .ext (.t 64) 0, none⟩,
  ⟨(some 82), .ext (.t 64) 1, none⟩,
  ⟨(some 9), .mv (.t 81), none⟩,
  ⟨(some 10), .mv (.t 82), none⟩]
def r8_11 : List SOper := [
  ⟨(some 83), .mv (.t 10), none⟩,
  ⟨(some 84), .bin .neq (.t 83) (.c (.one (.sc (.int .i64 0)))), none⟩,
  ⟨(some 85), .mv (.t 84), none⟩,
  ⟨(some 86), .mv (.t 9), (some (some 85, false))⟩,
  ⟨(some 87), .fadr 0 (.t 1), (some (some 85, false))⟩,
  ⟨(some 88), .load1 (.t 87), (some (some 85, false))⟩,
  ⟨(some 89), .call .q 17 [(.t 86), (.t 88)], (some (some 85, false))⟩,
  ⟨(some 90), .un .not (.t 89), (some (some 85, false))⟩,
  ⟨(some 91), .pick (.t 85) (.c (.one (.sc (.bool true)))) (.t 90), none⟩]
def r8_12 : List SOper := [
  ⟨(some 2), .mv (.c (.one (.sc (.bool false)))), none⟩]
def r8_13 : List SOper := [
  ⟨(some 92), .call .t 9 [], none⟩,
  ⟨(some 2), .mv (.t 92), none⟩]
def c8 : SC := (.seq (.reg r8_0) (.seq (.seq (.reg r8_1) (.cond (.t 14) (.seq (.reg r8_2) .ret) .skip)) (.seq (.seq (.reg r8_3) (.seq (.reg r8_4) (.cond (.t 27) (.seq (.reg r8_5) (.seq (.reg r8_6) (.cond (.t 49) (.seq (.reg r8_7) .ret) .skip))) .skip))) (.seq (.seq (.reg r8_8) (.seq (.reg r8_9) (.cond (.t 63) (.seq (.reg r8_10) (.seq (.reg r8_11) (.cond (.t 91) (.seq (.reg r8_12) .ret) .skip))) .skip))) (.seq (.reg r8_13) .ret)))))
/-- limner/limnerlaw06.PathBack -/
def F8 : SFun := ⟨93, c8, [.tmp 2]⟩

def r9_0 : List SOper := [
  ⟨(some 0), .mv (.c (.one (.sc (.bool false)))), none⟩]
def r9_1 : List SOper := [
  ⟨(some 4), .call (.z 1) 32 [(.c (.one (.sc (.int .i64 1)))), (.c (.one (.sc (.int .i64 0)))), (.c (.one (.sc (.int .i64 0))))], none⟩,
  ⟨(some 5), .call (.z 1) 32 [(.c (.one (.sc (.int .i64 2)))), (.c (.one (.sc (.int .i64 4)))), (.c (.one (.sc (.int .i64 0))))], none⟩,
  ⟨(some 6), .call (.z 1) 32 [(.c (.one (.sc (.int .i64 2)))), (.c (.one (.sc (.int .i64 4)))), (.c (.one (.sc (.int .i64 4))))], none⟩,
  ⟨(some 7), .build [.sc (.int .i64 0), .sc (.int .i64 0), .sc (.int .i64 0), .sc (.int .i64 0), .sc (.int .i64 0), .sc (.int .i64 0), .sc (.int .i64 0)] [(0, 1, (.c (.one (.sc (.int .i64 5)))))], none⟩,
  ⟨(some 8), .bslice (List.replicate 28 (.sc (.int .i64 0))) 4 7 [(0, 7, (.t 4)), (7, 7, (.t 5)), (14, 7, (.t 6)), (21, 7, (.t 7))], none⟩,
  ⟨(some 9), .call .k 10 [(.t 8), (.c (.one (.sc (.int .i64 2))))], none⟩,
  ⟨(some 3), .mv (.t 9), none⟩,
  ⟨(some 10), .ext (.t 3) 0, none⟩,
  ⟨(some 11), .ext (.t 3) 1, none⟩,
  ⟨(some 1), .mv (.t 10), none⟩,
  ⟨(some 2), .mv (.t 11), none⟩]
def r9_2 : List SOper := [
  ⟨(some 12), .mv (.t 2), none⟩,
  ⟨(some 13), .bin .eql (.t 12) (.c (.one (.sc (.int .i64 0)))), none⟩,
  ⟨(some 14), .mv (.t 13), none⟩,
  ⟨(some 15), .mv (.t 1), (some (some 14, true))⟩,
  ⟨(some 16), .len (.t 15), (some (some 14, true))⟩,
  ⟨(some 17), .bin .eql (.t 16) (.c (.one (.sc (.int .i64 1)))), (some (some 14, true))⟩,
  ⟨(some 18), .pick (.t 14) (.t 17) (.c (.one (.sc (.bool false)))), none⟩,
  ⟨(some 19), .mv (.t 18), none⟩,
  ⟨(some 20), .mv (.t 1), (some (some 19, true))⟩,
  ⟨(some 21), .iadrS 2 (.t 20) (.c (.one (.sc (.int .i64 0)))), (some (some 19, true))⟩,
  ⟨(some 22), .fadr 0 (.t 21), (some (some 19, true))⟩,
  ⟨(some 23), .load1 (.t 22), (some (some 19, true))⟩,
  ⟨(some 24), .len (.t 23), (some (some 19, true))⟩,
  ⟨(some 25), .bin .eql (.t 24) (.c (.one (.sc (.int .i64 3)))), (some (some 19, true))⟩,
  ⟨(some 26), .pick (.t 19) (.t 25) (.c (.one (.sc (.bool false)))), none⟩,
  ⟨(some 27), .mv (.t 26), none⟩,
  ⟨(some 28), .mv (.t 1), (some (some 27, true))⟩,
  ⟨(some 29), .iadrS 2 (.t 28) (.c (.one (.sc (.int .i64 0)))), (some (some 27, true))⟩,
  ⟨(some 30), .fadr 1 (.t 29), (some (some 27, true))⟩,
  ⟨(some 31), .load1 (.t 30), (some (some 27, true))⟩,
  ⟨(some 32), .pick (.t 27) (.t 31) (.c (.one (.sc (.bool false)))), none⟩,
  ⟨(some 0), .mv (.t 32), none⟩]
def c9 : SC := (.seq (.reg r9_0) (.seq (.reg r9_1) (.seq (.reg r9_2) .ret)))
/-- limner/limnerlaw06.awake -/
def F9 : SFun := ⟨33, c9, [.tmp 0]⟩

def r10_0 : List SOper := [
  ⟨(some 3), .box (.t 1), none⟩,
  ⟨(some 4), .mv (.c (.one (.sc (.slice none 0 0)))), none⟩,
  ⟨(some 5), .mv (.c (.one (.sc (.int .i64 0)))), none⟩]
def r10_1 : List SOper := [
  ⟨(some 13), .mv (.t 0), none⟩,
  ⟨(some 14), .call .q 14 [(.t 13)], none⟩,
  ⟨(some 6), .mv (.t 14), none⟩]
def r10_2 : List SOper := [
  ⟨(some 15), .mv (.t 6), none⟩,
  ⟨(some 16), .bin .neq (.t 15) (.c (.one (.sc (.int .i64 0)))), none⟩]
def r10_3 : List SOper := [
  ⟨(some 17), .mv (.t 6), none⟩,
  ⟨(some 4), .mv (.c (.one (.sc (.slice none 0 0)))), none⟩,
  ⟨(some 5), .mv (.t 17), none⟩]
def r10_4 : List SOper := [
  ⟨(some 18), .load1 (.t 3), none⟩,
  ⟨(some 19), .bin .lss (.t 18) (.c (.one (.sc (.int .i64 0)))), none⟩,
  ⟨(some 20), .mv (.t 19), none⟩,
  ⟨(some 21), .load1 (.t 3), (some (some 20, false))⟩,
  ⟨(some 22), .bin .gtr (.t 21) (.c (.one (.sc (.int .i64 6)))), (some (some 20, false))⟩,
  ⟨(some 23), .pick (.t 20) (.c (.one (.sc (.bool true)))) (.t 22), none⟩]
def r10_5 : List SOper := [
  ⟨(some 4), .mv (.c (.one (.sc (.slice none 0 0)))), none⟩,
  ⟨(some 5), .mv (.c (.one (.sc (.int .i64 30)))), none⟩]
def r10_6 : List SOper := [
  ⟨(some 7), .alloc [.sc (.slice none 0 0)], none⟩]
def r10_7 : List SOper := [
  ⟨(some 24), .mv (.t 0), none⟩,
  ⟨(some 25), .call .k 33 [(.t 24)], none⟩]
def r10_8 : List SOper := [
  ⟨(some 8), .alloc [.sc (.int .i64 0), .sc (.int .i64 0)], none⟩,
  ⟨none, .store 2 (.t 8) (.t 26), none⟩]
def r10_9 : List SOper := [
  ⟨(some 9), .alloc [.sc (.int .i64 0), .sc (.int .i64 0), .sc (.int .i64 0), .sc (.int .i64 0), .sc (.int .i64 0), .sc (.int .i64 0), .sc (.int .i64 0)], none⟩,
  ⟨none, .store 7 (.t 9) (.t 27), none⟩]
def r10_10 : List SOper := [
  ⟨(some 28), .fadr 0 (.t 9), none⟩,
  ⟨(some 29), .load1 (.t 28), none⟩,
  ⟨(some 30), .bin .eql (.t 29) (.c (.one (.sc (.int .i64 1)))), none⟩]
def r10_11 : List SOper := [
  ⟨(some 31), .load1 (.t 7), none⟩,
  ⟨(some 32), .build [.sc (.slice none 0 0), .sc (.bool false)] [], none⟩,
  ⟨(some 33), .bslice [.sc (.slice none 0 0), .sc (.bool false)] 1 2 [(0, 2, (.t 32))], none⟩,
  ⟨(some 34), .app 2 32 (.t 31) (.t 33), none⟩,
  ⟨none, .store 1 (.t 7) (.t 34), none⟩]
def r10_12 : List SOper := [
  ⟨(some 35), .load1 (.t 7), none⟩,
  ⟨(some 36), .load1 (.t 7), none⟩,
  ⟨(some 37), .len (.t 36), none⟩,
  ⟨(some 38), .bin .sub (.t 37) (.c (.one (.sc (.int .i64 1)))), none⟩,
  ⟨(some 39), .iadrS 2 (.t 35) (.t 38), none⟩,
  ⟨(some 10), .mv (.t 39), none⟩]
def r10_13 : List SOper := [
  ⟨(some 40), .fadr 0 (.t 9), none⟩,
  ⟨(some 41), .load1 (.t 40), none⟩]
def r10_15 : List SOper := [
  ⟨(some 55), .bin .eql (.t 41) (.c (.one (.sc (.int .i64 5)))), none⟩,
  ⟨(some 54), .mv (.t 55), none⟩]
def r10_16 : List SOper := [
  ⟨(some 56), .mv (.t 10), none⟩,
  ⟨(some 57), .nilchk (.t 56), none⟩,
  ⟨(some 58), .fadr 1 (.t 57), none⟩,
  ⟨none, .store 1 (.t 58) (.c (.one (.sc (.bool true)))), none⟩]
def r10_17 : List SOper := [
  ⟨(some 60), .bin .eql (.t 41) (.c (.one (.sc (.int .i64 3)))), none⟩,
  ⟨(some 59), .mv (.t 60), none⟩]
def r10_18 : List SOper := [
  ⟨(some 61), .bin .eql (.t 41) (.c (.one (.sc (.int .i64 4)))), none⟩,
  ⟨(some 59), .mv (.t 61), none⟩]
def r10_19 : List SOper := [
  ⟨(some 63), .loadA 2 (.t 8), none⟩,
  ⟨(some 64), .bslice [.sc (.int .i64 0), .sc (.int .i64 0)] 1 2 [(0, 2, (.t 63))], none⟩,
  ⟨(some 65), .call .k 35 [(.t 9)], none⟩,
  ⟨(some 66), .app 2 16 (.t 64) (.t 65), none⟩,
  ⟨(some 67), .load1 (.t 3), none⟩,
  ⟨(some 68), .call .k 34 [(.t 66), (.t 67)], none⟩,
  ⟨(some 62), .mv (.t 68), none⟩,
  ⟨(some 69), .ext (.t 62) 0, none⟩,
  ⟨(some 70), .ext (.t 62) 1, none⟩,
  ⟨(some 11), .mv (.t 69), none⟩,
  ⟨(some 12), .mv (.t 70), none⟩]
def r10_20 : List SOper := [
  ⟨(some 71), .mv (.t 10), none⟩,
  ⟨(some 72), .mv (.t 10), none⟩,
  ⟨(some 73), .nilchk (.t 72), none⟩,
  ⟨(some 74), .fadr 0 (.t 73), none⟩,
  ⟨(some 75), .load1 (.t 74), none⟩,
  ⟨(some 76), .mv (.t 11), none⟩,
  ⟨(some 77), .app 2 16 (.t 75) (.t 76), none⟩,
  ⟨(some 78), .nilchk (.t 71), none⟩,
  ⟨(some 79), .fadr 0 (.t 78), none⟩,
  ⟨none, .store 1 (.t 79) (.t 77), none⟩]
def r10_14 : List SOper := [
  ⟨(some 42), .mv (.t 10), none⟩,
  ⟨(some 43), .mv (.t 10), none⟩,
  ⟨(some 44), .nilchk (.t 43), none⟩,
  ⟨(some 45), .fadr 0 (.t 44), none⟩,
  ⟨(some 46), .load1 (.t 45), none⟩,
  ⟨(some 47), .fadr 1 (.t 9), none⟩,
  ⟨(some 48), .iadrA 3 2 (.t 47) (.c (.one (.sc (.int .i64 0)))), none⟩,
  ⟨(some 49), .loadA 2 (.t 48), none⟩,
  ⟨(some 50), .bslice [.sc (.int .i64 0), .sc (.int .i64 0)] 1 2 [(0, 2, (.t 49))], none⟩,
  ⟨(some 51), .app 2 16 (.t 46) (.t 50), none⟩,
  ⟨(some 52), .nilchk (.t 42), none⟩,
  ⟨(some 53), .fadr 0 (.t 52), none⟩,
  ⟨none, .store 1 (.t 53) (.t 51), none⟩]
def wa10 : SC := (.seq (.reg r10_8) (.reg r10_9))
def wb10 : SC := (.block 1 (.seq (.seq (.reg r10_10) (.cond (.t 30) (.reg r10_11) .skip)) (.seq (.reg r10_12) (.seq (.reg r10_13) (.block 2 (.seq (.reg r10_15) (.cond (.t 54) (.reg r10_16) (.seq (.seq (.reg r10_17) (.cond (.t 59) .skip (.reg r10_18))) (.cond (.t 59) (.seq (.preg 2 35 [(.t 9)] [(3, 64)] r10_19) (.reg r10_20)) (.reg r10_14))))))))))
def r10_21 : List SOper := [
  ⟨(some 80), .load1 (.t 7), none⟩,
  ⟨(some 4), .mv (.t 80), none⟩,
  ⟨(some 5), .mv (.c (.one (.sc (.int .i64 0)))), none⟩]
def c10 : SC := (.seq (.reg r10_0) (.seq (.seq (.reg r10_1) (.seq (.reg r10_2) (.cond (.t 16) (.seq (.reg r10_3) .ret) .skip))) (.seq (.seq (.reg r10_4) (.cond (.t 23) (.seq (.reg r10_5) .ret) .skip)) (.seq (.reg r10_6) (.seq (.seq (.reg r10_7) (.block 0 (.walk 53 15 26 27 (.t 25) wa10 wb10))) (.seq (.reg r10_21) .ret))))))
/-- limner/path.Flat -/
def F10 : SFun := ⟨81, c10, [.tmp 4, .tmp 5]⟩

def r11_0 : List SOper := [
  ⟨(some 2), .mv (.c (.one (.sc (.int .i64 0)))), none⟩]
def r11_1 : List SOper := [
  ⟨(some 7), .mv (.t 0), none⟩,
  ⟨(some 8), .len (.t 7), none⟩,
  ⟨(some 9), .bin .gtr (.t 8) (.c (.one (.sc (.int .i64 4096)))), none⟩]
def r11_2 : List SOper := [
  ⟨(some 2), .mv (.c (.one (.sc (.int .i64 36)))), none⟩]
def r11_3 : List SOper := [
  ⟨(some 3), .mv (.c (.one (.sc (.int .i64 0)))), none⟩]
def r11_4 : List SOper := [
  ⟨(some 10), .mv (.t 3), none⟩,
  ⟨(some 11), .mv (.t 0), none⟩,
  ⟨(some 12), .len (.t 11), none⟩,
  ⟨(some 13), .bin .lss (.t 10) (.t 12), none⟩]
def r11_6 : List SOper := [
  ⟨(some 16), .mv (.t 0), none⟩,
  ⟨(some 17), .mv (.t 3), none⟩,
  ⟨(some 18), .iadrS 7 (.t 16) (.t 17), none⟩,
  ⟨(some 19), .loadA 7 (.t 18), none⟩,
  ⟨(some 4), .alloc [.sc (.int .i64 0), .sc (.int .i64 0), .sc (.int .i64 0), .sc (.int .i64 0), .sc (.int .i64 0), .sc (.int .i64 0), .sc (.int .i64 0)], none⟩,
  ⟨none, .store 7 (.t 4) (.t 19), none⟩]
def r11_7 : List SOper := [
  ⟨(some 20), .fadr 0 (.t 4), none⟩,
  ⟨(some 21), .load1 (.t 20), none⟩,
  ⟨(some 22), .bin .lss (.t 21) (.c (.one (.sc (.int .i64 1)))), none⟩,
  ⟨(some 23), .mv (.t 22), none⟩,
  ⟨(some 24), .fadr 0 (.t 4), (some (some 23, false))⟩,
  ⟨(some 25), .load1 (.t 24), (some (some 23, false))⟩,
  ⟨(some 26), .bin .gtr (.t 25) (.c (.one (.sc (.int .i64 5)))), (some (some 23, false))⟩,
  ⟨(some 27), .pick (.t 23) (.c (.one (.sc (.bool true)))) (.t 26), none⟩,
  ⟨(some 28), .mv (.t 27), none⟩,
  ⟨(some 29), .fadr 0 (.t 4), (some (some 28, false))⟩,
  ⟨(some 30), .load1 (.t 29), (some (some 28, false))⟩,
  ⟨(some 31), .bin .neq (.t 30) (.c (.one (.sc (.int .i64 1)))), (some (some 28, false))⟩,
  ⟨(some 32), .mv (.t 31), (some (some 28, false))⟩,
  ⟨(some 33), .mv (.t 3), (some (some 32, true))⟩,
  ⟨(some 34), .bin .eql (.t 33) (.c (.one (.sc (.int .i64 0)))), (some (some 32, true))⟩,
  ⟨(some 35), .mv (.t 34), (some (some 32, true))⟩,
  ⟨(some 36), .mv (.t 0), (some (some 35, false))⟩,
  ⟨(some 37), .mv (.t 3), (some (some 35, false))⟩,
  ⟨(some 38), .bin .sub (.t 37) (.c (.one (.sc (.int .i64 1)))), (some (some 35, false))⟩,
  ⟨(some 39), .iadrS 7 (.t 36) (.t 38), (some (some 35, false))⟩,
  ⟨(some 40), .fadr 0 (.t 39), (some (some 35, false))⟩,
  ⟨(some 41), .load1 (.t 40), (some (some 35, false))⟩,
  ⟨(some 42), .bin .eql (.t 41) (.c (.one (.sc (.int .i64 5)))), (some (some 35, false))⟩,
  ⟨(some 43), .pick (.t 35) (.c (.one (.sc (.bool true)))) (.t 42), (some (some 32, true))⟩,
  ⟨(some 44), .pick (.t 32) (.t 43) (.c (.one (.sc (.bool false)))), (some (some 28, false))⟩,
  ⟨(some 45), .pick (.t 28) (.c (.one (.sc (.bool true)))) (.t 44), none⟩]
def r11_8 : List SOper := [
  ⟨(some 2), .mv (.c (.one (.sc (.int .i64 33)))), none⟩]
def r11_9 : List SOper := [
  ⟨(some 5), .mv (.c (.one (.sc (.int .i64 2)))), none⟩]
def r11_10 : List SOper := [
  ⟨(some 46), .mv (.t 5), none⟩,
  ⟨(some 47), .fadr 0 (.t 4), none⟩,
  ⟨(some 48), .load1 (.t 47), none⟩,
  ⟨(some 49), .call (.z 1) 16 [(.t 48)], none⟩,
  ⟨(some 50), .bin .geq (.t 46) (.t 49), none⟩]
def r11_12 : List SOper := [
  ⟨(some 53), .mv (.t 5), none⟩,
  ⟨(some 54), .fadr 1 (.t 4), none⟩,
  ⟨(some 55), .iadrA 3 2 (.t 54) (.t 53), none⟩,
  ⟨(some 56), .fadr 0 (.t 55), none⟩,
  ⟨(some 57), .load1 (.t 56), none⟩,
  ⟨(some 58), .bin .neq (.t 57) (.c (.one (.sc (.int .i64 0)))), none⟩,
  ⟨(some 59), .mv (.t 58), none⟩,
  ⟨(some 60), .mv (.t 5), (some (some 59, false))⟩,
  ⟨(some 61), .fadr 1 (.t 4), (some (some 59, false))⟩,
  ⟨(some 62), .iadrA 3 2 (.t 61) (.t 60), (some (some 59, false))⟩,
  ⟨(some 63), .fadr 1 (.t 62), (some (some 59, false))⟩,
  ⟨(some 64), .load1 (.t 63), (some (some 59, false))⟩,
  ⟨(some 65), .bin .neq (.t 64) (.c (.one (.sc (.int .i64 0)))), (some (some 59, false))⟩,
  ⟨(some 66), .pick (.t 59) (.c (.one (.sc (.bool true)))) (.t 65), none⟩]
def r11_13 : List SOper := [
  ⟨(some 2), .mv (.c (.one (.sc (.int .i64 33)))), none⟩]
def r11_11 : List SOper := [
  ⟨(some 51), .mv (.t 5), none⟩,
  ⟨(some 52), .bin .sub (.t 51) (.c (.one (.sc (.int .i64 1)))), none⟩,
  ⟨(some 5), .mv (.t 52), none⟩]
def l11_0 : SC := (.seq (.seq (.reg r11_10) (.cond (.t 50) .skip (.exit 2))) (.seq (.block 3 (.seq (.reg r11_12) (.cond (.t 66) (.seq (.reg r11_13) .ret) .skip))) (.reg r11_11)))
def r11_14 : List SOper := [
  ⟨(some 6), .mv (.c (.one (.sc (.int .i64 0)))), none⟩]
def r11_15 : List SOper := [
  ⟨(some 67), .mv (.t 6), none⟩,
  ⟨(some 68), .fadr 0 (.t 4), none⟩,
  ⟨(some 69), .load1 (.t 68), none⟩,
  ⟨(some 70), .call (.z 1) 16 [(.t 69)], none⟩,
  ⟨(some 71), .bin .lss (.t 67) (.t 70), none⟩]
def r11_17 : List SOper := [
  ⟨(some 74), .mv (.t 6), none⟩,
  ⟨(some 75), .fadr 1 (.t 4), none⟩,
  ⟨(some 76), .iadrA 3 2 (.t 75) (.t 74), none⟩,
  ⟨(some 77), .fadr 0 (.t 76), none⟩,
  ⟨(some 78), .load1 (.t 77), none⟩,
  ⟨(some 79), .call (.z 1) 36 [(.t 78)], none⟩,
  ⟨(some 80), .un .not (.t 79), none⟩,
  ⟨(some 81), .mv (.t 80), none⟩,
  ⟨(some 82), .mv (.t 6), (some (some 81, false))⟩,
  ⟨(some 83), .fadr 1 (.t 4), (some (some 81, false))⟩,
  ⟨(some 84), .iadrA 3 2 (.t 83) (.t 82), (some (some 81, false))⟩,
  ⟨(some 85), .fadr 1 (.t 84), (some (some 81, false))⟩,
  ⟨(some 86), .load1 (.t 85), (some (some 81, false))⟩,
  ⟨(some 87), .call (.z 1) 36 [(.t 86)], (some (some 81, false))⟩,
  ⟨(some 88), .un .not (.t 87), (some (some 81, false))⟩,
  ⟨(some 89), .pick (.t 81) (.c (.one (.sc (.bool true)))) (.t 88), none⟩]
def r11_18 : List SOper := [
  ⟨(some 2), .mv (.c (.one (.sc (.int .i64 30)))), none⟩]
def r11_16 : List SOper := [
  ⟨(some 72), .mv (.t 6), none⟩,
  ⟨(some 73), .bin .add (.t 72) (.c (.one (.sc (.int .i64 1)))), none⟩,
  ⟨(some 6), .mv (.t 73), none⟩]
def l11_1 : SC := (.seq (.seq (.reg r11_15) (.cond (.t 71) .skip (.exit 4))) (.seq (.block 5 (.seq (.reg r11_17) (.cond (.t 89) (.seq (.reg r11_18) .ret) .skip))) (.reg r11_16)))
def r11_5 : List SOper := [
  ⟨(some 14), .mv (.t 3), none⟩,
  ⟨(some 15), .bin .add (.t 14) (.c (.one (.sc (.int .i64 1)))), none⟩,
  ⟨(some 3), .mv (.t 15), none⟩]
def l11_2 : SC := (.seq (.seq (.reg r11_4) (.cond (.t 13) .skip (.exit 0))) (.seq (.block 1 (.seq (.reg r11_6) (.seq (.seq (.reg r11_7) (.cond (.t 45) (.seq (.reg r11_8) .ret) .skip)) (.seq (.seq (.reg r11_9) (.block 2 (.loop l11_0))) (.seq (.reg r11_14) (.block 4 (.loop l11_1))))))) (.reg r11_5)))
def r11_19 : List SOper := [
  ⟨(some 2), .mv (.c (.one (.sc (.int .i64 0)))), none⟩]
def c11 : SC := (.seq (.reg r11_0) (.seq (.seq (.reg r11_1) (.cond (.t 9) (.seq (.reg r11_2) .ret) .skip)) (.seq (.seq (.reg r11_3) (.block 0 (.loop l11_2))) (.seq (.reg r11_19) .ret))))
/-- limner/limnerref06.Check -/
def F11 : SFun := ⟨90, c11, [.tmp 2]⟩

def r12_0 : List SOper := [
  ⟨(some 2), .mv (.c (.one (.sc (.slice none 0 0)))), none⟩]
def r12_1 : List SOper := [
  ⟨(some 3), .mv (.c (.one (.sc (.slice none 0 0)))), none⟩]
def r12_2 : List SOper := [
  ⟨(some 9), .mv (.t 0), none⟩,
  ⟨(some 10), .len (.t 9), none⟩,
  ⟨(some 11), .mv (.c (.one (.sc (.int .i64 0)))), none⟩]
def r12_3 : List SOper := [
  ⟨(some 12), .bin .lss (.t 11) (.t 10), none⟩]
def r12_4 : List SOper := [
  ⟨(some 13), .iadrS 7 (.t 9) (.t 11), none⟩,
  ⟨(some 14), .loadA 7 (.t 13), none⟩,
  ⟨(some 5), .alloc [.sc (.int .i64 0), .sc (.int .i64 0), .sc (.int .i64 0), .sc (.int .i64 0), .sc (.int .i64 0), .sc (.int .i64 0), .sc (.int .i64 0)], none⟩,
  ⟨none, .store 7 (.t 5) (.t 14), none⟩]
def r12_5 : List SOper := [
  ⟨(some 15), .fadr 0 (.t 5), none⟩,
  ⟨(some 16), .load1 (.t 15), none⟩,
  ⟨(some 17), .build [.sc (.int .i64 0), .sc (.int .i64 0), .sc (.int .i64 0), .sc (.int .i64 0), .sc (.int .i64 0), .sc (.int .i64 0), .sc (.int .i64 0)] [(0, 1, (.t 16))], none⟩,
  ⟨(some 6), .alloc [.sc (.int .i64 0), .sc (.int .i64 0), .sc (.int .i64 0), .sc (.int .i64 0), .sc (.int .i64 0), .sc (.int .i64 0), .sc (.int .i64 0)], none⟩,
  ⟨none, .store 7 (.t 6) (.t 17), none⟩]
def r12_6 : List SOper := [
  ⟨(some 18), .fadr 1 (.t 5), none⟩,
  ⟨(some 19), .loadA 6 (.t 18), none⟩,
  ⟨(some 20), .mv (.c (.one (.sc (.int .i64 0)))), none⟩]
def r12_7 : List SOper := [
  ⟨(some 21), .bin .lss (.t 20) (.c (.one (.sc (.int .i64 3)))), none⟩]
def r12_8 : List SOper := [
  ⟨(some 22), .mv (.t 20), none⟩,
  ⟨(some 23), .idxA 3 2 true (.t 19) (.t 20), none⟩,
  ⟨(some 8), .alloc [.sc (.int .i64 0), .sc (.int .i64 0)], none⟩,
  ⟨(some 7), .mv (.t 22), none⟩,
  ⟨none, .store 2 (.t 8) (.t 23), none⟩]
def r12_9 : List SOper := [
  ⟨(some 24), .mv (.t 7), none⟩,
  ⟨(some 25), .fadr 0 (.t 8), none⟩,
  ⟨(some 26), .load1 (.t 25), none⟩,
  ⟨(some 27), .fadr 1 (.t 8), none⟩,
  ⟨(some 28), .load1 (.t 27), none⟩,
  ⟨(some 29), .build [.sc (.int .i64 0), .sc (.int .i64 0)] [(0, 1, (.t 26)), (1, 1, (.t 28))], none⟩,
  ⟨(some 30), .fadr 1 (.t 6), none⟩,
  ⟨(some 31), .iadrA 3 2 (.t 30) (.t 24), none⟩,
  ⟨none, .store 2 (.t 31) (.t 29), none⟩]
def r12_10 : List SOper := [
  ⟨(some 32), .bin .add (.t 20) (.c (.one (.sc (.int .i64 1)))), none⟩,
  ⟨(some 20), .mv (.t 32), none⟩]
def l12_0 : SC := (.seq (.reg r12_7) (.seq (.cond (.t 21) .skip (.exit 2)) (.seq (.block 3 (.seq (.reg r12_8) (.reg r12_9))) (.reg r12_10))))
def r12_11 : List SOper := [
  ⟨(some 33), .mv (.t 3), none⟩,
  ⟨(some 34), .loadA 7 (.t 6), none⟩,
  ⟨(some 35), .bslice [.sc (.int .i64 0), .sc (.int .i64 0), .sc (.int .i64 0), .sc (.int .i64 0), .sc (.int .i64 0), .sc (.int .i64 0), .sc (.int .i64 0)] 1 7 [(0, 7, (.t 34))], none⟩,
  ⟨(some 36), .app 7 56 (.t 33) (.t 35), none⟩,
  ⟨(some 3), .mv (.t 36), none⟩]
def r12_12 : List SOper := [
  ⟨(some 37), .bin .add (.t 11) (.c (.one (.sc (.int .i64 1)))), none⟩,
  ⟨(some 11), .mv (.t 37), none⟩]
def l12_1 : SC := (.seq (.reg r12_3) (.seq (.cond (.t 12) .skip (.exit 0)) (.seq (.block 1 (.seq (.reg r12_4) (.seq (.reg r12_5) (.seq (.seq (.reg r12_6) (.block 2 (.loop l12_0))) (.reg r12_11))))) (.reg r12_12))))
def r12_13 : List SOper := [
  ⟨(some 38), .mv (.t 3), none⟩,
  ⟨(some 2), .mv (.t 38), none⟩]
def c12 : SC := (.seq (.reg r12_0) (.seq (.reg r12_1) (.seq (.seq (.reg r12_2) (.block 0 (.loop l12_1))) (.seq (.reg r12_13) .ret))))
/-- limner/limnerlaw06.ref -/
def F12 : SFun := ⟨39, c12, [.tmp 2]⟩

def r13_0 : List SOper := [
  ⟨(some 4), .mv (.c (.one (.sc (.slice none 0 0)))), none⟩]
def r13_1 : List SOper := [
  ⟨(some 5), .mv (.c (.one (.sc (.slice none 0 0)))), none⟩]
def r13_2 : List SOper := [
  ⟨(some 6), .mv (.c (.one (.sc (.int .i64 0)))), none⟩]
def r13_3 : List SOper := [
  ⟨(some 11), .mv (.t 6), none⟩,
  ⟨(some 12), .mv (.t 0), none⟩,
  ⟨(some 13), .len (.t 12), none⟩,
  ⟨(some 14), .bin .lss (.t 11) (.t 13), none⟩]
def r13_5 : List SOper := [
  ⟨(some 17), .mv (.t 0), none⟩,
  ⟨(some 18), .mv (.t 6), none⟩,
  ⟨(some 19), .iadrS 7 (.t 17) (.t 18), none⟩,
  ⟨(some 20), .loadA 7 (.t 19), none⟩,
  ⟨(some 7), .alloc [.sc (.int .i64 0), .sc (.int .i64 0), .sc (.int .i64 0), .sc (.int .i64 0), .sc (.int .i64 0), .sc (.int .i64 0), .sc (.int .i64 0)], none⟩,
  ⟨none, .store 7 (.t 7) (.t 20), none⟩]
def r13_6 : List SOper := [
  ⟨(some 21), .fadr 0 (.t 7), none⟩,
  ⟨(some 22), .load1 (.t 21), none⟩,
  ⟨(some 23), .bin .eql (.t 22) (.c (.one (.sc (.int .i64 1)))), none⟩]
def r13_7 : List SOper := [
  ⟨(some 24), .mv (.t 5), none⟩,
  ⟨(some 25), .fadr 1 (.t 7), none⟩,
  ⟨(some 26), .iadrA 3 2 (.t 25) (.c (.one (.sc (.int .i64 0)))), none⟩,
  ⟨(some 27), .loadA 2 (.t 26), none⟩,
  ⟨(some 28), .bslice [.sc (.int .i64 0), .sc (.int .i64 0)] 1 2 [(0, 2, (.t 27))], none⟩,
  ⟨(some 29), .build [.sc (.slice none 0 0), .sc (.bool false)] [(0, 1, (.t 28))], none⟩,
  ⟨(some 30), .bslice [.sc (.slice none 0 0), .sc (.bool false)] 1 2 [(0, 2, (.t 29))], none⟩,
  ⟨(some 31), .app 2 32 (.t 24) (.t 30), none⟩,
  ⟨(some 5), .mv (.t 31), none⟩]
def r13_8 : List SOper := [
  ⟨(some 32), .mv (.t 5), none⟩,
  ⟨(some 33), .len (.t 32), none⟩,
  ⟨(some 34), .bin .sub (.t 33) (.c (.one (.sc (.int .i64 1)))), none⟩,
  ⟨(some 8), .mv (.t 34), none⟩]
def r13_9 : List SOper := [
  ⟨(some 35), .fadr 0 (.t 7), none⟩,
  ⟨(some 36), .load1 (.t 35), none⟩,
  ⟨(some 37), .bin .eql (.t 36) (.c (.one (.sc (.int .i64 5)))), none⟩]
def r13_10 : List SOper := [
  ⟨(some 38), .mv (.t 5), none⟩,
  ⟨(some 39), .mv (.t 8), none⟩,
  ⟨(some 40), .iadrS 2 (.t 38) (.t 39), none⟩,
  ⟨(some 41), .fadr 1 (.t 40), none⟩,
  ⟨none, .store 1 (.t 41) (.c (.one (.sc (.bool true)))), none⟩]
def r13_11 : List SOper := [
  ⟨(some 42), .fadr 0 (.t 7), none⟩,
  ⟨(some 43), .load1 (.t 42), none⟩,
  ⟨(some 44), .bin .eql (.t 43) (.c (.one (.sc (.int .i64 2)))), none⟩]
def r13_12 : List SOper := [
  ⟨(some 45), .mv (.t 5), none⟩,
  ⟨(some 46), .mv (.t 8), none⟩,
  ⟨(some 47), .mv (.t 5), none⟩,
  ⟨(some 48), .mv (.t 8), none⟩,
  ⟨(some 49), .iadrS 2 (.t 47) (.t 48), none⟩,
  ⟨(some 50), .fadr 0 (.t 49), none⟩,
  ⟨(some 51), .load1 (.t 50), none⟩,
  ⟨(some 52), .fadr 1 (.t 7), none⟩,
  ⟨(some 53), .iadrA 3 2 (.t 52) (.c (.one (.sc (.int .i64 0)))), none⟩,
  ⟨(some 54), .loadA 2 (.t 53), none⟩,
  ⟨(some 55), .bslice [.sc (.int .i64 0), .sc (.int .i64 0)] 1 2 [(0, 2, (.t 54))], none⟩,
  ⟨(some 56), .app 2 16 (.t 51) (.t 55), none⟩,
  ⟨(some 57), .iadrS 2 (.t 45) (.t 46), none⟩,
  ⟨(some 58), .fadr 0 (.t 57), none⟩,
  ⟨none, .store 1 (.t 58) (.t 56), none⟩]
def r13_13 : List SOper := [
  ⟨(some 59), .mv (.t 0), none⟩,
  ⟨(some 60), .mv (.t 6), none⟩,
  ⟨(some 61), .call .q 22 [(.t 59), (.t 60)], none⟩,
  ⟨(some 62), .bslice [.sc (.int .i64 0), .sc (.int .i64 0)] 1 2 [(0, 2, (.t 61))], none⟩,
  ⟨(some 9), .mv (.t 62), none⟩]
def r13_14 : List SOper := [
  ⟨(some 10), .mv (.c (.one (.sc (.int .i64 0)))), none⟩]
def r13_15 : List SOper := [
  ⟨(some 63), .mv (.t 10), none⟩,
  ⟨(some 64), .fadr 0 (.t 7), none⟩,
  ⟨(some 65), .load1 (.t 64), none⟩,
  ⟨(some 66), .call (.z 1) 16 [(.t 65)], none⟩,
  ⟨(some 67), .bin .lss (.t 63) (.t 66), none⟩]
def r13_17 : List SOper := [
  ⟨(some 70), .mv (.t 9), none⟩,
  ⟨(some 71), .mv (.t 10), none⟩,
  ⟨(some 72), .fadr 1 (.t 7), none⟩,
  ⟨(some 73), .iadrA 3 2 (.t 72) (.t 71), none⟩,
  ⟨(some 74), .loadA 2 (.t 73), none⟩,
  ⟨(some 75), .bslice [.sc (.int .i64 0), .sc (.int .i64 0)] 1 2 [(0, 2, (.t 74))], none⟩,
  ⟨(some 76), .app 2 16 (.t 70) (.t 75), none⟩,
  ⟨(some 9), .mv (.t 76), none⟩]
def r13_16 : List SOper := [
  ⟨(some 68), .mv (.t 10), none⟩,
  ⟨(some 69), .bin .add (.t 68) (.c (.one (.sc (.int .i64 1)))), none⟩,
  ⟨(some 10), .mv (.t 69), none⟩]
def l13_0 : SC := (.seq (.seq (.reg r13_15) (.cond (.t 67) .skip (.exit 2))) (.seq (.block 3 (.reg r13_17)) (.reg r13_16)))
def r13_18 : List SOper := [
  ⟨(some 77), .mv (.t 5), none⟩,
  ⟨(some 78), .mv (.t 8), none⟩,
  ⟨(some 79), .mv (.t 5), none⟩,
  ⟨(some 80), .mv (.t 8), none⟩,
  ⟨(some 81), .iadrS 2 (.t 79) (.t 80), none⟩,
  ⟨(some 82), .fadr 0 (.t 81), none⟩,
  ⟨(some 83), .load1 (.t 82), none⟩,
  ⟨(some 84), .mv (.t 9), none⟩,
  ⟨(some 85), .mv (.t 1), none⟩,
  ⟨(some 86), .call .k 37 [(.t 84), (.t 85)], none⟩,
  ⟨(some 87), .app 2 16 (.t 83) (.t 86), none⟩,
  ⟨(some 88), .iadrS 2 (.t 77) (.t 78), none⟩,
  ⟨(some 89), .fadr 0 (.t 88), none⟩,
  ⟨none, .store 1 (.t 89) (.t 87), none⟩]
def r13_4 : List SOper := [
  ⟨(some 15), .mv (.t 6), none⟩,
  ⟨(some 16), .bin .add (.t 15) (.c (.one (.sc (.int .i64 1)))), none⟩,
  ⟨(some 6), .mv (.t 16), none⟩]
def l13_1 : SC := (.seq (.seq (.reg r13_3) (.cond (.t 14) .skip (.exit 0))) (.seq (.block 1 (.seq (.reg r13_5) (.seq (.seq (.reg r13_6) (.cond (.t 23) (.seq (.reg r13_7) (.exit 1)) .skip)) (.seq (.reg r13_8) (.seq (.reg r13_9) (.cond (.t 37) (.reg r13_10) (.seq (.reg r13_11) (.cond (.t 44) (.reg r13_12) (.seq (.reg r13_13) (.seq (.seq (.reg r13_14) (.block 2 (.loop l13_0))) (.reg r13_18))))))))))) (.reg r13_4)))
def r13_19 : List SOper := [
  ⟨(some 90), .mv (.t 5), none⟩,
  ⟨(some 4), .mv (.t 90), none⟩]
def c13 : SC := (.seq (.reg r13_0) (.seq (.reg r13_1) (.seq (.seq (.reg r13_2) (.block 0 (.loop l13_1))) (.seq (.reg r13_19) .ret))))
/-- limner/limnerref06.Flat -/
def F13 : SFun := ⟨91, c13, [.tmp 4]⟩

def r14_0 : List SOper := [
  ⟨(some 2), .mv (.c (.one (.sc (.int .i64 0)))), none⟩]
def r14_1 : List SOper := [
  ⟨(some 8), .mv (.t 0), none⟩,
  ⟨(some 9), .len (.t 8), none⟩,
  ⟨(some 10), .bin .gtr (.t 9) (.c (.one (.sc (.int .i64 4096)))), none⟩]
def r14_2 : List SOper := [
  ⟨(some 2), .mv (.c (.one (.sc (.int .i64 36)))), none⟩]
def r14_3 : List SOper := [
  ⟨(some 3), .mv (.c (.one (.sc (.bool false)))), none⟩]
def r14_4 : List SOper := [
  ⟨(some 11), .mv (.t 0), none⟩,
  ⟨(some 12), .len (.t 11), none⟩,
  ⟨(some 13), .mv (.c (.one (.sc (.int .i64 0)))), none⟩]
def r14_5 : List SOper := [
  ⟨(some 14), .bin .lss (.t 13) (.t 12), none⟩]
def r14_6 : List SOper := [
  ⟨(some 15), .iadrS 7 (.t 11) (.t 13), none⟩,
  ⟨(some 16), .loadA 7 (.t 15), none⟩,
  ⟨(some 5), .alloc [.sc (.int .i64 0), .sc (.int .i64 0), .sc (.int .i64 0), .sc (.int .i64 0), .sc (.int .i64 0), .sc (.int .i64 0), .sc (.int .i64 0)], none⟩,
  ⟨none, .store 7 (.t 5) (.t 16), none⟩]
def r14_7 : List SOper := [
  ⟨(some 17), .fadr 0 (.t 5), none⟩,
  ⟨(some 18), .load1 (.t 17), none⟩,
  ⟨(some 19), .bin .lss (.t 18) (.c (.one (.sc (.int .i64 1)))), none⟩,
  ⟨(some 20), .mv (.t 19), none⟩,
  ⟨(some 21), .fadr 0 (.t 5), (some (some 20, false))⟩,
  ⟨(some 22), .load1 (.t 21), (some (some 20, false))⟩,
  ⟨(some 23), .bin .gtr (.t 22) (.c (.one (.sc (.int .i64 5)))), (some (some 20, false))⟩,
  ⟨(some 24), .pick (.t 20) (.c (.one (.sc (.bool true)))) (.t 23), none⟩,
  ⟨(some 25), .mv (.t 24), none⟩,
  ⟨(some 26), .mv (.t 3), (some (some 25, false))⟩,
  ⟨(some 27), .un .not (.t 26), (some (some 25, false))⟩,
  ⟨(some 28), .mv (.t 27), (some (some 25, false))⟩,
  ⟨(some 29), .fadr 0 (.t 5), (some (some 28, true))⟩,
  ⟨(some 30), .load1 (.t 29), (some (some 28, true))⟩,
  ⟨(some 31), .bin .neq (.t 30) (.c (.one (.sc (.int .i64 1)))), (some (some 28, true))⟩,
  ⟨(some 32), .pick (.t 28) (.t 31) (.c (.one (.sc (.bool false)))), (some (some 25, false))⟩,
  ⟨(some 33), .pick (.t 25) (.c (.one (.sc (.bool true)))) (.t 32), none⟩]
def r14_8 : List SOper := [
  ⟨(some 2), .mv (.c (.one (.sc (.int .i64 33)))), none⟩]
def r14_9 : List SOper := [
  ⟨(some 34), .fadr 1 (.t 5), none⟩,
  ⟨(some 35), .loadA 6 (.t 34), none⟩,
  ⟨(some 36), .mv (.c (.one (.sc (.int .i64 0)))), none⟩]
def r14_10 : List SOper := [
  ⟨(some 37), .bin .lss (.t 36) (.c (.one (.sc (.int .i64 3)))), none⟩]
def r14_11 : List SOper := [
  ⟨(some 38), .mv (.t 36), none⟩,
  ⟨(some 39), .idxA 3 2 true (.t 35) (.t 36), none⟩,
  ⟨(some 7), .alloc [.sc (.int .i64 0), .sc (.int .i64 0)], none⟩,
  ⟨(some 6), .mv (.t 38), none⟩,
  ⟨none, .store 2 (.t 7) (.t 39), none⟩]
def r14_12 : List SOper := [
  ⟨(some 40), .mv (.t 6), none⟩,
  ⟨(some 41), .fadr 0 (.t 5), none⟩,
  ⟨(some 42), .load1 (.t 41), none⟩,
  ⟨(some 43), .call .t 15 [(.t 42)], none⟩,
  ⟨(some 44), .bin .geq (.t 40) (.t 43), none⟩,
  ⟨(some 45), .mv (.t 44), none⟩,
  ⟨(some 46), .loadA 2 (.t 7), (some (some 45, true))⟩,
  ⟨(some 47), .build [.sc (.int .i64 0), .sc (.int .i64 0)] [], (some (some 45, true))⟩,
  ⟨(some 48), .eqv [.i, .i] true (.t 46) (.t 47), (some (some 45, true))⟩,
  ⟨(some 49), .pick (.t 45) (.t 48) (.c (.one (.sc (.bool false)))), none⟩]
def r14_13 : List SOper := [
  ⟨(some 2), .mv (.c (.one (.sc (.int .i64 33)))), none⟩]
def r14_14 : List SOper := [
  ⟨(some 50), .bin .add (.t 36) (.c (.one (.sc (.int .i64 1)))), none⟩,
  ⟨(some 36), .mv (.t 50), none⟩]
def l14_0 : SC := (.seq (.reg r14_10) (.seq (.cond (.t 37) .skip (.exit 2)) (.seq (.block 3 (.seq (.reg r14_11) (.seq (.reg r14_12) (.cond (.t 49) (.seq (.reg r14_13) .ret) .skip)))) (.reg r14_14))))
def r14_15 : List SOper := [
  ⟨(some 51), .call .k 35 [(.t 5)], none⟩,
  ⟨(some 52), .call .q 38 [(.t 51), (.f 39)], none⟩]
def r14_16 : List SOper := [
  ⟨(some 2), .mv (.c (.one (.sc (.int .i64 30)))), none⟩]
def r14_17 : List SOper := [
  ⟨(some 53), .fadr 0 (.t 5), none⟩,
  ⟨(some 54), .load1 (.t 53), none⟩,
  ⟨(some 55), .bin .neq (.t 54) (.c (.one (.sc (.int .i64 5)))), none⟩,
  ⟨(some 3), .mv (.t 55), none⟩]
def r14_18 : List SOper := [
  ⟨(some 56), .bin .add (.t 13) (.c (.one (.sc (.int .i64 1)))), none⟩,
  ⟨(some 13), .mv (.t 56), none⟩]
def l14_1 : SC := (.seq (.reg r14_5) (.seq (.cond (.t 14) .skip (.exit 0)) (.seq (.block 1 (.seq (.reg r14_6) (.seq (.seq (.reg r14_7) (.cond (.t 33) (.seq (.reg r14_8) .ret) .skip)) (.seq (.seq (.reg r14_9) (.block 2 (.loop l14_0))) (.seq (.seq (.reg r14_15) (.cond (.t 52) (.seq (.reg r14_16) .ret) .skip)) (.reg r14_17)))))) (.reg r14_18))))
def r14_19 : List SOper := [
  ⟨(some 2), .mv (.c (.one (.sc (.int .i64 0)))), none⟩]
def c14 : SC := (.seq (.reg r14_0) (.seq (.seq (.reg r14_1) (.cond (.t 10) (.seq (.reg r14_2) .ret) .skip)) (.seq (.reg r14_3) (.seq (.seq (.reg r14_4) (.block 0 (.loop l14_1))) (.seq (.reg r14_19) .ret)))))
/-- limner/path.Check -/
def F14 : SFun := ⟨57, c14, [.tmp 2]⟩

def r15_0 : List SOper := [
  ⟨(some 2), .mv (.c (.one (.sc (.int .i64 0)))), none⟩]
def r15_1 : List SOper := [
  ⟨(some 3), .mv (.t 0), none⟩,
  ⟨(some 4), .bin .lss (.t 3) (.c (.one (.sc (.int .i64 1)))), none⟩,
  ⟨(some 5), .mv (.t 4), none⟩,
  ⟨(some 6), .mv (.t 0), (some (some 5, false))⟩,
  ⟨(some 7), .bin .gtr (.t 6) (.c (.one (.sc (.int .i64 5)))), (some (some 5, false))⟩,
  ⟨(some 8), .pick (.t 5) (.c (.one (.sc (.bool true)))) (.t 7), none⟩]
def r15_2 : List SOper := [
  ⟨(some 2), .mv (.c (.one (.sc (.int .i64 0)))), none⟩]
def r15_3 : List SOper := [
  ⟨(some 9), .mv (.t 0), none⟩,
  ⟨(some 10), .iadrA 6 1 (.g 0) (.t 9), none⟩,
  ⟨(some 11), .load1 (.t 10), none⟩,
  ⟨(some 2), .mv (.t 11), none⟩]
def c15 : SC := (.seq (.reg r15_0) (.seq (.seq (.reg r15_1) (.cond (.t 8) (.seq (.reg r15_2) .ret) .skip)) (.seq (.reg r15_3) .ret)))
/-- limner/path.Need -/
def F15 : SFun := ⟨12, c15, [.tmp 2]⟩

def r16_0 : List SOper := [
  ⟨(some 2), .mv (.c (.one (.sc (.int .i64 0)))), none⟩]
def r16_1 : List SOper := [
  ⟨(some 3), .mv (.t 0), none⟩,
  ⟨(some 4), .bin .eql (.t 3) (.c (.one (.sc (.int .i64 1)))), none⟩,
  ⟨(some 5), .mv (.t 4), none⟩,
  ⟨(some 6), .mv (.t 0), (some (some 5, false))⟩,
  ⟨(some 7), .bin .eql (.t 6) (.c (.one (.sc (.int .i64 2)))), (some (some 5, false))⟩,
  ⟨(some 8), .pick (.t 5) (.c (.one (.sc (.bool true)))) (.t 7), none⟩]
def r16_2 : List SOper := [
  ⟨(some 2), .mv (.c (.one (.sc (.int .i64 1)))), none⟩]
def r16_3 : List SOper := [
  ⟨(some 9), .mv (.t 0), none⟩,
  ⟨(some 10), .bin .eql (.t 9) (.c (.one (.sc (.int .i64 3)))), none⟩]
def r16_4 : List SOper := [
  ⟨(some 2), .mv (.c (.one (.sc (.int .i64 2)))), none⟩]
def r16_5 : List SOper := [
  ⟨(some 11), .mv (.t 0), none⟩,
  ⟨(some 12), .bin .eql (.t 11) (.c (.one (.sc (.int .i64 4)))), none⟩]
def r16_6 : List SOper := [
  ⟨(some 2), .mv (.c (.one (.sc (.int .i64 3)))), none⟩]
def r16_7 : List SOper := [
  ⟨(some 2), .mv (.c (.one (.sc (.int .i64 0)))), none⟩]
def c16 : SC := (.seq (.reg r16_0) (.seq (.seq (.reg r16_1) (.cond (.t 8) (.seq (.reg r16_2) .ret) .skip)) (.seq (.seq (.reg r16_3) (.cond (.t 10) (.seq (.reg r16_4) .ret) .skip)) (.seq (.seq (.reg r16_5) (.cond (.t 12) (.seq (.reg r16_6) .ret) .skip)) (.seq (.reg r16_7) .ret)))))
/-- limner/limnerref06.Need -/
def F16 : SFun := ⟨13, c16, [.tmp 2]⟩

def r17_0 : List SOper := [
  ⟨(some 4), .mv (.c (.one (.sc (.bool false)))), none⟩]
def r17_1 : List SOper := [
  ⟨(some 5), .mv (.t 0), none⟩,
  ⟨(some 6), .mv (.t 1), none⟩,
  ⟨(some 7), .call .q 41 [(.t 5), (.t 6)], none⟩,
  ⟨(some 4), .mv (.t 7), none⟩]
def c17 : SC := (.seq (.reg r17_0) (.seq (.reg r17_1) .ret))
/-- limner/path.Equal -/
def F17 : SFun := ⟨8, c17, [.tmp 4]⟩

def r20_0 : List SOper := [
  ⟨(some 6), .mv (.c (.one (.sc (.bool false)))), none⟩]
def r20_1 : List SOper := [
  ⟨(some 8), .mv (.t 2), none⟩,
  ⟨(some 9), .call .q 11 [(.t 8)], none⟩,
  ⟨(some 7), .mv (.t 9), none⟩]
def r20_2 : List SOper := [
  ⟨(some 10), .mv (.t 7), none⟩,
  ⟨(some 11), .bin .neq (.t 10) (.c (.one (.sc (.int .i64 0)))), none⟩]
def r20_3 : List SOper := [
  ⟨(some 12), .mv (.t 1), none⟩,
  ⟨(some 13), .mv (.t 7), none⟩,
  ⟨(some 14), .bin .eql (.t 12) (.t 13), none⟩,
  ⟨(some 15), .mv (.t 14), none⟩,
  ⟨(some 16), .mv (.t 0), (some (some 15, true))⟩,
  ⟨(some 17), .len (.t 16), (some (some 15, true))⟩,
  ⟨(some 18), .bin .eql (.t 17) (.c (.one (.sc (.int .i64 0)))), (some (some 15, true))⟩,
  ⟨(some 19), .pick (.t 15) (.t 18) (.c (.one (.sc (.bool false)))), none⟩,
  ⟨(some 6), .mv (.t 19), none⟩]
def r20_4 : List SOper := [
  ⟨(some 20), .mv (.t 1), none⟩,
  ⟨(some 21), .bin .eql (.t 20) (.c (.one (.sc (.int .i64 0)))), none⟩,
  ⟨(some 22), .mv (.t 21), none⟩,
  ⟨(some 23), .mv (.t 0), (some (some 22, true))⟩,
  ⟨(some 24), .mv (.t 2), (some (some 22, true))⟩,
  ⟨(some 25), .call .q 28 [(.t 23), (.t 24)], (some (some 22, true))⟩,
  ⟨(some 26), .pick (.t 22) (.t 25) (.c (.one (.sc (.bool false)))), none⟩,
  ⟨(some 6), .mv (.t 26), none⟩]
def c20 : SC := (.seq (.reg r20_0) (.seq (.reg r20_1) (.seq (.seq (.reg r20_2) (.cond (.t 11) (.seq (.reg r20_3) .ret) .skip)) (.seq (.reg r20_4) .ret))))
/-- limner/limnerlaw06.is -/
def F20 : SFun := ⟨27, c20, [.tmp 6]⟩

def r21_0 : List SOper := [
  ⟨(some 8), .mv (.c (.one (.sc (.slice none 0 0)))), none⟩]
def r21_1 : List SOper := [
  ⟨(some 9), .mv (.c (.one (.sc (.slice none 0 0)))), none⟩]
def r21_2 : List SOper := [
  ⟨(some 10), .mv (.c (.one (.sc (.int .i64 0)))), none⟩]
def r21_3 : List SOper := [
  ⟨(some 12), .mv (.t 10), none⟩,
  ⟨(some 13), .mv (.t 1), none⟩,
  ⟨(some 14), .bin .lss (.t 12) (.t 13), none⟩]
def r21_5 : List SOper := [
  ⟨(some 17), .mv (.t 9), none⟩,
  ⟨(some 18), .mv (.t 0), none⟩,
  ⟨(some 19), .mv (.t 10), none⟩,
  ⟨(some 20), .iadrS 7 (.t 18) (.t 19), none⟩,
  ⟨(some 21), .loadA 7 (.t 20), none⟩,
  ⟨(some 22), .bslice [.sc (.int .i64 0), .sc (.int .i64 0), .sc (.int .i64 0), .sc (.int .i64 0), .sc (.int .i64 0), .sc (.int .i64 0), .sc (.int .i64 0)] 1 7 [(0, 7, (.t 21))], none⟩,
  ⟨(some 23), .app 7 56 (.t 17) (.t 22), none⟩,
  ⟨(some 9), .mv (.t 23), none⟩]
def r21_4 : List SOper := [
  ⟨(some 15), .mv (.t 10), none⟩,
  ⟨(some 16), .bin .add (.t 15) (.c (.one (.sc (.int .i64 1)))), none⟩,
  ⟨(some 10), .mv (.t 16), none⟩]
def l21_0 : SC := (.seq (.seq (.reg r21_3) (.cond (.t 14) .skip (.exit 0))) (.seq (.block 1 (.reg r21_5)) (.reg r21_4)))
def r21_6 : List SOper := [
  ⟨(some 24), .mv (.t 9), none⟩,
  ⟨(some 25), .mv (.t 3), none⟩,
  ⟨(some 26), .app 7 56 (.t 24) (.t 25), none⟩,
  ⟨(some 9), .mv (.t 26), none⟩]
def r21_7 : List SOper := [
  ⟨(some 27), .mv (.t 1), none⟩,
  ⟨(some 28), .mv (.t 2), none⟩,
  ⟨(some 29), .bin .add (.t 27) (.t 28), none⟩,
  ⟨(some 11), .mv (.t 29), none⟩]
def r21_8 : List SOper := [
  ⟨(some 30), .mv (.t 11), none⟩,
  ⟨(some 31), .mv (.t 0), none⟩,
  ⟨(some 32), .len (.t 31), none⟩,
  ⟨(some 33), .bin .lss (.t 30) (.t 32), none⟩]
def r21_10 : List SOper := [
  ⟨(some 36), .mv (.t 9), none⟩,
  ⟨(some 37), .mv (.t 0), none⟩,
  ⟨(some 38), .mv (.t 11), none⟩,
  ⟨(some 39), .iadrS 7 (.t 37) (.t 38), none⟩,
  ⟨(some 40), .loadA 7 (.t 39), none⟩,
  ⟨(some 41), .bslice [.sc (.int .i64 0), .sc (.int .i64 0), .sc (.int .i64 0), .sc (.int .i64 0), .sc (.int .i64 0), .sc (.int .i64 0), .sc (.int .i64 0)] 1 7 [(0, 7, (.t 40))], none⟩,
  ⟨(some 42), .app 7 56 (.t 36) (.t 41), none⟩,
  ⟨(some 9), .mv (.t 42), none⟩]
def r21_9 : List SOper := [
  ⟨(some 34), .mv (.t 11), none⟩,
  ⟨(some 35), .bin .add (.t 34) (.c (.one (.sc (.int .i64 1)))), none⟩,
  ⟨(some 11), .mv (.t 35), none⟩]
def l21_1 : SC := (.seq (.seq (.reg r21_8) (.cond (.t 33) .skip (.exit 2))) (.seq (.block 3 (.reg r21_10)) (.reg r21_9)))
def r21_11 : List SOper := [
  ⟨(some 43), .mv (.t 9), none⟩,
  ⟨(some 8), .mv (.t 43), none⟩]
def c21 : SC := (.seq (.reg r21_0) (.seq (.reg r21_1) (.seq (.seq (.reg r21_2) (.block 0 (.loop l21_0))) (.seq (.reg r21_6) (.seq (.seq (.reg r21_7) (.block 2 (.loop l21_1))) (.seq (.reg r21_11) .ret))))))
/-- limner/limnerref06.With -/
def F21 : SFun := ⟨44, c21, [.tmp 8]⟩

def r22_0 : List SOper := [
  ⟨(some 4), .alloc [.sc (.int .i64 0), .sc (.int .i64 0)], none⟩]
def r22_1 : List SOper := [
  ⟨(some 6), .mv (.t 0), none⟩,
  ⟨(some 7), .mv (.t 1), none⟩,
  ⟨(some 8), .bin .sub (.t 7) (.c (.one (.sc (.int .i64 1)))), none⟩,
  ⟨(some 9), .iadrS 7 (.t 6) (.t 8), none⟩,
  ⟨(some 10), .fadr 0 (.t 9), none⟩,
  ⟨(some 11), .load1 (.t 10), none⟩,
  ⟨(some 12), .call (.z 1) 16 [(.t 11)], none⟩,
  ⟨(some 5), .mv (.t 12), none⟩]
def r22_2 : List SOper := [
  ⟨(some 13), .mv (.t 0), none⟩,
  ⟨(some 14), .mv (.t 1), none⟩,
  ⟨(some 15), .bin .sub (.t 14) (.c (.one (.sc (.int .i64 1)))), none⟩,
  ⟨(some 16), .mv (.t 5), none⟩,
  ⟨(some 17), .bin .sub (.t 16) (.c (.one (.sc (.int .i64 1)))), none⟩,
  ⟨(some 18), .iadrS 7 (.t 13) (.t 15), none⟩,
  ⟨(some 19), .fadr 1 (.t 18), none⟩,
  ⟨(some 20), .iadrA 3 2 (.t 19) (.t 17), none⟩,
  ⟨(some 21), .loadA 2 (.t 20), none⟩,
  ⟨none, .store 2 (.t 4) (.t 21), none⟩]
def c22 : SC := (.seq (.reg r22_0) (.seq (.reg r22_1) (.seq (.reg r22_2) .ret)))
/-- limner/limnerref06.From -/
def F22 : SFun := ⟨22, c22, [.cellA 4 2]⟩

def r23_0 : List SOper := [
  ⟨(some 3), .box (.t 1), none⟩,
  ⟨(some 4), .mv (.c (.one (.sc (.slice none 0 0)))), none⟩,
  ⟨(some 5), .mv (.c (.one (.sc (.int .i64 0)))), none⟩]
def r23_1 : List SOper := [
  ⟨(some 13), .mv (.t 0), none⟩,
  ⟨(some 14), .call .q 14 [(.t 13)], none⟩,
  ⟨(some 6), .mv (.t 14), none⟩]
def r23_2 : List SOper := [
  ⟨(some 15), .mv (.t 6), none⟩,
  ⟨(some 16), .bin .neq (.t 15) (.c (.one (.sc (.int .i64 0)))), none⟩]
def r23_3 : List SOper := [
  ⟨(some 17), .mv (.t 6), none⟩,
  ⟨(some 4), .mv (.c (.one (.sc (.slice none 0 0)))), none⟩,
  ⟨(some 5), .mv (.t 17), none⟩]
def r23_4 : List SOper := [
  ⟨(some 18), .loadA 6 (.t 3), none⟩,
  ⟨(some 19), .call (.z 1) 24 [(.t 18)], none⟩,
  ⟨(some 20), .un .not (.t 19), none⟩]
def r23_5 : List SOper := [
  ⟨(some 4), .mv (.c (.one (.sc (.slice none 0 0)))), none⟩,
  ⟨(some 5), .mv (.c (.one (.sc (.int .i64 10)))), none⟩]
def r23_6 : List SOper := [
  ⟨(some 21), .mv (.t 0), none⟩,
  ⟨(some 22), .call .k 48 [(.t 21)], none⟩,
  ⟨(some 7), .mv (.t 22), none⟩]
def r23_7 : List SOper := [
  ⟨(some 23), .mv (.t 7), none⟩,
  ⟨(some 24), .len (.t 23), none⟩,
  ⟨(some 25), .mv (.c (.one (.sc (.int .i64 0)))), none⟩]
def r23_8 : List SOper := [
  ⟨(some 26), .bin .lss (.t 25) (.t 24), none⟩]
def r23_9 : List SOper := [
  ⟨(some 27), .mv (.t 25), none⟩,
  ⟨(some 8), .mv (.t 27), none⟩]
def r23_10 : List SOper := [
  ⟨(some 28), .mv (.t 7), none⟩,
  ⟨(some 29), .mv (.t 8), none⟩,
  ⟨(some 30), .iadrS 7 (.t 28) (.t 29), none⟩,
  ⟨(some 31), .call .k 35 [(.t 30)], none⟩,
  ⟨(some 9), .mv (.t 31), none⟩]
def r23_11 : List SOper := [
  ⟨(some 32), .mv (.t 9), none⟩,
  ⟨(some 33), .len (.t 32), none⟩,
  ⟨(some 34), .mv (.c (.one (.sc (.int .i64 0)))), none⟩]
def r23_12 : List SOper := [
  ⟨(some 35), .bin .lss (.t 34) (.t 33), none⟩]
def r23_13 : List SOper := [
  ⟨(some 36), .mv (.t 34), none⟩,
  ⟨(some 10), .mv (.t 36), none⟩]
def r23_14 : List SOper := [
  ⟨(some 38), .loadA 6 (.t 3), none⟩,
  ⟨(some 39), .mv (.t 9), none⟩,
  ⟨(some 40), .mv (.t 10), none⟩,
  ⟨(some 41), .iadrS 2 (.t 39) (.t 40), none⟩,
  ⟨(some 42), .loadA 2 (.t 41), none⟩,
  ⟨(some 43), .call (.z 1) 25 [(.t 38), (.t 42)], none⟩,
  ⟨(some 37), .mv (.t 43), none⟩,
  ⟨(some 44), .ext (.t 37) 0, none⟩,
  ⟨(some 45), .ext (.t 37) 1, none⟩,
  ⟨(some 11), .alloc [.sc (.int .i64 0), .sc (.int .i64 0)], none⟩,
  ⟨none, .store 2 (.t 11) (.t 44), none⟩,
  ⟨(some 12), .mv (.t 45), none⟩]
def r23_15 : List SOper := [
  ⟨(some 46), .mv (.t 12), none⟩,
  ⟨(some 47), .bin .neq (.t 46) (.c (.one (.sc (.int .i64 0)))), none⟩]
def r23_16 : List SOper := [
  ⟨(some 48), .mv (.t 12), none⟩,
  ⟨(some 4), .mv (.c (.one (.sc (.slice none 0 0)))), none⟩,
  ⟨(some 5), .mv (.t 48), none⟩]
def r23_17 : List SOper := [
  ⟨(some 49), .mv (.t 9), none⟩,
  ⟨(some 50), .mv (.t 10), none⟩,
  ⟨(some 51), .loadA 2 (.t 11), none⟩,
  ⟨(some 52), .iadrS 2 (.t 49) (.t 50), none⟩,
  ⟨none, .store 2 (.t 52) (.t 51), none⟩]
def r23_18 : List SOper := [
  ⟨(some 53), .bin .add (.t 34) (.c (.one (.sc (.int .i64 1)))), none⟩,
  ⟨(some 34), .mv (.t 53), none⟩]
def l23_0 : SC := (.seq (.reg r23_12) (.seq (.cond (.t 35) .skip (.exit 2)) (.seq (.block 3 (.seq (.reg r23_13) (.seq (.reg r23_14) (.seq (.seq (.reg r23_15) (.cond (.t 47) (.seq (.reg r23_16) .ret) .skip)) (.reg r23_17))))) (.reg r23_18))))
def r23_19 : List SOper := [
  ⟨(some 54), .bin .add (.t 25) (.c (.one (.sc (.int .i64 1)))), none⟩,
  ⟨(some 25), .mv (.t 54), none⟩]
def l23_1 : SC := (.seq (.reg r23_8) (.seq (.cond (.t 26) .skip (.exit 0)) (.seq (.block 1 (.seq (.reg r23_9) (.seq (.reg r23_10) (.seq (.reg r23_11) (.block 2 (.loop l23_0)))))) (.reg r23_19))))
def r23_20 : List SOper := [
  ⟨(some 55), .mv (.t 7), none⟩,
  ⟨(some 4), .mv (.t 55), none⟩,
  ⟨(some 5), .mv (.c (.one (.sc (.int .i64 0)))), none⟩]
def c23 : SC := (.seq (.reg r23_0) (.seq (.seq (.reg r23_1) (.seq (.reg r23_2) (.cond (.t 16) (.seq (.reg r23_3) .ret) .skip))) (.seq (.seq (.reg r23_4) (.cond (.t 20) (.seq (.reg r23_5) .ret) .skip)) (.seq (.reg r23_6) (.seq (.seq (.reg r23_7) (.block 0 (.loop l23_1))) (.seq (.reg r23_20) .ret))))))
/-- limner/path.Apply -/
def F23 : SFun := ⟨56, c23, [.tmp 4, .tmp 5]⟩

def r24_0 : List SOper := [
  ⟨(some 1), .box (.t 0), none⟩,
  ⟨(some 2), .mv (.c (.one (.sc (.bool false)))), none⟩]
def r24_1 : List SOper := [
  ⟨(some 5), .fadr 0 (.t 1), none⟩,
  ⟨(some 6), .load1 (.t 5), none⟩,
  ⟨(some 7), .fadr 1 (.t 1), none⟩,
  ⟨(some 8), .load1 (.t 7), none⟩,
  ⟨(some 9), .fadr 2 (.t 1), none⟩,
  ⟨(some 10), .load1 (.t 9), none⟩,
  ⟨(some 11), .fadr 3 (.t 1), none⟩,
  ⟨(some 12), .load1 (.t 11), none⟩,
  ⟨(some 13), .build [.sc (.int .i64 0), .sc (.int .i64 0), .sc (.int .i64 0), .sc (.int .i64 0)] [(0, 1, (.t 6)), (1, 1, (.t 8)), (2, 1, (.t 10)), (3, 1, (.t 12))], none⟩,
  ⟨(some 14), .mv (.c (.one (.sc (.int .i64 0)))), none⟩]
def r24_2 : List SOper := [
  ⟨(some 15), .bin .lss (.t 14) (.c (.one (.sc (.int .i64 4)))), none⟩]
def r24_3 : List SOper := [
  ⟨(some 16), .idxA 4 1 false (.t 13) (.t 14), none⟩,
  ⟨(some 4), .mv (.t 16), none⟩]
def r24_4 : List SOper := [
  ⟨(some 17), .mv (.t 4), none⟩,
  ⟨(some 18), .bin .lss (.t 17) (.c (.one (.sc (.int .i64 (-16777216))))), none⟩,
  ⟨(some 19), .mv (.t 18), none⟩,
  ⟨(some 20), .mv (.t 4), (some (some 19, false))⟩,
  ⟨(some 21), .bin .gtr (.t 20) (.c (.one (.sc (.int .i64 16777216)))), (some (some 19, false))⟩,
  ⟨(some 22), .pick (.t 19) (.c (.one (.sc (.bool true)))) (.t 21), none⟩]
def r24_5 : List SOper := [
  ⟨(some 2), .mv (.c (.one (.sc (.bool false)))), none⟩]
def r24_6 : List SOper := [
  ⟨(some 23), .bin .add (.t 14) (.c (.one (.sc (.int .i64 1)))), none⟩,
  ⟨(some 14), .mv (.t 23), none⟩]
def l24_0 : SC := (.seq (.reg r24_2) (.seq (.cond (.t 15) .skip (.exit 0)) (.seq (.block 1 (.seq (.reg r24_3) (.seq (.reg r24_4) (.cond (.t 22) (.seq (.reg r24_5) .ret) .skip)))) (.reg r24_6))))
def r24_7 : List SOper := [
  ⟨(some 24), .fadr 4 (.t 1), none⟩,
  ⟨(some 25), .load1 (.t 24), none⟩,
  ⟨(some 26), .call (.z 1) 49 [(.t 25)], none⟩,
  ⟨(some 27), .mv (.t 26), none⟩,
  ⟨(some 28), .fadr 5 (.t 1), (some (some 27, true))⟩,
  ⟨(some 29), .load1 (.t 28), (some (some 27, true))⟩,
  ⟨(some 30), .call (.z 1) 49 [(.t 29)], (some (some 27, true))⟩,
  ⟨(some 31), .pick (.t 27) (.t 30) (.c (.one (.sc (.bool false)))), none⟩,
  ⟨(some 2), .mv (.t 31), none⟩]
def c24 : SC := (.seq (.reg r24_0) (.seq (.seq (.reg r24_1) (.block 0 (.loop l24_0))) (.seq (.reg r24_7) .ret)))
/-- (limner/affine.Matrix).Right -/
def F24 : SFun := ⟨32, c24, [.tmp 2]⟩

def r25_0 : List SOper := [
  ⟨(some 2), .box (.t 0), none⟩,
  ⟨(some 3), .box (.t 1), none⟩,
  ⟨(some 4), .alloc [.sc (.int .i64 0), .sc (.int .i64 0)], none⟩,
  ⟨(some 5), .mv (.c (.one (.sc (.int .i64 0)))), none⟩]
def r25_1 : List SOper := [
  ⟨(some 7), .loadA 6 (.t 2), none⟩,
  ⟨(some 8), .call (.z 1) 24 [(.t 7)], none⟩,
  ⟨(some 9), .un .not (.t 8), none⟩,
  ⟨(some 10), .mv (.t 9), none⟩,
  ⟨(some 11), .loadA 2 (.t 3), (some (some 10, false))⟩,
  ⟨(some 12), .call (.z 1) 40 [(.t 11)], (some (some 10, false))⟩,
  ⟨(some 13), .un .not (.t 12), (some (some 10, false))⟩,
  ⟨(some 14), .pick (.t 10) (.c (.one (.sc (.bool true)))) (.t 13), none⟩]
def r25_2 : List SOper := [
  ⟨(some 15), .build [.sc (.int .i64 0), .sc (.int .i64 0)] [], none⟩,
  ⟨none, .store 2 (.t 4) (.t 15), none⟩,
  ⟨(some 5), .mv (.c (.one (.sc (.int .i64 10)))), none⟩]
def r25_3 : List SOper := [
  ⟨(some 16), .fadr 0 (.t 2), none⟩,
  ⟨(some 17), .load1 (.t 16), none⟩,
  ⟨(some 18), .fadr 0 (.t 3), none⟩,
  ⟨(some 19), .load1 (.t 18), none⟩,
  ⟨(some 20), .fadr 2 (.t 2), none⟩,
  ⟨(some 21), .load1 (.t 20), none⟩,
  ⟨(some 22), .fadr 1 (.t 3), none⟩,
  ⟨(some 23), .load1 (.t 22), none⟩,
  ⟨(some 24), .call (.z 1) 50 [(.t 17), (.t 19), (.t 21), (.t 23)], none⟩,
  ⟨(some 25), .fadr 4 (.t 2), none⟩,
  ⟨(some 26), .load1 (.t 25), none⟩,
  ⟨(some 27), .bin .add (.t 24) (.t 26), none⟩,
  ⟨(some 28), .fadr 1 (.t 2), none⟩,
  ⟨(some 29), .load1 (.t 28), none⟩,
  ⟨(some 30), .fadr 0 (.t 3), none⟩,
  ⟨(some 31), .load1 (.t 30), none⟩,
  ⟨(some 32), .fadr 3 (.t 2), none⟩,
  ⟨(some 33), .load1 (.t 32), none⟩,
  ⟨(some 34), .fadr 1 (.t 3), none⟩,
  ⟨(some 35), .load1 (.t 34), none⟩,
  ⟨(some 36), .call (.z 1) 50 [(.t 29), (.t 31), (.t 33), (.t 35)], none⟩,
  ⟨(some 37), .fadr 5 (.t 2), none⟩,
  ⟨(some 38), .load1 (.t 37), none⟩,
  ⟨(some 39), .bin .add (.t 36) (.t 38), none⟩,
  ⟨(some 40), .build [.sc (.int .i64 0), .sc (.int .i64 0)] [(0, 1, (.t 27)), (1, 1, (.t 39))], none⟩,
  ⟨(some 6), .alloc [.sc (.int .i64 0), .sc (.int .i64 0)], none⟩,
  ⟨none, .store 2 (.t 6) (.t 40), none⟩]
def r25_4 : List SOper := [
  ⟨(some 41), .loadA 2 (.t 6), none⟩,
  ⟨(some 42), .call (.z 1) 40 [(.t 41)], none⟩,
  ⟨(some 43), .un .not (.t 42), none⟩]
def r25_5 : List SOper := [
  ⟨(some 44), .build [.sc (.int .i64 0), .sc (.int .i64 0)] [], none⟩,
  ⟨none, .store 2 (.t 4) (.t 44), none⟩,
  ⟨(some 5), .mv (.c (.one (.sc (.int .i64 10)))), none⟩]
def r25_6 : List SOper := [
  ⟨(some 45), .loadA 2 (.t 6), none⟩,
  ⟨none, .store 2 (.t 4) (.t 45), none⟩,
  ⟨(some 5), .mv (.c (.one (.sc (.int .i64 0)))), none⟩]
def c25 : SC := (.seq (.reg r25_0) (.seq (.seq (.reg r25_1) (.cond (.t 14) (.seq (.reg r25_2) .ret) .skip)) (.seq (.reg r25_3) (.seq (.seq (.reg r25_4) (.cond (.t 43) (.seq (.reg r25_5) .ret) .skip)) (.seq (.reg r25_6) .ret)))))
/-- (limner/affine.Matrix).Apply -/
def F25 : SFun := ⟨46, c25, [.cellA 4 2, .tmp 5]⟩

def r26_0 : List SOper := [
  ⟨(some 2), .alloc [.sc (.int .i64 0), .sc (.int .i64 0), .sc (.int .i64 0), .sc (.int .i64 0)], none⟩]
def r26_1 : List SOper := [
  ⟨(some 3), .mv (.c (.one (.sc (.slice none 0 0)))), none⟩]
def r26_2 : List SOper := [
  ⟨(some 6), .mv (.t 0), none⟩,
  ⟨(some 7), .len (.t 6), none⟩,
  ⟨(some 8), .mv (.c (.one (.sc (.int .i64 0)))), none⟩]
def r26_3 : List SOper := [
  ⟨(some 9), .bin .lss (.t 8) (.t 7), none⟩]
def r26_4 : List SOper := [
  ⟨(some 10), .iadrS 7 (.t 6) (.t 8), none⟩,
  ⟨(some 11), .loadA 7 (.t 10), none⟩,
  ⟨(some 5), .alloc [.sc (.int .i64 0), .sc (.int .i64 0), .sc (.int .i64 0), .sc (.int .i64 0), .sc (.int .i64 0), .sc (.int .i64 0), .sc (.int .i64 0)], none⟩,
  ⟨none, .store 7 (.t 5) (.t 11), none⟩]
def r26_5 : List SOper := [
  ⟨(some 12), .mv (.t 3), none⟩,
  ⟨(some 13), .call .k 35 [(.t 5)], none⟩,
  ⟨(some 14), .app 2 16 (.t 12) (.t 13), none⟩,
  ⟨(some 3), .mv (.t 14), none⟩]
def r26_6 : List SOper := [
  ⟨(some 15), .bin .add (.t 8) (.c (.one (.sc (.int .i64 1)))), none⟩,
  ⟨(some 8), .mv (.t 15), none⟩]
def l26_0 : SC := (.seq (.reg r26_3) (.seq (.cond (.t 9) .skip (.exit 0)) (.seq (.block 1 (.seq (.reg r26_4) (.reg r26_5))) (.reg r26_6))))
def r26_7 : List SOper := [
  ⟨(some 16), .mv (.t 3), none⟩,
  ⟨(some 17), .call .q 27 [(.t 16)], none⟩,
  ⟨none, .store 4 (.t 2) (.t 17), none⟩]
def c26 : SC := (.seq (.reg r26_0) (.seq (.reg r26_1) (.seq (.seq (.reg r26_2) (.block 0 (.loop l26_0))) (.seq (.reg r26_7) .ret))))
/-- limner/path.Bound -/
def F26 : SFun := ⟨18, c26, [.cellA 2 4]⟩

def r27_0 : List SOper := [
  ⟨(some 2), .alloc [.sc (.int .i64 0), .sc (.int .i64 0), .sc (.int .i64 0), .sc (.int .i64 0)], none⟩]
def r27_1 : List SOper := [
  ⟨(some 3), .alloc [.sc (.int .i64 0), .sc (.int .i64 0), .sc (.int .i64 0), .sc (.int .i64 0)], none⟩]
def r27_2 : List SOper := [
  ⟨(some 6), .mv (.t 0), none⟩,
  ⟨(some 7), .len (.t 6), none⟩,
  ⟨(some 8), .mv (.c (.one (.sc (.int .i64 0)))), none⟩]
def r27_3 : List SOper := [
  ⟨(some 9), .bin .lss (.t 8) (.t 7), none⟩]
def r27_4 : List SOper := [
  ⟨(some 10), .iadrS 2 (.t 6) (.t 8), none⟩,
  ⟨(some 11), .loadA 2 (.t 10), none⟩,
  ⟨(some 5), .alloc [.sc (.int .i64 0), .sc (.int .i64 0)], none⟩,
  ⟨none, .store 2 (.t 5) (.t 11), none⟩]
def r27_5 : List SOper := [
  ⟨(some 12), .loadA 4 (.t 3), none⟩,
  ⟨(some 13), .fadr 0 (.t 5), none⟩,
  ⟨(some 14), .load1 (.t 13), none⟩,
  ⟨(some 15), .fadr 1 (.t 5), none⟩,
  ⟨(some 16), .load1 (.t 15), none⟩,
  ⟨(some 17), .fadr 0 (.t 5), none⟩,
  ⟨(some 18), .load1 (.t 17), none⟩,
  ⟨(some 19), .bin .add (.t 18) (.c (.one (.sc (.int .i64 1)))), none⟩,
  ⟨(some 20), .fadr 1 (.t 5), none⟩,
  ⟨(some 21), .load1 (.t 20), none⟩,
  ⟨(some 22), .bin .add (.t 21) (.c (.one (.sc (.int .i64 1)))), none⟩,
  ⟨(some 23), .build [.sc (.int .i64 0), .sc (.int .i64 0), .sc (.int .i64 0), .sc (.int .i64 0)] [(0, 1, (.t 14)), (1, 1, (.t 16)), (2, 1, (.t 19)), (3, 1, (.t 22))], none⟩,
  ⟨(some 24), .call (.z 1) 51 [(.t 12), (.t 23)], none⟩,
  ⟨none, .store 4 (.t 3) (.t 24), none⟩]
def r27_6 : List SOper := [
  ⟨(some 25), .bin .add (.t 8) (.c (.one (.sc (.int .i64 1)))), none⟩,
  ⟨(some 8), .mv (.t 25), none⟩]
def l27_0 : SC := (.seq (.reg r27_3) (.seq (.cond (.t 9) .skip (.exit 0)) (.seq (.block 1 (.seq (.reg r27_4) (.reg r27_5))) (.reg r27_6))))
def r27_7 : List SOper := [
  ⟨(some 26), .loadA 4 (.t 3), none⟩,
  ⟨none, .store 4 (.t 2) (.t 26), none⟩]
def c27 : SC := (.seq (.reg r27_0) (.seq (.reg r27_1) (.seq (.seq (.reg r27_2) (.block 0 (.loop l27_0))) (.seq (.reg r27_7) .ret))))
/-- limner/geom.Bound -/
def F27 : SFun := ⟨27, c27, [.cellA 2 4]⟩

def r28_0 : List SOper := [
  ⟨(some 4), .mv (.c (.one (.sc (.bool false)))), none⟩]
def r28_1 : List SOper := [
  ⟨(some 7), .mv (.t 0), none⟩,
  ⟨(some 8), .call .k 12 [(.t 7)], none⟩,
  ⟨(some 5), .mv (.t 8), none⟩]
def r28_2 : List SOper := [
  ⟨(some 9), .mv (.t 1), none⟩,
  ⟨(some 10), .len (.t 9), none⟩,
  ⟨(some 11), .mv (.t 5), none⟩,
  ⟨(some 12), .len (.t 11), none⟩,
  ⟨(some 13), .bin .neq (.t 10) (.t 12), none⟩]
def r28_3 : List SOper := [
  ⟨(some 4), .mv (.c (.one (.sc (.bool false)))), none⟩]
def r28_4 : List SOper := [
  ⟨(some 14), .mv (.t 1), none⟩,
  ⟨(some 15), .len (.t 14), none⟩,
  ⟨(some 16), .mv (.c (.one (.sc (.int .i64 0)))), none⟩]
def r28_5 : List SOper := [
  ⟨(some 17), .bin .lss (.t 16) (.t 15), none⟩]
def r28_6 : List SOper := [
  ⟨(some 18), .mv (.t 16), none⟩,
  ⟨(some 6), .mv (.t 18), none⟩]
def r28_7 : List SOper := [
  ⟨(some 19), .mv (.t 1), none⟩,
  ⟨(some 20), .mv (.t 6), none⟩,
  ⟨(some 21), .iadrS 7 (.t 19) (.t 20), none⟩,
  ⟨(some 22), .loadA 7 (.t 21), none⟩,
  ⟨(some 23), .mv (.t 5), none⟩,
  ⟨(some 24), .mv (.t 6), none⟩,
  ⟨(some 25), .iadrS 7 (.t 23) (.t 24), none⟩,
  ⟨(some 26), .loadA 7 (.t 25), none⟩,
  ⟨(some 27), .eqv [.i, .i, .i, .i, .i, .i, .i] true (.t 22) (.t 26), none⟩]
def r28_8 : List SOper := [
  ⟨(some 4), .mv (.c (.one (.sc (.bool false)))), none⟩]
def r28_9 : List SOper := [
  ⟨(some 28), .bin .add (.t 16) (.c (.one (.sc (.int .i64 1)))), none⟩,
  ⟨(some 16), .mv (.t 28), none⟩]
def l28_0 : SC := (.seq (.reg r28_5) (.seq (.cond (.t 17) .skip (.exit 0)) (.seq (.block 1 (.seq (.reg r28_6) (.seq (.reg r28_7) (.cond (.t 27) (.seq (.reg r28_8) .ret) .skip)))) (.reg r28_9))))
def r28_10 : List SOper := [
  ⟨(some 4), .mv (.c (.one (.sc (.bool true)))), none⟩]
def c28 : SC := (.seq (.reg r28_0) (.seq (.reg r28_1) (.seq (.seq (.reg r28_2) (.cond (.t 13) (.seq (.reg r28_3) .ret) .skip)) (.seq (.seq (.reg r28_4) (.block 0 (.loop l28_0))) (.seq (.reg r28_10) .ret)))))
/-- limner/limnerlaw06.same -/
def F28 : SFun := ⟨29, c28, [.tmp 4]⟩

def r29_0 : List SOper := [
  ⟨(some 7), .box (.t 3), none⟩,
  ⟨(some 8), .mv (.c (.one (.sc (.slice none 0 0)))), none⟩,
  ⟨(some 9), .mv (.c (.one (.sc (.int .i64 0)))), none⟩]
def r29_1 : List SOper := [
  ⟨(some 12), .mv (.t 0), none⟩,
  ⟨(some 13), .mv (.t 1), none⟩,
  ⟨(some 14), .call .q 42 [(.t 12), (.t 13)], none⟩,
  ⟨(some 10), .mv (.t 14), none⟩]
def r29_2 : List SOper := [
  ⟨(some 15), .mv (.t 10), none⟩,
  ⟨(some 16), .bin .neq (.t 15) (.c (.one (.sc (.int .i64 0)))), none⟩]
def r29_3 : List SOper := [
  ⟨(some 17), .mv (.t 10), none⟩,
  ⟨(some 8), .mv (.c (.one (.sc (.slice none 0 0)))), none⟩,
  ⟨(some 9), .mv (.t 17), none⟩]
def r29_4 : List SOper := [
  ⟨(some 18), .mv (.t 2), none⟩,
  ⟨(some 19), .bin .lss (.t 18) (.c (.one (.sc (.int .i64 0)))), none⟩,
  ⟨(some 20), .mv (.t 19), none⟩,
  ⟨(some 21), .mv (.t 2), (some (some 20, false))⟩,
  ⟨(some 22), .mv (.t 0), (some (some 20, false))⟩,
  ⟨(some 23), .mv (.t 1), (some (some 20, false))⟩,
  ⟨(some 24), .iadrS 7 (.t 22) (.t 23), (some (some 20, false))⟩,
  ⟨(some 25), .fadr 0 (.t 24), (some (some 20, false))⟩,
  ⟨(some 26), .load1 (.t 25), (some (some 20, false))⟩,
  ⟨(some 27), .call .t 15 [(.t 26)], (some (some 20, false))⟩,
  ⟨(some 28), .bin .geq (.t 21) (.t 27), (some (some 20, false))⟩,
  ⟨(some 29), .pick (.t 20) (.c (.one (.sc (.bool true)))) (.t 28), none⟩]
def r29_5 : List SOper := [
  ⟨(some 8), .mv (.c (.one (.sc (.slice none 0 0)))), none⟩,
  ⟨(some 9), .mv (.c (.one (.sc (.int .i64 30)))), none⟩]
def r29_6 : List SOper := [
  ⟨(some 30), .mv (.t 0), none⟩,
  ⟨(some 31), .call .k 48 [(.t 30)], none⟩,
  ⟨(some 11), .mv (.t 31), none⟩]
def r29_7 : List SOper := [
  ⟨(some 32), .mv (.t 11), none⟩,
  ⟨(some 33), .mv (.t 1), none⟩,
  ⟨(some 34), .mv (.t 2), none⟩,
  ⟨(some 35), .loadA 2 (.t 7), none⟩,
  ⟨(some 36), .iadrS 7 (.t 32) (.t 33), none⟩,
  ⟨(some 37), .fadr 1 (.t 36), none⟩,
  ⟨(some 38), .iadrA 3 2 (.t 37) (.t 34), none⟩,
  ⟨none, .store 2 (.t 38) (.t 35), none⟩]
def r29_8 : List SOper := [
  ⟨(some 39), .mv (.t 11), none⟩,
  ⟨(some 40), .call .k 52 [(.t 39)], none⟩,
  ⟨(some 41), .ext (.t 40) 0, none⟩,
  ⟨(some 42), .ext (.t 40) 1, none⟩,
  ⟨(some 8), .mv (.t 41), none⟩,
  ⟨(some 9), .mv (.t 42), none⟩]
def c29 : SC := (.seq (.reg r29_0) (.seq (.seq (.reg r29_1) (.seq (.reg r29_2) (.cond (.t 16) (.seq (.reg r29_3) .ret) .skip))) (.seq (.seq (.reg r29_4) (.cond (.t 29) (.seq (.reg r29_5) .ret) .skip)) (.seq (.reg r29_6) (.seq (.reg r29_7) (.seq (.reg r29_8) .ret))))))
/-- limner/path.Put -/
def F29 : SFun := ⟨43, c29, [.tmp 8, .tmp 9]⟩

def r30_0 : List SOper := [
  ⟨(some 5), .box (.t 2), none⟩,
  ⟨(some 6), .mv (.c (.one (.sc (.slice none 0 0)))), none⟩,
  ⟨(some 7), .mv (.c (.one (.sc (.int .i64 0)))), none⟩]
def r30_1 : List SOper := [
  ⟨(some 9), .mv (.t 0), none⟩,
  ⟨(some 10), .call .q 14 [(.t 9)], none⟩,
  ⟨(some 8), .mv (.t 10), none⟩]
def r30_2 : List SOper := [
  ⟨(some 11), .mv (.t 8), none⟩,
  ⟨(some 12), .bin .neq (.t 11) (.c (.one (.sc (.int .i64 0)))), none⟩]
def r30_3 : List SOper := [
  ⟨(some 13), .mv (.t 8), none⟩,
  ⟨(some 6), .mv (.c (.one (.sc (.slice none 0 0)))), none⟩,
  ⟨(some 7), .mv (.t 13), none⟩]
def r30_4 : List SOper := [
  ⟨(some 14), .mv (.t 1), none⟩,
  ⟨(some 15), .bin .lss (.t 14) (.c (.one (.sc (.int .i64 0)))), none⟩,
  ⟨(some 16), .mv (.t 15), none⟩,
  ⟨(some 17), .mv (.t 1), (some (some 16, false))⟩,
  ⟨(some 18), .mv (.t 0), (some (some 16, false))⟩,
  ⟨(some 19), .len (.t 18), (some (some 16, false))⟩,
  ⟨(some 20), .bin .gtr (.t 17) (.t 19), (some (some 16, false))⟩,
  ⟨(some 21), .pick (.t 16) (.c (.one (.sc (.bool true)))) (.t 20), none⟩]
def r30_5 : List SOper := [
  ⟨(some 6), .mv (.c (.one (.sc (.slice none 0 0)))), none⟩,
  ⟨(some 7), .mv (.c (.one (.sc (.int .i64 30)))), none⟩]
def r30_6 : List SOper := [
  ⟨(some 22), .mv (.t 0), none⟩,
  ⟨(some 23), .mv (.t 1), none⟩,
  ⟨(some 24), .slS 7 (.t 22) none (some (.t 23)) none, none⟩,
  ⟨(some 25), .loadA 7 (.t 5), none⟩,
  ⟨(some 26), .bslice [.sc (.int .i64 0), .sc (.int .i64 0), .sc (.int .i64 0), .sc (.int .i64 0), .sc (.int .i64 0), .sc (.int .i64 0), .sc (.int .i64 0)] 1 7 [(0, 7, (.t 25))], none⟩,
  ⟨(some 27), .mv (.t 0), none⟩,
  ⟨(some 28), .mv (.t 1), none⟩,
  ⟨(some 29), .slS 7 (.t 27) (some (.t 28)) none none, none⟩,
  ⟨(some 30), .bslice [.sc (.slice none 0 0), .sc (.slice none 0 0), .sc (.slice none 0 0)] 3 1 [(0, 1, (.t 24)), (1, 1, (.t 26)), (2, 1, (.t 29))], none⟩,
  ⟨(some 31), .call .k 45 [(.t 30)], none⟩,
  ⟨(some 32), .call .k 52 [(.t 31)], none⟩,
  ⟨(some 33), .ext (.t 32) 0, none⟩,
  ⟨(some 34), .ext (.t 32) 1, none⟩,
  ⟨(some 6), .mv (.t 33), none⟩,
  ⟨(some 7), .mv (.t 34), none⟩]
def c30 : SC := (.seq (.reg r30_0) (.seq (.seq (.reg r30_1) (.seq (.reg r30_2) (.cond (.t 12) (.seq (.reg r30_3) .ret) .skip))) (.seq (.seq (.reg r30_4) (.cond (.t 21) (.seq (.reg r30_5) .ret) .skip)) (.seq (.reg r30_6) .ret))))
/-- limner/path.Insert -/
def F30 : SFun := ⟨35, c30, [.tmp 6, .tmp 7]⟩

def r31_0 : List SOper := [
  ⟨(some 4), .mv (.c (.one (.sc (.slice none 0 0)))), none⟩,
  ⟨(some 5), .mv (.c (.one (.sc (.int .i64 0)))), none⟩]
def r31_1 : List SOper := [
  ⟨(some 7), .mv (.t 0), none⟩,
  ⟨(some 8), .mv (.t 1), none⟩,
  ⟨(some 9), .call .q 42 [(.t 7), (.t 8)], none⟩,
  ⟨(some 6), .mv (.t 9), none⟩]
def r31_2 : List SOper := [
  ⟨(some 10), .mv (.t 6), none⟩,
  ⟨(some 11), .bin .neq (.t 10) (.c (.one (.sc (.int .i64 0)))), none⟩]
def r31_3 : List SOper := [
  ⟨(some 12), .mv (.t 6), none⟩,
  ⟨(some 4), .mv (.c (.one (.sc (.slice none 0 0)))), none⟩,
  ⟨(some 5), .mv (.t 12), none⟩]
def r31_4 : List SOper := [
  ⟨(some 13), .mv (.t 0), none⟩,
  ⟨(some 14), .mv (.t 1), none⟩,
  ⟨(some 15), .slS 7 (.t 13) none (some (.t 14)) none, none⟩,
  ⟨(some 16), .mv (.t 0), none⟩,
  ⟨(some 17), .mv (.t 1), none⟩,
  ⟨(some 18), .bin .add (.t 17) (.c (.one (.sc (.int .i64 1)))), none⟩,
  ⟨(some 19), .slS 7 (.t 16) (some (.t 18)) none none, none⟩,
  ⟨(some 20), .bslice [.sc (.slice none 0 0), .sc (.slice none 0 0)] 2 1 [(0, 1, (.t 15)), (1, 1, (.t 19))], none⟩,
  ⟨(some 21), .call .k 45 [(.t 20)], none⟩,
  ⟨(some 22), .call .k 52 [(.t 21)], none⟩,
  ⟨(some 23), .ext (.t 22) 0, none⟩,
  ⟨(some 24), .ext (.t 22) 1, none⟩,
  ⟨(some 4), .mv (.t 23), none⟩,
  ⟨(some 5), .mv (.t 24), none⟩]
def c31 : SC := (.seq (.reg r31_0) (.seq (.seq (.reg r31_1) (.seq (.reg r31_2) (.cond (.t 11) (.seq (.reg r31_3) .ret) .skip))) (.seq (.reg r31_4) .ret)))
/-- limner/path.Delete -/
def F31 : SFun := ⟨25, c31, [.tmp 4, .tmp 5]⟩

def r32_0 : List SOper := [
  ⟨(some 6), .alloc [.sc (.int .i64 0), .sc (.int .i64 0), .sc (.int .i64 0), .sc (.int .i64 0), .sc (.int .i64 0), .sc (.int .i64 0), .sc (.int .i64 0)], none⟩]
def r32_1 : List SOper := [
  ⟨(some 7), .mv (.t 0), none⟩,
  ⟨(some 8), .mv (.t 1), none⟩,
  ⟨(some 9), .mv (.t 2), none⟩,
  ⟨(some 10), .build [.sc (.int .i64 0), .sc (.int .i64 0)] [(0, 1, (.t 8)), (1, 1, (.t 9))], none⟩,
  ⟨(some 11), .build [.sc (.int .i64 0), .sc (.int .i64 0), .sc (.int .i64 0), .sc (.int .i64 0), .sc (.int .i64 0), .sc (.int .i64 0)] [(0, 2, (.t 10))], none⟩,
  ⟨(some 12), .build [.sc (.int .i64 0), .sc (.int .i64 0), .sc (.int .i64 0), .sc (.int .i64 0), .sc (.int .i64 0), .sc (.int .i64 0), .sc (.int .i64 0)] [(0, 1, (.t 7)), (1, 6, (.t 11))], none⟩,
  ⟨none, .store 7 (.t 6) (.t 12), none⟩]
def c32 : SC := (.seq (.reg r32_0) (.seq (.reg r32_1) .ret))
/-- limner/limnerlaw06.seg -/
def F32 : SFun := ⟨13, c32, [.cellA 6 7]⟩

def r33_0 : List SOper := [
  ⟨(some 1), .box (.t 0), none⟩,
  ⟨(some 2), .mv (.c (.one (.sc .nilFunc))), none⟩]
def r33_1 : List SOper := [
  ⟨(some 3), .mkfn 53 [(.t 1)], none⟩,
  ⟨(some 2), .mv (.t 3), none⟩]
def c33 : SC := (.seq (.reg r33_0) (.seq (.reg r33_1) .ret))
/-- limner/path.walk -/
def F33 : SFun := ⟨4, c33, [.tmp 2]⟩

def r34_0 : List SOper := [
  ⟨(some 4), .mv (.c (.one (.sc (.slice none 0 0)))), none⟩,
  ⟨(some 5), .mv (.c (.one (.sc (.int .i64 0)))), none⟩]
def r34_1 : List SOper := [
  ⟨(some 12), .mv (.t 0), none⟩,
  ⟨(some 13), .call .q 54 [(.t 12)], none⟩,
  ⟨(some 6), .mv (.t 13), none⟩]
def r34_2 : List SOper := [
  ⟨(some 14), .mv (.t 6), none⟩,
  ⟨(some 15), .bin .neq (.t 14) (.c (.one (.sc (.int .i64 0)))), none⟩]
def r34_3 : List SOper := [
  ⟨(some 16), .mv (.t 6), none⟩,
  ⟨(some 4), .mv (.c (.one (.sc (.slice none 0 0)))), none⟩,
  ⟨(some 5), .mv (.t 16), none⟩]
def r34_4 : List SOper := [
  ⟨(some 17), .mv (.t 1), none⟩,
  ⟨(some 18), .bin .lss (.t 17) (.c (.one (.sc (.int .i64 0)))), none⟩,
  ⟨(some 19), .mv (.t 18), none⟩,
  ⟨(some 20), .mv (.t 1), (some (some 19, false))⟩,
  ⟨(some 21), .bin .gtr (.t 20) (.c (.one (.sc (.int .i64 6)))), (some (some 19, false))⟩,
  ⟨(some 22), .pick (.t 19) (.c (.one (.sc (.bool true)))) (.t 21), none⟩]
def r34_5 : List SOper := [
  ⟨(some 4), .mv (.c (.one (.sc (.slice none 0 0)))), none⟩,
  ⟨(some 5), .mv (.c (.one (.sc (.int .i64 30)))), none⟩]
def r34_6 : List SOper := [
  ⟨(some 7), .mv (.c (.one (.sc (.slice none 0 0)))), none⟩]
def r34_7 : List SOper := [
  ⟨(some 23), .mv (.t 0), none⟩,
  ⟨(some 24), .call .q 55 [(.t 23)], none⟩,
  ⟨(some 25), .mv (.t 1), none⟩,
  ⟨(some 26), .build (List.replicate 10 (.sc (.int .i64 0))) [(0, 9, (.t 24)), (9, 1, (.t 25))], none⟩,
  ⟨(some 27), .bslice (List.replicate 10 (.sc (.int .i64 0))) 1 10 [(0, 10, (.t 26))], none⟩,
  ⟨(some 8), .mv (.t 27), none⟩]
def r34_8 : List SOper := [
  ⟨(some 28), .mv (.t 8), none⟩,
  ⟨(some 29), .len (.t 28), none⟩,
  ⟨(some 30), .bin .gtr (.t 29) (.c (.one (.sc (.int .i64 0)))), none⟩]
def r34_9 : List SOper := [
  ⟨(some 31), .mv (.t 8), none⟩,
  ⟨(some 32), .mv (.t 8), none⟩,
  ⟨(some 33), .len (.t 32), none⟩,
  ⟨(some 34), .bin .sub (.t 33) (.c (.one (.sc (.int .i64 1)))), none⟩,
  ⟨(some 35), .iadrS 10 (.t 31) (.t 34), none⟩,
  ⟨(some 36), .loadA 10 (.t 35), none⟩,
  ⟨(some 9), .alloc (List.replicate 10 (.sc (.int .i64 0))), none⟩,
  ⟨none, .store 10 (.t 9) (.t 36), none⟩]
def r34_10 : List SOper := [
  ⟨(some 37), .mv (.t 8), none⟩,
  ⟨(some 38), .mv (.t 8), none⟩,
  ⟨(some 39), .len (.t 38), none⟩,
  ⟨(some 40), .bin .sub (.t 39) (.c (.one (.sc (.int .i64 1)))), none⟩,
  ⟨(some 41), .slS 10 (.t 37) none (some (.t 40)) none, none⟩,
  ⟨(some 8), .mv (.t 41), none⟩]
def r34_11 : List SOper := [
  ⟨(some 42), .fadr 9 (.t 9), none⟩,
  ⟨(some 43), .load1 (.t 42), none⟩,
  ⟨(some 44), .bin .eql (.t 43) (.c (.one (.sc (.int .i64 0)))), none⟩]
def r34_12 : List SOper := [
  ⟨(some 45), .mv (.t 7), none⟩,
  ⟨(some 46), .fadr 0 (.t 9), none⟩,
  ⟨(some 47), .fadr 8 (.t 46), none⟩,
  ⟨(some 48), .load1 (.t 47), none⟩,
  ⟨(some 49), .bin .sub (.t 48) (.c (.one (.sc (.int .i64 1)))), none⟩,
  ⟨(some 50), .fadr 0 (.t 9), none⟩,
  ⟨(some 51), .fadr 0 (.t 50), none⟩,
  ⟨(some 52), .iadrA 4 2 (.t 51) (.t 49), none⟩,
  ⟨(some 53), .loadA 2 (.t 52), none⟩,
  ⟨(some 54), .bslice [.sc (.int .i64 0), .sc (.int .i64 0)] 1 2 [(0, 2, (.t 53))], none⟩,
  ⟨(some 55), .app 2 16 (.t 45) (.t 54), none⟩,
  ⟨(some 7), .mv (.t 55), none⟩]
def r34_13 : List SOper := [
  ⟨(some 57), .fadr 0 (.t 9), none⟩,
  ⟨(some 58), .loadA 9 (.t 57), none⟩,
  ⟨(some 59), .call (.z 1) 56 [(.t 58)], none⟩,
  ⟨(some 56), .mv (.t 59), none⟩,
  ⟨(some 60), .ext (.t 56) 0, none⟩,
  ⟨(some 61), .ext (.t 56) 1, none⟩,
  ⟨(some 10), .alloc (List.replicate 9 (.sc (.int .i64 0))), none⟩,
  ⟨(some 11), .alloc (List.replicate 9 (.sc (.int .i64 0))), none⟩,
  ⟨none, .store 9 (.t 10) (.t 60), none⟩,
  ⟨none, .store 9 (.t 11) (.t 61), none⟩]
def r34_14 : List SOper := [
  ⟨(some 62), .mv (.t 8), none⟩,
  ⟨(some 63), .loadA 9 (.t 11), none⟩,
  ⟨(some 64), .fadr 9 (.t 9), none⟩,
  ⟨(some 65), .load1 (.t 64), none⟩,
  ⟨(some 66), .bin .sub (.t 65) (.c (.one (.sc (.int .i64 1)))), none⟩,
  ⟨(some 67), .build (List.replicate 10 (.sc (.int .i64 0))) [(0, 9, (.t 63)), (9, 1, (.t 66))], none⟩,
  ⟨(some 68), .loadA 9 (.t 10), none⟩,
  ⟨(some 69), .fadr 9 (.t 9), none⟩,
  ⟨(some 70), .load1 (.t 69), none⟩,
  ⟨(some 71), .bin .sub (.t 70) (.c (.one (.sc (.int .i64 1)))), none⟩,
  ⟨(some 72), .build (List.replicate 10 (.sc (.int .i64 0))) [(0, 9, (.t 68)), (9, 1, (.t 71))], none⟩,
  ⟨(some 73), .bslice (List.replicate 20 (.sc (.int .i64 0))) 2 10 [(0, 10, (.t 67)), (10, 10, (.t 72))], none⟩,
  ⟨(some 74), .app 10 80 (.t 62) (.t 73), none⟩,
  ⟨(some 8), .mv (.t 74), none⟩]
def l34_0 : SC := (.seq (.seq (.reg r34_8) (.cond (.t 30) .skip (.exit 0))) (.block 1 (.seq (.reg r34_9) (.seq (.reg r34_10) (.seq (.seq (.reg r34_11) (.cond (.t 44) (.seq (.reg r34_12) (.exit 1)) .skip)) (.seq (.reg r34_13) (.reg r34_14)))))))
def r34_15 : List SOper := [
  ⟨(some 75), .mv (.t 7), none⟩,
  ⟨(some 4), .mv (.t 75), none⟩,
  ⟨(some 5), .mv (.c (.one (.sc (.int .i64 0)))), none⟩]
def c34 : SC := (.seq (.reg r34_0) (.seq (.seq (.reg r34_1) (.seq (.reg r34_2) (.cond (.t 15) (.seq (.reg r34_3) .ret) .skip))) (.seq (.seq (.reg r34_4) (.cond (.t 22) (.seq (.reg r34_5) .ret) .skip)) (.seq (.reg r34_6) (.seq (.reg r34_7) (.seq (.block 0 (.loop l34_0)) (.seq (.reg r34_15) .ret)))))))
/-- limner/curve.Flat -/
def F34 : SFun := ⟨76, c34, [.tmp 4, .tmp 5]⟩

def r35_0 : List SOper := [
  ⟨(some 2), .mv (.c (.one (.sc (.slice none 0 0)))), none⟩]
def r35_1 : List SOper := [
  ⟨(some 3), .mv (.t 0), none⟩,
  ⟨(some 4), .nilchk (.t 3), none⟩,
  ⟨(some 5), .fadr 1 (.t 4), none⟩,
  ⟨(some 6), .mv (.t 0), none⟩,
  ⟨(some 7), .nilchk (.t 6), none⟩,
  ⟨(some 8), .fadr 0 (.t 7), none⟩,
  ⟨(some 9), .load1 (.t 8), none⟩,
  ⟨(some 10), .call .t 15 [(.t 9)], none⟩,
  ⟨(some 11), .slA 3 2 (.t 5) none (some (.t 10)) none, none⟩,
  ⟨(some 2), .mv (.t 11), none⟩]
def c35 : SC := (.seq (.reg r35_0) (.seq (.reg r35_1) .ret))
/-- (*limner/path.Seg).points -/
def F35 : SFun := ⟨12, c35, [.tmp 2]⟩

def r36_0 : List SOper := [
  ⟨(some 2), .mv (.c (.one (.sc (.bool false)))), none⟩]
def r36_1 : List SOper := [
  ⟨(some 3), .mv (.t 0), none⟩,
  ⟨(some 4), .bin .geq (.t 3) (.c (.one (.sc (.int .i64 (-2147483648))))), none⟩,
  ⟨(some 5), .mv (.t 4), none⟩,
  ⟨(some 6), .mv (.t 0), (some (some 5, true))⟩,
  ⟨(some 7), .bin .leq (.t 6) (.c (.one (.sc (.int .i64 2147483648)))), (some (some 5, true))⟩,
  ⟨(some 8), .pick (.t 5) (.t 7) (.c (.one (.sc (.bool false)))), none⟩,
  ⟨(some 2), .mv (.t 8), none⟩]
def c36 : SC := (.seq (.reg r36_0) (.seq (.reg r36_1) .ret))
/-- limner/limnerref01.In -/
def F36 : SFun := ⟨9, c36, [.tmp 2]⟩

def r37_0 : List SOper := [
  ⟨(some 4), .mv (.c (.one (.sc (.slice none 0 0)))), none⟩]
def r37_1 : List SOper := [
  ⟨(some 7), .mv (.t 1), none⟩,
  ⟨(some 8), .bin .eql (.t 7) (.c (.one (.sc (.int .i64 0)))), none⟩]
def r37_2 : List SOper := [
  ⟨(some 9), .mv (.t 0), none⟩,
  ⟨(some 10), .mv (.t 0), none⟩,
  ⟨(some 11), .len (.t 10), none⟩,
  ⟨(some 12), .bin .sub (.t 11) (.c (.one (.sc (.int .i64 1)))), none⟩,
  ⟨(some 13), .iadrS 2 (.t 9) (.t 12), none⟩,
  ⟨(some 14), .loadA 2 (.t 13), none⟩,
  ⟨(some 15), .bslice [.sc (.int .i64 0), .sc (.int .i64 0)] 1 2 [(0, 2, (.t 14))], none⟩,
  ⟨(some 4), .mv (.t 15), none⟩]
def r37_3 : List SOper := [
  ⟨(some 17), .mv (.t 0), none⟩,
  ⟨(some 18), .call .k 47 [(.t 17)], none⟩,
  ⟨(some 16), .mv (.t 18), none⟩,
  ⟨(some 19), .ext (.t 16) 0, none⟩,
  ⟨(some 20), .ext (.t 16) 1, none⟩,
  ⟨(some 5), .mv (.t 19), none⟩,
  ⟨(some 6), .mv (.t 20), none⟩]
def r37_4 : List SOper := [
  ⟨(some 21), .mv (.t 5), none⟩,
  ⟨(some 22), .mv (.t 1), none⟩,
  ⟨(some 23), .bin .sub (.t 22) (.c (.one (.sc (.int .i64 1)))), none⟩,
  ⟨(some 24), .call .k 37 [(.t 21), (.t 23)], none⟩,
  ⟨(some 25), .mv (.t 6), none⟩,
  ⟨(some 26), .mv (.t 1), none⟩,
  ⟨(some 27), .bin .sub (.t 26) (.c (.one (.sc (.int .i64 1)))), none⟩,
  ⟨(some 28), .call .k 37 [(.t 25), (.t 27)], none⟩,
  ⟨(some 29), .app 2 16 (.t 24) (.t 28), none⟩,
  ⟨(some 4), .mv (.t 29), none⟩]
def c37 : SC := (.seq (.reg r37_0) (.seq (.seq (.reg r37_1) (.cond (.t 8) (.seq (.reg r37_2) .ret) .skip)) (.seq (.reg r37_3) (.seq (.reg r37_4) .ret))))
/-- limner/limnerref05.Flat -/
def F37 : SFun := ⟨30, c37, [.tmp 4]⟩

def r38_0 : List SOper := [
  ⟨(some 4), .mv (.c (.one (.sc (.bool false)))), none⟩]
def r38_1 : List SOper := [
  ⟨(some 5), .mv (.t 0), none⟩,
  ⟨(some 6), .mv (.t 1), none⟩,
  ⟨(some 7), .call .q 57 [(.t 5), (.t 6)], none⟩,
  ⟨(some 8), .bin .geq (.t 7) (.c (.one (.sc (.int .i64 0)))), none⟩,
  ⟨(some 4), .mv (.t 8), none⟩]
def c38 : SC := (.seq (.reg r38_0) (.seq (.reg r38_1) .ret))
/-- slices.ContainsFunc[[]limner/geom.Point,limner/geom.Point] -/
def F38 : SFun := ⟨9, c38, [.tmp 4]⟩

def r39_0 : List SOper := [
  ⟨(some 1), .box (.t 0), none⟩,
  ⟨(some 2), .mv (.c (.one (.sc (.bool false)))), none⟩]
def r39_1 : List SOper := [
  ⟨(some 3), .loadA 2 (.t 1), none⟩,
  ⟨(some 4), .call (.z 1) 40 [(.t 3)], none⟩,
  ⟨(some 5), .un .not (.t 4), none⟩,
  ⟨(some 2), .mv (.t 5), none⟩]
def c39 : SC := (.seq (.reg r39_0) (.seq (.reg r39_1) .ret))
/-- limner/path.Check$1 -/
def F39 : SFun := ⟨6, c39, [.tmp 2]⟩

def r40_0 : List SOper := [
  ⟨(some 1), .box (.t 0), none⟩,
  ⟨(some 2), .mv (.c (.one (.sc (.bool false)))), none⟩]
def r40_1 : List SOper := [
  ⟨(some 3), .fadr 0 (.t 1), none⟩,
  ⟨(some 4), .load1 (.t 3), none⟩,
  ⟨(some 5), .call (.z 1) 49 [(.t 4)], none⟩,
  ⟨(some 6), .mv (.t 5), none⟩,
  ⟨(some 7), .fadr 1 (.t 1), (some (some 6, true))⟩,
  ⟨(some 8), .load1 (.t 7), (some (some 6, true))⟩,
  ⟨(some 9), .call (.z 1) 49 [(.t 8)], (some (some 6, true))⟩,
  ⟨(some 10), .pick (.t 6) (.t 9) (.c (.one (.sc (.bool false)))), none⟩,
  ⟨(some 2), .mv (.t 10), none⟩]
def c40 : SC := (.seq (.reg r40_0) (.seq (.reg r40_1) .ret))
/-- (limner/geom.Point).In -/
def F40 : SFun := ⟨11, c40, [.tmp 2]⟩

def r41_0 : List SOper := [
  ⟨(some 4), .mv (.c (.one (.sc (.bool false)))), none⟩]
def r41_1 : List SOper := [
  ⟨(some 6), .mv (.t 0), none⟩,
  ⟨(some 7), .len (.t 6), none⟩,
  ⟨(some 8), .mv (.t 1), none⟩,
  ⟨(some 9), .len (.t 8), none⟩,
  ⟨(some 10), .bin .neq (.t 7) (.t 9), none⟩]
def r41_2 : List SOper := [
  ⟨(some 4), .mv (.c (.one (.sc (.bool false)))), none⟩]
def r41_3 : List SOper := [
  ⟨(some 11), .mv (.t 0), none⟩,
  ⟨(some 12), .len (.t 11), none⟩,
  ⟨(some 13), .mv (.c (.one (.sc (.int .i64 0)))), none⟩]
def r41_4 : List SOper := [
  ⟨(some 14), .bin .lss (.t 13) (.t 12), none⟩]
def r41_5 : List SOper := [
  ⟨(some 15), .mv (.t 13), none⟩,
  ⟨(some 5), .mv (.t 15), none⟩]
def r41_6 : List SOper := [
  ⟨(some 16), .mv (.t 0), none⟩,
  ⟨(some 17), .mv (.t 5), none⟩,
  ⟨(some 18), .iadrS 7 (.t 16) (.t 17), none⟩,
  ⟨(some 19), .loadA 7 (.t 18), none⟩,
  ⟨(some 20), .mv (.t 1), none⟩,
  ⟨(some 21), .mv (.t 5), none⟩,
  ⟨(some 22), .iadrS 7 (.t 20) (.t 21), none⟩,
  ⟨(some 23), .loadA 7 (.t 22), none⟩,
  ⟨(some 24), .eqv [.i, .i, .i, .i, .i, .i, .i] true (.t 19) (.t 23), none⟩]
def r41_7 : List SOper := [
  ⟨(some 4), .mv (.c (.one (.sc (.bool false)))), none⟩]
def r41_8 : List SOper := [
  ⟨(some 25), .bin .add (.t 13) (.c (.one (.sc (.int .i64 1)))), none⟩,
  ⟨(some 13), .mv (.t 25), none⟩]
def l41_0 : SC := (.seq (.reg r41_4) (.seq (.cond (.t 14) .skip (.exit 0)) (.seq (.block 1 (.seq (.reg r41_5) (.seq (.reg r41_6) (.cond (.t 24) (.seq (.reg r41_7) .ret) .skip)))) (.reg r41_8))))
def r41_9 : List SOper := [
  ⟨(some 4), .mv (.c (.one (.sc (.bool true)))), none⟩]
def c41 : SC := (.seq (.reg r41_0) (.seq (.seq (.reg r41_1) (.cond (.t 10) (.seq (.reg r41_2) .ret) .skip)) (.seq (.seq (.reg r41_3) (.block 0 (.loop l41_0))) (.seq (.reg r41_9) .ret))))
/-- slices.Equal[[]limner/path.Seg,limner/path.Seg] -/
def F41 : SFun := ⟨26, c41, [.tmp 4]⟩

def r42_0 : List SOper := [
  ⟨(some 4), .mv (.c (.one (.sc (.int .i64 0)))), none⟩]
def r42_1 : List SOper := [
  ⟨(some 6), .mv (.t 0), none⟩,
  ⟨(some 7), .call .q 14 [(.t 6)], none⟩,
  ⟨(some 5), .mv (.t 7), none⟩]
def r42_2 : List SOper := [
  ⟨(some 8), .mv (.t 5), none⟩,
  ⟨(some 9), .bin .neq (.t 8) (.c (.one (.sc (.int .i64 0)))), none⟩]
def r42_3 : List SOper := [
  ⟨(some 10), .mv (.t 5), none⟩,
  ⟨(some 4), .mv (.t 10), none⟩]
def r42_4 : List SOper := [
  ⟨(some 11), .mv (.t 1), none⟩,
  ⟨(some 12), .bin .lss (.t 11) (.c (.one (.sc (.int .i64 0)))), none⟩,
  ⟨(some 13), .mv (.t 12), none⟩,
  ⟨(some 14), .mv (.t 1), (some (some 13, false))⟩,
  ⟨(some 15), .mv (.t 0), (some (some 13, false))⟩,
  ⟨(some 16), .len (.t 15), (some (some 13, false))⟩,
  ⟨(some 17), .bin .geq (.t 14) (.t 16), (some (some 13, false))⟩,
  ⟨(some 18), .pick (.t 13) (.c (.one (.sc (.bool true)))) (.t 17), none⟩]
def r42_5 : List SOper := [
  ⟨(some 4), .mv (.c (.one (.sc (.int .i64 30)))), none⟩]
def r42_6 : List SOper := [
  ⟨(some 4), .mv (.c (.one (.sc (.int .i64 0)))), none⟩]
def c42 : SC := (.seq (.reg r42_0) (.seq (.seq (.reg r42_1) (.seq (.reg r42_2) (.cond (.t 9) (.seq (.reg r42_3) .ret) .skip))) (.seq (.seq (.reg r42_4) (.cond (.t 18) (.seq (.reg r42_5) .ret) .skip)) (.seq (.reg r42_6) .ret))))
/-- limner/path.at -/
def F42 : SFun := ⟨19, c42, [.tmp 4]⟩

def r43_0 : List SOper := [
  ⟨(some 2), .box (.t 0), none⟩,
  ⟨(some 3), .box (.t 1), none⟩,
  ⟨(some 4), .alloc [.sc (.int .i64 0), .sc (.int .i64 0)], none⟩]
def r43_1 : List SOper := [
  ⟨(some 5), .fadr 0 (.t 2), none⟩,
  ⟨(some 6), .load1 (.t 5), none⟩,
  ⟨(some 7), .fadr 0 (.t 3), none⟩,
  ⟨(some 8), .load1 (.t 7), none⟩,
  ⟨(some 9), .bin .add (.t 6) (.t 8), none⟩,
  ⟨(some 10), .bin .shr (.t 9) (.c (.one (.sc (.int .u64 1)))), none⟩,
  ⟨(some 11), .fadr 1 (.t 2), none⟩,
  ⟨(some 12), .load1 (.t 11), none⟩,
  ⟨(some 13), .fadr 1 (.t 3), none⟩,
  ⟨(some 14), .load1 (.t 13), none⟩,
  ⟨(some 15), .bin .add (.t 12) (.t 14), none⟩,
  ⟨(some 16), .bin .shr (.t 15) (.c (.one (.sc (.int .u64 1)))), none⟩,
  ⟨(some 17), .build [.sc (.int .i64 0), .sc (.int .i64 0)] [(0, 1, (.t 10)), (1, 1, (.t 16))], none⟩,
  ⟨none, .store 2 (.t 4) (.t 17), none⟩]
def c43 : SC := (.seq (.reg r43_0) (.seq (.reg r43_1) .ret))
/-- limner/curve.Mid -/
def F43 : SFun := ⟨18, c43, [.cellA 4 2]⟩

def r45_0 : List SOper := [
  ⟨(some 2), .mv (.c (.one (.sc (.slice none 0 0)))), none⟩]
def r45_1 : List SOper := [
  ⟨(some 3), .mv (.c (.one (.sc (.int .i64 0)))), none⟩]
def r45_2 : List SOper := [
  ⟨(some 9), .mv (.t 0), none⟩,
  ⟨(some 10), .len (.t 9), none⟩,
  ⟨(some 11), .mv (.c (.one (.sc (.int .i64 0)))), none⟩]
def r45_3 : List SOper := [
  ⟨(some 12), .bin .lss (.t 11) (.t 10), none⟩]
def r45_4 : List SOper := [
  ⟨(some 13), .iadrS 1 (.t 9) (.t 11), none⟩,
  ⟨(some 14), .load1 (.t 13), none⟩,
  ⟨(some 5), .mv (.t 14), none⟩]
def r45_5 : List SOper := [
  ⟨(some 15), .mv (.t 3), none⟩,
  ⟨(some 16), .mv (.t 5), none⟩,
  ⟨(some 17), .len (.t 16), none⟩,
  ⟨(some 18), .bin .add (.t 15) (.t 17), none⟩,
  ⟨(some 3), .mv (.t 18), none⟩]
def r45_6 : List SOper := [
  ⟨(some 19), .mv (.t 3), none⟩,
  ⟨(some 20), .bin .lss (.t 19) (.c (.one (.sc (.int .i64 0)))), none⟩]
def r45_7 : List SOper := [
  ⟨(some 21), .stuck, none⟩,
  ⟨none, .stuck, none⟩]
def r45_8 : List SOper := [
  ⟨(some 22), .bin .add (.t 11) (.c (.one (.sc (.int .i64 1)))), none⟩,
  ⟨(some 11), .mv (.t 22), none⟩]
def l45_0 : SC := (.seq (.reg r45_3) (.seq (.cond (.t 12) .skip (.exit 0)) (.seq (.block 1 (.seq (.reg r45_4) (.seq (.reg r45_5) (.seq (.reg r45_6) (.cond (.t 20) (.reg r45_7) .skip))))) (.reg r45_8))))
def r45_9 : List SOper := [
  ⟨(some 23), .mv (.t 3), none⟩,
  ⟨(some 24), .call .k 59 [(.c (.one (.sc (.slice none 0 0)))), (.t 23)], none⟩,
  ⟨(some 6), .mv (.t 24), none⟩]
def r45_10 : List SOper := [
  ⟨(some 25), .mv (.t 0), none⟩,
  ⟨(some 26), .len (.t 25), none⟩,
  ⟨(some 27), .mv (.c (.one (.sc (.int .i64 0)))), none⟩]
def r45_11 : List SOper := [
  ⟨(some 28), .bin .lss (.t 27) (.t 26), none⟩]
def r45_12 : List SOper := [
  ⟨(some 29), .iadrS 1 (.t 25) (.t 27), none⟩,
  ⟨(some 30), .load1 (.t 29), none⟩,
  ⟨(some 8), .mv (.t 30), none⟩]
def r45_13 : List SOper := [
  ⟨(some 31), .mv (.t 6), none⟩,
  ⟨(some 32), .mv (.t 8), none⟩,
  ⟨(some 33), .app 7 56 (.t 31) (.t 32), none⟩,
  ⟨(some 6), .mv (.t 33), none⟩]
def r45_14 : List SOper := [
  ⟨(some 34), .bin .add (.t 27) (.c (.one (.sc (.int .i64 1)))), none⟩,
  ⟨(some 27), .mv (.t 34), none⟩]
def l45_1 : SC := (.seq (.reg r45_11) (.seq (.cond (.t 28) .skip (.exit 2)) (.seq (.block 3 (.seq (.reg r45_12) (.reg r45_13))) (.reg r45_14))))
def r45_15 : List SOper := [
  ⟨(some 35), .mv (.t 6), none⟩,
  ⟨(some 2), .mv (.t 35), none⟩]
def c45 : SC := (.seq (.reg r45_0) (.seq (.reg r45_1) (.seq (.seq (.reg r45_2) (.block 0 (.loop l45_0))) (.seq (.reg r45_9) (.seq (.seq (.reg r45_10) (.block 2 (.loop l45_1))) (.seq (.reg r45_15) .ret))))))
/-- slices.Concat[[]limner/path.Seg,limner/path.Seg] -/
def F45 : SFun := ⟨36, c45, [.tmp 2]⟩

def r46_0 : List SOper := [
  ⟨(some 2), .box (.t 0), none⟩,
  ⟨(some 3), .box (.t 1), none⟩,
  ⟨(some 4), .alloc [.sc (.int .i64 0), .sc (.int .i64 0)], none⟩]
def r46_1 : List SOper := [
  ⟨(some 5), .fadr 0 (.t 2), none⟩,
  ⟨(some 6), .load1 (.t 5), none⟩,
  ⟨(some 7), .fadr 0 (.t 3), none⟩,
  ⟨(some 8), .load1 (.t 7), none⟩,
  ⟨(some 9), .bin .add (.t 6) (.t 8), none⟩,
  ⟨(some 10), .call (.z 1) 60 [(.t 9), (.c (.one (.sc (.int .i64 2))))], none⟩,
  ⟨(some 11), .fadr 1 (.t 2), none⟩,
  ⟨(some 12), .load1 (.t 11), none⟩,
  ⟨(some 13), .fadr 1 (.t 3), none⟩,
  ⟨(some 14), .load1 (.t 13), none⟩,
  ⟨(some 15), .bin .add (.t 12) (.t 14), none⟩,
  ⟨(some 16), .call (.z 1) 60 [(.t 15), (.c (.one (.sc (.int .i64 2))))], none⟩,
  ⟨(some 17), .build [.sc (.int .i64 0), .sc (.int .i64 0)] [(0, 1, (.t 10)), (1, 1, (.t 16))], none⟩,
  ⟨none, .store 2 (.t 4) (.t 17), none⟩]
def c46 : SC := (.seq (.reg r46_0) (.seq (.reg r46_1) .ret))
/-- limner/limnerref05.Mid -/
def F46 : SFun := ⟨18, c46, [.cellA 4 2]⟩

def r47_0 : List SOper := [
  ⟨(some 2), .mv (.c (.one (.sc (.slice none 0 0)))), none⟩,
  ⟨(some 3), .mv (.c (.one (.sc (.slice none 0 0)))), none⟩]
def r47_1 : List SOper := [
  ⟨(some 4), .mv (.c (.one (.sc (.slice none 0 0)))), none⟩,
  ⟨(some 5), .mv (.c (.one (.sc (.slice none 0 0)))), none⟩]
def r47_2 : List SOper := [
  ⟨(some 8), .mv (.t 0), none⟩,
  ⟨(some 9), .len (.t 8), none⟩,
  ⟨(some 10), .bin .gtr (.t 9) (.c (.one (.sc (.int .i64 0)))), none⟩]
def r47_3 : List SOper := [
  ⟨(some 11), .mv (.t 4), none⟩,
  ⟨(some 12), .mv (.t 0), none⟩,
  ⟨(some 13), .iadrS 2 (.t 12) (.c (.one (.sc (.int .i64 0)))), none⟩,
  ⟨(some 14), .loadA 2 (.t 13), none⟩,
  ⟨(some 15), .bslice [.sc (.int .i64 0), .sc (.int .i64 0)] 1 2 [(0, 2, (.t 14))], none⟩,
  ⟨(some 16), .app 2 16 (.t 11) (.t 15), none⟩,
  ⟨(some 4), .mv (.t 16), none⟩]
def r47_4 : List SOper := [
  ⟨(some 17), .mv (.t 0), none⟩,
  ⟨(some 18), .mv (.t 0), none⟩,
  ⟨(some 19), .len (.t 18), none⟩,
  ⟨(some 20), .bin .sub (.t 19) (.c (.one (.sc (.int .i64 1)))), none⟩,
  ⟨(some 21), .iadrS 2 (.t 17) (.t 20), none⟩,
  ⟨(some 22), .loadA 2 (.t 21), none⟩,
  ⟨(some 23), .bslice [.sc (.int .i64 0), .sc (.int .i64 0)] 1 2 [(0, 2, (.t 22))], none⟩,
  ⟨(some 24), .mv (.t 5), none⟩,
  ⟨(some 25), .app 2 16 (.t 23) (.t 24), none⟩,
  ⟨(some 5), .mv (.t 25), none⟩]
def r47_5 : List SOper := [
  ⟨(some 6), .mv (.c (.one (.sc (.slice none 0 0)))), none⟩]
def r47_6 : List SOper := [
  ⟨(some 7), .mv (.c (.one (.sc (.int .i64 0)))), none⟩]
def r47_7 : List SOper := [
  ⟨(some 26), .mv (.t 7), none⟩,
  ⟨(some 27), .bin .add (.t 26) (.c (.one (.sc (.int .i64 1)))), none⟩,
  ⟨(some 28), .mv (.t 0), none⟩,
  ⟨(some 29), .len (.t 28), none⟩,
  ⟨(some 30), .bin .lss (.t 27) (.t 29), none⟩]
def r47_9 : List SOper := [
  ⟨(some 33), .mv (.t 6), none⟩,
  ⟨(some 34), .mv (.t 0), none⟩,
  ⟨(some 35), .mv (.t 7), none⟩,
  ⟨(some 36), .iadrS 2 (.t 34) (.t 35), none⟩,
  ⟨(some 37), .loadA 2 (.t 36), none⟩,
  ⟨(some 38), .mv (.t 0), none⟩,
  ⟨(some 39), .mv (.t 7), none⟩,
  ⟨(some 40), .bin .add (.t 39) (.c (.one (.sc (.int .i64 1)))), none⟩,
  ⟨(some 41), .iadrS 2 (.t 38) (.t 40), none⟩,
  ⟨(some 42), .loadA 2 (.t 41), none⟩,
  ⟨(some 43), .call (.z 1) 46 [(.t 37), (.t 42)], none⟩,
  ⟨(some 44), .bslice [.sc (.int .i64 0), .sc (.int .i64 0)] 1 2 [(0, 2, (.t 43))], none⟩,
  ⟨(some 45), .app 2 16 (.t 33) (.t 44), none⟩,
  ⟨(some 6), .mv (.t 45), none⟩]
def r47_8 : List SOper := [
  ⟨(some 31), .mv (.t 7), none⟩,
  ⟨(some 32), .bin .add (.t 31) (.c (.one (.sc (.int .i64 1)))), none⟩,
  ⟨(some 7), .mv (.t 32), none⟩]
def l47_0 : SC := (.seq (.seq (.reg r47_7) (.cond (.t 30) .skip (.exit 2))) (.seq (.block 3 (.reg r47_9)) (.reg r47_8)))
def r47_10 : List SOper := [
  ⟨(some 46), .mv (.t 6), none⟩,
  ⟨(some 0), .mv (.t 46), none⟩]
def l47_1 : SC := (.seq (.seq (.reg r47_2) (.cond (.t 10) .skip (.exit 0))) (.block 1 (.seq (.reg r47_3) (.seq (.reg r47_4) (.seq (.reg r47_5) (.seq (.seq (.reg r47_6) (.block 2 (.loop l47_0))) (.reg r47_10)))))))
def r47_11 : List SOper := [
  ⟨(some 47), .mv (.t 4), none⟩,
  ⟨(some 48), .mv (.t 5), none⟩,
  ⟨(some 2), .mv (.t 47), none⟩,
  ⟨(some 3), .mv (.t 48), none⟩]
def c47 : SC := (.seq (.reg r47_0) (.seq (.reg r47_1) (.seq (.block 0 (.loop l47_1)) (.seq (.reg r47_11) .ret))))
/-- limner/limnerref05.Halves -/
def F47 : SFun := ⟨49, c47, [.tmp 2, .tmp 3]⟩

def r48_0 : List SOper := [
  ⟨(some 2), .mv (.c (.one (.sc (.slice none 0 0)))), none⟩]
def r48_1 : List SOper := [
  ⟨(some 3), .mv (.t 0), none⟩,
  ⟨(some 4), .eqnil 0 false (.t 3), none⟩]
def r48_2 : List SOper := [
  ⟨(some 2), .mv (.c (.one (.sc (.slice none 0 0)))), none⟩]
def r48_3 : List SOper := [
  ⟨(some 5), .bslice [] 0 7 [], none⟩,
  ⟨(some 6), .mv (.t 0), none⟩,
  ⟨(some 7), .app 7 56 (.t 5) (.t 6), none⟩,
  ⟨(some 2), .mv (.t 7), none⟩]
def c48 : SC := (.seq (.reg r48_0) (.seq (.seq (.reg r48_1) (.cond (.t 4) (.seq (.reg r48_2) .ret) .skip)) (.seq (.reg r48_3) .ret)))
/-- slices.Clone[[]limner/path.Seg,limner/path.Seg] -/
def F48 : SFun := ⟨8, c48, [.tmp 2]⟩

def r49_0 : List SOper := [
  ⟨(some 2), .mv (.c (.one (.sc (.bool false)))), none⟩]
def r49_1 : List SOper := [
  ⟨(some 3), .mv (.t 0), none⟩,
  ⟨(some 4), .bin .geq (.t 3) (.c (.one (.sc (.int .i64 (-2147483648))))), none⟩,
  ⟨(some 5), .mv (.t 4), none⟩,
  ⟨(some 6), .mv (.t 0), (some (some 5, true))⟩,
  ⟨(some 7), .bin .leq (.t 6) (.c (.one (.sc (.int .i64 2147483648)))), (some (some 5, true))⟩,
  ⟨(some 8), .pick (.t 5) (.t 7) (.c (.one (.sc (.bool false)))), none⟩,
  ⟨(some 2), .mv (.t 8), none⟩]
def c49 : SC := (.seq (.reg r49_0) (.seq (.reg r49_1) .ret))
/-- limner/fixed.In -/
def F49 : SFun := ⟨9, c49, [.tmp 2]⟩

def r50_0 : List SOper := [
  ⟨(some 8), .mv (.c (.one (.sc (.int .i64 0)))), none⟩]
def r50_1 : List SOper := [
  ⟨(some 9), .mv (.t 0), none⟩,
  ⟨(some 10), .mv (.t 1), none⟩,
  ⟨(some 11), .bin .mul (.t 9) (.t 10), none⟩,
  ⟨(some 12), .mv (.t 2), none⟩,
  ⟨(some 13), .mv (.t 3), none⟩,
  ⟨(some 14), .bin .mul (.t 12) (.t 13), none⟩,
  ⟨(some 15), .bin .add (.t 11) (.t 14), none⟩,
  ⟨(some 16), .bin .add (.t 15) (.c (.one (.sc (.int .i64 32768)))), none⟩,
  ⟨(some 17), .bin .shr (.t 16) (.c (.one (.sc (.int .u64 16)))), none⟩,
  ⟨(some 8), .mv (.t 17), none⟩]
def c50 : SC := (.seq (.reg r50_0) (.seq (.reg r50_1) .ret))
/-- limner/affine.mix -/
def F50 : SFun := ⟨18, c50, [.tmp 8]⟩

def r51_0 : List SOper := [
  ⟨(some 2), .box (.t 0), none⟩,
  ⟨(some 3), .box (.t 1), none⟩,
  ⟨(some 4), .alloc [.sc (.int .i64 0), .sc (.int .i64 0), .sc (.int .i64 0), .sc (.int .i64 0)], none⟩]
def r51_1 : List SOper := [
  ⟨(some 6), .loadA 4 (.t 2), none⟩,
  ⟨(some 7), .call (.z 1) 61 [(.t 6)], none⟩,
  ⟨(some 8), .mv (.t 7), none⟩,
  ⟨(some 9), .loadA 4 (.t 3), (some (some 8, true))⟩,
  ⟨(some 10), .call (.z 1) 61 [(.t 9)], (some (some 8, true))⟩,
  ⟨(some 11), .pick (.t 8) (.t 10) (.c (.one (.sc (.bool false)))), none⟩,
  ⟨(some 5), .mv (.t 11), none⟩]
def r51_2 : List SOper := [
  ⟨(some 12), .build [.sc (.int .i64 0), .sc (.int .i64 0), .sc (.int .i64 0), .sc (.int .i64 0)] [], none⟩,
  ⟨none, .store 4 (.t 4) (.t 12), none⟩]
def r51_3 : List SOper := [
  ⟨(some 14), .loadA 4 (.t 2), none⟩,
  ⟨(some 15), .call (.z 1) 61 [(.t 14)], none⟩,
  ⟨(some 13), .mv (.t 15), none⟩]
def r51_4 : List SOper := [
  ⟨(some 16), .loadA 4 (.t 3), none⟩,
  ⟨none, .store 4 (.t 4) (.t 16), none⟩]
def r51_5 : List SOper := [
  ⟨(some 18), .loadA 4 (.t 3), none⟩,
  ⟨(some 19), .call (.z 1) 61 [(.t 18)], none⟩,
  ⟨(some 17), .mv (.t 19), none⟩]
def r51_6 : List SOper := [
  ⟨(some 20), .loadA 4 (.t 2), none⟩,
  ⟨none, .store 4 (.t 4) (.t 20), none⟩]
def r51_7 : List SOper := [
  ⟨(some 21), .fadr 0 (.t 2), none⟩,
  ⟨(some 22), .load1 (.t 21), none⟩,
  ⟨(some 23), .fadr 0 (.t 3), none⟩,
  ⟨(some 24), .load1 (.t 23), none⟩,
  ⟨(some 25), .mn [(.t 22), (.t 24)], none⟩,
  ⟨(some 26), .fadr 1 (.t 2), none⟩,
  ⟨(some 27), .load1 (.t 26), none⟩,
  ⟨(some 28), .fadr 1 (.t 3), none⟩,
  ⟨(some 29), .load1 (.t 28), none⟩,
  ⟨(some 30), .mn [(.t 27), (.t 29)], none⟩,
  ⟨(some 31), .fadr 2 (.t 2), none⟩,
  ⟨(some 32), .load1 (.t 31), none⟩,
  ⟨(some 33), .fadr 2 (.t 3), none⟩,
  ⟨(some 34), .load1 (.t 33), none⟩,
  ⟨(some 35), .mx [(.t 32), (.t 34)], none⟩,
  ⟨(some 36), .fadr 3 (.t 2), none⟩,
  ⟨(some 37), .load1 (.t 36), none⟩,
  ⟨(some 38), .fadr 3 (.t 3), none⟩,
  ⟨(some 39), .load1 (.t 38), none⟩,
  ⟨(some 40), .mx [(.t 37), (.t 39)], none⟩,
  ⟨(some 41), .build [.sc (.int .i64 0), .sc (.int .i64 0), .sc (.int .i64 0), .sc (.int .i64 0)] [(0, 1, (.t 25)), (1, 1, (.t 30)), (2, 1, (.t 35)), (3, 1, (.t 40))], none⟩,
  ⟨none, .store 4 (.t 4) (.t 41), none⟩]
def c51 : SC := (.seq (.reg r51_0) (.seq (.block 0 (.seq (.reg r51_1) (.cond (.t 5) (.seq (.reg r51_2) .ret) (.seq (.reg r51_3) (.cond (.t 13) (.seq (.reg r51_4) .ret) (.seq (.reg r51_5) (.cond (.t 17) (.seq (.reg r51_6) .ret) .skip))))))) (.seq (.reg r51_7) .ret)))
/-- (limner/geom.Box).Join -/
def F51 : SFun := ⟨42, c51, [.cellA 4 4]⟩

def r52_0 : List SOper := [
  ⟨(some 2), .mv (.c (.one (.sc (.slice none 0 0)))), none⟩,
  ⟨(some 3), .mv (.c (.one (.sc (.int .i64 0)))), none⟩]
def r52_1 : List SOper := [
  ⟨(some 5), .mv (.t 0), none⟩,
  ⟨(some 6), .call .q 14 [(.t 5)], none⟩,
  ⟨(some 4), .mv (.t 6), none⟩]
def r52_2 : List SOper := [
  ⟨(some 7), .mv (.t 4), none⟩,
  ⟨(some 8), .bin .neq (.t 7) (.c (.one (.sc (.int .i64 0)))), none⟩]
def r52_3 : List SOper := [
  ⟨(some 9), .mv (.t 4), none⟩,
  ⟨(some 2), .mv (.c (.one (.sc (.slice none 0 0)))), none⟩,
  ⟨(some 3), .mv (.t 9), none⟩]
def r52_4 : List SOper := [
  ⟨(some 10), .mv (.t 0), none⟩,
  ⟨(some 2), .mv (.t 10), none⟩,
  ⟨(some 3), .mv (.c (.one (.sc (.int .i64 0)))), none⟩]
def c52 : SC := (.seq (.reg r52_0) (.seq (.seq (.reg r52_1) (.seq (.reg r52_2) (.cond (.t 8) (.seq (.reg r52_3) .ret) .skip))) (.seq (.reg r52_4) .ret)))
/-- limner/path.checked -/
def F52 : SFun := ⟨11, c52, [.tmp 2, .tmp 3]⟩

def r53_0 : List SOper := [
  ⟨(some 3), .alloc [.sc (.int .i64 0), .sc (.int .i64 0)], none⟩]
def r53_1 : List SOper := [
  ⟨(some 7), .load1 (.t 1), none⟩,
  ⟨(some 8), .len (.t 7), none⟩,
  ⟨(some 9), .mv (.c (.one (.sc (.int .i64 0)))), none⟩]
def r53_2 : List SOper := [
  ⟨(some 10), .bin .lss (.t 9) (.t 8), none⟩]
def r53_3 : List SOper := [
  ⟨(some 11), .iadrS 7 (.t 7) (.t 9), none⟩,
  ⟨(some 12), .loadA 7 (.t 11), none⟩,
  ⟨(some 5), .alloc [.sc (.int .i64 0), .sc (.int .i64 0), .sc (.int .i64 0), .sc (.int .i64 0), .sc (.int .i64 0), .sc (.int .i64 0), .sc (.int .i64 0)], none⟩,
  ⟨none, .store 7 (.t 5) (.t 12), none⟩]
def r53_4 : List SOper := [
  ⟨(some 13), .mv (.t 0), none⟩,
  ⟨(some 14), .loadA 2 (.t 3), none⟩,
  ⟨(some 15), .loadA 7 (.t 5), none⟩,
  ⟨(some 16), .callv .q (.t 13) [(.t 14), (.t 15)], none⟩,
  ⟨(some 17), .un .not (.t 16), none⟩]
def r53_5 : List SOper := [
  ⟨(some 18), .fadr 0 (.t 5), none⟩,
  ⟨(some 19), .load1 (.t 18), none⟩,
  ⟨(some 20), .call .t 15 [(.t 19)], none⟩,
  ⟨(some 6), .mv (.t 20), none⟩]
def r53_6 : List SOper := [
  ⟨(some 21), .mv (.t 6), none⟩,
  ⟨(some 22), .bin .gtr (.t 21) (.c (.one (.sc (.int .i64 0)))), none⟩]
def r53_7 : List SOper := [
  ⟨(some 23), .mv (.t 6), none⟩,
  ⟨(some 24), .bin .sub (.t 23) (.c (.one (.sc (.int .i64 1)))), none⟩,
  ⟨(some 25), .fadr 1 (.t 5), none⟩,
  ⟨(some 26), .iadrA 3 2 (.t 25) (.t 24), none⟩,
  ⟨(some 27), .loadA 2 (.t 26), none⟩,
  ⟨none, .store 2 (.t 3) (.t 27), none⟩]
def r53_8 : List SOper := [
  ⟨(some 28), .bin .add (.t 9) (.c (.one (.sc (.int .i64 1)))), none⟩,
  ⟨(some 9), .mv (.t 28), none⟩]
def l53_0 : SC := (.seq (.reg r53_2) (.seq (.cond (.t 10) .skip (.exit 0)) (.seq (.block 1 (.seq (.reg r53_3) (.seq (.seq (.reg r53_4) (.cond (.t 17) .ret .skip)) (.seq (.reg r53_5) (.seq (.reg r53_6) (.cond (.t 22) (.reg r53_7) .skip)))))) (.reg r53_8))))
def c53 : SC := (.seq (.reg r53_0) (.seq (.reg r53_1) (.block 0 (.loop l53_0))))
/-- limner/path.walk$1 -/
def F53 : SFun := ⟨29, c53, []⟩

def r54_0 : List SOper := [
  ⟨(some 2), .mv (.c (.one (.sc (.int .i64 0)))), none⟩]
def r54_1 : List SOper := [
  ⟨(some 3), .mv (.t 0), none⟩,
  ⟨(some 4), .len (.t 3), none⟩,
  ⟨(some 5), .bin .lss (.t 4) (.c (.one (.sc (.int .i64 3)))), none⟩,
  ⟨(some 6), .mv (.t 5), none⟩,
  ⟨(some 7), .mv (.t 0), (some (some 6, false))⟩,
  ⟨(some 8), .len (.t 7), (some (some 6, false))⟩,
  ⟨(some 9), .bin .gtr (.t 8) (.c (.one (.sc (.int .i64 4)))), (some (some 6, false))⟩,
  ⟨(some 10), .pick (.t 6) (.c (.one (.sc (.bool true)))) (.t 9), none⟩,
  ⟨(some 11), .mv (.t 10), none⟩,
  ⟨(some 12), .mv (.t 0), (some (some 11, false))⟩,
  ⟨(some 13), .call .q 38 [(.t 12), (.f 62)], (some (some 11, false))⟩,
  ⟨(some 14), .pick (.t 11) (.c (.one (.sc (.bool true)))) (.t 13), none⟩]
def r54_2 : List SOper := [
  ⟨(some 2), .mv (.c (.one (.sc (.int .i64 30)))), none⟩]
def r54_3 : List SOper := [
  ⟨(some 2), .mv (.c (.one (.sc (.int .i64 0)))), none⟩]
def c54 : SC := (.seq (.reg r54_0) (.seq (.seq (.reg r54_1) (.cond (.t 14) (.seq (.reg r54_2) .ret) .skip)) (.seq (.reg r54_3) .ret)))
/-- limner/curve.check -/
def F54 : SFun := ⟨15, c54, [.tmp 2]⟩

def r55_0 : List SOper := [
  ⟨(some 2), .alloc (List.replicate 9 (.sc (.int .i64 0))), none⟩]
def r55_1 : List SOper := [
  ⟨(some 4), .mv (.t 0), none⟩,
  ⟨(some 5), .len (.t 4), none⟩,
  ⟨(some 6), .build (List.replicate 9 (.sc (.int .i64 0))) [(8, 1, (.t 5))], none⟩,
  ⟨(some 3), .alloc (List.replicate 9 (.sc (.int .i64 0))), none⟩,
  ⟨none, .store 9 (.t 3) (.t 6), none⟩]
def r55_2 : List SOper := [
  ⟨(some 7), .fadr 0 (.t 3), none⟩,
  ⟨(some 8), .slA 4 2 (.t 7) none none none, none⟩,
  ⟨(some 9), .mv (.t 0), none⟩,
  ⟨(some 10), .cpy 2 (.t 8) (.t 9), none⟩]
def r55_3 : List SOper := [
  ⟨(some 11), .loadA 9 (.t 3), none⟩,
  ⟨none, .store 9 (.t 2) (.t 11), none⟩]
def c55 : SC := (.seq (.reg r55_0) (.seq (.reg r55_1) (.seq (.reg r55_2) (.seq (.reg r55_3) .ret))))
/-- limner/curve.rowOf -/
def F55 : SFun := ⟨12, c55, [.cellA 2 9]⟩

def r56_0 : List SOper := [
  ⟨(some 1), .box (.t 0), none⟩,
  ⟨(some 2), .alloc (List.replicate 9 (.sc (.int .i64 0))), none⟩,
  ⟨(some 3), .alloc (List.replicate 9 (.sc (.int .i64 0))), none⟩]
def r56_1 : List SOper := [
  ⟨(some 7), .fadr 8 (.t 1), none⟩,
  ⟨(some 8), .load1 (.t 7), none⟩,
  ⟨(some 9), .fadr 8 (.t 1), none⟩,
  ⟨(some 10), .load1 (.t 9), none⟩,
  ⟨(some 11), .fadr 8 (.t 2), none⟩,
  ⟨none, .store 1 (.t 11) (.t 8), none⟩,
  ⟨(some 12), .fadr 8 (.t 3), none⟩,
  ⟨none, .store 1 (.t 12) (.t 10), none⟩]
def r56_2 : List SOper := [
  ⟨(some 13), .fadr 8 (.t 1), none⟩,
  ⟨(some 14), .load1 (.t 13), none⟩,
  ⟨(some 15), .mv (.c (.one (.sc (.int .i64 0)))), none⟩]
def r56_3 : List SOper := [
  ⟨(some 16), .bin .lss (.t 15) (.t 14), none⟩]
def r56_4 : List SOper := [
  ⟨(some 17), .mv (.t 15), none⟩,
  ⟨(some 4), .mv (.t 17), none⟩]
def r56_5 : List SOper := [
  ⟨(some 18), .fadr 8 (.t 1), none⟩,
  ⟨(some 19), .load1 (.t 18), none⟩,
  ⟨(some 20), .bin .sub (.t 19) (.c (.one (.sc (.int .i64 1)))), none⟩,
  ⟨(some 21), .mv (.t 4), none⟩,
  ⟨(some 22), .bin .sub (.t 20) (.t 21), none⟩,
  ⟨(some 5), .mv (.t 22), none⟩]
def r56_6 : List SOper := [
  ⟨(some 23), .mv (.t 4), none⟩,
  ⟨(some 24), .mv (.t 5), none⟩,
  ⟨(some 25), .fadr 0 (.t 1), none⟩,
  ⟨(some 26), .iadrA 4 2 (.t 25) (.c (.one (.sc (.int .i64 0)))), none⟩,
  ⟨(some 27), .loadA 2 (.t 26), none⟩,
  ⟨(some 28), .mv (.t 5), none⟩,
  ⟨(some 29), .fadr 0 (.t 1), none⟩,
  ⟨(some 30), .iadrA 4 2 (.t 29) (.t 28), none⟩,
  ⟨(some 31), .loadA 2 (.t 30), none⟩,
  ⟨(some 32), .fadr 0 (.t 2), none⟩,
  ⟨(some 33), .iadrA 4 2 (.t 32) (.t 23), none⟩,
  ⟨none, .store 2 (.t 33) (.t 27), none⟩,
  ⟨(some 34), .fadr 0 (.t 3), none⟩,
  ⟨(some 35), .iadrA 4 2 (.t 34) (.t 24), none⟩,
  ⟨none, .store 2 (.t 35) (.t 31), none⟩]
def r56_7 : List SOper := [
  ⟨(some 36), .mv (.t 5), none⟩,
  ⟨(some 37), .mv (.c (.one (.sc (.int .i64 0)))), none⟩]
def r56_8 : List SOper := [
  ⟨(some 38), .bin .lss (.t 37) (.t 36), none⟩]
def r56_9 : List SOper := [
  ⟨(some 39), .mv (.t 37), none⟩,
  ⟨(some 6), .mv (.t 39), none⟩]
def r56_10 : List SOper := [
  ⟨(some 40), .mv (.t 6), none⟩,
  ⟨(some 41), .mv (.t 6), none⟩,
  ⟨(some 42), .fadr 0 (.t 1), none⟩,
  ⟨(some 43), .iadrA 4 2 (.t 42) (.t 41), none⟩,
  ⟨(some 44), .loadA 2 (.t 43), none⟩,
  ⟨(some 45), .mv (.t 6), none⟩,
  ⟨(some 46), .bin .add (.t 45) (.c (.one (.sc (.int .i64 1)))), none⟩,
  ⟨(some 47), .fadr 0 (.t 1), none⟩,
  ⟨(some 48), .iadrA 4 2 (.t 47) (.t 46), none⟩,
  ⟨(some 49), .loadA 2 (.t 48), none⟩,
  ⟨(some 50), .call (.z 1) 43 [(.t 44), (.t 49)], none⟩,
  ⟨(some 51), .fadr 0 (.t 1), none⟩,
  ⟨(some 52), .iadrA 4 2 (.t 51) (.t 40), none⟩,
  ⟨none, .store 2 (.t 52) (.t 50), none⟩]
def r56_11 : List SOper := [
  ⟨(some 53), .bin .add (.t 37) (.c (.one (.sc (.int .i64 1)))), none⟩,
  ⟨(some 37), .mv (.t 53), none⟩]
def l56_0 : SC := (.seq (.reg r56_8) (.seq (.cond (.t 38) .skip (.exit 2)) (.seq (.block 3 (.seq (.reg r56_9) (.reg r56_10))) (.reg r56_11))))
def r56_12 : List SOper := [
  ⟨(some 54), .bin .add (.t 15) (.c (.one (.sc (.int .i64 1)))), none⟩,
  ⟨(some 15), .mv (.t 54), none⟩]
def l56_1 : SC := (.seq (.reg r56_3) (.seq (.cond (.t 16) .skip (.exit 0)) (.seq (.block 1 (.seq (.reg r56_4) (.seq (.reg r56_5) (.seq (.dreg [(30, 33)] r56_6) (.seq (.reg r56_7) (.block 2 (.loop l56_0))))))) (.reg r56_12))))
def r56_13 : List SOper := [
  ⟨(some 55), .loadA 9 (.t 2), none⟩,
  ⟨(some 56), .loadA 9 (.t 3), none⟩,
  ⟨none, .store 9 (.t 2) (.t 55), none⟩,
  ⟨none, .store 9 (.t 3) (.t 56), none⟩]
def c56 : SC := (.seq (.reg r56_0) (.seq (.dreg [(9, 11)] r56_1) (.seq (.seq (.reg r56_2) (.block 0 (.loop l56_1))) (.seq (.dreg [(3, 2)] r56_13) .ret))))
/-- (limner/curve.row).halves -/
def F56 : SFun := ⟨57, c56, [.cellA 2 9, .cellA 3 9]⟩

def r57_0 : List SOper := [
  ⟨(some 4), .mv (.c (.one (.sc (.int .i64 0)))), none⟩]
def r57_1 : List SOper := [
  ⟨(some 6), .mv (.t 0), none⟩,
  ⟨(some 7), .len (.t 6), none⟩,
  ⟨(some 8), .mv (.c (.one (.sc (.int .i64 0)))), none⟩]
def r57_2 : List SOper := [
  ⟨(some 9), .bin .lss (.t 8) (.t 7), none⟩]
def r57_3 : List SOper := [
  ⟨(some 10), .mv (.t 8), none⟩,
  ⟨(some 5), .mv (.t 10), none⟩]
def r57_4 : List SOper := [
  ⟨(some 11), .mv (.t 1), none⟩,
  ⟨(some 12), .mv (.t 0), none⟩,
  ⟨(some 13), .mv (.t 5), none⟩,
  ⟨(some 14), .iadrS 2 (.t 12) (.t 13), none⟩,
  ⟨(some 15), .loadA 2 (.t 14), none⟩,
  ⟨(some 16), .callv .q (.t 11) [(.t 15)], none⟩]
def r57_5 : List SOper := [
  ⟨(some 17), .mv (.t 5), none⟩,
  ⟨(some 4), .mv (.t 17), none⟩]
def r57_6 : List SOper := [
  ⟨(some 18), .bin .add (.t 8) (.c (.one (.sc (.int .i64 1)))), none⟩,
  ⟨(some 8), .mv (.t 18), none⟩]
def l57_0 : SC := (.seq (.reg r57_2) (.seq (.cond (.t 9) .skip (.exit 0)) (.seq (.block 1 (.seq (.reg r57_3) (.seq (.reg r57_4) (.cond (.t 16) (.seq (.reg r57_5) .ret) .skip)))) (.reg r57_6))))
def r57_7 : List SOper := [
  ⟨(some 4), .mv (.c (.one (.sc (.int .i64 (-1))))), none⟩]
def c57 : SC := (.seq (.reg r57_0) (.seq (.seq (.reg r57_1) (.block 0 (.loop l57_0))) (.seq (.reg r57_7) .ret)))
/-- slices.IndexFunc[[]limner/geom.Point,limner/geom.Point] -/
def F57 : SFun := ⟨19, c57, [.tmp 4]⟩

def r59_0 : List SOper := [
  ⟨(some 4), .mv (.c (.one (.sc (.slice none 0 0)))), none⟩]
def r59_1 : List SOper := [
  ⟨(some 5), .mv (.t 1), none⟩,
  ⟨(some 6), .bin .lss (.t 5) (.c (.one (.sc (.int .i64 0)))), none⟩]
def r59_2 : List SOper := [
  ⟨(some 7), .stuck, none⟩,
  ⟨none, .stuck, none⟩]
def r59_3 : List SOper := [
  ⟨(some 8), .mv (.t 1), none⟩,
  ⟨(some 9), .mv (.t 0), none⟩,
  ⟨(some 10), .cap (.t 9), none⟩,
  ⟨(some 11), .mv (.t 0), none⟩,
  ⟨(some 12), .len (.t 11), none⟩,
  ⟨(some 13), .bin .sub (.t 10) (.t 12), none⟩,
  ⟨(some 14), .bin .sub (.t 8) (.t 13), none⟩,
  ⟨(some 1), .mv (.t 14), none⟩]
def r59_4 : List SOper := [
  ⟨(some 15), .mv (.t 1), none⟩,
  ⟨(some 16), .bin .gtr (.t 15) (.c (.one (.sc (.int .i64 0)))), none⟩]
def r59_5 : List SOper := [
  ⟨(some 17), .mv (.t 0), none⟩,
  ⟨(some 18), .mv (.t 0), none⟩,
  ⟨(some 19), .cap (.t 18), none⟩,
  ⟨(some 20), .slS 7 (.t 17) none (some (.t 19)) none, none⟩,
  ⟨(some 21), .mv (.t 1), none⟩,
  ⟨(some 22), .appz [.sc (.int .i64 0), .sc (.int .i64 0), .sc (.int .i64 0), .sc (.int .i64 0), .sc (.int .i64 0), .sc (.int .i64 0), .sc (.int .i64 0)] 56 7 (.t 20) (.t 21), none⟩,
  ⟨(some 23), .mv (.t 0), none⟩,
  ⟨(some 24), .len (.t 23), none⟩,
  ⟨(some 25), .slS 7 (.t 22) none (some (.t 24)) none, none⟩,
  ⟨(some 0), .mv (.t 25), none⟩]
def r59_6 : List SOper := [
  ⟨(some 26), .mv (.t 0), none⟩,
  ⟨(some 4), .mv (.t 26), none⟩]
def c59 : SC := (.seq (.reg r59_0) (.seq (.seq (.reg r59_1) (.cond (.t 6) (.reg r59_2) .skip)) (.seq (.seq (.reg r59_3) (.seq (.reg r59_4) (.cond (.t 16) (.reg r59_5) .skip))) (.seq (.reg r59_6) .ret))))
/-- slices.Grow[[]limner/path.Seg,limner/path.Seg] -/
def F59 : SFun := ⟨27, c59, [.tmp 4]⟩

def r60_0 : List SOper := [
  ⟨(some 4), .mv (.c (.one (.sc (.int .i64 0)))), none⟩]
def r60_1 : List SOper := [
  ⟨(some 6), .mv (.t 0), none⟩,
  ⟨(some 7), .mv (.t 1), none⟩,
  ⟨(some 8), .bin .quo (.t 6) (.t 7), none⟩,
  ⟨(some 5), .mv (.t 8), none⟩]
def r60_2 : List SOper := [
  ⟨(some 9), .mv (.t 5), none⟩,
  ⟨(some 10), .mv (.t 1), none⟩,
  ⟨(some 11), .bin .mul (.t 9) (.t 10), none⟩,
  ⟨(some 12), .mv (.t 0), none⟩,
  ⟨(some 13), .bin .gtr (.t 11) (.t 12), none⟩]
def r60_3 : List SOper := [
  ⟨(some 14), .mv (.t 5), none⟩,
  ⟨(some 15), .bin .sub (.t 14) (.c (.one (.sc (.int .i64 1)))), none⟩,
  ⟨(some 5), .mv (.t 15), none⟩]
def r60_4 : List SOper := [
  ⟨(some 16), .mv (.t 5), none⟩,
  ⟨(some 4), .mv (.t 16), none⟩]
def c60 : SC := (.seq (.reg r60_0) (.seq (.reg r60_1) (.seq (.seq (.reg r60_2) (.cond (.t 13) (.reg r60_3) .skip)) (.seq (.reg r60_4) .ret))))
/-- limner/limnerref01.Below -/
def F60 : SFun := ⟨17, c60, [.tmp 4]⟩

def r61_0 : List SOper := [
  ⟨(some 1), .box (.t 0), none⟩,
  ⟨(some 2), .mv (.c (.one (.sc (.bool false)))), none⟩]
def r61_1 : List SOper := [
  ⟨(some 3), .fadr 0 (.t 1), none⟩,
  ⟨(some 4), .load1 (.t 3), none⟩,
  ⟨(some 5), .fadr 2 (.t 1), none⟩,
  ⟨(some 6), .load1 (.t 5), none⟩,
  ⟨(some 7), .bin .geq (.t 4) (.t 6), none⟩,
  ⟨(some 8), .mv (.t 7), none⟩,
  ⟨(some 9), .fadr 1 (.t 1), (some (some 8, false))⟩,
  ⟨(some 10), .load1 (.t 9), (some (some 8, false))⟩,
  ⟨(some 11), .fadr 3 (.t 1), (some (some 8, false))⟩,
  ⟨(some 12), .load1 (.t 11), (some (some 8, false))⟩,
  ⟨(some 13), .bin .geq (.t 10) (.t 12), (some (some 8, false))⟩,
  ⟨(some 14), .pick (.t 8) (.c (.one (.sc (.bool true)))) (.t 13), none⟩,
  ⟨(some 2), .mv (.t 14), none⟩]
def c61 : SC := (.seq (.reg r61_0) (.seq (.reg r61_1) .ret))
/-- (limner/geom.Box).Empty -/
def F61 : SFun := ⟨15, c61, [.tmp 2]⟩

def r62_0 : List SOper := [
  ⟨(some 1), .box (.t 0), none⟩,
  ⟨(some 2), .mv (.c (.one (.sc (.bool false)))), none⟩]
def r62_1 : List SOper := [
  ⟨(some 3), .loadA 2 (.t 1), none⟩,
  ⟨(some 4), .call (.z 1) 40 [(.t 3)], none⟩,
  ⟨(some 5), .un .not (.t 4), none⟩,
  ⟨(some 2), .mv (.t 5), none⟩]
def c62 : SC := (.seq (.reg r62_0) (.seq (.reg r62_1) .ret))
/-- limner/curve.check$1 -/
def F62 : SFun := ⟨6, c62, [.tmp 2]⟩

def TA : Nat → Option SFun
  | 3 => some F3
  | 4 => some F4
  | 6 => some F6
  | 7 => some F7
  | 8 => some F8
  | 9 => some F9
  | 10 => some F10
  | 11 => some F11
  | 12 => some F12
  | 13 => some F13
  | 14 => some F14
  | 15 => some F15
  | 16 => some F16
  | 17 => some F17
  | 20 => some F20
  | 21 => some F21
  | 22 => some F22
  | 23 => some F23
  | 24 => some F24
  | 25 => some F25
  | 26 => some F26
  | 27 => some F27
  | 28 => some F28
  | 29 => some F29
  | 30 => some F30
  | 31 => some F31
  | 32 => some F32
  | 33 => some F33
  | 34 => some F34
  | 35 => some F35
  | 36 => some F36
  | 37 => some F37
  | 38 => some F38
  | 39 => some F39
  | 40 => some F40
  | 41 => some F41
  | 42 => some F42
  | 43 => some F43
  | 45 => some F45
  | 46 => some F46
  | 47 => some F47
  | 48 => some F48
  | 49 => some F49
  | 50 => some F50
  | 51 => some F51
  | 52 => some F52
  | 53 => some F53
  | 54 => some F54
  | 55 => some F55
  | 56 => some F56
  | 57 => some F57
  | 59 => some F59
  | 60 => some F60
  | 61 => some F61
  | 62 => some F62
  | _ => none
def mdA : Nat → Mode
  | 9 => .t
  | 10 => .k
  | 12 => .k
  | 13 => .k
  | 15 => .t
  | 16 => (.z 1)
  | 21 => .k
  | 23 => .k
  | 24 => (.z 1)
  | 25 => (.z 1)
  | 29 => .k
  | 30 => .k
  | 31 => .k
  | 32 => (.z 1)
  | 33 => .k
  | 34 => .k
  | 35 => .k
  | 36 => (.z 1)
  | 37 => .k
  | 39 => (.z 1)
  | 40 => (.z 1)
  | 43 => (.z 1)
  | 45 => .k
  | 46 => (.z 1)
  | 47 => .k
  | 48 => .k
  | 49 => (.z 1)
  | 50 => (.z 1)
  | 51 => (.z 1)
  | 52 => .k
  | 56 => (.z 1)
  | 59 => .k
  | 60 => (.z 1)
  | 61 => (.z 1)
  | 62 => (.z 1)
  | _ => .q
def q3 : Nat → List (List Nat) × List (Nat × Nat)
  | 15 => ([[], [], [0, 1], [0, 1, 2], [0, 1, 2, 3], [], [], [5, 6], [5, 6, 7], [5, 6, 7, 8], [0, 1, 2, 3, 4, 5, 6, 7, 8, 9], [0, 1, 2, 3, 4, 5, 6, 7, 8, 9, 10], [0, 1, 2, 3, 4, 5, 6, 7, 8, 9, 10, 11], [0, 1, 2, 3, 4, 5, 6, 7, 8, 9, 10, 11], [0, 1, 2, 3, 4, 5, 6, 7, 8, 9, 10, 11, 12, 13], [0, 1, 2, 3, 4, 5, 6, 7, 8, 9, 10, 11, 12, 13, 14], [0, 1, 2, 3, 4, 5, 6, 7, 8, 9, 10, 11, 12, 13, 14, 15], [0, 1, 2, 3, 4, 5, 6, 7, 8, 9, 10, 11, 12, 13, 14, 15, 16], [0, 1, 2, 3, 4, 5, 6, 7, 8, 9, 10, 11], [0, 1, 2, 3, 4, 5, 6, 7, 8, 9, 10, 11], [0, 1, 2, 3, 4, 5, 6, 7, 8, 9, 10, 11, 18, 19], [0, 1, 2, 3, 4, 5, 6, 7, 8, 9, 10, 11, 18, 19, 20], [0, 1, 2, 3, 4, 5, 6, 7, 8, 9, 10, 11, 18, 19, 20, 21], [0, 1, 2, 3, 4, 5, 6, 7, 8, 9, 10, 11, 18, 19, 20, 21, 22], [0, 1, 2, 3, 4, 5, 6, 7, 8, 9, 10, 11, 12, 13, 14, 15, 16, 17, 18, 19, 20, 21, 22, 23], [0, 1, 2, 3, 4, 5, 6, 7, 8, 9, 10, 11, 12, 13, 14, 15, 16, 17, 18, 19, 20, 21, 22, 23, 24]], [])
  | 20 => ([[], [0], [], [], [2, 3], [2, 3, 4], [2, 3, 4, 5], [], [2, 3, 4, 5, 6, 7], [2, 3, 4, 5, 6, 7, 8], [2, 3, 4, 5, 6, 7, 8, 9], [0, 1, 2, 3, 4, 5, 6, 7, 8, 9, 10], [0, 1, 2, 3, 4, 5, 6, 7, 8, 9, 10, 11], [0, 1, 2, 3, 4, 5, 6, 7, 8, 9, 10, 11, 12], [0, 1, 2, 3, 4, 5, 6, 7, 8, 9, 10, 11, 12, 13], [0, 1, 2, 3, 4, 5, 6, 7, 8, 9, 10, 11, 12], [0, 1, 2, 3, 4, 5, 6, 7, 8, 9, 10, 11, 12], [0, 1, 2, 3, 4, 5, 6, 7, 8, 9, 10, 11, 12, 15, 16], [0, 1, 2, 3, 4, 5, 6, 7, 8, 9, 10, 11, 12, 15, 16, 17], [0, 1, 2, 3, 4, 5, 6, 7, 8, 9, 10, 11, 12, 15, 16, 17, 18], [0, 1, 2, 3, 4, 5, 6, 7, 8, 9, 10, 11, 12], [0, 1, 2, 3, 4, 5, 6, 7, 8, 9, 10, 11, 12, 15, 16, 17, 18, 19, 20], [0, 1, 2, 3, 4, 5, 6, 7, 8, 9, 10, 11, 12, 15, 16, 17, 18, 19, 20, 21], [0, 1, 2, 3, 4, 5, 6, 7, 8, 9, 10, 11, 12, 15, 16, 17, 18, 19, 20, 21, 22], [0, 1, 2, 3, 4, 5, 6, 7, 8, 9, 10, 11, 12, 13, 14, 15, 16, 17, 18, 19, 20, 21, 22, 23], [0, 1, 2, 3, 4, 5, 6, 7, 8, 9, 10, 11, 12, 13, 14, 15, 16, 17, 18, 19, 20, 21, 22, 23, 24]], [])
  | _ => ([], [])
theorem ok3 : slimF Tryd.prog 1 mdA q3 (some (53, 15)) Tryd.f3 = some F3 := by kernel_rfl
def q4 : Nat → List (List Nat) × List (Nat × Nat)
  | _ => ([], [])
theorem ok4 : slimF Tryd.prog 1 mdA q4 (some (53, 15)) Tryd.f4 = some F4 := by kernel_rfl
def q6 : Nat → List (List Nat) × List (Nat × Nat)
  | 18 => ([[], [], [], [1, 2], [1, 2, 3], [0, 1, 2, 3, 4], [0, 1, 2, 3, 4, 5], [0, 1, 2, 3, 4, 5, 6], [0, 1, 2, 3, 4, 5, 6], [], [0, 1, 2, 3, 4, 5, 6, 7, 9], [0, 1, 2, 3, 4, 5, 6, 7, 8, 9, 10]], [])
  | 20 => ([[], [], [], [], [3], [], [5], [3, 4, 5, 6], [0, 1], [0, 1, 8], [0, 1, 2, 3, 4, 5, 6, 7, 8, 9], [0, 1, 2, 3, 4, 5, 6, 7, 8, 9, 10]], [])
  | _ => ([], [])
theorem ok6 : slimF Tryd.prog 1 mdA q6 (some (53, 15)) Tryd.f6 = some F6 := by kernel_rfl
def q7 : Nat → List (List Nat) × List (Nat × Nat)
  | 14 => ([[], [], [], [], [3], [], [5], [5, 6], [5, 6, 7], [2, 3, 4, 5, 6, 7, 8], [0, 1, 2, 3, 4, 5, 6, 7, 8, 9], [0, 1, 2, 3, 4, 5, 6, 7, 8, 9, 10]], [])
  | 20 => ([[], [0], [0, 1], [0, 1, 2], [0, 1, 2, 3], [0, 1, 2, 3, 4], [0, 1, 2, 3], [0, 1, 2, 3], [0, 1, 2, 3, 7], [0, 1, 2, 3, 6, 7, 8], [0, 1, 2, 3, 6, 7, 8, 9], [0, 1, 2, 3, 6, 7, 8, 9, 10], [0, 1, 2, 3, 6, 7, 8, 9, 10, 11], [0, 1, 2, 3, 4, 5, 6, 7, 8, 9, 10, 11, 12], [0, 1, 2, 3, 4, 5, 6, 7, 8, 9, 10, 11, 12, 13]], [])
  | 23 => ([[], [], [1], [], [3], [], [5], [5, 6], [], [8], [8, 9], [5, 6, 7, 8, 9, 10], [0, 1, 2], [0, 1, 2, 12], [0, 1, 2, 3, 4, 5, 6, 7, 8, 9, 10, 11, 12, 13], [0, 1, 2, 3, 4, 5, 6, 7, 8, 9, 10, 11, 12, 13, 14]], [])
  | _ => ([], [])
theorem ok7 : slimF Tryd.prog 1 mdA q7 (some (53, 15)) Tryd.f7 = some F7 := by kernel_rfl
def q8 : Nat → List (List Nat) × List (Nat × Nat)
  | 10 => ([[], [], [1], [], [3], [], [5], [], [7], [], [9], [5, 6, 7, 8], [5, 6, 7, 8, 11], [5, 6, 7, 8, 9, 10, 11, 12], [5, 6, 7, 8, 9, 10, 11, 12, 13], [0, 1, 2, 3, 4, 5, 6, 7, 8, 9, 10, 11, 12, 13, 14], [0, 1, 2, 3, 4, 5, 6, 7, 8, 9, 10, 11, 12, 13, 14, 15], [0, 1, 2, 3, 4, 5, 6, 7, 8, 9, 10, 11, 12, 13, 14, 15, 16], [0, 1, 2, 3, 4, 5, 6, 7, 8, 9, 10, 11, 12, 13, 14, 15, 16], [0, 1, 2, 3, 4, 5, 6, 7, 8, 9, 10, 11, 12, 13, 14, 15, 16, 17], [0, 1, 2, 3, 4, 5, 6, 7, 8, 9, 10, 11, 12, 13, 14, 15, 16, 17, 18, 19]], [])
  | _ => ([], [])
theorem ok8 : slimF Tryd.prog 1 mdA q8 (some (53, 15)) Tryd.f8 = some F8 := by kernel_rfl
def q9 : Nat → List (List Nat) × List (Nat × Nat)
  | _ => ([], [])
theorem ok9 : slimF Tryd.prog 1 mdA q9 (some (53, 15)) Tryd.f9 = some F9 := by kernel_rfl
def q10 : Nat → List (List Nat) × List (Nat × Nat)
  | 19 => ([[], [0], [], [0, 1, 2], [], [0, 1, 2, 3, 4], [0, 1, 2, 3, 4, 5], [0, 1, 2, 3, 4, 5, 6], [0, 1, 2, 3, 4, 5, 6], [0, 1, 2, 3, 4, 5, 6, 7], [0, 1, 2, 3, 4, 5, 6, 7, 8, 9]], [(4294967295, 2), (3, 64)])
  | 14 => ([[], [], [1], [1, 2], [1, 2, 3], [], [5], [5, 6], [5, 6, 7], [1, 2, 3, 4, 5, 6, 7, 8], [0, 1, 2, 3, 4, 5, 6, 7, 8, 9], [0, 1, 2, 3, 4, 5, 6, 7, 8, 9, 10], [0, 1, 2, 3, 4, 5, 6, 7, 8, 9, 10, 11]], [])
  | _ => ([], [])
theorem ok10 : slimF Tryd.prog 1 mdA q10 (some (53, 15)) Tryd.f10 = some F10 := by kernel_rfl
def q11 : Nat → List (List Nat) × List (Nat × Nat)
  | _ => ([], [])
theorem ok11 : slimF Tryd.prog 1 mdA q11 (some (53, 15)) Tryd.f11 = some F11 := by kernel_rfl
def q12 : Nat → List (List Nat) × List (Nat × Nat)
  | _ => ([], [])
theorem ok12 : slimF Tryd.prog 1 mdA q12 (some (53, 15)) Tryd.f12 = some F12 := by kernel_rfl
def q13 : Nat → List (List Nat) × List (Nat × Nat)
  | 12 => ([[], [], [], [], [2, 3], [2, 3, 4], [2, 3, 4, 5], [], [7], [7, 8], [7, 8, 9], [2, 3, 4, 5, 6, 7, 8, 9, 10], [0, 1, 2, 3, 4, 5, 6, 7, 8, 9, 10, 11], [0, 1, 2, 3, 4, 5, 6, 7, 8, 9, 10, 11, 12], [0, 1, 2, 3, 4, 5, 6, 7, 8, 9, 10, 11, 12, 13]], [])
  | 18 => ([[], [], [], [], [2, 3], [2, 3, 4], [2, 3, 4, 5], [], [], [7, 8], [2, 3, 4, 5, 6, 7, 8, 9], [0, 1, 2, 3, 4, 5, 6, 7, 8, 9, 10], [0, 1, 2, 3, 4, 5, 6, 7, 8, 9, 10, 11], [0, 1, 2, 3, 4, 5, 6, 7, 8, 9, 10, 11, 12]], [])
  | _ => ([], [])
theorem ok13 : slimF Tryd.prog 1 mdA q13 (some (53, 15)) Tryd.f13 = some F13 := by kernel_rfl
def q14 : Nat → List (List Nat) × List (Nat × Nat)
  | _ => ([], [])
theorem ok14 : slimF Tryd.prog 1 mdA q14 (some (53, 15)) Tryd.f14 = some F14 := by kernel_rfl
def q15 : Nat → List (List Nat) × List (Nat × Nat)
  | _ => ([], [])
theorem ok15 : slimF Tryd.prog 1 mdA q15 (some (53, 15)) Tryd.f15 = some F15 := by kernel_rfl
def q16 : Nat → List (List Nat) × List (Nat × Nat)
  | _ => ([], [])
theorem ok16 : slimF Tryd.prog 1 mdA q16 (some (53, 15)) Tryd.f16 = some F16 := by kernel_rfl
def q17 : Nat → List (List Nat) × List (Nat × Nat)
  | _ => ([], [])
theorem ok17 : slimF Tryd.prog 1 mdA q17 (some (53, 15)) Tryd.f17 = some F17 := by kernel_rfl
def q20 : Nat → List (List Nat) × List (Nat × Nat)
  | _ => ([], [])
theorem ok20 : slimF Tryd.prog 1 mdA q20 (some (53, 15)) Tryd.f20 = some F20 := by kernel_rfl
def q21 : Nat → List (List Nat) × List (Nat × Nat)
  | _ => ([], [])
theorem ok21 : slimF Tryd.prog 1 mdA q21 (some (53, 15)) Tryd.f21 = some F21 := by kernel_rfl
def q22 : Nat → List (List Nat) × List (Nat × Nat)
  | _ => ([], [])
theorem ok22 : slimF Tryd.prog 1 mdA q22 (some (53, 15)) Tryd.f22 = some F22 := by kernel_rfl
def q23 : Nat → List (List Nat) × List (Nat × Nat)
  | 14 => ([[], [], [], [1, 2], [1, 2, 3], [0, 1, 2, 3, 4], [0, 1, 2, 3, 4, 5], [0, 1, 2, 3, 4, 5, 6], [0, 1, 2, 3, 4, 5, 6], [], [0, 1, 2, 3, 4, 5, 6, 7, 9], [0, 1, 2, 3, 4, 5, 6, 7, 8, 9, 10]], [])
  | _ => ([], [])
theorem ok23 : slimF Tryd.prog 1 mdA q23 (some (53, 15)) Tryd.f23 = some F23 := by kernel_rfl
def q24 : Nat → List (List Nat) × List (Nat × Nat)
  | _ => ([], [])
theorem ok24 : slimF Tryd.prog 1 mdA q24 (some (53, 15)) Tryd.f24 = some F24 := by kernel_rfl
def q25 : Nat → List (List Nat) × List (Nat × Nat)
  | 3 => ([[], [0], [], [2], [], [4], [], [6], [0, 1, 2, 3, 4, 5, 6, 7], [], [9], [0, 1, 2, 3, 4, 5, 6, 7, 8, 9, 10], [], [12], [], [14], [], [16], [], [18], [0, 1, 2, 3, 4, 5, 6, 7, 8, 12, 13, 14, 15, 16, 17, 18, 19], [], [21], [0, 1, 2, 3, 4, 5, 6, 7, 8, 12, 13, 14, 15, 16, 17, 18, 19, 20, 21, 22], [0, 1, 2, 3, 4, 5, 6, 7, 8, 9, 10, 11, 12, 13, 14, 15, 16, 17, 18, 19, 20, 21, 22, 23], [], [0, 1, 2, 3, 4, 5, 6, 7, 8, 9, 10, 11, 12, 13, 14, 15, 16, 17, 18, 19, 20, 21, 22, 23, 24, 25]], [])
  | _ => ([], [])
theorem ok25 : slimF Tryd.prog 1 mdA q25 (some (53, 15)) Tryd.f25 = some F25 := by kernel_rfl
def q26 : Nat → List (List Nat) × List (Nat × Nat)
  | _ => ([], [])
theorem ok26 : slimF Tryd.prog 1 mdA q26 (some (53, 15)) Tryd.f26 = some F26 := by kernel_rfl
def q27 : Nat → List (List Nat) × List (Nat × Nat)
  | _ => ([], [])
theorem ok27 : slimF Tryd.prog 1 mdA q27 (some (53, 15)) Tryd.f27 = some F27 := by kernel_rfl
def q28 : Nat → List (List Nat) × List (Nat × Nat)
  | 7 => ([[], [], [0, 1], [0, 1, 2], [], [], [4, 5], [4, 5, 6], [0, 1, 2, 3, 4, 5, 6, 7]], [])
  | _ => ([], [])
theorem ok28 : slimF Tryd.prog 1 mdA q28 (some (53, 15)) Tryd.f28 = some F28 := by kernel_rfl
def q29 : Nat → List (List Nat) × List (Nat × Nat)
  | 7 => ([[], [], [], [], [0, 1], [0, 1, 4], [0, 1, 2, 3, 4, 5], [0, 1, 2, 3, 4, 5, 6]], [])
  | _ => ([], [])
theorem ok29 : slimF Tryd.prog 1 mdA q29 (some (53, 15)) Tryd.f29 = some F29 := by kernel_rfl
def q30 : Nat → List (List Nat) × List (Nat × Nat)
  | 6 => ([[], [], [0, 1], [], [3], [], [], [5, 6], [0, 1, 2, 3, 4, 5, 6, 7], [0, 1, 2, 3, 4, 5, 6, 7, 8], [0, 1, 2, 3, 4, 5, 6, 7, 8, 9], [0, 1, 2, 3, 4, 5, 6, 7, 8, 9, 10], [0, 1, 2, 3, 4, 5, 6, 7, 8, 9, 10], [0, 1, 2, 3, 4, 5, 6, 7, 8, 9, 10, 11, 12], [0, 1, 2, 3, 4, 5, 6, 7, 8, 9, 10, 11, 12, 13]], [])
  | _ => ([], [])
theorem ok30 : slimF Tryd.prog 1 mdA q30 (some (53, 15)) Tryd.f30 = some F30 := by kernel_rfl
def q31 : Nat → List (List Nat) × List (Nat × Nat)
  | 4 => ([[], [], [0, 1], [], [], [4], [3, 4, 5], [0, 1, 2, 3, 4, 5, 6], [0, 1, 2, 3, 4, 5, 6, 7], [0, 1, 2, 3, 4, 5, 6, 7, 8], [0, 1, 2, 3, 4, 5, 6, 7, 8, 9], [0, 1, 2, 3, 4, 5, 6, 7, 8, 9], [0, 1, 2, 3, 4, 5, 6, 7, 8, 9, 10, 11], [0, 1, 2, 3, 4, 5, 6, 7, 8, 9, 10, 11, 12]], [])
  | _ => ([], [])
theorem ok31 : slimF Tryd.prog 1 mdA q31 (some (53, 15)) Tryd.f31 = some F31 := by kernel_rfl
def q32 : Nat → List (List Nat) × List (Nat × Nat)
  | _ => ([], [])
theorem ok32 : slimF Tryd.prog 1 mdA q32 (some (53, 15)) Tryd.f32 = some F32 := by kernel_rfl
def q33 : Nat → List (List Nat) × List (Nat × Nat)
  | _ => ([], [])
theorem ok33 : slimF Tryd.prog 1 mdA q33 (some (53, 15)) Tryd.f33 = some F33 := by kernel_rfl
def q34 : Nat → List (List Nat) × List (Nat × Nat)
  | _ => ([], [])
theorem ok34 : slimF Tryd.prog 1 mdA q34 (some (53, 15)) Tryd.f34 = some F34 := by kernel_rfl
def q35 : Nat → List (List Nat) × List (Nat × Nat)
  | 1 => ([[], [0], [0, 1], [], [3], [3, 4], [3, 4, 5], [3, 4, 5, 6], [0, 1, 2, 3, 4, 5, 6, 7], [0, 1, 2, 3, 4, 5, 6, 7, 8]], [])
  | _ => ([], [])
theorem ok35 : slimF Tryd.prog 1 mdA q35 (some (53, 15)) Tryd.f35 = some F35 := by kernel_rfl
def q36 : Nat → List (List Nat) × List (Nat × Nat)
  | _ => ([], [])
theorem ok36 : slimF Tryd.prog 1 mdA q36 (some (53, 15)) Tryd.f36 = some F36 := by kernel_rfl
def q37 : Nat → List (List Nat) × List (Nat × Nat)
  | _ => ([], [])
theorem ok37 : slimF Tryd.prog 1 mdA q37 (some (53, 15)) Tryd.f37 = some F37 := by kernel_rfl
def q38 : Nat → List (List Nat) × List (Nat × Nat)
  | _ => ([], [])
theorem ok38 : slimF Tryd.prog 1 mdA q38 (some (53, 15)) Tryd.f38 = some F38 := by kernel_rfl
def q39 : Nat → List (List Nat) × List (Nat × Nat)
  | _ => ([], [])
theorem ok39 : slimF Tryd.prog 1 mdA q39 (some (53, 15)) Tryd.f39 = some F39 := by kernel_rfl
def q40 : Nat → List (List Nat) × List (Nat × Nat)
  | _ => ([], [])
theorem ok40 : slimF Tryd.prog 1 mdA q40 (some (53, 15)) Tryd.f40 = some F40 := by kernel_rfl
def q41 : Nat → List (List Nat) × List (Nat × Nat)
  | 6 => ([[], [], [0, 1], [0, 1, 2], [], [], [4, 5], [4, 5, 6], [0, 1, 2, 3, 4, 5, 6, 7]], [])
  | _ => ([], [])
theorem ok41 : slimF Tryd.prog 1 mdA q41 (some (53, 15)) Tryd.f41 = some F41 := by kernel_rfl
def q42 : Nat → List (List Nat) × List (Nat × Nat)
  | _ => ([], [])
theorem ok42 : slimF Tryd.prog 1 mdA q42 (some (53, 15)) Tryd.f42 = some F42 := by kernel_rfl
def q43 : Nat → List (List Nat) × List (Nat × Nat)
  | _ => ([], [])
theorem ok43 : slimF Tryd.prog 1 mdA q43 (some (53, 15)) Tryd.f43 = some F43 := by kernel_rfl
def q45 : Nat → List (List Nat) × List (Nat × Nat)
  | _ => ([], [])
theorem ok45 : slimF Tryd.prog 1 mdA q45 (some (53, 15)) Tryd.f45 = some F45 := by kernel_rfl
def q46 : Nat → List (List Nat) × List (Nat × Nat)
  | 1 => ([[], [0], [], [2], [0, 1, 2, 3], [0, 1, 2, 3, 4], [], [6], [], [8], [6, 7, 8, 9], [0, 1, 2, 3, 4, 5, 6, 7, 8, 9, 10], [0, 1, 2, 3, 4, 5, 6, 7, 8, 9, 10, 11], [0, 1, 2, 3, 4, 5, 6, 7, 8, 9, 10, 11, 12]], [])
  | _ => ([], [])
theorem ok46 : slimF Tryd.prog 1 mdA q46 (some (53, 15)) Tryd.f46 = some F46 := by kernel_rfl
def q47 : Nat → List (List Nat) × List (Nat × Nat)
  | 9 => ([[], [], [], [1, 2], [1, 2, 3], [], [], [6], [5, 6, 7], [5, 6, 7, 8], [1, 2, 3, 4, 5, 6, 7, 8, 9], [1, 2, 3, 4, 5, 6, 7, 8, 9, 10], [0, 1, 2, 3, 4, 5, 6, 7, 8, 9, 10, 11], [0, 1, 2, 3, 4, 5, 6, 7, 8, 9, 10, 11, 12]], [])
  | _ => ([], [])
theorem ok47 : slimF Tryd.prog 1 mdA q47 (some (53, 15)) Tryd.f47 = some F47 := by kernel_rfl
def q48 : Nat → List (List Nat) × List (Nat × Nat)
  | _ => ([], [])
theorem ok48 : slimF Tryd.prog 1 mdA q48 (some (53, 15)) Tryd.f48 = some F48 := by kernel_rfl
def q49 : Nat → List (List Nat) × List (Nat × Nat)
  | _ => ([], [])
theorem ok49 : slimF Tryd.prog 1 mdA q49 (some (53, 15)) Tryd.f49 = some F49 := by kernel_rfl
def q50 : Nat → List (List Nat) × List (Nat × Nat)
  | _ => ([], [])
theorem ok50 : slimF Tryd.prog 1 mdA q50 (some (53, 15)) Tryd.f50 = some F50 := by kernel_rfl
def q51 : Nat → List (List Nat) × List (Nat × Nat)
  | _ => ([], [])
theorem ok51 : slimF Tryd.prog 1 mdA q51 (some (53, 15)) Tryd.f51 = some F51 := by kernel_rfl
def q52 : Nat → List (List Nat) × List (Nat × Nat)
  | _ => ([], [])
theorem ok52 : slimF Tryd.prog 1 mdA q52 (some (53, 15)) Tryd.f52 = some F52 := by kernel_rfl
def q53 : Nat → List (List Nat) × List (Nat × Nat)
  | _ => ([], [])
theorem ok53 : slimF Tryd.prog 1 mdA q53 (some (53, 15)) Tryd.f53 = some F53 := by kernel_rfl
def q54 : Nat → List (List Nat) × List (Nat × Nat)
  | _ => ([], [])
theorem ok54 : slimF Tryd.prog 1 mdA q54 (some (53, 15)) Tryd.f54 = some F54 := by kernel_rfl
def q55 : Nat → List (List Nat) × List (Nat × Nat)
  | _ => ([], [])
theorem ok55 : slimF Tryd.prog 1 mdA q55 (some (53, 15)) Tryd.f55 = some F55 := by kernel_rfl
def q56 : Nat → List (List Nat) × List (Nat × Nat)
  | 1 => ([[], [0], [], [2], [0, 1], [0, 1, 4], [0, 1, 2, 3, 4, 5], [0, 1, 2, 3, 4, 5, 6]], [(9, 11)])
  | 6 => ([[], [], [], [2], [2, 3], [], [], [5, 6], [5, 6, 7], [], [0, 2, 3, 4, 9], [0, 2, 3, 4, 9, 10], [], [0, 1, 2, 3, 4, 5, 6, 7, 8, 9, 10, 11, 12], [0, 1, 2, 3, 4, 5, 6, 7, 8, 9, 10, 11, 12, 13]], [(30, 33)])
  | 10 => ([[], [], [], [1, 2], [1, 2, 3], [], [5], [], [5, 6, 7], [5, 6, 7, 8], [1, 2, 3, 4, 5, 6, 7, 8, 9], [], [0, 1, 2, 3, 4, 5, 6, 7, 8, 9, 10, 11], [0, 1, 2, 3, 4, 5, 6, 7, 8, 9, 10, 11, 12]], [])
  | 13 => ([[], [], [0], [0, 1, 2]], [(3, 2)])
  | _ => ([], [])
theorem ok56 : slimF Tryd.prog 1 mdA q56 (some (53, 15)) Tryd.f56 = some F56 := by kernel_rfl
def q57 : Nat → List (List Nat) × List (Nat × Nat)
  | _ => ([], [])
theorem ok57 : slimF Tryd.prog 1 mdA q57 (some (53, 15)) Tryd.f57 = some F57 := by kernel_rfl
def q59 : Nat → List (List Nat) × List (Nat × Nat)
  | _ => ([], [])
theorem ok59 : slimF Tryd.prog 1 mdA q59 (some (53, 15)) Tryd.f59 = some F59 := by kernel_rfl
def q60 : Nat → List (List Nat) × List (Nat × Nat)
  | _ => ([], [])
theorem ok60 : slimF Tryd.prog 1 mdA q60 (some (53, 15)) Tryd.f60 = some F60 := by kernel_rfl
def q61 : Nat → List (List Nat) × List (Nat × Nat)
  | _ => ([], [])
theorem ok61 : slimF Tryd.prog 1 mdA q61 (some (53, 15)) Tryd.f61 = some F61 := by kernel_rfl
def q62 : Nat → List (List Nat) × List (Nat × Nat)
  | _ => ([], [])
theorem ok62 : slimF Tryd.prog 1 mdA q62 (some (53, 15)) Tryd.f62 = some F62 := by kernel_rfl
def qA : Nat → Nat → List (List Nat) × List (Nat × Nat)
  | 3 => q3
  | 4 => q4
  | 6 => q6
  | 7 => q7
  | 8 => q8
  | 9 => q9
  | 10 => q10
  | 11 => q11
  | 12 => q12
  | 13 => q13
  | 14 => q14
  | 15 => q15
  | 16 => q16
  | 17 => q17
  | 20 => q20
  | 21 => q21
  | 22 => q22
  | 23 => q23
  | 24 => q24
  | 25 => q25
  | 26 => q26
  | 27 => q27
  | 28 => q28
  | 29 => q29
  | 30 => q30
  | 31 => q31
  | 32 => q32
  | 33 => q33
  | 34 => q34
  | 35 => q35
  | 36 => q36
  | 37 => q37
  | 38 => q38
  | 39 => q39
  | 40 => q40
  | 41 => q41
  | 42 => q42
  | 43 => q43
  | 45 => q45
  | 46 => q46
  | 47 => q47
  | 48 => q48
  | 49 => q49
  | 50 => q50
  | 51 => q51
  | 52 => q52
  | 53 => q53
  | 54 => q54
  | 55 => q55
  | 56 => q56
  | 57 => q57
  | 59 => q59
  | 60 => q60
  | 61 => q61
  | 62 => q62
  | _ => fun _ => ([], [])
theorem TA_ok : ∀ f sf, TA f = some sf → ∃ fn, Tryd.prog.funcs[f]? = some fn ∧ slimF Tryd.prog 1 mdA (qA f) (some (53, 15)) fn = some sf := by
  intro f sf h
  unfold TA at h
  split at h
  · cases h; exact ⟨Tryd.f3, Tryd.func3, ok3⟩
  · cases h; exact ⟨Tryd.f4, Tryd.func4, ok4⟩
  · cases h; exact ⟨Tryd.f6, Tryd.func6, ok6⟩
  · cases h; exact ⟨Tryd.f7, Tryd.func7, ok7⟩
  · cases h; exact ⟨Tryd.f8, Tryd.func8, ok8⟩
  · cases h; exact ⟨Tryd.f9, Tryd.func9, ok9⟩
  · cases h; exact ⟨Tryd.f10, Tryd.func10, ok10⟩
  · cases h; exact ⟨Tryd.f11, Tryd.func11, ok11⟩
  · cases h; exact ⟨Tryd.f12, Tryd.func12, ok12⟩
  · cases h; exact ⟨Tryd.f13, Tryd.func13, ok13⟩
  · cases h; exact ⟨Tryd.f14, Tryd.func14, ok14⟩
  · cases h; exact ⟨Tryd.f15, Tryd.func15, ok15⟩
  · cases h; exact ⟨Tryd.f16, Tryd.func16, ok16⟩
  · cases h; exact ⟨Tryd.f17, Tryd.func17, ok17⟩
  · cases h; exact ⟨Tryd.f20, Tryd.func20, ok20⟩
  · cases h; exact ⟨Tryd.f21, Tryd.func21, ok21⟩
  · cases h; exact ⟨Tryd.f22, Tryd.func22, ok22⟩
  · cases h; exact ⟨Tryd.f23, Tryd.func23, ok23⟩
  · cases h; exact ⟨Tryd.f24, Tryd.func24, ok24⟩
  · cases h; exact ⟨Tryd.f25, Tryd.func25, ok25⟩
  · cases h; exact ⟨Tryd.f26, Tryd.func26, ok26⟩
  · cases h; exact ⟨Tryd.f27, Tryd.func27, ok27⟩
  · cases h; exact ⟨Tryd.f28, Tryd.func28, ok28⟩
  · cases h; exact ⟨Tryd.f29, Tryd.func29, ok29⟩
  · cases h; exact ⟨Tryd.f30, Tryd.func30, ok30⟩
  · cases h; exact ⟨Tryd.f31, Tryd.func31, ok31⟩
  · cases h; exact ⟨Tryd.f32, Tryd.func32, ok32⟩
  · cases h; exact ⟨Tryd.f33, Tryd.func33, ok33⟩
  · cases h; exact ⟨Tryd.f34, Tryd.func34, ok34⟩
  · cases h; exact ⟨Tryd.f35, Tryd.func35, ok35⟩
  · cases h; exact ⟨Tryd.f36, Tryd.func36, ok36⟩
  · cases h; exact ⟨Tryd.f37, Tryd.func37, ok37⟩
  · cases h; exact ⟨Tryd.f38, Tryd.func38, ok38⟩
  · cases h; exact ⟨Tryd.f39, Tryd.func39, ok39⟩
  · cases h; exact ⟨Tryd.f40, Tryd.func40, ok40⟩
  · cases h; exact ⟨Tryd.f41, Tryd.func41, ok41⟩
  · cases h; exact ⟨Tryd.f42, Tryd.func42, ok42⟩
  · cases h; exact ⟨Tryd.f43, Tryd.func43, ok43⟩
  · cases h; exact ⟨Tryd.f45, Tryd.func45, ok45⟩
  · cases h; exact ⟨Tryd.f46, Tryd.func46, ok46⟩
  · cases h; exact ⟨Tryd.f47, Tryd.func47, ok47⟩
  · cases h; exact ⟨Tryd.f48, Tryd.func48, ok48⟩
  · cases h; exact ⟨Tryd.f49, Tryd.func49, ok49⟩
  · cases h; exact ⟨Tryd.f50, Tryd.func50, ok50⟩
  · cases h; exact ⟨Tryd.f51, Tryd.func51, ok51⟩
  · cases h; exact ⟨Tryd.f52, Tryd.func52, ok52⟩
  · cases h; exact ⟨Tryd.f53, Tryd.func53, ok53⟩
  · cases h; exact ⟨Tryd.f54, Tryd.func54, ok54⟩
  · cases h; exact ⟨Tryd.f55, Tryd.func55, ok55⟩
  · cases h; exact ⟨Tryd.f56, Tryd.func56, ok56⟩
  · cases h; exact ⟨Tryd.f57, Tryd.func57, ok57⟩
  · cases h; exact ⟨Tryd.f59, Tryd.func59, ok59⟩
  · cases h; exact ⟨Tryd.f60, Tryd.func60, ok60⟩
  · cases h; exact ⟨Tryd.f61, Tryd.func61, ok61⟩
  · cases h; exact ⟨Tryd.f62, Tryd.func62, ok62⟩
  · cases h
end Go.Proofs.YtpleidpbapgmiaaDoor.Sy
