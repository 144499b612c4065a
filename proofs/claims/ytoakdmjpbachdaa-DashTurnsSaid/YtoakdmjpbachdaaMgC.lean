import Derived.Test.YtoakdmjpbachdaaMgB
import Derived.Test.YtoakdmjpbachdaaProg
import Derived.KernelRfl
/- Functions of the program, slimmed down, and the check that they are. Conditions: none. -/
namespace Go.Proofs.Ytoakdmjpbachdaa.Sy
open Go Go.Proofs
set_option linter.unusedVariables false

def r3_0 : List SOper := [
  ⟨(some 1), .box (.t 0), none⟩,
  ⟨(some 2), .mv (.c (.one (.sc (.bool false)))), none⟩]
def r3_1 : List SOper := [
  ⟨(some 6), .fadr 0 (.t 1), none⟩,
  ⟨(some 7), .load1 (.t 6), none⟩,
  ⟨(some 8), .len (.t 7), none⟩,
  ⟨(some 9), .bin .gtr (.t 8) (.c (.one (.sc (.int .i64 100)))), none⟩]
def r3_2 : List SOper := [
  ⟨(some 10), .call (.z 0) 9 [], none⟩,
  ⟨(some 2), .mv (.t 10), none⟩]
def r3_3 : List SOper := [
  ⟨(some 11), .fadr 0 (.t 1), none⟩,
  ⟨(some 12), .load1 (.t 11), none⟩,
  ⟨(some 13), .fadr 1 (.t 1), none⟩,
  ⟨(some 14), .load1 (.t 13), none⟩,
  ⟨(some 15), .call .q 10 [(.t 12), (.t 14)], none⟩,
  ⟨(some 16), .un .not (.t 15), none⟩]
def r3_4 : List SOper := [
  ⟨(some 17), .loadA 2 (.t 1), none⟩,
  ⟨(some 18), .call .q 11 [(.t 17)], none⟩,
  ⟨(some 19), .bin .eql (.t 18) (.c (.one (.sc (.int .i64 30)))), none⟩,
  ⟨(some 20), .mv (.t 19), none⟩,
  ⟨(some 21), .call (.z 0) 9 [], (some (some 20, true))⟩,
  ⟨(some 22), .pick (.t 20) (.t 21) (.c (.one (.sc (.bool false)))), none⟩,
  ⟨(some 2), .mv (.t 22), none⟩]
def r3_5 : List SOper := [
  ⟨(some 3), .mv (.c (.one (.sc (.int .i64 0)))), none⟩]
def r3_6 : List SOper := [
  ⟨(some 23), .fadr 0 (.t 1), none⟩,
  ⟨(some 24), .load1 (.t 23), none⟩,
  ⟨(some 25), .len (.t 24), none⟩,
  ⟨(some 26), .mv (.c (.one (.sc (.int .i64 0)))), none⟩]
def r3_7 : List SOper := [
  ⟨(some 27), .bin .lss (.t 26) (.t 25), none⟩]
def r3_8 : List SOper := [
  ⟨(some 28), .iadrS 1 (.t 24) (.t 26), none⟩,
  ⟨(some 29), .load1 (.t 28), none⟩,
  ⟨(some 5), .mv (.t 29), none⟩]
def r3_9 : List SOper := [
  ⟨(some 30), .mv (.t 3), none⟩,
  ⟨(some 31), .mv (.t 5), none⟩,
  ⟨(some 32), .bin .add (.t 30) (.t 31), none⟩,
  ⟨(some 3), .mv (.t 32), none⟩]
def r3_10 : List SOper := [
  ⟨(some 33), .bin .add (.t 26) (.c (.one (.sc (.int .i64 1)))), none⟩,
  ⟨(some 26), .mv (.t 33), none⟩]
def l3_0 : SC := (.seq (.reg r3_7) (.seq (.cond (.t 27) .skip (.exit 0)) (.seq (.block 1 (.seq (.reg r3_8) (.reg r3_9))) (.reg r3_10))))
def r3_11 : List SOper := [
  ⟨(some 34), .loadA 2 (.t 1), none⟩,
  ⟨(some 35), .call .q 11 [(.t 34)], none⟩,
  ⟨(some 36), .bin .eql (.t 35) (.c (.one (.sc (.int .i64 0)))), none⟩,
  ⟨(some 37), .mv (.t 36), none⟩,
  ⟨(some 38), .loadA 2 (.t 1), (some (some 37, true))⟩,
  ⟨(some 39), .call .q 12 [(.t 38)], (some (some 37, true))⟩,
  ⟨(some 40), .mv (.t 3), (some (some 37, true))⟩,
  ⟨(some 41), .bin .eql (.t 39) (.t 40), (some (some 37, true))⟩,
  ⟨(some 42), .pick (.t 37) (.t 41) (.c (.one (.sc (.bool false)))), none⟩,
  ⟨(some 43), .mv (.t 42), none⟩,
  ⟨(some 44), .call (.z 0) 9 [], (some (some 43, true))⟩,
  ⟨(some 45), .pick (.t 43) (.t 44) (.c (.one (.sc (.bool false)))), none⟩,
  ⟨(some 2), .mv (.t 45), none⟩]
def c3 : SC := (.seq (.reg r3_0) (.seq (.seq (.reg r3_1) (.cond (.t 9) (.seq (.reg r3_2) .ret) .skip)) (.seq (.seq (.reg r3_3) (.cond (.t 16) (.seq (.reg r3_4) .ret) .skip)) (.seq (.reg r3_5) (.seq (.seq (.reg r3_6) (.block 0 (.loop l3_0))) (.seq (.reg r3_11) .ret))))))
/-- limner/limnerlaw09.DashChecks -/
def F3 : SFun := ⟨46, c3, [.tmp 2]⟩

def r4_0 : List SOper := [
  ⟨(some 1), .box (.t 0), none⟩,
  ⟨(some 2), .mv (.c (.one (.sc (.bool false)))), none⟩]
def r4_1 : List SOper := [
  ⟨(some 8), .fadr 0 (.t 1), none⟩,
  ⟨(some 9), .load1 (.t 8), none⟩,
  ⟨(some 10), .len (.t 9), none⟩,
  ⟨(some 11), .bin .gtr (.t 10) (.c (.one (.sc (.int .i64 60)))), none⟩]
def r4_2 : List SOper := [
  ⟨(some 12), .call (.z 0) 9 [], none⟩,
  ⟨(some 2), .mv (.t 12), none⟩]
def r4_3 : List SOper := [
  ⟨(some 13), .fadr 0 (.t 1), none⟩,
  ⟨(some 14), .load1 (.t 13), none⟩,
  ⟨(some 15), .call .k 13 [(.t 14)], none⟩,
  ⟨(some 3), .mv (.t 15), none⟩]
def r4_4 : List SOper := [
  ⟨(some 17), .loadA 2 (.t 1), none⟩,
  ⟨(some 18), .call .k 14 [(.t 17)], none⟩,
  ⟨(some 16), .mv (.t 18), none⟩,
  ⟨(some 19), .ext (.t 16) 0, none⟩,
  ⟨(some 20), .ext (.t 16) 1, none⟩,
  ⟨(some 4), .mv (.t 19), none⟩,
  ⟨(some 5), .mv (.t 20), none⟩]
def r4_5 : List SOper := [
  ⟨(some 21), .mv (.t 3), none⟩,
  ⟨(some 22), .call .q 15 [(.t 21)], none⟩,
  ⟨(some 23), .un .not (.t 22), none⟩]
def r4_6 : List SOper := [
  ⟨(some 24), .mv (.t 5), none⟩,
  ⟨(some 25), .bin .eql (.t 24) (.c (.one (.sc (.int .i64 30)))), none⟩,
  ⟨(some 26), .mv (.t 25), none⟩,
  ⟨(some 27), .mv (.t 4), (some (some 26, true))⟩,
  ⟨(some 28), .len (.t 27), (some (some 26, true))⟩,
  ⟨(some 29), .bin .eql (.t 28) (.c (.one (.sc (.int .i64 0)))), (some (some 26, true))⟩,
  ⟨(some 30), .pick (.t 26) (.t 29) (.c (.one (.sc (.bool false)))), none⟩,
  ⟨(some 31), .mv (.t 30), none⟩,
  ⟨(some 32), .call (.z 0) 9 [], (some (some 31, true))⟩,
  ⟨(some 33), .pick (.t 31) (.t 32) (.c (.one (.sc (.bool false)))), none⟩,
  ⟨(some 2), .mv (.t 33), none⟩]
def r4_7 : List SOper := [
  ⟨(some 35), .mv (.t 3), none⟩,
  ⟨(some 36), .fadr 1 (.t 1), none⟩,
  ⟨(some 37), .load1 (.t 36), none⟩,
  ⟨(some 38), .call .k 16 [(.t 35), (.t 37)], none⟩,
  ⟨(some 34), .mv (.t 38), none⟩,
  ⟨(some 39), .ext (.t 34) 0, none⟩,
  ⟨(some 40), .ext (.t 34) 1, none⟩,
  ⟨(some 6), .mv (.t 39), none⟩,
  ⟨(some 7), .mv (.t 40), none⟩]
def r4_8 : List SOper := [
  ⟨(some 41), .mv (.t 7), none⟩,
  ⟨(some 42), .un .not (.t 41), none⟩]
def r4_9 : List SOper := [
  ⟨(some 43), .mv (.t 5), none⟩,
  ⟨(some 44), .bin .eql (.t 43) (.c (.one (.sc (.int .i64 10)))), none⟩,
  ⟨(some 45), .mv (.t 44), none⟩,
  ⟨(some 46), .mv (.t 4), (some (some 45, true))⟩,
  ⟨(some 47), .len (.t 46), (some (some 45, true))⟩,
  ⟨(some 48), .bin .eql (.t 47) (.c (.one (.sc (.int .i64 0)))), (some (some 45, true))⟩,
  ⟨(some 49), .pick (.t 45) (.t 48) (.c (.one (.sc (.bool false)))), none⟩,
  ⟨(some 50), .mv (.t 49), none⟩,
  ⟨(some 51), .call (.z 0) 9 [], (some (some 50, true))⟩,
  ⟨(some 52), .pick (.t 50) (.t 51) (.c (.one (.sc (.bool false)))), none⟩,
  ⟨(some 2), .mv (.t 52), none⟩]
def r4_10 : List SOper := [
  ⟨(some 53), .mv (.t 5), none⟩,
  ⟨(some 54), .bin .eql (.t 53) (.c (.one (.sc (.int .i64 0)))), none⟩,
  ⟨(some 55), .mv (.t 54), none⟩,
  ⟨(some 56), .mv (.t 4), (some (some 55, true))⟩,
  ⟨(some 57), .mv (.t 6), (some (some 55, true))⟩,
  ⟨(some 58), .call .q 17 [(.t 56), (.t 57)], (some (some 55, true))⟩,
  ⟨(some 59), .pick (.t 55) (.t 58) (.c (.one (.sc (.bool false)))), none⟩,
  ⟨(some 60), .mv (.t 59), none⟩,
  ⟨(some 61), .fadr 0 (.t 1), (some (some 60, true))⟩,
  ⟨(some 62), .load1 (.t 61), (some (some 60, true))⟩,
  ⟨(some 63), .mv (.t 3), (some (some 60, true))⟩,
  ⟨(some 64), .call .q 17 [(.t 62), (.t 63)], (some (some 60, true))⟩,
  ⟨(some 65), .pick (.t 60) (.t 64) (.c (.one (.sc (.bool false)))), none⟩,
  ⟨(some 66), .mv (.t 65), none⟩,
  ⟨(some 67), .call (.z 0) 9 [], (some (some 66, true))⟩,
  ⟨(some 68), .pick (.t 66) (.t 67) (.c (.one (.sc (.bool false)))), none⟩,
  ⟨(some 2), .mv (.t 68), none⟩]
def c4 : SC := (.seq (.reg r4_0) (.seq (.seq (.reg r4_1) (.cond (.t 11) (.seq (.reg r4_2) .ret) .skip)) (.seq (.reg r4_3) (.seq (.reg r4_4) (.seq (.seq (.reg r4_5) (.cond (.t 23) (.seq (.reg r4_6) .ret) .skip)) (.seq (.reg r4_7) (.seq (.seq (.reg r4_8) (.cond (.t 42) (.seq (.reg r4_9) .ret) .skip)) (.seq (.reg r4_10) .ret))))))))
/-- limner/limnerlaw09.DashWays -/
def F4 : SFun := ⟨69, c4, [.tmp 2]⟩

def r5_0 : List SOper := [
  ⟨(some 2), .box (.t 0), none⟩,
  ⟨(some 3), .box (.t 1), none⟩,
  ⟨(some 4), .mv (.c (.one (.sc (.bool false)))), none⟩]
def r5_1 : List SOper := [
  ⟨(some 14), .fadr 0 (.t 2), none⟩,
  ⟨(some 15), .load1 (.t 14), none⟩,
  ⟨(some 16), .len (.t 15), none⟩,
  ⟨(some 17), .bin .gtr (.t 16) (.c (.one (.sc (.int .i64 20)))), none⟩,
  ⟨(some 18), .mv (.t 17), none⟩,
  ⟨(some 19), .fadr 0 (.t 3), (some (some 18, false))⟩,
  ⟨(some 20), .load1 (.t 19), (some (some 18, false))⟩,
  ⟨(some 21), .len (.t 20), (some (some 18, false))⟩,
  ⟨(some 22), .bin .gtr (.t 21) (.c (.one (.sc (.int .i64 20)))), (some (some 18, false))⟩,
  ⟨(some 23), .pick (.t 18) (.c (.one (.sc (.bool true)))) (.t 22), none⟩]
def r5_2 : List SOper := [
  ⟨(some 24), .call (.z 0) 9 [], none⟩,
  ⟨(some 4), .mv (.t 24), none⟩]
def r5_3 : List SOper := [
  ⟨(some 25), .fadr 0 (.t 2), none⟩,
  ⟨(some 26), .load1 (.t 25), none⟩,
  ⟨(some 27), .call .k 13 [(.t 26)], none⟩,
  ⟨(some 5), .mv (.t 27), none⟩]
def r5_4 : List SOper := [
  ⟨(some 29), .loadA 2 (.t 2), none⟩,
  ⟨(some 30), .loadA 2 (.t 3), none⟩,
  ⟨(some 31), .call .k 18 [(.t 29), (.t 30)], none⟩,
  ⟨(some 28), .mv (.t 31), none⟩,
  ⟨(some 32), .ext (.t 28) 0, none⟩,
  ⟨(some 33), .ext (.t 28) 1, none⟩,
  ⟨(some 6), .mv (.t 32), none⟩,
  ⟨(some 7), .mv (.t 33), none⟩]
def r5_5 : List SOper := [
  ⟨(some 34), .fadr 0 (.t 2), none⟩,
  ⟨(some 35), .load1 (.t 34), none⟩,
  ⟨(some 36), .mv (.t 5), none⟩,
  ⟨(some 37), .call .q 17 [(.t 35), (.t 36)], none⟩,
  ⟨(some 38), .un .not (.t 37), none⟩]
def r5_6 : List SOper := [
  ⟨(some 4), .mv (.c (.one (.sc (.bool false)))), none⟩]
def r5_7 : List SOper := [
  ⟨(some 39), .fadr 0 (.t 3), none⟩,
  ⟨(some 40), .load1 (.t 39), none⟩,
  ⟨(some 41), .fadr 1 (.t 3), none⟩,
  ⟨(some 42), .load1 (.t 41), none⟩,
  ⟨(some 43), .call .q 10 [(.t 40), (.t 42)], none⟩,
  ⟨(some 44), .un .not (.t 43), none⟩,
  ⟨(some 45), .mv (.t 44), none⟩,
  ⟨(some 46), .mv (.t 5), (some (some 45, false))⟩,
  ⟨(some 47), .call .q 15 [(.t 46)], (some (some 45, false))⟩,
  ⟨(some 48), .un .not (.t 47), (some (some 45, false))⟩,
  ⟨(some 49), .pick (.t 45) (.c (.one (.sc (.bool true)))) (.t 48), none⟩]
def r5_8 : List SOper := [
  ⟨(some 50), .mv (.t 7), none⟩,
  ⟨(some 51), .bin .eql (.t 50) (.c (.one (.sc (.int .i64 30)))), none⟩,
  ⟨(some 52), .mv (.t 51), none⟩,
  ⟨(some 53), .mv (.t 6), (some (some 52, true))⟩,
  ⟨(some 54), .len (.t 53), (some (some 52, true))⟩,
  ⟨(some 55), .bin .eql (.t 54) (.c (.one (.sc (.int .i64 0)))), (some (some 52, true))⟩,
  ⟨(some 56), .pick (.t 52) (.t 55) (.c (.one (.sc (.bool false)))), none⟩,
  ⟨(some 57), .mv (.t 56), none⟩,
  ⟨(some 58), .call (.z 0) 9 [], (some (some 57, true))⟩,
  ⟨(some 59), .pick (.t 57) (.t 58) (.c (.one (.sc (.bool false)))), none⟩,
  ⟨(some 4), .mv (.t 59), none⟩]
def r5_9 : List SOper := [
  ⟨(some 61), .mv (.t 5), none⟩,
  ⟨(some 62), .fadr 1 (.t 2), none⟩,
  ⟨(some 63), .load1 (.t 62), none⟩,
  ⟨(some 64), .call .k 16 [(.t 61), (.t 63)], none⟩,
  ⟨(some 60), .mv (.t 64), none⟩,
  ⟨(some 65), .ext (.t 60) 0, none⟩,
  ⟨(some 66), .ext (.t 60) 1, none⟩,
  ⟨(some 8), .mv (.t 65), none⟩,
  ⟨(some 9), .mv (.t 66), none⟩]
def r5_10 : List SOper := [
  ⟨(some 67), .mv (.t 9), none⟩,
  ⟨(some 68), .un .not (.t 67), none⟩]
def r5_11 : List SOper := [
  ⟨(some 69), .mv (.t 7), none⟩,
  ⟨(some 70), .bin .eql (.t 69) (.c (.one (.sc (.int .i64 10)))), none⟩,
  ⟨(some 71), .mv (.t 70), none⟩,
  ⟨(some 72), .mv (.t 6), (some (some 71, true))⟩,
  ⟨(some 73), .len (.t 72), (some (some 71, true))⟩,
  ⟨(some 74), .bin .eql (.t 73) (.c (.one (.sc (.int .i64 0)))), (some (some 71, true))⟩,
  ⟨(some 75), .pick (.t 71) (.t 74) (.c (.one (.sc (.bool false)))), none⟩,
  ⟨(some 76), .mv (.t 75), none⟩,
  ⟨(some 77), .call (.z 0) 9 [], (some (some 76, true))⟩,
  ⟨(some 78), .pick (.t 76) (.t 77) (.c (.one (.sc (.bool false)))), none⟩,
  ⟨(some 4), .mv (.t 78), none⟩]
def r5_12 : List SOper := [
  ⟨(some 80), .mv (.t 5), none⟩,
  ⟨(some 81), .len (.t 80), none⟩,
  ⟨(some 82), .bin .eql (.t 81) (.c (.one (.sc (.int .i64 0)))), none⟩,
  ⟨(some 79), .mv (.t 82), none⟩]
def r5_13 : List SOper := [
  ⟨(some 83), .mv (.t 7), none⟩,
  ⟨(some 84), .bin .eql (.t 83) (.c (.one (.sc (.int .i64 0)))), none⟩,
  ⟨(some 85), .mv (.t 84), none⟩,
  ⟨(some 86), .mv (.t 6), (some (some 85, true))⟩,
  ⟨(some 87), .len (.t 86), (some (some 85, true))⟩,
  ⟨(some 88), .bin .eql (.t 87) (.c (.one (.sc (.int .i64 0)))), (some (some 85, true))⟩,
  ⟨(some 89), .pick (.t 85) (.t 88) (.c (.one (.sc (.bool false)))), none⟩,
  ⟨(some 90), .mv (.t 89), none⟩,
  ⟨(some 91), .call (.z 0) 9 [], (some (some 90, true))⟩,
  ⟨(some 92), .pick (.t 90) (.t 91) (.c (.one (.sc (.bool false)))), none⟩,
  ⟨(some 4), .mv (.t 92), none⟩]
def r5_14 : List SOper := [
  ⟨(some 94), .fadr 0 (.t 3), none⟩,
  ⟨(some 95), .load1 (.t 94), none⟩,
  ⟨(some 96), .len (.t 95), none⟩,
  ⟨(some 97), .bin .eql (.t 96) (.c (.one (.sc (.int .i64 0)))), none⟩,
  ⟨(some 93), .mv (.t 97), none⟩]
def r5_15 : List SOper := [
  ⟨(some 98), .mv (.t 7), none⟩,
  ⟨(some 99), .bin .eql (.t 98) (.c (.one (.sc (.int .i64 0)))), none⟩,
  ⟨(some 100), .mv (.t 99), none⟩,
  ⟨(some 101), .mv (.t 6), (some (some 100, true))⟩,
  ⟨(some 102), .len (.t 101), (some (some 100, true))⟩,
  ⟨(some 103), .bin .eql (.t 102) (.c (.one (.sc (.int .i64 1)))), (some (some 100, true))⟩,
  ⟨(some 104), .pick (.t 100) (.t 103) (.c (.one (.sc (.bool false)))), none⟩,
  ⟨(some 105), .mv (.t 104), none⟩,
  ⟨(some 106), .mv (.t 6), (some (some 105, true))⟩,
  ⟨(some 107), .iadrS 2 (.t 106) (.c (.one (.sc (.int .i64 0)))), (some (some 105, true))⟩,
  ⟨(some 108), .fadr 0 (.t 107), (some (some 105, true))⟩,
  ⟨(some 109), .load1 (.t 108), (some (some 105, true))⟩,
  ⟨(some 110), .mv (.t 5), (some (some 105, true))⟩,
  ⟨(some 111), .call .q 17 [(.t 109), (.t 110)], (some (some 105, true))⟩,
  ⟨(some 112), .pick (.t 105) (.t 111) (.c (.one (.sc (.bool false)))), none⟩,
  ⟨(some 113), .mv (.t 112), none⟩,
  ⟨(some 114), .mv (.t 6), (some (some 113, true))⟩,
  ⟨(some 115), .iadrS 2 (.t 114) (.c (.one (.sc (.int .i64 0)))), (some (some 113, true))⟩,
  ⟨(some 116), .fadr 1 (.t 115), (some (some 113, true))⟩,
  ⟨(some 117), .load1 (.t 116), (some (some 113, true))⟩,
  ⟨(some 118), .fadr 1 (.t 2), (some (some 113, true))⟩,
  ⟨(some 119), .load1 (.t 118), (some (some 113, true))⟩,
  ⟨(some 120), .beq false (.t 117) (.t 119), (some (some 113, true))⟩,
  ⟨(some 121), .pick (.t 113) (.t 120) (.c (.one (.sc (.bool false)))), none⟩,
  ⟨(some 122), .mv (.t 121), none⟩,
  ⟨(some 123), .call (.z 0) 9 [], (some (some 122, true))⟩,
  ⟨(some 124), .pick (.t 122) (.t 123) (.c (.one (.sc (.bool false)))), none⟩,
  ⟨(some 4), .mv (.t 124), none⟩]
def r5_16 : List SOper := [
  ⟨(some 126), .mv (.t 8), none⟩,
  ⟨(some 127), .len (.t 126), none⟩,
  ⟨(some 128), .bin .eql (.t 127) (.c (.one (.sc (.int .i64 1)))), none⟩,
  ⟨(some 125), .mv (.t 128), none⟩]
def r5_17 : List SOper := [
  ⟨(some 129), .loadA 2 (.t 3), none⟩,
  ⟨(some 130), .call .q 19 [(.t 129)], none⟩,
  ⟨(some 10), .mv (.t 130), none⟩]
def r5_18 : List SOper := [
  ⟨(some 131), .mv (.t 7), none⟩,
  ⟨(some 132), .bin .eql (.t 131) (.c (.one (.sc (.int .i64 0)))), none⟩,
  ⟨(some 133), .mv (.t 132), none⟩,
  ⟨(some 134), .mv (.t 6), (some (some 133, true))⟩,
  ⟨(some 135), .len (.t 134), (some (some 133, true))⟩,
  ⟨(some 136), .bin .eql (.t 135) (.c (.one (.sc (.int .i64 1)))), (some (some 133, true))⟩,
  ⟨(some 137), .mv (.t 10), (some (some 133, true))⟩,
  ⟨(some 138), .beq false (.t 136) (.t 137), (some (some 133, true))⟩,
  ⟨(some 139), .pick (.t 133) (.t 138) (.c (.one (.sc (.bool false)))), none⟩,
  ⟨(some 140), .mv (.t 139), none⟩,
  ⟨(some 141), .mv (.t 6), (some (some 140, true))⟩,
  ⟨(some 142), .len (.t 141), (some (some 140, true))⟩,
  ⟨(some 143), .bin .leq (.t 142) (.c (.one (.sc (.int .i64 1)))), (some (some 140, true))⟩,
  ⟨(some 144), .pick (.t 140) (.t 143) (.c (.one (.sc (.bool false)))), none⟩,
  ⟨(some 145), .mv (.t 144), none⟩,
  ⟨(some 146), .mv (.t 10), (some (some 145, true))⟩,
  ⟨(some 147), .un .not (.t 146), (some (some 145, true))⟩,
  ⟨(some 148), .mv (.t 147), (some (some 145, true))⟩,
  ⟨(some 149), .mv (.t 6), (some (some 148, false))⟩,
  ⟨(some 150), .iadrS 2 (.t 149) (.c (.one (.sc (.int .i64 0)))), (some (some 148, false))⟩,
  ⟨(some 151), .fadr 0 (.t 150), (some (some 148, false))⟩,
  ⟨(some 152), .load1 (.t 151), (some (some 148, false))⟩,
  ⟨(some 153), .mv (.t 8), (some (some 148, false))⟩,
  ⟨(some 154), .call .q 17 [(.t 152), (.t 153)], (some (some 148, false))⟩,
  ⟨(some 155), .pick (.t 148) (.c (.one (.sc (.bool true)))) (.t 154), (some (some 145, true))⟩,
  ⟨(some 156), .pick (.t 145) (.t 155) (.c (.one (.sc (.bool false)))), none⟩,
  ⟨(some 157), .mv (.t 156), none⟩,
  ⟨(some 158), .call (.z 0) 9 [], (some (some 157, true))⟩,
  ⟨(some 159), .pick (.t 157) (.t 158) (.c (.one (.sc (.bool false)))), none⟩,
  ⟨(some 4), .mv (.t 159), none⟩]
def r5_19 : List SOper := [
  ⟨(some 161), .mv (.t 8), none⟩,
  ⟨(some 162), .fadr 0 (.t 3), none⟩,
  ⟨(some 163), .load1 (.t 162), none⟩,
  ⟨(some 164), .fadr 1 (.t 3), none⟩,
  ⟨(some 165), .load1 (.t 164), none⟩,
  ⟨(some 166), .call .k 20 [(.t 161), (.t 163), (.t 165), (.c (.one (.sc (.int .i64 4096))))], none⟩,
  ⟨(some 160), .mv (.t 166), none⟩,
  ⟨(some 167), .ext (.t 160) 0, none⟩,
  ⟨(some 168), .ext (.t 160) 1, none⟩,
  ⟨(some 11), .mv (.t 167), none⟩,
  ⟨(some 12), .mv (.t 168), none⟩]
def r5_20 : List SOper := [
  ⟨(some 169), .mv (.t 12), none⟩,
  ⟨(some 170), .un .not (.t 169), none⟩]
def r5_21 : List SOper := [
  ⟨(some 171), .mv (.t 7), none⟩,
  ⟨(some 172), .bin .eql (.t 171) (.c (.one (.sc (.int .i64 36)))), none⟩,
  ⟨(some 173), .mv (.t 172), none⟩,
  ⟨(some 174), .mv (.t 6), (some (some 173, true))⟩,
  ⟨(some 175), .len (.t 174), (some (some 173, true))⟩,
  ⟨(some 176), .bin .eql (.t 175) (.c (.one (.sc (.int .i64 0)))), (some (some 173, true))⟩,
  ⟨(some 177), .pick (.t 173) (.t 176) (.c (.one (.sc (.bool false)))), none⟩,
  ⟨(some 178), .mv (.t 177), none⟩,
  ⟨(some 179), .call (.z 0) 9 [], (some (some 178, true))⟩,
  ⟨(some 180), .pick (.t 178) (.t 179) (.c (.one (.sc (.bool false)))), none⟩,
  ⟨(some 4), .mv (.t 180), none⟩]
def r5_22 : List SOper := [
  ⟨(some 181), .mv (.t 7), none⟩,
  ⟨(some 182), .bin .neq (.t 181) (.c (.one (.sc (.int .i64 0)))), none⟩,
  ⟨(some 183), .mv (.t 182), none⟩,
  ⟨(some 184), .mv (.t 6), (some (some 183, false))⟩,
  ⟨(some 185), .len (.t 184), (some (some 183, false))⟩,
  ⟨(some 186), .mv (.t 11), (some (some 183, false))⟩,
  ⟨(some 187), .len (.t 186), (some (some 183, false))⟩,
  ⟨(some 188), .bin .neq (.t 185) (.t 187), (some (some 183, false))⟩,
  ⟨(some 189), .pick (.t 183) (.c (.one (.sc (.bool true)))) (.t 188), none⟩]
def r5_23 : List SOper := [
  ⟨(some 4), .mv (.c (.one (.sc (.bool false)))), none⟩]
def r5_24 : List SOper := [
  ⟨(some 190), .mv (.t 6), none⟩,
  ⟨(some 191), .len (.t 190), none⟩,
  ⟨(some 192), .mv (.c (.one (.sc (.int .i64 0)))), none⟩]
def r5_25 : List SOper := [
  ⟨(some 193), .bin .lss (.t 192) (.t 191), none⟩]
def r5_26 : List SOper := [
  ⟨(some 194), .mv (.t 192), none⟩,
  ⟨(some 13), .mv (.t 194), none⟩]
def r5_27 : List SOper := [
  ⟨(some 195), .mv (.t 6), none⟩,
  ⟨(some 196), .mv (.t 13), none⟩,
  ⟨(some 197), .iadrS 2 (.t 195) (.t 196), none⟩,
  ⟨(some 198), .fadr 1 (.t 197), none⟩,
  ⟨(some 199), .load1 (.t 198), none⟩,
  ⟨(some 200), .mv (.t 199), none⟩,
  ⟨(some 201), .mv (.t 6), (some (some 200, false))⟩,
  ⟨(some 202), .mv (.t 13), (some (some 200, false))⟩,
  ⟨(some 203), .iadrS 2 (.t 201) (.t 202), (some (some 200, false))⟩,
  ⟨(some 204), .fadr 0 (.t 203), (some (some 200, false))⟩,
  ⟨(some 205), .load1 (.t 204), (some (some 200, false))⟩,
  ⟨(some 206), .mv (.t 11), (some (some 200, false))⟩,
  ⟨(some 207), .mv (.t 13), (some (some 200, false))⟩,
  ⟨(some 208), .iadrS 1 (.t 206) (.t 207), (some (some 200, false))⟩,
  ⟨(some 209), .load1 (.t 208), (some (some 200, false))⟩,
  ⟨(some 210), .call .q 17 [(.t 205), (.t 209)], (some (some 200, false))⟩,
  ⟨(some 211), .un .not (.t 210), (some (some 200, false))⟩,
  ⟨(some 212), .pick (.t 200) (.c (.one (.sc (.bool true)))) (.t 211), none⟩]
def r5_28 : List SOper := [
  ⟨(some 4), .mv (.c (.one (.sc (.bool false)))), none⟩]
def r5_29 : List SOper := [
  ⟨(some 213), .bin .add (.t 192) (.c (.one (.sc (.int .i64 1)))), none⟩,
  ⟨(some 192), .mv (.t 213), none⟩]
def l5_0 : SC := (.seq (.reg r5_25) (.seq (.cond (.t 193) .skip (.exit 1)) (.seq (.block 2 (.seq (.reg r5_26) (.seq (.reg r5_27) (.cond (.t 212) (.seq (.reg r5_28) .ret) .skip)))) (.reg r5_29))))
def r5_30 : List SOper := [
  ⟨(some 214), .call (.z 0) 9 [], none⟩,
  ⟨(some 4), .mv (.t 214), none⟩]
def c5 : SC := (.seq (.reg r5_0) (.seq (.seq (.reg r5_1) (.cond (.t 23) (.seq (.reg r5_2) .ret) .skip)) (.seq (.reg r5_3) (.seq (.reg r5_4) (.seq (.seq (.reg r5_5) (.cond (.t 38) (.seq (.reg r5_6) .ret) .skip)) (.seq (.seq (.reg r5_7) (.cond (.t 49) (.seq (.reg r5_8) .ret) .skip)) (.seq (.reg r5_9) (.seq (.seq (.reg r5_10) (.cond (.t 68) (.seq (.reg r5_11) .ret) .skip)) (.seq (.block 0 (.seq (.reg r5_12) (.cond (.t 79) (.seq (.reg r5_13) .ret) (.seq (.reg r5_14) (.cond (.t 93) (.seq (.reg r5_15) .ret) (.seq (.reg r5_16) (.cond (.t 125) (.seq (.reg r5_17) (.seq (.reg r5_18) .ret)) .skip))))))) (.seq (.reg r5_19) (.seq (.seq (.reg r5_20) (.cond (.t 170) (.seq (.reg r5_21) .ret) .skip)) (.seq (.seq (.reg r5_22) (.cond (.t 189) (.seq (.reg r5_23) .ret) .skip)) (.seq (.seq (.reg r5_24) (.block 1 (.loop l5_0))) (.seq (.reg r5_30) .ret))))))))))))))
/-- limner/limnerlaw09.DashPieces -/
def F5 : SFun := ⟨215, c5, [.tmp 4]⟩

def r6_0 : List SOper := [
  ⟨(some 2), .box (.t 0), none⟩,
  ⟨(some 3), .box (.t 1), none⟩,
  ⟨(some 4), .mv (.c (.one (.sc (.bool false)))), none⟩]
def r6_1 : List SOper := [
  ⟨(some 13), .fadr 0 (.t 2), none⟩,
  ⟨(some 14), .load1 (.t 13), none⟩,
  ⟨(some 15), .len (.t 14), none⟩,
  ⟨(some 16), .bin .gtr (.t 15) (.c (.one (.sc (.int .i64 20)))), none⟩,
  ⟨(some 17), .mv (.t 16), none⟩,
  ⟨(some 18), .fadr 0 (.t 3), (some (some 17, false))⟩,
  ⟨(some 19), .load1 (.t 18), (some (some 17, false))⟩,
  ⟨(some 20), .fadr 1 (.t 3), (some (some 17, false))⟩,
  ⟨(some 21), .load1 (.t 20), (some (some 17, false))⟩,
  ⟨(some 22), .call .q 10 [(.t 19), (.t 21)], (some (some 17, false))⟩,
  ⟨(some 23), .un .not (.t 22), (some (some 17, false))⟩,
  ⟨(some 24), .pick (.t 17) (.c (.one (.sc (.bool true)))) (.t 23), none⟩,
  ⟨(some 25), .mv (.t 24), none⟩,
  ⟨(some 26), .fadr 0 (.t 3), (some (some 25, false))⟩,
  ⟨(some 27), .load1 (.t 26), (some (some 25, false))⟩,
  ⟨(some 28), .len (.t 27), (some (some 25, false))⟩,
  ⟨(some 29), .bin .eql (.t 28) (.c (.one (.sc (.int .i64 0)))), (some (some 25, false))⟩,
  ⟨(some 30), .pick (.t 25) (.c (.one (.sc (.bool true)))) (.t 29), none⟩,
  ⟨(some 31), .mv (.t 30), none⟩,
  ⟨(some 32), .fadr 0 (.t 3), (some (some 31, false))⟩,
  ⟨(some 33), .load1 (.t 32), (some (some 31, false))⟩,
  ⟨(some 34), .len (.t 33), (some (some 31, false))⟩,
  ⟨(some 35), .bin .gtr (.t 34) (.c (.one (.sc (.int .i64 4)))), (some (some 31, false))⟩,
  ⟨(some 36), .pick (.t 31) (.c (.one (.sc (.bool true)))) (.t 35), none⟩]
def r6_2 : List SOper := [
  ⟨(some 37), .call (.z 0) 9 [], none⟩,
  ⟨(some 4), .mv (.t 37), none⟩]
def r6_3 : List SOper := [
  ⟨(some 39), .loadA 2 (.t 2), none⟩,
  ⟨(some 40), .loadA 2 (.t 3), none⟩,
  ⟨(some 41), .call .k 18 [(.t 39), (.t 40)], none⟩,
  ⟨(some 38), .mv (.t 41), none⟩,
  ⟨(some 42), .ext (.t 38) 0, none⟩,
  ⟨(some 43), .ext (.t 38) 1, none⟩,
  ⟨(some 5), .mv (.t 42), none⟩,
  ⟨(some 6), .mv (.t 43), none⟩]
def r6_4 : List SOper := [
  ⟨(some 45), .loadA 2 (.t 2), none⟩,
  ⟨(some 46), .bslice [] 0 1 [], none⟩,
  ⟨(some 47), .fadr 0 (.t 3), none⟩,
  ⟨(some 48), .load1 (.t 47), none⟩,
  ⟨(some 49), .app 1 8 (.t 46) (.t 48), none⟩,
  ⟨(some 50), .fadr 0 (.t 3), none⟩,
  ⟨(some 51), .load1 (.t 50), none⟩,
  ⟨(some 52), .app 1 8 (.t 49) (.t 51), none⟩,
  ⟨(some 53), .fadr 1 (.t 3), none⟩,
  ⟨(some 54), .load1 (.t 53), none⟩,
  ⟨(some 55), .build [.sc (.slice none 0 0), .sc (.int .i64 0)] [(0, 1, (.t 52)), (1, 1, (.t 54))], none⟩,
  ⟨(some 56), .call .k 18 [(.t 45), (.t 55)], none⟩,
  ⟨(some 44), .mv (.t 56), none⟩,
  ⟨(some 57), .ext (.t 44) 0, none⟩,
  ⟨(some 58), .ext (.t 44) 1, none⟩,
  ⟨(some 7), .mv (.t 57), none⟩,
  ⟨(some 8), .mv (.t 58), none⟩]
def r6_5 : List SOper := [
  ⟨(some 59), .bslice [] 0 1 [], none⟩,
  ⟨(some 60), .fadr 0 (.t 3), none⟩,
  ⟨(some 61), .load1 (.t 60), none⟩,
  ⟨(some 62), .slS 1 (.t 61) (some (.c (.one (.sc (.int .i64 2))))) none none, none⟩,
  ⟨(some 63), .app 1 8 (.t 59) (.t 62), none⟩,
  ⟨(some 64), .fadr 0 (.t 3), none⟩,
  ⟨(some 65), .load1 (.t 64), none⟩,
  ⟨(some 66), .slS 1 (.t 65) none (some (.c (.one (.sc (.int .i64 2))))) none, none⟩,
  ⟨(some 67), .app 1 8 (.t 63) (.t 66), none⟩,
  ⟨(some 9), .mv (.t 67), none⟩]
def r6_6 : List SOper := [
  ⟨(some 68), .fadr 1 (.t 3), none⟩,
  ⟨(some 69), .load1 (.t 68), none⟩,
  ⟨(some 70), .fadr 0 (.t 3), none⟩,
  ⟨(some 71), .load1 (.t 70), none⟩,
  ⟨(some 72), .iadrS 1 (.t 71) (.c (.one (.sc (.int .i64 0)))), none⟩,
  ⟨(some 73), .load1 (.t 72), none⟩,
  ⟨(some 74), .bin .sub (.t 69) (.t 73), none⟩,
  ⟨(some 75), .fadr 0 (.t 3), none⟩,
  ⟨(some 76), .load1 (.t 75), none⟩,
  ⟨(some 77), .iadrS 1 (.t 76) (.c (.one (.sc (.int .i64 1)))), none⟩,
  ⟨(some 78), .load1 (.t 77), none⟩,
  ⟨(some 79), .bin .sub (.t 74) (.t 78), none⟩,
  ⟨(some 10), .mv (.t 79), none⟩]
def r6_7 : List SOper := [
  ⟨(some 80), .mv (.t 10), none⟩,
  ⟨(some 81), .bin .lss (.t 80) (.c (.one (.sc (.int .i64 0)))), none⟩]
def r6_8 : List SOper := [
  ⟨(some 82), .mv (.t 10), none⟩,
  ⟨(some 83), .loadA 2 (.t 3), none⟩,
  ⟨(some 84), .call .q 12 [(.t 83)], none⟩,
  ⟨(some 85), .bin .add (.t 82) (.t 84), none⟩,
  ⟨(some 10), .mv (.t 85), none⟩]
def r6_9 : List SOper := [
  ⟨(some 87), .loadA 2 (.t 2), none⟩,
  ⟨(some 88), .mv (.t 9), none⟩,
  ⟨(some 89), .mv (.t 10), none⟩,
  ⟨(some 90), .build [.sc (.slice none 0 0), .sc (.int .i64 0)] [(0, 1, (.t 88)), (1, 1, (.t 89))], none⟩,
  ⟨(some 91), .call .k 18 [(.t 87), (.t 90)], none⟩,
  ⟨(some 86), .mv (.t 91), none⟩,
  ⟨(some 92), .ext (.t 86) 0, none⟩,
  ⟨(some 93), .ext (.t 86) 1, none⟩,
  ⟨(some 11), .mv (.t 92), none⟩,
  ⟨(some 12), .mv (.t 93), none⟩]
def r6_10 : List SOper := [
  ⟨(some 94), .mv (.t 6), none⟩,
  ⟨(some 95), .mv (.t 8), none⟩,
  ⟨(some 96), .bin .eql (.t 94) (.t 95), none⟩,
  ⟨(some 97), .mv (.t 96), none⟩,
  ⟨(some 98), .mv (.t 6), (some (some 97, true))⟩,
  ⟨(some 99), .mv (.t 12), (some (some 97, true))⟩,
  ⟨(some 100), .bin .eql (.t 98) (.t 99), (some (some 97, true))⟩,
  ⟨(some 101), .pick (.t 97) (.t 100) (.c (.one (.sc (.bool false)))), none⟩,
  ⟨(some 102), .mv (.t 101), none⟩,
  ⟨(some 103), .mv (.t 5), (some (some 102, true))⟩,
  ⟨(some 104), .mv (.t 7), (some (some 102, true))⟩,
  ⟨(some 105), .call .q 21 [(.t 103), (.t 104)], (some (some 102, true))⟩,
  ⟨(some 106), .pick (.t 102) (.t 105) (.c (.one (.sc (.bool false)))), none⟩,
  ⟨(some 107), .mv (.t 106), none⟩,
  ⟨(some 108), .mv (.t 5), (some (some 107, true))⟩,
  ⟨(some 109), .mv (.t 11), (some (some 107, true))⟩,
  ⟨(some 110), .call .q 21 [(.t 108), (.t 109)], (some (some 107, true))⟩,
  ⟨(some 111), .pick (.t 107) (.t 110) (.c (.one (.sc (.bool false)))), none⟩,
  ⟨(some 112), .mv (.t 111), none⟩,
  ⟨(some 113), .call (.z 0) 9 [], (some (some 112, true))⟩,
  ⟨(some 114), .pick (.t 112) (.t 113) (.c (.one (.sc (.bool false)))), none⟩,
  ⟨(some 4), .mv (.t 114), none⟩]
def c6 : SC := (.seq (.reg r6_0) (.seq (.seq (.reg r6_1) (.cond (.t 36) (.seq (.reg r6_2) .ret) .skip)) (.seq (.reg r6_3) (.seq (.dreg [(2, 46), (2, 49), (50, 46), (53, 46), (53, 49)] r6_4) (.seq (.dreg [(64, 59)] r6_5) (.seq (.reg r6_6) (.seq (.seq (.reg r6_7) (.cond (.t 81) (.reg r6_8) .skip)) (.seq (.reg r6_9) (.seq (.reg r6_10) .ret)))))))))
/-- limner/limnerlaw09.DashTurns -/
def F6 : SFun := ⟨115, c6, [.tmp 4]⟩

def r7_0 : List SOper := [
  ⟨(some 3), .box (.t 0), none⟩,
  ⟨(some 4), .box (.t 1), none⟩,
  ⟨(some 6), .mv (.c (.one (.sc (.bool false)))), none⟩]
def r7_1 : List SOper := [
  ⟨(some 15), .loadA 2 (.t 3), none⟩,
  ⟨(some 16), .loadA 2 (.t 4), none⟩,
  ⟨(some 17), .call (.z 0) 22 [(.t 15), (.t 16)], none⟩,
  ⟨(some 14), .mv (.t 17), none⟩,
  ⟨(some 18), .ext (.t 14) 0, none⟩,
  ⟨(some 19), .ext (.t 14) 1, none⟩,
  ⟨(some 7), .mv (.t 18), none⟩,
  ⟨(some 8), .mv (.t 19), none⟩]
def r7_2 : List SOper := [
  ⟨(some 21), .loadA 2 (.t 3), none⟩,
  ⟨(some 22), .loadA 2 (.t 4), none⟩,
  ⟨(some 23), .mv (.t 2), none⟩,
  ⟨(some 24), .call (.z 0) 23 [(.t 21), (.t 22), (.t 23)], none⟩,
  ⟨(some 20), .mv (.t 24), none⟩,
  ⟨(some 25), .ext (.t 20) 0, none⟩,
  ⟨(some 26), .ext (.t 20) 1, none⟩,
  ⟨(some 9), .alloc [.sc (.int .i64 0), .sc (.int .i64 0)], none⟩,
  ⟨none, .store 2 (.t 9) (.t 25), none⟩,
  ⟨(some 10), .mv (.t 26), none⟩]
def r7_3 : List SOper := [
  ⟨(some 28), .loadA 2 (.t 3), none⟩,
  ⟨(some 29), .call (.z 0) 24 [(.t 28)], none⟩,
  ⟨(some 30), .un .not (.t 29), none⟩,
  ⟨(some 31), .mv (.t 30), none⟩,
  ⟨(some 32), .loadA 2 (.t 4), (some (some 31, false))⟩,
  ⟨(some 33), .call (.z 0) 24 [(.t 32)], (some (some 31, false))⟩,
  ⟨(some 34), .un .not (.t 33), (some (some 31, false))⟩,
  ⟨(some 35), .pick (.t 31) (.c (.one (.sc (.bool true)))) (.t 34), none⟩,
  ⟨(some 27), .mv (.t 35), none⟩]
def r7_4 : List SOper := [
  ⟨(some 36), .mv (.t 8), none⟩,
  ⟨(some 37), .bin .eql (.t 36) (.c (.one (.sc (.int .i64 30)))), none⟩,
  ⟨(some 38), .mv (.t 37), none⟩,
  ⟨(some 39), .mv (.t 10), (some (some 38, true))⟩,
  ⟨(some 40), .bin .eql (.t 39) (.c (.one (.sc (.int .i64 30)))), (some (some 38, true))⟩,
  ⟨(some 41), .pick (.t 38) (.t 40) (.c (.one (.sc (.bool false)))), none⟩,
  ⟨(some 42), .mv (.t 41), none⟩,
  ⟨(some 43), .mv (.t 7), (some (some 42, true))⟩,
  ⟨(some 44), .bin .eql (.t 43) (.c (.one (.sc (.int .i64 0)))), (some (some 42, true))⟩,
  ⟨(some 45), .pick (.t 42) (.t 44) (.c (.one (.sc (.bool false)))), none⟩,
  ⟨(some 46), .mv (.t 45), none⟩,
  ⟨(some 47), .loadA 2 (.t 9), (some (some 46, true))⟩,
  ⟨(some 48), .build [.sc (.int .i64 0), .sc (.int .i64 0)] [], (some (some 46, true))⟩,
  ⟨(some 49), .eqv [.i, .i] false (.t 47) (.t 48), (some (some 46, true))⟩,
  ⟨(some 50), .pick (.t 46) (.t 49) (.c (.one (.sc (.bool false)))), none⟩,
  ⟨(some 51), .mv (.t 50), none⟩,
  ⟨(some 52), .call (.z 0) 9 [], (some (some 51, true))⟩,
  ⟨(some 53), .pick (.t 51) (.t 52) (.c (.one (.sc (.bool false)))), none⟩,
  ⟨(some 6), .mv (.t 53), none⟩]
def r7_5 : List SOper := [
  ⟨(some 55), .loadA 2 (.t 3), none⟩,
  ⟨(some 56), .call (.z 0) 26 [(.t 55)], none⟩,
  ⟨(some 57), .loadA 2 (.t 4), none⟩,
  ⟨(some 58), .call (.z 0) 26 [(.t 57)], none⟩,
  ⟨(some 59), .call (.z 0) 25 [(.t 56), (.t 58)], none⟩,
  ⟨(some 54), .mv (.t 59), none⟩]
def r7_6 : List SOper := [
  ⟨(some 60), .mv (.t 8), none⟩,
  ⟨(some 61), .bin .eql (.t 60) (.c (.one (.sc (.int .i64 10)))), none⟩,
  ⟨(some 62), .mv (.t 61), none⟩,
  ⟨(some 63), .mv (.t 10), (some (some 62, true))⟩,
  ⟨(some 64), .bin .eql (.t 63) (.c (.one (.sc (.int .i64 10)))), (some (some 62, true))⟩,
  ⟨(some 65), .pick (.t 62) (.t 64) (.c (.one (.sc (.bool false)))), none⟩,
  ⟨(some 66), .mv (.t 65), none⟩,
  ⟨(some 67), .mv (.t 7), (some (some 66, true))⟩,
  ⟨(some 68), .bin .eql (.t 67) (.c (.one (.sc (.int .i64 0)))), (some (some 66, true))⟩,
  ⟨(some 69), .pick (.t 66) (.t 68) (.c (.one (.sc (.bool false)))), none⟩,
  ⟨(some 70), .mv (.t 69), none⟩,
  ⟨(some 71), .loadA 2 (.t 9), (some (some 70, true))⟩,
  ⟨(some 72), .build [.sc (.int .i64 0), .sc (.int .i64 0)] [], (some (some 70, true))⟩,
  ⟨(some 73), .eqv [.i, .i] false (.t 71) (.t 72), (some (some 70, true))⟩,
  ⟨(some 74), .pick (.t 70) (.t 73) (.c (.one (.sc (.bool false)))), none⟩,
  ⟨(some 75), .mv (.t 74), none⟩,
  ⟨(some 76), .call (.z 0) 9 [], (some (some 75, true))⟩,
  ⟨(some 77), .pick (.t 75) (.t 76) (.c (.one (.sc (.bool false)))), none⟩,
  ⟨(some 6), .mv (.t 77), none⟩]
def r7_7 : List SOper := [
  ⟨(some 79), .mv (.t 8), none⟩,
  ⟨(some 80), .bin .neq (.t 79) (.c (.one (.sc (.int .i64 0)))), none⟩,
  ⟨(some 81), .mv (.t 80), none⟩,
  ⟨(some 82), .mv (.t 7), (some (some 81, false))⟩,
  ⟨(some 83), .loadA 2 (.t 3), (some (some 81, false))⟩,
  ⟨(some 84), .call (.z 0) 26 [(.t 83)], (some (some 81, false))⟩,
  ⟨(some 85), .loadA 2 (.t 4), (some (some 81, false))⟩,
  ⟨(some 86), .call (.z 0) 26 [(.t 85)], (some (some 81, false))⟩,
  ⟨(some 87), .call (.z 0) 27 [(.t 84), (.t 86)], (some (some 81, false))⟩,
  ⟨(some 88), .bin .neq (.t 82) (.t 87), (some (some 81, false))⟩,
  ⟨(some 89), .pick (.t 81) (.c (.one (.sc (.bool true)))) (.t 88), none⟩,
  ⟨(some 78), .mv (.t 89), none⟩]
def r7_8 : List SOper := [
  ⟨(some 6), .mv (.c (.one (.sc (.bool false)))), none⟩]
def r7_9 : List SOper := [
  ⟨(some 91), .mv (.t 7), none⟩,
  ⟨(some 92), .bin .eql (.t 91) (.c (.one (.sc (.int .i64 0)))), none⟩,
  ⟨(some 93), .mv (.t 92), none⟩,
  ⟨(some 94), .mv (.t 2), (some (some 93, false))⟩,
  ⟨(some 95), .bin .lss (.t 94) (.c (.one (.sc (.int .i64 0)))), (some (some 93, false))⟩,
  ⟨(some 96), .pick (.t 93) (.c (.one (.sc (.bool true)))) (.t 95), none⟩,
  ⟨(some 97), .mv (.t 96), none⟩,
  ⟨(some 98), .mv (.t 2), (some (some 97, false))⟩,
  ⟨(some 99), .mv (.t 7), (some (some 97, false))⟩,
  ⟨(some 100), .bin .gtr (.t 98) (.t 99), (some (some 97, false))⟩,
  ⟨(some 101), .pick (.t 97) (.c (.one (.sc (.bool true)))) (.t 100), none⟩,
  ⟨(some 90), .mv (.t 101), none⟩]
def r7_10 : List SOper := [
  ⟨(some 102), .mv (.t 10), none⟩,
  ⟨(some 103), .bin .eql (.t 102) (.c (.one (.sc (.int .i64 30)))), none⟩,
  ⟨(some 104), .mv (.t 103), none⟩,
  ⟨(some 105), .loadA 2 (.t 9), (some (some 104, true))⟩,
  ⟨(some 106), .build [.sc (.int .i64 0), .sc (.int .i64 0)] [], (some (some 104, true))⟩,
  ⟨(some 107), .eqv [.i, .i] false (.t 105) (.t 106), (some (some 104, true))⟩,
  ⟨(some 108), .pick (.t 104) (.t 107) (.c (.one (.sc (.bool false)))), none⟩,
  ⟨(some 109), .mv (.t 108), none⟩,
  ⟨(some 110), .call (.z 0) 9 [], (some (some 109, true))⟩,
  ⟨(some 111), .pick (.t 109) (.t 110) (.c (.one (.sc (.bool false)))), none⟩,
  ⟨(some 6), .mv (.t 111), none⟩]
def r7_11 : List SOper := [
  ⟨(some 112), .loadA 2 (.t 3), none⟩,
  ⟨(some 113), .call (.z 0) 26 [(.t 112)], none⟩,
  ⟨(some 114), .loadA 2 (.t 4), none⟩,
  ⟨(some 115), .call (.z 0) 26 [(.t 114)], none⟩,
  ⟨(some 116), .mv (.t 2), none⟩,
  ⟨(some 117), .mv (.t 7), none⟩,
  ⟨(some 118), .call (.z 0) 28 [(.t 113), (.t 115), (.t 116), (.t 117)], none⟩,
  ⟨(some 11), .alloc [.sc (.int .i64 0), .sc (.int .i64 0)], none⟩,
  ⟨none, .store 2 (.t 11) (.t 118), none⟩]
def r7_12 : List SOper := [
  ⟨(some 120), .loadA 2 (.t 3), none⟩,
  ⟨(some 121), .loadA 2 (.t 4), none⟩,
  ⟨(some 122), .call (.z 0) 23 [(.t 120), (.t 121), (.c (.one (.sc (.int .i64 0))))], none⟩,
  ⟨(some 119), .mv (.t 122), none⟩,
  ⟨(some 123), .ext (.t 119) 0, none⟩,
  ⟨(some 124), .ext (.t 119) 1, none⟩,
  ⟨(some 12), .alloc [.sc (.int .i64 0), .sc (.int .i64 0)], none⟩,
  ⟨none, .store 2 (.t 12) (.t 123), none⟩,
  ⟨(some 13), .mv (.t 124), none⟩]
def r7_13 : List SOper := [
  ⟨(some 125), .mv (.t 10), none⟩,
  ⟨(some 126), .bin .eql (.t 125) (.c (.one (.sc (.int .i64 0)))), none⟩,
  ⟨(some 127), .mv (.t 126), none⟩,
  ⟨(some 128), .fadr 0 (.t 9), (some (some 127, true))⟩,
  ⟨(some 129), .load1 (.t 128), (some (some 127, true))⟩,
  ⟨(some 130), .fadr 0 (.t 11), (some (some 127, true))⟩,
  ⟨(some 131), .load1 (.t 130), (some (some 127, true))⟩,
  ⟨(some 132), .bin .eql (.t 129) (.t 131), (some (some 127, true))⟩,
  ⟨(some 133), .pick (.t 127) (.t 132) (.c (.one (.sc (.bool false)))), none⟩,
  ⟨(some 134), .mv (.t 133), none⟩,
  ⟨(some 135), .fadr 1 (.t 9), (some (some 134, true))⟩,
  ⟨(some 136), .load1 (.t 135), (some (some 134, true))⟩,
  ⟨(some 137), .fadr 1 (.t 11), (some (some 134, true))⟩,
  ⟨(some 138), .load1 (.t 137), (some (some 134, true))⟩,
  ⟨(some 139), .bin .eql (.t 136) (.t 138), (some (some 134, true))⟩,
  ⟨(some 140), .pick (.t 134) (.t 139) (.c (.one (.sc (.bool false)))), none⟩,
  ⟨(some 141), .mv (.t 140), none⟩,
  ⟨(some 142), .mv (.t 13), (some (some 141, true))⟩,
  ⟨(some 143), .bin .eql (.t 142) (.c (.one (.sc (.int .i64 0)))), (some (some 141, true))⟩,
  ⟨(some 144), .pick (.t 141) (.t 143) (.c (.one (.sc (.bool false)))), none⟩,
  ⟨(some 145), .mv (.t 144), none⟩,
  ⟨(some 146), .loadA 2 (.t 12), (some (some 145, true))⟩,
  ⟨(some 147), .loadA 2 (.t 3), (some (some 145, true))⟩,
  ⟨(some 148), .eqv [.i, .i] false (.t 146) (.t 147), (some (some 145, true))⟩,
  ⟨(some 149), .pick (.t 145) (.t 148) (.c (.one (.sc (.bool false)))), none⟩,
  ⟨(some 150), .mv (.t 149), none⟩,
  ⟨(some 151), .call (.z 0) 9 [], (some (some 150, true))⟩,
  ⟨(some 152), .pick (.t 150) (.t 151) (.c (.one (.sc (.bool false)))), none⟩,
  ⟨(some 6), .mv (.t 152), none⟩]
def c7 : SC := (.seq (.reg r7_0) (.seq (.reg r7_1) (.seq (.reg r7_2) (.seq (.block 0 (.seq (.reg r7_3) (.cond (.t 27) (.seq (.reg r7_4) .ret) (.seq (.reg r7_5) (.cond (.t 54) (.seq (.reg r7_6) .ret) (.seq (.reg r7_7) (.cond (.t 78) (.seq (.reg r7_8) .ret) (.seq (.reg r7_9) (.cond (.t 90) (.seq (.reg r7_10) .ret) .skip))))))))) (.seq (.reg r7_11) (.seq (.reg r7_12) (.seq (.reg r7_13) .ret)))))))
/-- limner/limnerlaw09.DashPlaces -/
def F7 : SFun := ⟨153, c7, [.tmp 6]⟩

def r8_0 : List SOper := [
  ⟨(some 2), .box (.t 0), none⟩,
  ⟨(some 3), .box (.t 1), none⟩,
  ⟨(some 4), .mv (.c (.one (.sc (.bool false)))), none⟩]
def r8_1 : List SOper := [
  ⟨(some 12), .fadr 0 (.t 2), none⟩,
  ⟨(some 13), .load1 (.t 12), none⟩,
  ⟨(some 14), .len (.t 13), none⟩,
  ⟨(some 15), .bin .gtr (.t 14) (.c (.one (.sc (.int .i64 20)))), none⟩,
  ⟨(some 16), .mv (.t 15), none⟩,
  ⟨(some 17), .fadr 0 (.t 3), (some (some 16, false))⟩,
  ⟨(some 18), .load1 (.t 17), (some (some 16, false))⟩,
  ⟨(some 19), .len (.t 18), (some (some 16, false))⟩,
  ⟨(some 20), .bin .gtr (.t 19) (.c (.one (.sc (.int .i64 8)))), (some (some 16, false))⟩,
  ⟨(some 21), .pick (.t 16) (.c (.one (.sc (.bool true)))) (.t 20), none⟩]
def r8_2 : List SOper := [
  ⟨(some 22), .call (.z 0) 9 [], none⟩,
  ⟨(some 4), .mv (.t 22), none⟩]
def r8_3 : List SOper := [
  ⟨(some 24), .loadA 2 (.t 2), none⟩,
  ⟨(some 25), .loadA 2 (.t 3), none⟩,
  ⟨(some 26), .call .k 18 [(.t 24), (.t 25)], none⟩,
  ⟨(some 23), .mv (.t 26), none⟩,
  ⟨(some 27), .ext (.t 23) 0, none⟩,
  ⟨(some 28), .ext (.t 23) 1, none⟩,
  ⟨(some 5), .mv (.t 27), none⟩,
  ⟨(some 6), .mv (.t 28), none⟩]
def r8_4 : List SOper := [
  ⟨(some 29), .mv (.t 6), none⟩,
  ⟨(some 30), .bin .neq (.t 29) (.c (.one (.sc (.int .i64 0)))), none⟩]
def r8_5 : List SOper := [
  ⟨(some 31), .call (.z 0) 9 [], none⟩,
  ⟨(some 4), .mv (.t 31), none⟩]
def r8_6 : List SOper := [
  ⟨(some 32), .fadr 0 (.t 2), none⟩,
  ⟨(some 33), .load1 (.t 32), none⟩,
  ⟨(some 34), .call .q 29 [(.t 33)], none⟩,
  ⟨(some 7), .alloc [.sc (.int .i64 0), .sc (.int .i64 0), .sc (.int .i64 0), .sc (.int .i64 0)], none⟩,
  ⟨none, .store 4 (.t 7) (.t 34), none⟩]
def r8_7 : List SOper := [
  ⟨(some 35), .mv (.t 5), none⟩,
  ⟨(some 36), .len (.t 35), none⟩,
  ⟨(some 37), .mv (.c (.one (.sc (.int .i64 0)))), none⟩]
def r8_8 : List SOper := [
  ⟨(some 38), .bin .lss (.t 37) (.t 36), none⟩]
def r8_9 : List SOper := [
  ⟨(some 39), .iadrS 2 (.t 35) (.t 37), none⟩,
  ⟨(some 40), .loadA 2 (.t 39), none⟩,
  ⟨(some 9), .alloc [.sc (.slice none 0 0), .sc (.bool false)], none⟩,
  ⟨none, .store 2 (.t 9) (.t 40), none⟩]
def r8_10 : List SOper := [
  ⟨(some 41), .fadr 0 (.t 9), none⟩,
  ⟨(some 42), .load1 (.t 41), none⟩,
  ⟨(some 43), .len (.t 42), none⟩,
  ⟨(some 44), .bin .eql (.t 43) (.c (.one (.sc (.int .i64 0)))), none⟩]
def r8_11 : List SOper := [
  ⟨(some 4), .mv (.c (.one (.sc (.bool false)))), none⟩]
def r8_12 : List SOper := [
  ⟨(some 45), .fadr 0 (.t 9), none⟩,
  ⟨(some 46), .load1 (.t 45), none⟩,
  ⟨(some 47), .len (.t 46), none⟩,
  ⟨(some 48), .mv (.c (.one (.sc (.int .i64 0)))), none⟩]
def r8_13 : List SOper := [
  ⟨(some 49), .bin .lss (.t 48) (.t 47), none⟩]
def r8_14 : List SOper := [
  ⟨(some 50), .iadrS 2 (.t 46) (.t 48), none⟩,
  ⟨(some 51), .loadA 2 (.t 50), none⟩,
  ⟨(some 11), .alloc [.sc (.int .i64 0), .sc (.int .i64 0)], none⟩,
  ⟨none, .store 2 (.t 11) (.t 51), none⟩]
def r8_15 : List SOper := [
  ⟨(some 52), .loadA 4 (.t 7), none⟩,
  ⟨(some 53), .loadA 2 (.t 11), none⟩,
  ⟨(some 54), .call (.z 0) 30 [(.t 52), (.t 53)], none⟩,
  ⟨(some 55), .un .not (.t 54), none⟩]
def r8_16 : List SOper := [
  ⟨(some 4), .mv (.c (.one (.sc (.bool false)))), none⟩]
def r8_17 : List SOper := [
  ⟨(some 56), .bin .add (.t 48) (.c (.one (.sc (.int .i64 1)))), none⟩,
  ⟨(some 48), .mv (.t 56), none⟩]
def l8_0 : SC := (.seq (.reg r8_13) (.seq (.cond (.t 49) .skip (.exit 2)) (.seq (.block 3 (.seq (.reg r8_14) (.seq (.reg r8_15) (.cond (.t 55) (.seq (.reg r8_16) .ret) .skip)))) (.reg r8_17))))
def r8_18 : List SOper := [
  ⟨(some 57), .bin .add (.t 37) (.c (.one (.sc (.int .i64 1)))), none⟩,
  ⟨(some 37), .mv (.t 57), none⟩]
def l8_1 : SC := (.seq (.reg r8_8) (.seq (.cond (.t 38) .skip (.exit 0)) (.seq (.block 1 (.seq (.reg r8_9) (.seq (.seq (.reg r8_10) (.cond (.t 44) (.seq (.reg r8_11) .ret) .skip)) (.seq (.reg r8_12) (.block 2 (.loop l8_0)))))) (.reg r8_18))))
def r8_19 : List SOper := [
  ⟨(some 58), .fadr 0 (.t 3), none⟩,
  ⟨(some 59), .load1 (.t 58), none⟩,
  ⟨(some 60), .len (.t 59), none⟩,
  ⟨(some 61), .bin .gtr (.t 60) (.c (.one (.sc (.int .i64 0)))), none⟩,
  ⟨(some 62), .mv (.t 61), none⟩,
  ⟨(some 63), .fadr 0 (.t 2), (some (some 62, true))⟩,
  ⟨(some 64), .load1 (.t 63), (some (some 62, true))⟩,
  ⟨(some 65), .len (.t 64), (some (some 62, true))⟩,
  ⟨(some 66), .bin .gtr (.t 65) (.c (.one (.sc (.int .i64 0)))), (some (some 62, true))⟩,
  ⟨(some 67), .pick (.t 62) (.t 66) (.c (.one (.sc (.bool false)))), none⟩,
  ⟨(some 68), .mv (.t 67), none⟩,
  ⟨(some 69), .loadA 2 (.t 3), (some (some 68, true))⟩,
  ⟨(some 70), .call .q 19 [(.t 69)], (some (some 68, true))⟩,
  ⟨(some 71), .pick (.t 68) (.t 70) (.c (.one (.sc (.bool false)))), none⟩]
def r8_20 : List SOper := [
  ⟨(some 72), .mv (.t 5), none⟩,
  ⟨(some 73), .len (.t 72), none⟩,
  ⟨(some 74), .bin .gtr (.t 73) (.c (.one (.sc (.int .i64 0)))), none⟩,
  ⟨(some 75), .mv (.t 74), none⟩,
  ⟨(some 76), .mv (.t 5), (some (some 75, true))⟩,
  ⟨(some 77), .iadrS 2 (.t 76) (.c (.one (.sc (.int .i64 0)))), (some (some 75, true))⟩,
  ⟨(some 78), .fadr 0 (.t 77), (some (some 75, true))⟩,
  ⟨(some 79), .load1 (.t 78), (some (some 75, true))⟩,
  ⟨(some 80), .iadrS 2 (.t 79) (.c (.one (.sc (.int .i64 0)))), (some (some 75, true))⟩,
  ⟨(some 81), .loadA 2 (.t 80), (some (some 75, true))⟩,
  ⟨(some 82), .fadr 0 (.t 2), (some (some 75, true))⟩,
  ⟨(some 83), .load1 (.t 82), (some (some 75, true))⟩,
  ⟨(some 84), .iadrS 2 (.t 83) (.c (.one (.sc (.int .i64 0)))), (some (some 75, true))⟩,
  ⟨(some 85), .loadA 2 (.t 84), (some (some 75, true))⟩,
  ⟨(some 86), .eqv [.i, .i] false (.t 81) (.t 85), (some (some 75, true))⟩,
  ⟨(some 87), .pick (.t 75) (.t 86) (.c (.one (.sc (.bool false)))), none⟩,
  ⟨(some 88), .mv (.t 87), none⟩,
  ⟨(some 89), .call (.z 0) 9 [], (some (some 88, true))⟩,
  ⟨(some 90), .pick (.t 88) (.t 89) (.c (.one (.sc (.bool false)))), none⟩,
  ⟨(some 4), .mv (.t 90), none⟩]
def r8_21 : List SOper := [
  ⟨(some 91), .call (.z 0) 9 [], none⟩,
  ⟨(some 4), .mv (.t 91), none⟩]
def c8 : SC := (.seq (.reg r8_0) (.seq (.seq (.reg r8_1) (.cond (.t 21) (.seq (.reg r8_2) .ret) .skip)) (.seq (.reg r8_3) (.seq (.seq (.reg r8_4) (.cond (.t 30) (.seq (.reg r8_5) .ret) .skip)) (.seq (.reg r8_6) (.seq (.seq (.reg r8_7) (.block 0 (.loop l8_1))) (.seq (.seq (.reg r8_19) (.cond (.t 71) (.seq (.reg r8_20) .ret) .skip)) (.seq (.reg r8_21) .ret))))))))
/-- limner/limnerlaw09.DashBounds -/
def F8 : SFun := ⟨92, c8, [.tmp 4]⟩

def r9_0 : List SOper := [
  ⟨(some 0), .mv (.c (.one (.sc (.bool false)))), none⟩]
def r9_1 : List SOper := [
  ⟨(some 4), .call (.z 0) 31 [(.c (.one (.sc (.int .i64 0)))), (.c (.one (.sc (.int .i64 0))))], none⟩,
  ⟨(some 5), .call (.z 0) 31 [(.c (.one (.sc (.int .i64 10)))), (.c (.one (.sc (.int .i64 0))))], none⟩,
  ⟨(some 6), .bslice [.sc (.int .i64 0), .sc (.int .i64 0), .sc (.int .i64 0), .sc (.int .i64 0)] 2 2 [(0, 2, (.t 4)), (2, 2, (.t 5))], none⟩,
  ⟨(some 7), .build [.sc (.slice none 0 0), .sc (.bool false)] [(0, 1, (.t 6))], none⟩,
  ⟨(some 8), .bslice [.sc (.int .i64 0), .sc (.int .i64 0)] 2 1 [(0, 1, (.c (.one (.sc (.int .i64 3))))), (1, 1, (.c (.one (.sc (.int .i64 2)))))], none⟩,
  ⟨(some 9), .build [.sc (.slice none 0 0), .sc (.int .i64 0)] [(0, 1, (.t 8))], none⟩,
  ⟨(some 10), .call .k 18 [(.t 7), (.t 9)], none⟩,
  ⟨(some 3), .mv (.t 10), none⟩,
  ⟨(some 11), .ext (.t 3) 0, none⟩,
  ⟨(some 12), .ext (.t 3) 1, none⟩,
  ⟨(some 1), .mv (.t 11), none⟩,
  ⟨(some 2), .mv (.t 12), none⟩]
def r9_2 : List SOper := [
  ⟨(some 13), .mv (.t 2), none⟩,
  ⟨(some 14), .bin .eql (.t 13) (.c (.one (.sc (.int .i64 0)))), none⟩,
  ⟨(some 15), .mv (.t 14), none⟩,
  ⟨(some 16), .mv (.t 1), (some (some 15, true))⟩,
  ⟨(some 17), .len (.t 16), (some (some 15, true))⟩,
  ⟨(some 18), .bin .eql (.t 17) (.c (.one (.sc (.int .i64 2)))), (some (some 15, true))⟩,
  ⟨(some 19), .pick (.t 15) (.t 18) (.c (.one (.sc (.bool false)))), none⟩,
  ⟨(some 20), .mv (.t 19), none⟩,
  ⟨(some 21), .mv (.t 1), (some (some 20, true))⟩,
  ⟨(some 22), .iadrS 2 (.t 21) (.c (.one (.sc (.int .i64 1)))), (some (some 20, true))⟩,
  ⟨(some 23), .fadr 0 (.t 22), (some (some 20, true))⟩,
  ⟨(some 24), .load1 (.t 23), (some (some 20, true))⟩,
  ⟨(some 25), .len (.t 24), (some (some 20, true))⟩,
  ⟨(some 26), .bin .eql (.t 25) (.c (.one (.sc (.int .i64 2)))), (some (some 20, true))⟩,
  ⟨(some 27), .pick (.t 20) (.t 26) (.c (.one (.sc (.bool false)))), none⟩,
  ⟨(some 28), .mv (.t 27), none⟩,
  ⟨(some 29), .mv (.t 1), (some (some 28, true))⟩,
  ⟨(some 30), .iadrS 2 (.t 29) (.c (.one (.sc (.int .i64 1)))), (some (some 28, true))⟩,
  ⟨(some 31), .fadr 0 (.t 30), (some (some 28, true))⟩,
  ⟨(some 32), .load1 (.t 31), (some (some 28, true))⟩,
  ⟨(some 33), .iadrS 2 (.t 32) (.c (.one (.sc (.int .i64 0)))), (some (some 28, true))⟩,
  ⟨(some 34), .loadA 2 (.t 33), (some (some 28, true))⟩,
  ⟨(some 35), .call (.z 0) 31 [(.c (.one (.sc (.int .i64 5)))), (.c (.one (.sc (.int .i64 0))))], (some (some 28, true))⟩,
  ⟨(some 36), .eqv [.i, .i] false (.t 34) (.t 35), (some (some 28, true))⟩,
  ⟨(some 37), .pick (.t 28) (.t 36) (.c (.one (.sc (.bool false)))), none⟩,
  ⟨(some 38), .mv (.t 37), none⟩,
  ⟨(some 39), .mv (.t 1), (some (some 38, true))⟩,
  ⟨(some 40), .iadrS 2 (.t 39) (.c (.one (.sc (.int .i64 1)))), (some (some 38, true))⟩,
  ⟨(some 41), .fadr 0 (.t 40), (some (some 38, true))⟩,
  ⟨(some 42), .load1 (.t 41), (some (some 38, true))⟩,
  ⟨(some 43), .iadrS 2 (.t 42) (.c (.one (.sc (.int .i64 1)))), (some (some 38, true))⟩,
  ⟨(some 44), .loadA 2 (.t 43), (some (some 38, true))⟩,
  ⟨(some 45), .call (.z 0) 31 [(.c (.one (.sc (.int .i64 8)))), (.c (.one (.sc (.int .i64 0))))], (some (some 38, true))⟩,
  ⟨(some 46), .eqv [.i, .i] false (.t 44) (.t 45), (some (some 38, true))⟩,
  ⟨(some 47), .pick (.t 38) (.t 46) (.c (.one (.sc (.bool false)))), none⟩,
  ⟨(some 0), .mv (.t 47), none⟩]
def c9 : SC := (.seq (.reg r9_0) (.seq (.reg r9_1) (.seq (.reg r9_2) .ret)))
/-- limner/limnerlaw09.awake -/
def F9 : SFun := ⟨48, c9, [.tmp 0]⟩

def r10_0 : List SOper := [
  ⟨(some 4), .mv (.c (.one (.sc (.bool false)))), none⟩]
def r10_1 : List SOper := [
  ⟨(some 7), .mv (.t 0), none⟩,
  ⟨(some 8), .len (.t 7), none⟩,
  ⟨(some 9), .bin .eql (.t 8) (.c (.one (.sc (.int .i64 0)))), none⟩]
def r10_2 : List SOper := [
  ⟨(some 10), .mv (.t 1), none⟩,
  ⟨(some 11), .bin .eql (.t 10) (.c (.one (.sc (.int .i64 0)))), none⟩,
  ⟨(some 4), .mv (.t 11), none⟩]
def r10_3 : List SOper := [
  ⟨(some 12), .mv (.t 0), none⟩,
  ⟨(some 13), .len (.t 12), none⟩,
  ⟨(some 14), .bin .neq (.t 13) (.c (.one (.sc (.int .i64 2)))), none⟩,
  ⟨(some 15), .mv (.t 14), none⟩,
  ⟨(some 16), .mv (.t 0), (some (some 15, true))⟩,
  ⟨(some 17), .len (.t 16), (some (some 15, true))⟩,
  ⟨(some 18), .bin .neq (.t 17) (.c (.one (.sc (.int .i64 4)))), (some (some 15, true))⟩,
  ⟨(some 19), .pick (.t 15) (.t 18) (.c (.one (.sc (.bool false)))), none⟩,
  ⟨(some 20), .mv (.t 19), none⟩,
  ⟨(some 21), .mv (.t 0), (some (some 20, true))⟩,
  ⟨(some 22), .len (.t 21), (some (some 20, true))⟩,
  ⟨(some 23), .bin .neq (.t 22) (.c (.one (.sc (.int .i64 6)))), (some (some 20, true))⟩,
  ⟨(some 24), .pick (.t 20) (.t 23) (.c (.one (.sc (.bool false)))), none⟩,
  ⟨(some 25), .mv (.t 24), none⟩,
  ⟨(some 26), .mv (.t 0), (some (some 25, true))⟩,
  ⟨(some 27), .len (.t 26), (some (some 25, true))⟩,
  ⟨(some 28), .bin .neq (.t 27) (.c (.one (.sc (.int .i64 8)))), (some (some 25, true))⟩,
  ⟨(some 29), .pick (.t 25) (.t 28) (.c (.one (.sc (.bool false)))), none⟩]
def r10_4 : List SOper := [
  ⟨(some 4), .mv (.c (.one (.sc (.bool false)))), none⟩]
def r10_5 : List SOper := [
  ⟨(some 5), .mv (.c (.one (.sc (.int .i64 0)))), none⟩]
def r10_6 : List SOper := [
  ⟨(some 6), .mv (.c (.one (.sc (.int .i64 0)))), none⟩]
def r10_7 : List SOper := [
  ⟨(some 30), .mv (.t 6), none⟩,
  ⟨(some 31), .mv (.t 0), none⟩,
  ⟨(some 32), .len (.t 31), none⟩,
  ⟨(some 33), .bin .lss (.t 30) (.t 32), none⟩]
def r10_9 : List SOper := [
  ⟨(some 36), .mv (.t 0), none⟩,
  ⟨(some 37), .mv (.t 6), none⟩,
  ⟨(some 38), .iadrS 1 (.t 36) (.t 37), none⟩,
  ⟨(some 39), .load1 (.t 38), none⟩,
  ⟨(some 40), .bin .lss (.t 39) (.c (.one (.sc (.int .i64 1)))), none⟩,
  ⟨(some 41), .mv (.t 40), none⟩,
  ⟨(some 42), .mv (.t 0), (some (some 41, false))⟩,
  ⟨(some 43), .mv (.t 6), (some (some 41, false))⟩,
  ⟨(some 44), .iadrS 1 (.t 42) (.t 43), (some (some 41, false))⟩,
  ⟨(some 45), .load1 (.t 44), (some (some 41, false))⟩,
  ⟨(some 46), .bin .gtr (.t 45) (.c (.one (.sc (.int .i64 1048576)))), (some (some 41, false))⟩,
  ⟨(some 47), .pick (.t 41) (.c (.one (.sc (.bool true)))) (.t 46), none⟩]
def r10_10 : List SOper := [
  ⟨(some 4), .mv (.c (.one (.sc (.bool false)))), none⟩]
def r10_11 : List SOper := [
  ⟨(some 48), .mv (.t 5), none⟩,
  ⟨(some 49), .mv (.t 0), none⟩,
  ⟨(some 50), .mv (.t 6), none⟩,
  ⟨(some 51), .iadrS 1 (.t 49) (.t 50), none⟩,
  ⟨(some 52), .load1 (.t 51), none⟩,
  ⟨(some 53), .bin .add (.t 48) (.t 52), none⟩,
  ⟨(some 5), .mv (.t 53), none⟩]
def r10_8 : List SOper := [
  ⟨(some 34), .mv (.t 6), none⟩,
  ⟨(some 35), .bin .add (.t 34) (.c (.one (.sc (.int .i64 1)))), none⟩,
  ⟨(some 6), .mv (.t 35), none⟩]
def l10_0 : SC := (.seq (.seq (.reg r10_7) (.cond (.t 33) .skip (.exit 0))) (.seq (.block 1 (.seq (.seq (.reg r10_9) (.cond (.t 47) (.seq (.reg r10_10) .ret) .skip)) (.reg r10_11))) (.reg r10_8)))
def r10_12 : List SOper := [
  ⟨(some 54), .mv (.t 1), none⟩,
  ⟨(some 55), .bin .geq (.t 54) (.c (.one (.sc (.int .i64 0)))), none⟩,
  ⟨(some 56), .mv (.t 55), none⟩,
  ⟨(some 57), .mv (.t 1), (some (some 56, true))⟩,
  ⟨(some 58), .mv (.t 5), (some (some 56, true))⟩,
  ⟨(some 59), .bin .lss (.t 57) (.t 58), (some (some 56, true))⟩,
  ⟨(some 60), .pick (.t 56) (.t 59) (.c (.one (.sc (.bool false)))), none⟩,
  ⟨(some 4), .mv (.t 60), none⟩]
def c10 : SC := (.seq (.reg r10_0) (.seq (.seq (.reg r10_1) (.cond (.t 9) (.seq (.reg r10_2) .ret) .skip)) (.seq (.seq (.reg r10_3) (.cond (.t 29) (.seq (.reg r10_4) .ret) .skip)) (.seq (.reg r10_5) (.seq (.seq (.reg r10_6) (.block 0 (.loop l10_0))) (.seq (.reg r10_12) .ret))))))
/-- limner/limnerref09.Right -/
def F10 : SFun := ⟨61, c10, [.tmp 4]⟩

def r11_0 : List SOper := [
  ⟨(some 1), .box (.t 0), none⟩,
  ⟨(some 2), .mv (.c (.one (.sc (.int .i64 0)))), none⟩]
def r11_1 : List SOper := [
  ⟨(some 5), .fadr 0 (.t 1), none⟩,
  ⟨(some 6), .load1 (.t 5), none⟩,
  ⟨(some 7), .len (.t 6), none⟩,
  ⟨(some 8), .bin .eql (.t 7) (.c (.one (.sc (.int .i64 0)))), none⟩,
  ⟨(some 9), .mv (.t 8), none⟩,
  ⟨(some 10), .fadr 1 (.t 1), (some (some 9, true))⟩,
  ⟨(some 11), .load1 (.t 10), (some (some 9, true))⟩,
  ⟨(some 12), .bin .eql (.t 11) (.c (.one (.sc (.int .i64 0)))), (some (some 9, true))⟩,
  ⟨(some 13), .pick (.t 9) (.t 12) (.c (.one (.sc (.bool false)))), none⟩]
def r11_2 : List SOper := [
  ⟨(some 2), .mv (.c (.one (.sc (.int .i64 0)))), none⟩]
def r11_3 : List SOper := [
  ⟨(some 14), .fadr 0 (.t 1), none⟩,
  ⟨(some 15), .load1 (.t 14), none⟩,
  ⟨(some 16), .len (.t 15), none⟩,
  ⟨(some 17), .bin .eql (.t 16) (.c (.one (.sc (.int .i64 0)))), none⟩,
  ⟨(some 18), .mv (.t 17), none⟩,
  ⟨(some 19), .fadr 0 (.t 1), (some (some 18, false))⟩,
  ⟨(some 20), .load1 (.t 19), (some (some 18, false))⟩,
  ⟨(some 21), .len (.t 20), (some (some 18, false))⟩,
  ⟨(some 22), .bin .gtr (.t 21) (.c (.one (.sc (.int .i64 8)))), (some (some 18, false))⟩,
  ⟨(some 23), .pick (.t 18) (.c (.one (.sc (.bool true)))) (.t 22), none⟩,
  ⟨(some 24), .mv (.t 23), none⟩,
  ⟨(some 25), .fadr 0 (.t 1), (some (some 24, false))⟩,
  ⟨(some 26), .load1 (.t 25), (some (some 24, false))⟩,
  ⟨(some 27), .len (.t 26), (some (some 24, false))⟩,
  ⟨(some 28), .bin .rem (.t 27) (.c (.one (.sc (.int .i64 2)))), (some (some 24, false))⟩,
  ⟨(some 29), .bin .neq (.t 28) (.c (.one (.sc (.int .i64 0)))), (some (some 24, false))⟩,
  ⟨(some 30), .pick (.t 24) (.c (.one (.sc (.bool true)))) (.t 29), none⟩]
def r11_4 : List SOper := [
  ⟨(some 2), .mv (.c (.one (.sc (.int .i64 30)))), none⟩]
def r11_5 : List SOper := [
  ⟨(some 31), .fadr 0 (.t 1), none⟩,
  ⟨(some 32), .load1 (.t 31), none⟩,
  ⟨(some 33), .len (.t 32), none⟩,
  ⟨(some 34), .mv (.c (.one (.sc (.int .i64 0)))), none⟩]
def r11_6 : List SOper := [
  ⟨(some 35), .bin .lss (.t 34) (.t 33), none⟩]
def r11_7 : List SOper := [
  ⟨(some 36), .iadrS 1 (.t 32) (.t 34), none⟩,
  ⟨(some 37), .load1 (.t 36), none⟩,
  ⟨(some 4), .mv (.t 37), none⟩]
def r11_8 : List SOper := [
  ⟨(some 38), .mv (.t 4), none⟩,
  ⟨(some 39), .bin .lss (.t 38) (.c (.one (.sc (.int .i64 1)))), none⟩,
  ⟨(some 40), .mv (.t 39), none⟩,
  ⟨(some 41), .mv (.t 4), (some (some 40, false))⟩,
  ⟨(some 42), .bin .gtr (.t 41) (.c (.one (.sc (.int .i64 1048576)))), (some (some 40, false))⟩,
  ⟨(some 43), .pick (.t 40) (.c (.one (.sc (.bool true)))) (.t 42), none⟩]
def r11_9 : List SOper := [
  ⟨(some 2), .mv (.c (.one (.sc (.int .i64 30)))), none⟩]
def r11_10 : List SOper := [
  ⟨(some 44), .bin .add (.t 34) (.c (.one (.sc (.int .i64 1)))), none⟩,
  ⟨(some 34), .mv (.t 44), none⟩]
def l11_0 : SC := (.seq (.reg r11_6) (.seq (.cond (.t 35) .skip (.exit 0)) (.seq (.block 1 (.seq (.reg r11_7) (.seq (.reg r11_8) (.cond (.t 43) (.seq (.reg r11_9) .ret) .skip)))) (.reg r11_10))))
def r11_11 : List SOper := [
  ⟨(some 45), .fadr 1 (.t 1), none⟩,
  ⟨(some 46), .load1 (.t 45), none⟩,
  ⟨(some 47), .bin .lss (.t 46) (.c (.one (.sc (.int .i64 0)))), none⟩,
  ⟨(some 48), .mv (.t 47), none⟩,
  ⟨(some 49), .fadr 1 (.t 1), (some (some 48, false))⟩,
  ⟨(some 50), .load1 (.t 49), (some (some 48, false))⟩,
  ⟨(some 51), .loadA 2 (.t 1), (some (some 48, false))⟩,
  ⟨(some 52), .call .q 12 [(.t 51)], (some (some 48, false))⟩,
  ⟨(some 53), .bin .geq (.t 50) (.t 52), (some (some 48, false))⟩,
  ⟨(some 54), .pick (.t 48) (.c (.one (.sc (.bool true)))) (.t 53), none⟩]
def r11_12 : List SOper := [
  ⟨(some 2), .mv (.c (.one (.sc (.int .i64 30)))), none⟩]
def r11_13 : List SOper := [
  ⟨(some 2), .mv (.c (.one (.sc (.int .i64 0)))), none⟩]
def c11 : SC := (.seq (.reg r11_0) (.seq (.seq (.reg r11_1) (.cond (.t 13) (.seq (.reg r11_2) .ret) .skip)) (.seq (.seq (.reg r11_3) (.cond (.t 30) (.seq (.reg r11_4) .ret) .skip)) (.seq (.seq (.reg r11_5) (.block 0 (.loop l11_0))) (.seq (.seq (.reg r11_11) (.cond (.t 54) (.seq (.reg r11_12) .ret) .skip)) (.seq (.reg r11_13) .ret))))))
/-- (limner/dash.Pattern).Check -/
def F11 : SFun := ⟨55, c11, [.tmp 2]⟩

def r12_0 : List SOper := [
  ⟨(some 1), .box (.t 0), none⟩,
  ⟨(some 2), .mv (.c (.one (.sc (.int .i64 0)))), none⟩]
def r12_1 : List SOper := [
  ⟨(some 3), .mv (.c (.one (.sc (.int .i64 0)))), none⟩]
def r12_2 : List SOper := [
  ⟨(some 6), .fadr 0 (.t 1), none⟩,
  ⟨(some 7), .load1 (.t 6), none⟩,
  ⟨(some 8), .len (.t 7), none⟩,
  ⟨(some 9), .mv (.c (.one (.sc (.int .i64 0)))), none⟩]
def r12_3 : List SOper := [
  ⟨(some 10), .bin .lss (.t 9) (.t 8), none⟩]
def r12_4 : List SOper := [
  ⟨(some 11), .iadrS 1 (.t 7) (.t 9), none⟩,
  ⟨(some 12), .load1 (.t 11), none⟩,
  ⟨(some 5), .mv (.t 12), none⟩]
def r12_5 : List SOper := [
  ⟨(some 13), .mv (.t 3), none⟩,
  ⟨(some 14), .mv (.t 5), none⟩,
  ⟨(some 15), .bin .add (.t 13) (.t 14), none⟩,
  ⟨(some 3), .mv (.t 15), none⟩]
def r12_6 : List SOper := [
  ⟨(some 16), .bin .add (.t 9) (.c (.one (.sc (.int .i64 1)))), none⟩,
  ⟨(some 9), .mv (.t 16), none⟩]
def l12_0 : SC := (.seq (.reg r12_3) (.seq (.cond (.t 10) .skip (.exit 0)) (.seq (.block 1 (.seq (.reg r12_4) (.reg r12_5))) (.reg r12_6))))
def r12_7 : List SOper := [
  ⟨(some 17), .mv (.t 3), none⟩,
  ⟨(some 2), .mv (.t 17), none⟩]
def c12 : SC := (.seq (.reg r12_0) (.seq (.reg r12_1) (.seq (.seq (.reg r12_2) (.block 0 (.loop l12_0))) (.seq (.reg r12_7) .ret))))
/-- (limner/dash.Pattern).Sum -/
def F12 : SFun := ⟨18, c12, [.tmp 2]⟩

def r13_0 : List SOper := [
  ⟨(some 2), .mv (.c (.one (.sc (.slice none 0 0)))), none⟩]
def r13_1 : List SOper := [
  ⟨(some 3), .mv (.c (.one (.sc (.slice none 0 0)))), none⟩]
def r13_2 : List SOper := [
  ⟨(some 6), .mv (.t 0), none⟩,
  ⟨(some 7), .len (.t 6), none⟩,
  ⟨(some 8), .mv (.c (.one (.sc (.int .i64 0)))), none⟩]
def r13_3 : List SOper := [
  ⟨(some 9), .bin .lss (.t 8) (.t 7), none⟩]
def r13_4 : List SOper := [
  ⟨(some 10), .iadrS 2 (.t 6) (.t 8), none⟩,
  ⟨(some 11), .loadA 2 (.t 10), none⟩,
  ⟨(some 5), .alloc [.sc (.int .i64 0), .sc (.int .i64 0)], none⟩,
  ⟨none, .store 2 (.t 5) (.t 11), none⟩]
def r13_5 : List SOper := [
  ⟨(some 12), .mv (.t 3), none⟩,
  ⟨(some 13), .loadA 2 (.t 5), none⟩,
  ⟨(some 14), .call (.z 0) 26 [(.t 13)], none⟩,
  ⟨(some 15), .bslice [.sc (.int .i64 0), .sc (.int .i64 0)] 1 2 [(0, 2, (.t 14))], none⟩,
  ⟨(some 16), .app 2 16 (.t 12) (.t 15), none⟩,
  ⟨(some 3), .mv (.t 16), none⟩]
def r13_6 : List SOper := [
  ⟨(some 17), .bin .add (.t 8) (.c (.one (.sc (.int .i64 1)))), none⟩,
  ⟨(some 8), .mv (.t 17), none⟩]
def l13_0 : SC := (.seq (.reg r13_3) (.seq (.cond (.t 9) .skip (.exit 0)) (.seq (.block 1 (.seq (.reg r13_4) (.reg r13_5))) (.reg r13_6))))
def r13_7 : List SOper := [
  ⟨(some 18), .mv (.t 3), none⟩,
  ⟨(some 2), .mv (.t 18), none⟩]
def c13 : SC := (.seq (.reg r13_0) (.seq (.reg r13_1) (.seq (.seq (.reg r13_2) (.block 0 (.loop l13_0))) (.seq (.reg r13_7) .ret))))
/-- limner/limnerlaw09.refs -/
def F13 : SFun := ⟨19, c13, [.tmp 2]⟩

def r14_0 : List SOper := [
  ⟨(some 1), .box (.t 0), none⟩,
  ⟨(some 2), .mv (.c (.one (.sc (.slice none 0 0)))), none⟩,
  ⟨(some 3), .mv (.c (.one (.sc (.int .i64 0)))), none⟩]
def r14_1 : List SOper := [
  ⟨(some 8), .fadr 0 (.t 1), none⟩,
  ⟨(some 9), .load1 (.t 8), none⟩,
  ⟨(some 10), .call .q 32 [(.t 9), (.f 33)], none⟩]
def r14_2 : List SOper := [
  ⟨(some 2), .mv (.c (.one (.sc (.slice none 0 0)))), none⟩,
  ⟨(some 3), .mv (.c (.one (.sc (.int .i64 30)))), none⟩]
def r14_3 : List SOper := [
  ⟨(some 11), .fadr 0 (.t 1), none⟩,
  ⟨(some 12), .load1 (.t 11), none⟩,
  ⟨(some 13), .call .k 36 [(.t 12)], none⟩,
  ⟨(some 14), .call .w 35 [(.t 13)], none⟩,
  ⟨(some 4), .mv (.t 14), none⟩]
def r14_4 : List SOper := [
  ⟨(some 15), .fadr 1 (.t 1), none⟩,
  ⟨(some 16), .load1 (.t 15), none⟩,
  ⟨(some 17), .mv (.t 16), none⟩,
  ⟨(some 18), .mv (.t 4), (some (some 17, true))⟩,
  ⟨(some 19), .len (.t 18), (some (some 17, true))⟩,
  ⟨(some 20), .bin .gtr (.t 19) (.c (.one (.sc (.int .i64 1)))), (some (some 17, true))⟩,
  ⟨(some 21), .pick (.t 17) (.t 20) (.c (.one (.sc (.bool false)))), none⟩,
  ⟨(some 22), .mv (.t 21), none⟩,
  ⟨(some 23), .mv (.t 4), (some (some 22, true))⟩,
  ⟨(some 24), .mv (.t 4), (some (some 22, true))⟩,
  ⟨(some 25), .len (.t 24), (some (some 22, true))⟩,
  ⟨(some 26), .bin .sub (.t 25) (.c (.one (.sc (.int .i64 1)))), (some (some 22, true))⟩,
  ⟨(some 27), .iadrS 2 (.t 23) (.t 26), (some (some 22, true))⟩,
  ⟨(some 28), .loadA 2 (.t 27), (some (some 22, true))⟩,
  ⟨(some 29), .mv (.t 4), (some (some 22, true))⟩,
  ⟨(some 30), .iadrS 2 (.t 29) (.c (.one (.sc (.int .i64 0)))), (some (some 22, true))⟩,
  ⟨(some 31), .loadA 2 (.t 30), (some (some 22, true))⟩,
  ⟨(some 32), .eqv [.i, .i] true (.t 28) (.t 31), (some (some 22, true))⟩,
  ⟨(some 33), .pick (.t 22) (.t 32) (.c (.one (.sc (.bool false)))), none⟩]
def r14_5 : List SOper := [
  ⟨(some 34), .mv (.t 4), none⟩,
  ⟨(some 35), .mv (.t 4), none⟩,
  ⟨(some 36), .iadrS 2 (.t 35) (.c (.one (.sc (.int .i64 0)))), none⟩,
  ⟨(some 37), .loadA 2 (.t 36), none⟩,
  ⟨(some 38), .bslice [.sc (.int .i64 0), .sc (.int .i64 0)] 1 2 [(0, 2, (.t 37))], none⟩,
  ⟨(some 39), .app 2 16 (.t 34) (.t 38), none⟩,
  ⟨(some 4), .mv (.t 39), none⟩]
def r14_6 : List SOper := [
  ⟨(some 5), .mv (.c (.one (.sc (.int .i64 1)))), none⟩]
def r14_7 : List SOper := [
  ⟨(some 40), .mv (.t 5), none⟩,
  ⟨(some 41), .mv (.t 4), none⟩,
  ⟨(some 42), .len (.t 41), none⟩,
  ⟨(some 43), .bin .lss (.t 40) (.t 42), none⟩]
def r14_9 : List SOper := [
  ⟨(some 47), .mv (.t 4), none⟩,
  ⟨(some 48), .mv (.t 5), none⟩,
  ⟨(some 49), .bin .sub (.t 48) (.c (.one (.sc (.int .i64 1)))), none⟩,
  ⟨(some 50), .iadrS 2 (.t 47) (.t 49), none⟩,
  ⟨(some 51), .loadA 2 (.t 50), none⟩,
  ⟨(some 52), .mv (.t 4), none⟩,
  ⟨(some 53), .mv (.t 5), none⟩,
  ⟨(some 54), .iadrS 2 (.t 52) (.t 53), none⟩,
  ⟨(some 55), .loadA 2 (.t 54), none⟩,
  ⟨(some 56), .call (.z 0) 22 [(.t 51), (.t 55)], none⟩,
  ⟨(some 46), .mv (.t 56), none⟩,
  ⟨(some 57), .ext (.t 46) 0, none⟩,
  ⟨(some 58), .ext (.t 46) 1, none⟩,
  ⟨(some 6), .mv (.t 57), none⟩,
  ⟨(some 7), .mv (.t 58), none⟩]
def r14_10 : List SOper := [
  ⟨(some 59), .mv (.t 7), none⟩,
  ⟨(some 60), .bin .neq (.t 59) (.c (.one (.sc (.int .i64 0)))), none⟩]
def r14_11 : List SOper := [
  ⟨(some 61), .mv (.t 7), none⟩,
  ⟨(some 2), .mv (.c (.one (.sc (.slice none 0 0)))), none⟩,
  ⟨(some 3), .mv (.t 61), none⟩]
def r14_8 : List SOper := [
  ⟨(some 44), .mv (.t 5), none⟩,
  ⟨(some 45), .bin .add (.t 44) (.c (.one (.sc (.int .i64 1)))), none⟩,
  ⟨(some 5), .mv (.t 45), none⟩]
def l14_0 : SC := (.seq (.seq (.reg r14_7) (.cond (.t 43) .skip (.exit 0))) (.seq (.block 1 (.seq (.reg r14_9) (.seq (.reg r14_10) (.cond (.t 60) (.seq (.reg r14_11) .ret) .skip)))) (.reg r14_8)))
def r14_12 : List SOper := [
  ⟨(some 62), .mv (.t 4), none⟩,
  ⟨(some 2), .mv (.t 62), none⟩,
  ⟨(some 3), .mv (.c (.one (.sc (.int .i64 0)))), none⟩]
def c14 : SC := (.seq (.reg r14_0) (.seq (.seq (.reg r14_1) (.cond (.t 10) (.seq (.reg r14_2) .ret) .skip)) (.seq (.reg r14_3) (.seq (.seq (.reg r14_4) (.cond (.t 33) (.reg r14_5) .skip)) (.seq (.seq (.reg r14_6) (.block 0 (.loop l14_0))) (.seq (.reg r14_12) .ret))))))
/-- limner/dash.Way -/
def F14 : SFun := ⟨63, c14, [.tmp 2, .tmp 3]⟩

def r15_0 : List SOper := [
  ⟨(some 2), .mv (.c (.one (.sc (.bool false)))), none⟩]
def r15_1 : List SOper := [
  ⟨(some 3), .mv (.c (.one (.sc (.int .i64 0)))), none⟩]
def r15_2 : List SOper := [
  ⟨(some 4), .mv (.t 3), none⟩,
  ⟨(some 5), .mv (.t 0), none⟩,
  ⟨(some 6), .len (.t 5), none⟩,
  ⟨(some 7), .bin .lss (.t 4) (.t 6), none⟩]
def r15_4 : List SOper := [
  ⟨(some 10), .mv (.t 0), none⟩,
  ⟨(some 11), .mv (.t 3), none⟩,
  ⟨(some 12), .iadrS 2 (.t 10) (.t 11), none⟩,
  ⟨(some 13), .fadr 0 (.t 12), none⟩,
  ⟨(some 14), .load1 (.t 13), none⟩,
  ⟨(some 15), .call (.z 0) 37 [(.t 14)], none⟩,
  ⟨(some 16), .un .not (.t 15), none⟩,
  ⟨(some 17), .mv (.t 16), none⟩,
  ⟨(some 18), .mv (.t 0), (some (some 17, false))⟩,
  ⟨(some 19), .mv (.t 3), (some (some 17, false))⟩,
  ⟨(some 20), .iadrS 2 (.t 18) (.t 19), (some (some 17, false))⟩,
  ⟨(some 21), .fadr 1 (.t 20), (some (some 17, false))⟩,
  ⟨(some 22), .load1 (.t 21), (some (some 17, false))⟩,
  ⟨(some 23), .call (.z 0) 37 [(.t 22)], (some (some 17, false))⟩,
  ⟨(some 24), .un .not (.t 23), (some (some 17, false))⟩,
  ⟨(some 25), .pick (.t 17) (.c (.one (.sc (.bool true)))) (.t 24), none⟩]
def r15_5 : List SOper := [
  ⟨(some 2), .mv (.c (.one (.sc (.bool false)))), none⟩]
def r15_3 : List SOper := [
  ⟨(some 8), .mv (.t 3), none⟩,
  ⟨(some 9), .bin .add (.t 8) (.c (.one (.sc (.int .i64 1)))), none⟩,
  ⟨(some 3), .mv (.t 9), none⟩]
def l15_0 : SC := (.seq (.seq (.reg r15_2) (.cond (.t 7) .skip (.exit 0))) (.seq (.block 1 (.seq (.reg r15_4) (.cond (.t 25) (.seq (.reg r15_5) .ret) .skip))) (.reg r15_3)))
def r15_6 : List SOper := [
  ⟨(some 2), .mv (.c (.one (.sc (.bool true)))), none⟩]
def c15 : SC := (.seq (.reg r15_0) (.seq (.seq (.reg r15_1) (.block 0 (.loop l15_0))) (.seq (.reg r15_6) .ret)))
/-- limner/limnerref07.In -/
def F15 : SFun := ⟨26, c15, [.tmp 2]⟩

def r16_0 : List SOper := [
  ⟨(some 4), .mv (.c (.one (.sc (.slice none 0 0)))), none⟩,
  ⟨(some 5), .mv (.c (.one (.sc (.bool false)))), none⟩]
def r16_1 : List SOper := [
  ⟨(some 8), .mv (.t 0), none⟩,
  ⟨(some 9), .call .k 38 [(.t 8), (.c (.one (.sc (.bool false))))], none⟩,
  ⟨(some 6), .mv (.t 9), none⟩]
def r16_2 : List SOper := [
  ⟨(some 10), .mv (.t 1), none⟩,
  ⟨(some 11), .mv (.t 10), none⟩,
  ⟨(some 12), .mv (.t 6), (some (some 11, true))⟩,
  ⟨(some 13), .len (.t 12), (some (some 11, true))⟩,
  ⟨(some 14), .bin .gtr (.t 13) (.c (.one (.sc (.int .i64 1)))), (some (some 11, true))⟩,
  ⟨(some 15), .pick (.t 11) (.t 14) (.c (.one (.sc (.bool false)))), none⟩,
  ⟨(some 16), .mv (.t 15), none⟩,
  ⟨(some 17), .mv (.t 6), (some (some 16, true))⟩,
  ⟨(some 18), .mv (.t 6), (some (some 16, true))⟩,
  ⟨(some 19), .len (.t 18), (some (some 16, true))⟩,
  ⟨(some 20), .bin .sub (.t 19) (.c (.one (.sc (.int .i64 1)))), (some (some 16, true))⟩,
  ⟨(some 21), .iadrS 2 (.t 17) (.t 20), (some (some 16, true))⟩,
  ⟨(some 22), .loadA 2 (.t 21), (some (some 16, true))⟩,
  ⟨(some 23), .mv (.t 6), (some (some 16, true))⟩,
  ⟨(some 24), .iadrS 2 (.t 23) (.c (.one (.sc (.int .i64 0)))), (some (some 16, true))⟩,
  ⟨(some 25), .loadA 2 (.t 24), (some (some 16, true))⟩,
  ⟨(some 26), .eqv [.i, .i] true (.t 22) (.t 25), (some (some 16, true))⟩,
  ⟨(some 27), .pick (.t 16) (.t 26) (.c (.one (.sc (.bool false)))), none⟩]
def r16_3 : List SOper := [
  ⟨(some 28), .mv (.t 6), none⟩,
  ⟨(some 29), .mv (.t 6), none⟩,
  ⟨(some 30), .iadrS 2 (.t 29) (.c (.one (.sc (.int .i64 0)))), none⟩,
  ⟨(some 31), .loadA 2 (.t 30), none⟩,
  ⟨(some 32), .bslice [.sc (.int .i64 0), .sc (.int .i64 0)] 1 2 [(0, 2, (.t 31))], none⟩,
  ⟨(some 33), .app 2 16 (.t 28) (.t 32), none⟩,
  ⟨(some 6), .mv (.t 33), none⟩]
def r16_4 : List SOper := [
  ⟨(some 7), .mv (.c (.one (.sc (.int .i64 1)))), none⟩]
def r16_5 : List SOper := [
  ⟨(some 34), .mv (.t 7), none⟩,
  ⟨(some 35), .mv (.t 6), none⟩,
  ⟨(some 36), .len (.t 35), none⟩,
  ⟨(some 37), .bin .lss (.t 34) (.t 36), none⟩]
def r16_7 : List SOper := [
  ⟨(some 40), .mv (.t 6), none⟩,
  ⟨(some 41), .mv (.t 7), none⟩,
  ⟨(some 42), .bin .sub (.t 41) (.c (.one (.sc (.int .i64 1)))), none⟩,
  ⟨(some 43), .iadrS 2 (.t 40) (.t 42), none⟩,
  ⟨(some 44), .loadA 2 (.t 43), none⟩,
  ⟨(some 45), .mv (.t 6), none⟩,
  ⟨(some 46), .mv (.t 7), none⟩,
  ⟨(some 47), .iadrS 2 (.t 45) (.t 46), none⟩,
  ⟨(some 48), .loadA 2 (.t 47), none⟩,
  ⟨(some 49), .call (.z 0) 25 [(.t 44), (.t 48)], none⟩]
def r16_8 : List SOper := [
  ⟨(some 4), .mv (.c (.one (.sc (.slice none 0 0)))), none⟩,
  ⟨(some 5), .mv (.c (.one (.sc (.bool false)))), none⟩]
def r16_6 : List SOper := [
  ⟨(some 38), .mv (.t 7), none⟩,
  ⟨(some 39), .bin .add (.t 38) (.c (.one (.sc (.int .i64 1)))), none⟩,
  ⟨(some 7), .mv (.t 39), none⟩]
def l16_0 : SC := (.seq (.seq (.reg r16_5) (.cond (.t 37) .skip (.exit 0))) (.seq (.block 1 (.seq (.reg r16_7) (.cond (.t 49) (.seq (.reg r16_8) .ret) .skip))) (.reg r16_6)))
def r16_9 : List SOper := [
  ⟨(some 50), .mv (.t 6), none⟩,
  ⟨(some 4), .mv (.t 50), none⟩,
  ⟨(some 5), .mv (.c (.one (.sc (.bool true)))), none⟩]
def c16 : SC := (.seq (.reg r16_0) (.seq (.reg r16_1) (.seq (.seq (.reg r16_2) (.cond (.t 27) (.reg r16_3) .skip)) (.seq (.seq (.reg r16_4) (.block 0 (.loop l16_0))) (.seq (.reg r16_9) .ret)))))
/-- limner/limnerref09.Way -/
def F16 : SFun := ⟨51, c16, [.tmp 4, .tmp 5]⟩

def r17_0 : List SOper := [
  ⟨(some 4), .mv (.c (.one (.sc (.bool false)))), none⟩]
def r17_1 : List SOper := [
  ⟨(some 6), .mv (.t 0), none⟩,
  ⟨(some 7), .len (.t 6), none⟩,
  ⟨(some 8), .mv (.t 1), none⟩,
  ⟨(some 9), .len (.t 8), none⟩,
  ⟨(some 10), .bin .neq (.t 7) (.t 9), none⟩]
def r17_2 : List SOper := [
  ⟨(some 4), .mv (.c (.one (.sc (.bool false)))), none⟩]
def r17_3 : List SOper := [
  ⟨(some 11), .mv (.t 0), none⟩,
  ⟨(some 12), .len (.t 11), none⟩,
  ⟨(some 13), .mv (.c (.one (.sc (.int .i64 0)))), none⟩]
def r17_4 : List SOper := [
  ⟨(some 14), .bin .lss (.t 13) (.t 12), none⟩]
def r17_5 : List SOper := [
  ⟨(some 15), .mv (.t 13), none⟩,
  ⟨(some 5), .mv (.t 15), none⟩]
def r17_6 : List SOper := [
  ⟨(some 16), .mv (.t 0), none⟩,
  ⟨(some 17), .mv (.t 5), none⟩,
  ⟨(some 18), .iadrS 2 (.t 16) (.t 17), none⟩,
  ⟨(some 19), .fadr 0 (.t 18), none⟩,
  ⟨(some 20), .load1 (.t 19), none⟩,
  ⟨(some 21), .mv (.t 1), none⟩,
  ⟨(some 22), .mv (.t 5), none⟩,
  ⟨(some 23), .iadrS 2 (.t 21) (.t 22), none⟩,
  ⟨(some 24), .fadr 0 (.t 23), none⟩,
  ⟨(some 25), .load1 (.t 24), none⟩,
  ⟨(some 26), .bin .neq (.t 20) (.t 25), none⟩,
  ⟨(some 27), .mv (.t 26), none⟩,
  ⟨(some 28), .mv (.t 0), (some (some 27, false))⟩,
  ⟨(some 29), .mv (.t 5), (some (some 27, false))⟩,
  ⟨(some 30), .iadrS 2 (.t 28) (.t 29), (some (some 27, false))⟩,
  ⟨(some 31), .fadr 1 (.t 30), (some (some 27, false))⟩,
  ⟨(some 32), .load1 (.t 31), (some (some 27, false))⟩,
  ⟨(some 33), .mv (.t 1), (some (some 27, false))⟩,
  ⟨(some 34), .mv (.t 5), (some (some 27, false))⟩,
  ⟨(some 35), .iadrS 2 (.t 33) (.t 34), (some (some 27, false))⟩,
  ⟨(some 36), .fadr 1 (.t 35), (some (some 27, false))⟩,
  ⟨(some 37), .load1 (.t 36), (some (some 27, false))⟩,
  ⟨(some 38), .bin .neq (.t 32) (.t 37), (some (some 27, false))⟩,
  ⟨(some 39), .pick (.t 27) (.c (.one (.sc (.bool true)))) (.t 38), none⟩]
def r17_7 : List SOper := [
  ⟨(some 4), .mv (.c (.one (.sc (.bool false)))), none⟩]
def r17_8 : List SOper := [
  ⟨(some 40), .bin .add (.t 13) (.c (.one (.sc (.int .i64 1)))), none⟩,
  ⟨(some 13), .mv (.t 40), none⟩]
def l17_0 : SC := (.seq (.reg r17_4) (.seq (.cond (.t 14) .skip (.exit 0)) (.seq (.block 1 (.seq (.reg r17_5) (.seq (.reg r17_6) (.cond (.t 39) (.seq (.reg r17_7) .ret) .skip)))) (.reg r17_8))))
def r17_9 : List SOper := [
  ⟨(some 4), .mv (.c (.one (.sc (.bool true)))), none⟩]
def c17 : SC := (.seq (.reg r17_0) (.seq (.seq (.reg r17_1) (.cond (.t 10) (.seq (.reg r17_2) .ret) .skip)) (.seq (.seq (.reg r17_3) (.block 0 (.loop l17_0))) (.seq (.reg r17_9) .ret))))
/-- limner/limnerlaw09.same -/
def F17 : SFun := ⟨41, c17, [.tmp 4]⟩

def r18_0 : List SOper := [
  ⟨(some 2), .box (.t 0), none⟩,
  ⟨(some 3), .box (.t 1), none⟩,
  ⟨(some 4), .mv (.c (.one (.sc (.slice none 0 0)))), none⟩,
  ⟨(some 5), .mv (.c (.one (.sc (.int .i64 0)))), none⟩]
def r18_1 : List SOper := [
  ⟨(some 13), .loadA 2 (.t 3), none⟩,
  ⟨(some 14), .call .q 11 [(.t 13)], none⟩,
  ⟨(some 6), .mv (.t 14), none⟩]
def r18_2 : List SOper := [
  ⟨(some 15), .mv (.t 6), none⟩,
  ⟨(some 16), .bin .neq (.t 15) (.c (.one (.sc (.int .i64 0)))), none⟩]
def r18_3 : List SOper := [
  ⟨(some 17), .mv (.t 6), none⟩,
  ⟨(some 4), .mv (.c (.one (.sc (.slice none 0 0)))), none⟩,
  ⟨(some 5), .mv (.t 17), none⟩]
def r18_4 : List SOper := [
  ⟨(some 19), .loadA 2 (.t 2), none⟩,
  ⟨(some 20), .call .k 14 [(.t 19)], none⟩,
  ⟨(some 18), .mv (.t 20), none⟩,
  ⟨(some 21), .ext (.t 18) 0, none⟩,
  ⟨(some 22), .ext (.t 18) 1, none⟩,
  ⟨(some 7), .mv (.t 21), none⟩,
  ⟨(some 8), .mv (.t 22), none⟩]
def r18_5 : List SOper := [
  ⟨(some 24), .mv (.t 8), none⟩,
  ⟨(some 25), .bin .neq (.t 24) (.c (.one (.sc (.int .i64 0)))), none⟩,
  ⟨(some 23), .mv (.t 25), none⟩]
def r18_6 : List SOper := [
  ⟨(some 26), .mv (.t 8), none⟩,
  ⟨(some 4), .mv (.c (.one (.sc (.slice none 0 0)))), none⟩,
  ⟨(some 5), .mv (.t 26), none⟩]
def r18_7 : List SOper := [
  ⟨(some 28), .mv (.t 7), none⟩,
  ⟨(some 29), .len (.t 28), none⟩,
  ⟨(some 30), .bin .eql (.t 29) (.c (.one (.sc (.int .i64 0)))), none⟩,
  ⟨(some 27), .mv (.t 30), none⟩]
def r18_8 : List SOper := [
  ⟨(some 4), .mv (.c (.one (.sc (.slice none 0 0)))), none⟩,
  ⟨(some 5), .mv (.c (.one (.sc (.int .i64 0)))), none⟩]
def r18_9 : List SOper := [
  ⟨(some 32), .fadr 0 (.t 3), none⟩,
  ⟨(some 33), .load1 (.t 32), none⟩,
  ⟨(some 34), .len (.t 33), none⟩,
  ⟨(some 35), .bin .eql (.t 34) (.c (.one (.sc (.int .i64 0)))), none⟩,
  ⟨(some 31), .mv (.t 35), none⟩]
def r18_10 : List SOper := [
  ⟨(some 36), .fadr 0 (.t 2), none⟩,
  ⟨(some 37), .load1 (.t 36), none⟩,
  ⟨(some 38), .call .k 36 [(.t 37)], none⟩,
  ⟨(some 39), .fadr 1 (.t 2), none⟩,
  ⟨(some 40), .load1 (.t 39), none⟩,
  ⟨(some 41), .build [.sc (.slice none 0 0), .sc (.bool false)] [(0, 1, (.t 38)), (1, 1, (.t 40))], none⟩,
  ⟨(some 42), .bslice [.sc (.slice none 0 0), .sc (.bool false)] 1 2 [(0, 2, (.t 41))], none⟩,
  ⟨(some 4), .mv (.t 42), none⟩,
  ⟨(some 5), .mv (.c (.one (.sc (.int .i64 0)))), none⟩]
def r18_11 : List SOper := [
  ⟨(some 43), .loadA 2 (.t 3), none⟩,
  ⟨(some 44), .fadr 0 (.t 3), none⟩,
  ⟨(some 45), .load1 (.t 44), none⟩,
  ⟨(some 46), .iadrS 1 (.t 45) (.c (.one (.sc (.int .i64 0)))), none⟩,
  ⟨(some 47), .load1 (.t 46), none⟩,
  ⟨(some 48), .build [.sc (.slice none 0 0), .sc (.int .i64 0), .sc (.int .i64 0), .sc (.int .i64 0), .sc (.slice none 0 0)] [(0, 2, (.t 43)), (3, 1, (.t 47))], none⟩,
  ⟨(some 49), .box (.t 48), none⟩,
  ⟨(some 9), .mv (.t 49), none⟩]
def r18_12 : List SOper := [
  ⟨(some 50), .fadr 1 (.t 3), none⟩,
  ⟨(some 51), .load1 (.t 50), none⟩,
  ⟨(some 10), .mv (.t 51), none⟩]
def r18_13 : List SOper := [
  ⟨(some 52), .mv (.t 10), none⟩,
  ⟨(some 53), .bin .gtr (.t 52) (.c (.one (.sc (.int .i64 0)))), none⟩]
def r18_14 : List SOper := [
  ⟨(some 54), .mv (.t 10), none⟩,
  ⟨(some 55), .mv (.t 9), none⟩,
  ⟨(some 56), .nilchk (.t 55), none⟩,
  ⟨(some 57), .fadr 3 (.t 56), none⟩,
  ⟨(some 58), .load1 (.t 57), none⟩,
  ⟨(some 59), .mn [(.t 54), (.t 58)], none⟩,
  ⟨(some 11), .mv (.t 59), none⟩]
def r18_15 : List SOper := [
  ⟨(some 60), .mv (.t 10), none⟩,
  ⟨(some 61), .mv (.t 11), none⟩,
  ⟨(some 62), .bin .sub (.t 60) (.t 61), none⟩,
  ⟨(some 10), .mv (.t 62), none⟩]
def r18_16 : List SOper := [
  ⟨(some 63), .mv (.t 9), none⟩,
  ⟨(some 64), .nilchk (.t 63), none⟩,
  ⟨(some 65), .fadr 3 (.t 64), none⟩,
  ⟨(some 66), .load1 (.t 65), none⟩,
  ⟨(some 67), .mv (.t 11), none⟩,
  ⟨(some 68), .bin .sub (.t 66) (.t 67), none⟩,
  ⟨(some 69), .nilchk (.t 63), none⟩,
  ⟨(some 70), .fadr 3 (.t 69), none⟩,
  ⟨none, .store 1 (.t 70) (.t 68), none⟩]
def r18_17 : List SOper := [
  ⟨(some 71), .mv (.t 9), none⟩,
  ⟨(some 72), .nilchk (.t 71), none⟩,
  ⟨(some 73), .fadr 3 (.t 72), none⟩,
  ⟨(some 74), .load1 (.t 73), none⟩,
  ⟨(some 75), .bin .eql (.t 74) (.c (.one (.sc (.int .i64 0)))), none⟩]
def r18_18 : List SOper := [
  ⟨(some 76), .mv (.t 9), none⟩,
  ⟨(some 77), .mv (.t 9), none⟩,
  ⟨(some 78), .nilchk (.t 77), none⟩,
  ⟨(some 79), .fadr 2 (.t 78), none⟩,
  ⟨(some 80), .load1 (.t 79), none⟩,
  ⟨(some 81), .bin .add (.t 80) (.c (.one (.sc (.int .i64 1)))), none⟩,
  ⟨(some 82), .fadr 0 (.t 3), none⟩,
  ⟨(some 83), .load1 (.t 82), none⟩,
  ⟨(some 84), .len (.t 83), none⟩,
  ⟨(some 85), .bin .rem (.t 81) (.t 84), none⟩,
  ⟨(some 86), .nilchk (.t 76), none⟩,
  ⟨(some 87), .fadr 2 (.t 86), none⟩,
  ⟨none, .store 1 (.t 87) (.t 85), none⟩]
def r18_19 : List SOper := [
  ⟨(some 88), .mv (.t 9), none⟩,
  ⟨(some 89), .fadr 0 (.t 3), none⟩,
  ⟨(some 90), .load1 (.t 89), none⟩,
  ⟨(some 91), .mv (.t 9), none⟩,
  ⟨(some 92), .nilchk (.t 91), none⟩,
  ⟨(some 93), .fadr 2 (.t 92), none⟩,
  ⟨(some 94), .load1 (.t 93), none⟩,
  ⟨(some 95), .iadrS 1 (.t 90) (.t 94), none⟩,
  ⟨(some 96), .load1 (.t 95), none⟩,
  ⟨(some 97), .nilchk (.t 88), none⟩,
  ⟨(some 98), .fadr 3 (.t 97), none⟩,
  ⟨none, .store 1 (.t 98) (.t 96), none⟩]
def l18_0 : SC := (.seq (.seq (.reg r18_13) (.cond (.t 53) .skip (.exit 1))) (.block 2 (.seq (.reg r18_14) (.seq (.reg r18_15) (.seq (.reg r18_16) (.seq (.reg r18_17) (.cond (.t 75) (.seq (.reg r18_18) (.reg r18_19)) .skip)))))))
def r18_20 : List SOper := [
  ⟨(some 99), .mv (.t 9), none⟩,
  ⟨(some 100), .call .q 39 [(.t 99)], none⟩]
def r18_21 : List SOper := [
  ⟨(some 101), .mv (.t 9), none⟩,
  ⟨(some 102), .mv (.t 9), none⟩,
  ⟨(some 103), .nilchk (.t 102), none⟩,
  ⟨(some 104), .fadr 4 (.t 103), none⟩,
  ⟨(some 105), .load1 (.t 104), none⟩,
  ⟨(some 106), .mv (.t 7), none⟩,
  ⟨(some 107), .iadrS 2 (.t 106) (.c (.one (.sc (.int .i64 0)))), none⟩,
  ⟨(some 108), .loadA 2 (.t 107), none⟩,
  ⟨(some 109), .bslice [.sc (.int .i64 0), .sc (.int .i64 0)] 1 2 [(0, 2, (.t 108))], none⟩,
  ⟨(some 110), .build [.sc (.slice none 0 0), .sc (.bool false)] [(0, 1, (.t 109))], none⟩,
  ⟨(some 111), .bslice [.sc (.slice none 0 0), .sc (.bool false)] 1 2 [(0, 2, (.t 110))], none⟩,
  ⟨(some 112), .app 2 32 (.t 105) (.t 111), none⟩,
  ⟨(some 113), .nilchk (.t 101), none⟩,
  ⟨(some 114), .fadr 4 (.t 113), none⟩,
  ⟨none, .store 1 (.t 114) (.t 112), none⟩]
def r18_22 : List SOper := [
  ⟨(some 12), .mv (.c (.one (.sc (.int .i64 1)))), none⟩]
def r18_23 : List SOper := [
  ⟨(some 115), .mv (.t 12), none⟩,
  ⟨(some 116), .mv (.t 7), none⟩,
  ⟨(some 117), .len (.t 116), none⟩,
  ⟨(some 118), .bin .lss (.t 115) (.t 117), none⟩]
def r18_25 : List SOper := [
  ⟨(some 121), .mv (.t 9), none⟩,
  ⟨(some 122), .mv (.t 7), none⟩,
  ⟨(some 123), .mv (.t 12), none⟩,
  ⟨(some 124), .bin .sub (.t 123) (.c (.one (.sc (.int .i64 1)))), none⟩,
  ⟨(some 125), .iadrS 2 (.t 122) (.t 124), none⟩,
  ⟨(some 126), .loadA 2 (.t 125), none⟩,
  ⟨(some 127), .mv (.t 7), none⟩,
  ⟨(some 128), .mv (.t 12), none⟩,
  ⟨(some 129), .iadrS 2 (.t 127) (.t 128), none⟩,
  ⟨(some 130), .loadA 2 (.t 129), none⟩,
  ⟨(some 131), .call .w 40 [(.t 121), (.t 126), (.t 130)], none⟩,
  ⟨(some 132), .un .not (.t 131), none⟩]
def r18_26 : List SOper := [
  ⟨(some 4), .mv (.c (.one (.sc (.slice none 0 0)))), none⟩,
  ⟨(some 5), .mv (.c (.one (.sc (.int .i64 36)))), none⟩]
def r18_24 : List SOper := [
  ⟨(some 119), .mv (.t 12), none⟩,
  ⟨(some 120), .bin .add (.t 119) (.c (.one (.sc (.int .i64 1)))), none⟩,
  ⟨(some 12), .mv (.t 120), none⟩]
def l18_1 : SC := (.seq (.seq (.reg r18_23) (.cond (.t 118) .skip (.exit 3))) (.seq (.block 4 (.seq (.reg r18_25) (.cond (.t 132) (.seq (.reg r18_26) .ret) .skip))) (.reg r18_24)))
def r18_27 : List SOper := [
  ⟨(some 133), .mv (.t 9), none⟩,
  ⟨(some 134), .nilchk (.t 133), none⟩,
  ⟨(some 135), .fadr 4 (.t 134), none⟩,
  ⟨(some 136), .load1 (.t 135), none⟩,
  ⟨(some 4), .mv (.t 136), none⟩,
  ⟨(some 5), .mv (.c (.one (.sc (.int .i64 0)))), none⟩]
def c18 : SC := (.seq (.reg r18_0) (.seq (.seq (.reg r18_1) (.seq (.reg r18_2) (.cond (.t 16) (.seq (.reg r18_3) .ret) .skip))) (.seq (.reg r18_4) (.seq (.block 0 (.seq (.reg r18_5) (.cond (.t 23) (.seq (.reg r18_6) .ret) (.seq (.reg r18_7) (.cond (.t 27) (.seq (.reg r18_8) .ret) (.seq (.reg r18_9) (.cond (.t 31) (.seq (.reg r18_10) .ret) .skip))))))) (.seq (.reg r18_11) (.seq (.seq (.reg r18_12) (.block 1 (.loop l18_0))) (.seq (.seq (.reg r18_20) (.cond (.t 100) (.reg r18_21) .skip)) (.seq (.seq (.reg r18_22) (.block 3 (.loop l18_1))) (.seq (.reg r18_27) .ret)))))))))
/-- limner/dash.Dash -/
def F18 : SFun := ⟨137, c18, [.tmp 4, .tmp 5]⟩

def r19_0 : List SOper := [
  ⟨(some 1), .box (.t 0), none⟩,
  ⟨(some 2), .mv (.c (.one (.sc (.bool false)))), none⟩]
def r19_1 : List SOper := [
  ⟨(some 6), .fadr 1 (.t 1), none⟩,
  ⟨(some 7), .load1 (.t 6), none⟩,
  ⟨(some 3), .mv (.t 7), none⟩]
def r19_2 : List SOper := [
  ⟨(some 4), .mv (.c (.one (.sc (.int .i64 0)))), none⟩]
def r19_4 : List SOper := [
  ⟨(some 10), .fadr 0 (.t 1), none⟩,
  ⟨(some 11), .load1 (.t 10), none⟩,
  ⟨(some 12), .mv (.t 4), none⟩,
  ⟨(some 13), .fadr 0 (.t 1), none⟩,
  ⟨(some 14), .load1 (.t 13), none⟩,
  ⟨(some 15), .len (.t 14), none⟩,
  ⟨(some 16), .bin .rem (.t 12) (.t 15), none⟩,
  ⟨(some 17), .iadrS 1 (.t 11) (.t 16), none⟩,
  ⟨(some 18), .load1 (.t 17), none⟩,
  ⟨(some 5), .mv (.t 18), none⟩]
def r19_5 : List SOper := [
  ⟨(some 19), .mv (.t 3), none⟩,
  ⟨(some 20), .mv (.t 5), none⟩,
  ⟨(some 21), .bin .lss (.t 19) (.t 20), none⟩]
def r19_6 : List SOper := [
  ⟨(some 22), .mv (.t 4), none⟩,
  ⟨(some 23), .bin .rem (.t 22) (.c (.one (.sc (.int .i64 2)))), none⟩,
  ⟨(some 24), .bin .eql (.t 23) (.c (.one (.sc (.int .i64 0)))), none⟩,
  ⟨(some 2), .mv (.t 24), none⟩]
def r19_7 : List SOper := [
  ⟨(some 25), .mv (.t 3), none⟩,
  ⟨(some 26), .mv (.t 5), none⟩,
  ⟨(some 27), .bin .sub (.t 25) (.t 26), none⟩,
  ⟨(some 3), .mv (.t 27), none⟩]
def r19_3 : List SOper := [
  ⟨(some 8), .mv (.t 4), none⟩,
  ⟨(some 9), .bin .add (.t 8) (.c (.one (.sc (.int .i64 1)))), none⟩,
  ⟨(some 4), .mv (.t 9), none⟩]
def l19_0 : SC := (.seq (.block 1 (.seq (.reg r19_4) (.seq (.seq (.reg r19_5) (.cond (.t 21) (.seq (.reg r19_6) .ret) .skip)) (.reg r19_7)))) (.reg r19_3))
def c19 : SC := (.seq (.reg r19_0) (.seq (.reg r19_1) (.seq (.reg r19_2) (.block 0 (.loop l19_0)))))
/-- limner/limnerlaw09.drawn -/
def F19 : SFun := ⟨28, c19, [.tmp 2]⟩

def r20_0 : List SOper := [
  ⟨(some 8), .mv (.c (.one (.sc (.slice none 0 0)))), none⟩,
  ⟨(some 9), .mv (.c (.one (.sc (.bool false)))), none⟩]
def r20_1 : List SOper := [
  ⟨(some 19), .bslice [.sc (.int .i64 0)] 1 1 [(0, 1, (.c (.one (.sc (.int .i64 0)))))], none⟩,
  ⟨(some 10), .mv (.t 19), none⟩]
def r20_2 : List SOper := [
  ⟨(some 11), .mv (.c (.one (.sc (.int .i64 1)))), none⟩]
def r20_3 : List SOper := [
  ⟨(some 20), .mv (.t 11), none⟩,
  ⟨(some 21), .mv (.t 0), none⟩,
  ⟨(some 22), .len (.t 21), none⟩,
  ⟨(some 23), .bin .lss (.t 20) (.t 22), none⟩]
def r20_5 : List SOper := [
  ⟨(some 26), .mv (.t 10), none⟩,
  ⟨(some 27), .mv (.t 10), none⟩,
  ⟨(some 28), .mv (.t 11), none⟩,
  ⟨(some 29), .bin .sub (.t 28) (.c (.one (.sc (.int .i64 1)))), none⟩,
  ⟨(some 30), .iadrS 1 (.t 27) (.t 29), none⟩,
  ⟨(some 31), .load1 (.t 30), none⟩,
  ⟨(some 32), .mv (.t 0), none⟩,
  ⟨(some 33), .mv (.t 11), none⟩,
  ⟨(some 34), .bin .sub (.t 33) (.c (.one (.sc (.int .i64 1)))), none⟩,
  ⟨(some 35), .iadrS 2 (.t 32) (.t 34), none⟩,
  ⟨(some 36), .loadA 2 (.t 35), none⟩,
  ⟨(some 37), .mv (.t 0), none⟩,
  ⟨(some 38), .mv (.t 11), none⟩,
  ⟨(some 39), .iadrS 2 (.t 37) (.t 38), none⟩,
  ⟨(some 40), .loadA 2 (.t 39), none⟩,
  ⟨(some 41), .call (.z 0) 27 [(.t 36), (.t 40)], none⟩,
  ⟨(some 42), .bin .add (.t 31) (.t 41), none⟩,
  ⟨(some 43), .bslice [.sc (.int .i64 0)] 1 1 [(0, 1, (.t 42))], none⟩,
  ⟨(some 44), .app 1 8 (.t 26) (.t 43), none⟩,
  ⟨(some 10), .mv (.t 44), none⟩]
def r20_4 : List SOper := [
  ⟨(some 24), .mv (.t 11), none⟩,
  ⟨(some 25), .bin .add (.t 24) (.c (.one (.sc (.int .i64 1)))), none⟩,
  ⟨(some 11), .mv (.t 25), none⟩]
def l20_0 : SC := (.seq (.seq (.reg r20_3) (.cond (.t 23) .skip (.exit 0))) (.seq (.block 1 (.reg r20_5)) (.reg r20_4)))
def r20_6 : List SOper := [
  ⟨(some 45), .mv (.t 10), none⟩,
  ⟨(some 46), .mv (.t 10), none⟩,
  ⟨(some 47), .len (.t 46), none⟩,
  ⟨(some 48), .bin .sub (.t 47) (.c (.one (.sc (.int .i64 1)))), none⟩,
  ⟨(some 49), .iadrS 1 (.t 45) (.t 48), none⟩,
  ⟨(some 50), .load1 (.t 49), none⟩,
  ⟨(some 12), .mv (.t 50), none⟩]
def r20_7 : List SOper := [
  ⟨(some 13), .mv (.c (.one (.sc (.slice none 0 0)))), none⟩]
def r20_8 : List SOper := [
  ⟨(some 51), .mv (.t 2), none⟩,
  ⟨(some 52), .un .neg (.t 51), none⟩,
  ⟨(some 14), .mv (.t 52), none⟩]
def r20_9 : List SOper := [
  ⟨(some 15), .mv (.c (.one (.sc (.int .i64 0)))), none⟩]
def r20_10 : List SOper := [
  ⟨(some 53), .mv (.t 14), none⟩,
  ⟨(some 54), .mv (.t 12), none⟩,
  ⟨(some 55), .bin .lss (.t 53) (.t 54), none⟩]
def r20_12 : List SOper := [
  ⟨(some 58), .mv (.t 14), none⟩,
  ⟨(some 59), .mv (.t 1), none⟩,
  ⟨(some 60), .mv (.t 15), none⟩,
  ⟨(some 61), .mv (.t 1), none⟩,
  ⟨(some 62), .len (.t 61), none⟩,
  ⟨(some 63), .bin .rem (.t 60) (.t 62), none⟩,
  ⟨(some 64), .iadrS 1 (.t 59) (.t 63), none⟩,
  ⟨(some 65), .load1 (.t 64), none⟩,
  ⟨(some 66), .bin .add (.t 58) (.t 65), none⟩,
  ⟨(some 16), .mv (.t 66), none⟩]
def r20_13 : List SOper := [
  ⟨(some 67), .mv (.t 15), none⟩,
  ⟨(some 68), .bin .rem (.t 67) (.c (.one (.sc (.int .i64 2)))), none⟩,
  ⟨(some 69), .bin .eql (.t 68) (.c (.one (.sc (.int .i64 0)))), none⟩,
  ⟨(some 70), .mv (.t 69), none⟩,
  ⟨(some 71), .mv (.t 16), (some (some 70, true))⟩,
  ⟨(some 72), .bin .gtr (.t 71) (.c (.one (.sc (.int .i64 0)))), (some (some 70, true))⟩,
  ⟨(some 73), .pick (.t 70) (.t 72) (.c (.one (.sc (.bool false)))), none⟩]
def r20_14 : List SOper := [
  ⟨(some 17), .mv (.c (.one (.sc (.slice none 0 0)))), none⟩]
def r20_15 : List SOper := [
  ⟨(some 74), .mv (.t 14), none⟩,
  ⟨(some 75), .bin .leq (.t 74) (.c (.one (.sc (.int .i64 0)))), none⟩]
def r20_16 : List SOper := [
  ⟨(some 76), .mv (.t 17), none⟩,
  ⟨(some 77), .mv (.t 0), none⟩,
  ⟨(some 78), .iadrS 2 (.t 77) (.c (.one (.sc (.int .i64 0)))), none⟩,
  ⟨(some 79), .loadA 2 (.t 78), none⟩,
  ⟨(some 80), .bslice [.sc (.int .i64 0), .sc (.int .i64 0)] 1 2 [(0, 2, (.t 79))], none⟩,
  ⟨(some 81), .app 2 16 (.t 76) (.t 80), none⟩,
  ⟨(some 17), .mv (.t 81), none⟩]
def r20_17 : List SOper := [
  ⟨(some 82), .mv (.t 17), none⟩,
  ⟨(some 83), .mv (.t 0), none⟩,
  ⟨(some 84), .mv (.t 10), none⟩,
  ⟨(some 85), .mv (.t 14), none⟩,
  ⟨(some 86), .call .q 41 [(.t 83), (.t 84), (.t 85)], none⟩,
  ⟨(some 87), .bslice [.sc (.int .i64 0), .sc (.int .i64 0)] 1 2 [(0, 2, (.t 86))], none⟩,
  ⟨(some 88), .app 2 16 (.t 82) (.t 87), none⟩,
  ⟨(some 17), .mv (.t 88), none⟩]
def r20_18 : List SOper := [
  ⟨(some 18), .mv (.c (.one (.sc (.int .i64 1)))), none⟩]
def r20_19 : List SOper := [
  ⟨(some 89), .mv (.t 18), none⟩,
  ⟨(some 90), .mv (.t 0), none⟩,
  ⟨(some 91), .len (.t 90), none⟩,
  ⟨(some 92), .bin .lss (.t 89) (.t 91), none⟩]
def r20_21 : List SOper := [
  ⟨(some 95), .mv (.t 10), none⟩,
  ⟨(some 96), .mv (.t 18), none⟩,
  ⟨(some 97), .iadrS 1 (.t 95) (.t 96), none⟩,
  ⟨(some 98), .load1 (.t 97), none⟩,
  ⟨(some 99), .mv (.t 14), none⟩,
  ⟨(some 100), .bin .gtr (.t 98) (.t 99), none⟩,
  ⟨(some 101), .mv (.t 100), none⟩,
  ⟨(some 102), .mv (.t 10), (some (some 101, true))⟩,
  ⟨(some 103), .mv (.t 18), (some (some 101, true))⟩,
  ⟨(some 104), .iadrS 1 (.t 102) (.t 103), (some (some 101, true))⟩,
  ⟨(some 105), .load1 (.t 104), (some (some 101, true))⟩,
  ⟨(some 106), .mv (.t 16), (some (some 101, true))⟩,
  ⟨(some 107), .bin .leq (.t 105) (.t 106), (some (some 101, true))⟩,
  ⟨(some 108), .pick (.t 101) (.t 107) (.c (.one (.sc (.bool false)))), none⟩,
  ⟨(some 109), .mv (.t 108), none⟩,
  ⟨(some 110), .mv (.t 10), (some (some 109, true))⟩,
  ⟨(some 111), .mv (.t 18), (some (some 109, true))⟩,
  ⟨(some 112), .iadrS 1 (.t 110) (.t 111), (some (some 109, true))⟩,
  ⟨(some 113), .load1 (.t 112), (some (some 109, true))⟩,
  ⟨(some 114), .bin .gtr (.t 113) (.c (.one (.sc (.int .i64 0)))), (some (some 109, true))⟩,
  ⟨(some 115), .pick (.t 109) (.t 114) (.c (.one (.sc (.bool false)))), none⟩]
def r20_22 : List SOper := [
  ⟨(some 116), .mv (.t 17), none⟩,
  ⟨(some 117), .mv (.t 0), none⟩,
  ⟨(some 118), .mv (.t 18), none⟩,
  ⟨(some 119), .iadrS 2 (.t 117) (.t 118), none⟩,
  ⟨(some 120), .loadA 2 (.t 119), none⟩,
  ⟨(some 121), .bslice [.sc (.int .i64 0), .sc (.int .i64 0)] 1 2 [(0, 2, (.t 120))], none⟩,
  ⟨(some 122), .app 2 16 (.t 116) (.t 121), none⟩,
  ⟨(some 17), .mv (.t 122), none⟩]
def r20_20 : List SOper := [
  ⟨(some 93), .mv (.t 18), none⟩,
  ⟨(some 94), .bin .add (.t 93) (.c (.one (.sc (.int .i64 1)))), none⟩,
  ⟨(some 18), .mv (.t 94), none⟩]
def l20_1 : SC := (.seq (.seq (.reg r20_19) (.cond (.t 92) .skip (.exit 4))) (.seq (.block 5 (.seq (.reg r20_21) (.cond (.t 115) (.reg r20_22) .skip))) (.reg r20_20)))
def r20_23 : List SOper := [
  ⟨(some 123), .mv (.t 16), none⟩,
  ⟨(some 124), .mv (.t 12), none⟩,
  ⟨(some 125), .bin .lss (.t 123) (.t 124), none⟩]
def r20_24 : List SOper := [
  ⟨(some 126), .mv (.t 17), none⟩,
  ⟨(some 127), .mv (.t 0), none⟩,
  ⟨(some 128), .mv (.t 10), none⟩,
  ⟨(some 129), .mv (.t 16), none⟩,
  ⟨(some 130), .call .q 41 [(.t 127), (.t 128), (.t 129)], none⟩,
  ⟨(some 131), .bslice [.sc (.int .i64 0), .sc (.int .i64 0)] 1 2 [(0, 2, (.t 130))], none⟩,
  ⟨(some 132), .app 2 16 (.t 126) (.t 131), none⟩,
  ⟨(some 17), .mv (.t 132), none⟩]
def r20_25 : List SOper := [
  ⟨(some 133), .mv (.t 13), none⟩,
  ⟨(some 134), .mv (.t 17), none⟩,
  ⟨(some 135), .bslice [.sc (.slice none 0 0)] 1 1 [(0, 1, (.t 134))], none⟩,
  ⟨(some 136), .app 1 24 (.t 133) (.t 135), none⟩,
  ⟨(some 13), .mv (.t 136), none⟩]
def r20_26 : List SOper := [
  ⟨(some 137), .mv (.t 13), none⟩,
  ⟨(some 138), .len (.t 137), none⟩,
  ⟨(some 139), .mv (.t 3), none⟩,
  ⟨(some 140), .bin .gtr (.t 138) (.t 139), none⟩]
def r20_27 : List SOper := [
  ⟨(some 8), .mv (.c (.one (.sc (.slice none 0 0)))), none⟩,
  ⟨(some 9), .mv (.c (.one (.sc (.bool false)))), none⟩]
def r20_28 : List SOper := [
  ⟨(some 141), .mv (.t 16), none⟩,
  ⟨(some 14), .mv (.t 141), none⟩]
def r20_11 : List SOper := [
  ⟨(some 56), .mv (.t 15), none⟩,
  ⟨(some 57), .bin .add (.t 56) (.c (.one (.sc (.int .i64 1)))), none⟩,
  ⟨(some 15), .mv (.t 57), none⟩]
def l20_2 : SC := (.seq (.seq (.reg r20_10) (.cond (.t 55) .skip (.exit 2))) (.seq (.block 3 (.seq (.reg r20_12) (.seq (.seq (.reg r20_13) (.cond (.t 73) (.seq (.reg r20_14) (.seq (.seq (.reg r20_15) (.cond (.t 75) (.reg r20_16) (.reg r20_17))) (.seq (.seq (.reg r20_18) (.block 4 (.loop l20_1))) (.seq (.seq (.reg r20_23) (.cond (.t 125) (.reg r20_24) .skip)) (.seq (.reg r20_25) (.seq (.reg r20_26) (.cond (.t 140) (.seq (.reg r20_27) .ret) .skip))))))) .skip)) (.reg r20_28)))) (.reg r20_11)))
def r20_29 : List SOper := [
  ⟨(some 142), .mv (.t 13), none⟩,
  ⟨(some 8), .mv (.t 142), none⟩,
  ⟨(some 9), .mv (.c (.one (.sc (.bool true)))), none⟩]
def c20 : SC := (.seq (.reg r20_0) (.seq (.reg r20_1) (.seq (.seq (.reg r20_2) (.block 0 (.loop l20_0))) (.seq (.reg r20_6) (.seq (.reg r20_7) (.seq (.reg r20_8) (.seq (.seq (.reg r20_9) (.block 2 (.loop l20_2))) (.seq (.reg r20_29) .ret))))))))
/-- limner/limnerref09.Dash -/
def F20 : SFun := ⟨143, c20, [.tmp 8, .tmp 9]⟩

def r21_0 : List SOper := [
  ⟨(some 4), .mv (.c (.one (.sc (.bool false)))), none⟩]
def r21_1 : List SOper := [
  ⟨(some 6), .mv (.t 0), none⟩,
  ⟨(some 7), .len (.t 6), none⟩,
  ⟨(some 8), .mv (.t 1), none⟩,
  ⟨(some 9), .len (.t 8), none⟩,
  ⟨(some 10), .bin .neq (.t 7) (.t 9), none⟩]
def r21_2 : List SOper := [
  ⟨(some 4), .mv (.c (.one (.sc (.bool false)))), none⟩]
def r21_3 : List SOper := [
  ⟨(some 11), .mv (.t 0), none⟩,
  ⟨(some 12), .len (.t 11), none⟩,
  ⟨(some 13), .mv (.c (.one (.sc (.int .i64 0)))), none⟩]
def r21_4 : List SOper := [
  ⟨(some 14), .bin .lss (.t 13) (.t 12), none⟩]
def r21_5 : List SOper := [
  ⟨(some 15), .mv (.t 13), none⟩,
  ⟨(some 5), .mv (.t 15), none⟩]
def r21_6 : List SOper := [
  ⟨(some 16), .mv (.t 0), none⟩,
  ⟨(some 17), .mv (.t 5), none⟩,
  ⟨(some 18), .iadrS 2 (.t 16) (.t 17), none⟩,
  ⟨(some 19), .fadr 0 (.t 18), none⟩,
  ⟨(some 20), .load1 (.t 19), none⟩,
  ⟨(some 21), .mv (.t 1), none⟩,
  ⟨(some 22), .mv (.t 5), none⟩,
  ⟨(some 23), .iadrS 2 (.t 21) (.t 22), none⟩,
  ⟨(some 24), .fadr 0 (.t 23), none⟩,
  ⟨(some 25), .load1 (.t 24), none⟩,
  ⟨(some 26), .call .k 13 [(.t 25)], none⟩,
  ⟨(some 27), .call .q 17 [(.t 20), (.t 26)], none⟩,
  ⟨(some 28), .un .not (.t 27), none⟩]
def r21_7 : List SOper := [
  ⟨(some 4), .mv (.c (.one (.sc (.bool false)))), none⟩]
def r21_8 : List SOper := [
  ⟨(some 29), .bin .add (.t 13) (.c (.one (.sc (.int .i64 1)))), none⟩,
  ⟨(some 13), .mv (.t 29), none⟩]
def l21_0 : SC := (.seq (.reg r21_4) (.seq (.cond (.t 14) .skip (.exit 0)) (.seq (.block 1 (.seq (.reg r21_5) (.seq (.reg r21_6) (.cond (.t 28) (.seq (.reg r21_7) .ret) .skip)))) (.reg r21_8))))
def r21_9 : List SOper := [
  ⟨(some 4), .mv (.c (.one (.sc (.bool true)))), none⟩]
def c21 : SC := (.seq (.reg r21_0) (.seq (.seq (.reg r21_1) (.cond (.t 10) (.seq (.reg r21_2) .ret) .skip)) (.seq (.seq (.reg r21_3) (.block 0 (.loop l21_0))) (.seq (.reg r21_9) .ret))))
/-- limner/limnerlaw09.alike -/
def F21 : SFun := ⟨30, c21, [.tmp 4]⟩

def r22_0 : List SOper := [
  ⟨(some 2), .box (.t 0), none⟩,
  ⟨(some 3), .box (.t 1), none⟩,
  ⟨(some 4), .mv (.c (.one (.sc (.int .i64 0)))), none⟩,
  ⟨(some 5), .mv (.c (.one (.sc (.int .i64 0)))), none⟩]
def r22_1 : List SOper := [
  ⟨(some 8), .loadA 2 (.t 2), none⟩,
  ⟨(some 9), .call (.z 0) 34 [(.t 8)], none⟩,
  ⟨(some 10), .un .not (.t 9), none⟩,
  ⟨(some 11), .mv (.t 10), none⟩,
  ⟨(some 12), .loadA 2 (.t 3), (some (some 11, false))⟩,
  ⟨(some 13), .call (.z 0) 34 [(.t 12)], (some (some 11, false))⟩,
  ⟨(some 14), .un .not (.t 13), (some (some 11, false))⟩,
  ⟨(some 15), .pick (.t 11) (.c (.one (.sc (.bool true)))) (.t 14), none⟩]
def r22_2 : List SOper := [
  ⟨(some 4), .mv (.c (.one (.sc (.int .i64 0)))), none⟩,
  ⟨(some 5), .mv (.c (.one (.sc (.int .i64 30)))), none⟩]
def r22_3 : List SOper := [
  ⟨(some 16), .fadr 0 (.t 3), none⟩,
  ⟨(some 17), .load1 (.t 16), none⟩,
  ⟨(some 18), .fadr 0 (.t 2), none⟩,
  ⟨(some 19), .load1 (.t 18), none⟩,
  ⟨(some 20), .bin .sub (.t 17) (.t 19), none⟩,
  ⟨(some 21), .fadr 1 (.t 3), none⟩,
  ⟨(some 22), .load1 (.t 21), none⟩,
  ⟨(some 23), .fadr 1 (.t 2), none⟩,
  ⟨(some 24), .load1 (.t 23), none⟩,
  ⟨(some 25), .bin .sub (.t 22) (.t 24), none⟩,
  ⟨(some 6), .mv (.t 20), none⟩,
  ⟨(some 7), .mv (.t 25), none⟩]
def r22_4 : List SOper := [
  ⟨(some 26), .mv (.t 6), none⟩,
  ⟨(some 27), .mv (.t 7), none⟩,
  ⟨(some 28), .mx [(.t 26), (.t 27)], none⟩,
  ⟨(some 29), .bin .gtr (.t 28) (.c (.one (.sc (.int .i64 536870912)))), none⟩,
  ⟨(some 30), .mv (.t 29), none⟩,
  ⟨(some 31), .mv (.t 6), (some (some 30, false))⟩,
  ⟨(some 32), .mv (.t 7), (some (some 30, false))⟩,
  ⟨(some 33), .mn [(.t 31), (.t 32)], (some (some 30, false))⟩,
  ⟨(some 34), .bin .lss (.t 33) (.c (.one (.sc (.int .i64 (-536870912))))), (some (some 30, false))⟩,
  ⟨(some 35), .pick (.t 30) (.c (.one (.sc (.bool true)))) (.t 34), none⟩]
def r22_5 : List SOper := [
  ⟨(some 4), .mv (.c (.one (.sc (.int .i64 0)))), none⟩,
  ⟨(some 5), .mv (.c (.one (.sc (.int .i64 10)))), none⟩]
def r22_6 : List SOper := [
  ⟨(some 36), .mv (.t 6), none⟩,
  ⟨(some 37), .mv (.t 6), none⟩,
  ⟨(some 38), .bin .mul (.t 36) (.t 37), none⟩,
  ⟨(some 39), .mv (.t 7), none⟩,
  ⟨(some 40), .mv (.t 7), none⟩,
  ⟨(some 41), .bin .mul (.t 39) (.t 40), none⟩,
  ⟨(some 42), .bin .add (.t 38) (.t 41), none⟩,
  ⟨(some 43), .call (.z 0) 42 [(.t 42)], none⟩,
  ⟨(some 4), .mv (.t 43), none⟩,
  ⟨(some 5), .mv (.c (.one (.sc (.int .i64 0)))), none⟩]
def c22 : SC := (.seq (.reg r22_0) (.seq (.seq (.reg r22_1) (.cond (.t 15) (.seq (.reg r22_2) .ret) .skip)) (.seq (.reg r22_3) (.seq (.seq (.reg r22_4) (.cond (.t 35) (.seq (.reg r22_5) .ret) .skip)) (.seq (.reg r22_6) .ret)))))
/-- limner/dash.Length -/
def F22 : SFun := ⟨44, c22, [.tmp 4, .tmp 5]⟩

def r23_0 : List SOper := [
  ⟨(some 3), .box (.t 0), none⟩,
  ⟨(some 4), .box (.t 1), none⟩,
  ⟨(some 6), .alloc [.sc (.int .i64 0), .sc (.int .i64 0)], none⟩,
  ⟨(some 7), .mv (.c (.one (.sc (.int .i64 0)))), none⟩]
def r23_1 : List SOper := [
  ⟨(some 11), .loadA 2 (.t 3), none⟩,
  ⟨(some 12), .loadA 2 (.t 4), none⟩,
  ⟨(some 13), .call (.z 0) 22 [(.t 11), (.t 12)], none⟩,
  ⟨(some 10), .mv (.t 13), none⟩,
  ⟨(some 14), .ext (.t 10) 0, none⟩,
  ⟨(some 15), .ext (.t 10) 1, none⟩,
  ⟨(some 8), .mv (.t 14), none⟩,
  ⟨(some 9), .mv (.t 15), none⟩]
def r23_2 : List SOper := [
  ⟨(some 17), .mv (.t 9), none⟩,
  ⟨(some 18), .bin .neq (.t 17) (.c (.one (.sc (.int .i64 0)))), none⟩,
  ⟨(some 16), .mv (.t 18), none⟩]
def r23_3 : List SOper := [
  ⟨(some 19), .build [.sc (.int .i64 0), .sc (.int .i64 0)] [], none⟩,
  ⟨(some 20), .mv (.t 9), none⟩,
  ⟨none, .store 2 (.t 6) (.t 19), none⟩,
  ⟨(some 7), .mv (.t 20), none⟩]
def r23_4 : List SOper := [
  ⟨(some 22), .mv (.t 8), none⟩,
  ⟨(some 23), .bin .eql (.t 22) (.c (.one (.sc (.int .i64 0)))), none⟩,
  ⟨(some 24), .mv (.t 23), none⟩,
  ⟨(some 25), .mv (.t 2), (some (some 24, false))⟩,
  ⟨(some 26), .bin .lss (.t 25) (.c (.one (.sc (.int .i64 0)))), (some (some 24, false))⟩,
  ⟨(some 27), .pick (.t 24) (.c (.one (.sc (.bool true)))) (.t 26), none⟩,
  ⟨(some 28), .mv (.t 27), none⟩,
  ⟨(some 29), .mv (.t 2), (some (some 28, false))⟩,
  ⟨(some 30), .mv (.t 8), (some (some 28, false))⟩,
  ⟨(some 31), .bin .gtr (.t 29) (.t 30), (some (some 28, false))⟩,
  ⟨(some 32), .pick (.t 28) (.c (.one (.sc (.bool true)))) (.t 31), none⟩,
  ⟨(some 21), .mv (.t 32), none⟩]
def r23_5 : List SOper := [
  ⟨(some 33), .build [.sc (.int .i64 0), .sc (.int .i64 0)] [], none⟩,
  ⟨none, .store 2 (.t 6) (.t 33), none⟩,
  ⟨(some 7), .mv (.c (.one (.sc (.int .i64 30)))), none⟩]
def r23_6 : List SOper := [
  ⟨(some 34), .loadA 2 (.t 3), none⟩,
  ⟨(some 35), .loadA 2 (.t 4), none⟩,
  ⟨(some 36), .mv (.t 2), none⟩,
  ⟨(some 37), .mv (.t 8), none⟩,
  ⟨(some 38), .call (.z 0) 43 [(.t 34), (.t 35), (.t 36), (.t 37)], none⟩,
  ⟨none, .store 2 (.t 6) (.t 38), none⟩,
  ⟨(some 7), .mv (.c (.one (.sc (.int .i64 0)))), none⟩]
def c23 : SC := (.seq (.reg r23_0) (.seq (.reg r23_1) (.seq (.block 0 (.seq (.reg r23_2) (.cond (.t 16) (.seq (.reg r23_3) .ret) (.seq (.reg r23_4) (.cond (.t 21) (.seq (.reg r23_5) .ret) .skip))))) (.seq (.reg r23_6) .ret))))
/-- limner/dash.Place -/
def F23 : SFun := ⟨39, c23, [.cellA 6 2, .tmp 7]⟩

def r24_0 : List SOper := [
  ⟨(some 1), .box (.t 0), none⟩,
  ⟨(some 2), .mv (.c (.one (.sc (.bool false)))), none⟩]
def r24_1 : List SOper := [
  ⟨(some 3), .fadr 0 (.t 1), none⟩,
  ⟨(some 4), .load1 (.t 3), none⟩,
  ⟨(some 5), .call (.z 0) 37 [(.t 4)], none⟩,
  ⟨(some 6), .mv (.t 5), none⟩,
  ⟨(some 7), .fadr 1 (.t 1), (some (some 6, true))⟩,
  ⟨(some 8), .load1 (.t 7), (some (some 6, true))⟩,
  ⟨(some 9), .call (.z 0) 37 [(.t 8)], (some (some 6, true))⟩,
  ⟨(some 10), .pick (.t 6) (.t 9) (.c (.one (.sc (.bool false)))), none⟩,
  ⟨(some 2), .mv (.t 10), none⟩]
def c24 : SC := (.seq (.reg r24_0) (.seq (.reg r24_1) .ret))
/-- limner/limnerlaw09.in -/
def F24 : SFun := ⟨11, c24, [.tmp 2]⟩

def r25_0 : List SOper := [
  ⟨(some 2), .box (.t 0), none⟩,
  ⟨(some 3), .box (.t 1), none⟩,
  ⟨(some 4), .mv (.c (.one (.sc (.bool false)))), none⟩]
def r25_1 : List SOper := [
  ⟨(some 7), .fadr 0 (.t 3), none⟩,
  ⟨(some 8), .load1 (.t 7), none⟩,
  ⟨(some 9), .fadr 0 (.t 2), none⟩,
  ⟨(some 10), .load1 (.t 9), none⟩,
  ⟨(some 11), .bin .sub (.t 8) (.t 10), none⟩,
  ⟨(some 12), .fadr 1 (.t 3), none⟩,
  ⟨(some 13), .load1 (.t 12), none⟩,
  ⟨(some 14), .fadr 1 (.t 2), none⟩,
  ⟨(some 15), .load1 (.t 14), none⟩,
  ⟨(some 16), .bin .sub (.t 13) (.t 15), none⟩,
  ⟨(some 5), .mv (.t 11), none⟩,
  ⟨(some 6), .mv (.t 16), none⟩]
def r25_2 : List SOper := [
  ⟨(some 17), .mv (.t 5), none⟩,
  ⟨(some 18), .bin .gtr (.t 17) (.c (.one (.sc (.int .i64 536870912)))), none⟩,
  ⟨(some 19), .mv (.t 18), none⟩,
  ⟨(some 20), .mv (.t 5), (some (some 19, false))⟩,
  ⟨(some 21), .bin .lss (.t 20) (.c (.one (.sc (.int .i64 (-536870912))))), (some (some 19, false))⟩,
  ⟨(some 22), .pick (.t 19) (.c (.one (.sc (.bool true)))) (.t 21), none⟩,
  ⟨(some 23), .mv (.t 22), none⟩,
  ⟨(some 24), .mv (.t 6), (some (some 23, false))⟩,
  ⟨(some 25), .bin .gtr (.t 24) (.c (.one (.sc (.int .i64 536870912)))), (some (some 23, false))⟩,
  ⟨(some 26), .pick (.t 23) (.c (.one (.sc (.bool true)))) (.t 25), none⟩,
  ⟨(some 27), .mv (.t 26), none⟩,
  ⟨(some 28), .mv (.t 6), (some (some 27, false))⟩,
  ⟨(some 29), .bin .lss (.t 28) (.c (.one (.sc (.int .i64 (-536870912))))), (some (some 27, false))⟩,
  ⟨(some 30), .pick (.t 27) (.c (.one (.sc (.bool true)))) (.t 29), none⟩,
  ⟨(some 4), .mv (.t 30), none⟩]
def c25 : SC := (.seq (.reg r25_0) (.seq (.reg r25_1) (.seq (.reg r25_2) .ret)))
/-- limner/limnerref07.Long -/
def F25 : SFun := ⟨31, c25, [.tmp 4]⟩

def r26_0 : List SOper := [
  ⟨(some 1), .box (.t 0), none⟩,
  ⟨(some 2), .alloc [.sc (.int .i64 0), .sc (.int .i64 0)], none⟩]
def r26_1 : List SOper := [
  ⟨(some 3), .fadr 0 (.t 1), none⟩,
  ⟨(some 4), .load1 (.t 3), none⟩,
  ⟨(some 5), .fadr 1 (.t 1), none⟩,
  ⟨(some 6), .load1 (.t 5), none⟩,
  ⟨(some 7), .build [.sc (.int .i64 0), .sc (.int .i64 0)] [(0, 1, (.t 4)), (1, 1, (.t 6))], none⟩,
  ⟨none, .store 2 (.t 2) (.t 7), none⟩]
def c26 : SC := (.seq (.reg r26_0) (.seq (.reg r26_1) .ret))
/-- limner/limnerlaw09.ref -/
def F26 : SFun := ⟨8, c26, [.cellA 2 2]⟩

def r27_0 : List SOper := [
  ⟨(some 2), .box (.t 0), none⟩,
  ⟨(some 3), .box (.t 1), none⟩,
  ⟨(some 4), .mv (.c (.one (.sc (.int .i64 0)))), none⟩]
def r27_1 : List SOper := [
  ⟨(some 7), .fadr 0 (.t 3), none⟩,
  ⟨(some 8), .load1 (.t 7), none⟩,
  ⟨(some 9), .fadr 0 (.t 2), none⟩,
  ⟨(some 10), .load1 (.t 9), none⟩,
  ⟨(some 11), .bin .sub (.t 8) (.t 10), none⟩,
  ⟨(some 12), .fadr 1 (.t 3), none⟩,
  ⟨(some 13), .load1 (.t 12), none⟩,
  ⟨(some 14), .fadr 1 (.t 2), none⟩,
  ⟨(some 15), .load1 (.t 14), none⟩,
  ⟨(some 16), .bin .sub (.t 13) (.t 15), none⟩,
  ⟨(some 5), .mv (.t 11), none⟩,
  ⟨(some 6), .mv (.t 16), none⟩]
def r27_2 : List SOper := [
  ⟨(some 17), .mv (.t 5), none⟩,
  ⟨(some 18), .mv (.t 5), none⟩,
  ⟨(some 19), .bin .mul (.t 17) (.t 18), none⟩,
  ⟨(some 20), .mv (.t 6), none⟩,
  ⟨(some 21), .mv (.t 6), none⟩,
  ⟨(some 22), .bin .mul (.t 20) (.t 21), none⟩,
  ⟨(some 23), .bin .add (.t 19) (.t 22), none⟩,
  ⟨(some 24), .call (.z 0) 44 [(.t 23)], none⟩,
  ⟨(some 4), .mv (.t 24), none⟩]
def c27 : SC := (.seq (.reg r27_0) (.seq (.reg r27_1) (.seq (.reg r27_2) .ret)))
/-- limner/limnerref09.Length -/
def F27 : SFun := ⟨25, c27, [.tmp 4]⟩

def r28_0 : List SOper := [
  ⟨(some 4), .box (.t 0), none⟩,
  ⟨(some 5), .box (.t 1), none⟩,
  ⟨(some 8), .alloc [.sc (.int .i64 0), .sc (.int .i64 0)], none⟩]
def r28_1 : List SOper := [
  ⟨(some 9), .fadr 0 (.t 4), none⟩,
  ⟨(some 10), .load1 (.t 9), none⟩,
  ⟨(some 11), .mv (.t 2), none⟩,
  ⟨(some 12), .fadr 0 (.t 5), none⟩,
  ⟨(some 13), .load1 (.t 12), none⟩,
  ⟨(some 14), .fadr 0 (.t 4), none⟩,
  ⟨(some 15), .load1 (.t 14), none⟩,
  ⟨(some 16), .bin .sub (.t 13) (.t 15), none⟩,
  ⟨(some 17), .bin .mul (.t 11) (.t 16), none⟩,
  ⟨(some 18), .mv (.t 3), none⟩,
  ⟨(some 19), .call (.z 0) 45 [(.t 17), (.t 18)], none⟩,
  ⟨(some 20), .bin .add (.t 10) (.t 19), none⟩,
  ⟨(some 21), .fadr 1 (.t 4), none⟩,
  ⟨(some 22), .load1 (.t 21), none⟩,
  ⟨(some 23), .mv (.t 2), none⟩,
  ⟨(some 24), .fadr 1 (.t 5), none⟩,
  ⟨(some 25), .load1 (.t 24), none⟩,
  ⟨(some 26), .fadr 1 (.t 4), none⟩,
  ⟨(some 27), .load1 (.t 26), none⟩,
  ⟨(some 28), .bin .sub (.t 25) (.t 27), none⟩,
  ⟨(some 29), .bin .mul (.t 23) (.t 28), none⟩,
  ⟨(some 30), .mv (.t 3), none⟩,
  ⟨(some 31), .call (.z 0) 45 [(.t 29), (.t 30)], none⟩,
  ⟨(some 32), .bin .add (.t 22) (.t 31), none⟩,
  ⟨(some 33), .build [.sc (.int .i64 0), .sc (.int .i64 0)] [(0, 1, (.t 20)), (1, 1, (.t 32))], none⟩,
  ⟨none, .store 2 (.t 8) (.t 33), none⟩]
def c28 : SC := (.seq (.reg r28_0) (.seq (.reg r28_1) .ret))
/-- limner/limnerref09.Place -/
def F28 : SFun := ⟨34, c28, [.cellA 8 2]⟩

def r29_0 : List SOper := [
  ⟨(some 2), .alloc [.sc (.int .i64 0), .sc (.int .i64 0), .sc (.int .i64 0), .sc (.int .i64 0)], none⟩]
def r29_1 : List SOper := [
  ⟨(some 3), .alloc [.sc (.int .i64 0), .sc (.int .i64 0), .sc (.int .i64 0), .sc (.int .i64 0)], none⟩]
def r29_2 : List SOper := [
  ⟨(some 6), .mv (.t 0), none⟩,
  ⟨(some 7), .len (.t 6), none⟩,
  ⟨(some 8), .mv (.c (.one (.sc (.int .i64 0)))), none⟩]
def r29_3 : List SOper := [
  ⟨(some 9), .bin .lss (.t 8) (.t 7), none⟩]
def r29_4 : List SOper := [
  ⟨(some 10), .iadrS 2 (.t 6) (.t 8), none⟩,
  ⟨(some 11), .loadA 2 (.t 10), none⟩,
  ⟨(some 5), .alloc [.sc (.int .i64 0), .sc (.int .i64 0)], none⟩,
  ⟨none, .store 2 (.t 5) (.t 11), none⟩]
def r29_5 : List SOper := [
  ⟨(some 12), .loadA 4 (.t 3), none⟩,
  ⟨(some 13), .fadr 0 (.t 5), none⟩,
  ⟨(some 14), .load1 (.t 13), none⟩,
  ⟨(some 15), .fadr 1 (.t 5), none⟩,
  ⟨(some 16), .load1 (.t 15), none⟩,
  ⟨(some 17), .fadr 0 (.t 5), none⟩,
  ⟨(some 18), .load1 (.t 17), none⟩,
  ⟨(some 19), .bin .add (.t 18) (.c (.one (.sc (.int .i64 1)))), none⟩,
  ⟨(some 20), .fadr 1 (.t 5), none⟩,
  ⟨(some 21), .load1 (.t 20), none⟩,
  ⟨(some 22), .bin .add (.t 21) (.c (.one (.sc (.int .i64 1)))), none⟩,
  ⟨(some 23), .build [.sc (.int .i64 0), .sc (.int .i64 0), .sc (.int .i64 0), .sc (.int .i64 0)] [(0, 1, (.t 14)), (1, 1, (.t 16)), (2, 1, (.t 19)), (3, 1, (.t 22))], none⟩,
  ⟨(some 24), .call (.z 0) 46 [(.t 12), (.t 23)], none⟩,
  ⟨none, .store 4 (.t 3) (.t 24), none⟩]
def r29_6 : List SOper := [
  ⟨(some 25), .bin .add (.t 8) (.c (.one (.sc (.int .i64 1)))), none⟩,
  ⟨(some 8), .mv (.t 25), none⟩]
def l29_0 : SC := (.seq (.reg r29_3) (.seq (.cond (.t 9) .skip (.exit 0)) (.seq (.block 1 (.seq (.reg r29_4) (.reg r29_5))) (.reg r29_6))))
def r29_7 : List SOper := [
  ⟨(some 26), .loadA 4 (.t 3), none⟩,
  ⟨none, .store 4 (.t 2) (.t 26), none⟩]
def c29 : SC := (.seq (.reg r29_0) (.seq (.reg r29_1) (.seq (.seq (.reg r29_2) (.block 0 (.loop l29_0))) (.seq (.reg r29_7) .ret))))
/-- limner/geom.Bound -/
def F29 : SFun := ⟨27, c29, [.cellA 2 4]⟩

def r30_0 : List SOper := [
  ⟨(some 2), .box (.t 0), none⟩,
  ⟨(some 3), .box (.t 1), none⟩,
  ⟨(some 4), .mv (.c (.one (.sc (.bool false)))), none⟩]
def r30_1 : List SOper := [
  ⟨(some 5), .fadr 0 (.t 2), none⟩,
  ⟨(some 6), .load1 (.t 5), none⟩,
  ⟨(some 7), .fadr 0 (.t 3), none⟩,
  ⟨(some 8), .load1 (.t 7), none⟩,
  ⟨(some 9), .bin .leq (.t 6) (.t 8), none⟩,
  ⟨(some 10), .mv (.t 9), none⟩,
  ⟨(some 11), .fadr 0 (.t 3), (some (some 10, true))⟩,
  ⟨(some 12), .load1 (.t 11), (some (some 10, true))⟩,
  ⟨(some 13), .fadr 2 (.t 2), (some (some 10, true))⟩,
  ⟨(some 14), .load1 (.t 13), (some (some 10, true))⟩,
  ⟨(some 15), .bin .lss (.t 12) (.t 14), (some (some 10, true))⟩,
  ⟨(some 16), .pick (.t 10) (.t 15) (.c (.one (.sc (.bool false)))), none⟩,
  ⟨(some 17), .mv (.t 16), none⟩,
  ⟨(some 18), .fadr 1 (.t 2), (some (some 17, true))⟩,
  ⟨(some 19), .load1 (.t 18), (some (some 17, true))⟩,
  ⟨(some 20), .fadr 1 (.t 3), (some (some 17, true))⟩,
  ⟨(some 21), .load1 (.t 20), (some (some 17, true))⟩,
  ⟨(some 22), .bin .leq (.t 19) (.t 21), (some (some 17, true))⟩,
  ⟨(some 23), .pick (.t 17) (.t 22) (.c (.one (.sc (.bool false)))), none⟩,
  ⟨(some 24), .mv (.t 23), none⟩,
  ⟨(some 25), .fadr 1 (.t 3), (some (some 24, true))⟩,
  ⟨(some 26), .load1 (.t 25), (some (some 24, true))⟩,
  ⟨(some 27), .fadr 3 (.t 2), (some (some 24, true))⟩,
  ⟨(some 28), .load1 (.t 27), (some (some 24, true))⟩,
  ⟨(some 29), .bin .lss (.t 26) (.t 28), (some (some 24, true))⟩,
  ⟨(some 30), .pick (.t 24) (.t 29) (.c (.one (.sc (.bool false)))), none⟩,
  ⟨(some 4), .mv (.t 30), none⟩]
def c30 : SC := (.seq (.reg r30_0) (.seq (.reg r30_1) .ret))
/-- (limner/geom.Box).Has -/
def F30 : SFun := ⟨31, c30, [.tmp 4]⟩

def r31_0 : List SOper := [
  ⟨(some 4), .alloc [.sc (.int .i64 0), .sc (.int .i64 0)], none⟩]
def r31_1 : List SOper := [
  ⟨(some 5), .mv (.t 0), none⟩,
  ⟨(some 6), .mv (.t 1), none⟩,
  ⟨(some 7), .build [.sc (.int .i64 0), .sc (.int .i64 0)] [(0, 1, (.t 5)), (1, 1, (.t 6))], none⟩,
  ⟨none, .store 2 (.t 4) (.t 7), none⟩]
def c31 : SC := (.seq (.reg r31_0) (.seq (.reg r31_1) .ret))
/-- limner/limnerlaw09.at -/
def F31 : SFun := ⟨8, c31, [.cellA 4 2]⟩

def r32_0 : List SOper := [
  ⟨(some 4), .mv (.c (.one (.sc (.bool false)))), none⟩]
def r32_1 : List SOper := [
  ⟨(some 5), .mv (.t 0), none⟩,
  ⟨(some 6), .mv (.t 1), none⟩,
  ⟨(some 7), .call .q 47 [(.t 5), (.t 6)], none⟩,
  ⟨(some 8), .bin .geq (.t 7) (.c (.one (.sc (.int .i64 0)))), none⟩,
  ⟨(some 4), .mv (.t 8), none⟩]
def c32 : SC := (.seq (.reg r32_0) (.seq (.reg r32_1) .ret))
/-- slices.ContainsFunc[[]limner/geom.Point,limner/geom.Point] -/
def F32 : SFun := ⟨9, c32, [.tmp 4]⟩

def r33_0 : List SOper := [
  ⟨(some 1), .box (.t 0), none⟩,
  ⟨(some 2), .mv (.c (.one (.sc (.bool false)))), none⟩]
def r33_1 : List SOper := [
  ⟨(some 3), .loadA 2 (.t 1), none⟩,
  ⟨(some 4), .call (.z 0) 34 [(.t 3)], none⟩,
  ⟨(some 5), .un .not (.t 4), none⟩,
  ⟨(some 2), .mv (.t 5), none⟩]
def c33 : SC := (.seq (.reg r33_0) (.seq (.reg r33_1) .ret))
/-- limner/dash.Way$1 -/
def F33 : SFun := ⟨6, c33, [.tmp 2]⟩

def r34_0 : List SOper := [
  ⟨(some 1), .box (.t 0), none⟩,
  ⟨(some 2), .mv (.c (.one (.sc (.bool false)))), none⟩]
def r34_1 : List SOper := [
  ⟨(some 3), .fadr 0 (.t 1), none⟩,
  ⟨(some 4), .load1 (.t 3), none⟩,
  ⟨(some 5), .call (.z 0) 48 [(.t 4)], none⟩,
  ⟨(some 6), .mv (.t 5), none⟩,
  ⟨(some 7), .fadr 1 (.t 1), (some (some 6, true))⟩,
  ⟨(some 8), .load1 (.t 7), (some (some 6, true))⟩,
  ⟨(some 9), .call (.z 0) 48 [(.t 8)], (some (some 6, true))⟩,
  ⟨(some 10), .pick (.t 6) (.t 9) (.c (.one (.sc (.bool false)))), none⟩,
  ⟨(some 2), .mv (.t 10), none⟩]
def c34 : SC := (.seq (.reg r34_0) (.seq (.reg r34_1) .ret))
/-- (limner/geom.Point).In -/
def F34 : SFun := ⟨11, c34, [.tmp 2]⟩

def r35_0 : List SOper := [
  ⟨(some 2), .mv (.c (.one (.sc (.slice none 0 0)))), none⟩]
def r35_1 : List SOper := [
  ⟨(some 6), .mv (.t 0), none⟩,
  ⟨(some 7), .len (.t 6), none⟩,
  ⟨(some 8), .bin .lss (.t 7) (.c (.one (.sc (.int .i64 2)))), none⟩]
def r35_2 : List SOper := [
  ⟨(some 9), .mv (.t 0), none⟩,
  ⟨(some 2), .mv (.t 9), none⟩]
def r35_3 : List SOper := [
  ⟨(some 3), .mv (.c (.one (.sc (.int .i64 1)))), none⟩]
def r35_4 : List SOper := [
  ⟨(some 10), .mv (.t 3), none⟩,
  ⟨(some 11), .mv (.t 0), none⟩,
  ⟨(some 12), .len (.t 11), none⟩,
  ⟨(some 13), .bin .lss (.t 10) (.t 12), none⟩]
def r35_6 : List SOper := [
  ⟨(some 16), .mv (.t 0), none⟩,
  ⟨(some 17), .mv (.t 3), none⟩,
  ⟨(some 18), .iadrS 2 (.t 16) (.t 17), none⟩,
  ⟨(some 19), .loadA 2 (.t 18), none⟩,
  ⟨(some 20), .mv (.t 0), none⟩,
  ⟨(some 21), .mv (.t 3), none⟩,
  ⟨(some 22), .bin .sub (.t 21) (.c (.one (.sc (.int .i64 1)))), none⟩,
  ⟨(some 23), .iadrS 2 (.t 20) (.t 22), none⟩,
  ⟨(some 24), .loadA 2 (.t 23), none⟩,
  ⟨(some 25), .eqv [.i, .i] false (.t 19) (.t 24), none⟩]
def r35_7 : List SOper := [
  ⟨(some 26), .mv (.t 0), none⟩,
  ⟨(some 27), .mv (.t 3), none⟩,
  ⟨(some 28), .slS 2 (.t 26) (some (.t 27)) none none, none⟩,
  ⟨(some 4), .mv (.t 28), none⟩]
def r35_8 : List SOper := [
  ⟨(some 5), .mv (.c (.one (.sc (.int .i64 1)))), none⟩]
def r35_9 : List SOper := [
  ⟨(some 29), .mv (.t 5), none⟩,
  ⟨(some 30), .mv (.t 4), none⟩,
  ⟨(some 31), .len (.t 30), none⟩,
  ⟨(some 32), .bin .lss (.t 29) (.t 31), none⟩]
def r35_11 : List SOper := [
  ⟨(some 35), .mv (.t 4), none⟩,
  ⟨(some 36), .mv (.t 5), none⟩,
  ⟨(some 37), .iadrS 2 (.t 35) (.t 36), none⟩,
  ⟨(some 38), .loadA 2 (.t 37), none⟩,
  ⟨(some 39), .mv (.t 4), none⟩,
  ⟨(some 40), .mv (.t 5), none⟩,
  ⟨(some 41), .bin .sub (.t 40) (.c (.one (.sc (.int .i64 1)))), none⟩,
  ⟨(some 42), .iadrS 2 (.t 39) (.t 41), none⟩,
  ⟨(some 43), .loadA 2 (.t 42), none⟩,
  ⟨(some 44), .eqv [.i, .i] true (.t 38) (.t 43), none⟩]
def r35_12 : List SOper := [
  ⟨(some 45), .mv (.t 0), none⟩,
  ⟨(some 46), .mv (.t 3), none⟩,
  ⟨(some 47), .mv (.t 4), none⟩,
  ⟨(some 48), .mv (.t 5), none⟩,
  ⟨(some 49), .iadrS 2 (.t 47) (.t 48), none⟩,
  ⟨(some 50), .loadA 2 (.t 49), none⟩,
  ⟨(some 51), .iadrS 2 (.t 45) (.t 46), none⟩,
  ⟨none, .store 2 (.t 51) (.t 50), none⟩]
def r35_13 : List SOper := [
  ⟨(some 52), .mv (.t 3), none⟩,
  ⟨(some 53), .bin .add (.t 52) (.c (.one (.sc (.int .i64 1)))), none⟩,
  ⟨(some 3), .mv (.t 53), none⟩]
def r35_10 : List SOper := [
  ⟨(some 33), .mv (.t 5), none⟩,
  ⟨(some 34), .bin .add (.t 33) (.c (.one (.sc (.int .i64 1)))), none⟩,
  ⟨(some 5), .mv (.t 34), none⟩]
def l35_0 : SC := (.seq (.seq (.reg r35_9) (.cond (.t 32) .skip (.exit 2))) (.seq (.block 3 (.seq (.reg r35_11) (.cond (.t 44) (.seq (.reg r35_12) (.reg r35_13)) .skip))) (.reg r35_10)))
def r35_14 : List SOper := [
  ⟨(some 54), .mv (.t 0), none⟩,
  ⟨(some 55), .mv (.t 3), none⟩,
  ⟨(some 56), .slS 2 (.t 54) (some (.t 55)) none none, none⟩,
  ⟨none, .clr [.sc (.int .i64 0), .sc (.int .i64 0)] 2 (.t 56), none⟩]
def r35_15 : List SOper := [
  ⟨(some 57), .mv (.t 0), none⟩,
  ⟨(some 58), .mv (.t 3), none⟩,
  ⟨(some 59), .slS 2 (.t 57) none (some (.t 58)) none, none⟩,
  ⟨(some 2), .mv (.t 59), none⟩]
def r35_5 : List SOper := [
  ⟨(some 14), .mv (.t 3), none⟩,
  ⟨(some 15), .bin .add (.t 14) (.c (.one (.sc (.int .i64 1)))), none⟩,
  ⟨(some 3), .mv (.t 15), none⟩]
def l35_1 : SC := (.seq (.seq (.reg r35_4) (.cond (.t 13) .skip (.exit 0))) (.seq (.block 1 (.seq (.reg r35_6) (.cond (.t 25) (.seq (.reg r35_7) (.seq (.seq (.reg r35_8) (.block 2 (.loop l35_0))) (.seq (.reg r35_14) (.seq (.reg r35_15) .ret)))) .skip))) (.reg r35_5)))
def r35_16 : List SOper := [
  ⟨(some 60), .mv (.t 0), none⟩,
  ⟨(some 2), .mv (.t 60), none⟩]
def c35 : SC := (.seq (.reg r35_0) (.seq (.seq (.reg r35_1) (.cond (.t 8) (.seq (.reg r35_2) .ret) .skip)) (.seq (.seq (.reg r35_3) (.block 0 (.loop l35_1))) (.seq (.reg r35_16) .ret))))
/-- slices.Compact[[]limner/geom.Point,limner/geom.Point] -/
def F35 : SFun := ⟨61, c35, [.tmp 2]⟩

def r36_0 : List SOper := [
  ⟨(some 2), .mv (.c (.one (.sc (.slice none 0 0)))), none⟩]
def r36_1 : List SOper := [
  ⟨(some 3), .mv (.t 0), none⟩,
  ⟨(some 4), .eqnil 0 false (.t 3), none⟩]
def r36_2 : List SOper := [
  ⟨(some 2), .mv (.c (.one (.sc (.slice none 0 0)))), none⟩]
def r36_3 : List SOper := [
  ⟨(some 5), .bslice [] 0 2 [], none⟩,
  ⟨(some 6), .mv (.t 0), none⟩,
  ⟨(some 7), .app 2 16 (.t 5) (.t 6), none⟩,
  ⟨(some 2), .mv (.t 7), none⟩]
def c36 : SC := (.seq (.reg r36_0) (.seq (.seq (.reg r36_1) (.cond (.t 4) (.seq (.reg r36_2) .ret) .skip)) (.seq (.reg r36_3) .ret)))
/-- slices.Clone[[]limner/geom.Point,limner/geom.Point] -/
def F36 : SFun := ⟨8, c36, [.tmp 2]⟩

def r37_0 : List SOper := [
  ⟨(some 2), .mv (.c (.one (.sc (.bool false)))), none⟩]
def r37_1 : List SOper := [
  ⟨(some 3), .mv (.t 0), none⟩,
  ⟨(some 4), .bin .geq (.t 3) (.c (.one (.sc (.int .i64 (-2147483648))))), none⟩,
  ⟨(some 5), .mv (.t 4), none⟩,
  ⟨(some 6), .mv (.t 0), (some (some 5, true))⟩,
  ⟨(some 7), .bin .leq (.t 6) (.c (.one (.sc (.int .i64 2147483648)))), (some (some 5, true))⟩,
  ⟨(some 8), .pick (.t 5) (.t 7) (.c (.one (.sc (.bool false)))), none⟩,
  ⟨(some 2), .mv (.t 8), none⟩]
def c37 : SC := (.seq (.reg r37_0) (.seq (.reg r37_1) .ret))
/-- limner/limnerref01.In -/
def F37 : SFun := ⟨9, c37, [.tmp 2]⟩

def r38_0 : List SOper := [
  ⟨(some 4), .mv (.c (.one (.sc (.slice none 0 0)))), none⟩]
def r38_1 : List SOper := [
  ⟨(some 5), .mv (.c (.one (.sc (.slice none 0 0)))), none⟩]
def r38_2 : List SOper := [
  ⟨(some 6), .mv (.c (.one (.sc (.int .i64 0)))), none⟩]
def r38_3 : List SOper := [
  ⟨(some 7), .mv (.t 6), none⟩,
  ⟨(some 8), .mv (.t 0), none⟩,
  ⟨(some 9), .len (.t 8), none⟩,
  ⟨(some 10), .bin .lss (.t 7) (.t 9), none⟩]
def r38_5 : List SOper := [
  ⟨(some 13), .mv (.t 6), none⟩,
  ⟨(some 14), .bin .eql (.t 13) (.c (.one (.sc (.int .i64 0)))), none⟩,
  ⟨(some 15), .mv (.t 14), none⟩,
  ⟨(some 16), .mv (.t 0), (some (some 15, false))⟩,
  ⟨(some 17), .mv (.t 6), (some (some 15, false))⟩,
  ⟨(some 18), .iadrS 2 (.t 16) (.t 17), (some (some 15, false))⟩,
  ⟨(some 19), .loadA 2 (.t 18), (some (some 15, false))⟩,
  ⟨(some 20), .mv (.t 0), (some (some 15, false))⟩,
  ⟨(some 21), .mv (.t 6), (some (some 15, false))⟩,
  ⟨(some 22), .bin .sub (.t 21) (.c (.one (.sc (.int .i64 1)))), (some (some 15, false))⟩,
  ⟨(some 23), .iadrS 2 (.t 20) (.t 22), (some (some 15, false))⟩,
  ⟨(some 24), .loadA 2 (.t 23), (some (some 15, false))⟩,
  ⟨(some 25), .eqv [.i, .i] true (.t 19) (.t 24), (some (some 15, false))⟩,
  ⟨(some 26), .pick (.t 15) (.c (.one (.sc (.bool true)))) (.t 25), none⟩]
def r38_6 : List SOper := [
  ⟨(some 27), .mv (.t 5), none⟩,
  ⟨(some 28), .mv (.t 0), none⟩,
  ⟨(some 29), .mv (.t 6), none⟩,
  ⟨(some 30), .iadrS 2 (.t 28) (.t 29), none⟩,
  ⟨(some 31), .loadA 2 (.t 30), none⟩,
  ⟨(some 32), .bslice [.sc (.int .i64 0), .sc (.int .i64 0)] 1 2 [(0, 2, (.t 31))], none⟩,
  ⟨(some 33), .app 2 16 (.t 27) (.t 32), none⟩,
  ⟨(some 5), .mv (.t 33), none⟩]
def r38_4 : List SOper := [
  ⟨(some 11), .mv (.t 6), none⟩,
  ⟨(some 12), .bin .add (.t 11) (.c (.one (.sc (.int .i64 1)))), none⟩,
  ⟨(some 6), .mv (.t 12), none⟩]
def l38_0 : SC := (.seq (.seq (.reg r38_3) (.cond (.t 10) .skip (.exit 0))) (.seq (.block 1 (.seq (.reg r38_5) (.cond (.t 26) (.reg r38_6) .skip))) (.reg r38_4)))
def r38_7 : List SOper := [
  ⟨(some 34), .mv (.t 1), none⟩,
  ⟨(some 35), .mv (.t 34), none⟩,
  ⟨(some 36), .mv (.t 5), (some (some 35, true))⟩,
  ⟨(some 37), .len (.t 36), (some (some 35, true))⟩,
  ⟨(some 38), .bin .gtr (.t 37) (.c (.one (.sc (.int .i64 1)))), (some (some 35, true))⟩,
  ⟨(some 39), .pick (.t 35) (.t 38) (.c (.one (.sc (.bool false)))), none⟩,
  ⟨(some 40), .mv (.t 39), none⟩,
  ⟨(some 41), .mv (.t 5), (some (some 40, true))⟩,
  ⟨(some 42), .mv (.t 5), (some (some 40, true))⟩,
  ⟨(some 43), .len (.t 42), (some (some 40, true))⟩,
  ⟨(some 44), .bin .sub (.t 43) (.c (.one (.sc (.int .i64 1)))), (some (some 40, true))⟩,
  ⟨(some 45), .iadrS 2 (.t 41) (.t 44), (some (some 40, true))⟩,
  ⟨(some 46), .loadA 2 (.t 45), (some (some 40, true))⟩,
  ⟨(some 47), .mv (.t 5), (some (some 40, true))⟩,
  ⟨(some 48), .iadrS 2 (.t 47) (.c (.one (.sc (.int .i64 0)))), (some (some 40, true))⟩,
  ⟨(some 49), .loadA 2 (.t 48), (some (some 40, true))⟩,
  ⟨(some 50), .eqv [.i, .i] false (.t 46) (.t 49), (some (some 40, true))⟩,
  ⟨(some 51), .pick (.t 40) (.t 50) (.c (.one (.sc (.bool false)))), none⟩]
def r38_8 : List SOper := [
  ⟨(some 52), .mv (.t 5), none⟩,
  ⟨(some 53), .mv (.t 5), none⟩,
  ⟨(some 54), .len (.t 53), none⟩,
  ⟨(some 55), .bin .sub (.t 54) (.c (.one (.sc (.int .i64 1)))), none⟩,
  ⟨(some 56), .slS 2 (.t 52) none (some (.t 55)) none, none⟩,
  ⟨(some 5), .mv (.t 56), none⟩]
def l38_1 : SC := (.seq (.seq (.reg r38_7) (.cond (.t 51) .skip (.exit 2))) (.block 3 (.reg r38_8)))
def r38_9 : List SOper := [
  ⟨(some 57), .mv (.t 5), none⟩,
  ⟨(some 4), .mv (.t 57), none⟩]
def c38 : SC := (.seq (.reg r38_0) (.seq (.reg r38_1) (.seq (.seq (.reg r38_2) (.block 0 (.loop l38_0))) (.seq (.block 2 (.loop l38_1)) (.seq (.reg r38_9) .ret)))))
/-- limner/limnerref07.Plain -/
def F38 : SFun := ⟨58, c38, [.tmp 4]⟩

def r39_0 : List SOper := [
  ⟨(some 2), .mv (.c (.one (.sc (.bool false)))), none⟩]
def r39_1 : List SOper := [
  ⟨(some 3), .mv (.t 0), none⟩,
  ⟨(some 4), .nilchk (.t 3), none⟩,
  ⟨(some 5), .fadr 2 (.t 4), none⟩,
  ⟨(some 6), .load1 (.t 5), none⟩,
  ⟨(some 7), .bin .rem (.t 6) (.c (.one (.sc (.int .i64 2)))), none⟩,
  ⟨(some 8), .bin .eql (.t 7) (.c (.one (.sc (.int .i64 0)))), none⟩,
  ⟨(some 2), .mv (.t 8), none⟩]
def c39 : SC := (.seq (.reg r39_0) (.seq (.reg r39_1) .ret))
/-- (*limner/dash.pen).drawn -/
def F39 : SFun := ⟨9, c39, [.tmp 2]⟩

def r40_0 : List SOper := [
  ⟨(some 4), .box (.t 1), none⟩,
  ⟨(some 5), .box (.t 2), none⟩,
  ⟨(some 6), .mv (.c (.one (.sc (.bool false)))), none⟩]
def r40_1 : List SOper := [
  ⟨(some 11), .loadA 2 (.t 4), none⟩,
  ⟨(some 12), .loadA 2 (.t 5), none⟩,
  ⟨(some 13), .call (.z 0) 22 [(.t 11), (.t 12)], none⟩,
  ⟨(some 10), .mv (.t 13), none⟩,
  ⟨(some 14), .ext (.t 10) 0, none⟩,
  ⟨(some 15), .ext (.t 10) 1, none⟩,
  ⟨(some 7), .mv (.t 14), none⟩,
  ⟨(some 8), .mv (.t 15), none⟩]
def r40_2 : List SOper := [
  ⟨(some 9), .mv (.c (.one (.sc (.int .i64 0)))), none⟩]
def r40_3 : List SOper := [
  ⟨(some 16), .mv (.t 7), none⟩,
  ⟨(some 17), .mv (.t 9), none⟩,
  ⟨(some 18), .bin .sub (.t 16) (.t 17), none⟩,
  ⟨(some 19), .mv (.t 0), none⟩,
  ⟨(some 20), .nilchk (.t 19), none⟩,
  ⟨(some 21), .fadr 3 (.t 20), none⟩,
  ⟨(some 22), .load1 (.t 21), none⟩,
  ⟨(some 23), .bin .gtr (.t 18) (.t 22), none⟩]
def r40_4 : List SOper := [
  ⟨(some 24), .mv (.t 9), none⟩,
  ⟨(some 25), .mv (.t 0), none⟩,
  ⟨(some 26), .nilchk (.t 25), none⟩,
  ⟨(some 27), .fadr 3 (.t 26), none⟩,
  ⟨(some 28), .load1 (.t 27), none⟩,
  ⟨(some 29), .bin .add (.t 24) (.t 28), none⟩,
  ⟨(some 9), .mv (.t 29), none⟩]
def r40_5 : List SOper := [
  ⟨(some 30), .mv (.t 0), none⟩,
  ⟨(some 31), .loadA 2 (.t 4), none⟩,
  ⟨(some 32), .loadA 2 (.t 5), none⟩,
  ⟨(some 33), .mv (.t 9), none⟩,
  ⟨(some 34), .mv (.t 7), none⟩,
  ⟨(some 35), .call (.z 0) 43 [(.t 31), (.t 32), (.t 33), (.t 34)], none⟩,
  ⟨(some 36), .call .w 49 [(.t 30), (.t 35)], none⟩]
def r40_6 : List SOper := [
  ⟨(some 37), .mv (.t 0), none⟩,
  ⟨(some 38), .nilchk (.t 37), none⟩,
  ⟨(some 39), .fadr 4 (.t 38), none⟩,
  ⟨(some 40), .load1 (.t 39), none⟩,
  ⟨(some 41), .len (.t 40), none⟩,
  ⟨(some 42), .bin .gtr (.t 41) (.c (.one (.sc (.int .i64 4096)))), none⟩]
def r40_7 : List SOper := [
  ⟨(some 6), .mv (.c (.one (.sc (.bool false)))), none⟩]
def l40_0 : SC := (.seq (.seq (.reg r40_3) (.cond (.t 23) .skip (.exit 0))) (.block 1 (.seq (.reg r40_4) (.seq (.reg r40_5) (.seq (.reg r40_6) (.cond (.t 42) (.seq (.reg r40_7) .ret) .skip))))))
def r40_8 : List SOper := [
  ⟨(some 43), .mv (.t 0), none⟩,
  ⟨(some 44), .nilchk (.t 43), none⟩,
  ⟨(some 45), .fadr 3 (.t 44), none⟩,
  ⟨(some 46), .load1 (.t 45), none⟩,
  ⟨(some 47), .mv (.t 7), none⟩,
  ⟨(some 48), .mv (.t 9), none⟩,
  ⟨(some 49), .bin .sub (.t 47) (.t 48), none⟩,
  ⟨(some 50), .bin .sub (.t 46) (.t 49), none⟩,
  ⟨(some 51), .nilchk (.t 43), none⟩,
  ⟨(some 52), .fadr 3 (.t 51), none⟩,
  ⟨none, .store 1 (.t 52) (.t 50), none⟩]
def r40_9 : List SOper := [
  ⟨(some 53), .mv (.t 0), none⟩,
  ⟨(some 54), .call .q 39 [(.t 53)], none⟩]
def r40_10 : List SOper := [
  ⟨(some 55), .mv (.t 0), none⟩,
  ⟨(some 56), .loadA 2 (.t 5), none⟩,
  ⟨(some 57), .call .w 50 [(.t 55), (.t 56)], none⟩]
def r40_11 : List SOper := [
  ⟨(some 6), .mv (.c (.one (.sc (.bool true)))), none⟩]
def c40 : SC := (.seq (.reg r40_0) (.seq (.reg r40_1) (.seq (.reg r40_2) (.seq (.block 0 (.loop l40_0)) (.seq (.reg r40_8) (.seq (.seq (.reg r40_9) (.cond (.t 54) (.reg r40_10) .skip)) (.seq (.reg r40_11) .ret)))))))
/-- (*limner/dash.pen).line -/
def F40 : SFun := ⟨58, c40, [.tmp 6]⟩

def r41_0 : List SOper := [
  ⟨(some 6), .alloc [.sc (.int .i64 0), .sc (.int .i64 0)], none⟩]
def r41_1 : List SOper := [
  ⟨(some 7), .mv (.c (.one (.sc (.int .i64 0)))), none⟩]
def r41_2 : List SOper := [
  ⟨(some 8), .mv (.t 1), none⟩,
  ⟨(some 9), .mv (.t 7), none⟩,
  ⟨(some 10), .bin .add (.t 9) (.c (.one (.sc (.int .i64 1)))), none⟩,
  ⟨(some 11), .iadrS 1 (.t 8) (.t 10), none⟩,
  ⟨(some 12), .load1 (.t 11), none⟩,
  ⟨(some 13), .mv (.t 2), none⟩,
  ⟨(some 14), .bin .leq (.t 12) (.t 13), none⟩]
def r41_3 : List SOper := [
  ⟨(some 15), .mv (.t 7), none⟩,
  ⟨(some 16), .bin .add (.t 15) (.c (.one (.sc (.int .i64 1)))), none⟩,
  ⟨(some 7), .mv (.t 16), none⟩]
def l41_0 : SC := (.seq (.seq (.reg r41_2) (.cond (.t 14) .skip (.exit 0))) (.block 1 (.reg r41_3)))
def r41_4 : List SOper := [
  ⟨(some 17), .mv (.t 0), none⟩,
  ⟨(some 18), .mv (.t 7), none⟩,
  ⟨(some 19), .iadrS 2 (.t 17) (.t 18), none⟩,
  ⟨(some 20), .loadA 2 (.t 19), none⟩,
  ⟨(some 21), .mv (.t 0), none⟩,
  ⟨(some 22), .mv (.t 7), none⟩,
  ⟨(some 23), .bin .add (.t 22) (.c (.one (.sc (.int .i64 1)))), none⟩,
  ⟨(some 24), .iadrS 2 (.t 21) (.t 23), none⟩,
  ⟨(some 25), .loadA 2 (.t 24), none⟩,
  ⟨(some 26), .mv (.t 2), none⟩,
  ⟨(some 27), .mv (.t 1), none⟩,
  ⟨(some 28), .mv (.t 7), none⟩,
  ⟨(some 29), .iadrS 1 (.t 27) (.t 28), none⟩,
  ⟨(some 30), .load1 (.t 29), none⟩,
  ⟨(some 31), .bin .sub (.t 26) (.t 30), none⟩,
  ⟨(some 32), .mv (.t 1), none⟩,
  ⟨(some 33), .mv (.t 7), none⟩,
  ⟨(some 34), .bin .add (.t 33) (.c (.one (.sc (.int .i64 1)))), none⟩,
  ⟨(some 35), .iadrS 1 (.t 32) (.t 34), none⟩,
  ⟨(some 36), .load1 (.t 35), none⟩,
  ⟨(some 37), .mv (.t 1), none⟩,
  ⟨(some 38), .mv (.t 7), none⟩,
  ⟨(some 39), .iadrS 1 (.t 37) (.t 38), none⟩,
  ⟨(some 40), .load1 (.t 39), none⟩,
  ⟨(some 41), .bin .sub (.t 36) (.t 40), none⟩,
  ⟨(some 42), .call (.z 0) 28 [(.t 20), (.t 25), (.t 31), (.t 41)], none⟩,
  ⟨none, .store 2 (.t 6) (.t 42), none⟩]
def c41 : SC := (.seq (.reg r41_0) (.seq (.reg r41_1) (.seq (.block 0 (.loop l41_0)) (.seq (.reg r41_4) .ret))))
/-- limner/limnerref09.at -/
def F41 : SFun := ⟨43, c41, [.cellA 6 2]⟩

def r42_0 : List SOper := [
  ⟨(some 2), .mv (.c (.one (.sc (.int .i64 0)))), none⟩]
def r42_1 : List SOper := [
  ⟨(some 3), .mv (.c (.one (.sc (.int .i64 0)))), none⟩]
def r42_2 : List SOper := [
  ⟨(some 4), .mv (.c (.one (.sc (.int .i64 31)))), none⟩]
def r42_3 : List SOper := [
  ⟨(some 6), .mv (.t 4), none⟩,
  ⟨(some 7), .bin .geq (.t 6) (.c (.one (.sc (.int .i64 0)))), none⟩]
def r42_5 : List SOper := [
  ⟨(some 10), .mv (.t 3), none⟩,
  ⟨(some 11), .mv (.t 4), none⟩,
  ⟨(some 12), .bin .shl (.c (.one (.sc (.int .i64 1)))) (.t 11), none⟩,
  ⟨(some 13), .bin .or (.t 10) (.t 12), none⟩,
  ⟨(some 5), .mv (.t 13), none⟩]
def r42_6 : List SOper := [
  ⟨(some 14), .mv (.t 5), none⟩,
  ⟨(some 15), .mv (.t 5), none⟩,
  ⟨(some 16), .call (.z 0) 51 [(.t 14), (.t 15)], none⟩,
  ⟨(some 17), .mv (.t 0), none⟩,
  ⟨(some 18), .call (.z 0) 53 [(.t 17)], none⟩,
  ⟨(some 19), .call (.z 0) 52 [(.t 16), (.t 18)], none⟩,
  ⟨(some 20), .bin .leq (.t 19) (.c (.one (.sc (.int .i64 0)))), none⟩]
def r42_7 : List SOper := [
  ⟨(some 21), .mv (.t 5), none⟩,
  ⟨(some 3), .mv (.t 21), none⟩]
def r42_4 : List SOper := [
  ⟨(some 8), .mv (.t 4), none⟩,
  ⟨(some 9), .bin .sub (.t 8) (.c (.one (.sc (.int .i64 1)))), none⟩,
  ⟨(some 4), .mv (.t 9), none⟩]
def l42_0 : SC := (.seq (.seq (.reg r42_3) (.cond (.t 7) .skip (.exit 0))) (.seq (.block 1 (.seq (.reg r42_5) (.seq (.reg r42_6) (.cond (.t 20) (.reg r42_7) .skip)))) (.reg r42_4)))
def r42_8 : List SOper := [
  ⟨(some 22), .mv (.t 3), none⟩,
  ⟨(some 2), .mv (.t 22), none⟩]
def c42 : SC := (.seq (.reg r42_0) (.seq (.reg r42_1) (.seq (.seq (.reg r42_2) (.block 0 (.loop l42_0))) (.seq (.reg r42_8) .ret))))
/-- limner/wide.Sqrt -/
def F42 : SFun := ⟨23, c42, [.tmp 2]⟩

def r43_0 : List SOper := [
  ⟨(some 4), .box (.t 0), none⟩,
  ⟨(some 5), .box (.t 1), none⟩,
  ⟨(some 8), .alloc [.sc (.int .i64 0), .sc (.int .i64 0)], none⟩]
def r43_1 : List SOper := [
  ⟨(some 9), .fadr 0 (.t 4), none⟩,
  ⟨(some 10), .load1 (.t 9), none⟩,
  ⟨(some 11), .mv (.t 2), none⟩,
  ⟨(some 12), .fadr 0 (.t 5), none⟩,
  ⟨(some 13), .load1 (.t 12), none⟩,
  ⟨(some 14), .fadr 0 (.t 4), none⟩,
  ⟨(some 15), .load1 (.t 14), none⟩,
  ⟨(some 16), .bin .sub (.t 13) (.t 15), none⟩,
  ⟨(some 17), .bin .mul (.t 11) (.t 16), none⟩,
  ⟨(some 18), .mv (.t 3), none⟩,
  ⟨(some 19), .call (.z 0) 54 [(.t 17), (.t 18)], none⟩,
  ⟨(some 20), .bin .add (.t 10) (.t 19), none⟩,
  ⟨(some 21), .fadr 1 (.t 4), none⟩,
  ⟨(some 22), .load1 (.t 21), none⟩,
  ⟨(some 23), .mv (.t 2), none⟩,
  ⟨(some 24), .fadr 1 (.t 5), none⟩,
  ⟨(some 25), .load1 (.t 24), none⟩,
  ⟨(some 26), .fadr 1 (.t 4), none⟩,
  ⟨(some 27), .load1 (.t 26), none⟩,
  ⟨(some 28), .bin .sub (.t 25) (.t 27), none⟩,
  ⟨(some 29), .bin .mul (.t 23) (.t 28), none⟩,
  ⟨(some 30), .mv (.t 3), none⟩,
  ⟨(some 31), .call (.z 0) 54 [(.t 29), (.t 30)], none⟩,
  ⟨(some 32), .bin .add (.t 22) (.t 31), none⟩,
  ⟨(some 33), .build [.sc (.int .i64 0), .sc (.int .i64 0)] [(0, 1, (.t 20)), (1, 1, (.t 32))], none⟩,
  ⟨none, .store 2 (.t 8) (.t 33), none⟩]
def c43 : SC := (.seq (.reg r43_0) (.seq (.reg r43_1) .ret))
/-- limner/dash.place -/
def F43 : SFun := ⟨34, c43, [.cellA 8 2]⟩

def r44_0 : List SOper := [
  ⟨(some 2), .mv (.c (.one (.sc (.int .i64 0)))), none⟩]
def r44_1 : List SOper := [
  ⟨(some 3), .mv (.c (.one (.sc (.int .i64 0)))), none⟩,
  ⟨(some 4), .mv (.c (.one (.sc (.int .i64 1073741825)))), none⟩]
def r44_2 : List SOper := [
  ⟨(some 6), .mv (.t 4), none⟩,
  ⟨(some 7), .mv (.t 3), none⟩,
  ⟨(some 8), .bin .sub (.t 6) (.t 7), none⟩,
  ⟨(some 9), .bin .gtr (.t 8) (.c (.one (.sc (.int .i64 1)))), none⟩]
def r44_3 : List SOper := [
  ⟨(some 10), .mv (.t 3), none⟩,
  ⟨(some 11), .mv (.t 4), none⟩,
  ⟨(some 12), .bin .add (.t 10) (.t 11), none⟩,
  ⟨(some 13), .bin .quo (.t 12) (.c (.one (.sc (.int .i64 2)))), none⟩,
  ⟨(some 5), .mv (.t 13), none⟩]
def r44_4 : List SOper := [
  ⟨(some 14), .mv (.t 5), none⟩,
  ⟨(some 15), .mv (.t 5), none⟩,
  ⟨(some 16), .bin .mul (.t 14) (.t 15), none⟩,
  ⟨(some 17), .mv (.t 0), none⟩,
  ⟨(some 18), .bin .leq (.t 16) (.t 17), none⟩]
def r44_5 : List SOper := [
  ⟨(some 19), .mv (.t 5), none⟩,
  ⟨(some 3), .mv (.t 19), none⟩]
def r44_6 : List SOper := [
  ⟨(some 20), .mv (.t 5), none⟩,
  ⟨(some 4), .mv (.t 20), none⟩]
def l44_0 : SC := (.seq (.seq (.reg r44_2) (.cond (.t 9) .skip (.exit 0))) (.block 1 (.seq (.reg r44_3) (.seq (.reg r44_4) (.cond (.t 18) (.reg r44_5) (.reg r44_6))))))
def r44_7 : List SOper := [
  ⟨(some 21), .mv (.t 3), none⟩,
  ⟨(some 2), .mv (.t 21), none⟩]
def c44 : SC := (.seq (.reg r44_0) (.seq (.reg r44_1) (.seq (.block 0 (.loop l44_0)) (.seq (.reg r44_7) .ret))))
/-- limner/limnerref07.Root -/
def F44 : SFun := ⟨22, c44, [.tmp 2]⟩

def r45_0 : List SOper := [
  ⟨(some 4), .mv (.c (.one (.sc (.int .i64 0)))), none⟩]
def r45_1 : List SOper := [
  ⟨(some 7), .mv (.t 0), none⟩,
  ⟨(some 8), .mv (.t 1), none⟩,
  ⟨(some 9), .call (.z 0) 55 [(.t 7), (.t 8)], none⟩,
  ⟨(some 5), .mv (.t 9), none⟩]
def r45_2 : List SOper := [
  ⟨(some 10), .mv (.t 0), none⟩,
  ⟨(some 11), .mv (.t 5), none⟩,
  ⟨(some 12), .mv (.t 1), none⟩,
  ⟨(some 13), .bin .mul (.t 11) (.t 12), none⟩,
  ⟨(some 14), .bin .sub (.t 10) (.t 13), none⟩,
  ⟨(some 6), .mv (.t 14), none⟩]
def r45_3 : List SOper := [
  ⟨(some 15), .mv (.t 6), none⟩,
  ⟨(some 16), .mv (.t 1), none⟩,
  ⟨(some 17), .mv (.t 6), none⟩,
  ⟨(some 18), .bin .sub (.t 16) (.t 17), none⟩,
  ⟨(some 19), .bin .geq (.t 15) (.t 18), none⟩]
def r45_4 : List SOper := [
  ⟨(some 20), .mv (.t 5), none⟩,
  ⟨(some 21), .bin .add (.t 20) (.c (.one (.sc (.int .i64 1)))), none⟩,
  ⟨(some 5), .mv (.t 21), none⟩]
def r45_5 : List SOper := [
  ⟨(some 22), .mv (.t 5), none⟩,
  ⟨(some 4), .mv (.t 22), none⟩]
def c45 : SC := (.seq (.reg r45_0) (.seq (.reg r45_1) (.seq (.reg r45_2) (.seq (.seq (.reg r45_3) (.cond (.t 19) (.reg r45_4) .skip)) (.seq (.reg r45_5) .ret)))))
/-- limner/limnerref01.Round -/
def F45 : SFun := ⟨23, c45, [.tmp 4]⟩

def r46_0 : List SOper := [
  ⟨(some 2), .box (.t 0), none⟩,
  ⟨(some 3), .box (.t 1), none⟩,
  ⟨(some 4), .alloc [.sc (.int .i64 0), .sc (.int .i64 0), .sc (.int .i64 0), .sc (.int .i64 0)], none⟩]
def r46_1 : List SOper := [
  ⟨(some 6), .loadA 4 (.t 2), none⟩,
  ⟨(some 7), .call (.z 0) 56 [(.t 6)], none⟩,
  ⟨(some 8), .mv (.t 7), none⟩,
  ⟨(some 9), .loadA 4 (.t 3), (some (some 8, true))⟩,
  ⟨(some 10), .call (.z 0) 56 [(.t 9)], (some (some 8, true))⟩,
  ⟨(some 11), .pick (.t 8) (.t 10) (.c (.one (.sc (.bool false)))), none⟩,
  ⟨(some 5), .mv (.t 11), none⟩]
def r46_2 : List SOper := [
  ⟨(some 12), .build [.sc (.int .i64 0), .sc (.int .i64 0), .sc (.int .i64 0), .sc (.int .i64 0)] [], none⟩,
  ⟨none, .store 4 (.t 4) (.t 12), none⟩]
def r46_3 : List SOper := [
  ⟨(some 14), .loadA 4 (.t 2), none⟩,
  ⟨(some 15), .call (.z 0) 56 [(.t 14)], none⟩,
  ⟨(some 13), .mv (.t 15), none⟩]
def r46_4 : List SOper := [
  ⟨(some 16), .loadA 4 (.t 3), none⟩,
  ⟨none, .store 4 (.t 4) (.t 16), none⟩]
def r46_5 : List SOper := [
  ⟨(some 18), .loadA 4 (.t 3), none⟩,
  ⟨(some 19), .call (.z 0) 56 [(.t 18)], none⟩,
  ⟨(some 17), .mv (.t 19), none⟩]
def r46_6 : List SOper := [
  ⟨(some 20), .loadA 4 (.t 2), none⟩,
  ⟨none, .store 4 (.t 4) (.t 20), none⟩]
def r46_7 : List SOper := [
  ⟨(some 21), .fadr 0 (.t 2), none⟩,
  ⟨(some 22), .load1 (.t 21), none⟩,
  ⟨(some 23), .fadr 0 (.t 3), none⟩,
  ⟨(some 24), .load1 (.t 23), none⟩,
  ⟨(some 25), .mn [(.t 22), (.t 24)], none⟩,
  ⟨(some 26), .fadr 1 (.t 2), none⟩,
  ⟨(some 27), .load1 (.t 26), none⟩,
  ⟨(some 28), .fadr 1 (.t 3), none⟩,
  ⟨(some 29), .load1 (.t 28), none⟩,
  ⟨(some 30), .mn [(.t 27), (.t 29)], none⟩,
  ⟨(some 31), .fadr 2 (.t 2), none⟩,
  ⟨(some 32), .load1 (.t 31), none⟩,
  ⟨(some 33), .fadr 2 (.t 3), none⟩,
  ⟨(some 34), .load1 (.t 33), none⟩,
  ⟨(some 35), .mx [(.t 32), (.t 34)], none⟩,
  ⟨(some 36), .fadr 3 (.t 2), none⟩,
  ⟨(some 37), .load1 (.t 36), none⟩,
  ⟨(some 38), .fadr 3 (.t 3), none⟩,
  ⟨(some 39), .load1 (.t 38), none⟩,
  ⟨(some 40), .mx [(.t 37), (.t 39)], none⟩,
  ⟨(some 41), .build [.sc (.int .i64 0), .sc (.int .i64 0), .sc (.int .i64 0), .sc (.int .i64 0)] [(0, 1, (.t 25)), (1, 1, (.t 30)), (2, 1, (.t 35)), (3, 1, (.t 40))], none⟩,
  ⟨none, .store 4 (.t 4) (.t 41), none⟩]
def c46 : SC := (.seq (.reg r46_0) (.seq (.block 0 (.seq (.reg r46_1) (.cond (.t 5) (.seq (.reg r46_2) .ret) (.seq (.reg r46_3) (.cond (.t 13) (.seq (.reg r46_4) .ret) (.seq (.reg r46_5) (.cond (.t 17) (.seq (.reg r46_6) .ret) .skip))))))) (.seq (.reg r46_7) .ret)))
/-- (limner/geom.Box).Join -/
def F46 : SFun := ⟨42, c46, [.cellA 4 4]⟩

def r47_0 : List SOper := [
  ⟨(some 4), .mv (.c (.one (.sc (.int .i64 0)))), none⟩]
def r47_1 : List SOper := [
  ⟨(some 6), .mv (.t 0), none⟩,
  ⟨(some 7), .len (.t 6), none⟩,
  ⟨(some 8), .mv (.c (.one (.sc (.int .i64 0)))), none⟩]
def r47_2 : List SOper := [
  ⟨(some 9), .bin .lss (.t 8) (.t 7), none⟩]
def r47_3 : List SOper := [
  ⟨(some 10), .mv (.t 8), none⟩,
  ⟨(some 5), .mv (.t 10), none⟩]
def r47_4 : List SOper := [
  ⟨(some 11), .mv (.t 1), none⟩,
  ⟨(some 12), .mv (.t 0), none⟩,
  ⟨(some 13), .mv (.t 5), none⟩,
  ⟨(some 14), .iadrS 2 (.t 12) (.t 13), none⟩,
  ⟨(some 15), .loadA 2 (.t 14), none⟩,
  ⟨(some 16), .callv .q (.t 11) [(.t 15)], none⟩]
def r47_5 : List SOper := [
  ⟨(some 17), .mv (.t 5), none⟩,
  ⟨(some 4), .mv (.t 17), none⟩]
def r47_6 : List SOper := [
  ⟨(some 18), .bin .add (.t 8) (.c (.one (.sc (.int .i64 1)))), none⟩,
  ⟨(some 8), .mv (.t 18), none⟩]
def l47_0 : SC := (.seq (.reg r47_2) (.seq (.cond (.t 9) .skip (.exit 0)) (.seq (.block 1 (.seq (.reg r47_3) (.seq (.reg r47_4) (.cond (.t 16) (.seq (.reg r47_5) .ret) .skip)))) (.reg r47_6))))
def r47_7 : List SOper := [
  ⟨(some 4), .mv (.c (.one (.sc (.int .i64 (-1))))), none⟩]
def c47 : SC := (.seq (.reg r47_0) (.seq (.seq (.reg r47_1) (.block 0 (.loop l47_0))) (.seq (.reg r47_7) .ret)))
/-- slices.IndexFunc[[]limner/geom.Point,limner/geom.Point] -/
def F47 : SFun := ⟨19, c47, [.tmp 4]⟩

def r48_0 : List SOper := [
  ⟨(some 2), .mv (.c (.one (.sc (.bool false)))), none⟩]
def r48_1 : List SOper := [
  ⟨(some 3), .mv (.t 0), none⟩,
  ⟨(some 4), .bin .geq (.t 3) (.c (.one (.sc (.int .i64 (-2147483648))))), none⟩,
  ⟨(some 5), .mv (.t 4), none⟩,
  ⟨(some 6), .mv (.t 0), (some (some 5, true))⟩,
  ⟨(some 7), .bin .leq (.t 6) (.c (.one (.sc (.int .i64 2147483648)))), (some (some 5, true))⟩,
  ⟨(some 8), .pick (.t 5) (.t 7) (.c (.one (.sc (.bool false)))), none⟩,
  ⟨(some 2), .mv (.t 8), none⟩]
def c48 : SC := (.seq (.reg r48_0) (.seq (.reg r48_1) .ret))
/-- limner/fixed.In -/
def F48 : SFun := ⟨9, c48, [.tmp 2]⟩

def r49_0 : List SOper := [
  ⟨(some 3), .box (.t 1), none⟩]
def r49_1 : List SOper := [
  ⟨(some 4), .mv (.t 0), none⟩,
  ⟨(some 5), .call .q 39 [(.t 4)], none⟩]
def r49_2 : List SOper := [
  ⟨(some 6), .mv (.t 0), none⟩,
  ⟨(some 7), .loadA 2 (.t 3), none⟩,
  ⟨(some 8), .call .w 50 [(.t 6), (.t 7)], none⟩]
def r49_3 : List SOper := [
  ⟨(some 9), .mv (.t 0), none⟩,
  ⟨(some 10), .mv (.t 0), none⟩,
  ⟨(some 11), .nilchk (.t 10), none⟩,
  ⟨(some 12), .fadr 2 (.t 11), none⟩,
  ⟨(some 13), .load1 (.t 12), none⟩,
  ⟨(some 14), .bin .add (.t 13) (.c (.one (.sc (.int .i64 1)))), none⟩,
  ⟨(some 15), .mv (.t 0), none⟩,
  ⟨(some 16), .nilchk (.t 15), none⟩,
  ⟨(some 17), .fadr 0 (.t 16), none⟩,
  ⟨(some 18), .fadr 0 (.t 17), none⟩,
  ⟨(some 19), .load1 (.t 18), none⟩,
  ⟨(some 20), .len (.t 19), none⟩,
  ⟨(some 21), .bin .rem (.t 14) (.t 20), none⟩,
  ⟨(some 22), .nilchk (.t 9), none⟩,
  ⟨(some 23), .fadr 2 (.t 22), none⟩,
  ⟨none, .store 1 (.t 23) (.t 21), none⟩]
def r49_4 : List SOper := [
  ⟨(some 24), .mv (.t 0), none⟩,
  ⟨(some 25), .mv (.t 0), none⟩,
  ⟨(some 26), .nilchk (.t 25), none⟩,
  ⟨(some 27), .fadr 0 (.t 26), none⟩,
  ⟨(some 28), .fadr 0 (.t 27), none⟩,
  ⟨(some 29), .load1 (.t 28), none⟩,
  ⟨(some 30), .mv (.t 0), none⟩,
  ⟨(some 31), .nilchk (.t 30), none⟩,
  ⟨(some 32), .fadr 2 (.t 31), none⟩,
  ⟨(some 33), .load1 (.t 32), none⟩,
  ⟨(some 34), .iadrS 1 (.t 29) (.t 33), none⟩,
  ⟨(some 35), .load1 (.t 34), none⟩,
  ⟨(some 36), .nilchk (.t 24), none⟩,
  ⟨(some 37), .fadr 3 (.t 36), none⟩,
  ⟨none, .store 1 (.t 37) (.t 35), none⟩]
def r49_5 : List SOper := [
  ⟨(some 38), .mv (.t 0), none⟩,
  ⟨(some 39), .call .q 39 [(.t 38)], none⟩]
def r49_6 : List SOper := [
  ⟨(some 40), .mv (.t 0), none⟩,
  ⟨(some 41), .mv (.t 0), none⟩,
  ⟨(some 42), .nilchk (.t 41), none⟩,
  ⟨(some 43), .fadr 4 (.t 42), none⟩,
  ⟨(some 44), .load1 (.t 43), none⟩,
  ⟨(some 45), .loadA 2 (.t 3), none⟩,
  ⟨(some 46), .bslice [.sc (.int .i64 0), .sc (.int .i64 0)] 1 2 [(0, 2, (.t 45))], none⟩,
  ⟨(some 47), .build [.sc (.slice none 0 0), .sc (.bool false)] [(0, 1, (.t 46))], none⟩,
  ⟨(some 48), .bslice [.sc (.slice none 0 0), .sc (.bool false)] 1 2 [(0, 2, (.t 47))], none⟩,
  ⟨(some 49), .app 2 32 (.t 44) (.t 48), none⟩,
  ⟨(some 50), .nilchk (.t 40), none⟩,
  ⟨(some 51), .fadr 4 (.t 50), none⟩,
  ⟨none, .store 1 (.t 51) (.t 49), none⟩]
def c49 : SC := (.seq (.reg r49_0) (.seq (.seq (.reg r49_1) (.cond (.t 5) (.reg r49_2) .skip)) (.seq (.reg r49_3) (.seq (.reg r49_4) (.seq (.reg r49_5) (.cond (.t 39) (.reg r49_6) .skip))))))
/-- (*limner/dash.pen).next -/
def F49 : SFun := ⟨52, c49, []⟩

def r50_0 : List SOper := [
  ⟨(some 3), .box (.t 1), none⟩]
def r50_1 : List SOper := [
  ⟨(some 5), .mv (.t 0), none⟩,
  ⟨(some 6), .nilchk (.t 5), none⟩,
  ⟨(some 7), .fadr 4 (.t 6), none⟩,
  ⟨(some 8), .load1 (.t 7), none⟩,
  ⟨(some 9), .mv (.t 0), none⟩,
  ⟨(some 10), .nilchk (.t 9), none⟩,
  ⟨(some 11), .fadr 4 (.t 10), none⟩,
  ⟨(some 12), .load1 (.t 11), none⟩,
  ⟨(some 13), .len (.t 12), none⟩,
  ⟨(some 14), .bin .sub (.t 13) (.c (.one (.sc (.int .i64 1)))), none⟩,
  ⟨(some 15), .iadrS 2 (.t 8) (.t 14), none⟩,
  ⟨(some 4), .mv (.t 15), none⟩]
def r50_2 : List SOper := [
  ⟨(some 16), .mv (.t 4), none⟩,
  ⟨(some 17), .mv (.t 4), none⟩,
  ⟨(some 18), .nilchk (.t 17), none⟩,
  ⟨(some 19), .fadr 0 (.t 18), none⟩,
  ⟨(some 20), .load1 (.t 19), none⟩,
  ⟨(some 21), .loadA 2 (.t 3), none⟩,
  ⟨(some 22), .bslice [.sc (.int .i64 0), .sc (.int .i64 0)] 1 2 [(0, 2, (.t 21))], none⟩,
  ⟨(some 23), .app 2 16 (.t 20) (.t 22), none⟩,
  ⟨(some 24), .nilchk (.t 16), none⟩,
  ⟨(some 25), .fadr 0 (.t 24), none⟩,
  ⟨none, .store 1 (.t 25) (.t 23), none⟩]
def c50 : SC := (.seq (.reg r50_0) (.seq (.reg r50_1) (.reg r50_2)))
/-- (*limner/dash.pen).point -/
def F50 : SFun := ⟨26, c50, []⟩

def r51_0 : List SOper := [
  ⟨(some 4), .alloc [.sc (.int .i64 0), .sc (.int .u64 0)], none⟩]
def r51_1 : List SOper := [
  ⟨(some 8), .mv (.t 0), none⟩,
  ⟨(some 9), .conv .u64 (.t 8), none⟩,
  ⟨(some 10), .mv (.t 1), none⟩,
  ⟨(some 11), .conv .u64 (.t 10), none⟩,
  ⟨(some 12), .call (.z 0) 57 [(.t 9), (.t 11)], none⟩,
  ⟨(some 7), .mv (.t 12), none⟩,
  ⟨(some 13), .ext (.t 7) 0, none⟩,
  ⟨(some 14), .ext (.t 7) 1, none⟩,
  ⟨(some 5), .mv (.t 13), none⟩,
  ⟨(some 6), .mv (.t 14), none⟩]
def r51_2 : List SOper := [
  ⟨(some 15), .mv (.t 0), none⟩,
  ⟨(some 16), .bin .lss (.t 15) (.c (.one (.sc (.int .i64 0)))), none⟩]
def r51_3 : List SOper := [
  ⟨(some 17), .mv (.t 5), none⟩,
  ⟨(some 18), .mv (.t 1), none⟩,
  ⟨(some 19), .conv .u64 (.t 18), none⟩,
  ⟨(some 20), .bin .sub (.t 17) (.t 19), none⟩,
  ⟨(some 5), .mv (.t 20), none⟩]
def r51_4 : List SOper := [
  ⟨(some 21), .mv (.t 1), none⟩,
  ⟨(some 22), .bin .lss (.t 21) (.c (.one (.sc (.int .i64 0)))), none⟩]
def r51_5 : List SOper := [
  ⟨(some 23), .mv (.t 5), none⟩,
  ⟨(some 24), .mv (.t 0), none⟩,
  ⟨(some 25), .conv .u64 (.t 24), none⟩,
  ⟨(some 26), .bin .sub (.t 23) (.t 25), none⟩,
  ⟨(some 5), .mv (.t 26), none⟩]
def r51_6 : List SOper := [
  ⟨(some 27), .mv (.t 5), none⟩,
  ⟨(some 28), .conv .i64 (.t 27), none⟩,
  ⟨(some 29), .mv (.t 6), none⟩,
  ⟨(some 30), .build [.sc (.int .i64 0), .sc (.int .u64 0)] [(0, 1, (.t 28)), (1, 1, (.t 29))], none⟩,
  ⟨none, .store 2 (.t 4) (.t 30), none⟩]
def c51 : SC := (.seq (.reg r51_0) (.seq (.reg r51_1) (.seq (.seq (.reg r51_2) (.cond (.t 16) (.reg r51_3) .skip)) (.seq (.seq (.reg r51_4) (.cond (.t 22) (.reg r51_5) .skip)) (.seq (.reg r51_6) .ret)))))
/-- limner/wide.Mul -/
def F51 : SFun := ⟨31, c51, [.cellA 4 2]⟩

def r52_0 : List SOper := [
  ⟨(some 2), .box (.t 0), none⟩,
  ⟨(some 3), .box (.t 1), none⟩,
  ⟨(some 4), .mv (.c (.one (.sc (.int .i64 0)))), none⟩]
def r52_1 : List SOper := [
  ⟨(some 5), .fadr 0 (.t 2), none⟩,
  ⟨(some 6), .load1 (.t 5), none⟩,
  ⟨(some 7), .fadr 0 (.t 3), none⟩,
  ⟨(some 8), .load1 (.t 7), none⟩,
  ⟨(some 9), .call (.z 0) 59 [(.t 6), (.t 8)], none⟩,
  ⟨(some 10), .fadr 1 (.t 2), none⟩,
  ⟨(some 11), .load1 (.t 10), none⟩,
  ⟨(some 12), .fadr 1 (.t 3), none⟩,
  ⟨(some 13), .load1 (.t 12), none⟩,
  ⟨(some 14), .call (.z 0) 60 [(.t 11), (.t 13)], none⟩,
  ⟨(some 15), .bslice [.sc (.int .i64 0), .sc (.int .i64 0)] 2 1 [(0, 1, (.t 9)), (1, 1, (.t 14))], none⟩,
  ⟨(some 16), .call .q 58 [(.t 15)], none⟩,
  ⟨(some 4), .mv (.t 16), none⟩]
def c52 : SC := (.seq (.reg r52_0) (.seq (.reg r52_1) .ret))
/-- (limner/wide.Num).Cmp -/
def F52 : SFun := ⟨17, c52, [.tmp 4]⟩

def r53_0 : List SOper := [
  ⟨(some 2), .alloc [.sc (.int .i64 0), .sc (.int .u64 0)], none⟩]
def r53_1 : List SOper := [
  ⟨(some 3), .mv (.t 0), none⟩,
  ⟨(some 4), .bin .shr (.t 3) (.c (.one (.sc (.int .u64 63)))), none⟩,
  ⟨(some 5), .mv (.t 0), none⟩,
  ⟨(some 6), .conv .u64 (.t 5), none⟩,
  ⟨(some 7), .build [.sc (.int .i64 0), .sc (.int .u64 0)] [(0, 1, (.t 4)), (1, 1, (.t 6))], none⟩,
  ⟨none, .store 2 (.t 2) (.t 7), none⟩]
def c53 : SC := (.seq (.reg r53_0) (.seq (.reg r53_1) .ret))
/-- limner/wide.Of -/
def F53 : SFun := ⟨8, c53, [.cellA 2 2]⟩

def r54_0 : List SOper := [
  ⟨(some 4), .mv (.c (.one (.sc (.int .i64 0)))), none⟩]
def r54_1 : List SOper := [
  ⟨(some 9), .mv (.t 0), none⟩,
  ⟨(some 10), .bin .mul (.c (.one (.sc (.int .i64 2)))) (.t 9), none⟩,
  ⟨(some 11), .mv (.t 1), none⟩,
  ⟨(some 12), .bin .add (.t 10) (.t 11), none⟩,
  ⟨(some 13), .mv (.t 1), none⟩,
  ⟨(some 14), .bin .mul (.c (.one (.sc (.int .i64 2)))) (.t 13), none⟩,
  ⟨(some 15), .call (.z 0) 61 [(.c (.one (.sc (.int .i64 1)))), (.t 12), (.t 14)], none⟩,
  ⟨(some 8), .mv (.t 15), none⟩,
  ⟨(some 16), .ext (.t 8) 0, none⟩,
  ⟨(some 17), .ext (.t 8) 1, none⟩,
  ⟨(some 18), .ext (.t 8) 2, none⟩,
  ⟨(some 5), .mv (.t 16), none⟩,
  ⟨(some 6), .mv (.t 17), none⟩,
  ⟨(some 7), .mv (.t 18), none⟩]
def r54_2 : List SOper := [
  ⟨(some 19), .mv (.t 5), none⟩,
  ⟨(some 4), .mv (.t 19), none⟩]
def c54 : SC := (.seq (.reg r54_0) (.seq (.reg r54_1) (.seq (.reg r54_2) .ret)))
/-- limner/dash.part -/
def F54 : SFun := ⟨20, c54, [.tmp 4]⟩

def r55_0 : List SOper := [
  ⟨(some 4), .mv (.c (.one (.sc (.int .i64 0)))), none⟩]
def r55_1 : List SOper := [
  ⟨(some 6), .mv (.t 0), none⟩,
  ⟨(some 7), .mv (.t 1), none⟩,
  ⟨(some 8), .bin .quo (.t 6) (.t 7), none⟩,
  ⟨(some 5), .mv (.t 8), none⟩]
def r55_2 : List SOper := [
  ⟨(some 9), .mv (.t 5), none⟩,
  ⟨(some 10), .mv (.t 1), none⟩,
  ⟨(some 11), .bin .mul (.t 9) (.t 10), none⟩,
  ⟨(some 12), .mv (.t 0), none⟩,
  ⟨(some 13), .bin .gtr (.t 11) (.t 12), none⟩]
def r55_3 : List SOper := [
  ⟨(some 14), .mv (.t 5), none⟩,
  ⟨(some 15), .bin .sub (.t 14) (.c (.one (.sc (.int .i64 1)))), none⟩,
  ⟨(some 5), .mv (.t 15), none⟩]
def r55_4 : List SOper := [
  ⟨(some 16), .mv (.t 5), none⟩,
  ⟨(some 4), .mv (.t 16), none⟩]
def c55 : SC := (.seq (.reg r55_0) (.seq (.reg r55_1) (.seq (.seq (.reg r55_2) (.cond (.t 13) (.reg r55_3) .skip)) (.seq (.reg r55_4) .ret))))
/-- limner/limnerref01.Below -/
def F55 : SFun := ⟨17, c55, [.tmp 4]⟩

def r56_0 : List SOper := [
  ⟨(some 1), .box (.t 0), none⟩,
  ⟨(some 2), .mv (.c (.one (.sc (.bool false)))), none⟩]
def r56_1 : List SOper := [
  ⟨(some 3), .fadr 0 (.t 1), none⟩,
  ⟨(some 4), .load1 (.t 3), none⟩,
  ⟨(some 5), .fadr 2 (.t 1), none⟩,
  ⟨(some 6), .load1 (.t 5), none⟩,
  ⟨(some 7), .bin .geq (.t 4) (.t 6), none⟩,
  ⟨(some 8), .mv (.t 7), none⟩,
  ⟨(some 9), .fadr 1 (.t 1), (some (some 8, false))⟩,
  ⟨(some 10), .load1 (.t 9), (some (some 8, false))⟩,
  ⟨(some 11), .fadr 3 (.t 1), (some (some 8, false))⟩,
  ⟨(some 12), .load1 (.t 11), (some (some 8, false))⟩,
  ⟨(some 13), .bin .geq (.t 10) (.t 12), (some (some 8, false))⟩,
  ⟨(some 14), .pick (.t 8) (.c (.one (.sc (.bool true)))) (.t 13), none⟩,
  ⟨(some 2), .mv (.t 14), none⟩]
def c56 : SC := (.seq (.reg r56_0) (.seq (.reg r56_1) .ret))
/-- (limner/geom.Box).Empty -/
def F56 : SFun := ⟨15, c56, [.tmp 2]⟩

def r57_0 : List SOper := [
  ⟨(some 4), .mv (.c (.one (.sc (.int .u64 0)))), none⟩,
  ⟨(some 5), .mv (.c (.one (.sc (.int .u64 0)))), none⟩]
def r57_1 : List SOper := [
  ⟨(some 14), .mv (.t 0), none⟩,
  ⟨(some 15), .bin .and (.t 14) (.c (.one (.sc (.int .u64 4294967295)))), none⟩,
  ⟨(some 6), .mv (.t 15), none⟩]
def r57_2 : List SOper := [
  ⟨(some 16), .mv (.t 0), none⟩,
  ⟨(some 17), .bin .shr (.t 16) (.c (.one (.sc (.int .u64 32)))), none⟩,
  ⟨(some 7), .mv (.t 17), none⟩]
def r57_3 : List SOper := [
  ⟨(some 18), .mv (.t 1), none⟩,
  ⟨(some 19), .bin .and (.t 18) (.c (.one (.sc (.int .u64 4294967295)))), none⟩,
  ⟨(some 8), .mv (.t 19), none⟩]
def r57_4 : List SOper := [
  ⟨(some 20), .mv (.t 1), none⟩,
  ⟨(some 21), .bin .shr (.t 20) (.c (.one (.sc (.int .u64 32)))), none⟩,
  ⟨(some 9), .mv (.t 21), none⟩]
def r57_5 : List SOper := [
  ⟨(some 22), .mv (.t 6), none⟩,
  ⟨(some 23), .mv (.t 8), none⟩,
  ⟨(some 24), .bin .mul (.t 22) (.t 23), none⟩,
  ⟨(some 10), .mv (.t 24), none⟩]
def r57_6 : List SOper := [
  ⟨(some 25), .mv (.t 7), none⟩,
  ⟨(some 26), .mv (.t 8), none⟩,
  ⟨(some 27), .bin .mul (.t 25) (.t 26), none⟩,
  ⟨(some 28), .mv (.t 10), none⟩,
  ⟨(some 29), .bin .shr (.t 28) (.c (.one (.sc (.int .u64 32)))), none⟩,
  ⟨(some 30), .bin .add (.t 27) (.t 29), none⟩,
  ⟨(some 11), .mv (.t 30), none⟩]
def r57_7 : List SOper := [
  ⟨(some 31), .mv (.t 11), none⟩,
  ⟨(some 32), .bin .and (.t 31) (.c (.one (.sc (.int .u64 4294967295)))), none⟩,
  ⟨(some 12), .mv (.t 32), none⟩]
def r57_8 : List SOper := [
  ⟨(some 33), .mv (.t 11), none⟩,
  ⟨(some 34), .bin .shr (.t 33) (.c (.one (.sc (.int .u64 32)))), none⟩,
  ⟨(some 13), .mv (.t 34), none⟩]
def r57_9 : List SOper := [
  ⟨(some 35), .mv (.t 12), none⟩,
  ⟨(some 36), .mv (.t 6), none⟩,
  ⟨(some 37), .mv (.t 9), none⟩,
  ⟨(some 38), .bin .mul (.t 36) (.t 37), none⟩,
  ⟨(some 39), .bin .add (.t 35) (.t 38), none⟩,
  ⟨(some 12), .mv (.t 39), none⟩]
def r57_10 : List SOper := [
  ⟨(some 40), .mv (.t 7), none⟩,
  ⟨(some 41), .mv (.t 9), none⟩,
  ⟨(some 42), .bin .mul (.t 40) (.t 41), none⟩,
  ⟨(some 43), .mv (.t 13), none⟩,
  ⟨(some 44), .bin .add (.t 42) (.t 43), none⟩,
  ⟨(some 45), .mv (.t 12), none⟩,
  ⟨(some 46), .bin .shr (.t 45) (.c (.one (.sc (.int .u64 32)))), none⟩,
  ⟨(some 47), .bin .add (.t 44) (.t 46), none⟩,
  ⟨(some 4), .mv (.t 47), none⟩]
def r57_11 : List SOper := [
  ⟨(some 48), .mv (.t 0), none⟩,
  ⟨(some 49), .mv (.t 1), none⟩,
  ⟨(some 50), .bin .mul (.t 48) (.t 49), none⟩,
  ⟨(some 5), .mv (.t 50), none⟩]
def c57 : SC := (.seq (.reg r57_0) (.seq (.reg r57_1) (.seq (.reg r57_2) (.seq (.reg r57_3) (.seq (.reg r57_4) (.seq (.reg r57_5) (.seq (.reg r57_6) (.seq (.reg r57_7) (.seq (.reg r57_8) (.seq (.reg r57_9) (.seq (.reg r57_10) (.seq (.reg r57_11) .ret))))))))))))
/-- math/bits.Mul64 -/
def F57 : SFun := ⟨51, c57, [.tmp 4, .tmp 5]⟩

def r58_0 : List SOper := [
  ⟨(some 2), .mv (.c (.one (.sc (.int .i64 0)))), none⟩]
def r58_1 : List SOper := [
  ⟨(some 3), .mv (.c (.one (.sc (.int .i64 0)))), none⟩]
def r58_2 : List SOper := [
  ⟨(some 6), .mv (.t 0), none⟩,
  ⟨(some 7), .len (.t 6), none⟩,
  ⟨(some 8), .mv (.c (.one (.sc (.int .i64 0)))), none⟩]
def r58_3 : List SOper := [
  ⟨(some 9), .bin .lss (.t 8) (.t 7), none⟩]
def r58_4 : List SOper := [
  ⟨(some 10), .iadrS 1 (.t 6) (.t 8), none⟩,
  ⟨(some 11), .load1 (.t 10), none⟩,
  ⟨(some 5), .mv (.t 11), none⟩]
def r58_5 : List SOper := [
  ⟨(some 12), .mv (.t 5), none⟩,
  ⟨(some 13), .mv (.t 3), none⟩,
  ⟨(some 14), .bin .neq (.t 12) (.t 13), none⟩]
def r58_6 : List SOper := [
  ⟨(some 15), .mv (.t 5), none⟩,
  ⟨(some 2), .mv (.t 15), none⟩]
def r58_7 : List SOper := [
  ⟨(some 16), .bin .add (.t 8) (.c (.one (.sc (.int .i64 1)))), none⟩,
  ⟨(some 8), .mv (.t 16), none⟩]
def l58_0 : SC := (.seq (.reg r58_3) (.seq (.cond (.t 9) .skip (.exit 0)) (.seq (.block 1 (.seq (.reg r58_4) (.seq (.reg r58_5) (.cond (.t 14) (.seq (.reg r58_6) .ret) .skip)))) (.reg r58_7))))
def r58_8 : List SOper := [
  ⟨(some 17), .mv (.t 3), none⟩,
  ⟨(some 2), .mv (.t 17), none⟩]
def c58 : SC := (.seq (.reg r58_0) (.seq (.reg r58_1) (.seq (.seq (.reg r58_2) (.block 0 (.loop l58_0))) (.seq (.reg r58_8) .ret))))
/-- cmp.Or[int] -/
def F58 : SFun := ⟨18, c58, [.tmp 2]⟩

def r59_0 : List SOper := [
  ⟨(some 4), .mv (.c (.one (.sc (.int .i64 0)))), none⟩]
def r59_1 : List SOper := [
  ⟨(some 7), .mv (.t 0), none⟩,
  ⟨(some 8), .call (.z 0) 62 [(.t 7)], none⟩,
  ⟨(some 5), .mv (.t 8), none⟩]
def r59_2 : List SOper := [
  ⟨(some 9), .mv (.t 1), none⟩,
  ⟨(some 10), .call (.z 0) 62 [(.t 9)], none⟩,
  ⟨(some 6), .mv (.t 10), none⟩]
def r59_3 : List SOper := [
  ⟨(some 11), .mv (.t 5), none⟩]
def r59_4 : List SOper := [
  ⟨(some 12), .mv (.t 6), none⟩]
def r59_5 : List SOper := [
  ⟨(some 4), .mv (.c (.one (.sc (.int .i64 0)))), none⟩]
def r59_6 : List SOper := [
  ⟨(some 4), .mv (.c (.one (.sc (.int .i64 (-1))))), none⟩]
def r59_7 : List SOper := [
  ⟨(some 13), .mv (.t 6), none⟩]
def r59_8 : List SOper := [
  ⟨(some 4), .mv (.c (.one (.sc (.int .i64 1)))), none⟩]
def r59_9 : List SOper := [
  ⟨(some 14), .mv (.t 0), none⟩,
  ⟨(some 15), .mv (.t 1), none⟩,
  ⟨(some 16), .bin .lss (.t 14) (.t 15), none⟩]
def r59_10 : List SOper := [
  ⟨(some 4), .mv (.c (.one (.sc (.int .i64 (-1))))), none⟩]
def r59_11 : List SOper := [
  ⟨(some 17), .mv (.t 0), none⟩,
  ⟨(some 18), .mv (.t 1), none⟩,
  ⟨(some 19), .bin .gtr (.t 17) (.t 18), none⟩]
def r59_12 : List SOper := [
  ⟨(some 4), .mv (.c (.one (.sc (.int .i64 1)))), none⟩]
def r59_13 : List SOper := [
  ⟨(some 4), .mv (.c (.one (.sc (.int .i64 0)))), none⟩]
def c59 : SC := (.seq (.reg r59_0) (.seq (.reg r59_1) (.seq (.reg r59_2) (.seq (.seq (.reg r59_3) (.cond (.t 11) (.seq (.seq (.reg r59_4) (.cond (.t 12) (.seq (.reg r59_5) .ret) .skip)) (.seq (.reg r59_6) .ret)) .skip)) (.seq (.seq (.reg r59_7) (.cond (.t 13) (.seq (.reg r59_8) .ret) .skip)) (.seq (.seq (.reg r59_9) (.cond (.t 16) (.seq (.reg r59_10) .ret) .skip)) (.seq (.seq (.reg r59_11) (.cond (.t 19) (.seq (.reg r59_12) .ret) .skip)) (.seq (.reg r59_13) .ret))))))))
/-- cmp.Compare[int64] -/
def F59 : SFun := ⟨20, c59, [.tmp 4]⟩

def r60_0 : List SOper := [
  ⟨(some 4), .mv (.c (.one (.sc (.int .i64 0)))), none⟩]
def r60_1 : List SOper := [
  ⟨(some 7), .mv (.t 0), none⟩,
  ⟨(some 8), .call (.z 0) 63 [(.t 7)], none⟩,
  ⟨(some 5), .mv (.t 8), none⟩]
def r60_2 : List SOper := [
  ⟨(some 9), .mv (.t 1), none⟩,
  ⟨(some 10), .call (.z 0) 63 [(.t 9)], none⟩,
  ⟨(some 6), .mv (.t 10), none⟩]
def r60_3 : List SOper := [
  ⟨(some 11), .mv (.t 5), none⟩]
def r60_4 : List SOper := [
  ⟨(some 12), .mv (.t 6), none⟩]
def r60_5 : List SOper := [
  ⟨(some 4), .mv (.c (.one (.sc (.int .i64 0)))), none⟩]
def r60_6 : List SOper := [
  ⟨(some 4), .mv (.c (.one (.sc (.int .i64 (-1))))), none⟩]
def r60_7 : List SOper := [
  ⟨(some 13), .mv (.t 6), none⟩]
def r60_8 : List SOper := [
  ⟨(some 4), .mv (.c (.one (.sc (.int .i64 1)))), none⟩]
def r60_9 : List SOper := [
  ⟨(some 14), .mv (.t 0), none⟩,
  ⟨(some 15), .mv (.t 1), none⟩,
  ⟨(some 16), .bin .lss (.t 14) (.t 15), none⟩]
def r60_10 : List SOper := [
  ⟨(some 4), .mv (.c (.one (.sc (.int .i64 (-1))))), none⟩]
def r60_11 : List SOper := [
  ⟨(some 17), .mv (.t 0), none⟩,
  ⟨(some 18), .mv (.t 1), none⟩,
  ⟨(some 19), .bin .gtr (.t 17) (.t 18), none⟩]
def r60_12 : List SOper := [
  ⟨(some 4), .mv (.c (.one (.sc (.int .i64 1)))), none⟩]
def r60_13 : List SOper := [
  ⟨(some 4), .mv (.c (.one (.sc (.int .i64 0)))), none⟩]
def c60 : SC := (.seq (.reg r60_0) (.seq (.reg r60_1) (.seq (.reg r60_2) (.seq (.seq (.reg r60_3) (.cond (.t 11) (.seq (.seq (.reg r60_4) (.cond (.t 12) (.seq (.reg r60_5) .ret) .skip)) (.seq (.reg r60_6) .ret)) .skip)) (.seq (.seq (.reg r60_7) (.cond (.t 13) (.seq (.reg r60_8) .ret) .skip)) (.seq (.seq (.reg r60_9) (.cond (.t 16) (.seq (.reg r60_10) .ret) .skip)) (.seq (.seq (.reg r60_11) (.cond (.t 19) (.seq (.reg r60_12) .ret) .skip)) (.seq (.reg r60_13) .ret))))))))
/-- cmp.Compare[uint64] -/
def F60 : SFun := ⟨20, c60, [.tmp 4]⟩

def r61_0 : List SOper := [
  ⟨(some 6), .mv (.c (.one (.sc (.int .i64 0)))), none⟩,
  ⟨(some 7), .mv (.c (.one (.sc (.bool false)))), none⟩,
  ⟨(some 8), .mv (.c (.one (.sc (.int .i64 0)))), none⟩]
def r61_1 : List SOper := [
  ⟨(some 15), .mv (.t 2), none⟩,
  ⟨(some 16), .bin .eql (.t 15) (.c (.one (.sc (.int .i64 0)))), none⟩]
def r61_2 : List SOper := [
  ⟨(some 6), .mv (.c (.one (.sc (.int .i64 0)))), none⟩,
  ⟨(some 7), .mv (.c (.one (.sc (.bool false)))), none⟩,
  ⟨(some 8), .mv (.c (.one (.sc (.int .i64 11)))), none⟩]
def r61_3 : List SOper := [
  ⟨(some 18), .mv (.t 0), none⟩,
  ⟨(some 19), .call (.z 0) 64 [(.t 18)], none⟩,
  ⟨(some 20), .mv (.t 1), none⟩,
  ⟨(some 21), .call (.z 0) 64 [(.t 20)], none⟩,
  ⟨(some 22), .call (.z 0) 57 [(.t 19), (.t 21)], none⟩,
  ⟨(some 17), .mv (.t 22), none⟩,
  ⟨(some 23), .ext (.t 17) 0, none⟩,
  ⟨(some 24), .ext (.t 17) 1, none⟩,
  ⟨(some 9), .mv (.t 23), none⟩,
  ⟨(some 10), .mv (.t 24), none⟩]
def r61_4 : List SOper := [
  ⟨(some 25), .mv (.t 9), none⟩,
  ⟨(some 26), .mv (.t 2), none⟩,
  ⟨(some 27), .call (.z 0) 64 [(.t 26)], none⟩,
  ⟨(some 28), .bin .geq (.t 25) (.t 27), none⟩]
def r61_5 : List SOper := [
  ⟨(some 6), .mv (.c (.one (.sc (.int .i64 0)))), none⟩,
  ⟨(some 7), .mv (.c (.one (.sc (.bool false)))), none⟩,
  ⟨(some 8), .mv (.c (.one (.sc (.int .i64 10)))), none⟩]
def r61_6 : List SOper := [
  ⟨(some 30), .mv (.t 9), none⟩,
  ⟨(some 31), .mv (.t 10), none⟩,
  ⟨(some 32), .mv (.t 2), none⟩,
  ⟨(some 33), .call (.z 0) 64 [(.t 32)], none⟩,
  ⟨(some 34), .call (.z 0) 65 [(.t 30), (.t 31), (.t 33)], none⟩,
  ⟨(some 29), .mv (.t 34), none⟩,
  ⟨(some 35), .ext (.t 29) 0, none⟩,
  ⟨(some 36), .ext (.t 29) 1, none⟩,
  ⟨(some 11), .mv (.t 35), none⟩,
  ⟨(some 12), .mv (.t 36), none⟩]
def r61_7 : List SOper := [
  ⟨(some 37), .mv (.t 11), none⟩,
  ⟨(some 38), .build [.sc (.int .i64 0), .sc (.int .u64 0)] [(1, 1, (.t 37))], none⟩,
  ⟨(some 13), .alloc [.sc (.int .i64 0), .sc (.int .u64 0)], none⟩,
  ⟨none, .store 2 (.t 13) (.t 38), none⟩]
def r61_8 : List SOper := [
  ⟨(some 39), .mv (.t 0), none⟩,
  ⟨(some 40), .bin .lss (.t 39) (.c (.one (.sc (.int .i64 0)))), none⟩,
  ⟨(some 41), .mv (.t 1), none⟩,
  ⟨(some 42), .bin .lss (.t 41) (.c (.one (.sc (.int .i64 0)))), none⟩,
  ⟨(some 43), .beq true (.t 40) (.t 42), none⟩,
  ⟨(some 44), .mv (.t 2), none⟩,
  ⟨(some 45), .bin .lss (.t 44) (.c (.one (.sc (.int .i64 0)))), none⟩,
  ⟨(some 46), .beq true (.t 43) (.t 45), none⟩]
def r61_9 : List SOper := [
  ⟨(some 47), .mv (.t 12), none⟩,
  ⟨(some 48), .bin .gtr (.t 47) (.c (.one (.sc (.int .u64 0)))), none⟩]
def r61_10 : List SOper := [
  ⟨(some 49), .loadA 2 (.t 13), none⟩,
  ⟨(some 50), .call (.z 0) 53 [(.c (.one (.sc (.int .i64 1))))], none⟩,
  ⟨(some 51), .call (.z 0) 66 [(.t 49), (.t 50)], none⟩,
  ⟨none, .store 2 (.t 13) (.t 51), none⟩]
def r61_11 : List SOper := [
  ⟨(some 52), .loadA 2 (.t 13), none⟩,
  ⟨(some 53), .call (.z 0) 67 [(.t 52)], none⟩,
  ⟨none, .store 2 (.t 13) (.t 53), none⟩]
def r61_12 : List SOper := [
  ⟨(some 55), .loadA 2 (.t 13), none⟩,
  ⟨(some 56), .call (.z 0) 68 [(.t 55)], none⟩,
  ⟨(some 54), .mv (.t 56), none⟩,
  ⟨(some 57), .ext (.t 54) 0, none⟩,
  ⟨(some 58), .ext (.t 54) 1, none⟩,
  ⟨(some 6), .mv (.t 57), none⟩,
  ⟨(some 14), .mv (.t 58), none⟩]
def r61_13 : List SOper := [
  ⟨(some 59), .mv (.t 14), none⟩,
  ⟨(some 60), .un .not (.t 59), none⟩]
def r61_14 : List SOper := [
  ⟨(some 6), .mv (.c (.one (.sc (.int .i64 0)))), none⟩,
  ⟨(some 7), .mv (.c (.one (.sc (.bool false)))), none⟩,
  ⟨(some 8), .mv (.c (.one (.sc (.int .i64 10)))), none⟩]
def r61_15 : List SOper := [
  ⟨(some 61), .mv (.t 6), none⟩,
  ⟨(some 62), .mv (.t 12), none⟩,
  ⟨(some 63), .bin .eql (.t 62) (.c (.one (.sc (.int .u64 0)))), none⟩,
  ⟨(some 6), .mv (.t 61), none⟩,
  ⟨(some 7), .mv (.t 63), none⟩,
  ⟨(some 8), .mv (.c (.one (.sc (.int .i64 0)))), none⟩]
def c61 : SC := (.seq (.reg r61_0) (.seq (.seq (.reg r61_1) (.cond (.t 16) (.seq (.reg r61_2) .ret) .skip)) (.seq (.reg r61_3) (.seq (.seq (.reg r61_4) (.cond (.t 28) (.seq (.reg r61_5) .ret) .skip)) (.seq (.reg r61_6) (.seq (.reg r61_7) (.seq (.seq (.reg r61_8) (.cond (.t 46) (.seq (.seq (.reg r61_9) (.cond (.t 48) (.reg r61_10) .skip)) (.reg r61_11)) .skip)) (.seq (.reg r61_12) (.seq (.seq (.reg r61_13) (.cond (.t 60) (.seq (.reg r61_14) .ret) .skip)) (.seq (.reg r61_15) .ret))))))))))
/-- limner/wide.MulDiv -/
def F61 : SFun := ⟨64, c61, [.tmp 6, .tmp 7, .tmp 8]⟩

def r62_0 : List SOper := [
  ⟨(some 2), .mv (.c (.one (.sc (.bool false)))), none⟩]
def r62_1 : List SOper := [
  ⟨(some 3), .mv (.t 0), none⟩,
  ⟨(some 4), .mv (.t 0), none⟩,
  ⟨(some 5), .bin .neq (.t 3) (.t 4), none⟩,
  ⟨(some 2), .mv (.t 5), none⟩]
def c62 : SC := (.seq (.reg r62_0) (.seq (.reg r62_1) .ret))
/-- cmp.isNaN[int64] -/
def F62 : SFun := ⟨6, c62, [.tmp 2]⟩

def r63_0 : List SOper := [
  ⟨(some 2), .mv (.c (.one (.sc (.bool false)))), none⟩]
def r63_1 : List SOper := [
  ⟨(some 3), .mv (.t 0), none⟩,
  ⟨(some 4), .mv (.t 0), none⟩,
  ⟨(some 5), .bin .neq (.t 3) (.t 4), none⟩,
  ⟨(some 2), .mv (.t 5), none⟩]
def c63 : SC := (.seq (.reg r63_0) (.seq (.reg r63_1) .ret))
/-- cmp.isNaN[uint64] -/
def F63 : SFun := ⟨6, c63, [.tmp 2]⟩

def r64_0 : List SOper := [
  ⟨(some 2), .mv (.c (.one (.sc (.int .u64 0)))), none⟩]
def r64_1 : List SOper := [
  ⟨(some 3), .mv (.t 0), none⟩,
  ⟨(some 4), .bin .lss (.t 3) (.c (.one (.sc (.int .i64 0)))), none⟩]
def r64_2 : List SOper := [
  ⟨(some 5), .mv (.t 0), none⟩,
  ⟨(some 6), .conv .u64 (.t 5), none⟩,
  ⟨(some 7), .un .neg (.t 6), none⟩,
  ⟨(some 2), .mv (.t 7), none⟩]
def r64_3 : List SOper := [
  ⟨(some 8), .mv (.t 0), none⟩,
  ⟨(some 9), .conv .u64 (.t 8), none⟩,
  ⟨(some 2), .mv (.t 9), none⟩]
def c64 : SC := (.seq (.reg r64_0) (.seq (.seq (.reg r64_1) (.cond (.t 4) (.seq (.reg r64_2) .ret) .skip)) (.seq (.reg r64_3) .ret)))
/-- limner/wide.size -/
def F64 : SFun := ⟨10, c64, [.tmp 2]⟩

def r65_0 : List SOper := [
  ⟨(some 6), .mv (.c (.one (.sc (.int .u64 0)))), none⟩,
  ⟨(some 7), .mv (.c (.one (.sc (.int .u64 0)))), none⟩]
def r65_1 : List SOper := [
  ⟨(some 19), .mv (.t 2), none⟩,
  ⟨(some 20), .bin .eql (.t 19) (.c (.one (.sc (.int .u64 0)))), none⟩]
def r65_2 : List SOper := [
  ⟨(some 21), .stuck, none⟩,
  ⟨none, .stuck, none⟩]
def r65_3 : List SOper := [
  ⟨(some 22), .mv (.t 2), none⟩,
  ⟨(some 23), .mv (.t 0), none⟩,
  ⟨(some 24), .bin .leq (.t 22) (.t 23), none⟩]
def r65_4 : List SOper := [
  ⟨(some 25), .stuck, none⟩,
  ⟨none, .stuck, none⟩]
def r65_5 : List SOper := [
  ⟨(some 26), .mv (.t 0), none⟩,
  ⟨(some 27), .bin .eql (.t 26) (.c (.one (.sc (.int .u64 0)))), none⟩]
def r65_6 : List SOper := [
  ⟨(some 28), .mv (.t 1), none⟩,
  ⟨(some 29), .mv (.t 2), none⟩,
  ⟨(some 30), .bin .quo (.t 28) (.t 29), none⟩,
  ⟨(some 31), .mv (.t 1), none⟩,
  ⟨(some 32), .mv (.t 2), none⟩,
  ⟨(some 33), .bin .rem (.t 31) (.t 32), none⟩,
  ⟨(some 6), .mv (.t 30), none⟩,
  ⟨(some 7), .mv (.t 33), none⟩]
def r65_7 : List SOper := [
  ⟨(some 34), .mv (.t 2), none⟩,
  ⟨(some 35), .call (.z 0) 69 [(.t 34)], none⟩,
  ⟨(some 36), .conv .u64 (.t 35), none⟩,
  ⟨(some 8), .mv (.t 36), none⟩]
def r65_8 : List SOper := [
  ⟨(some 37), .mv (.t 2), none⟩,
  ⟨(some 38), .mv (.t 8), none⟩,
  ⟨(some 39), .bin .shl (.t 37) (.t 38), none⟩,
  ⟨(some 2), .mv (.t 39), none⟩]
def r65_9 : List SOper := [
  ⟨(some 40), .mv (.t 2), none⟩,
  ⟨(some 41), .bin .shr (.t 40) (.c (.one (.sc (.int .u64 32)))), none⟩,
  ⟨(some 9), .mv (.t 41), none⟩]
def r65_10 : List SOper := [
  ⟨(some 42), .mv (.t 2), none⟩,
  ⟨(some 43), .bin .and (.t 42) (.c (.one (.sc (.int .u64 4294967295)))), none⟩,
  ⟨(some 10), .mv (.t 43), none⟩]
def r65_11 : List SOper := [
  ⟨(some 44), .mv (.t 0), none⟩,
  ⟨(some 45), .mv (.t 8), none⟩,
  ⟨(some 46), .bin .shl (.t 44) (.t 45), none⟩,
  ⟨(some 47), .mv (.t 1), none⟩,
  ⟨(some 48), .mv (.t 8), none⟩,
  ⟨(some 49), .bin .sub (.c (.one (.sc (.int .u64 64)))) (.t 48), none⟩,
  ⟨(some 50), .bin .shr (.t 47) (.t 49), none⟩,
  ⟨(some 51), .bin .or (.t 46) (.t 50), none⟩,
  ⟨(some 11), .mv (.t 51), none⟩]
def r65_12 : List SOper := [
  ⟨(some 52), .mv (.t 1), none⟩,
  ⟨(some 53), .mv (.t 8), none⟩,
  ⟨(some 54), .bin .shl (.t 52) (.t 53), none⟩,
  ⟨(some 12), .mv (.t 54), none⟩]
def r65_13 : List SOper := [
  ⟨(some 55), .mv (.t 12), none⟩,
  ⟨(some 56), .bin .shr (.t 55) (.c (.one (.sc (.int .u64 32)))), none⟩,
  ⟨(some 13), .mv (.t 56), none⟩]
def r65_14 : List SOper := [
  ⟨(some 57), .mv (.t 12), none⟩,
  ⟨(some 58), .bin .and (.t 57) (.c (.one (.sc (.int .u64 4294967295)))), none⟩,
  ⟨(some 14), .mv (.t 58), none⟩]
def r65_15 : List SOper := [
  ⟨(some 59), .mv (.t 11), none⟩,
  ⟨(some 60), .mv (.t 9), none⟩,
  ⟨(some 61), .bin .quo (.t 59) (.t 60), none⟩,
  ⟨(some 15), .mv (.t 61), none⟩]
def r65_16 : List SOper := [
  ⟨(some 62), .mv (.t 11), none⟩,
  ⟨(some 63), .mv (.t 15), none⟩,
  ⟨(some 64), .mv (.t 9), none⟩,
  ⟨(some 65), .bin .mul (.t 63) (.t 64), none⟩,
  ⟨(some 66), .bin .sub (.t 62) (.t 65), none⟩,
  ⟨(some 16), .mv (.t 66), none⟩]
def r65_17 : List SOper := [
  ⟨(some 67), .mv (.t 15), none⟩,
  ⟨(some 68), .bin .geq (.t 67) (.c (.one (.sc (.int .u64 4294967296)))), none⟩,
  ⟨(some 69), .mv (.t 68), none⟩,
  ⟨(some 70), .mv (.t 15), (some (some 69, false))⟩,
  ⟨(some 71), .mv (.t 10), (some (some 69, false))⟩,
  ⟨(some 72), .bin .mul (.t 70) (.t 71), (some (some 69, false))⟩,
  ⟨(some 73), .mv (.t 16), (some (some 69, false))⟩,
  ⟨(some 74), .bin .mul (.c (.one (.sc (.int .u64 4294967296)))) (.t 73), (some (some 69, false))⟩,
  ⟨(some 75), .mv (.t 13), (some (some 69, false))⟩,
  ⟨(some 76), .bin .add (.t 74) (.t 75), (some (some 69, false))⟩,
  ⟨(some 77), .bin .gtr (.t 72) (.t 76), (some (some 69, false))⟩,
  ⟨(some 78), .pick (.t 69) (.c (.one (.sc (.bool true)))) (.t 77), none⟩]
def r65_18 : List SOper := [
  ⟨(some 79), .mv (.t 15), none⟩,
  ⟨(some 80), .bin .sub (.t 79) (.c (.one (.sc (.int .u64 1)))), none⟩,
  ⟨(some 15), .mv (.t 80), none⟩]
def r65_19 : List SOper := [
  ⟨(some 81), .mv (.t 16), none⟩,
  ⟨(some 82), .mv (.t 9), none⟩,
  ⟨(some 83), .bin .add (.t 81) (.t 82), none⟩,
  ⟨(some 16), .mv (.t 83), none⟩]
def r65_20 : List SOper := [
  ⟨(some 84), .mv (.t 16), none⟩,
  ⟨(some 85), .bin .geq (.t 84) (.c (.one (.sc (.int .u64 4294967296)))), none⟩]
def l65_0 : SC := (.seq (.seq (.reg r65_17) (.cond (.t 78) .skip (.exit 0))) (.block 1 (.seq (.reg r65_18) (.seq (.reg r65_19) (.seq (.reg r65_20) (.cond (.t 85) (.exit 0) .skip))))))
def r65_21 : List SOper := [
  ⟨(some 86), .mv (.t 11), none⟩,
  ⟨(some 87), .bin .mul (.t 86) (.c (.one (.sc (.int .u64 4294967296)))), none⟩,
  ⟨(some 88), .mv (.t 13), none⟩,
  ⟨(some 89), .bin .add (.t 87) (.t 88), none⟩,
  ⟨(some 90), .mv (.t 15), none⟩,
  ⟨(some 91), .mv (.t 2), none⟩,
  ⟨(some 92), .bin .mul (.t 90) (.t 91), none⟩,
  ⟨(some 93), .bin .sub (.t 89) (.t 92), none⟩,
  ⟨(some 17), .mv (.t 93), none⟩]
def r65_22 : List SOper := [
  ⟨(some 94), .mv (.t 17), none⟩,
  ⟨(some 95), .mv (.t 9), none⟩,
  ⟨(some 96), .bin .quo (.t 94) (.t 95), none⟩,
  ⟨(some 18), .mv (.t 96), none⟩]
def r65_23 : List SOper := [
  ⟨(some 97), .mv (.t 17), none⟩,
  ⟨(some 98), .mv (.t 18), none⟩,
  ⟨(some 99), .mv (.t 9), none⟩,
  ⟨(some 100), .bin .mul (.t 98) (.t 99), none⟩,
  ⟨(some 101), .bin .sub (.t 97) (.t 100), none⟩,
  ⟨(some 16), .mv (.t 101), none⟩]
def r65_24 : List SOper := [
  ⟨(some 102), .mv (.t 18), none⟩,
  ⟨(some 103), .bin .geq (.t 102) (.c (.one (.sc (.int .u64 4294967296)))), none⟩,
  ⟨(some 104), .mv (.t 103), none⟩,
  ⟨(some 105), .mv (.t 18), (some (some 104, false))⟩,
  ⟨(some 106), .mv (.t 10), (some (some 104, false))⟩,
  ⟨(some 107), .bin .mul (.t 105) (.t 106), (some (some 104, false))⟩,
  ⟨(some 108), .mv (.t 16), (some (some 104, false))⟩,
  ⟨(some 109), .bin .mul (.c (.one (.sc (.int .u64 4294967296)))) (.t 108), (some (some 104, false))⟩,
  ⟨(some 110), .mv (.t 14), (some (some 104, false))⟩,
  ⟨(some 111), .bin .add (.t 109) (.t 110), (some (some 104, false))⟩,
  ⟨(some 112), .bin .gtr (.t 107) (.t 111), (some (some 104, false))⟩,
  ⟨(some 113), .pick (.t 104) (.c (.one (.sc (.bool true)))) (.t 112), none⟩]
def r65_25 : List SOper := [
  ⟨(some 114), .mv (.t 18), none⟩,
  ⟨(some 115), .bin .sub (.t 114) (.c (.one (.sc (.int .u64 1)))), none⟩,
  ⟨(some 18), .mv (.t 115), none⟩]
def r65_26 : List SOper := [
  ⟨(some 116), .mv (.t 16), none⟩,
  ⟨(some 117), .mv (.t 9), none⟩,
  ⟨(some 118), .bin .add (.t 116) (.t 117), none⟩,
  ⟨(some 16), .mv (.t 118), none⟩]
def r65_27 : List SOper := [
  ⟨(some 119), .mv (.t 16), none⟩,
  ⟨(some 120), .bin .geq (.t 119) (.c (.one (.sc (.int .u64 4294967296)))), none⟩]
def l65_1 : SC := (.seq (.seq (.reg r65_24) (.cond (.t 113) .skip (.exit 2))) (.block 3 (.seq (.reg r65_25) (.seq (.reg r65_26) (.seq (.reg r65_27) (.cond (.t 120) (.exit 2) .skip))))))
def r65_28 : List SOper := [
  ⟨(some 121), .mv (.t 15), none⟩,
  ⟨(some 122), .bin .mul (.t 121) (.c (.one (.sc (.int .u64 4294967296)))), none⟩,
  ⟨(some 123), .mv (.t 18), none⟩,
  ⟨(some 124), .bin .add (.t 122) (.t 123), none⟩,
  ⟨(some 125), .mv (.t 17), none⟩,
  ⟨(some 126), .bin .mul (.t 125) (.c (.one (.sc (.int .u64 4294967296)))), none⟩,
  ⟨(some 127), .mv (.t 14), none⟩,
  ⟨(some 128), .bin .add (.t 126) (.t 127), none⟩,
  ⟨(some 129), .mv (.t 18), none⟩,
  ⟨(some 130), .mv (.t 2), none⟩,
  ⟨(some 131), .bin .mul (.t 129) (.t 130), none⟩,
  ⟨(some 132), .bin .sub (.t 128) (.t 131), none⟩,
  ⟨(some 133), .mv (.t 8), none⟩,
  ⟨(some 134), .bin .shr (.t 132) (.t 133), none⟩,
  ⟨(some 6), .mv (.t 124), none⟩,
  ⟨(some 7), .mv (.t 134), none⟩]
def c65 : SC := (.seq (.reg r65_0) (.seq (.seq (.reg r65_1) (.cond (.t 20) (.reg r65_2) .skip)) (.seq (.seq (.reg r65_3) (.cond (.t 24) (.reg r65_4) .skip)) (.seq (.seq (.reg r65_5) (.cond (.t 27) (.seq (.reg r65_6) .ret) .skip)) (.seq (.reg r65_7) (.seq (.reg r65_8) (.seq (.reg r65_9) (.seq (.reg r65_10) (.seq (.reg r65_11) (.seq (.reg r65_12) (.seq (.reg r65_13) (.seq (.reg r65_14) (.seq (.reg r65_15) (.seq (.reg r65_16) (.seq (.block 0 (.loop l65_0)) (.seq (.reg r65_21) (.seq (.reg r65_22) (.seq (.reg r65_23) (.seq (.block 2 (.loop l65_1)) (.seq (.reg r65_28) .ret))))))))))))))))))))
/-- math/bits.Div64 -/
def F65 : SFun := ⟨135, c65, [.tmp 6, .tmp 7]⟩

def r66_0 : List SOper := [
  ⟨(some 2), .box (.t 0), none⟩,
  ⟨(some 3), .box (.t 1), none⟩,
  ⟨(some 4), .alloc [.sc (.int .i64 0), .sc (.int .u64 0)], none⟩]
def r66_1 : List SOper := [
  ⟨(some 10), .fadr 1 (.t 2), none⟩,
  ⟨(some 11), .load1 (.t 10), none⟩,
  ⟨(some 12), .fadr 1 (.t 3), none⟩,
  ⟨(some 13), .load1 (.t 12), none⟩,
  ⟨(some 14), .carry false [(.t 11), (.t 13), (.c (.one (.sc (.int .u64 0))))], none⟩,
  ⟨(some 9), .mv (.t 14), none⟩,
  ⟨(some 15), .ext (.t 9) 0, none⟩,
  ⟨(some 16), .ext (.t 9) 1, none⟩,
  ⟨(some 5), .mv (.t 15), none⟩,
  ⟨(some 6), .mv (.t 16), none⟩]
def r66_2 : List SOper := [
  ⟨(some 18), .fadr 0 (.t 2), none⟩,
  ⟨(some 19), .load1 (.t 18), none⟩,
  ⟨(some 20), .conv .u64 (.t 19), none⟩,
  ⟨(some 21), .fadr 0 (.t 3), none⟩,
  ⟨(some 22), .load1 (.t 21), none⟩,
  ⟨(some 23), .conv .u64 (.t 22), none⟩,
  ⟨(some 24), .mv (.t 6), none⟩,
  ⟨(some 25), .carry false [(.t 20), (.t 23), (.t 24)], none⟩,
  ⟨(some 17), .mv (.t 25), none⟩,
  ⟨(some 26), .ext (.t 17) 0, none⟩,
  ⟨(some 27), .ext (.t 17) 1, none⟩,
  ⟨(some 7), .mv (.t 26), none⟩,
  ⟨(some 8), .mv (.t 27), none⟩]
def r66_3 : List SOper := [
  ⟨(some 28), .mv (.t 7), none⟩,
  ⟨(some 29), .conv .i64 (.t 28), none⟩,
  ⟨(some 30), .mv (.t 5), none⟩,
  ⟨(some 31), .build [.sc (.int .i64 0), .sc (.int .u64 0)] [(0, 1, (.t 29)), (1, 1, (.t 30))], none⟩,
  ⟨none, .store 2 (.t 4) (.t 31), none⟩]
def c66 : SC := (.seq (.reg r66_0) (.seq (.reg r66_1) (.seq (.reg r66_2) (.seq (.reg r66_3) .ret))))
/-- (limner/wide.Num).Add -/
def F66 : SFun := ⟨32, c66, [.cellA 4 2]⟩

def r67_0 : List SOper := [
  ⟨(some 1), .box (.t 0), none⟩,
  ⟨(some 2), .alloc [.sc (.int .i64 0), .sc (.int .u64 0)], none⟩]
def r67_1 : List SOper := [
  ⟨(some 3), .build [.sc (.int .i64 0), .sc (.int .u64 0)] [], none⟩,
  ⟨(some 4), .loadA 2 (.t 1), none⟩,
  ⟨(some 5), .call (.z 0) 71 [(.t 3), (.t 4)], none⟩,
  ⟨none, .store 2 (.t 2) (.t 5), none⟩]
def c67 : SC := (.seq (.reg r67_0) (.seq (.reg r67_1) .ret))
/-- (limner/wide.Num).Neg -/
def F67 : SFun := ⟨6, c67, [.cellA 2 2]⟩

def r68_0 : List SOper := [
  ⟨(some 1), .box (.t 0), none⟩,
  ⟨(some 2), .mv (.c (.one (.sc (.int .i64 0)))), none⟩,
  ⟨(some 3), .mv (.c (.one (.sc (.bool false)))), none⟩]
def r68_1 : List SOper := [
  ⟨(some 5), .fadr 1 (.t 1), none⟩,
  ⟨(some 6), .load1 (.t 5), none⟩,
  ⟨(some 7), .conv .i64 (.t 6), none⟩,
  ⟨(some 4), .mv (.t 7), none⟩]
def r68_2 : List SOper := [
  ⟨(some 8), .loadA 2 (.t 1), none⟩,
  ⟨(some 9), .mv (.t 4), none⟩,
  ⟨(some 10), .call (.z 0) 53 [(.t 9)], none⟩,
  ⟨(some 11), .eqv [.i, .i] false (.t 8) (.t 10), none⟩]
def r68_3 : List SOper := [
  ⟨(some 12), .mv (.t 4), none⟩,
  ⟨(some 2), .mv (.t 12), none⟩,
  ⟨(some 3), .mv (.c (.one (.sc (.bool true)))), none⟩]
def r68_4 : List SOper := [
  ⟨(some 2), .mv (.c (.one (.sc (.int .i64 0)))), none⟩,
  ⟨(some 3), .mv (.c (.one (.sc (.bool false)))), none⟩]
def c68 : SC := (.seq (.reg r68_0) (.seq (.seq (.reg r68_1) (.seq (.reg r68_2) (.cond (.t 11) (.seq (.reg r68_3) .ret) .skip))) (.seq (.reg r68_4) .ret)))
/-- (limner/wide.Num).Int -/
def F68 : SFun := ⟨13, c68, [.tmp 2, .tmp 3]⟩

def r69_0 : List SOper := [
  ⟨(some 2), .mv (.c (.one (.sc (.int .i64 0)))), none⟩]
def r69_1 : List SOper := [
  ⟨(some 3), .mv (.t 0), none⟩,
  ⟨(some 4), .call (.z 0) 72 [(.t 3)], none⟩,
  ⟨(some 5), .bin .sub (.c (.one (.sc (.int .i64 64)))) (.t 4), none⟩,
  ⟨(some 2), .mv (.t 5), none⟩]
def c69 : SC := (.seq (.reg r69_0) (.seq (.reg r69_1) .ret))
/-- math/bits.LeadingZeros64 -/
def F69 : SFun := ⟨6, c69, [.tmp 2]⟩

def r71_0 : List SOper := [
  ⟨(some 2), .box (.t 0), none⟩,
  ⟨(some 3), .box (.t 1), none⟩,
  ⟨(some 4), .alloc [.sc (.int .i64 0), .sc (.int .u64 0)], none⟩]
def r71_1 : List SOper := [
  ⟨(some 10), .fadr 1 (.t 2), none⟩,
  ⟨(some 11), .load1 (.t 10), none⟩,
  ⟨(some 12), .fadr 1 (.t 3), none⟩,
  ⟨(some 13), .load1 (.t 12), none⟩,
  ⟨(some 14), .carry true [(.t 11), (.t 13), (.c (.one (.sc (.int .u64 0))))], none⟩,
  ⟨(some 9), .mv (.t 14), none⟩,
  ⟨(some 15), .ext (.t 9) 0, none⟩,
  ⟨(some 16), .ext (.t 9) 1, none⟩,
  ⟨(some 5), .mv (.t 15), none⟩,
  ⟨(some 6), .mv (.t 16), none⟩]
def r71_2 : List SOper := [
  ⟨(some 18), .fadr 0 (.t 2), none⟩,
  ⟨(some 19), .load1 (.t 18), none⟩,
  ⟨(some 20), .conv .u64 (.t 19), none⟩,
  ⟨(some 21), .fadr 0 (.t 3), none⟩,
  ⟨(some 22), .load1 (.t 21), none⟩,
  ⟨(some 23), .conv .u64 (.t 22), none⟩,
  ⟨(some 24), .mv (.t 6), none⟩,
  ⟨(some 25), .carry true [(.t 20), (.t 23), (.t 24)], none⟩,
  ⟨(some 17), .mv (.t 25), none⟩,
  ⟨(some 26), .ext (.t 17) 0, none⟩,
  ⟨(some 27), .ext (.t 17) 1, none⟩,
  ⟨(some 7), .mv (.t 26), none⟩,
  ⟨(some 8), .mv (.t 27), none⟩]
def r71_3 : List SOper := [
  ⟨(some 28), .mv (.t 7), none⟩,
  ⟨(some 29), .conv .i64 (.t 28), none⟩,
  ⟨(some 30), .mv (.t 5), none⟩,
  ⟨(some 31), .build [.sc (.int .i64 0), .sc (.int .u64 0)] [(0, 1, (.t 29)), (1, 1, (.t 30))], none⟩,
  ⟨none, .store 2 (.t 4) (.t 31), none⟩]
def c71 : SC := (.seq (.reg r71_0) (.seq (.reg r71_1) (.seq (.reg r71_2) (.seq (.reg r71_3) .ret))))
/-- (limner/wide.Num).Sub -/
def F71 : SFun := ⟨32, c71, [.cellA 4 2]⟩

def r72_0 : List SOper := [
  ⟨(some 2), .mv (.c (.one (.sc (.int .i64 0)))), none⟩]
def r72_1 : List SOper := [
  ⟨(some 3), .mv (.t 0), none⟩,
  ⟨(some 4), .bin .geq (.t 3) (.c (.one (.sc (.int .u64 4294967296)))), none⟩]
def r72_2 : List SOper := [
  ⟨(some 5), .mv (.t 0), none⟩,
  ⟨(some 6), .bin .shr (.t 5) (.c (.one (.sc (.int .u64 32)))), none⟩,
  ⟨(some 0), .mv (.t 6), none⟩]
def r72_3 : List SOper := [
  ⟨(some 2), .mv (.c (.one (.sc (.int .i64 32)))), none⟩]
def r72_4 : List SOper := [
  ⟨(some 7), .mv (.t 0), none⟩,
  ⟨(some 8), .bin .geq (.t 7) (.c (.one (.sc (.int .u64 65536)))), none⟩]
def r72_5 : List SOper := [
  ⟨(some 9), .mv (.t 0), none⟩,
  ⟨(some 10), .bin .shr (.t 9) (.c (.one (.sc (.int .u64 16)))), none⟩,
  ⟨(some 0), .mv (.t 10), none⟩]
def r72_6 : List SOper := [
  ⟨(some 11), .mv (.t 2), none⟩,
  ⟨(some 12), .bin .add (.t 11) (.c (.one (.sc (.int .i64 16)))), none⟩,
  ⟨(some 2), .mv (.t 12), none⟩]
def r72_7 : List SOper := [
  ⟨(some 13), .mv (.t 0), none⟩,
  ⟨(some 14), .bin .geq (.t 13) (.c (.one (.sc (.int .u64 256)))), none⟩]
def r72_8 : List SOper := [
  ⟨(some 15), .mv (.t 0), none⟩,
  ⟨(some 16), .bin .shr (.t 15) (.c (.one (.sc (.int .u64 8)))), none⟩,
  ⟨(some 0), .mv (.t 16), none⟩]
def r72_9 : List SOper := [
  ⟨(some 17), .mv (.t 2), none⟩,
  ⟨(some 18), .bin .add (.t 17) (.c (.one (.sc (.int .i64 8)))), none⟩,
  ⟨(some 2), .mv (.t 18), none⟩]
def r72_10 : List SOper := [
  ⟨(some 19), .mv (.t 2), none⟩,
  ⟨(some 20), .mv (.t 0), none⟩,
  ⟨(some 21), .conv .u8 (.t 20), none⟩,
  ⟨(some 22), .stuck, none⟩,
  ⟨(some 23), .conv .i64 (.t 22), none⟩,
  ⟨(some 24), .bin .add (.t 19) (.t 23), none⟩,
  ⟨(some 2), .mv (.t 24), none⟩]
def c72 : SC := (.seq (.reg r72_0) (.seq (.seq (.reg r72_1) (.cond (.t 4) (.seq (.reg r72_2) (.reg r72_3)) .skip)) (.seq (.seq (.reg r72_4) (.cond (.t 8) (.seq (.reg r72_5) (.reg r72_6)) .skip)) (.seq (.seq (.reg r72_7) (.cond (.t 14) (.seq (.reg r72_8) (.reg r72_9)) .skip)) (.seq (.reg r72_10) .ret)))))
/-- math/bits.Len64 -/
def F72 : SFun := ⟨25, c72, [.tmp 2]⟩

def TA : Nat → Option SFun
  | 3 => some F3
  | 4 => some F4
  | 5 => some F5
  | 6 => some F6
  | 7 => some F7
  | 8 => some F8
  | 9 => some F9
  | 10 => some F10
  | 11 => some F11
  | 12 => some F12
  | 13 => some F13
  | 14 => some F14
  | 15 => some F15
  | 16 => some F16
  | 17 => some F17
  | 18 => some F18
  | 19 => some F19
  | 20 => some F20
  | 21 => some F21
  | 22 => some F22
  | 23 => some F23
  | 24 => some F24
  | 25 => some F25
  | 26 => some F26
  | 27 => some F27
  | 28 => some F28
  | 29 => some F29
  | 30 => some F30
  | 31 => some F31
  | 32 => some F32
  | 33 => some F33
  | 34 => some F34
  | 35 => some F35
  | 36 => some F36
  | 37 => some F37
  | 38 => some F38
  | 39 => some F39
  | 40 => some F40
  | 41 => some F41
  | 42 => some F42
  | 43 => some F43
  | 44 => some F44
  | 45 => some F45
  | 46 => some F46
  | 47 => some F47
  | 48 => some F48
  | 49 => some F49
  | 50 => some F50
  | 51 => some F51
  | 52 => some F52
  | 53 => some F53
  | 54 => some F54
  | 55 => some F55
  | 56 => some F56
  | 57 => some F57
  | 58 => some F58
  | 59 => some F59
  | 60 => some F60
  | 61 => some F61
  | 62 => some F62
  | 63 => some F63
  | 64 => some F64
  | 65 => some F65
  | 66 => some F66
  | 67 => some F67
  | 68 => some F68
  | 69 => some F69
  | 71 => some F71
  | 72 => some F72
  | _ => none
def mdA : Nat → Mode
  | 7 => (.z 0)
  | 9 => (.z 0)
  | 13 => .k
  | 14 => .k
  | 16 => .k
  | 18 => .k
  | 20 => .k
  | 22 => (.z 0)
  | 23 => (.z 0)
  | 24 => (.z 0)
  | 25 => (.z 0)
  | 26 => (.z 0)
  | 27 => (.z 0)
  | 28 => (.z 0)
  | 30 => (.z 0)
  | 31 => (.z 0)
  | 33 => (.z 0)
  | 34 => (.z 0)
  | 35 => .w
  | 36 => .k
  | 37 => (.z 0)
  | 38 => .k
  | 40 => .w
  | 42 => (.z 0)
  | 43 => (.z 0)
  | 44 => (.z 0)
  | 45 => (.z 0)
  | 46 => (.z 0)
  | 48 => (.z 0)
  | 49 => .w
  | 50 => .w
  | 51 => (.z 0)
  | 52 => (.z 0)
  | 53 => (.z 0)
  | 54 => (.z 0)
  | 55 => (.z 0)
  | 56 => (.z 0)
  | 57 => (.z 0)
  | 59 => (.z 0)
  | 60 => (.z 0)
  | 61 => (.z 0)
  | 62 => (.z 0)
  | 63 => (.z 0)
  | 64 => (.z 0)
  | 65 => (.z 0)
  | 66 => (.z 0)
  | 67 => (.z 0)
  | 68 => (.z 0)
  | 69 => (.z 0)
  | 71 => (.z 0)
  | 72 => (.z 0)
  | _ => .q
def q3 : Nat → List (List Nat) × List (Nat × Nat)
  | _ => ([], [])
theorem ok3 : slimF Try.prog 0 mdA q3 Try.f3 = some F3 := by kernel_rfl
def q4 : Nat → List (List Nat) × List (Nat × Nat)
  | _ => ([], [])
theorem ok4 : slimF Try.prog 0 mdA q4 Try.f4 = some F4 := by kernel_rfl
def q5 : Nat → List (List Nat) × List (Nat × Nat)
  | 15 => ([[], [0], [0, 1], [0, 1, 2], [0, 1, 2, 3], [0, 1, 2, 3, 4], [0, 1, 2, 3, 4, 5], [0, 1, 2, 3, 4, 5, 6], [0, 1, 2, 3, 4, 5, 6, 7], [0, 1, 2, 3, 4, 5, 6, 7, 8], [0, 1, 2, 3, 4, 5, 6, 7, 8, 9], [0, 1, 2, 3, 4, 5, 6, 7, 8, 9, 10], [0, 1, 2, 3, 4, 5, 6, 7], [0, 1, 2, 3, 4, 5, 6, 7, 8, 9, 10, 11, 12], [0, 1, 2, 3, 4, 5, 6, 7, 8, 9, 10, 11, 12, 13], [0, 1, 2, 3, 4, 5, 6, 7, 8, 9, 10, 11, 12, 13, 14], [0, 1, 2, 3, 4, 5, 6, 7, 8, 9, 10, 11, 12, 13, 14, 15], [0, 1, 2, 3, 4, 5, 6, 7, 8, 9, 10, 11, 12, 13, 14, 15, 16], [0, 1, 2, 3, 4, 5, 6, 7, 8, 9, 10, 11, 12, 13, 14, 15, 16, 17], [0, 1, 2, 3, 4, 5, 6, 7, 8, 9, 10, 11, 12, 13, 14, 15, 16, 17, 18], [0, 1, 2, 3, 4, 5, 6, 7, 8, 9, 10, 11, 12, 13, 14, 15], [0, 1, 2, 3, 4, 5, 6, 7, 8, 9, 10, 11, 12, 13, 14, 15, 20], [0, 1, 2, 3, 4, 5, 6, 7, 8, 9, 10, 11, 12, 13, 14, 15, 16, 17, 18, 19, 20, 21], [0, 1, 2, 3, 4, 5, 6, 7, 8, 9, 10, 11, 12, 13, 14, 15, 16, 17, 18, 19, 20, 21, 22], [0, 1, 2, 3, 4, 5, 6, 7, 8, 9, 10, 11, 12, 13, 14, 15, 16, 17, 18, 19, 20, 21, 22, 23], [0, 1, 2, 3, 4, 5, 6, 7, 8, 9, 10, 11, 12, 13, 14, 15, 16, 17, 18, 19, 20, 21, 22, 23, 24], [0, 1, 2, 3, 4, 5, 6, 7, 8, 9, 10, 11, 12, 13, 14, 15, 16, 17, 18, 19, 20, 21, 22, 23, 24, 25], [0, 1, 2, 3, 4, 5, 6, 7, 8, 9, 10, 11, 12, 13, 14, 15, 16, 17, 18, 19, 20, 21, 22, 23, 24, 25, 26]], [])
  | 27 => ([[], [], [0, 1], [0, 1, 2], [0, 1, 2, 3], [0, 1, 2, 3, 4], [0, 1, 2, 3, 4, 5], [0, 1, 2, 3, 4, 5], [0, 1, 2, 3, 4, 5, 6, 7], [0, 1, 2, 3, 4, 5, 6, 7, 8], [0, 1, 2, 3, 4, 5, 6, 7, 8, 9], [0, 1, 2, 3, 4, 5], [0, 1, 2, 3, 4, 5], [0, 1, 2, 3, 4, 5, 11, 12], [0, 1, 2, 3, 4, 5, 11, 12, 13], [0, 1, 2, 3, 4, 5, 6, 7, 8, 9, 10, 11, 12, 13, 14], [0, 1, 2, 3, 4, 5, 6, 7, 8, 9, 10, 11, 12, 13, 14, 15], [0, 1, 2, 3, 4, 5, 6, 7, 8, 9, 10, 11, 12, 13, 14, 15, 16]], [])
  | _ => ([], [])
theorem ok5 : slimF Try.prog 0 mdA q5 Try.f5 = some F5 := by kernel_rfl
def q6 : Nat → List (List Nat) × List (Nat × Nat)
  | 4 => ([[], [], [], [2], [1, 2, 3], [], [5], [1, 2, 3, 4, 5, 6], [], [8], [1, 2, 3, 4, 5, 6, 7, 8, 9], [0, 1, 2, 3, 4, 5, 6, 7, 8, 9, 10], [0, 1, 2, 3, 4, 5, 6, 7, 8, 9, 10, 11], [0, 1, 2, 3, 4, 5, 6, 7, 8, 9, 10, 11, 12], [0, 1, 2, 3, 4, 5, 6, 7, 8, 9, 10, 11, 12], [0, 1, 2, 3, 4, 5, 6, 7, 8, 9, 10, 11, 12, 13], [0, 1, 2, 3, 4, 5, 6, 7, 8, 9, 10, 11, 12, 13, 14, 15]], [(2, 46), (2, 49), (50, 46), (53, 46), (53, 49)])
  | 5 => ([[], [], [1], [1, 2], [0, 1, 2, 3], [], [5], [5, 6], [0, 1, 2, 3, 4, 5, 6, 7], [0, 1, 2, 3, 4, 5, 6, 7, 8]], [(64, 59)])
  | 6 => ([[], [0], [], [2], [2, 3], [2, 3, 4], [0, 1, 2, 3, 4, 5], [], [7], [7, 8], [7, 8, 9], [0, 1, 2, 3, 4, 5, 6, 7, 8, 9, 10], [0, 1, 2, 3, 4, 5, 6, 7, 8, 9, 10, 11]], [])
  | _ => ([], [])
theorem ok6 : slimF Try.prog 0 mdA q6 Try.f6 = some F6 := by kernel_rfl
def q7 : Nat → List (List Nat) × List (Nat × Nat)
  | 5 => ([[], [0], [], [0, 1, 2], [0, 1, 2, 3], [0, 1, 2, 3, 4]], [])
  | 7 => ([[], [0], [0, 1], [0, 1, 2], [0, 1, 2], [0, 1, 2, 4], [0, 1, 2], [0, 1, 2, 4, 5, 6], [0, 1, 2, 4, 5, 6, 7], [0, 1, 2, 3, 4, 5, 6, 7, 8], [0, 1, 2, 3, 4, 5, 6, 7, 8, 9], [0, 1, 2, 3, 4, 5, 6, 7, 8, 9, 10]], [])
  | 11 => ([[], [0], [], [0, 1, 2], [], [], [0, 1, 2, 3, 4, 5], [], [0, 1, 2, 3, 4, 5, 6, 7]], [])
  | _ => ([], [])
theorem ok7 : slimF Try.prog 0 mdA q7 Try.f7 = some F7 := by kernel_rfl
def q8 : Nat → List (List Nat) × List (Nat × Nat)
  | 20 => ([[], [0], [0, 1], [0, 1, 2], [0, 1, 2, 3], [0, 1, 2, 3, 4], [0, 1, 2, 3, 4, 5], [0, 1, 2, 3, 4, 5, 6], [0, 1, 2, 3, 4, 5, 6, 7], [0, 1, 2, 3, 4, 5, 6, 7, 8], [0, 1, 2, 3], [0, 1, 2, 3, 10], [0, 1, 2, 3, 10, 11], [0, 1, 2, 3, 10, 11, 12], [0, 1, 2, 3, 4, 5, 6, 7, 8, 9, 10, 11, 12, 13], [0, 1, 2, 3, 4, 5, 6, 7, 8, 9, 10, 11, 12, 13, 14], [0, 1, 2, 3, 4, 5, 6, 7, 8, 9, 10, 11, 12, 13, 14, 15], [0, 1, 2, 3, 4, 5, 6, 7, 8, 9, 10, 11, 12, 13, 14, 15, 16], [0, 1, 2, 3, 4, 5, 6, 7, 8, 9, 10, 11, 12, 13, 14, 15, 16, 17], [0, 1, 2, 3, 4, 5, 6, 7, 8, 9, 10, 11, 12, 13, 14, 15, 16, 17, 18]], [])
  | _ => ([], [])
theorem ok8 : slimF Try.prog 0 mdA q8 Try.f8 = some F8 := by kernel_rfl
def q9 : Nat → List (List Nat) × List (Nat × Nat)
  | 2 => ([[], [0], [0, 1], [0, 1, 2], [0, 1, 2, 3], [0, 1, 2, 3, 4], [0, 1, 2, 3, 4, 5], [0, 1, 2, 3, 4, 5, 6], [0, 1, 2, 3, 4, 5, 6, 7], [0, 1, 2, 3, 4, 5, 6, 7, 8], [0, 1, 2, 3, 4, 5, 6, 7, 8, 9], [0, 1, 2, 3, 4, 5, 6, 7, 8, 9, 10], [0, 1, 2, 3, 4, 5, 6, 7, 8, 9, 10, 11], [0, 1, 2, 3, 4, 5, 6, 7, 8, 9, 10, 11, 12], [0, 1, 2, 3, 4, 5, 6, 7, 8, 9, 10, 11, 12, 13], [0, 1, 2, 3, 4, 5, 6, 7, 8, 9, 10, 11, 12, 13, 14], [0, 1, 2, 3, 4, 5, 6, 7, 8, 9, 10, 11, 12, 13, 14, 15], [0, 1, 2, 3, 4, 5, 6, 7, 8, 9, 10, 11, 12, 13, 14, 15, 16], [0, 1, 2, 3, 4, 5, 6, 7, 8, 9, 10, 11, 12, 13, 14, 15, 16, 17], [0, 1, 2, 3, 4, 5, 6, 7, 8, 9, 10, 11, 12, 13, 14, 15, 16, 17, 18], [0, 1, 2, 3, 4, 5, 6, 7, 8, 9, 10, 11, 12, 13, 14, 15, 16, 17, 18, 19], [0, 1, 2, 3, 4, 5, 6, 7, 8, 9, 10, 11, 12, 13, 14, 15, 16, 17, 18, 19, 20], [0, 1, 2, 3, 4, 5, 6, 7, 8, 9, 10, 11, 12, 13, 14, 15], [0, 1, 2, 3, 4, 5, 6, 7, 8, 9, 10, 11, 12, 13, 14, 15, 16, 17, 18, 19, 20, 21, 22], [0, 1, 2, 3, 4, 5, 6, 7, 8, 9, 10, 11, 12, 13, 14, 15, 16, 17, 18, 19, 20, 21, 22, 23], [0, 1, 2, 3, 4, 5, 6, 7, 8, 9, 10, 11, 12, 13, 14, 15, 16, 17, 18, 19, 20, 21, 22, 23, 24], [0, 1, 2, 3, 4, 5, 6, 7, 8, 9, 10, 11, 12, 13, 14, 15, 16, 17, 18, 19, 20, 21, 22, 23, 24, 25], [0, 1, 2, 3, 4, 5, 6, 7, 8, 9, 10, 11, 12, 13, 14, 15, 16, 17, 18, 19, 20, 21, 22, 23, 24, 25, 26], [0, 1, 2, 3, 4, 5, 6, 7, 8, 9, 10, 11, 12, 13, 14, 15, 16, 17, 18, 19, 20, 21, 22, 23, 24, 25, 26, 27], [0, 1, 2, 3, 4, 5, 6, 7, 8, 9, 10, 11, 12, 13, 14, 15, 16, 17, 18, 19, 20, 21, 22, 23, 24, 25, 26, 27, 28], [0, 1, 2, 3, 4, 5, 6, 7, 8, 9, 10, 11, 12, 13, 14, 15, 16, 17, 18, 19, 20, 21, 22, 23, 24, 25, 26, 27, 28, 29], [0, 1, 2, 3, 4, 5, 6, 7, 8, 9, 10, 11, 12, 13, 14, 15, 16, 17, 18, 19, 20, 21, 22, 23, 24, 25, 26, 27, 28, 29, 30], [0, 1, 2, 3, 4, 5, 6, 7, 8, 9, 10, 11, 12, 13, 14, 15, 16, 17, 18, 19, 20, 21, 22, 23, 24, 25], [0, 1, 2, 3, 4, 5, 6, 7, 8, 9, 10, 11, 12, 13, 14, 15, 16, 17, 18, 19, 20, 21, 22, 23, 24, 25, 26, 27, 28, 29, 30, 31, 32], [0, 1, 2, 3, 4, 5, 6, 7, 8, 9, 10, 11, 12, 13, 14, 15, 16, 17, 18, 19, 20, 21, 22, 23, 24, 25, 26, 27, 28, 29, 30, 31, 32, 33], [0, 1, 2, 3, 4, 5, 6, 7, 8, 9, 10, 11, 12, 13, 14, 15, 16, 17, 18, 19, 20, 21, 22, 23, 24, 25, 26, 27, 28, 29, 30, 31, 32, 33, 34]], [])
  | _ => ([], [])
theorem ok9 : slimF Try.prog 0 mdA q9 Try.f9 = some F9 := by kernel_rfl
def q10 : Nat → List (List Nat) × List (Nat × Nat)
  | _ => ([], [])
theorem ok10 : slimF Try.prog 0 mdA q10 Try.f10 = some F10 := by kernel_rfl
def q11 : Nat → List (List Nat) × List (Nat × Nat)
  | 11 => ([[], [0], [0, 1], [0, 1, 2], [0, 1, 2, 3], [0, 1, 2, 3, 4], [0, 1, 2, 3], [0, 1, 2, 3, 6], [0, 1, 2, 3, 4, 5, 6, 7], [0, 1, 2, 3, 4, 5, 6, 7, 8]], [])
  | _ => ([], [])
theorem ok11 : slimF Try.prog 0 mdA q11 Try.f11 = some F11 := by kernel_rfl
def q12 : Nat → List (List Nat) × List (Nat × Nat)
  | _ => ([], [])
theorem ok12 : slimF Try.prog 0 mdA q12 Try.f12 = some F12 := by kernel_rfl
def q13 : Nat → List (List Nat) × List (Nat × Nat)
  | _ => ([], [])
theorem ok13 : slimF Try.prog 0 mdA q13 Try.f13 = some F13 := by kernel_rfl
def q14 : Nat → List (List Nat) × List (Nat × Nat)
  | 4 => ([[], [0], [0, 1], [0, 1, 2], [0, 1, 2, 3], [0, 1, 2, 3, 4], [0, 1, 2, 3, 4, 5], [0, 1, 2, 3, 4, 5, 6], [0, 1, 2, 3, 4, 5, 6, 7], [0, 1, 2, 3, 4, 5, 6, 7], [0, 1, 2, 3, 4, 5, 6, 7, 9], [0, 1, 2, 3, 4, 5, 6, 7, 9, 10], [0, 1, 2, 3, 4, 5, 6, 7, 8, 9, 10, 11], [0, 1, 2, 3, 4, 5, 6, 7, 8, 9, 10, 11, 12], [0, 1, 2, 3, 4, 5, 6, 7], [0, 1, 2, 3, 4, 5, 6, 7, 14], [0, 1, 2, 3, 4, 5, 6, 7, 14, 15], [0, 1, 2, 3, 4, 5, 6, 7, 8, 9, 10, 11, 12, 13, 14, 15, 16], [0, 1, 2, 3, 4, 5, 6, 7, 8, 9, 10, 11, 12, 13, 14, 15, 16, 17]], [])
  | 9 => ([[], [], [1], [0, 1, 2], [0, 1, 2, 3], [], [], [5, 6], [5, 6, 7], [0, 1, 2, 3, 4, 5, 6, 7, 8], [0, 1, 2, 3, 4, 5, 6, 7, 8, 9], [0, 1, 2, 3, 4, 5, 6, 7, 8, 9, 10], [0, 1, 2, 3, 4, 5, 6, 7, 8, 9, 10], [0, 1, 2, 3, 4, 5, 6, 7, 8, 9, 10, 11], [0, 1, 2, 3, 4, 5, 6, 7, 8, 9, 10, 11, 12, 13]], [])
  | _ => ([], [])
theorem ok14 : slimF Try.prog 0 mdA q14 Try.f14 = some F14 := by kernel_rfl
def q15 : Nat → List (List Nat) × List (Nat × Nat)
  | _ => ([], [])
theorem ok15 : slimF Try.prog 0 mdA q15 Try.f15 = some F15 := by kernel_rfl
def q16 : Nat → List (List Nat) × List (Nat × Nat)
  | 2 => ([[], [0], [0, 1], [0, 1, 2], [0, 1, 2, 3], [0, 1, 2, 3, 4], [0, 1, 2, 3, 4, 5], [0, 1, 2, 3, 4, 5, 6], [0, 1, 2, 3, 4, 5, 6], [0, 1, 2, 3, 4, 5, 6, 8], [0, 1, 2, 3, 4, 5, 6, 8, 9], [0, 1, 2, 3, 4, 5, 6, 7, 8, 9, 10], [0, 1, 2, 3, 4, 5, 6, 7, 8, 9, 10, 11], [0, 1, 2, 3, 4, 5, 6], [0, 1, 2, 3, 4, 5, 6, 13], [0, 1, 2, 3, 4, 5, 6, 13, 14], [0, 1, 2, 3, 4, 5, 6, 7, 8, 9, 10, 11, 12, 13, 14, 15], [0, 1, 2, 3, 4, 5, 6, 7, 8, 9, 10, 11, 12, 13, 14, 15, 16]], [])
  | 7 => ([[], [], [1], [0, 1, 2], [0, 1, 2, 3], [], [], [5, 6], [5, 6, 7], [0, 1, 2, 3, 4, 5, 6, 7, 8]], [])
  | _ => ([], [])
theorem ok16 : slimF Try.prog 0 mdA q16 Try.f16 = some F16 := by kernel_rfl
def q17 : Nat → List (List Nat) × List (Nat × Nat)
  | 6 => ([[], [], [0, 1], [0, 1, 2], [0, 1, 2, 3], [], [], [5, 6], [5, 6, 7], [5, 6, 7, 8], [0, 1, 2, 3, 4, 5, 6, 7, 8, 9], [0, 1, 2, 3, 4, 5, 6, 7, 8, 9, 10], [0, 1, 2, 3, 4, 5, 6, 7, 8, 9, 10, 11], [0, 1, 2, 3, 4, 5, 6, 7, 8, 9, 10, 11], [0, 1, 2, 3, 4, 5, 6, 7, 8, 9, 10, 11, 12, 13], [0, 1, 2, 3, 4, 5, 6, 7, 8, 9, 10, 11, 12, 13, 14], [0, 1, 2, 3, 4, 5, 6, 7, 8, 9, 10, 11, 12, 13, 14, 15], [0, 1, 2, 3, 4, 5, 6, 7, 8, 9, 10, 11], [0, 1, 2, 3, 4, 5, 6, 7, 8, 9, 10, 11], [0, 1, 2, 3, 4, 5, 6, 7, 8, 9, 10, 11, 17, 18], [0, 1, 2, 3, 4, 5, 6, 7, 8, 9, 10, 11, 17, 18, 19], [0, 1, 2, 3, 4, 5, 6, 7, 8, 9, 10, 11, 17, 18, 19, 20], [0, 1, 2, 3, 4, 5, 6, 7, 8, 9, 10, 11, 12, 13, 14, 15, 16, 17, 18, 19, 20, 21], [0, 1, 2, 3, 4, 5, 6, 7, 8, 9, 10, 11, 12, 13, 14, 15, 16, 17, 18, 19, 20, 21, 22]], [])
  | _ => ([], [])
theorem ok17 : slimF Try.prog 0 mdA q17 Try.f17 = some F17 := by kernel_rfl
def q18 : Nat → List (List Nat) × List (Nat × Nat)
  | 10 => ([[], [0], [0, 1], [], [3], [0, 1, 2, 3, 4], [0, 1, 2, 3, 4, 5], [0, 1, 2, 3, 4, 5, 6], [0, 1, 2, 3, 4, 5, 6, 7]], [])
  | 11 => ([[], [], [1], [1, 2], [1, 2, 3], [0, 1, 2, 3, 4], [0, 1, 2, 3, 4, 5], [0, 1, 2, 3, 4, 5, 6]], [])
  | 18 => ([[], [], [1], [1, 2], [1, 2, 3], [1, 2, 3, 4], [], [6], [6, 7], [1, 2, 3, 4, 5, 6, 7, 8], [0, 1, 2, 3, 4, 5, 6, 7, 8, 9], [0, 1, 2, 3, 4, 5, 6, 7, 8, 9, 10], [0, 1, 2, 3, 4, 5, 6, 7, 8, 9, 10, 11]], [])
  | 19 => ([[], [], [1], [], [3], [3, 4], [3, 4, 5], [1, 2, 3, 4, 5, 6], [1, 2, 3, 4, 5, 6, 7], [0, 1, 2, 3, 4, 5, 6, 7, 8], [0, 1, 2, 3, 4, 5, 6, 7, 8, 9], [0, 1, 2, 3, 4, 5, 6, 7, 8, 9, 10]], [])
  | 21 => ([[], [], [1], [1, 2], [1, 2, 3], [], [5], [5, 6], [5, 6, 7], [5, 6, 7, 8], [5, 6, 7, 8, 9], [1, 2, 3, 4, 5, 6, 7, 8, 9, 10], [0, 1, 2, 3, 4, 5, 6, 7, 8, 9, 10, 11], [0, 1, 2, 3, 4, 5, 6, 7, 8, 9, 10, 11, 12], [0, 1, 2, 3, 4, 5, 6, 7, 8, 9, 10, 11, 12, 13]], [])
  | 25 => ([[], [], [], [2], [1, 2, 3], [1, 2, 3, 4], [], [], [6, 7], [6, 7, 8], [0, 1, 2, 3, 4, 5, 6, 7, 8, 9], [0, 1, 2, 3, 4, 5, 6, 7, 8, 9, 10]], [])
  | _ => ([], [])
theorem ok18 : slimF Try.prog 0 mdA q18 Try.f18 = some F18 := by kernel_rfl
def q19 : Nat → List (List Nat) × List (Nat × Nat)
  | 4 => ([[], [0], [], [], [3], [3, 4], [2, 3, 4, 5], [0, 1, 2, 3, 4, 5, 6], [0, 1, 2, 3, 4, 5, 6, 7], [0, 1, 2, 3, 4, 5, 6, 7, 8]], [])
  | _ => ([], [])
theorem ok19 : slimF Try.prog 0 mdA q19 Try.f19 = some F19 := by kernel_rfl
def q20 : Nat → List (List Nat) × List (Nat × Nat)
  | 5 => ([[], [], [], [2], [1, 2, 3], [1, 2, 3, 4], [], [], [7], [6, 7, 8], [6, 7, 8, 9], [], [], [11, 12], [11, 12, 13], [6, 7, 8, 9, 10, 11, 12, 13, 14], [1, 2, 3, 4, 5, 6, 7, 8, 9, 10, 11, 12, 13, 14, 15], [1, 2, 3, 4, 5, 6, 7, 8, 9, 10, 11, 12, 13, 14, 15, 16], [0, 1, 2, 3, 4, 5, 6, 7, 8, 9, 10, 11, 12, 13, 14, 15, 16, 17], [0, 1, 2, 3, 4, 5, 6, 7, 8, 9, 10, 11, 12, 13, 14, 15, 16, 17, 18]], [])
  | _ => ([], [])
theorem ok20 : slimF Try.prog 0 mdA q20 Try.f20 = some F20 := by kernel_rfl
def q21 : Nat → List (List Nat) × List (Nat × Nat)
  | 6 => ([[], [], [0, 1], [0, 1, 2], [0, 1, 2, 3], [], [], [5, 6], [5, 6, 7], [5, 6, 7, 8], [5, 6, 7, 8, 9], [0, 1, 2, 3, 4, 5, 6, 7, 8, 9, 10], [0, 1, 2, 3, 4, 5, 6, 7, 8, 9, 10, 11]], [])
  | _ => ([], [])
theorem ok21 : slimF Try.prog 0 mdA q21 Try.f21 = some F21 := by kernel_rfl
def q22 : Nat → List (List Nat) × List (Nat × Nat)
  | 3 => ([[], [0], [], [2], [0, 1, 2, 3], [], [5], [], [7], [5, 6, 7, 8], [0, 1, 2, 3, 4], [0, 1, 2, 3, 4, 5, 6, 7, 8, 9, 10]], [])
  | _ => ([], [])
theorem ok22 : slimF Try.prog 0 mdA q22 Try.f22 = some F22 := by kernel_rfl
def q23 : Nat → List (List Nat) × List (Nat × Nat)
  | _ => ([], [])
theorem ok23 : slimF Try.prog 0 mdA q23 Try.f23 = some F23 := by kernel_rfl
def q24 : Nat → List (List Nat) × List (Nat × Nat)
  | _ => ([], [])
theorem ok24 : slimF Try.prog 0 mdA q24 Try.f24 = some F24 := by kernel_rfl
def q25 : Nat → List (List Nat) × List (Nat × Nat)
  | 1 => ([[], [0], [], [2], [0, 1, 2, 3], [], [5], [], [7], [5, 6, 7, 8], [0, 1, 2, 3, 4], [0, 1, 2, 3, 4, 5, 6, 7, 8, 9, 10]], [])
  | _ => ([], [])
theorem ok25 : slimF Try.prog 0 mdA q25 Try.f25 = some F25 := by kernel_rfl
def q26 : Nat → List (List Nat) × List (Nat × Nat)
  | _ => ([], [])
theorem ok26 : slimF Try.prog 0 mdA q26 Try.f26 = some F26 := by kernel_rfl
def q27 : Nat → List (List Nat) × List (Nat × Nat)
  | 1 => ([[], [0], [], [2], [0, 1, 2, 3], [], [5], [], [7], [5, 6, 7, 8], [0, 1, 2, 3, 4], [0, 1, 2, 3, 4, 5, 6, 7, 8, 9, 10]], [])
  | _ => ([], [])
theorem ok27 : slimF Try.prog 0 mdA q27 Try.f27 = some F27 := by kernel_rfl
def q28 : Nat → List (List Nat) × List (Nat × Nat)
  | 1 => ([[], [0], [], [], [3], [], [5], [3, 4, 5, 6], [2, 3, 4, 5, 6, 7], [], [2, 3, 4, 5, 6, 7, 8, 9], [0, 1, 2, 3, 4, 5, 6, 7, 8, 9, 10], [], [12], [], [], [15], [], [17], [15, 16, 17, 18], [14, 15, 16, 17, 18, 19], [], [2, 3, 4, 5, 6, 7, 8, 9, 10, 14, 15, 16, 17, 18, 19, 20, 21], [2, 3, 4, 5, 6, 7, 8, 9, 10, 12, 13, 14, 15, 16, 17, 18, 19, 20, 21, 22], [0, 1, 2, 3, 4, 5, 6, 7, 8, 9, 10, 11, 12, 13, 14, 15, 16, 17, 18, 19, 20, 21, 22, 23], [0, 1, 2, 3, 4, 5, 6, 7, 8, 9, 10, 11, 12, 13, 14, 15, 16, 17, 18, 19, 20, 21, 22, 23, 24]], [])
  | _ => ([], [])
theorem ok28 : slimF Try.prog 0 mdA q28 Try.f28 = some F28 := by kernel_rfl
def q29 : Nat → List (List Nat) × List (Nat × Nat)
  | _ => ([], [])
theorem ok29 : slimF Try.prog 0 mdA q29 Try.f29 = some F29 := by kernel_rfl
def q30 : Nat → List (List Nat) × List (Nat × Nat)
  | _ => ([], [])
theorem ok30 : slimF Try.prog 0 mdA q30 Try.f30 = some F30 := by kernel_rfl
def q31 : Nat → List (List Nat) × List (Nat × Nat)
  | _ => ([], [])
theorem ok31 : slimF Try.prog 0 mdA q31 Try.f31 = some F31 := by kernel_rfl
def q32 : Nat → List (List Nat) × List (Nat × Nat)
  | _ => ([], [])
theorem ok32 : slimF Try.prog 0 mdA q32 Try.f32 = some F32 := by kernel_rfl
def q33 : Nat → List (List Nat) × List (Nat × Nat)
  | _ => ([], [])
theorem ok33 : slimF Try.prog 0 mdA q33 Try.f33 = some F33 := by kernel_rfl
def q34 : Nat → List (List Nat) × List (Nat × Nat)
  | _ => ([], [])
theorem ok34 : slimF Try.prog 0 mdA q34 Try.f34 = some F34 := by kernel_rfl
def q35 : Nat → List (List Nat) × List (Nat × Nat)
  | 6 => ([[], [], [0, 1], [0, 1, 2], [], [], [5], [4, 5, 6], [4, 5, 6, 7], [0, 1, 2, 3, 4, 5, 6, 7, 8]], [])
  | 11 => ([[], [], [0, 1], [0, 1, 2], [], [], [5], [4, 5, 6], [4, 5, 6, 7], [0, 1, 2, 3, 4, 5, 6, 7, 8]], [])
  | _ => ([], [])
theorem ok35 : slimF Try.prog 0 mdA q35 Try.f35 = some F35 := by kernel_rfl
def q36 : Nat → List (List Nat) × List (Nat × Nat)
  | _ => ([], [])
theorem ok36 : slimF Try.prog 0 mdA q36 Try.f36 = some F36 := by kernel_rfl
def q37 : Nat → List (List Nat) × List (Nat × Nat)
  | _ => ([], [])
theorem ok37 : slimF Try.prog 0 mdA q37 Try.f37 = some F37 := by kernel_rfl
def q38 : Nat → List (List Nat) × List (Nat × Nat)
  | 5 => ([[], [0], [0, 1], [0, 1, 2], [0, 1, 2], [0, 1, 2, 3, 4], [0, 1, 2, 3, 4, 5], [0, 1, 2], [0, 1, 2], [0, 1, 2, 8], [0, 1, 2, 7, 8, 9], [0, 1, 2, 7, 8, 9, 10], [0, 1, 2, 3, 4, 5, 6, 7, 8, 9, 10, 11], [0, 1, 2, 3, 4, 5, 6, 7, 8, 9, 10, 11, 12]], [])
  | 7 => ([[], [0], [0, 1], [0, 1, 2], [0, 1, 2, 3], [0, 1, 2, 3, 4], [0, 1, 2, 3, 4, 5], [0, 1, 2, 3, 4, 5, 6], [0, 1, 2, 3, 4, 5, 6], [0, 1, 2, 3, 4, 5, 6, 8], [0, 1, 2, 3, 4, 5, 6, 8, 9], [0, 1, 2, 3, 4, 5, 6, 7, 8, 9, 10], [0, 1, 2, 3, 4, 5, 6, 7, 8, 9, 10, 11], [0, 1, 2, 3, 4, 5, 6], [0, 1, 2, 3, 4, 5, 6, 13], [0, 1, 2, 3, 4, 5, 6, 13, 14], [0, 1, 2, 3, 4, 5, 6, 7, 8, 9, 10, 11, 12, 13, 14, 15], [0, 1, 2, 3, 4, 5, 6, 7, 8, 9, 10, 11, 12, 13, 14, 15, 16]], [])
  | _ => ([], [])
theorem ok38 : slimF Try.prog 0 mdA q38 Try.f38 = some F38 := by kernel_rfl
def q39 : Nat → List (List Nat) × List (Nat × Nat)
  | _ => ([], [])
theorem ok39 : slimF Try.prog 0 mdA q39 Try.f39 = some F39 := by kernel_rfl
def q40 : Nat → List (List Nat) × List (Nat × Nat)
  | _ => ([], [])
theorem ok40 : slimF Try.prog 0 mdA q40 Try.f40 = some F40 := by kernel_rfl
def q41 : Nat → List (List Nat) × List (Nat × Nat)
  | 4 => ([[], [], [0, 1], [0, 1, 2], [], [], [5], [4, 5, 6], [4, 5, 6, 7], [], [], [], [10, 11], [10, 11, 12], [9, 10, 11, 12, 13], [], [], [16], [15, 16, 17], [15, 16, 17, 18], [], [], [20, 21], [20, 21, 22], [15, 16, 17, 18, 19, 20, 21, 22, 23], [0, 1, 2, 3, 4, 5, 6, 7, 8, 9, 10, 11, 12, 13, 14, 15, 16, 17, 18, 19, 20, 21, 22, 23, 24], [0, 1, 2, 3, 4, 5, 6, 7, 8, 9, 10, 11, 12, 13, 14, 15, 16, 17, 18, 19, 20, 21, 22, 23, 24, 25]], [])
  | _ => ([], [])
theorem ok41 : slimF Try.prog 0 mdA q41 Try.f41 = some F41 := by kernel_rfl
def q42 : Nat → List (List Nat) × List (Nat × Nat)
  | _ => ([], [])
theorem ok42 : slimF Try.prog 0 mdA q42 Try.f42 = some F42 := by kernel_rfl
def q43 : Nat → List (List Nat) × List (Nat × Nat)
  | 1 => ([[], [0], [], [], [3], [], [5], [3, 4, 5, 6], [2, 3, 4, 5, 6, 7], [], [2, 3, 4, 5, 6, 7, 8, 9], [0, 1, 2, 3, 4, 5, 6, 7, 8, 9, 10], [], [12], [], [], [15], [], [17], [15, 16, 17, 18], [14, 15, 16, 17, 18, 19], [], [2, 3, 4, 5, 6, 7, 8, 9, 10, 14, 15, 16, 17, 18, 19, 20, 21], [2, 3, 4, 5, 6, 7, 8, 9, 10, 12, 13, 14, 15, 16, 17, 18, 19, 20, 21, 22], [0, 1, 2, 3, 4, 5, 6, 7, 8, 9, 10, 11, 12, 13, 14, 15, 16, 17, 18, 19, 20, 21, 22, 23], [0, 1, 2, 3, 4, 5, 6, 7, 8, 9, 10, 11, 12, 13, 14, 15, 16, 17, 18, 19, 20, 21, 22, 23, 24]], [])
  | _ => ([], [])
theorem ok43 : slimF Try.prog 0 mdA q43 Try.f43 = some F43 := by kernel_rfl
def q44 : Nat → List (List Nat) × List (Nat × Nat)
  | _ => ([], [])
theorem ok44 : slimF Try.prog 0 mdA q44 Try.f44 = some F44 := by kernel_rfl
def q45 : Nat → List (List Nat) × List (Nat × Nat)
  | _ => ([], [])
theorem ok45 : slimF Try.prog 0 mdA q45 Try.f45 = some F45 := by kernel_rfl
def q46 : Nat → List (List Nat) × List (Nat × Nat)
  | _ => ([], [])
theorem ok46 : slimF Try.prog 0 mdA q46 Try.f46 = some F46 := by kernel_rfl
def q47 : Nat → List (List Nat) × List (Nat × Nat)
  | _ => ([], [])
theorem ok47 : slimF Try.prog 0 mdA q47 Try.f47 = some F47 := by kernel_rfl
def q48 : Nat → List (List Nat) × List (Nat × Nat)
  | _ => ([], [])
theorem ok48 : slimF Try.prog 0 mdA q48 Try.f48 = some F48 := by kernel_rfl
def q49 : Nat → List (List Nat) × List (Nat × Nat)
  | 3 => ([[], [], [1], [1, 2], [1, 2, 3], [1, 2, 3, 4], [], [6], [6, 7], [6, 7, 8], [6, 7, 8, 9], [6, 7, 8, 9, 10], [1, 2, 3, 4, 5, 6, 7, 8, 9, 10, 11], [0, 1, 2, 3, 4, 5, 6, 7, 8, 9, 10, 11, 12], [0, 1, 2, 3, 4, 5, 6, 7, 8, 9, 10, 11, 12, 13], [0, 1, 2, 3, 4, 5, 6, 7, 8, 9, 10, 11, 12, 13, 14]], [])
  | 4 => ([[], [], [1], [1, 2], [1, 2, 3], [1, 2, 3, 4], [], [6], [6, 7], [6, 7, 8], [1, 2, 3, 4, 5, 6, 7, 8, 9], [1, 2, 3, 4, 5, 6, 7, 8, 9, 10], [0, 1, 2, 3, 4, 5, 6, 7, 8, 9, 10, 11], [0, 1, 2, 3, 4, 5, 6, 7, 8, 9, 10, 11, 12], [0, 1, 2, 3, 4, 5, 6, 7, 8, 9, 10, 11, 12, 13]], [])
  | 6 => ([[], [], [1], [1, 2], [1, 2, 3], [], [5], [5, 6], [5, 6, 7], [1, 2, 3, 4, 5, 6, 7, 8], [0, 1, 2, 3, 4, 5, 6, 7, 8, 9], [0, 1, 2, 3, 4, 5, 6, 7, 8, 9, 10], [0, 1, 2, 3, 4, 5, 6, 7, 8, 9, 10, 11]], [])
  | _ => ([], [])
theorem ok49 : slimF Try.prog 0 mdA q49 Try.f49 = some F49 := by kernel_rfl
def q50 : Nat → List (List Nat) × List (Nat × Nat)
  | 1 => ([[], [0], [0, 1], [0, 1, 2], [], [4], [4, 5], [4, 5, 6], [4, 5, 6, 7], [4, 5, 6, 7, 8], [0, 1, 2, 3, 4, 5, 6, 7, 8, 9], [0, 1, 2, 3, 4, 5, 6, 7, 8, 9, 10]], [])
  | 2 => ([[], [], [1], [1, 2], [1, 2, 3], [], [5], [1, 2, 3, 4, 5, 6], [0, 1, 2, 3, 4, 5, 6, 7], [0, 1, 2, 3, 4, 5, 6, 7, 8], [0, 1, 2, 3, 4, 5, 6, 7, 8, 9]], [])
  | _ => ([], [])
theorem ok50 : slimF Try.prog 0 mdA q50 Try.f50 = some F50 := by kernel_rfl
def q51 : Nat → List (List Nat) × List (Nat × Nat)
  | _ => ([], [])
theorem ok51 : slimF Try.prog 0 mdA q51 Try.f51 = some F51 := by kernel_rfl
def q52 : Nat → List (List Nat) × List (Nat × Nat)
  | 1 => ([[], [0], [], [2], [0, 1, 2, 3], [], [5], [], [7], [0, 1, 2, 3, 4, 5, 6, 7, 8], [0, 1, 2, 3, 4, 5, 6, 7, 8, 9], [0, 1, 2, 3, 4, 5, 6, 7, 8, 9, 10], [0, 1, 2, 3, 4, 5, 6, 7, 8, 9, 10, 11]], [])
  | _ => ([], [])
theorem ok52 : slimF Try.prog 0 mdA q52 Try.f52 = some F52 := by kernel_rfl
def q53 : Nat → List (List Nat) × List (Nat × Nat)
  | _ => ([], [])
theorem ok53 : slimF Try.prog 0 mdA q53 Try.f53 = some F53 := by kernel_rfl
def q54 : Nat → List (List Nat) × List (Nat × Nat)
  | _ => ([], [])
theorem ok54 : slimF Try.prog 0 mdA q54 Try.f54 = some F54 := by kernel_rfl
def q55 : Nat → List (List Nat) × List (Nat × Nat)
  | _ => ([], [])
theorem ok55 : slimF Try.prog 0 mdA q55 Try.f55 = some F55 := by kernel_rfl
def q56 : Nat → List (List Nat) × List (Nat × Nat)
  | _ => ([], [])
theorem ok56 : slimF Try.prog 0 mdA q56 Try.f56 = some F56 := by kernel_rfl
def q57 : Nat → List (List Nat) × List (Nat × Nat)
  | _ => ([], [])
theorem ok57 : slimF Try.prog 0 mdA q57 Try.f57 = some F57 := by kernel_rfl
def q58 : Nat → List (List Nat) × List (Nat × Nat)
  | _ => ([], [])
theorem ok58 : slimF Try.prog 0 mdA q58 Try.f58 = some F58 := by kernel_rfl
def q59 : Nat → List (List Nat) × List (Nat × Nat)
  | _ => ([], [])
theorem ok59 : slimF Try.prog 0 mdA q59 Try.f59 = some F59 := by kernel_rfl
def q60 : Nat → List (List Nat) × List (Nat × Nat)
  | _ => ([], [])
theorem ok60 : slimF Try.prog 0 mdA q60 Try.f60 = some F60 := by kernel_rfl
def q61 : Nat → List (List Nat) × List (Nat × Nat)
  | 10 => ([[], [], [0, 1], [0, 1, 2]], [])
  | _ => ([], [])
theorem ok61 : slimF Try.prog 0 mdA q61 Try.f61 = some F61 := by kernel_rfl
def q62 : Nat → List (List Nat) × List (Nat × Nat)
  | _ => ([], [])
theorem ok62 : slimF Try.prog 0 mdA q62 Try.f62 = some F62 := by kernel_rfl
def q63 : Nat → List (List Nat) × List (Nat × Nat)
  | _ => ([], [])
theorem ok63 : slimF Try.prog 0 mdA q63 Try.f63 = some F63 := by kernel_rfl
def q64 : Nat → List (List Nat) × List (Nat × Nat)
  | _ => ([], [])
theorem ok64 : slimF Try.prog 0 mdA q64 Try.f64 = some F64 := by kernel_rfl
def q65 : Nat → List (List Nat) × List (Nat × Nat)
  | 6 => ([[], [], [0, 1], [], [], [3, 4], [0, 1, 2], [0, 1, 2, 3, 4, 5, 6]], [])
  | _ => ([], [])
theorem ok65 : slimF Try.prog 0 mdA q65 Try.f65 = some F65 := by kernel_rfl
def q66 : Nat → List (List Nat) × List (Nat × Nat)
  | _ => ([], [])
theorem ok66 : slimF Try.prog 0 mdA q66 Try.f66 = some F66 := by kernel_rfl
def q67 : Nat → List (List Nat) × List (Nat × Nat)
  | _ => ([], [])
theorem ok67 : slimF Try.prog 0 mdA q67 Try.f67 = some F67 := by kernel_rfl
def q68 : Nat → List (List Nat) × List (Nat × Nat)
  | 2 => ([[], [], [1], [0, 1, 2]], [])
  | _ => ([], [])
theorem ok68 : slimF Try.prog 0 mdA q68 Try.f68 = some F68 := by kernel_rfl
def q69 : Nat → List (List Nat) × List (Nat × Nat)
  | _ => ([], [])
theorem ok69 : slimF Try.prog 0 mdA q69 Try.f69 = some F69 := by kernel_rfl
def q71 : Nat → List (List Nat) × List (Nat × Nat)
  | _ => ([], [])
theorem ok71 : slimF Try.prog 0 mdA q71 Try.f71 = some F71 := by kernel_rfl
def q72 : Nat → List (List Nat) × List (Nat × Nat)
  | _ => ([], [])
theorem ok72 : slimF Try.prog 0 mdA q72 Try.f72 = some F72 := by kernel_rfl
def qA : Nat → Nat → List (List Nat) × List (Nat × Nat)
  | 3 => q3
  | 4 => q4
  | 5 => q5
  | 6 => q6
  | 7 => q7
  | 8 => q8
  | 9 => q9
  | 10 => q10
  | 11 => q11
  | 12 => q12
  | 13 => q13
  | 14 => q14
  | 15 => q15
  | 16 => q16
  | 17 => q17
  | 18 => q18
  | 19 => q19
  | 20 => q20
  | 21 => q21
  | 22 => q22
  | 23 => q23
  | 24 => q24
  | 25 => q25
  | 26 => q26
  | 27 => q27
  | 28 => q28
  | 29 => q29
  | 30 => q30
  | 31 => q31
  | 32 => q32
  | 33 => q33
  | 34 => q34
  | 35 => q35
  | 36 => q36
  | 37 => q37
  | 38 => q38
  | 39 => q39
  | 40 => q40
  | 41 => q41
  | 42 => q42
  | 43 => q43
  | 44 => q44
  | 45 => q45
  | 46 => q46
  | 47 => q47
  | 48 => q48
  | 49 => q49
  | 50 => q50
  | 51 => q51
  | 52 => q52
  | 53 => q53
  | 54 => q54
  | 55 => q55
  | 56 => q56
  | 57 => q57
  | 58 => q58
  | 59 => q59
  | 60 => q60
  | 61 => q61
  | 62 => q62
  | 63 => q63
  | 64 => q64
  | 65 => q65
  | 66 => q66
  | 67 => q67
  | 68 => q68
  | 69 => q69
  | 71 => q71
  | 72 => q72
  | _ => fun _ => ([], [])
theorem TA_ok : ∀ f sf, TA f = some sf → ∃ fn, Try.prog.funcs[f]? = some fn ∧ slimF Try.prog 0 mdA (qA f) fn = some sf := by
  intro f sf h
  unfold TA at h
  split at h
  · cases h; exact ⟨Try.f3, Try.func3, ok3⟩
  · cases h; exact ⟨Try.f4, Try.func4, ok4⟩
  · cases h; exact ⟨Try.f5, Try.func5, ok5⟩
  · cases h; exact ⟨Try.f6, Try.func6, ok6⟩
  · cases h; exact ⟨Try.f7, Try.func7, ok7⟩
  · cases h; exact ⟨Try.f8, Try.func8, ok8⟩
  · cases h; exact ⟨Try.f9, Try.func9, ok9⟩
  · cases h; exact ⟨Try.f10, Try.func10, ok10⟩
  · cases h; exact ⟨Try.f11, Try.func11, ok11⟩
  · cases h; exact ⟨Try.f12, Try.func12, ok12⟩
  · cases h; exact ⟨Try.f13, Try.func13, ok13⟩
  · cases h; exact ⟨Try.f14, Try.func14, ok14⟩
  · cases h; exact ⟨Try.f15, Try.func15, ok15⟩
  · cases h; exact ⟨Try.f16, Try.func16, ok16⟩
  · cases h; exact ⟨Try.f17, Try.func17, ok17⟩
  · cases h; exact ⟨Try.f18, Try.func18, ok18⟩
  · cases h; exact ⟨Try.f19, Try.func19, ok19⟩
  · cases h; exact ⟨Try.f20, Try.func20, ok20⟩
  · cases h; exact ⟨Try.f21, Try.func21, ok21⟩
  · cases h; exact ⟨Try.f22, Try.func22, ok22⟩
  · cases h; exact ⟨Try.f23, Try.func23, ok23⟩
  · cases h; exact ⟨Try.f24, Try.func24, ok24⟩
  · cases h; exact ⟨Try.f25, Try.func25, ok25⟩
  · cases h; exact ⟨Try.f26, Try.func26, ok26⟩
  · cases h; exact ⟨Try.f27, Try.func27, ok27⟩
  · cases h; exact ⟨Try.f28, Try.func28, ok28⟩
  · cases h; exact ⟨Try.f29, Try.func29, ok29⟩
  · cases h; exact ⟨Try.f30, Try.func30, ok30⟩
  · cases h; exact ⟨Try.f31, Try.func31, ok31⟩
  · cases h; exact ⟨Try.f32, Try.func32, ok32⟩
  · cases h; exact ⟨Try.f33, Try.func33, ok33⟩
  · cases h; exact ⟨Try.f34, Try.func34, ok34⟩
  · cases h; exact ⟨Try.f35, Try.func35, ok35⟩
  · cases h; exact ⟨Try.f36, Try.func36, ok36⟩
  · cases h; exact ⟨Try.f37, Try.func37, ok37⟩
  · cases h; exact ⟨Try.f38, Try.func38, ok38⟩
  · cases h; exact ⟨Try.f39, Try.func39, ok39⟩
  · cases h; exact ⟨Try.f40, Try.func40, ok40⟩
  · cases h; exact ⟨Try.f41, Try.func41, ok41⟩
  · cases h; exact ⟨Try.f42, Try.func42, ok42⟩
  · cases h; exact ⟨Try.f43, Try.func43, ok43⟩
  · cases h; exact ⟨Try.f44, Try.func44, ok44⟩
  · cases h; exact ⟨Try.f45, Try.func45, ok45⟩
  · cases h; exact ⟨Try.f46, Try.func46, ok46⟩
  · cases h; exact ⟨Try.f47, Try.func47, ok47⟩
  · cases h; exact ⟨Try.f48, Try.func48, ok48⟩
  · cases h; exact ⟨Try.f49, Try.func49, ok49⟩
  · cases h; exact ⟨Try.f50, Try.func50, ok50⟩
  · cases h; exact ⟨Try.f51, Try.func51, ok51⟩
  · cases h; exact ⟨Try.f52, Try.func52, ok52⟩
  · cases h; exact ⟨Try.f53, Try.func53, ok53⟩
  · cases h; exact ⟨Try.f54, Try.func54, ok54⟩
  · cases h; exact ⟨Try.f55, Try.func55, ok55⟩
  · cases h; exact ⟨Try.f56, Try.func56, ok56⟩
  · cases h; exact ⟨Try.f57, Try.func57, ok57⟩
  · cases h; exact ⟨Try.f58, Try.func58, ok58⟩
  · cases h; exact ⟨Try.f59, Try.func59, ok59⟩
  · cases h; exact ⟨Try.f60, Try.func60, ok60⟩
  · cases h; exact ⟨Try.f61, Try.func61, ok61⟩
  · cases h; exact ⟨Try.f62, Try.func62, ok62⟩
  · cases h; exact ⟨Try.f63, Try.func63, ok63⟩
  · cases h; exact ⟨Try.f64, Try.func64, ok64⟩
  · cases h; exact ⟨Try.f65, Try.func65, ok65⟩
  · cases h; exact ⟨Try.f66, Try.func66, ok66⟩
  · cases h; exact ⟨Try.f67, Try.func67, ok67⟩
  · cases h; exact ⟨Try.f68, Try.func68, ok68⟩
  · cases h; exact ⟨Try.f69, Try.func69, ok69⟩
  · cases h; exact ⟨Try.f71, Try.func71, ok71⟩
  · cases h; exact ⟨Try.f72, Try.func72, ok72⟩
  · cases h
end Go.Proofs.Ytoakdmjpbachdaa.Sy
