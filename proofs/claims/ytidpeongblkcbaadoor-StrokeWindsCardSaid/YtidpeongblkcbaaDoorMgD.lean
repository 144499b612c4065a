import Derived.Test.YtidpeongblkcbaaDoorMgC
import Derived.Test.YtidpeongblkcbaaDoorProg
import Derived.KernelRfl
/- Functions of the program, slimmed down, and the check that they are. Conditions: none. -/
namespace Go.Proofs.YtidpeongblkcbaaDoor.Sy
open Go Go.Proofs
set_option linter.unusedVariables false

def r3_0 : List SOper := [
  ⟨(some 2), .box (.t 0), none⟩,
  ⟨(some 4), .mv (.c (.one (.sc (.bool false)))), none⟩]
def r3_1 : List SOper := [
  ⟨(some 9), .loadA 2 (.t 2), none⟩,
  ⟨(some 10), .mv (.t 1), none⟩,
  ⟨(some 11), .call .k 8 [(.t 9), (.t 10)], none⟩,
  ⟨(some 8), .mv (.t 11), none⟩,
  ⟨(some 12), .ext (.t 8) 0, none⟩,
  ⟨(some 13), .ext (.t 8) 1, none⟩,
  ⟨(some 5), .mv (.t 12), none⟩,
  ⟨(some 6), .mv (.t 13), none⟩]
def r3_2 : List SOper := [
  ⟨(some 14), .mv (.t 1), none⟩,
  ⟨(some 15), .bin .lss (.t 14) (.c (.one (.sc (.int .i64 1)))), none⟩,
  ⟨(some 16), .mv (.t 15), none⟩,
  ⟨(some 17), .mv (.t 1), (some (some 16, false))⟩,
  ⟨(some 18), .bin .gtr (.t 17) (.c (.one (.sc (.int .i64 32768)))), (some (some 16, false))⟩,
  ⟨(some 19), .pick (.t 16) (.c (.one (.sc (.bool true)))) (.t 18), none⟩,
  ⟨(some 20), .mv (.t 19), none⟩,
  ⟨(some 21), .loadA 2 (.t 2), (some (some 20, false))⟩,
  ⟨(some 22), .call (.z 1) 9 [(.t 21)], (some (some 20, false))⟩,
  ⟨(some 23), .un .not (.t 22), (some (some 20, false))⟩,
  ⟨(some 24), .pick (.t 20) (.c (.one (.sc (.bool true)))) (.t 23), none⟩]
def r3_3 : List SOper := [
  ⟨(some 25), .mv (.t 6), none⟩,
  ⟨(some 26), .bin .eql (.t 25) (.c (.one (.sc (.int .i64 30)))), none⟩,
  ⟨(some 27), .mv (.t 26), none⟩,
  ⟨(some 28), .mv (.t 5), (some (some 27, true))⟩,
  ⟨(some 29), .len (.t 28), (some (some 27, true))⟩,
  ⟨(some 30), .bin .eql (.t 29) (.c (.one (.sc (.int .i64 0)))), (some (some 27, true))⟩,
  ⟨(some 31), .pick (.t 27) (.t 30) (.c (.one (.sc (.bool false)))), none⟩,
  ⟨(some 32), .mv (.t 31), none⟩,
  ⟨(some 33), .call (.z 1) 10 [], (some (some 32, true))⟩,
  ⟨(some 34), .pick (.t 32) (.t 33) (.c (.one (.sc (.bool false)))), none⟩,
  ⟨(some 4), .mv (.t 34), none⟩]
def r3_4 : List SOper := [
  ⟨(some 35), .loadA 2 (.t 2), none⟩,
  ⟨(some 36), .call (.z 1) 12 [(.t 35)], none⟩,
  ⟨(some 37), .mv (.t 1), none⟩,
  ⟨(some 38), .call .k 11 [(.t 36), (.t 37)], none⟩,
  ⟨(some 7), .mv (.t 38), none⟩]
def r3_5 : List SOper := [
  ⟨(some 39), .mv (.t 7), none⟩,
  ⟨(some 40), .call .q 13 [(.t 39)], none⟩,
  ⟨(some 41), .un .not (.t 40), none⟩]
def r3_6 : List SOper := [
  ⟨(some 42), .mv (.t 6), none⟩,
  ⟨(some 43), .bin .eql (.t 42) (.c (.one (.sc (.int .i64 10)))), none⟩,
  ⟨(some 44), .mv (.t 43), none⟩,
  ⟨(some 45), .mv (.t 5), (some (some 44, true))⟩,
  ⟨(some 46), .len (.t 45), (some (some 44, true))⟩,
  ⟨(some 47), .bin .eql (.t 46) (.c (.one (.sc (.int .i64 0)))), (some (some 44, true))⟩,
  ⟨(some 48), .pick (.t 44) (.t 47) (.c (.one (.sc (.bool false)))), none⟩,
  ⟨(some 49), .mv (.t 48), none⟩,
  ⟨(some 50), .call (.z 1) 10 [], (some (some 49, true))⟩,
  ⟨(some 51), .pick (.t 49) (.t 50) (.c (.one (.sc (.bool false)))), none⟩,
  ⟨(some 4), .mv (.t 51), none⟩]
def r3_7 : List SOper := [
  ⟨(some 52), .mv (.t 6), none⟩,
  ⟨(some 53), .bin .eql (.t 52) (.c (.one (.sc (.int .i64 0)))), none⟩,
  ⟨(some 54), .mv (.t 53), none⟩,
  ⟨(some 55), .mv (.t 5), (some (some 54, true))⟩,
  ⟨(some 56), .mv (.t 7), (some (some 54, true))⟩,
  ⟨(some 57), .call .q 14 [(.t 55), (.t 56)], (some (some 54, true))⟩,
  ⟨(some 58), .pick (.t 54) (.t 57) (.c (.one (.sc (.bool false)))), none⟩,
  ⟨(some 59), .mv (.t 58), none⟩,
  ⟨(some 60), .mv (.t 5), (some (some 59, true))⟩,
  ⟨(some 61), .len (.t 60), (some (some 59, true))⟩,
  ⟨(some 62), .bin .eql (.t 61) (.c (.one (.sc (.int .i64 16)))), (some (some 59, true))⟩,
  ⟨(some 63), .pick (.t 59) (.t 62) (.c (.one (.sc (.bool false)))), none⟩,
  ⟨(some 64), .mv (.t 63), none⟩,
  ⟨(some 65), .mv (.t 5), (some (some 64, true))⟩,
  ⟨(some 66), .iadrS 2 (.t 65) (.c (.one (.sc (.int .i64 0)))), (some (some 64, true))⟩,
  ⟨(some 67), .loadA 2 (.t 66), (some (some 64, true))⟩,
  ⟨(some 68), .fadr 0 (.t 2), (some (some 64, true))⟩,
  ⟨(some 69), .load1 (.t 68), (some (some 64, true))⟩,
  ⟨(some 70), .mv (.t 1), (some (some 64, true))⟩,
  ⟨(some 71), .bin .add (.t 69) (.t 70), (some (some 64, true))⟩,
  ⟨(some 72), .fadr 1 (.t 2), (some (some 64, true))⟩,
  ⟨(some 73), .load1 (.t 72), (some (some 64, true))⟩,
  ⟨(some 74), .call (.z 1) 15 [(.t 71), (.t 73)], (some (some 64, true))⟩,
  ⟨(some 75), .eqv [.i, .i] false (.t 67) (.t 74), (some (some 64, true))⟩,
  ⟨(some 76), .pick (.t 64) (.t 75) (.c (.one (.sc (.bool false)))), none⟩,
  ⟨(some 77), .mv (.t 76), none⟩,
  ⟨(some 78), .mv (.t 5), (some (some 77, true))⟩,
  ⟨(some 79), .iadrS 2 (.t 78) (.c (.one (.sc (.int .i64 4)))), (some (some 77, true))⟩,
  ⟨(some 80), .loadA 2 (.t 79), (some (some 77, true))⟩,
  ⟨(some 81), .fadr 0 (.t 2), (some (some 77, true))⟩,
  ⟨(some 82), .load1 (.t 81), (some (some 77, true))⟩,
  ⟨(some 83), .fadr 1 (.t 2), (some (some 77, true))⟩,
  ⟨(some 84), .load1 (.t 83), (some (some 77, true))⟩,
  ⟨(some 85), .mv (.t 1), (some (some 77, true))⟩,
  ⟨(some 86), .bin .add (.t 84) (.t 85), (some (some 77, true))⟩,
  ⟨(some 87), .call (.z 1) 15 [(.t 82), (.t 86)], (some (some 77, true))⟩,
  ⟨(some 88), .eqv [.i, .i] false (.t 80) (.t 87), (some (some 77, true))⟩,
  ⟨(some 89), .pick (.t 77) (.t 88) (.c (.one (.sc (.bool false)))), none⟩,
  ⟨(some 90), .mv (.t 89), none⟩,
  ⟨(some 91), .mv (.t 5), (some (some 90, true))⟩,
  ⟨(some 92), .iadrS 2 (.t 91) (.c (.one (.sc (.int .i64 8)))), (some (some 90, true))⟩,
  ⟨(some 93), .loadA 2 (.t 92), (some (some 90, true))⟩,
  ⟨(some 94), .fadr 0 (.t 2), (some (some 90, true))⟩,
  ⟨(some 95), .load1 (.t 94), (some (some 90, true))⟩,
  ⟨(some 96), .mv (.t 1), (some (some 90, true))⟩,
  ⟨(some 97), .bin .sub (.t 95) (.t 96), (some (some 90, true))⟩,
  ⟨(some 98), .fadr 1 (.t 2), (some (some 90, true))⟩,
  ⟨(some 99), .load1 (.t 98), (some (some 90, true))⟩,
  ⟨(some 100), .call (.z 1) 15 [(.t 97), (.t 99)], (some (some 90, true))⟩,
  ⟨(some 101), .eqv [.i, .i] false (.t 93) (.t 100), (some (some 90, true))⟩,
  ⟨(some 102), .pick (.t 90) (.t 101) (.c (.one (.sc (.bool false)))), none⟩,
  ⟨(some 103), .mv (.t 102), none⟩,
  ⟨(some 104), .mv (.t 5), (some (some 103, true))⟩,
  ⟨(some 105), .iadrS 2 (.t 104) (.c (.one (.sc (.int .i64 12)))), (some (some 103, true))⟩,
  ⟨(some 106), .loadA 2 (.t 105), (some (some 103, true))⟩,
  ⟨(some 107), .fadr 0 (.t 2), (some (some 103, true))⟩,
  ⟨(some 108), .load1 (.t 107), (some (some 103, true))⟩,
  ⟨(some 109), .fadr 1 (.t 2), (some (some 103, true))⟩,
  ⟨(some 110), .load1 (.t 109), (some (some 103, true))⟩,
  ⟨(some 111), .mv (.t 1), (some (some 103, true))⟩,
  ⟨(some 112), .bin .sub (.t 110) (.t 111), (some (some 103, true))⟩,
  ⟨(some 113), .call (.z 1) 15 [(.t 108), (.t 112)], (some (some 103, true))⟩,
  ⟨(some 114), .eqv [.i, .i] false (.t 106) (.t 113), (some (some 103, true))⟩,
  ⟨(some 115), .pick (.t 103) (.t 114) (.c (.one (.sc (.bool false)))), none⟩,
  ⟨(some 116), .mv (.t 115), none⟩,
  ⟨(some 117), .call (.z 1) 10 [], (some (some 116, true))⟩,
  ⟨(some 118), .pick (.t 116) (.t 117) (.c (.one (.sc (.bool false)))), none⟩,
  ⟨(some 4), .mv (.t 118), none⟩]
def c3 : SC := (.seq (.reg r3_0) (.seq (.reg r3_1) (.seq (.seq (.reg r3_2) (.cond (.t 24) (.seq (.reg r3_3) .ret) .skip)) (.seq (.reg r3_4) (.seq (.seq (.reg r3_5) (.cond (.t 41) (.seq (.reg r3_6) .ret) .skip)) (.seq (.reg r3_7) .ret))))))
/-- limner/limnerlaw07.StrokeDiscs -/
def F3 : SFun := ⟨119, c3, [.tmp 4]⟩

def r4_0 : List SOper := [
  ⟨(some 3), .box (.t 0), none⟩,
  ⟨(some 6), .mv (.c (.one (.sc (.bool false)))), none⟩]
def r4_1 : List SOper := [
  ⟨(some 13), .fadr 0 (.t 3), none⟩,
  ⟨(some 14), .load1 (.t 13), none⟩,
  ⟨(some 15), .len (.t 14), none⟩,
  ⟨(some 16), .bin .gtr (.t 15) (.c (.one (.sc (.int .i64 30)))), none⟩]
def r4_2 : List SOper := [
  ⟨(some 17), .call (.z 1) 10 [], none⟩,
  ⟨(some 6), .mv (.t 17), none⟩]
def r4_3 : List SOper := [
  ⟨(some 18), .fadr 0 (.t 3), none⟩,
  ⟨(some 19), .load1 (.t 18), none⟩,
  ⟨(some 20), .call .k 16 [(.t 19)], none⟩,
  ⟨(some 7), .mv (.t 20), none⟩]
def r4_4 : List SOper := [
  ⟨(some 22), .loadA 2 (.t 3), none⟩,
  ⟨(some 23), .mv (.t 1), none⟩,
  ⟨(some 24), .mv (.t 2), none⟩,
  ⟨(some 25), .call .k 17 [(.t 22), (.t 23), (.t 24)], none⟩,
  ⟨(some 21), .mv (.t 25), none⟩,
  ⟨(some 26), .ext (.t 21) 0, none⟩,
  ⟨(some 27), .ext (.t 21) 1, none⟩,
  ⟨(some 8), .mv (.t 26), none⟩,
  ⟨(some 9), .mv (.t 27), none⟩]
def r4_5 : List SOper := [
  ⟨(some 28), .fadr 0 (.t 3), none⟩,
  ⟨(some 29), .load1 (.t 28), none⟩,
  ⟨(some 30), .mv (.t 7), none⟩,
  ⟨(some 31), .call .q 14 [(.t 29), (.t 30)], none⟩,
  ⟨(some 32), .un .not (.t 31), none⟩]
def r4_6 : List SOper := [
  ⟨(some 6), .mv (.c (.one (.sc (.bool false)))), none⟩]
def r4_7 : List SOper := [
  ⟨(some 33), .mv (.t 1), none⟩,
  ⟨(some 34), .bin .lss (.t 33) (.c (.one (.sc (.int .i64 1)))), none⟩,
  ⟨(some 35), .mv (.t 34), none⟩,
  ⟨(some 36), .mv (.t 1), (some (some 35, false))⟩,
  ⟨(some 37), .bin .gtr (.t 36) (.c (.one (.sc (.int .i64 32768)))), (some (some 35, false))⟩,
  ⟨(some 38), .pick (.t 35) (.c (.one (.sc (.bool true)))) (.t 37), none⟩,
  ⟨(some 39), .mv (.t 38), none⟩,
  ⟨(some 40), .mv (.t 2), (some (some 39, false))⟩,
  ⟨(some 41), .bin .lss (.t 40) (.c (.one (.sc (.int .i64 0)))), (some (some 39, false))⟩,
  ⟨(some 42), .pick (.t 39) (.c (.one (.sc (.bool true)))) (.t 41), none⟩,
  ⟨(some 43), .mv (.t 42), none⟩,
  ⟨(some 44), .mv (.t 2), (some (some 43, false))⟩,
  ⟨(some 45), .bin .gtr (.t 44) (.c (.one (.sc (.int .i64 2)))), (some (some 43, false))⟩,
  ⟨(some 46), .pick (.t 43) (.c (.one (.sc (.bool true)))) (.t 45), none⟩,
  ⟨(some 47), .mv (.t 46), none⟩,
  ⟨(some 48), .mv (.t 7), (some (some 47, false))⟩,
  ⟨(some 49), .call .q 13 [(.t 48)], (some (some 47, false))⟩,
  ⟨(some 50), .un .not (.t 49), (some (some 47, false))⟩,
  ⟨(some 51), .pick (.t 47) (.c (.one (.sc (.bool true)))) (.t 50), none⟩]
def r4_8 : List SOper := [
  ⟨(some 52), .mv (.t 9), none⟩,
  ⟨(some 53), .bin .eql (.t 52) (.c (.one (.sc (.int .i64 30)))), none⟩,
  ⟨(some 54), .mv (.t 53), none⟩,
  ⟨(some 55), .mv (.t 8), (some (some 54, true))⟩,
  ⟨(some 56), .len (.t 55), (some (some 54, true))⟩,
  ⟨(some 57), .bin .eql (.t 56) (.c (.one (.sc (.int .i64 0)))), (some (some 54, true))⟩,
  ⟨(some 58), .pick (.t 54) (.t 57) (.c (.one (.sc (.bool false)))), none⟩,
  ⟨(some 59), .mv (.t 58), none⟩,
  ⟨(some 60), .call (.z 1) 10 [], (some (some 59, true))⟩,
  ⟨(some 61), .pick (.t 59) (.t 60) (.c (.one (.sc (.bool false)))), none⟩,
  ⟨(some 6), .mv (.t 61), none⟩]
def r4_9 : List SOper := [
  ⟨(some 63), .mv (.t 7), none⟩,
  ⟨(some 64), .fadr 1 (.t 3), none⟩,
  ⟨(some 65), .load1 (.t 64), none⟩,
  ⟨(some 66), .mv (.t 1), none⟩,
  ⟨(some 67), .mv (.t 2), none⟩,
  ⟨(some 68), .call .k 18 [(.t 63), (.t 65), (.t 66), (.t 67)], none⟩,
  ⟨(some 62), .mv (.t 68), none⟩,
  ⟨(some 69), .ext (.t 62) 0, none⟩,
  ⟨(some 70), .ext (.t 62) 1, none⟩,
  ⟨(some 10), .mv (.t 69), none⟩,
  ⟨(some 11), .mv (.t 70), none⟩]
def r4_10 : List SOper := [
  ⟨(some 71), .mv (.t 11), none⟩,
  ⟨(some 72), .un .not (.t 71), none⟩]
def r4_11 : List SOper := [
  ⟨(some 73), .mv (.t 9), none⟩,
  ⟨(some 74), .bin .eql (.t 73) (.c (.one (.sc (.int .i64 10)))), none⟩,
  ⟨(some 75), .mv (.t 74), none⟩,
  ⟨(some 76), .mv (.t 8), (some (some 75, true))⟩,
  ⟨(some 77), .len (.t 76), (some (some 75, true))⟩,
  ⟨(some 78), .bin .eql (.t 77) (.c (.one (.sc (.int .i64 0)))), (some (some 75, true))⟩,
  ⟨(some 79), .pick (.t 75) (.t 78) (.c (.one (.sc (.bool false)))), none⟩,
  ⟨(some 80), .mv (.t 79), none⟩,
  ⟨(some 81), .call (.z 1) 10 [], (some (some 80, true))⟩,
  ⟨(some 82), .pick (.t 80) (.t 81) (.c (.one (.sc (.bool false)))), none⟩,
  ⟨(some 6), .mv (.t 82), none⟩]
def r4_12 : List SOper := [
  ⟨(some 83), .mv (.t 9), none⟩,
  ⟨(some 84), .bin .neq (.t 83) (.c (.one (.sc (.int .i64 0)))), none⟩,
  ⟨(some 85), .mv (.t 84), none⟩,
  ⟨(some 86), .mv (.t 8), (some (some 85, false))⟩,
  ⟨(some 87), .len (.t 86), (some (some 85, false))⟩,
  ⟨(some 88), .mv (.t 10), (some (some 85, false))⟩,
  ⟨(some 89), .len (.t 88), (some (some 85, false))⟩,
  ⟨(some 90), .bin .neq (.t 87) (.t 89), (some (some 85, false))⟩,
  ⟨(some 91), .pick (.t 85) (.c (.one (.sc (.bool true)))) (.t 90), none⟩]
def r4_13 : List SOper := [
  ⟨(some 6), .mv (.c (.one (.sc (.bool false)))), none⟩]
def r4_14 : List SOper := [
  ⟨(some 92), .mv (.t 8), none⟩,
  ⟨(some 93), .len (.t 92), none⟩,
  ⟨(some 94), .mv (.c (.one (.sc (.int .i64 0)))), none⟩]
def r4_15 : List SOper := [
  ⟨(some 95), .bin .lss (.t 94) (.t 93), none⟩]
def r4_16 : List SOper := [
  ⟨(some 96), .mv (.t 94), none⟩,
  ⟨(some 12), .mv (.t 96), none⟩]
def r4_17 : List SOper := [
  ⟨(some 97), .mv (.t 8), none⟩,
  ⟨(some 98), .mv (.t 12), none⟩,
  ⟨(some 99), .iadrS 1 (.t 97) (.t 98), none⟩,
  ⟨(some 100), .load1 (.t 99), none⟩,
  ⟨(some 101), .mv (.t 10), none⟩,
  ⟨(some 102), .mv (.t 12), none⟩,
  ⟨(some 103), .iadrS 1 (.t 101) (.t 102), none⟩,
  ⟨(some 104), .load1 (.t 103), none⟩,
  ⟨(some 105), .call .q 14 [(.t 100), (.t 104)], none⟩,
  ⟨(some 106), .un .not (.t 105), none⟩]
def r4_18 : List SOper := [
  ⟨(some 6), .mv (.c (.one (.sc (.bool false)))), none⟩]
def r4_19 : List SOper := [
  ⟨(some 107), .bin .add (.t 94) (.c (.one (.sc (.int .i64 1)))), none⟩,
  ⟨(some 94), .mv (.t 107), none⟩]
def l4_0 : SC := (.seq (.reg r4_15) (.seq (.cond (.t 95) .skip (.exit 0)) (.seq (.block 1 (.seq (.reg r4_16) (.seq (.reg r4_17) (.cond (.t 106) (.seq (.reg r4_18) .ret) .skip)))) (.reg r4_19))))
def r4_20 : List SOper := [
  ⟨(some 108), .call (.z 1) 10 [], none⟩,
  ⟨(some 6), .mv (.t 108), none⟩]
def c4 : SC := (.seq (.reg r4_0) (.seq (.seq (.reg r4_1) (.cond (.t 16) (.seq (.reg r4_2) .ret) .skip)) (.seq (.reg r4_3) (.seq (.reg r4_4) (.seq (.seq (.reg r4_5) (.cond (.t 32) (.seq (.reg r4_6) .ret) .skip)) (.seq (.seq (.reg r4_7) (.cond (.t 51) (.seq (.reg r4_8) .ret) .skip)) (.seq (.reg r4_9) (.seq (.seq (.reg r4_10) (.cond (.t 72) (.seq (.reg r4_11) .ret) .skip)) (.seq (.seq (.reg r4_12) (.cond (.t 91) (.seq (.reg r4_13) .ret) .skip)) (.seq (.seq (.reg r4_14) (.block 0 (.loop l4_0))) (.seq (.reg r4_20) .ret)))))))))))
/-- limner/limnerlaw07.StrokePens -/
def F4 : SFun := ⟨109, c4, [.tmp 6]⟩

def r5_0 : List SOper := [
  ⟨(some 3), .box (.t 0), none⟩,
  ⟨(some 6), .mv (.c (.one (.sc (.bool false)))), none⟩]
def r5_1 : List SOper := [
  ⟨(some 19), .fadr 0 (.t 3), none⟩,
  ⟨(some 20), .load1 (.t 19), none⟩,
  ⟨(some 21), .len (.t 20), none⟩,
  ⟨(some 22), .bin .gtr (.t 21) (.c (.one (.sc (.int .i64 20)))), none⟩]
def r5_2 : List SOper := [
  ⟨(some 23), .call (.z 1) 10 [], none⟩,
  ⟨(some 6), .mv (.t 23), none⟩]
def r5_3 : List SOper := [
  ⟨(some 24), .fadr 1 (.t 3), none⟩,
  ⟨(some 25), .load1 (.t 24), none⟩,
  ⟨(some 26), .build [.sc (.slice none 0 0), .sc (.bool false)] [(1, 1, (.t 25))], none⟩,
  ⟨(some 7), .alloc [.sc (.slice none 0 0), .sc (.bool false)], none⟩,
  ⟨none, .store 2 (.t 7) (.t 26), none⟩]
def r5_4 : List SOper := [
  ⟨(some 27), .fadr 0 (.t 3), none⟩,
  ⟨(some 28), .load1 (.t 27), none⟩,
  ⟨(some 29), .len (.t 28), none⟩,
  ⟨(some 30), .mv (.c (.one (.sc (.int .i64 0)))), none⟩]
def r5_5 : List SOper := [
  ⟨(some 31), .bin .lss (.t 30) (.t 29), none⟩]
def r5_6 : List SOper := [
  ⟨(some 32), .iadrS 2 (.t 28) (.t 30), none⟩,
  ⟨(some 33), .loadA 2 (.t 32), none⟩,
  ⟨(some 9), .alloc [.sc (.int .i64 0), .sc (.int .i64 0)], none⟩,
  ⟨none, .store 2 (.t 9) (.t 33), none⟩]
def r5_7 : List SOper := [
  ⟨(some 34), .fadr 0 (.t 7), none⟩,
  ⟨(some 35), .load1 (.t 34), none⟩,
  ⟨(some 36), .loadA 2 (.t 9), none⟩,
  ⟨(some 37), .loadA 2 (.t 9), none⟩,
  ⟨(some 38), .bslice [.sc (.int .i64 0), .sc (.int .i64 0), .sc (.int .i64 0), .sc (.int .i64 0)] 2 2 [(0, 2, (.t 36)), (2, 2, (.t 37))], none⟩,
  ⟨(some 39), .app 2 16 (.t 35) (.t 38), none⟩,
  ⟨(some 40), .fadr 0 (.t 7), none⟩,
  ⟨none, .store 1 (.t 40) (.t 39), none⟩]
def r5_8 : List SOper := [
  ⟨(some 41), .bin .add (.t 30) (.c (.one (.sc (.int .i64 1)))), none⟩,
  ⟨(some 30), .mv (.t 41), none⟩]
def l5_0 : SC := (.seq (.reg r5_5) (.seq (.cond (.t 31) .skip (.exit 0)) (.seq (.block 1 (.seq (.reg r5_6) (.reg r5_7))) (.reg r5_8))))
def r5_9 : List SOper := [
  ⟨(some 43), .loadA 2 (.t 3), none⟩,
  ⟨(some 44), .mv (.t 1), none⟩,
  ⟨(some 45), .mv (.t 2), none⟩,
  ⟨(some 46), .call .k 17 [(.t 43), (.t 44), (.t 45)], none⟩,
  ⟨(some 42), .mv (.t 46), none⟩,
  ⟨(some 47), .ext (.t 42) 0, none⟩,
  ⟨(some 48), .ext (.t 42) 1, none⟩,
  ⟨(some 10), .mv (.t 47), none⟩,
  ⟨(some 11), .mv (.t 48), none⟩]
def r5_10 : List SOper := [
  ⟨(some 50), .loadA 2 (.t 7), none⟩,
  ⟨(some 51), .mv (.t 1), none⟩,
  ⟨(some 52), .mv (.t 2), none⟩,
  ⟨(some 53), .call .k 17 [(.t 50), (.t 51), (.t 52)], none⟩,
  ⟨(some 49), .mv (.t 53), none⟩,
  ⟨(some 54), .ext (.t 49) 0, none⟩,
  ⟨(some 55), .ext (.t 49) 1, none⟩,
  ⟨(some 12), .mv (.t 54), none⟩,
  ⟨(some 13), .mv (.t 55), none⟩]
def r5_11 : List SOper := [
  ⟨(some 56), .mv (.t 11), none⟩,
  ⟨(some 57), .mv (.t 13), none⟩,
  ⟨(some 58), .bin .neq (.t 56) (.t 57), none⟩,
  ⟨(some 59), .mv (.t 58), none⟩,
  ⟨(some 60), .mv (.t 10), (some (some 59, false))⟩,
  ⟨(some 61), .len (.t 60), (some (some 59, false))⟩,
  ⟨(some 62), .mv (.t 12), (some (some 59, false))⟩,
  ⟨(some 63), .len (.t 62), (some (some 59, false))⟩,
  ⟨(some 64), .bin .neq (.t 61) (.t 63), (some (some 59, false))⟩,
  ⟨(some 65), .pick (.t 59) (.c (.one (.sc (.bool true)))) (.t 64), none⟩]
def r5_12 : List SOper := [
  ⟨(some 6), .mv (.c (.one (.sc (.bool false)))), none⟩]
def r5_13 : List SOper := [
  ⟨(some 66), .mv (.t 10), none⟩,
  ⟨(some 67), .len (.t 66), none⟩,
  ⟨(some 68), .mv (.c (.one (.sc (.int .i64 0)))), none⟩]
def r5_14 : List SOper := [
  ⟨(some 69), .bin .lss (.t 68) (.t 67), none⟩]
def r5_15 : List SOper := [
  ⟨(some 70), .mv (.t 68), none⟩,
  ⟨(some 14), .mv (.t 70), none⟩]
def r5_16 : List SOper := [
  ⟨(some 71), .mv (.t 10), none⟩,
  ⟨(some 72), .mv (.t 14), none⟩,
  ⟨(some 73), .iadrS 1 (.t 71) (.t 72), none⟩,
  ⟨(some 74), .load1 (.t 73), none⟩,
  ⟨(some 75), .mv (.t 12), none⟩,
  ⟨(some 76), .mv (.t 14), none⟩,
  ⟨(some 77), .iadrS 1 (.t 75) (.t 76), none⟩,
  ⟨(some 78), .load1 (.t 77), none⟩,
  ⟨(some 79), .call .k 16 [(.t 78)], none⟩,
  ⟨(some 80), .call .q 14 [(.t 74), (.t 79)], none⟩,
  ⟨(some 81), .un .not (.t 80), none⟩]
def r5_17 : List SOper := [
  ⟨(some 6), .mv (.c (.one (.sc (.bool false)))), none⟩]
def r5_18 : List SOper := [
  ⟨(some 82), .bin .add (.t 68) (.c (.one (.sc (.int .i64 1)))), none⟩,
  ⟨(some 68), .mv (.t 82), none⟩]
def l5_1 : SC := (.seq (.reg r5_14) (.seq (.cond (.t 69) .skip (.exit 2)) (.seq (.block 3 (.seq (.reg r5_15) (.seq (.reg r5_16) (.cond (.t 81) (.seq (.reg r5_17) .ret) .skip)))) (.reg r5_18))))
def r5_19 : List SOper := [
  ⟨(some 83), .fadr 0 (.t 3), none⟩,
  ⟨(some 84), .load1 (.t 83), none⟩,
  ⟨(some 85), .len (.t 84), none⟩,
  ⟨(some 86), .bin .lss (.t 85) (.c (.one (.sc (.int .i64 2)))), none⟩]
def r5_20 : List SOper := [
  ⟨(some 87), .call (.z 1) 10 [], none⟩,
  ⟨(some 6), .mv (.t 87), none⟩]
def r5_21 : List SOper := [
  ⟨(some 89), .fadr 0 (.t 3), none⟩,
  ⟨(some 90), .load1 (.t 89), none⟩,
  ⟨(some 91), .iadrS 2 (.t 90) (.c (.one (.sc (.int .i64 0)))), none⟩,
  ⟨(some 92), .loadA 2 (.t 91), none⟩,
  ⟨(some 93), .fadr 0 (.t 3), none⟩,
  ⟨(some 94), .load1 (.t 93), none⟩,
  ⟨(some 95), .iadrS 2 (.t 94) (.c (.one (.sc (.int .i64 1)))), none⟩,
  ⟨(some 96), .loadA 2 (.t 95), none⟩,
  ⟨(some 97), .mv (.t 1), none⟩,
  ⟨(some 98), .call .k 19 [(.t 92), (.t 96), (.t 97)], none⟩,
  ⟨(some 88), .mv (.t 98), none⟩,
  ⟨(some 99), .ext (.t 88) 0, none⟩,
  ⟨(some 100), .ext (.t 88) 1, none⟩,
  ⟨(some 15), .mv (.t 99), none⟩,
  ⟨(some 16), .mv (.t 100), none⟩]
def r5_22 : List SOper := [
  ⟨(some 102), .fadr 0 (.t 3), none⟩,
  ⟨(some 103), .load1 (.t 102), none⟩,
  ⟨(some 104), .iadrS 2 (.t 103) (.c (.one (.sc (.int .i64 1)))), none⟩,
  ⟨(some 105), .loadA 2 (.t 104), none⟩,
  ⟨(some 106), .fadr 0 (.t 3), none⟩,
  ⟨(some 107), .load1 (.t 106), none⟩,
  ⟨(some 108), .iadrS 2 (.t 107) (.c (.one (.sc (.int .i64 0)))), none⟩,
  ⟨(some 109), .loadA 2 (.t 108), none⟩,
  ⟨(some 110), .mv (.t 1), none⟩,
  ⟨(some 111), .call .k 19 [(.t 105), (.t 109), (.t 110)], none⟩,
  ⟨(some 101), .mv (.t 111), none⟩,
  ⟨(some 112), .ext (.t 101) 0, none⟩,
  ⟨(some 113), .ext (.t 101) 1, none⟩,
  ⟨(some 17), .mv (.t 112), none⟩,
  ⟨(some 18), .mv (.t 113), none⟩]
def r5_23 : List SOper := [
  ⟨(some 114), .mv (.t 16), none⟩,
  ⟨(some 115), .bin .neq (.t 114) (.c (.one (.sc (.int .i64 0)))), none⟩,
  ⟨(some 116), .mv (.t 115), none⟩,
  ⟨(some 117), .mv (.t 18), (some (some 116, false))⟩,
  ⟨(some 118), .bin .neq (.t 117) (.c (.one (.sc (.int .i64 0)))), (some (some 116, false))⟩,
  ⟨(some 119), .pick (.t 116) (.c (.one (.sc (.bool true)))) (.t 118), none⟩]
def r5_24 : List SOper := [
  ⟨(some 120), .call (.z 1) 10 [], none⟩,
  ⟨(some 6), .mv (.t 120), none⟩]
def r5_25 : List SOper := [
  ⟨(some 121), .mv (.t 15), none⟩,
  ⟨(some 122), .len (.t 121), none⟩,
  ⟨(some 123), .bin .eql (.t 122) (.c (.one (.sc (.int .i64 4)))), none⟩,
  ⟨(some 124), .mv (.t 123), none⟩,
  ⟨(some 125), .mv (.t 17), (some (some 124, true))⟩,
  ⟨(some 126), .len (.t 125), (some (some 124, true))⟩,
  ⟨(some 127), .bin .eql (.t 126) (.c (.one (.sc (.int .i64 4)))), (some (some 124, true))⟩,
  ⟨(some 128), .pick (.t 124) (.t 127) (.c (.one (.sc (.bool false)))), none⟩,
  ⟨(some 129), .mv (.t 128), none⟩,
  ⟨(some 130), .mv (.t 15), (some (some 129, true))⟩,
  ⟨(some 131), .iadrS 2 (.t 130) (.c (.one (.sc (.int .i64 0)))), (some (some 129, true))⟩,
  ⟨(some 132), .loadA 2 (.t 131), (some (some 129, true))⟩,
  ⟨(some 133), .mv (.t 17), (some (some 129, true))⟩,
  ⟨(some 134), .iadrS 2 (.t 133) (.c (.one (.sc (.int .i64 2)))), (some (some 129, true))⟩,
  ⟨(some 135), .loadA 2 (.t 134), (some (some 129, true))⟩,
  ⟨(some 136), .call (.z 1) 20 [(.t 132), (.t 135)], (some (some 129, true))⟩,
  ⟨(some 137), .pick (.t 129) (.t 136) (.c (.one (.sc (.bool false)))), none⟩,
  ⟨(some 138), .mv (.t 137), none⟩,
  ⟨(some 139), .mv (.t 15), (some (some 138, true))⟩,
  ⟨(some 140), .iadrS 2 (.t 139) (.c (.one (.sc (.int .i64 1)))), (some (some 138, true))⟩,
  ⟨(some 141), .loadA 2 (.t 140), (some (some 138, true))⟩,
  ⟨(some 142), .mv (.t 17), (some (some 138, true))⟩,
  ⟨(some 143), .iadrS 2 (.t 142) (.c (.one (.sc (.int .i64 3)))), (some (some 138, true))⟩,
  ⟨(some 144), .loadA 2 (.t 143), (some (some 138, true))⟩,
  ⟨(some 145), .call (.z 1) 20 [(.t 141), (.t 144)], (some (some 138, true))⟩,
  ⟨(some 146), .pick (.t 138) (.t 145) (.c (.one (.sc (.bool false)))), none⟩,
  ⟨(some 147), .mv (.t 146), none⟩,
  ⟨(some 148), .mv (.t 15), (some (some 147, true))⟩,
  ⟨(some 149), .iadrS 2 (.t 148) (.c (.one (.sc (.int .i64 2)))), (some (some 147, true))⟩,
  ⟨(some 150), .loadA 2 (.t 149), (some (some 147, true))⟩,
  ⟨(some 151), .mv (.t 17), (some (some 147, true))⟩,
  ⟨(some 152), .iadrS 2 (.t 151) (.c (.one (.sc (.int .i64 0)))), (some (some 147, true))⟩,
  ⟨(some 153), .loadA 2 (.t 152), (some (some 147, true))⟩,
  ⟨(some 154), .call (.z 1) 20 [(.t 150), (.t 153)], (some (some 147, true))⟩,
  ⟨(some 155), .pick (.t 147) (.t 154) (.c (.one (.sc (.bool false)))), none⟩,
  ⟨(some 156), .mv (.t 155), none⟩,
  ⟨(some 157), .mv (.t 15), (some (some 156, true))⟩,
  ⟨(some 158), .iadrS 2 (.t 157) (.c (.one (.sc (.int .i64 3)))), (some (some 156, true))⟩,
  ⟨(some 159), .loadA 2 (.t 158), (some (some 156, true))⟩,
  ⟨(some 160), .mv (.t 17), (some (some 156, true))⟩,
  ⟨(some 161), .iadrS 2 (.t 160) (.c (.one (.sc (.int .i64 1)))), (some (some 156, true))⟩,
  ⟨(some 162), .loadA 2 (.t 161), (some (some 156, true))⟩,
  ⟨(some 163), .call (.z 1) 20 [(.t 159), (.t 162)], (some (some 156, true))⟩,
  ⟨(some 164), .pick (.t 156) (.t 163) (.c (.one (.sc (.bool false)))), none⟩,
  ⟨(some 165), .mv (.t 164), none⟩,
  ⟨(some 166), .call (.z 1) 10 [], (some (some 165, true))⟩,
  ⟨(some 167), .pick (.t 165) (.t 166) (.c (.one (.sc (.bool false)))), none⟩,
  ⟨(some 6), .mv (.t 167), none⟩]
def c5 : SC := (.seq (.reg r5_0) (.seq (.seq (.reg r5_1) (.cond (.t 22) (.seq (.reg r5_2) .ret) .skip)) (.seq (.reg r5_3) (.seq (.seq (.reg r5_4) (.block 0 (.loop l5_0))) (.seq (.reg r5_9) (.seq (.reg r5_10) (.seq (.seq (.reg r5_11) (.cond (.t 65) (.seq (.reg r5_12) .ret) .skip)) (.seq (.seq (.reg r5_13) (.block 2 (.loop l5_1))) (.seq (.seq (.reg r5_19) (.cond (.t 86) (.seq (.reg r5_20) .ret) .skip)) (.seq (.reg r5_21) (.seq (.reg r5_22) (.seq (.seq (.reg r5_23) (.cond (.t 119) (.seq (.reg r5_24) .ret) .skip)) (.seq (.reg r5_25) .ret)))))))))))))
/-- limner/limnerlaw07.StrokeBack -/
def F5 : SFun := ⟨168, c5, [.tmp 6]⟩

def r6_0 : List SOper := [
  ⟨(some 3), .box (.t 0), none⟩,
  ⟨(some 5), .box (.t 2), none⟩,
  ⟨(some 6), .mv (.c (.one (.sc (.bool false)))), none⟩]
def r6_1 : List SOper := [
  ⟨(some 13), .fadr 0 (.t 3), none⟩,
  ⟨(some 14), .load1 (.t 13), none⟩,
  ⟨(some 15), .len (.t 14), none⟩,
  ⟨(some 16), .bin .gtr (.t 15) (.c (.one (.sc (.int .i64 20)))), none⟩,
  ⟨(some 17), .mv (.t 16), none⟩,
  ⟨(some 18), .loadA 2 (.t 5), (some (some 17, false))⟩,
  ⟨(some 19), .call (.z 1) 9 [(.t 18)], (some (some 17, false))⟩,
  ⟨(some 20), .un .not (.t 19), (some (some 17, false))⟩,
  ⟨(some 21), .pick (.t 17) (.c (.one (.sc (.bool true)))) (.t 20), none⟩]
def r6_2 : List SOper := [
  ⟨(some 22), .call (.z 1) 10 [], none⟩,
  ⟨(some 6), .mv (.t 22), none⟩]
def r6_3 : List SOper := [
  ⟨(some 23), .mv (.c (.one (.sc (.int .i64 0)))), none⟩]
def r6_4 : List SOper := [
  ⟨(some 24), .bin .lss (.t 23) (.c (.one (.sc (.int .i64 3)))), none⟩]
def r6_5 : List SOper := [
  ⟨(some 25), .mv (.t 23), none⟩,
  ⟨(some 7), .mv (.t 25), none⟩]
def r6_6 : List SOper := [
  ⟨(some 27), .loadA 2 (.t 3), none⟩,
  ⟨(some 28), .mv (.t 1), none⟩,
  ⟨(some 29), .mv (.t 7), none⟩,
  ⟨(some 30), .call .k 17 [(.t 27), (.t 28), (.t 29)], none⟩,
  ⟨(some 26), .mv (.t 30), none⟩,
  ⟨(some 31), .ext (.t 26) 0, none⟩,
  ⟨(some 32), .ext (.t 26) 1, none⟩,
  ⟨(some 8), .mv (.t 31), none⟩,
  ⟨(some 9), .mv (.t 32), none⟩]
def r6_7 : List SOper := [
  ⟨(some 33), .mv (.t 9), none⟩,
  ⟨(some 34), .bin .neq (.t 33) (.c (.one (.sc (.int .i64 0)))), none⟩]
def r6_8 : List SOper := [
  ⟨(some 35), .mv (.t 8), none⟩,
  ⟨(some 36), .len (.t 35), none⟩,
  ⟨(some 37), .mv (.c (.one (.sc (.int .i64 0)))), none⟩]
def r6_9 : List SOper := [
  ⟨(some 38), .bin .lss (.t 37) (.t 36), none⟩]
def r6_10 : List SOper := [
  ⟨(some 39), .iadrS 1 (.t 35) (.t 37), none⟩,
  ⟨(some 40), .load1 (.t 39), none⟩,
  ⟨(some 11), .mv (.t 40), none⟩]
def r6_11 : List SOper := [
  ⟨(some 41), .mv (.t 11), none⟩,
  ⟨(some 42), .loadA 2 (.t 5), none⟩,
  ⟨(some 43), .call .q 21 [(.t 41), (.t 42)], none⟩,
  ⟨(some 12), .mv (.t 43), none⟩]
def r6_12 : List SOper := [
  ⟨(some 44), .mv (.t 12), none⟩,
  ⟨(some 45), .bin .lss (.t 44) (.c (.one (.sc (.int .i64 0)))), none⟩,
  ⟨(some 46), .mv (.t 45), none⟩,
  ⟨(some 47), .mv (.t 12), (some (some 46, false))⟩,
  ⟨(some 48), .bin .gtr (.t 47) (.c (.one (.sc (.int .i64 1)))), (some (some 46, false))⟩,
  ⟨(some 49), .pick (.t 46) (.c (.one (.sc (.bool true)))) (.t 48), none⟩]
def r6_13 : List SOper := [
  ⟨(some 6), .mv (.c (.one (.sc (.bool false)))), none⟩]
def r6_14 : List SOper := [
  ⟨(some 50), .bin .add (.t 37) (.c (.one (.sc (.int .i64 1)))), none⟩,
  ⟨(some 37), .mv (.t 50), none⟩]
def l6_0 : SC := (.seq (.reg r6_9) (.seq (.cond (.t 38) .skip (.exit 2)) (.seq (.block 3 (.seq (.reg r6_10) (.seq (.reg r6_11) (.seq (.reg r6_12) (.cond (.t 49) (.seq (.reg r6_13) .ret) .skip))))) (.reg r6_14))))
def r6_15 : List SOper := [
  ⟨(some 51), .bin .add (.t 23) (.c (.one (.sc (.int .i64 1)))), none⟩,
  ⟨(some 23), .mv (.t 51), none⟩]
def l6_1 : SC := (.seq (.reg r6_4) (.seq (.cond (.t 24) .skip (.exit 0)) (.seq (.block 1 (.seq (.reg r6_5) (.seq (.reg r6_6) (.seq (.seq (.reg r6_7) (.cond (.t 34) (.exit 1) .skip)) (.seq (.reg r6_8) (.block 2 (.loop l6_0))))))) (.reg r6_15))))
def r6_16 : List SOper := [
  ⟨(some 52), .call (.z 1) 10 [], none⟩,
  ⟨(some 6), .mv (.t 52), none⟩]
def c6 : SC := (.seq (.reg r6_0) (.seq (.seq (.reg r6_1) (.cond (.t 21) (.seq (.reg r6_2) .ret) .skip)) (.seq (.seq (.reg r6_3) (.block 0 (.loop l6_1))) (.seq (.reg r6_16) .ret))))
/-- limner/limnerlaw07.StrokeWinds -/
def F6 : SFun := ⟨53, c6, [.tmp 6]⟩

def r7_0 : List SOper := [
  ⟨(some 1), .box (.t 0), none⟩,
  ⟨(some 2), .mv (.c (.one (.sc (.bool false)))), none⟩]
def r7_1 : List SOper := [
  ⟨(some 15), .fadr 0 (.t 1), none⟩,
  ⟨(some 16), .loadA 2 (.t 15), none⟩,
  ⟨(some 17), .fadr 2 (.t 1), none⟩,
  ⟨(some 18), .load1 (.t 17), none⟩,
  ⟨(some 19), .fadr 4 (.t 1), none⟩,
  ⟨(some 20), .loadA 4 (.t 19), none⟩,
  ⟨(some 3), .alloc [.sc (.slice none 0 0), .sc (.bool false)], none⟩,
  ⟨(some 5), .alloc [.sc (.int .i64 0), .sc (.int .i64 0), .sc (.int .i64 0), .sc (.int .i64 0)], none⟩,
  ⟨none, .store 2 (.t 3) (.t 16), none⟩,
  ⟨(some 4), .mv (.t 18), none⟩,
  ⟨none, .store 4 (.t 5) (.t 20), none⟩]
def r7_2 : List SOper := [
  ⟨(some 21), .fadr 0 (.t 3), none⟩,
  ⟨(some 22), .load1 (.t 21), none⟩,
  ⟨(some 23), .len (.t 22), none⟩,
  ⟨(some 24), .bin .gtr (.t 23) (.c (.one (.sc (.int .i64 20)))), none⟩,
  ⟨(some 25), .mv (.t 24), none⟩,
  ⟨(some 26), .mv (.t 4), (some (some 25, false))⟩,
  ⟨(some 27), .bin .lss (.t 26) (.c (.one (.sc (.int .i64 1)))), (some (some 25, false))⟩,
  ⟨(some 28), .pick (.t 25) (.c (.one (.sc (.bool true)))) (.t 27), none⟩,
  ⟨(some 29), .mv (.t 28), none⟩,
  ⟨(some 30), .mv (.t 4), (some (some 29, false))⟩,
  ⟨(some 31), .bin .gtr (.t 30) (.c (.one (.sc (.int .i64 32768)))), (some (some 29, false))⟩,
  ⟨(some 32), .pick (.t 29) (.c (.one (.sc (.bool true)))) (.t 31), none⟩]
def r7_3 : List SOper := [
  ⟨(some 33), .call (.z 1) 10 [], none⟩,
  ⟨(some 2), .mv (.t 33), none⟩]
def r7_4 : List SOper := [
  ⟨(some 34), .fadr 0 (.t 5), none⟩,
  ⟨(some 35), .load1 (.t 34), none⟩,
  ⟨(some 36), .bin .geq (.t 35) (.c (.one (.sc (.int .i64 (-1099511627776))))), none⟩,
  ⟨(some 37), .mv (.t 36), none⟩,
  ⟨(some 38), .fadr 1 (.t 5), (some (some 37, true))⟩,
  ⟨(some 39), .load1 (.t 38), (some (some 37, true))⟩,
  ⟨(some 40), .bin .geq (.t 39) (.c (.one (.sc (.int .i64 (-1099511627776))))), (some (some 37, true))⟩,
  ⟨(some 41), .pick (.t 37) (.t 40) (.c (.one (.sc (.bool false)))), none⟩,
  ⟨(some 42), .mv (.t 41), none⟩,
  ⟨(some 43), .fadr 2 (.t 5), (some (some 42, true))⟩,
  ⟨(some 44), .load1 (.t 43), (some (some 42, true))⟩,
  ⟨(some 45), .bin .leq (.t 44) (.c (.one (.sc (.int .i64 1099511627776)))), (some (some 42, true))⟩,
  ⟨(some 46), .pick (.t 42) (.t 45) (.c (.one (.sc (.bool false)))), none⟩,
  ⟨(some 47), .mv (.t 46), none⟩,
  ⟨(some 48), .fadr 3 (.t 5), (some (some 47, true))⟩,
  ⟨(some 49), .load1 (.t 48), (some (some 47, true))⟩,
  ⟨(some 50), .bin .leq (.t 49) (.c (.one (.sc (.int .i64 1099511627776)))), (some (some 47, true))⟩,
  ⟨(some 51), .pick (.t 47) (.t 50) (.c (.one (.sc (.bool false)))), none⟩,
  ⟨(some 6), .mv (.t 51), none⟩]
def r7_5 : List SOper := [
  ⟨(some 52), .fadr 0 (.t 5), none⟩,
  ⟨(some 53), .load1 (.t 52), none⟩,
  ⟨(some 54), .fadr 2 (.t 5), none⟩,
  ⟨(some 55), .load1 (.t 54), none⟩,
  ⟨(some 56), .bin .geq (.t 53) (.t 55), none⟩,
  ⟨(some 57), .mv (.t 56), none⟩,
  ⟨(some 58), .fadr 1 (.t 5), (some (some 57, false))⟩,
  ⟨(some 59), .load1 (.t 58), (some (some 57, false))⟩,
  ⟨(some 60), .fadr 3 (.t 5), (some (some 57, false))⟩,
  ⟨(some 61), .load1 (.t 60), (some (some 57, false))⟩,
  ⟨(some 62), .bin .geq (.t 59) (.t 61), (some (some 57, false))⟩,
  ⟨(some 63), .pick (.t 57) (.c (.one (.sc (.bool true)))) (.t 62), none⟩,
  ⟨(some 7), .mv (.t 63), none⟩]
def r7_6 : List SOper := [
  ⟨(some 64), .mv (.t 7), none⟩,
  ⟨(some 65), .mv (.t 64), none⟩,
  ⟨(some 66), .loadA 4 (.t 5), (some (some 65, true))⟩,
  ⟨(some 67), .mv (.t 4), (some (some 65, true))⟩,
  ⟨(some 68), .call (.z 1) 22 [(.t 66), (.t 67)], (some (some 65, true))⟩,
  ⟨(some 69), .build [.sc (.int .i64 0), .sc (.int .i64 0), .sc (.int .i64 0), .sc (.int .i64 0)] [], (some (some 65, true))⟩,
  ⟨(some 70), .eqv [.i, .i, .i, .i] true (.t 68) (.t 69), (some (some 65, true))⟩,
  ⟨(some 71), .pick (.t 65) (.t 70) (.c (.one (.sc (.bool false)))), none⟩,
  ⟨(some 72), .mv (.t 71), none⟩,
  ⟨(some 73), .mv (.t 7), (some (some 72, false))⟩,
  ⟨(some 74), .un .not (.t 73), (some (some 72, false))⟩,
  ⟨(some 75), .mv (.t 74), (some (some 72, false))⟩,
  ⟨(some 76), .mv (.t 6), (some (some 75, true))⟩,
  ⟨(some 77), .pick (.t 75) (.t 76) (.c (.one (.sc (.bool false)))), (some (some 72, false))⟩,
  ⟨(some 78), .mv (.t 77), (some (some 72, false))⟩,
  ⟨(some 79), .loadA 4 (.t 5), (some (some 78, true))⟩,
  ⟨(some 80), .mv (.t 4), (some (some 78, true))⟩,
  ⟨(some 81), .call (.z 1) 22 [(.t 79), (.t 80)], (some (some 78, true))⟩,
  ⟨(some 82), .fadr 0 (.t 5), (some (some 78, true))⟩,
  ⟨(some 83), .load1 (.t 82), (some (some 78, true))⟩,
  ⟨(some 84), .mv (.t 4), (some (some 78, true))⟩,
  ⟨(some 85), .bin .mul (.c (.one (.sc (.int .i64 2)))) (.t 84), (some (some 78, true))⟩,
  ⟨(some 86), .bin .sub (.t 83) (.t 85), (some (some 78, true))⟩,
  ⟨(some 87), .fadr 1 (.t 5), (some (some 78, true))⟩,
  ⟨(some 88), .load1 (.t 87), (some (some 78, true))⟩,
  ⟨(some 89), .mv (.t 4), (some (some 78, true))⟩,
  ⟨(some 90), .bin .mul (.c (.one (.sc (.int .i64 2)))) (.t 89), (some (some 78, true))⟩,
  ⟨(some 91), .bin .sub (.t 88) (.t 90), (some (some 78, true))⟩,
  ⟨(some 92), .fadr 2 (.t 5), (some (some 78, true))⟩,
  ⟨(some 93), .load1 (.t 92), (some (some 78, true))⟩,
  ⟨(some 94), .mv (.t 4), (some (some 78, true))⟩,
  ⟨(some 95), .bin .mul (.c (.one (.sc (.int .i64 2)))) (.t 94), (some (some 78, true))⟩,
  ⟨(some 96), .bin .add (.t 93) (.t 95), (some (some 78, true))⟩,
  ⟨(some 97), .fadr 3 (.t 5), (some (some 78, true))⟩,
  ⟨(some 98), .load1 (.t 97), (some (some 78, true))⟩,
  ⟨(some 99), .mv (.t 4), (some (some 78, true))⟩,
  ⟨(some 100), .bin .mul (.c (.one (.sc (.int .i64 2)))) (.t 99), (some (some 78, true))⟩,
  ⟨(some 101), .bin .add (.t 98) (.t 100), (some (some 78, true))⟩,
  ⟨(some 102), .build [.sc (.int .i64 0), .sc (.int .i64 0), .sc (.int .i64 0), .sc (.int .i64 0)] [(0, 1, (.t 86)), (1, 1, (.t 91)), (2, 1, (.t 96)), (3, 1, (.t 101))], (some (some 78, true))⟩,
  ⟨(some 103), .eqv [.i, .i, .i, .i] true (.t 81) (.t 102), (some (some 78, true))⟩,
  ⟨(some 104), .pick (.t 78) (.t 103) (.c (.one (.sc (.bool false)))), (some (some 72, false))⟩,
  ⟨(some 105), .pick (.t 72) (.c (.one (.sc (.bool true)))) (.t 104), none⟩]
def r7_7 : List SOper := [
  ⟨(some 2), .mv (.c (.one (.sc (.bool false)))), none⟩]
def r7_8 : List SOper := [
  ⟨(some 107), .loadA 2 (.t 3), none⟩,
  ⟨(some 108), .mv (.t 4), none⟩,
  ⟨(some 109), .fadr 3 (.t 1), none⟩,
  ⟨(some 110), .load1 (.t 109), none⟩,
  ⟨(some 111), .call .k 17 [(.t 107), (.t 108), (.t 110)], none⟩,
  ⟨(some 106), .mv (.t 111), none⟩,
  ⟨(some 112), .ext (.t 106) 0, none⟩,
  ⟨(some 113), .ext (.t 106) 1, none⟩,
  ⟨(some 8), .mv (.t 112), none⟩,
  ⟨(some 9), .mv (.t 113), none⟩]
def r7_9 : List SOper := [
  ⟨(some 114), .mv (.t 9), none⟩,
  ⟨(some 115), .bin .neq (.t 114) (.c (.one (.sc (.int .i64 0)))), none⟩]
def r7_10 : List SOper := [
  ⟨(some 116), .call (.z 1) 10 [], none⟩,
  ⟨(some 2), .mv (.t 116), none⟩]
def r7_11 : List SOper := [
  ⟨(some 117), .fadr 0 (.t 3), none⟩,
  ⟨(some 118), .load1 (.t 117), none⟩,
  ⟨(some 119), .call .q 23 [(.t 118)], none⟩,
  ⟨(some 120), .mv (.t 4), none⟩,
  ⟨(some 121), .call (.z 1) 22 [(.t 119), (.t 120)], none⟩,
  ⟨(some 10), .alloc [.sc (.int .i64 0), .sc (.int .i64 0), .sc (.int .i64 0), .sc (.int .i64 0)], none⟩,
  ⟨none, .store 4 (.t 10) (.t 121), none⟩]
def r7_12 : List SOper := [
  ⟨(some 122), .mv (.t 8), none⟩,
  ⟨(some 123), .len (.t 122), none⟩,
  ⟨(some 124), .mv (.c (.one (.sc (.int .i64 0)))), none⟩]
def r7_13 : List SOper := [
  ⟨(some 125), .bin .lss (.t 124) (.t 123), none⟩]
def r7_14 : List SOper := [
  ⟨(some 126), .iadrS 1 (.t 122) (.t 124), none⟩,
  ⟨(some 127), .load1 (.t 126), none⟩,
  ⟨(some 12), .mv (.t 127), none⟩]
def r7_15 : List SOper := [
  ⟨(some 128), .mv (.t 12), none⟩,
  ⟨(some 129), .len (.t 128), none⟩,
  ⟨(some 130), .mv (.c (.one (.sc (.int .i64 0)))), none⟩]
def r7_16 : List SOper := [
  ⟨(some 131), .bin .lss (.t 130) (.t 129), none⟩]
def r7_17 : List SOper := [
  ⟨(some 132), .iadrS 2 (.t 128) (.t 130), none⟩,
  ⟨(some 133), .loadA 2 (.t 132), none⟩,
  ⟨(some 14), .alloc [.sc (.int .i64 0), .sc (.int .i64 0)], none⟩,
  ⟨none, .store 2 (.t 14) (.t 133), none⟩]
def r7_18 : List SOper := [
  ⟨(some 134), .loadA 4 (.t 10), none⟩,
  ⟨(some 135), .loadA 2 (.t 14), none⟩,
  ⟨(some 136), .call (.z 1) 24 [(.t 134), (.t 135)], none⟩,
  ⟨(some 137), .un .not (.t 136), none⟩]
def r7_19 : List SOper := [
  ⟨(some 2), .mv (.c (.one (.sc (.bool false)))), none⟩]
def r7_20 : List SOper := [
  ⟨(some 138), .bin .add (.t 130) (.c (.one (.sc (.int .i64 1)))), none⟩,
  ⟨(some 130), .mv (.t 138), none⟩]
def l7_0 : SC := (.seq (.reg r7_16) (.seq (.cond (.t 131) .skip (.exit 2)) (.seq (.block 3 (.seq (.reg r7_17) (.seq (.reg r7_18) (.cond (.t 137) (.seq (.reg r7_19) .ret) .skip)))) (.reg r7_20))))
def r7_21 : List SOper := [
  ⟨(some 139), .bin .add (.t 124) (.c (.one (.sc (.int .i64 1)))), none⟩,
  ⟨(some 124), .mv (.t 139), none⟩]
def l7_1 : SC := (.seq (.reg r7_13) (.seq (.cond (.t 125) .skip (.exit 0)) (.seq (.block 1 (.seq (.reg r7_14) (.seq (.reg r7_15) (.block 2 (.loop l7_0))))) (.reg r7_21))))
def r7_22 : List SOper := [
  ⟨(some 140), .call (.z 1) 10 [], none⟩,
  ⟨(some 2), .mv (.t 140), none⟩]
def c7 : SC := (.seq (.reg r7_0) (.seq (.ureg [15, 16, 17, 18, 19, 20] [(17, 3), (19, 3)] r7_1) (.seq (.seq (.reg r7_2) (.cond (.t 32) (.seq (.reg r7_3) .ret) .skip)) (.seq (.reg r7_4) (.seq (.seq (.reg r7_5) (.seq (.reg r7_6) (.cond (.t 105) (.seq (.reg r7_7) .ret) .skip))) (.seq (.reg r7_8) (.seq (.seq (.reg r7_9) (.cond (.t 115) (.seq (.reg r7_10) .ret) .skip)) (.seq (.reg r7_11) (.seq (.seq (.reg r7_12) (.block 0 (.loop l7_1))) (.seq (.reg r7_22) .ret))))))))))
/-- limner/limnerlaw07.StrokeReach -/
def F7 : SFun := ⟨141, c7, [.tmp 2]⟩

def r8_0 : List SOper := [
  ⟨(some 2), .box (.t 0), none⟩,
  ⟨(some 4), .mv (.c (.one (.sc (.slice none 0 0)))), none⟩,
  ⟨(some 5), .mv (.c (.one (.sc (.int .i64 0)))), none⟩]
def r8_1 : List SOper := [
  ⟨(some 9), .mv (.t 1), none⟩,
  ⟨(some 10), .call (.z 1) 25 [(.t 9)], none⟩,
  ⟨(some 11), .un .not (.t 10), none⟩,
  ⟨(some 12), .mv (.t 11), none⟩,
  ⟨(some 13), .loadA 2 (.t 2), (some (some 12, false))⟩,
  ⟨(some 14), .call (.z 1) 26 [(.t 13)], (some (some 12, false))⟩,
  ⟨(some 15), .un .not (.t 14), (some (some 12, false))⟩,
  ⟨(some 16), .pick (.t 12) (.c (.one (.sc (.bool true)))) (.t 15), none⟩]
def r8_2 : List SOper := [
  ⟨(some 4), .mv (.c (.one (.sc (.slice none 0 0)))), none⟩,
  ⟨(some 5), .mv (.c (.one (.sc (.int .i64 30)))), none⟩]
def r8_3 : List SOper := [
  ⟨(some 6), .mv (.c (.one (.sc (.slice none 0 0)))), none⟩]
def r8_4 : List SOper := [
  ⟨(some 17), .loadA 16 (.g 0), none⟩,
  ⟨(some 18), .mv (.c (.one (.sc (.int .i64 0)))), none⟩]
def r8_5 : List SOper := [
  ⟨(some 19), .bin .lss (.t 18) (.c (.one (.sc (.int .i64 16)))), none⟩]
def r8_6 : List SOper := [
  ⟨(some 20), .mv (.t 18), none⟩,
  ⟨(some 21), .idxA 16 1 false (.t 17) (.t 18), none⟩,
  ⟨(some 7), .mv (.t 20), none⟩,
  ⟨(some 8), .mv (.t 21), none⟩]
def r8_7 : List SOper := [
  ⟨(some 22), .mv (.t 6), none⟩,
  ⟨(some 23), .loadA 2 (.t 2), none⟩,
  ⟨(some 24), .mv (.t 8), none⟩,
  ⟨(some 25), .mv (.t 1), none⟩,
  ⟨(some 26), .call (.z 1) 28 [(.t 24), (.t 25), (.c (.one (.sc (.int .i64 65536))))], none⟩,
  ⟨(some 27), .mv (.t 7), none⟩,
  ⟨(some 28), .bin .add (.t 27) (.c (.one (.sc (.int .i64 12)))), none⟩,
  ⟨(some 29), .bin .rem (.t 28) (.c (.one (.sc (.int .i64 16)))), none⟩,
  ⟨(some 30), .iadrA 16 1 (.g 0) (.t 29), none⟩,
  ⟨(some 31), .load1 (.t 30), none⟩,
  ⟨(some 32), .mv (.t 1), none⟩,
  ⟨(some 33), .call (.z 1) 28 [(.t 31), (.t 32), (.c (.one (.sc (.int .i64 65536))))], none⟩,
  ⟨(some 34), .build [.sc (.int .i64 0), .sc (.int .i64 0)] [(0, 1, (.t 26)), (1, 1, (.t 33))], none⟩,
  ⟨(some 35), .call (.z 1) 27 [(.t 23), (.t 34)], none⟩,
  ⟨(some 36), .bslice [.sc (.int .i64 0), .sc (.int .i64 0)] 1 2 [(0, 2, (.t 35))], none⟩,
  ⟨(some 37), .app 2 16 (.t 22) (.t 36), none⟩,
  ⟨(some 6), .mv (.t 37), none⟩]
def r8_8 : List SOper := [
  ⟨(some 38), .bin .add (.t 18) (.c (.one (.sc (.int .i64 1)))), none⟩,
  ⟨(some 18), .mv (.t 38), none⟩]
def l8_0 : SC := (.seq (.reg r8_5) (.seq (.cond (.t 19) .skip (.exit 0)) (.seq (.block 1 (.seq (.reg r8_6) (.reg r8_7))) (.reg r8_8))))
def r8_9 : List SOper := [
  ⟨(some 39), .mv (.t 6), none⟩,
  ⟨(some 40), .call .k 29 [(.t 39)], none⟩,
  ⟨(some 41), .ext (.t 40) 0, none⟩,
  ⟨(some 42), .ext (.t 40) 1, none⟩,
  ⟨(some 4), .mv (.t 41), none⟩,
  ⟨(some 5), .mv (.t 42), none⟩]
def c8 : SC := (.seq (.reg r8_0) (.seq (.seq (.reg r8_1) (.cond (.t 16) (.seq (.reg r8_2) .ret) .skip)) (.seq (.reg r8_3) (.seq (.seq (.reg r8_4) (.block 0 (.loop l8_0))) (.seq (.reg r8_9) .ret)))))
/-- limner/stroke.Disc -/
def F8 : SFun := ⟨43, c8, [.tmp 4, .tmp 5]⟩

def r9_0 : List SOper := [
  ⟨(some 1), .box (.t 0), none⟩,
  ⟨(some 2), .mv (.c (.one (.sc (.bool false)))), none⟩]
def r9_1 : List SOper := [
  ⟨(some 3), .fadr 0 (.t 1), none⟩,
  ⟨(some 4), .load1 (.t 3), none⟩,
  ⟨(some 5), .call (.z 1) 30 [(.t 4)], none⟩,
  ⟨(some 6), .mv (.t 5), none⟩,
  ⟨(some 7), .fadr 1 (.t 1), (some (some 6, true))⟩,
  ⟨(some 8), .load1 (.t 7), (some (some 6, true))⟩,
  ⟨(some 9), .call (.z 1) 30 [(.t 8)], (some (some 6, true))⟩,
  ⟨(some 10), .pick (.t 6) (.t 9) (.c (.one (.sc (.bool false)))), none⟩,
  ⟨(some 2), .mv (.t 10), none⟩]
def c9 : SC := (.seq (.reg r9_0) (.seq (.reg r9_1) .ret))
/-- limner/limnerlaw07.in -/
def F9 : SFun := ⟨11, c9, [.tmp 2]⟩

def r10_0 : List SOper := [
  ⟨(some 0), .mv (.c (.one (.sc (.bool false)))), none⟩]
def r10_1 : List SOper := [
  ⟨(some 4), .call (.z 1) 15 [(.c (.one (.sc (.int .i64 0)))), (.c (.one (.sc (.int .i64 0))))], none⟩,
  ⟨(some 5), .call (.z 1) 15 [(.c (.one (.sc (.int .i64 10)))), (.c (.one (.sc (.int .i64 0))))], none⟩,
  ⟨(some 6), .call .k 19 [(.t 4), (.t 5), (.c (.one (.sc (.int .i64 2))))], none⟩,
  ⟨(some 3), .mv (.t 6), none⟩,
  ⟨(some 7), .ext (.t 3) 0, none⟩,
  ⟨(some 8), .ext (.t 3) 1, none⟩,
  ⟨(some 1), .mv (.t 7), none⟩,
  ⟨(some 2), .mv (.t 8), none⟩]
def r10_2 : List SOper := [
  ⟨(some 9), .mv (.t 2), none⟩,
  ⟨(some 10), .bin .eql (.t 9) (.c (.one (.sc (.int .i64 0)))), none⟩,
  ⟨(some 11), .mv (.t 10), none⟩,
  ⟨(some 12), .mv (.t 1), (some (some 11, true))⟩,
  ⟨(some 13), .len (.t 12), (some (some 11, true))⟩,
  ⟨(some 14), .bin .eql (.t 13) (.c (.one (.sc (.int .i64 4)))), (some (some 11, true))⟩,
  ⟨(some 15), .pick (.t 11) (.t 14) (.c (.one (.sc (.bool false)))), none⟩,
  ⟨(some 16), .mv (.t 15), none⟩,
  ⟨(some 17), .mv (.t 1), (some (some 16, true))⟩,
  ⟨(some 18), .iadrS 2 (.t 17) (.c (.one (.sc (.int .i64 0)))), (some (some 16, true))⟩,
  ⟨(some 19), .loadA 2 (.t 18), (some (some 16, true))⟩,
  ⟨(some 20), .call (.z 1) 15 [(.c (.one (.sc (.int .i64 0)))), (.c (.one (.sc (.int .i64 (-2)))))], (some (some 16, true))⟩,
  ⟨(some 21), .eqv [.i, .i] false (.t 19) (.t 20), (some (some 16, true))⟩,
  ⟨(some 22), .pick (.t 16) (.t 21) (.c (.one (.sc (.bool false)))), none⟩,
  ⟨(some 23), .mv (.t 22), none⟩,
  ⟨(some 24), .mv (.t 1), (some (some 23, true))⟩,
  ⟨(some 25), .iadrS 2 (.t 24) (.c (.one (.sc (.int .i64 2)))), (some (some 23, true))⟩,
  ⟨(some 26), .loadA 2 (.t 25), (some (some 23, true))⟩,
  ⟨(some 27), .call (.z 1) 15 [(.c (.one (.sc (.int .i64 10)))), (.c (.one (.sc (.int .i64 2))))], (some (some 23, true))⟩,
  ⟨(some 28), .eqv [.i, .i] false (.t 26) (.t 27), (some (some 23, true))⟩,
  ⟨(some 29), .pick (.t 23) (.t 28) (.c (.one (.sc (.bool false)))), none⟩,
  ⟨(some 0), .mv (.t 29), none⟩]
def c10 : SC := (.seq (.reg r10_0) (.seq (.reg r10_1) (.seq (.reg r10_2) .ret)))
/-- limner/limnerlaw07.awake -/
def F10 : SFun := ⟨30, c10, [.tmp 0]⟩

def r11_0 : List SOper := [
  ⟨(some 2), .box (.t 0), none⟩,
  ⟨(some 4), .mv (.c (.one (.sc (.slice none 0 0)))), none⟩]
def r11_1 : List SOper := [
  ⟨(some 5), .mv (.c (.one (.sc (.slice none 0 0)))), none⟩]
def r11_2 : List SOper := [
  ⟨(some 6), .mv (.c (.one (.sc (.int .i64 0)))), none⟩]
def r11_3 : List SOper := [
  ⟨(some 7), .mv (.t 6), none⟩,
  ⟨(some 8), .bin .lss (.t 7) (.c (.one (.sc (.int .i64 16)))), none⟩]
def r11_5 : List SOper := [
  ⟨(some 11), .mv (.t 5), none⟩,
  ⟨(some 12), .fadr 0 (.t 2), none⟩,
  ⟨(some 13), .load1 (.t 12), none⟩,
  ⟨(some 14), .mv (.t 6), none⟩,
  ⟨(some 15), .call (.z 1) 32 [(.t 14)], none⟩,
  ⟨(some 16), .mv (.t 1), none⟩,
  ⟨(some 17), .bin .mul (.t 15) (.t 16), none⟩,
  ⟨(some 18), .call (.z 1) 31 [(.t 17), (.c (.one (.sc (.int .i64 65536))))], none⟩,
  ⟨(some 19), .bin .add (.t 13) (.t 18), none⟩,
  ⟨(some 20), .fadr 1 (.t 2), none⟩,
  ⟨(some 21), .load1 (.t 20), none⟩,
  ⟨(some 22), .mv (.t 6), none⟩,
  ⟨(some 23), .bin .add (.t 22) (.c (.one (.sc (.int .i64 12)))), none⟩,
  ⟨(some 24), .call (.z 1) 32 [(.t 23)], none⟩,
  ⟨(some 25), .mv (.t 1), none⟩,
  ⟨(some 26), .bin .mul (.t 24) (.t 25), none⟩,
  ⟨(some 27), .call (.z 1) 31 [(.t 26), (.c (.one (.sc (.int .i64 65536))))], none⟩,
  ⟨(some 28), .bin .add (.t 21) (.t 27), none⟩,
  ⟨(some 29), .build [.sc (.int .i64 0), .sc (.int .i64 0)] [(0, 1, (.t 19)), (1, 1, (.t 28))], none⟩,
  ⟨(some 30), .bslice [.sc (.int .i64 0), .sc (.int .i64 0)] 1 2 [(0, 2, (.t 29))], none⟩,
  ⟨(some 31), .app 2 16 (.t 11) (.t 30), none⟩,
  ⟨(some 5), .mv (.t 31), none⟩]
def r11_4 : List SOper := [
  ⟨(some 9), .mv (.t 6), none⟩,
  ⟨(some 10), .bin .add (.t 9) (.c (.one (.sc (.int .i64 1)))), none⟩,
  ⟨(some 6), .mv (.t 10), none⟩]
def l11_0 : SC := (.seq (.seq (.reg r11_3) (.cond (.t 8) .skip (.exit 0))) (.seq (.block 1 (.reg r11_5)) (.reg r11_4)))
def r11_6 : List SOper := [
  ⟨(some 32), .mv (.t 5), none⟩,
  ⟨(some 4), .mv (.t 32), none⟩]
def c11 : SC := (.seq (.reg r11_0) (.seq (.reg r11_1) (.seq (.seq (.reg r11_2) (.block 0 (.loop l11_0))) (.seq (.reg r11_6) .ret))))
/-- limner/limnerref07.Disc -/
def F11 : SFun := ⟨33, c11, [.tmp 4]⟩

def r12_0 : List SOper := [
  ⟨(some 1), .box (.t 0), none⟩,
  ⟨(some 2), .alloc [.sc (.int .i64 0), .sc (.int .i64 0)], none⟩]
def r12_1 : List SOper := [
  ⟨(some 3), .fadr 0 (.t 1), none⟩,
  ⟨(some 4), .load1 (.t 3), none⟩,
  ⟨(some 5), .fadr 1 (.t 1), none⟩,
  ⟨(some 6), .load1 (.t 5), none⟩,
  ⟨(some 7), .build [.sc (.int .i64 0), .sc (.int .i64 0)] [(0, 1, (.t 4)), (1, 1, (.t 6))], none⟩,
  ⟨none, .store 2 (.t 2) (.t 7), none⟩]
def c12 : SC := (.seq (.reg r12_0) (.seq (.reg r12_1) .ret))
/-- limner/limnerlaw07.ref -/
def F12 : SFun := ⟨8, c12, [.cellA 2 2]⟩

def r13_0 : List SOper := [
  ⟨(some 2), .mv (.c (.one (.sc (.bool false)))), none⟩]
def r13_1 : List SOper := [
  ⟨(some 3), .mv (.c (.one (.sc (.int .i64 0)))), none⟩]
def r13_2 : List SOper := [
  ⟨(some 4), .mv (.t 3), none⟩,
  ⟨(some 5), .mv (.t 0), none⟩,
  ⟨(some 6), .len (.t 5), none⟩,
  ⟨(some 7), .bin .lss (.t 4) (.t 6), none⟩]
def r13_4 : List SOper := [
  ⟨(some 10), .mv (.t 0), none⟩,
  ⟨(some 11), .mv (.t 3), none⟩,
  ⟨(some 12), .iadrS 2 (.t 10) (.t 11), none⟩,
  ⟨(some 13), .fadr 0 (.t 12), none⟩,
  ⟨(some 14), .load1 (.t 13), none⟩,
  ⟨(some 15), .call (.z 1) 30 [(.t 14)], none⟩,
  ⟨(some 16), .un .not (.t 15), none⟩,
  ⟨(some 17), .mv (.t 16), none⟩,
  ⟨(some 18), .mv (.t 0), (some (some 17, false))⟩,
  ⟨(some 19), .mv (.t 3), (some (some 17, false))⟩,
  ⟨(some 20), .iadrS 2 (.t 18) (.t 19), (some (some 17, false))⟩,
  ⟨(some 21), .fadr 1 (.t 20), (some (some 17, false))⟩,
  ⟨(some 22), .load1 (.t 21), (some (some 17, false))⟩,
  ⟨(some 23), .call (.z 1) 30 [(.t 22)], (some (some 17, false))⟩,
  ⟨(some 24), .un .not (.t 23), (some (some 17, false))⟩,
  ⟨(some 25), .pick (.t 17) (.c (.one (.sc (.bool true)))) (.t 24), none⟩]
def r13_5 : List SOper := [
  ⟨(some 2), .mv (.c (.one (.sc (.bool false)))), none⟩]
def r13_3 : List SOper := [
  ⟨(some 8), .mv (.t 3), none⟩,
  ⟨(some 9), .bin .add (.t 8) (.c (.one (.sc (.int .i64 1)))), none⟩,
  ⟨(some 3), .mv (.t 9), none⟩]
def l13_0 : SC := (.seq (.seq (.reg r13_2) (.cond (.t 7) .skip (.exit 0))) (.seq (.block 1 (.seq (.reg r13_4) (.cond (.t 25) (.seq (.reg r13_5) .ret) .skip))) (.reg r13_3)))
def r13_6 : List SOper := [
  ⟨(some 2), .mv (.c (.one (.sc (.bool true)))), none⟩]
def c13 : SC := (.seq (.reg r13_0) (.seq (.seq (.reg r13_1) (.block 0 (.loop l13_0))) (.seq (.reg r13_6) .ret)))
/-- limner/limnerref07.In -/
def F13 : SFun := ⟨26, c13, [.tmp 2]⟩

def r14_0 : List SOper := [
  ⟨(some 4), .mv (.c (.one (.sc (.bool false)))), none⟩]
def r14_1 : List SOper := [
  ⟨(some 6), .mv (.t 0), none⟩,
  ⟨(some 7), .len (.t 6), none⟩,
  ⟨(some 8), .mv (.t 1), none⟩,
  ⟨(some 9), .len (.t 8), none⟩,
  ⟨(some 10), .bin .neq (.t 7) (.t 9), none⟩]
def r14_2 : List SOper := [
  ⟨(some 4), .mv (.c (.one (.sc (.bool false)))), none⟩]
def r14_3 : List SOper := [
  ⟨(some 11), .mv (.t 0), none⟩,
  ⟨(some 12), .len (.t 11), none⟩,
  ⟨(some 13), .mv (.c (.one (.sc (.int .i64 0)))), none⟩]
def r14_4 : List SOper := [
  ⟨(some 14), .bin .lss (.t 13) (.t 12), none⟩]
def r14_5 : List SOper := [
  ⟨(some 15), .mv (.t 13), none⟩,
  ⟨(some 5), .mv (.t 15), none⟩]
def r14_6 : List SOper := [
  ⟨(some 16), .mv (.t 0), none⟩,
  ⟨(some 17), .mv (.t 5), none⟩,
  ⟨(some 18), .iadrS 2 (.t 16) (.t 17), none⟩,
  ⟨(some 19), .fadr 0 (.t 18), none⟩,
  ⟨(some 20), .load1 (.t 19), none⟩,
  ⟨(some 21), .mv (.t 1), none⟩,
  ⟨(some 22), .mv (.t 5), none⟩,
  ⟨(some 23), .iadrS 2 (.t 21) (.t 22), none⟩,
  ⟨(some 24), .fadr 0 (.t 23), none⟩,
  ⟨(some 25), .load1 (.t 24), none⟩,
  ⟨(some 26), .bin .neq (.t 20) (.t 25), none⟩,
  ⟨(some 27), .mv (.t 26), none⟩,
  ⟨(some 28), .mv (.t 0), (some (some 27, false))⟩,
  ⟨(some 29), .mv (.t 5), (some (some 27, false))⟩,
  ⟨(some 30), .iadrS 2 (.t 28) (.t 29), (some (some 27, false))⟩,
  ⟨(some 31), .fadr 1 (.t 30), (some (some 27, false))⟩,
  ⟨(some 32), .load1 (.t 31), (some (some 27, false))⟩,
  ⟨(some 33), .mv (.t 1), (some (some 27, false))⟩,
  ⟨(some 34), .mv (.t 5), (some (some 27, false))⟩,
  ⟨(some 35), .iadrS 2 (.t 33) (.t 34), (some (some 27, false))⟩,
  ⟨(some 36), .fadr 1 (.t 35), (some (some 27, false))⟩,
  ⟨(some 37), .load1 (.t 36), (some (some 27, false))⟩,
  ⟨(some 38), .bin .neq (.t 32) (.t 37), (some (some 27, false))⟩,
  ⟨(some 39), .pick (.t 27) (.c (.one (.sc (.bool true)))) (.t 38), none⟩]
def r14_7 : List SOper := [
  ⟨(some 4), .mv (.c (.one (.sc (.bool false)))), none⟩]
def r14_8 : List SOper := [
  ⟨(some 40), .bin .add (.t 13) (.c (.one (.sc (.int .i64 1)))), none⟩,
  ⟨(some 13), .mv (.t 40), none⟩]
def l14_0 : SC := (.seq (.reg r14_4) (.seq (.cond (.t 14) .skip (.exit 0)) (.seq (.block 1 (.seq (.reg r14_5) (.seq (.reg r14_6) (.cond (.t 39) (.seq (.reg r14_7) .ret) .skip)))) (.reg r14_8))))
def r14_9 : List SOper := [
  ⟨(some 4), .mv (.c (.one (.sc (.bool true)))), none⟩]
def c14 : SC := (.seq (.reg r14_0) (.seq (.seq (.reg r14_1) (.cond (.t 10) (.seq (.reg r14_2) .ret) .skip)) (.seq (.seq (.reg r14_3) (.block 0 (.loop l14_0))) (.seq (.reg r14_9) .ret))))
/-- limner/limnerlaw07.same -/
def F14 : SFun := ⟨41, c14, [.tmp 4]⟩

def r15_0 : List SOper := [
  ⟨(some 4), .alloc [.sc (.int .i64 0), .sc (.int .i64 0)], none⟩]
def r15_1 : List SOper := [
  ⟨(some 5), .mv (.t 0), none⟩,
  ⟨(some 6), .mv (.t 1), none⟩,
  ⟨(some 7), .build [.sc (.int .i64 0), .sc (.int .i64 0)] [(0, 1, (.t 5)), (1, 1, (.t 6))], none⟩,
  ⟨none, .store 2 (.t 4) (.t 7), none⟩]
def c15 : SC := (.seq (.reg r15_0) (.seq (.reg r15_1) .ret))
/-- limner/limnerlaw07.at -/
def F15 : SFun := ⟨8, c15, [.cellA 4 2]⟩

def r16_0 : List SOper := [
  ⟨(some 2), .mv (.c (.one (.sc (.slice none 0 0)))), none⟩]
def r16_1 : List SOper := [
  ⟨(some 3), .mv (.c (.one (.sc (.slice none 0 0)))), none⟩]
def r16_2 : List SOper := [
  ⟨(some 6), .mv (.t 0), none⟩,
  ⟨(some 7), .len (.t 6), none⟩,
  ⟨(some 8), .mv (.c (.one (.sc (.int .i64 0)))), none⟩]
def r16_3 : List SOper := [
  ⟨(some 9), .bin .lss (.t 8) (.t 7), none⟩]
def r16_4 : List SOper := [
  ⟨(some 10), .iadrS 2 (.t 6) (.t 8), none⟩,
  ⟨(some 11), .loadA 2 (.t 10), none⟩,
  ⟨(some 5), .alloc [.sc (.int .i64 0), .sc (.int .i64 0)], none⟩,
  ⟨none, .store 2 (.t 5) (.t 11), none⟩]
def r16_5 : List SOper := [
  ⟨(some 12), .mv (.t 3), none⟩,
  ⟨(some 13), .loadA 2 (.t 5), none⟩,
  ⟨(some 14), .call (.z 1) 12 [(.t 13)], none⟩,
  ⟨(some 15), .bslice [.sc (.int .i64 0), .sc (.int .i64 0)] 1 2 [(0, 2, (.t 14))], none⟩,
  ⟨(some 16), .app 2 16 (.t 12) (.t 15), none⟩,
  ⟨(some 3), .mv (.t 16), none⟩]
def r16_6 : List SOper := [
  ⟨(some 17), .bin .add (.t 8) (.c (.one (.sc (.int .i64 1)))), none⟩,
  ⟨(some 8), .mv (.t 17), none⟩]
def l16_0 : SC := (.seq (.reg r16_3) (.seq (.cond (.t 9) .skip (.exit 0)) (.seq (.block 1 (.seq (.reg r16_4) (.reg r16_5))) (.reg r16_6))))
def r16_7 : List SOper := [
  ⟨(some 18), .mv (.t 3), none⟩,
  ⟨(some 2), .mv (.t 18), none⟩]
def c16 : SC := (.seq (.reg r16_0) (.seq (.reg r16_1) (.seq (.seq (.reg r16_2) (.block 0 (.loop l16_0))) (.seq (.reg r16_7) .ret))))
/-- limner/limnerlaw07.refs -/
def F16 : SFun := ⟨19, c16, [.tmp 2]⟩

def r17_0 : List SOper := [
  ⟨(some 3), .box (.t 0), none⟩,
  ⟨(some 6), .mv (.c (.one (.sc (.slice none 0 0)))), none⟩,
  ⟨(some 7), .mv (.c (.one (.sc (.int .i64 0)))), none⟩]
def r17_1 : List SOper := [
  ⟨(some 13), .mv (.t 1), none⟩,
  ⟨(some 14), .call (.z 1) 25 [(.t 13)], none⟩,
  ⟨(some 15), .un .not (.t 14), none⟩,
  ⟨(some 16), .mv (.t 15), none⟩,
  ⟨(some 17), .mv (.t 2), (some (some 16, false))⟩,
  ⟨(some 18), .bin .lss (.t 17) (.c (.one (.sc (.int .i64 0)))), (some (some 16, false))⟩,
  ⟨(some 19), .pick (.t 16) (.c (.one (.sc (.bool true)))) (.t 18), none⟩,
  ⟨(some 20), .mv (.t 19), none⟩,
  ⟨(some 21), .mv (.t 2), (some (some 20, false))⟩,
  ⟨(some 22), .bin .gtr (.t 21) (.c (.one (.sc (.int .i64 2)))), (some (some 20, false))⟩,
  ⟨(some 23), .pick (.t 20) (.c (.one (.sc (.bool true)))) (.t 22), none⟩,
  ⟨(some 24), .mv (.t 23), none⟩,
  ⟨(some 25), .fadr 0 (.t 3), (some (some 24, false))⟩,
  ⟨(some 26), .load1 (.t 25), (some (some 24, false))⟩,
  ⟨(some 27), .call .q 33 [(.t 26), (.f 34)], (some (some 24, false))⟩,
  ⟨(some 28), .pick (.t 24) (.c (.one (.sc (.bool true)))) (.t 27), none⟩]
def r17_2 : List SOper := [
  ⟨(some 6), .mv (.c (.one (.sc (.slice none 0 0)))), none⟩,
  ⟨(some 7), .mv (.c (.one (.sc (.int .i64 30)))), none⟩]
def r17_3 : List SOper := [
  ⟨(some 29), .fadr 0 (.t 3), none⟩,
  ⟨(some 30), .load1 (.t 29), none⟩,
  ⟨(some 31), .call .k 36 [(.t 30)], none⟩,
  ⟨(some 32), .call .w 35 [(.t 31)], none⟩,
  ⟨(some 8), .mv (.t 32), none⟩]
def r17_4 : List SOper := [
  ⟨(some 33), .fadr 1 (.t 3), none⟩,
  ⟨(some 34), .load1 (.t 33), none⟩,
  ⟨(some 35), .mv (.t 34), none⟩,
  ⟨(some 36), .mv (.t 8), (some (some 35, true))⟩,
  ⟨(some 37), .len (.t 36), (some (some 35, true))⟩,
  ⟨(some 38), .bin .gtr (.t 37) (.c (.one (.sc (.int .i64 1)))), (some (some 35, true))⟩,
  ⟨(some 39), .pick (.t 35) (.t 38) (.c (.one (.sc (.bool false)))), none⟩,
  ⟨(some 40), .mv (.t 39), none⟩,
  ⟨(some 41), .mv (.t 8), (some (some 40, true))⟩,
  ⟨(some 42), .mv (.t 8), (some (some 40, true))⟩,
  ⟨(some 43), .len (.t 42), (some (some 40, true))⟩,
  ⟨(some 44), .bin .sub (.t 43) (.c (.one (.sc (.int .i64 1)))), (some (some 40, true))⟩,
  ⟨(some 45), .iadrS 2 (.t 41) (.t 44), (some (some 40, true))⟩,
  ⟨(some 46), .loadA 2 (.t 45), (some (some 40, true))⟩,
  ⟨(some 47), .mv (.t 8), (some (some 40, true))⟩,
  ⟨(some 48), .iadrS 2 (.t 47) (.c (.one (.sc (.int .i64 0)))), (some (some 40, true))⟩,
  ⟨(some 49), .loadA 2 (.t 48), (some (some 40, true))⟩,
  ⟨(some 50), .eqv [.i, .i] false (.t 46) (.t 49), (some (some 40, true))⟩,
  ⟨(some 51), .pick (.t 40) (.t 50) (.c (.one (.sc (.bool false)))), none⟩]
def r17_5 : List SOper := [
  ⟨(some 52), .mv (.t 8), none⟩,
  ⟨(some 53), .mv (.t 8), none⟩,
  ⟨(some 54), .len (.t 53), none⟩,
  ⟨(some 55), .bin .sub (.t 54) (.c (.one (.sc (.int .i64 1)))), none⟩,
  ⟨(some 56), .slS 2 (.t 52) none (some (.t 55)) none, none⟩,
  ⟨(some 8), .mv (.t 56), none⟩]
def l17_0 : SC := (.seq (.seq (.reg r17_4) (.cond (.t 51) .skip (.exit 0))) (.block 1 (.reg r17_5)))
def r17_6 : List SOper := [
  ⟨(some 57), .mv (.t 1), none⟩,
  ⟨(some 58), .build [.sc (.int .i64 0), .sc (.slice none 0 0), .sc (.int .i64 0)] [(0, 1, (.t 57))], none⟩,
  ⟨(some 59), .box (.t 58), none⟩,
  ⟨(some 9), .mv (.t 59), none⟩]
def r17_7 : List SOper := [
  ⟨(some 60), .mv (.t 8), none⟩,
  ⟨(some 61), .len (.t 60), none⟩,
  ⟨(some 62), .bin .sub (.t 61) (.c (.one (.sc (.int .i64 1)))), none⟩,
  ⟨(some 10), .mv (.t 62), none⟩]
def r17_8 : List SOper := [
  ⟨(some 64), .mv (.t 10), none⟩,
  ⟨(some 65), .bin .lss (.t 64) (.c (.one (.sc (.int .i64 0)))), none⟩,
  ⟨(some 63), .mv (.t 65), none⟩]
def r17_9 : List SOper := [
  ⟨(some 67), .mv (.t 10), none⟩,
  ⟨(some 68), .bin .eql (.t 67) (.c (.one (.sc (.int .i64 0)))), none⟩,
  ⟨(some 69), .mv (.t 68), none⟩,
  ⟨(some 70), .mv (.t 2), (some (some 69, true))⟩,
  ⟨(some 71), .bin .eql (.t 70) (.c (.one (.sc (.int .i64 1)))), (some (some 69, true))⟩,
  ⟨(some 72), .pick (.t 69) (.t 71) (.c (.one (.sc (.bool false)))), none⟩,
  ⟨(some 66), .mv (.t 72), none⟩]
def r17_10 : List SOper := [
  ⟨(some 73), .mv (.t 9), none⟩,
  ⟨(some 74), .mv (.t 8), none⟩,
  ⟨(some 75), .iadrS 2 (.t 74) (.c (.one (.sc (.int .i64 0)))), none⟩,
  ⟨(some 76), .loadA 2 (.t 75), none⟩,
  ⟨(some 77), .mv (.t 1), none⟩,
  ⟨(some 78), .call .k 8 [(.t 76), (.t 77)], none⟩,
  ⟨(some 79), .ext (.t 78) 0, none⟩,
  ⟨(some 80), .ext (.t 78) 1, none⟩,
  ⟨(some 81), .call .w 37 [(.t 73), (.t 79), (.t 80)], none⟩]
def r17_11 : List SOper := [
  ⟨(some 83), .mv (.t 10), none⟩,
  ⟨(some 84), .bin .eql (.t 83) (.c (.one (.sc (.int .i64 0)))), none⟩,
  ⟨(some 85), .mv (.t 84), none⟩,
  ⟨(some 86), .mv (.t 2), (some (some 85, true))⟩,
  ⟨(some 87), .bin .eql (.t 86) (.c (.one (.sc (.int .i64 2)))), (some (some 85, true))⟩,
  ⟨(some 88), .pick (.t 85) (.t 87) (.c (.one (.sc (.bool false)))), none⟩,
  ⟨(some 82), .mv (.t 88), none⟩]
def r17_12 : List SOper := [
  ⟨(some 89), .mv (.t 1), none⟩,
  ⟨(some 90), .mv (.t 1), none⟩,
  ⟨(some 91), .build [.sc (.int .i64 0), .sc (.int .i64 0)] [(0, 1, (.t 89)), (1, 1, (.t 90))], none⟩,
  ⟨(some 92), .mv (.t 1), none⟩,
  ⟨(some 93), .mv (.t 1), none⟩,
  ⟨(some 94), .un .neg (.t 93), none⟩,
  ⟨(some 95), .build [.sc (.int .i64 0), .sc (.int .i64 0)] [(0, 1, (.t 92)), (1, 1, (.t 94))], none⟩,
  ⟨(some 11), .alloc [.sc (.int .i64 0), .sc (.int .i64 0)], none⟩,
  ⟨(some 12), .alloc [.sc (.int .i64 0), .sc (.int .i64 0)], none⟩,
  ⟨none, .store 2 (.t 11) (.t 91), none⟩,
  ⟨none, .store 2 (.t 12) (.t 95), none⟩]
def r17_13 : List SOper := [
  ⟨(some 96), .mv (.t 9), none⟩,
  ⟨(some 97), .mv (.t 8), none⟩,
  ⟨(some 98), .iadrS 2 (.t 97) (.c (.one (.sc (.int .i64 0)))), none⟩,
  ⟨(some 99), .loadA 2 (.t 98), none⟩,
  ⟨(some 100), .loadA 2 (.t 11), none⟩,
  ⟨(some 101), .call (.z 1) 38 [(.t 99), (.t 100)], none⟩,
  ⟨(some 102), .mv (.t 8), none⟩,
  ⟨(some 103), .iadrS 2 (.t 102) (.c (.one (.sc (.int .i64 0)))), none⟩,
  ⟨(some 104), .loadA 2 (.t 103), none⟩,
  ⟨(some 105), .loadA 2 (.t 12), none⟩,
  ⟨(some 106), .call (.z 1) 27 [(.t 104), (.t 105)], none⟩,
  ⟨(some 107), .mv (.t 8), none⟩,
  ⟨(some 108), .iadrS 2 (.t 107) (.c (.one (.sc (.int .i64 0)))), none⟩,
  ⟨(some 109), .loadA 2 (.t 108), none⟩,
  ⟨(some 110), .loadA 2 (.t 11), none⟩,
  ⟨(some 111), .call (.z 1) 27 [(.t 109), (.t 110)], none⟩,
  ⟨(some 112), .mv (.t 8), none⟩,
  ⟨(some 113), .iadrS 2 (.t 112) (.c (.one (.sc (.int .i64 0)))), none⟩,
  ⟨(some 114), .loadA 2 (.t 113), none⟩,
  ⟨(some 115), .loadA 2 (.t 12), none⟩,
  ⟨(some 116), .call (.z 1) 38 [(.t 114), (.t 115)], none⟩,
  ⟨(some 117), .bslice [.sc (.int .i64 0), .sc (.int .i64 0), .sc (.int .i64 0), .sc (.int .i64 0), .sc (.int .i64 0), .sc (.int .i64 0), .sc (.int .i64 0), .sc (.int .i64 0)] 4 2 [(0, 2, (.t 101)), (2, 2, (.t 106)), (4, 2, (.t 111)), (6, 2, (.t 116))], none⟩,
  ⟨(some 118), .call .k 29 [(.t 117)], none⟩,
  ⟨(some 119), .ext (.t 118) 0, none⟩,
  ⟨(some 120), .ext (.t 118) 1, none⟩,
  ⟨(some 121), .call .w 37 [(.t 96), (.t 119), (.t 120)], none⟩]
def r17_14 : List SOper := [
  ⟨(some 123), .mv (.t 10), none⟩,
  ⟨(some 124), .bin .gtr (.t 123) (.c (.one (.sc (.int .i64 0)))), none⟩,
  ⟨(some 122), .mv (.t 124), none⟩]
def r17_15 : List SOper := [
  ⟨(some 125), .mv (.t 9), none⟩,
  ⟨(some 126), .mv (.t 8), none⟩,
  ⟨(some 127), .fadr 1 (.t 3), none⟩,
  ⟨(some 128), .load1 (.t 127), none⟩,
  ⟨(some 129), .call .w 39 [(.t 125), (.t 126), (.t 128)], none⟩]
def r17_16 : List SOper := [
  ⟨(some 131), .fadr 1 (.t 3), none⟩,
  ⟨(some 132), .load1 (.t 131), none⟩,
  ⟨(some 130), .mv (.t 132), none⟩]
def r17_17 : List SOper := [
  ⟨(some 134), .mv (.t 2), none⟩,
  ⟨(some 135), .bin .eql (.t 134) (.c (.one (.sc (.int .i64 1)))), none⟩,
  ⟨(some 133), .mv (.t 135), none⟩]
def r17_18 : List SOper := [
  ⟨(some 136), .mv (.t 9), none⟩,
  ⟨(some 137), .mv (.t 8), none⟩,
  ⟨(some 138), .iadrS 2 (.t 137) (.c (.one (.sc (.int .i64 0)))), none⟩,
  ⟨(some 139), .loadA 2 (.t 138), none⟩,
  ⟨(some 140), .mv (.t 1), none⟩,
  ⟨(some 141), .call .k 8 [(.t 139), (.t 140)], none⟩,
  ⟨(some 142), .ext (.t 141) 0, none⟩,
  ⟨(some 143), .ext (.t 141) 1, none⟩,
  ⟨(some 144), .call .w 37 [(.t 136), (.t 142), (.t 143)], none⟩]
def r17_19 : List SOper := [
  ⟨(some 145), .mv (.t 9), none⟩,
  ⟨(some 146), .mv (.t 8), none⟩,
  ⟨(some 147), .mv (.t 10), none⟩,
  ⟨(some 148), .iadrS 2 (.t 146) (.t 147), none⟩,
  ⟨(some 149), .loadA 2 (.t 148), none⟩,
  ⟨(some 150), .mv (.t 1), none⟩,
  ⟨(some 151), .call .k 8 [(.t 149), (.t 150)], none⟩,
  ⟨(some 152), .ext (.t 151) 0, none⟩,
  ⟨(some 153), .ext (.t 151) 1, none⟩,
  ⟨(some 154), .call .w 37 [(.t 145), (.t 152), (.t 153)], none⟩]
def r17_20 : List SOper := [
  ⟨(some 156), .mv (.t 2), none⟩,
  ⟨(some 157), .bin .eql (.t 156) (.c (.one (.sc (.int .i64 2)))), none⟩,
  ⟨(some 158), .mv (.t 157), none⟩,
  ⟨(some 159), .mv (.t 9), (some (some 158, true))⟩,
  ⟨(some 160), .nilchk (.t 159), (some (some 158, true))⟩,
  ⟨(some 161), .fadr 2 (.t 160), (some (some 158, true))⟩,
  ⟨(some 162), .load1 (.t 161), (some (some 158, true))⟩,
  ⟨(some 163), .bin .eql (.t 162) (.c (.one (.sc (.int .i64 0)))), (some (some 158, true))⟩,
  ⟨(some 164), .pick (.t 158) (.t 163) (.c (.one (.sc (.bool false)))), none⟩,
  ⟨(some 155), .mv (.t 164), none⟩]
def r17_21 : List SOper := [
  ⟨(some 165), .mv (.t 9), none⟩,
  ⟨(some 166), .mv (.t 8), none⟩,
  ⟨(some 167), .iadrS 2 (.t 166) (.c (.one (.sc (.int .i64 0)))), none⟩,
  ⟨(some 168), .loadA 2 (.t 167), none⟩,
  ⟨(some 169), .mv (.t 8), none⟩,
  ⟨(some 170), .iadrS 2 (.t 169) (.c (.one (.sc (.int .i64 1)))), none⟩,
  ⟨(some 171), .loadA 2 (.t 170), none⟩,
  ⟨(some 172), .mv (.t 8), none⟩,
  ⟨(some 173), .mv (.t 10), none⟩,
  ⟨(some 174), .bin .sub (.t 173) (.c (.one (.sc (.int .i64 1)))), none⟩,
  ⟨(some 175), .iadrS 2 (.t 172) (.t 174), none⟩,
  ⟨(some 176), .loadA 2 (.t 175), none⟩,
  ⟨(some 177), .mv (.t 8), none⟩,
  ⟨(some 178), .mv (.t 10), none⟩,
  ⟨(some 179), .iadrS 2 (.t 177) (.t 178), none⟩,
  ⟨(some 180), .loadA 2 (.t 179), none⟩,
  ⟨(some 181), .call .w 40 [(.t 165), (.t 168), (.t 171), (.t 176), (.t 180)], none⟩]
def r17_22 : List SOper := [
  ⟨(some 182), .mv (.t 9), none⟩,
  ⟨(some 183), .nilchk (.t 182), none⟩,
  ⟨(some 184), .fadr 2 (.t 183), none⟩,
  ⟨(some 185), .load1 (.t 184), none⟩,
  ⟨(some 186), .bin .neq (.t 185) (.c (.one (.sc (.int .i64 0)))), none⟩]
def r17_23 : List SOper := [
  ⟨(some 187), .mv (.t 9), none⟩,
  ⟨(some 188), .nilchk (.t 187), none⟩,
  ⟨(some 189), .fadr 2 (.t 188), none⟩,
  ⟨(some 190), .load1 (.t 189), none⟩,
  ⟨(some 6), .mv (.c (.one (.sc (.slice none 0 0)))), none⟩,
  ⟨(some 7), .mv (.t 190), none⟩]
def r17_24 : List SOper := [
  ⟨(some 191), .mv (.t 9), none⟩,
  ⟨(some 192), .nilchk (.t 191), none⟩,
  ⟨(some 193), .fadr 1 (.t 192), none⟩,
  ⟨(some 194), .load1 (.t 193), none⟩,
  ⟨(some 6), .mv (.t 194), none⟩,
  ⟨(some 7), .mv (.c (.one (.sc (.int .i64 0)))), none⟩]
def c17 : SC := (.seq (.reg r17_0) (.seq (.seq (.reg r17_1) (.cond (.t 28) (.seq (.reg r17_2) .ret) .skip)) (.seq (.reg r17_3) (.seq (.block 0 (.loop l17_0)) (.seq (.reg r17_6) (.seq (.seq (.reg r17_7) (.block 2 (.seq (.reg r17_8) (.cond (.t 63) .skip (.seq (.reg r17_9) (.cond (.t 66) (.reg r17_10) (.seq (.reg r17_11) (.cond (.t 82) (.seq (.reg r17_12) (.reg r17_13)) (.seq (.reg r17_14) (.cond (.t 122) (.seq (.reg r17_15) (.block 3 (.seq (.reg r17_16) (.cond (.t 130) .skip (.seq (.reg r17_17) (.cond (.t 133) (.seq (.reg r17_18) (.reg r17_19)) (.seq (.reg r17_20) (.cond (.t 155) (.reg r17_21) .skip)))))))) .skip)))))))))) (.seq (.seq (.reg r17_22) (.cond (.t 186) (.seq (.reg r17_23) .ret) .skip)) (.seq (.reg r17_24) .ret))))))))
/-- limner/stroke.Stroke -/
def F17 : SFun := ⟨195, c17, [.tmp 6, .tmp 7]⟩

def r18_0 : List SOper := [
  ⟨(some 8), .mv (.c (.one (.sc (.slice none 0 0)))), none⟩,
  ⟨(some 9), .mv (.c (.one (.sc (.bool false)))), none⟩]
def r18_1 : List SOper := [
  ⟨(some 17), .mv (.t 0), none⟩,
  ⟨(some 18), .mv (.t 1), none⟩,
  ⟨(some 19), .call .k 41 [(.t 17), (.t 18)], none⟩,
  ⟨(some 0), .mv (.t 19), none⟩]
def r18_2 : List SOper := [
  ⟨(some 10), .mv (.c (.one (.sc (.slice none 0 0)))), none⟩]
def r18_3 : List SOper := [
  ⟨(some 20), .mv (.t 0), none⟩,
  ⟨(some 21), .len (.t 20), none⟩,
  ⟨(some 11), .mv (.t 21), none⟩]
def r18_4 : List SOper := [
  ⟨(some 22), .mv (.t 11), none⟩,
  ⟨(some 23), .bin .eql (.t 22) (.c (.one (.sc (.int .i64 1)))), none⟩,
  ⟨(some 24), .mv (.t 23), none⟩,
  ⟨(some 25), .mv (.t 3), (some (some 24, true))⟩,
  ⟨(some 26), .bin .eql (.t 25) (.c (.one (.sc (.int .i64 1)))), (some (some 24, true))⟩,
  ⟨(some 27), .pick (.t 24) (.t 26) (.c (.one (.sc (.bool false)))), none⟩]
def r18_5 : List SOper := [
  ⟨(some 28), .mv (.t 10), none⟩,
  ⟨(some 29), .mv (.t 0), none⟩,
  ⟨(some 30), .iadrS 2 (.t 29) (.c (.one (.sc (.int .i64 0)))), none⟩,
  ⟨(some 31), .loadA 2 (.t 30), none⟩,
  ⟨(some 32), .mv (.t 2), none⟩,
  ⟨(some 33), .call .k 11 [(.t 31), (.t 32)], none⟩,
  ⟨(some 34), .bslice [.sc (.slice none 0 0)] 1 1 [(0, 1, (.t 33))], none⟩,
  ⟨(some 35), .app 1 24 (.t 28) (.t 34), none⟩,
  ⟨(some 10), .mv (.t 35), none⟩]
def r18_6 : List SOper := [
  ⟨(some 36), .mv (.t 11), none⟩,
  ⟨(some 37), .bin .eql (.t 36) (.c (.one (.sc (.int .i64 1)))), none⟩,
  ⟨(some 38), .mv (.t 37), none⟩,
  ⟨(some 39), .mv (.t 3), (some (some 38, true))⟩,
  ⟨(some 40), .bin .eql (.t 39) (.c (.one (.sc (.int .i64 2)))), (some (some 38, true))⟩,
  ⟨(some 41), .pick (.t 38) (.t 40) (.c (.one (.sc (.bool false)))), none⟩]
def r18_7 : List SOper := [
  ⟨(some 42), .mv (.t 0), none⟩,
  ⟨(some 43), .iadrS 2 (.t 42) (.c (.one (.sc (.int .i64 0)))), none⟩,
  ⟨(some 44), .loadA 2 (.t 43), none⟩,
  ⟨(some 12), .alloc [.sc (.int .i64 0), .sc (.int .i64 0)], none⟩,
  ⟨none, .store 2 (.t 12) (.t 44), none⟩]
def r18_8 : List SOper := [
  ⟨(some 45), .mv (.t 10), none⟩,
  ⟨(some 46), .fadr 0 (.t 12), none⟩,
  ⟨(some 47), .load1 (.t 46), none⟩,
  ⟨(some 48), .mv (.t 2), none⟩,
  ⟨(some 49), .bin .sub (.t 47) (.t 48), none⟩,
  ⟨(some 50), .fadr 1 (.t 12), none⟩,
  ⟨(some 51), .load1 (.t 50), none⟩,
  ⟨(some 52), .mv (.t 2), none⟩,
  ⟨(some 53), .bin .sub (.t 51) (.t 52), none⟩,
  ⟨(some 54), .build [.sc (.int .i64 0), .sc (.int .i64 0)] [(0, 1, (.t 49)), (1, 1, (.t 53))], none⟩,
  ⟨(some 55), .fadr 0 (.t 12), none⟩,
  ⟨(some 56), .load1 (.t 55), none⟩,
  ⟨(some 57), .mv (.t 2), none⟩,
  ⟨(some 58), .bin .add (.t 56) (.t 57), none⟩,
  ⟨(some 59), .fadr 1 (.t 12), none⟩,
  ⟨(some 60), .load1 (.t 59), none⟩,
  ⟨(some 61), .mv (.t 2), none⟩,
  ⟨(some 62), .bin .sub (.t 60) (.t 61), none⟩,
  ⟨(some 63), .build [.sc (.int .i64 0), .sc (.int .i64 0)] [(0, 1, (.t 58)), (1, 1, (.t 62))], none⟩,
  ⟨(some 64), .fadr 0 (.t 12), none⟩,
  ⟨(some 65), .load1 (.t 64), none⟩,
  ⟨(some 66), .mv (.t 2), none⟩,
  ⟨(some 67), .bin .add (.t 65) (.t 66), none⟩,
  ⟨(some 68), .fadr 1 (.t 12), none⟩,
  ⟨(some 69), .load1 (.t 68), none⟩,
  ⟨(some 70), .mv (.t 2), none⟩,
  ⟨(some 71), .bin .add (.t 69) (.t 70), none⟩,
  ⟨(some 72), .build [.sc (.int .i64 0), .sc (.int .i64 0)] [(0, 1, (.t 67)), (1, 1, (.t 71))], none⟩,
  ⟨(some 73), .fadr 0 (.t 12), none⟩,
  ⟨(some 74), .load1 (.t 73), none⟩,
  ⟨(some 75), .mv (.t 2), none⟩,
  ⟨(some 76), .bin .sub (.t 74) (.t 75), none⟩,
  ⟨(some 77), .fadr 1 (.t 12), none⟩,
  ⟨(some 78), .load1 (.t 77), none⟩,
  ⟨(some 79), .mv (.t 2), none⟩,
  ⟨(some 80), .bin .add (.t 78) (.t 79), none⟩,
  ⟨(some 81), .build [.sc (.int .i64 0), .sc (.int .i64 0)] [(0, 1, (.t 76)), (1, 1, (.t 80))], none⟩,
  ⟨(some 82), .bslice [.sc (.int .i64 0), .sc (.int .i64 0), .sc (.int .i64 0), .sc (.int .i64 0), .sc (.int .i64 0), .sc (.int .i64 0), .sc (.int .i64 0), .sc (.int .i64 0)] 4 2 [(0, 2, (.t 54)), (2, 2, (.t 63)), (4, 2, (.t 72)), (6, 2, (.t 81))], none⟩,
  ⟨(some 83), .bslice [.sc (.slice none 0 0)] 1 1 [(0, 1, (.t 82))], none⟩,
  ⟨(some 84), .app 1 24 (.t 45) (.t 83), none⟩,
  ⟨(some 10), .mv (.t 84), none⟩]
def r18_9 : List SOper := [
  ⟨(some 13), .mv (.c (.one (.sc (.int .i64 0)))), none⟩]
def r18_10 : List SOper := [
  ⟨(some 85), .mv (.t 11), none⟩,
  ⟨(some 86), .bin .gtr (.t 85) (.c (.one (.sc (.int .i64 1)))), none⟩,
  ⟨(some 87), .mv (.t 86), none⟩,
  ⟨(some 88), .mv (.t 13), (some (some 87, true))⟩,
  ⟨(some 89), .mv (.t 11), (some (some 87, true))⟩,
  ⟨(some 90), .bin .lss (.t 88) (.t 89), (some (some 87, true))⟩,
  ⟨(some 91), .pick (.t 87) (.t 90) (.c (.one (.sc (.bool false)))), none⟩]
def r18_12 : List SOper := [
  ⟨(some 94), .mv (.t 13), none⟩,
  ⟨(some 95), .mv (.t 11), none⟩,
  ⟨(some 96), .bin .sub (.t 95) (.c (.one (.sc (.int .i64 1)))), none⟩,
  ⟨(some 97), .bin .eql (.t 94) (.t 96), none⟩,
  ⟨(some 98), .mv (.t 97), none⟩,
  ⟨(some 99), .mv (.t 1), (some (some 98, true))⟩,
  ⟨(some 100), .un .not (.t 99), (some (some 98, true))⟩,
  ⟨(some 101), .pick (.t 98) (.t 100) (.c (.one (.sc (.bool false)))), none⟩]
def r18_13 : List SOper := [
  ⟨(some 102), .mv (.t 0), none⟩,
  ⟨(some 103), .mv (.t 13), none⟩,
  ⟨(some 104), .bin .add (.t 103) (.c (.one (.sc (.int .i64 1)))), none⟩,
  ⟨(some 105), .mv (.t 11), none⟩,
  ⟨(some 106), .bin .rem (.t 104) (.t 105), none⟩,
  ⟨(some 107), .iadrS 2 (.t 102) (.t 106), none⟩,
  ⟨(some 108), .loadA 2 (.t 107), none⟩,
  ⟨(some 14), .alloc [.sc (.int .i64 0), .sc (.int .i64 0)], none⟩,
  ⟨none, .store 2 (.t 14) (.t 108), none⟩]
def r18_14 : List SOper := [
  ⟨(some 109), .mv (.t 0), none⟩,
  ⟨(some 110), .mv (.t 13), none⟩,
  ⟨(some 111), .iadrS 2 (.t 109) (.t 110), none⟩,
  ⟨(some 112), .loadA 2 (.t 111), none⟩,
  ⟨(some 113), .loadA 2 (.t 14), none⟩,
  ⟨(some 114), .call (.z 1) 42 [(.t 112), (.t 113)], none⟩]
def r18_15 : List SOper := [
  ⟨(some 8), .mv (.c (.one (.sc (.slice none 0 0)))), none⟩,
  ⟨(some 9), .mv (.c (.one (.sc (.bool false)))), none⟩]
def r18_16 : List SOper := [
  ⟨(some 115), .mv (.t 10), none⟩,
  ⟨(some 116), .mv (.t 0), none⟩,
  ⟨(some 117), .mv (.t 13), none⟩,
  ⟨(some 118), .iadrS 2 (.t 116) (.t 117), none⟩,
  ⟨(some 119), .loadA 2 (.t 118), none⟩,
  ⟨(some 120), .loadA 2 (.t 14), none⟩,
  ⟨(some 121), .mv (.t 2), none⟩,
  ⟨(some 122), .call .k 43 [(.t 119), (.t 120), (.t 121)], none⟩,
  ⟨(some 123), .bslice [.sc (.slice none 0 0)] 1 1 [(0, 1, (.t 122))], none⟩,
  ⟨(some 124), .app 1 24 (.t 115) (.t 123), none⟩,
  ⟨(some 10), .mv (.t 124), none⟩]
def r18_11 : List SOper := [
  ⟨(some 92), .mv (.t 13), none⟩,
  ⟨(some 93), .bin .add (.t 92) (.c (.one (.sc (.int .i64 1)))), none⟩,
  ⟨(some 13), .mv (.t 93), none⟩]
def l18_0 : SC := (.seq (.seq (.reg r18_10) (.cond (.t 91) .skip (.exit 0))) (.seq (.block 1 (.seq (.seq (.reg r18_12) (.cond (.t 101) (.exit 0) .skip)) (.seq (.reg r18_13) (.seq (.seq (.reg r18_14) (.cond (.t 114) (.seq (.reg r18_15) .ret) .skip)) (.reg r18_16))))) (.reg r18_11)))
def r18_17 : List SOper := [
  ⟨(some 15), .mv (.c (.one (.sc (.int .i64 0)))), none⟩]
def r18_18 : List SOper := [
  ⟨(some 125), .mv (.t 11), none⟩,
  ⟨(some 126), .bin .gtr (.t 125) (.c (.one (.sc (.int .i64 1)))), none⟩,
  ⟨(some 127), .mv (.t 126), none⟩,
  ⟨(some 128), .mv (.t 15), (some (some 127, true))⟩,
  ⟨(some 129), .mv (.t 11), (some (some 127, true))⟩,
  ⟨(some 130), .bin .lss (.t 128) (.t 129), (some (some 127, true))⟩,
  ⟨(some 131), .pick (.t 127) (.t 130) (.c (.one (.sc (.bool false)))), none⟩]
def r18_20 : List SOper := [
  ⟨(some 134), .mv (.t 1), none⟩,
  ⟨(some 135), .mv (.t 134), none⟩,
  ⟨(some 136), .mv (.t 15), (some (some 135, false))⟩,
  ⟨(some 137), .bin .gtr (.t 136) (.c (.one (.sc (.int .i64 0)))), (some (some 135, false))⟩,
  ⟨(some 138), .mv (.t 137), (some (some 135, false))⟩,
  ⟨(some 139), .mv (.t 15), (some (some 138, true))⟩,
  ⟨(some 140), .mv (.t 11), (some (some 138, true))⟩,
  ⟨(some 141), .bin .sub (.t 140) (.c (.one (.sc (.int .i64 1)))), (some (some 138, true))⟩,
  ⟨(some 142), .bin .lss (.t 139) (.t 141), (some (some 138, true))⟩,
  ⟨(some 143), .pick (.t 138) (.t 142) (.c (.one (.sc (.bool false)))), (some (some 135, false))⟩,
  ⟨(some 144), .pick (.t 135) (.c (.one (.sc (.bool true)))) (.t 143), none⟩]
def r18_21 : List SOper := [
  ⟨(some 145), .mv (.t 10), none⟩,
  ⟨(some 146), .mv (.t 0), none⟩,
  ⟨(some 147), .mv (.t 15), none⟩,
  ⟨(some 148), .iadrS 2 (.t 146) (.t 147), none⟩,
  ⟨(some 149), .loadA 2 (.t 148), none⟩,
  ⟨(some 150), .mv (.t 2), none⟩,
  ⟨(some 151), .call .k 11 [(.t 149), (.t 150)], none⟩,
  ⟨(some 152), .bslice [.sc (.slice none 0 0)] 1 1 [(0, 1, (.t 151))], none⟩,
  ⟨(some 153), .app 1 24 (.t 145) (.t 152), none⟩,
  ⟨(some 10), .mv (.t 153), none⟩]
def r18_19 : List SOper := [
  ⟨(some 132), .mv (.t 15), none⟩,
  ⟨(some 133), .bin .add (.t 132) (.c (.one (.sc (.int .i64 1)))), none⟩,
  ⟨(some 15), .mv (.t 133), none⟩]
def l18_1 : SC := (.seq (.seq (.reg r18_18) (.cond (.t 131) .skip (.exit 2))) (.seq (.block 3 (.seq (.reg r18_20) (.cond (.t 144) (.reg r18_21) .skip))) (.reg r18_19)))
def r18_22 : List SOper := [
  ⟨(some 154), .mv (.t 11), none⟩,
  ⟨(some 155), .bin .gtr (.t 154) (.c (.one (.sc (.int .i64 1)))), none⟩,
  ⟨(some 156), .mv (.t 155), none⟩,
  ⟨(some 157), .mv (.t 1), (some (some 156, true))⟩,
  ⟨(some 158), .un .not (.t 157), (some (some 156, true))⟩,
  ⟨(some 159), .pick (.t 156) (.t 158) (.c (.one (.sc (.bool false)))), none⟩,
  ⟨(some 160), .mv (.t 159), none⟩,
  ⟨(some 161), .mv (.t 3), (some (some 160, true))⟩,
  ⟨(some 162), .bin .eql (.t 161) (.c (.one (.sc (.int .i64 1)))), (some (some 160, true))⟩,
  ⟨(some 163), .pick (.t 160) (.t 162) (.c (.one (.sc (.bool false)))), none⟩]
def r18_23 : List SOper := [
  ⟨(some 164), .mv (.t 10), none⟩,
  ⟨(some 165), .mv (.t 0), none⟩,
  ⟨(some 166), .iadrS 2 (.t 165) (.c (.one (.sc (.int .i64 0)))), none⟩,
  ⟨(some 167), .loadA 2 (.t 166), none⟩,
  ⟨(some 168), .mv (.t 2), none⟩,
  ⟨(some 169), .call .k 11 [(.t 167), (.t 168)], none⟩,
  ⟨(some 170), .mv (.t 0), none⟩,
  ⟨(some 171), .mv (.t 11), none⟩,
  ⟨(some 172), .bin .sub (.t 171) (.c (.one (.sc (.int .i64 1)))), none⟩,
  ⟨(some 173), .iadrS 2 (.t 170) (.t 172), none⟩,
  ⟨(some 174), .loadA 2 (.t 173), none⟩,
  ⟨(some 175), .mv (.t 2), none⟩,
  ⟨(some 176), .call .k 11 [(.t 174), (.t 175)], none⟩,
  ⟨(some 177), .bslice [.sc (.slice none 0 0), .sc (.slice none 0 0)] 2 1 [(0, 1, (.t 169)), (1, 1, (.t 176))], none⟩,
  ⟨(some 178), .app 1 24 (.t 164) (.t 177), none⟩,
  ⟨(some 10), .mv (.t 178), none⟩]
def r18_24 : List SOper := [
  ⟨(some 179), .mv (.t 11), none⟩,
  ⟨(some 180), .bin .gtr (.t 179) (.c (.one (.sc (.int .i64 1)))), none⟩,
  ⟨(some 181), .mv (.t 180), none⟩,
  ⟨(some 182), .mv (.t 1), (some (some 181, true))⟩,
  ⟨(some 183), .un .not (.t 182), (some (some 181, true))⟩,
  ⟨(some 184), .pick (.t 181) (.t 183) (.c (.one (.sc (.bool false)))), none⟩,
  ⟨(some 185), .mv (.t 184), none⟩,
  ⟨(some 186), .mv (.t 3), (some (some 185, true))⟩,
  ⟨(some 187), .bin .eql (.t 186) (.c (.one (.sc (.int .i64 2)))), (some (some 185, true))⟩,
  ⟨(some 188), .pick (.t 185) (.t 187) (.c (.one (.sc (.bool false)))), none⟩]
def r18_25 : List SOper := [
  ⟨(some 189), .mv (.t 10), none⟩,
  ⟨(some 190), .mv (.t 0), none⟩,
  ⟨(some 191), .iadrS 2 (.t 190) (.c (.one (.sc (.int .i64 0)))), none⟩,
  ⟨(some 192), .loadA 2 (.t 191), none⟩,
  ⟨(some 193), .mv (.t 0), none⟩,
  ⟨(some 194), .iadrS 2 (.t 193) (.c (.one (.sc (.int .i64 1)))), none⟩,
  ⟨(some 195), .loadA 2 (.t 194), none⟩,
  ⟨(some 196), .mv (.t 2), none⟩,
  ⟨(some 197), .call .k 44 [(.t 192), (.t 195), (.t 196)], none⟩,
  ⟨(some 198), .mv (.t 0), none⟩,
  ⟨(some 199), .mv (.t 11), none⟩,
  ⟨(some 200), .bin .sub (.t 199) (.c (.one (.sc (.int .i64 2)))), none⟩,
  ⟨(some 201), .iadrS 2 (.t 198) (.t 200), none⟩,
  ⟨(some 202), .loadA 2 (.t 201), none⟩,
  ⟨(some 203), .mv (.t 0), none⟩,
  ⟨(some 204), .mv (.t 11), none⟩,
  ⟨(some 205), .bin .sub (.t 204) (.c (.one (.sc (.int .i64 1)))), none⟩,
  ⟨(some 206), .iadrS 2 (.t 203) (.t 205), none⟩,
  ⟨(some 207), .loadA 2 (.t 206), none⟩,
  ⟨(some 208), .mv (.t 2), none⟩,
  ⟨(some 209), .call .k 45 [(.t 202), (.t 207), (.t 208)], none⟩,
  ⟨(some 210), .bslice [.sc (.slice none 0 0), .sc (.slice none 0 0)] 2 1 [(0, 1, (.t 197)), (1, 1, (.t 209))], none⟩,
  ⟨(some 211), .app 1 24 (.t 189) (.t 210), none⟩,
  ⟨(some 10), .mv (.t 211), none⟩]
def r18_26 : List SOper := [
  ⟨(some 16), .mv (.c (.one (.sc (.int .i64 0)))), none⟩]
def r18_27 : List SOper := [
  ⟨(some 212), .mv (.t 16), none⟩,
  ⟨(some 213), .mv (.t 10), none⟩,
  ⟨(some 214), .len (.t 213), none⟩,
  ⟨(some 215), .bin .lss (.t 212) (.t 214), none⟩]
def r18_29 : List SOper := [
  ⟨(some 218), .mv (.t 10), none⟩,
  ⟨(some 219), .mv (.t 16), none⟩,
  ⟨(some 220), .iadrS 1 (.t 218) (.t 219), none⟩,
  ⟨(some 221), .load1 (.t 220), none⟩,
  ⟨(some 222), .call .q 13 [(.t 221)], none⟩,
  ⟨(some 223), .un .not (.t 222), none⟩]
def r18_30 : List SOper := [
  ⟨(some 8), .mv (.c (.one (.sc (.slice none 0 0)))), none⟩,
  ⟨(some 9), .mv (.c (.one (.sc (.bool false)))), none⟩]
def r18_28 : List SOper := [
  ⟨(some 216), .mv (.t 16), none⟩,
  ⟨(some 217), .bin .add (.t 216) (.c (.one (.sc (.int .i64 1)))), none⟩,
  ⟨(some 16), .mv (.t 217), none⟩]
def l18_2 : SC := (.seq (.seq (.reg r18_27) (.cond (.t 215) .skip (.exit 4))) (.seq (.block 5 (.seq (.reg r18_29) (.cond (.t 223) (.seq (.reg r18_30) .ret) .skip))) (.reg r18_28)))
def r18_31 : List SOper := [
  ⟨(some 224), .mv (.t 10), none⟩,
  ⟨(some 8), .mv (.t 224), none⟩,
  ⟨(some 9), .mv (.c (.one (.sc (.bool true)))), none⟩]
def c18 : SC := (.seq (.reg r18_0) (.seq (.reg r18_1) (.seq (.reg r18_2) (.seq (.reg r18_3) (.seq (.seq (.reg r18_4) (.cond (.t 27) (.reg r18_5) .skip)) (.seq (.seq (.reg r18_6) (.cond (.t 41) (.seq (.reg r18_7) (.reg r18_8)) .skip)) (.seq (.seq (.reg r18_9) (.block 0 (.loop l18_0))) (.seq (.seq (.reg r18_17) (.block 2 (.loop l18_1))) (.seq (.seq (.reg r18_22) (.cond (.t 163) (.reg r18_23) .skip)) (.seq (.seq (.reg r18_24) (.cond (.t 188) (.reg r18_25) .skip)) (.seq (.seq (.reg r18_26) (.block 4 (.loop l18_2))) (.seq (.reg r18_31) .ret))))))))))))
/-- limner/limnerref07.Stroke -/
def F18 : SFun := ⟨225, c18, [.tmp 8, .tmp 9]⟩

def r19_0 : List SOper := [
  ⟨(some 3), .box (.t 0), none⟩,
  ⟨(some 4), .box (.t 1), none⟩,
  ⟨(some 6), .mv (.c (.one (.sc (.slice none 0 0)))), none⟩,
  ⟨(some 7), .mv (.c (.one (.sc (.int .i64 0)))), none⟩]
def r19_1 : List SOper := [
  ⟨(some 11), .mv (.t 2), none⟩,
  ⟨(some 12), .call (.z 1) 25 [(.t 11)], none⟩,
  ⟨(some 13), .un .not (.t 12), none⟩,
  ⟨(some 14), .mv (.t 13), none⟩,
  ⟨(some 15), .loadA 2 (.t 3), (some (some 14, false))⟩,
  ⟨(some 16), .call (.z 1) 26 [(.t 15)], (some (some 14, false))⟩,
  ⟨(some 17), .un .not (.t 16), (some (some 14, false))⟩,
  ⟨(some 18), .pick (.t 14) (.c (.one (.sc (.bool true)))) (.t 17), none⟩,
  ⟨(some 19), .mv (.t 18), none⟩,
  ⟨(some 20), .loadA 2 (.t 4), (some (some 19, false))⟩,
  ⟨(some 21), .call (.z 1) 26 [(.t 20)], (some (some 19, false))⟩,
  ⟨(some 22), .un .not (.t 21), (some (some 19, false))⟩,
  ⟨(some 23), .pick (.t 19) (.c (.one (.sc (.bool true)))) (.t 22), none⟩,
  ⟨(some 24), .mv (.t 23), none⟩,
  ⟨(some 25), .loadA 2 (.t 3), (some (some 24, false))⟩,
  ⟨(some 26), .loadA 2 (.t 4), (some (some 24, false))⟩,
  ⟨(some 27), .eqv [.i, .i] false (.t 25) (.t 26), (some (some 24, false))⟩,
  ⟨(some 28), .pick (.t 24) (.c (.one (.sc (.bool true)))) (.t 27), none⟩]
def r19_2 : List SOper := [
  ⟨(some 6), .mv (.c (.one (.sc (.slice none 0 0)))), none⟩,
  ⟨(some 7), .mv (.c (.one (.sc (.int .i64 30)))), none⟩]
def r19_3 : List SOper := [
  ⟨(some 30), .loadA 2 (.t 3), none⟩,
  ⟨(some 31), .loadA 2 (.t 4), none⟩,
  ⟨(some 32), .mv (.t 2), none⟩,
  ⟨(some 33), .call (.z 1) 46 [(.t 30), (.t 31), (.t 32)], none⟩,
  ⟨(some 29), .mv (.t 33), none⟩,
  ⟨(some 34), .ext (.t 29) 0, none⟩,
  ⟨(some 35), .ext (.t 29) 1, none⟩,
  ⟨(some 36), .ext (.t 29) 2, none⟩,
  ⟨(some 8), .alloc [.sc (.int .i64 0), .sc (.int .i64 0)], none⟩,
  ⟨(some 9), .alloc [.sc (.int .i64 0), .sc (.int .i64 0)], none⟩,
  ⟨none, .store 2 (.t 8) (.t 34), none⟩,
  ⟨none, .store 2 (.t 9) (.t 35), none⟩,
  ⟨(some 10), .mv (.t 36), none⟩]
def r19_4 : List SOper := [
  ⟨(some 37), .mv (.t 10), none⟩,
  ⟨(some 38), .bin .neq (.t 37) (.c (.one (.sc (.int .i64 0)))), none⟩]
def r19_5 : List SOper := [
  ⟨(some 39), .mv (.t 10), none⟩,
  ⟨(some 6), .mv (.c (.one (.sc (.slice none 0 0)))), none⟩,
  ⟨(some 7), .mv (.t 39), none⟩]
def r19_6 : List SOper := [
  ⟨(some 40), .loadA 2 (.t 3), none⟩,
  ⟨(some 41), .loadA 2 (.t 8), none⟩,
  ⟨(some 42), .call (.z 1) 38 [(.t 40), (.t 41)], none⟩,
  ⟨(some 43), .loadA 2 (.t 4), none⟩,
  ⟨(some 44), .loadA 2 (.t 8), none⟩,
  ⟨(some 45), .call (.z 1) 38 [(.t 43), (.t 44)], none⟩,
  ⟨(some 46), .loadA 2 (.t 4), none⟩,
  ⟨(some 47), .loadA 2 (.t 8), none⟩,
  ⟨(some 48), .call (.z 1) 27 [(.t 46), (.t 47)], none⟩,
  ⟨(some 49), .loadA 2 (.t 3), none⟩,
  ⟨(some 50), .loadA 2 (.t 8), none⟩,
  ⟨(some 51), .call (.z 1) 27 [(.t 49), (.t 50)], none⟩,
  ⟨(some 52), .bslice [.sc (.int .i64 0), .sc (.int .i64 0), .sc (.int .i64 0), .sc (.int .i64 0), .sc (.int .i64 0), .sc (.int .i64 0), .sc (.int .i64 0), .sc (.int .i64 0)] 4 2 [(0, 2, (.t 42)), (2, 2, (.t 45)), (4, 2, (.t 48)), (6, 2, (.t 51))], none⟩,
  ⟨(some 53), .call .k 29 [(.t 52)], none⟩,
  ⟨(some 54), .ext (.t 53) 0, none⟩,
  ⟨(some 55), .ext (.t 53) 1, none⟩,
  ⟨(some 6), .mv (.t 54), none⟩,
  ⟨(some 7), .mv (.t 55), none⟩]
def c19 : SC := (.seq (.reg r19_0) (.seq (.seq (.reg r19_1) (.cond (.t 28) (.seq (.reg r19_2) .ret) .skip)) (.seq (.reg r19_3) (.seq (.seq (.reg r19_4) (.cond (.t 38) (.seq (.reg r19_5) .ret) .skip)) (.seq (.reg r19_6) .ret)))))
/-- limner/stroke.Bar -/
def F19 : SFun := ⟨56, c19, [.tmp 6, .tmp 7]⟩

def r20_0 : List SOper := [
  ⟨(some 2), .box (.t 0), none⟩,
  ⟨(some 3), .box (.t 1), none⟩,
  ⟨(some 4), .mv (.c (.one (.sc (.bool false)))), none⟩]
def r20_1 : List SOper := [
  ⟨(some 5), .fadr 0 (.t 2), none⟩,
  ⟨(some 6), .load1 (.t 5), none⟩,
  ⟨(some 7), .fadr 0 (.t 3), none⟩,
  ⟨(some 8), .load1 (.t 7), none⟩,
  ⟨(some 9), .bin .sub (.t 6) (.t 8), none⟩,
  ⟨(some 10), .bin .leq (.t 9) (.c (.one (.sc (.int .i64 1)))), none⟩,
  ⟨(some 11), .mv (.t 10), none⟩,
  ⟨(some 12), .fadr 0 (.t 3), (some (some 11, true))⟩,
  ⟨(some 13), .load1 (.t 12), (some (some 11, true))⟩,
  ⟨(some 14), .fadr 0 (.t 2), (some (some 11, true))⟩,
  ⟨(some 15), .load1 (.t 14), (some (some 11, true))⟩,
  ⟨(some 16), .bin .sub (.t 13) (.t 15), (some (some 11, true))⟩,
  ⟨(some 17), .bin .leq (.t 16) (.c (.one (.sc (.int .i64 1)))), (some (some 11, true))⟩,
  ⟨(some 18), .pick (.t 11) (.t 17) (.c (.one (.sc (.bool false)))), none⟩,
  ⟨(some 19), .mv (.t 18), none⟩,
  ⟨(some 20), .fadr 1 (.t 2), (some (some 19, true))⟩,
  ⟨(some 21), .load1 (.t 20), (some (some 19, true))⟩,
  ⟨(some 22), .fadr 1 (.t 3), (some (some 19, true))⟩,
  ⟨(some 23), .load1 (.t 22), (some (some 19, true))⟩,
  ⟨(some 24), .bin .sub (.t 21) (.t 23), (some (some 19, true))⟩,
  ⟨(some 25), .bin .leq (.t 24) (.c (.one (.sc (.int .i64 1)))), (some (some 19, true))⟩,
  ⟨(some 26), .pick (.t 19) (.t 25) (.c (.one (.sc (.bool false)))), none⟩,
  ⟨(some 27), .mv (.t 26), none⟩,
  ⟨(some 28), .fadr 1 (.t 3), (some (some 27, true))⟩,
  ⟨(some 29), .load1 (.t 28), (some (some 27, true))⟩,
  ⟨(some 30), .fadr 1 (.t 2), (some (some 27, true))⟩,
  ⟨(some 31), .load1 (.t 30), (some (some 27, true))⟩,
  ⟨(some 32), .bin .sub (.t 29) (.t 31), (some (some 27, true))⟩,
  ⟨(some 33), .bin .leq (.t 32) (.c (.one (.sc (.int .i64 1)))), (some (some 27, true))⟩,
  ⟨(some 34), .pick (.t 27) (.t 33) (.c (.one (.sc (.bool false)))), none⟩,
  ⟨(some 4), .mv (.t 34), none⟩]
def c20 : SC := (.seq (.reg r20_0) (.seq (.reg r20_1) .ret))
/-- limner/limnerlaw07.near -/
def F20 : SFun := ⟨35, c20, [.tmp 4]⟩

def r21_0 : List SOper := [
  ⟨(some 3), .box (.t 1), none⟩,
  ⟨(some 4), .mv (.c (.one (.sc (.int .i64 0)))), none⟩]
def r21_1 : List SOper := [
  ⟨(some 5), .mv (.c (.one (.sc (.int .i64 0)))), none⟩]
def r21_2 : List SOper := [
  ⟨(some 9), .mv (.t 0), none⟩,
  ⟨(some 10), .len (.t 9), none⟩,
  ⟨(some 11), .mv (.c (.one (.sc (.int .i64 0)))), none⟩]
def r21_3 : List SOper := [
  ⟨(some 12), .bin .lss (.t 11) (.t 10), none⟩]
def r21_4 : List SOper := [
  ⟨(some 13), .mv (.t 11), none⟩,
  ⟨(some 14), .iadrS 2 (.t 9) (.t 11), none⟩,
  ⟨(some 15), .loadA 2 (.t 14), none⟩,
  ⟨(some 7), .alloc [.sc (.int .i64 0), .sc (.int .i64 0)], none⟩,
  ⟨(some 6), .mv (.t 13), none⟩,
  ⟨none, .store 2 (.t 7) (.t 15), none⟩]
def r21_5 : List SOper := [
  ⟨(some 16), .mv (.t 0), none⟩,
  ⟨(some 17), .mv (.t 6), none⟩,
  ⟨(some 18), .mv (.t 0), none⟩,
  ⟨(some 19), .len (.t 18), none⟩,
  ⟨(some 20), .bin .add (.t 17) (.t 19), none⟩,
  ⟨(some 21), .bin .sub (.t 20) (.c (.one (.sc (.int .i64 1)))), none⟩,
  ⟨(some 22), .mv (.t 0), none⟩,
  ⟨(some 23), .len (.t 22), none⟩,
  ⟨(some 24), .bin .rem (.t 21) (.t 23), none⟩,
  ⟨(some 25), .iadrS 2 (.t 16) (.t 24), none⟩,
  ⟨(some 26), .loadA 2 (.t 25), none⟩,
  ⟨(some 8), .alloc [.sc (.int .i64 0), .sc (.int .i64 0)], none⟩,
  ⟨none, .store 2 (.t 8) (.t 26), none⟩]
def r21_6 : List SOper := [
  ⟨(some 28), .fadr 1 (.t 8), none⟩,
  ⟨(some 29), .load1 (.t 28), none⟩,
  ⟨(some 30), .fadr 1 (.t 3), none⟩,
  ⟨(some 31), .load1 (.t 30), none⟩,
  ⟨(some 32), .bin .leq (.t 29) (.t 31), none⟩,
  ⟨(some 33), .mv (.t 32), none⟩,
  ⟨(some 34), .fadr 1 (.t 3), (some (some 33, true))⟩,
  ⟨(some 35), .load1 (.t 34), (some (some 33, true))⟩,
  ⟨(some 36), .fadr 1 (.t 7), (some (some 33, true))⟩,
  ⟨(some 37), .load1 (.t 36), (some (some 33, true))⟩,
  ⟨(some 38), .bin .lss (.t 35) (.t 37), (some (some 33, true))⟩,
  ⟨(some 39), .pick (.t 33) (.t 38) (.c (.one (.sc (.bool false)))), none⟩,
  ⟨(some 40), .mv (.t 39), none⟩,
  ⟨(some 41), .loadA 2 (.t 8), (some (some 40, true))⟩,
  ⟨(some 42), .loadA 2 (.t 7), (some (some 40, true))⟩,
  ⟨(some 43), .loadA 2 (.t 3), (some (some 40, true))⟩,
  ⟨(some 44), .call (.z 1) 47 [(.t 41), (.t 42), (.t 43)], (some (some 40, true))⟩,
  ⟨(some 45), .bin .gtr (.t 44) (.c (.one (.sc (.int .i64 0)))), (some (some 40, true))⟩,
  ⟨(some 46), .pick (.t 40) (.t 45) (.c (.one (.sc (.bool false)))), none⟩,
  ⟨(some 27), .mv (.t 46), none⟩]
def r21_7 : List SOper := [
  ⟨(some 47), .mv (.t 5), none⟩,
  ⟨(some 48), .bin .add (.t 47) (.c (.one (.sc (.int .i64 1)))), none⟩,
  ⟨(some 5), .mv (.t 48), none⟩]
def r21_8 : List SOper := [
  ⟨(some 50), .fadr 1 (.t 7), none⟩,
  ⟨(some 51), .load1 (.t 50), none⟩,
  ⟨(some 52), .fadr 1 (.t 3), none⟩,
  ⟨(some 53), .load1 (.t 52), none⟩,
  ⟨(some 54), .bin .leq (.t 51) (.t 53), none⟩,
  ⟨(some 55), .mv (.t 54), none⟩,
  ⟨(some 56), .fadr 1 (.t 3), (some (some 55, true))⟩,
  ⟨(some 57), .load1 (.t 56), (some (some 55, true))⟩,
  ⟨(some 58), .fadr 1 (.t 8), (some (some 55, true))⟩,
  ⟨(some 59), .load1 (.t 58), (some (some 55, true))⟩,
  ⟨(some 60), .bin .lss (.t 57) (.t 59), (some (some 55, true))⟩,
  ⟨(some 61), .pick (.t 55) (.t 60) (.c (.one (.sc (.bool false)))), none⟩,
  ⟨(some 62), .mv (.t 61), none⟩,
  ⟨(some 63), .loadA 2 (.t 8), (some (some 62, true))⟩,
  ⟨(some 64), .loadA 2 (.t 7), (some (some 62, true))⟩,
  ⟨(some 65), .loadA 2 (.t 3), (some (some 62, true))⟩,
  ⟨(some 66), .call (.z 1) 47 [(.t 63), (.t 64), (.t 65)], (some (some 62, true))⟩,
  ⟨(some 67), .bin .lss (.t 66) (.c (.one (.sc (.int .i64 0)))), (some (some 62, true))⟩,
  ⟨(some 68), .pick (.t 62) (.t 67) (.c (.one (.sc (.bool false)))), none⟩,
  ⟨(some 49), .mv (.t 68), none⟩]
def r21_9 : List SOper := [
  ⟨(some 69), .mv (.t 5), none⟩,
  ⟨(some 70), .bin .sub (.t 69) (.c (.one (.sc (.int .i64 1)))), none⟩,
  ⟨(some 5), .mv (.t 70), none⟩]
def r21_10 : List SOper := [
  ⟨(some 71), .bin .add (.t 11) (.c (.one (.sc (.int .i64 1)))), none⟩,
  ⟨(some 11), .mv (.t 71), none⟩]
def l21_0 : SC := (.seq (.reg r21_3) (.seq (.cond (.t 12) .skip (.exit 0)) (.seq (.block 1 (.seq (.reg r21_4) (.seq (.reg r21_5) (.block 2 (.seq (.reg r21_6) (.cond (.t 27) (.reg r21_7) (.seq (.reg r21_8) (.cond (.t 49) (.reg r21_9) .skip)))))))) (.reg r21_10))))
def r21_11 : List SOper := [
  ⟨(some 72), .mv (.t 5), none⟩,
  ⟨(some 4), .mv (.t 72), none⟩]
def c21 : SC := (.seq (.reg r21_0) (.seq (.reg r21_1) (.seq (.seq (.reg r21_2) (.block 0 (.loop l21_0))) (.seq (.reg r21_11) .ret))))
/-- limner/geom.Winds -/
def F21 : SFun := ⟨73, c21, [.tmp 4]⟩

def r22_0 : List SOper := [
  ⟨(some 2), .box (.t 0), none⟩,
  ⟨(some 4), .alloc [.sc (.int .i64 0), .sc (.int .i64 0), .sc (.int .i64 0), .sc (.int .i64 0)], none⟩]
def r22_1 : List SOper := [
  ⟨(some 5), .loadA 4 (.t 2), none⟩,
  ⟨(some 6), .call (.z 1) 48 [(.t 5)], none⟩]
def r22_2 : List SOper := [
  ⟨(some 7), .build [.sc (.int .i64 0), .sc (.int .i64 0), .sc (.int .i64 0), .sc (.int .i64 0)] [], none⟩,
  ⟨none, .store 4 (.t 4) (.t 7), none⟩]
def r22_3 : List SOper := [
  ⟨(some 8), .fadr 0 (.t 2), none⟩,
  ⟨(some 9), .load1 (.t 8), none⟩,
  ⟨(some 10), .mv (.t 1), none⟩,
  ⟨(some 11), .bin .mul (.c (.one (.sc (.int .i64 2)))) (.t 10), none⟩,
  ⟨(some 12), .bin .sub (.t 9) (.t 11), none⟩,
  ⟨(some 13), .fadr 1 (.t 2), none⟩,
  ⟨(some 14), .load1 (.t 13), none⟩,
  ⟨(some 15), .mv (.t 1), none⟩,
  ⟨(some 16), .bin .mul (.c (.one (.sc (.int .i64 2)))) (.t 15), none⟩,
  ⟨(some 17), .bin .sub (.t 14) (.t 16), none⟩,
  ⟨(some 18), .fadr 2 (.t 2), none⟩,
  ⟨(some 19), .load1 (.t 18), none⟩,
  ⟨(some 20), .mv (.t 1), none⟩,
  ⟨(some 21), .bin .mul (.c (.one (.sc (.int .i64 2)))) (.t 20), none⟩,
  ⟨(some 22), .bin .add (.t 19) (.t 21), none⟩,
  ⟨(some 23), .fadr 3 (.t 2), none⟩,
  ⟨(some 24), .load1 (.t 23), none⟩,
  ⟨(some 25), .mv (.t 1), none⟩,
  ⟨(some 26), .bin .mul (.c (.one (.sc (.int .i64 2)))) (.t 25), none⟩,
  ⟨(some 27), .bin .add (.t 24) (.t 26), none⟩,
  ⟨(some 28), .build [.sc (.int .i64 0), .sc (.int .i64 0), .sc (.int .i64 0), .sc (.int .i64 0)] [(0, 1, (.t 12)), (1, 1, (.t 17)), (2, 1, (.t 22)), (3, 1, (.t 27))], none⟩,
  ⟨none, .store 4 (.t 4) (.t 28), none⟩]
def c22 : SC := (.seq (.reg r22_0) (.seq (.seq (.reg r22_1) (.cond (.t 6) (.seq (.reg r22_2) .ret) .skip)) (.seq (.reg r22_3) .ret)))
/-- limner/stroke.Reach -/
def F22 : SFun := ⟨29, c22, [.cellA 4 4]⟩

def r23_0 : List SOper := [
  ⟨(some 2), .alloc [.sc (.int .i64 0), .sc (.int .i64 0), .sc (.int .i64 0), .sc (.int .i64 0)], none⟩]
def r23_1 : List SOper := [
  ⟨(some 3), .alloc [.sc (.int .i64 0), .sc (.int .i64 0), .sc (.int .i64 0), .sc (.int .i64 0)], none⟩]
def r23_2 : List SOper := [
  ⟨(some 6), .mv (.t 0), none⟩,
  ⟨(some 7), .len (.t 6), none⟩,
  ⟨(some 8), .mv (.c (.one (.sc (.int .i64 0)))), none⟩]
def r23_3 : List SOper := [
  ⟨(some 9), .bin .lss (.t 8) (.t 7), none⟩]
def r23_4 : List SOper := [
  ⟨(some 10), .iadrS 2 (.t 6) (.t 8), none⟩,
  ⟨(some 11), .loadA 2 (.t 10), none⟩,
  ⟨(some 5), .alloc [.sc (.int .i64 0), .sc (.int .i64 0)], none⟩,
  ⟨none, .store 2 (.t 5) (.t 11), none⟩]
def r23_5 : List SOper := [
  ⟨(some 12), .loadA 4 (.t 3), none⟩,
  ⟨(some 13), .fadr 0 (.t 5), none⟩,
  ⟨(some 14), .load1 (.t 13), none⟩,
  ⟨(some 15), .fadr 1 (.t 5), none⟩,
  ⟨(some 16), .load1 (.t 15), none⟩,
  ⟨(some 17), .fadr 0 (.t 5), none⟩,
  ⟨(some 18), .load1 (.t 17), none⟩,
  ⟨(some 19), .bin .add (.t 18) (.c (.one (.sc (.int .i64 1)))), none⟩,
  ⟨(some 20), .fadr 1 (.t 5), none⟩,
  ⟨(some 21), .load1 (.t 20), none⟩,
  ⟨(some 22), .bin .add (.t 21) (.c (.one (.sc (.int .i64 1)))), none⟩,
  ⟨(some 23), .build [.sc (.int .i64 0), .sc (.int .i64 0), .sc (.int .i64 0), .sc (.int .i64 0)] [(0, 1, (.t 14)), (1, 1, (.t 16)), (2, 1, (.t 19)), (3, 1, (.t 22))], none⟩,
  ⟨(some 24), .call (.z 1) 49 [(.t 12), (.t 23)], none⟩,
  ⟨none, .store 4 (.t 3) (.t 24), none⟩]
def r23_6 : List SOper := [
  ⟨(some 25), .bin .add (.t 8) (.c (.one (.sc (.int .i64 1)))), none⟩,
  ⟨(some 8), .mv (.t 25), none⟩]
def l23_0 : SC := (.seq (.reg r23_3) (.seq (.cond (.t 9) .skip (.exit 0)) (.seq (.block 1 (.seq (.reg r23_4) (.reg r23_5))) (.reg r23_6))))
def r23_7 : List SOper := [
  ⟨(some 26), .loadA 4 (.t 3), none⟩,
  ⟨none, .store 4 (.t 2) (.t 26), none⟩]
def c23 : SC := (.seq (.reg r23_0) (.seq (.reg r23_1) (.seq (.seq (.reg r23_2) (.block 0 (.loop l23_0))) (.seq (.reg r23_7) .ret))))
/-- limner/geom.Bound -/
def F23 : SFun := ⟨27, c23, [.cellA 2 4]⟩

def r24_0 : List SOper := [
  ⟨(some 2), .box (.t 0), none⟩,
  ⟨(some 3), .box (.t 1), none⟩,
  ⟨(some 4), .mv (.c (.one (.sc (.bool false)))), none⟩]
def r24_1 : List SOper := [
  ⟨(some 5), .fadr 0 (.t 2), none⟩,
  ⟨(some 6), .load1 (.t 5), none⟩,
  ⟨(some 7), .fadr 0 (.t 3), none⟩,
  ⟨(some 8), .load1 (.t 7), none⟩,
  ⟨(some 9), .bin .leq (.t 6) (.t 8), none⟩,
  ⟨(some 10), .mv (.t 9), none⟩,
  ⟨(some 11), .fadr 0 (.t 3), (some (some 10, true))⟩,
  ⟨(some 12), .load1 (.t 11), (some (some 10, true))⟩,
  ⟨(some 13), .fadr 2 (.t 2), (some (some 10, true))⟩,
  ⟨(some 14), .load1 (.t 13), (some (some 10, true))⟩,
  ⟨(some 15), .bin .lss (.t 12) (.t 14), (some (some 10, true))⟩,
  ⟨(some 16), .pick (.t 10) (.t 15) (.c (.one (.sc (.bool false)))), none⟩,
  ⟨(some 17), .mv (.t 16), none⟩,
  ⟨(some 18), .fadr 1 (.t 2), (some (some 17, true))⟩,
  ⟨(some 19), .load1 (.t 18), (some (some 17, true))⟩,
  ⟨(some 20), .fadr 1 (.t 3), (some (some 17, true))⟩,
  ⟨(some 21), .load1 (.t 20), (some (some 17, true))⟩,
  ⟨(some 22), .bin .leq (.t 19) (.t 21), (some (some 17, true))⟩,
  ⟨(some 23), .pick (.t 17) (.t 22) (.c (.one (.sc (.bool false)))), none⟩,
  ⟨(some 24), .mv (.t 23), none⟩,
  ⟨(some 25), .fadr 1 (.t 3), (some (some 24, true))⟩,
  ⟨(some 26), .load1 (.t 25), (some (some 24, true))⟩,
  ⟨(some 27), .fadr 3 (.t 2), (some (some 24, true))⟩,
  ⟨(some 28), .load1 (.t 27), (some (some 24, true))⟩,
  ⟨(some 29), .bin .lss (.t 26) (.t 28), (some (some 24, true))⟩,
  ⟨(some 30), .pick (.t 24) (.t 29) (.c (.one (.sc (.bool false)))), none⟩,
  ⟨(some 4), .mv (.t 30), none⟩]
def c24 : SC := (.seq (.reg r24_0) (.seq (.reg r24_1) .ret))
/-- (limner/geom.Box).Has -/
def F24 : SFun := ⟨31, c24, [.tmp 4]⟩

def r25_0 : List SOper := [
  ⟨(some 2), .mv (.c (.one (.sc (.bool false)))), none⟩]
def r25_1 : List SOper := [
  ⟨(some 3), .mv (.t 0), none⟩,
  ⟨(some 4), .bin .geq (.t 3) (.c (.one (.sc (.int .i64 1)))), none⟩,
  ⟨(some 5), .mv (.t 4), none⟩,
  ⟨(some 6), .mv (.t 0), (some (some 5, true))⟩,
  ⟨(some 7), .bin .leq (.t 6) (.c (.one (.sc (.int .i64 32768)))), (some (some 5, true))⟩,
  ⟨(some 8), .pick (.t 5) (.t 7) (.c (.one (.sc (.bool false)))), none⟩,
  ⟨(some 2), .mv (.t 8), none⟩]
def c25 : SC := (.seq (.reg r25_0) (.seq (.reg r25_1) .ret))
/-- limner/stroke.right -/
def F25 : SFun := ⟨9, c25, [.tmp 2]⟩

def r26_0 : List SOper := [
  ⟨(some 1), .box (.t 0), none⟩,
  ⟨(some 2), .mv (.c (.one (.sc (.bool false)))), none⟩]
def r26_1 : List SOper := [
  ⟨(some 3), .fadr 0 (.t 1), none⟩,
  ⟨(some 4), .load1 (.t 3), none⟩,
  ⟨(some 5), .call (.z 1) 50 [(.t 4)], none⟩,
  ⟨(some 6), .mv (.t 5), none⟩,
  ⟨(some 7), .fadr 1 (.t 1), (some (some 6, true))⟩,
  ⟨(some 8), .load1 (.t 7), (some (some 6, true))⟩,
  ⟨(some 9), .call (.z 1) 50 [(.t 8)], (some (some 6, true))⟩,
  ⟨(some 10), .pick (.t 6) (.t 9) (.c (.one (.sc (.bool false)))), none⟩,
  ⟨(some 2), .mv (.t 10), none⟩]
def c26 : SC := (.seq (.reg r26_0) (.seq (.reg r26_1) .ret))
/-- (limner/geom.Point).In -/
def F26 : SFun := ⟨11, c26, [.tmp 2]⟩

def r27_0 : List SOper := [
  ⟨(some 2), .box (.t 0), none⟩,
  ⟨(some 3), .box (.t 1), none⟩,
  ⟨(some 4), .alloc [.sc (.int .i64 0), .sc (.int .i64 0)], none⟩]
def r27_1 : List SOper := [
  ⟨(some 5), .fadr 0 (.t 2), none⟩,
  ⟨(some 6), .load1 (.t 5), none⟩,
  ⟨(some 7), .fadr 0 (.t 3), none⟩,
  ⟨(some 8), .load1 (.t 7), none⟩,
  ⟨(some 9), .bin .add (.t 6) (.t 8), none⟩,
  ⟨(some 10), .fadr 1 (.t 2), none⟩,
  ⟨(some 11), .load1 (.t 10), none⟩,
  ⟨(some 12), .fadr 1 (.t 3), none⟩,
  ⟨(some 13), .load1 (.t 12), none⟩,
  ⟨(some 14), .bin .add (.t 11) (.t 13), none⟩,
  ⟨(some 15), .build [.sc (.int .i64 0), .sc (.int .i64 0)] [(0, 1, (.t 9)), (1, 1, (.t 14))], none⟩,
  ⟨none, .store 2 (.t 4) (.t 15), none⟩]
def c27 : SC := (.seq (.reg r27_0) (.seq (.reg r27_1) .ret))
/-- limner/stroke.plus -/
def F27 : SFun := ⟨16, c27, [.cellA 4 2]⟩

def r28_0 : List SOper := [
  ⟨(some 6), .mv (.c (.one (.sc (.int .i64 0)))), none⟩]
def r28_1 : List SOper := [
  ⟨(some 9), .mv (.t 0), none⟩,
  ⟨(some 10), .bin .mul (.c (.one (.sc (.int .i64 2)))) (.t 9), none⟩,
  ⟨(some 11), .mv (.t 1), none⟩,
  ⟨(some 12), .bin .mul (.t 10) (.t 11), none⟩,
  ⟨(some 13), .mv (.t 2), none⟩,
  ⟨(some 14), .bin .add (.t 12) (.t 13), none⟩,
  ⟨(some 7), .mv (.t 14), none⟩]
def r28_2 : List SOper := [
  ⟨(some 15), .mv (.t 7), none⟩,
  ⟨(some 16), .mv (.t 2), none⟩,
  ⟨(some 17), .bin .mul (.c (.one (.sc (.int .i64 2)))) (.t 16), none⟩,
  ⟨(some 18), .bin .quo (.t 15) (.t 17), none⟩,
  ⟨(some 8), .mv (.t 18), none⟩]
def r28_3 : List SOper := [
  ⟨(some 19), .mv (.t 7), none⟩,
  ⟨(some 20), .mv (.t 2), none⟩,
  ⟨(some 21), .bin .mul (.c (.one (.sc (.int .i64 2)))) (.t 20), none⟩,
  ⟨(some 22), .bin .rem (.t 19) (.t 21), none⟩,
  ⟨(some 23), .bin .lss (.t 22) (.c (.one (.sc (.int .i64 0)))), none⟩]
def r28_4 : List SOper := [
  ⟨(some 24), .mv (.t 8), none⟩,
  ⟨(some 25), .bin .sub (.t 24) (.c (.one (.sc (.int .i64 1)))), none⟩,
  ⟨(some 8), .mv (.t 25), none⟩]
def r28_5 : List SOper := [
  ⟨(some 26), .mv (.t 8), none⟩,
  ⟨(some 6), .mv (.t 26), none⟩]
def c28 : SC := (.seq (.reg r28_0) (.seq (.reg r28_1) (.seq (.reg r28_2) (.seq (.seq (.reg r28_3) (.cond (.t 23) (.reg r28_4) .skip)) (.seq (.reg r28_5) .ret)))))
/-- limner/stroke.part -/
def F28 : SFun := ⟨27, c28, [.tmp 6]⟩

def r29_0 : List SOper := [
  ⟨(some 2), .mv (.c (.one (.sc (.slice none 0 0)))), none⟩,
  ⟨(some 3), .mv (.c (.one (.sc (.int .i64 0)))), none⟩]
def r29_1 : List SOper := [
  ⟨(some 4), .mv (.t 0), none⟩,
  ⟨(some 5), .call .q 33 [(.t 4), (.f 51)], none⟩]
def r29_2 : List SOper := [
  ⟨(some 2), .mv (.c (.one (.sc (.slice none 0 0)))), none⟩,
  ⟨(some 3), .mv (.c (.one (.sc (.int .i64 10)))), none⟩]
def r29_3 : List SOper := [
  ⟨(some 6), .mv (.t 0), none⟩,
  ⟨(some 2), .mv (.t 6), none⟩,
  ⟨(some 3), .mv (.c (.one (.sc (.int .i64 0)))), none⟩]
def c29 : SC := (.seq (.reg r29_0) (.seq (.seq (.reg r29_1) (.cond (.t 5) (.seq (.reg r29_2) .ret) .skip)) (.seq (.reg r29_3) .ret)))
/-- limner/stroke.room -/
def F29 : SFun := ⟨7, c29, [.tmp 2, .tmp 3]⟩

def r30_0 : List SOper := [
  ⟨(some 2), .mv (.c (.one (.sc (.bool false)))), none⟩]
def r30_1 : List SOper := [
  ⟨(some 3), .mv (.t 0), none⟩,
  ⟨(some 4), .bin .geq (.t 3) (.c (.one (.sc (.int .i64 (-2147483648))))), none⟩,
  ⟨(some 5), .mv (.t 4), none⟩,
  ⟨(some 6), .mv (.t 0), (some (some 5, true))⟩,
  ⟨(some 7), .bin .leq (.t 6) (.c (.one (.sc (.int .i64 2147483648)))), (some (some 5, true))⟩,
  ⟨(some 8), .pick (.t 5) (.t 7) (.c (.one (.sc (.bool false)))), none⟩,
  ⟨(some 2), .mv (.t 8), none⟩]
def c30 : SC := (.seq (.reg r30_0) (.seq (.reg r30_1) .ret))
/-- limner/limnerref01.In -/
def F30 : SFun := ⟨9, c30, [.tmp 2]⟩

def r31_0 : List SOper := [
  ⟨(some 4), .mv (.c (.one (.sc (.int .i64 0)))), none⟩]
def r31_1 : List SOper := [
  ⟨(some 7), .mv (.t 0), none⟩,
  ⟨(some 8), .mv (.t 1), none⟩,
  ⟨(some 9), .call (.z 1) 52 [(.t 7), (.t 8)], none⟩,
  ⟨(some 5), .mv (.t 9), none⟩]
def r31_2 : List SOper := [
  ⟨(some 10), .mv (.t 0), none⟩,
  ⟨(some 11), .mv (.t 5), none⟩,
  ⟨(some 12), .mv (.t 1), none⟩,
  ⟨(some 13), .bin .mul (.t 11) (.t 12), none⟩,
  ⟨(some 14), .bin .sub (.t 10) (.t 13), none⟩,
  ⟨(some 6), .mv (.t 14), none⟩]
def r31_3 : List SOper := [
  ⟨(some 15), .mv (.t 6), none⟩,
  ⟨(some 16), .mv (.t 1), none⟩,
  ⟨(some 17), .mv (.t 6), none⟩,
  ⟨(some 18), .bin .sub (.t 16) (.t 17), none⟩,
  ⟨(some 19), .bin .geq (.t 15) (.t 18), none⟩]
def r31_4 : List SOper := [
  ⟨(some 20), .mv (.t 5), none⟩,
  ⟨(some 21), .bin .add (.t 20) (.c (.one (.sc (.int .i64 1)))), none⟩,
  ⟨(some 5), .mv (.t 21), none⟩]
def r31_5 : List SOper := [
  ⟨(some 22), .mv (.t 5), none⟩,
  ⟨(some 4), .mv (.t 22), none⟩]
def c31 : SC := (.seq (.reg r31_0) (.seq (.reg r31_1) (.seq (.reg r31_2) (.seq (.seq (.reg r31_3) (.cond (.t 19) (.reg r31_4) .skip)) (.seq (.reg r31_5) .ret)))))
/-- limner/limnerref01.Round -/
def F31 : SFun := ⟨23, c31, [.tmp 4]⟩

def r32_0 : List SOper := [
  ⟨(some 2), .mv (.c (.one (.sc (.int .i64 0)))), none⟩]
def r32_1 : List SOper := [
  ⟨(some 4), .bslice [.sc (.int .i64 0), .sc (.int .i64 0), .sc (.int .i64 0), .sc (.int .i64 0), .sc (.int .i64 0)] 5 1 [(0, 1, (.c (.one (.sc (.int .i64 65536))))), (1, 1, (.c (.one (.sc (.int .i64 60547))))), (2, 1, (.c (.one (.sc (.int .i64 46341))))), (3, 1, (.c (.one (.sc (.int .i64 25080))))), (4, 1, (.c (.one (.sc (.int .i64 0)))))], none⟩,
  ⟨(some 3), .mv (.t 4), none⟩]
def r32_2 : List SOper := [
  ⟨(some 5), .mv (.t 0), none⟩,
  ⟨(some 6), .bin .rem (.t 5) (.c (.one (.sc (.int .i64 16)))), none⟩,
  ⟨(some 0), .mv (.t 6), none⟩]
def r32_3 : List SOper := [
  ⟨(some 7), .mv (.t 0), none⟩,
  ⟨(some 8), .bin .gtr (.t 7) (.c (.one (.sc (.int .i64 8)))), none⟩]
def r32_4 : List SOper := [
  ⟨(some 9), .mv (.t 0), none⟩,
  ⟨(some 10), .bin .sub (.c (.one (.sc (.int .i64 16)))) (.t 9), none⟩,
  ⟨(some 0), .mv (.t 10), none⟩]
def r32_5 : List SOper := [
  ⟨(some 11), .mv (.t 0), none⟩,
  ⟨(some 12), .bin .gtr (.t 11) (.c (.one (.sc (.int .i64 4)))), none⟩]
def r32_6 : List SOper := [
  ⟨(some 13), .mv (.t 3), none⟩,
  ⟨(some 14), .mv (.t 0), none⟩,
  ⟨(some 15), .bin .sub (.c (.one (.sc (.int .i64 8)))) (.t 14), none⟩,
  ⟨(some 16), .iadrS 1 (.t 13) (.t 15), none⟩,
  ⟨(some 17), .load1 (.t 16), none⟩,
  ⟨(some 18), .un .neg (.t 17), none⟩,
  ⟨(some 2), .mv (.t 18), none⟩]
def r32_7 : List SOper := [
  ⟨(some 19), .mv (.t 3), none⟩,
  ⟨(some 20), .mv (.t 0), none⟩,
  ⟨(some 21), .iadrS 1 (.t 19) (.t 20), none⟩,
  ⟨(some 22), .load1 (.t 21), none⟩,
  ⟨(some 2), .mv (.t 22), none⟩]
def c32 : SC := (.seq (.reg r32_0) (.seq (.reg r32_1) (.seq (.reg r32_2) (.seq (.seq (.reg r32_3) (.cond (.t 8) (.reg r32_4) .skip)) (.seq (.seq (.reg r32_5) (.cond (.t 12) (.seq (.reg r32_6) .ret) .skip)) (.seq (.reg r32_7) .ret))))))
/-- limner/limnerref07.cosine -/
def F32 : SFun := ⟨23, c32, [.tmp 2]⟩

def r33_0 : List SOper := [
  ⟨(some 4), .mv (.c (.one (.sc (.bool false)))), none⟩]
def r33_1 : List SOper := [
  ⟨(some 5), .mv (.t 0), none⟩,
  ⟨(some 6), .mv (.t 1), none⟩,
  ⟨(some 7), .call .q 53 [(.t 5), (.t 6)], none⟩,
  ⟨(some 8), .bin .geq (.t 7) (.c (.one (.sc (.int .i64 0)))), none⟩,
  ⟨(some 4), .mv (.t 8), none⟩]
def c33 : SC := (.seq (.reg r33_0) (.seq (.reg r33_1) .ret))
/-- slices.ContainsFunc[[]limner/geom.Point,limner/geom.Point] -/
def F33 : SFun := ⟨9, c33, [.tmp 4]⟩

def r34_0 : List SOper := [
  ⟨(some 1), .box (.t 0), none⟩,
  ⟨(some 2), .mv (.c (.one (.sc (.bool false)))), none⟩]
def r34_1 : List SOper := [
  ⟨(some 3), .loadA 2 (.t 1), none⟩,
  ⟨(some 4), .call (.z 1) 26 [(.t 3)], none⟩,
  ⟨(some 5), .un .not (.t 4), none⟩,
  ⟨(some 2), .mv (.t 5), none⟩]
def c34 : SC := (.seq (.reg r34_0) (.seq (.reg r34_1) .ret))
/-- limner/stroke.Stroke$1 -/
def F34 : SFun := ⟨6, c34, [.tmp 2]⟩

def r35_0 : List SOper := [
  ⟨(some 2), .mv (.c (.one (.sc (.slice none 0 0)))), none⟩]
def r35_1 : List SOper := [
  ⟨(some 6), .mv (.t 0), none⟩,
  ⟨(some 7), .len (.t 6), none⟩,
  ⟨(some 8), .bin .lss (.t 7) (.c (.one (.sc (.int .i64 2)))), none⟩]
def r35_2 : List SOper := [
  ⟨(some 9), .mv (.t 0), none⟩,
  ⟨(some 2), .mv (.t 9), none⟩]
def r35_3 : List SOper := [
  ⟨(some 3), .mv (.c (.one (.sc (.int .i64 1)))), none⟩]
def r35_4 : List SOper := [
  ⟨(some 10), .mv (.t 3), none⟩,
  ⟨(some 11), .mv (.t 0), none⟩,
  ⟨(some 12), .len (.t 11), none⟩,
  ⟨(some 13), .bin .lss (.t 10) (.t 12), none⟩]
def r35_6 : List SOper := [
  ⟨(some 16), .mv (.t 0), none⟩,
  ⟨(some 17), .mv (.t 3), none⟩,
  ⟨(some 18), .iadrS 2 (.t 16) (.t 17), none⟩,
  ⟨(some 19), .loadA 2 (.t 18), none⟩,
  ⟨(some 20), .mv (.t 0), none⟩,
  ⟨(some 21), .mv (.t 3), none⟩,
  ⟨(some 22), .bin .sub (.t 21) (.c (.one (.sc (.int .i64 1)))), none⟩,
  ⟨(some 23), .iadrS 2 (.t 20) (.t 22), none⟩,
  ⟨(some 24), .loadA 2 (.t 23), none⟩,
  ⟨(some 25), .eqv [.i, .i] false (.t 19) (.t 24), none⟩]
def r35_7 : List SOper := [
  ⟨(some 26), .mv (.t 0), none⟩,
  ⟨(some 27), .mv (.t 3), none⟩,
  ⟨(some 28), .slS 2 (.t 26) (some (.t 27)) none none, none⟩,
  ⟨(some 4), .mv (.t 28), none⟩]
def r35_8 : List SOper := [
  ⟨(some 5), .mv (.c (.one (.sc (.int .i64 1)))), none⟩]
def r35_9 : List SOper := [
  ⟨(some 29), .mv (.t 5), none⟩,
  ⟨(some 30), .mv (.t 4), none⟩,
  ⟨(some 31), .len (.t 30), none⟩,
  ⟨(some 32), .bin .lss (.t 29) (.t 31), none⟩]
def r35_11 : List SOper := [
  ⟨(some 35), .mv (.t 4), none⟩,
  ⟨(some 36), .mv (.t 5), none⟩,
  ⟨(some 37), .iadrS 2 (.t 35) (.t 36), none⟩,
  ⟨(some 38), .loadA 2 (.t 37), none⟩,
  ⟨(some 39), .mv (.t 4), none⟩,
  ⟨(some 40), .mv (.t 5), none⟩,
  ⟨(some 41), .bin .sub (.t 40) (.c (.one (.sc (.int .i64 1)))), none⟩,
  ⟨(some 42), .iadrS 2 (.t 39) (.t 41), none⟩,
  ⟨(some 43), .loadA 2 (.t 42), none⟩,
  ⟨(some 44), .eqv [.i, .i] true (.t 38) (.t 43), none⟩]
def r35_12 : List SOper := [
  ⟨(some 45), .mv (.t 0), none⟩,
  ⟨(some 46), .mv (.t 3), none⟩,
  ⟨(some 47), .mv (.t 4), none⟩,
  ⟨(some 48), .mv (.t 5), none⟩,
  ⟨(some 49), .iadrS 2 (.t 47) (.t 48), none⟩,
  ⟨(some 50), .loadA 2 (.t 49), none⟩,
  ⟨(some 51), .iadrS 2 (.t 45) (.t 46), none⟩,
  ⟨none, .store 2 (.t 51) (.t 50), none⟩]
def r35_13 : List SOper := [
  ⟨(some 52), .mv (.t 3), none⟩,
  ⟨(some 53), .bin .add (.t 52) (.c (.one (.sc (.int .i64 1)))), none⟩,
  ⟨(some 3), .mv (.t 53), none⟩]
def r35_10 : List SOper := [
  ⟨(some 33), .mv (.t 5), none⟩,
  ⟨(some 34), .bin .add (.t 33) (.c (.one (.sc (.int .i64 1)))), none⟩,
  ⟨(some 5), .mv (.t 34), none⟩]
def l35_0 : SC := (.seq (.seq (.reg r35_9) (.cond (.t 32) .skip (.exit 2))) (.seq (.block 3 (.seq (.reg r35_11) (.cond (.t 44) (.seq (.reg r35_12) (.reg r35_13)) .skip))) (.reg r35_10)))
def r35_14 : List SOper := [
  ⟨(some 54), .mv (.t 0), none⟩,
  ⟨(some 55), .mv (.t 3), none⟩,
  ⟨(some 56), .slS 2 (.t 54) (some (.t 55)) none none, none⟩,
  ⟨none, .clr [.sc (.int .i64 0), .sc (.int .i64 0)] 2 (.t 56), none⟩]
def r35_15 : List SOper := [
  ⟨(some 57), .mv (.t 0), none⟩,
  ⟨(some 58), .mv (.t 3), none⟩,
  ⟨(some 59), .slS 2 (.t 57) none (some (.t 58)) none, none⟩,
  ⟨(some 2), .mv (.t 59), none⟩]
def r35_5 : List SOper := [
  ⟨(some 14), .mv (.t 3), none⟩,
  ⟨(some 15), .bin .add (.t 14) (.c (.one (.sc (.int .i64 1)))), none⟩,
  ⟨(some 3), .mv (.t 15), none⟩]
def l35_1 : SC := (.seq (.seq (.reg r35_4) (.cond (.t 13) .skip (.exit 0))) (.seq (.block 1 (.seq (.reg r35_6) (.cond (.t 25) (.seq (.reg r35_7) (.seq (.seq (.reg r35_8) (.block 2 (.loop l35_0))) (.seq (.reg r35_14) (.seq (.reg r35_15) .ret)))) .skip))) (.reg r35_5)))
def r35_16 : List SOper := [
  ⟨(some 60), .mv (.t 0), none⟩,
  ⟨(some 2), .mv (.t 60), none⟩]
def c35 : SC := (.seq (.reg r35_0) (.seq (.seq (.reg r35_1) (.cond (.t 8) (.seq (.reg r35_2) .ret) .skip)) (.seq (.seq (.reg r35_3) (.block 0 (.loop l35_1))) (.seq (.reg r35_16) .ret))))
/-- slices.Compact[[]limner/geom.Point,limner/geom.Point] -/
def F35 : SFun := ⟨61, c35, [.tmp 2]⟩

def r36_0 : List SOper := [
  ⟨(some 2), .mv (.c (.one (.sc (.slice none 0 0)))), none⟩]
def r36_1 : List SOper := [
  ⟨(some 3), .mv (.t 0), none⟩,
  ⟨(some 4), .eqnil 0 false (.t 3), none⟩]
def r36_2 : List SOper := [
  ⟨(some 2), .mv (.c (.one (.sc (.slice none 0 0)))), none⟩]
def r36_3 : List SOper := [
  ⟨(some 5), .bslice [] 0 2 [], none⟩,
  ⟨(some 6), .mv (.t 0), none⟩,
  ⟨(some 7), .app 2 16 (.t 5) (.t 6), none⟩,
  ⟨(some 2), .mv (.t 7), none⟩]
def c36 : SC := (.seq (.reg r36_0) (.seq (.seq (.reg r36_1) (.cond (.t 4) (.seq (.reg r36_2) .ret) .skip)) (.seq (.reg r36_3) .ret)))
/-- slices.Clone[[]limner/geom.Point,limner/geom.Point] -/
def F36 : SFun := ⟨8, c36, [.tmp 2]⟩

def r37_0 : List SOper := [
  ⟨(some 6), .mv (.t 0), none⟩,
  ⟨(some 7), .nilchk (.t 6), none⟩,
  ⟨(some 8), .fadr 2 (.t 7), none⟩,
  ⟨(some 9), .load1 (.t 8), none⟩,
  ⟨(some 10), .bin .eql (.t 9) (.c (.one (.sc (.int .i64 0)))), none⟩]
def r37_1 : List SOper := [
  ⟨(some 11), .mv (.t 0), none⟩,
  ⟨(some 12), .mv (.t 2), none⟩,
  ⟨(some 13), .nilchk (.t 11), none⟩,
  ⟨(some 14), .fadr 2 (.t 13), none⟩,
  ⟨none, .store 1 (.t 14) (.t 12), none⟩]
def r37_2 : List SOper := [
  ⟨(some 15), .mv (.t 0), none⟩,
  ⟨(some 16), .mv (.t 0), none⟩,
  ⟨(some 17), .nilchk (.t 16), none⟩,
  ⟨(some 18), .fadr 1 (.t 17), none⟩,
  ⟨(some 19), .load1 (.t 18), none⟩,
  ⟨(some 20), .mv (.t 1), none⟩,
  ⟨(some 21), .bslice [.sc (.slice none 0 0)] 1 1 [(0, 1, (.t 20))], none⟩,
  ⟨(some 22), .app 1 24 (.t 19) (.t 21), none⟩,
  ⟨(some 23), .nilchk (.t 15), none⟩,
  ⟨(some 24), .fadr 1 (.t 23), none⟩,
  ⟨none, .store 1 (.t 24) (.t 22), none⟩]
def c37 : SC := (.seq (.reg r37_0) (.cond (.t 10) (.seq (.reg r37_1) (.reg r37_2)) .skip))
/-- (*limner/stroke.pen).leave -/
def F37 : SFun := ⟨25, c37, []⟩

def r38_0 : List SOper := [
  ⟨(some 2), .box (.t 0), none⟩,
  ⟨(some 3), .box (.t 1), none⟩,
  ⟨(some 4), .alloc [.sc (.int .i64 0), .sc (.int .i64 0)], none⟩]
def r38_1 : List SOper := [
  ⟨(some 5), .fadr 0 (.t 2), none⟩,
  ⟨(some 6), .load1 (.t 5), none⟩,
  ⟨(some 7), .fadr 0 (.t 3), none⟩,
  ⟨(some 8), .load1 (.t 7), none⟩,
  ⟨(some 9), .bin .sub (.t 6) (.t 8), none⟩,
  ⟨(some 10), .fadr 1 (.t 2), none⟩,
  ⟨(some 11), .load1 (.t 10), none⟩,
  ⟨(some 12), .fadr 1 (.t 3), none⟩,
  ⟨(some 13), .load1 (.t 12), none⟩,
  ⟨(some 14), .bin .sub (.t 11) (.t 13), none⟩,
  ⟨(some 15), .build [.sc (.int .i64 0), .sc (.int .i64 0)] [(0, 1, (.t 9)), (1, 1, (.t 14))], none⟩,
  ⟨none, .store 2 (.t 4) (.t 15), none⟩]
def c38 : SC := (.seq (.reg r38_0) (.seq (.reg r38_1) .ret))
/-- limner/stroke.less -/
def F38 : SFun := ⟨16, c38, [.cellA 4 2]⟩

def r39_0 : List SOper := [
  ⟨(some 10), .mv (.t 1), none⟩,
  ⟨(some 11), .len (.t 10), none⟩,
  ⟨(some 12), .bin .sub (.t 11) (.c (.one (.sc (.int .i64 1)))), none⟩,
  ⟨(some 6), .mv (.t 12), none⟩]
def r39_1 : List SOper := [
  ⟨(some 13), .mv (.t 6), none⟩,
  ⟨(some 14), .mv (.c (.one (.sc (.int .i64 0)))), none⟩]
def r39_2 : List SOper := [
  ⟨(some 15), .bin .lss (.t 14) (.t 13), none⟩]
def r39_3 : List SOper := [
  ⟨(some 16), .mv (.t 14), none⟩,
  ⟨(some 7), .mv (.t 16), none⟩]
def r39_4 : List SOper := [
  ⟨(some 17), .mv (.t 0), none⟩,
  ⟨(some 18), .mv (.t 1), none⟩,
  ⟨(some 19), .mv (.t 7), none⟩,
  ⟨(some 20), .iadrS 2 (.t 18) (.t 19), none⟩,
  ⟨(some 21), .loadA 2 (.t 20), none⟩,
  ⟨(some 22), .mv (.t 1), none⟩,
  ⟨(some 23), .mv (.t 7), none⟩,
  ⟨(some 24), .bin .add (.t 23) (.c (.one (.sc (.int .i64 1)))), none⟩,
  ⟨(some 25), .iadrS 2 (.t 22) (.t 24), none⟩,
  ⟨(some 26), .loadA 2 (.t 25), none⟩,
  ⟨(some 27), .mv (.t 0), none⟩,
  ⟨(some 28), .nilchk (.t 27), none⟩,
  ⟨(some 29), .fadr 0 (.t 28), none⟩,
  ⟨(some 30), .load1 (.t 29), none⟩,
  ⟨(some 31), .call .k 19 [(.t 21), (.t 26), (.t 30)], none⟩,
  ⟨(some 32), .ext (.t 31) 0, none⟩,
  ⟨(some 33), .ext (.t 31) 1, none⟩,
  ⟨(some 34), .call .w 37 [(.t 17), (.t 32), (.t 33)], none⟩]
def r39_5 : List SOper := [
  ⟨(some 35), .bin .add (.t 14) (.c (.one (.sc (.int .i64 1)))), none⟩,
  ⟨(some 14), .mv (.t 35), none⟩]
def l39_0 : SC := (.seq (.reg r39_2) (.seq (.cond (.t 15) .skip (.exit 0)) (.seq (.block 1 (.seq (.reg r39_3) (.reg r39_4))) (.reg r39_5))))
def r39_6 : List SOper := [
  ⟨(some 36), .mv (.t 2), none⟩]
def r39_7 : List SOper := [
  ⟨(some 37), .mv (.t 0), none⟩,
  ⟨(some 38), .mv (.t 1), none⟩,
  ⟨(some 39), .mv (.t 6), none⟩,
  ⟨(some 40), .iadrS 2 (.t 38) (.t 39), none⟩,
  ⟨(some 41), .loadA 2 (.t 40), none⟩,
  ⟨(some 42), .mv (.t 1), none⟩,
  ⟨(some 43), .iadrS 2 (.t 42) (.c (.one (.sc (.int .i64 0)))), none⟩,
  ⟨(some 44), .loadA 2 (.t 43), none⟩,
  ⟨(some 45), .mv (.t 0), none⟩,
  ⟨(some 46), .nilchk (.t 45), none⟩,
  ⟨(some 47), .fadr 0 (.t 46), none⟩,
  ⟨(some 48), .load1 (.t 47), none⟩,
  ⟨(some 49), .call .k 19 [(.t 41), (.t 44), (.t 48)], none⟩,
  ⟨(some 50), .ext (.t 49) 0, none⟩,
  ⟨(some 51), .ext (.t 49) 1, none⟩,
  ⟨(some 52), .call .w 37 [(.t 37), (.t 50), (.t 51)], none⟩]
def r39_8 : List SOper := [
  ⟨(some 53), .mv (.t 1), none⟩,
  ⟨(some 54), .len (.t 53), none⟩,
  ⟨(some 55), .mv (.c (.one (.sc (.int .i64 0)))), none⟩]
def r39_9 : List SOper := [
  ⟨(some 56), .bin .lss (.t 55) (.t 54), none⟩]
def r39_10 : List SOper := [
  ⟨(some 57), .mv (.t 55), none⟩,
  ⟨(some 58), .iadrS 2 (.t 53) (.t 55), none⟩,
  ⟨(some 59), .loadA 2 (.t 58), none⟩,
  ⟨(some 9), .alloc [.sc (.int .i64 0), .sc (.int .i64 0)], none⟩,
  ⟨(some 8), .mv (.t 57), none⟩,
  ⟨none, .store 2 (.t 9) (.t 59), none⟩]
def r39_11 : List SOper := [
  ⟨(some 60), .mv (.t 2), none⟩,
  ⟨(some 61), .mv (.t 60), none⟩,
  ⟨(some 62), .mv (.t 8), (some (some 61, false))⟩,
  ⟨(some 63), .bin .gtr (.t 62) (.c (.one (.sc (.int .i64 0)))), (some (some 61, false))⟩,
  ⟨(some 64), .mv (.t 63), (some (some 61, false))⟩,
  ⟨(some 65), .mv (.t 8), (some (some 64, true))⟩,
  ⟨(some 66), .mv (.t 6), (some (some 64, true))⟩,
  ⟨(some 67), .bin .lss (.t 65) (.t 66), (some (some 64, true))⟩,
  ⟨(some 68), .pick (.t 64) (.t 67) (.c (.one (.sc (.bool false)))), (some (some 61, false))⟩,
  ⟨(some 69), .pick (.t 61) (.c (.one (.sc (.bool true)))) (.t 68), none⟩]
def r39_12 : List SOper := [
  ⟨(some 70), .mv (.t 0), none⟩,
  ⟨(some 71), .loadA 2 (.t 9), none⟩,
  ⟨(some 72), .mv (.t 0), none⟩,
  ⟨(some 73), .nilchk (.t 72), none⟩,
  ⟨(some 74), .fadr 0 (.t 73), none⟩,
  ⟨(some 75), .load1 (.t 74), none⟩,
  ⟨(some 76), .call .k 8 [(.t 71), (.t 75)], none⟩,
  ⟨(some 77), .ext (.t 76) 0, none⟩,
  ⟨(some 78), .ext (.t 76) 1, none⟩,
  ⟨(some 79), .call .w 37 [(.t 70), (.t 77), (.t 78)], none⟩]
def r39_13 : List SOper := [
  ⟨(some 80), .bin .add (.t 55) (.c (.one (.sc (.int .i64 1)))), none⟩,
  ⟨(some 55), .mv (.t 80), none⟩]
def l39_1 : SC := (.seq (.reg r39_9) (.seq (.cond (.t 56) .skip (.exit 2)) (.seq (.block 3 (.seq (.reg r39_10) (.seq (.reg r39_11) (.cond (.t 69) (.reg r39_12) .skip)))) (.reg r39_13))))
def c39 : SC := (.seq (.reg r39_0) (.seq (.seq (.reg r39_1) (.block 0 (.loop l39_0))) (.seq (.seq (.reg r39_6) (.cond (.t 36) (.reg r39_7) .skip)) (.seq (.reg r39_8) (.block 2 (.loop l39_1))))))
/-- (*limner/stroke.pen).along -/
def F39 : SFun := ⟨81, c39, []⟩

def r40_0 : List SOper := [
  ⟨(some 6), .box (.t 1), none⟩,
  ⟨(some 7), .box (.t 2), none⟩,
  ⟨(some 8), .box (.t 3), none⟩,
  ⟨(some 9), .box (.t 4), none⟩]
def r40_1 : List SOper := [
  ⟨(some 14), .loadA 2 (.t 6), none⟩,
  ⟨(some 15), .loadA 2 (.t 7), none⟩,
  ⟨(some 16), .mv (.t 0), none⟩,
  ⟨(some 17), .nilchk (.t 16), none⟩,
  ⟨(some 18), .fadr 0 (.t 17), none⟩,
  ⟨(some 19), .load1 (.t 18), none⟩,
  ⟨(some 20), .call (.z 1) 46 [(.t 14), (.t 15), (.t 19)], none⟩,
  ⟨(some 13), .mv (.t 20), none⟩,
  ⟨(some 21), .ext (.t 13) 0, none⟩,
  ⟨(some 22), .ext (.t 13) 1, none⟩,
  ⟨(some 23), .ext (.t 13) 2, none⟩,
  ⟨(some 10), .alloc [.sc (.int .i64 0), .sc (.int .i64 0)], none⟩,
  ⟨(some 11), .alloc [.sc (.int .i64 0), .sc (.int .i64 0)], none⟩,
  ⟨none, .store 2 (.t 10) (.t 21), none⟩,
  ⟨none, .store 2 (.t 11) (.t 22), none⟩,
  ⟨(some 12), .mv (.t 23), none⟩]
def r40_2 : List SOper := [
  ⟨(some 24), .mv (.t 0), none⟩,
  ⟨(some 25), .loadA 2 (.t 6), none⟩,
  ⟨(some 26), .loadA 2 (.t 10), none⟩,
  ⟨(some 27), .call (.z 1) 38 [(.t 25), (.t 26)], none⟩,
  ⟨(some 28), .loadA 2 (.t 11), none⟩,
  ⟨(some 29), .call (.z 1) 38 [(.t 27), (.t 28)], none⟩,
  ⟨(some 30), .loadA 2 (.t 6), none⟩,
  ⟨(some 31), .loadA 2 (.t 10), none⟩,
  ⟨(some 32), .call (.z 1) 38 [(.t 30), (.t 31)], none⟩,
  ⟨(some 33), .loadA 2 (.t 6), none⟩,
  ⟨(some 34), .loadA 2 (.t 10), none⟩,
  ⟨(some 35), .call (.z 1) 27 [(.t 33), (.t 34)], none⟩,
  ⟨(some 36), .loadA 2 (.t 6), none⟩,
  ⟨(some 37), .loadA 2 (.t 10), none⟩,
  ⟨(some 38), .call (.z 1) 27 [(.t 36), (.t 37)], none⟩,
  ⟨(some 39), .loadA 2 (.t 11), none⟩,
  ⟨(some 40), .call (.z 1) 38 [(.t 38), (.t 39)], none⟩,
  ⟨(some 41), .bslice [.sc (.int .i64 0), .sc (.int .i64 0), .sc (.int .i64 0), .sc (.int .i64 0), .sc (.int .i64 0), .sc (.int .i64 0), .sc (.int .i64 0), .sc (.int .i64 0)] 4 2 [(0, 2, (.t 29)), (2, 2, (.t 32)), (4, 2, (.t 35)), (6, 2, (.t 40))], none⟩,
  ⟨(some 42), .call .k 29 [(.t 41)], none⟩,
  ⟨(some 43), .ext (.t 42) 0, none⟩,
  ⟨(some 44), .ext (.t 42) 1, none⟩,
  ⟨(some 45), .call .w 37 [(.t 24), (.t 43), (.t 44)], none⟩]
def r40_3 : List SOper := [
  ⟨(some 47), .loadA 2 (.t 8), none⟩,
  ⟨(some 48), .loadA 2 (.t 9), none⟩,
  ⟨(some 49), .mv (.t 0), none⟩,
  ⟨(some 50), .nilchk (.t 49), none⟩,
  ⟨(some 51), .fadr 0 (.t 50), none⟩,
  ⟨(some 52), .load1 (.t 51), none⟩,
  ⟨(some 53), .call (.z 1) 46 [(.t 47), (.t 48), (.t 52)], none⟩,
  ⟨(some 46), .mv (.t 53), none⟩,
  ⟨(some 54), .ext (.t 46) 0, none⟩,
  ⟨(some 55), .ext (.t 46) 1, none⟩,
  ⟨(some 56), .ext (.t 46) 2, none⟩,
  ⟨none, .store 2 (.t 10) (.t 54), none⟩,
  ⟨none, .store 2 (.t 11) (.t 55), none⟩]
def r40_4 : List SOper := [
  ⟨(some 57), .mv (.t 0), none⟩,
  ⟨(some 58), .loadA 2 (.t 9), none⟩,
  ⟨(some 59), .loadA 2 (.t 10), none⟩,
  ⟨(some 60), .call (.z 1) 38 [(.t 58), (.t 59)], none⟩,
  ⟨(some 61), .loadA 2 (.t 9), none⟩,
  ⟨(some 62), .loadA 2 (.t 10), none⟩,
  ⟨(some 63), .call (.z 1) 38 [(.t 61), (.t 62)], none⟩,
  ⟨(some 64), .loadA 2 (.t 11), none⟩,
  ⟨(some 65), .call (.z 1) 27 [(.t 63), (.t 64)], none⟩,
  ⟨(some 66), .loadA 2 (.t 9), none⟩,
  ⟨(some 67), .loadA 2 (.t 10), none⟩,
  ⟨(some 68), .call (.z 1) 27 [(.t 66), (.t 67)], none⟩,
  ⟨(some 69), .loadA 2 (.t 11), none⟩,
  ⟨(some 70), .call (.z 1) 27 [(.t 68), (.t 69)], none⟩,
  ⟨(some 71), .loadA 2 (.t 9), none⟩,
  ⟨(some 72), .loadA 2 (.t 10), none⟩,
  ⟨(some 73), .call (.z 1) 27 [(.t 71), (.t 72)], none⟩,
  ⟨(some 74), .bslice [.sc (.int .i64 0), .sc (.int .i64 0), .sc (.int .i64 0), .sc (.int .i64 0), .sc (.int .i64 0), .sc (.int .i64 0), .sc (.int .i64 0), .sc (.int .i64 0)] 4 2 [(0, 2, (.t 60)), (2, 2, (.t 65)), (4, 2, (.t 70)), (6, 2, (.t 73))], none⟩,
  ⟨(some 75), .call .k 29 [(.t 74)], none⟩,
  ⟨(some 76), .ext (.t 75) 0, none⟩,
  ⟨(some 77), .ext (.t 75) 1, none⟩,
  ⟨(some 78), .call .w 37 [(.t 57), (.t 76), (.t 77)], none⟩]
def c40 : SC := (.seq (.reg r40_0) (.seq (.ureg [14, 15, 16, 17, 18, 19, 20, 13, 21, 22, 23] [] r40_1) (.seq (.reg r40_2) (.seq (.reg r40_3) (.reg r40_4)))))
/-- (*limner/stroke.pen).caps -/
def F40 : SFun := ⟨79, c40, []⟩

def r41_0 : List SOper := [
  ⟨(some 4), .mv (.c (.one (.sc (.slice none 0 0)))), none⟩]
def r41_1 : List SOper := [
  ⟨(some 5), .mv (.c (.one (.sc (.slice none 0 0)))), none⟩]
def r41_2 : List SOper := [
  ⟨(some 6), .mv (.c (.one (.sc (.int .i64 0)))), none⟩]
def r41_3 : List SOper := [
  ⟨(some 7), .mv (.t 6), none⟩,
  ⟨(some 8), .mv (.t 0), none⟩,
  ⟨(some 9), .len (.t 8), none⟩,
  ⟨(some 10), .bin .lss (.t 7) (.t 9), none⟩]
def r41_5 : List SOper := [
  ⟨(some 13), .mv (.t 6), none⟩,
  ⟨(some 14), .bin .eql (.t 13) (.c (.one (.sc (.int .i64 0)))), none⟩,
  ⟨(some 15), .mv (.t 14), none⟩,
  ⟨(some 16), .mv (.t 0), (some (some 15, false))⟩,
  ⟨(some 17), .mv (.t 6), (some (some 15, false))⟩,
  ⟨(some 18), .iadrS 2 (.t 16) (.t 17), (some (some 15, false))⟩,
  ⟨(some 19), .loadA 2 (.t 18), (some (some 15, false))⟩,
  ⟨(some 20), .mv (.t 0), (some (some 15, false))⟩,
  ⟨(some 21), .mv (.t 6), (some (some 15, false))⟩,
  ⟨(some 22), .bin .sub (.t 21) (.c (.one (.sc (.int .i64 1)))), (some (some 15, false))⟩,
  ⟨(some 23), .iadrS 2 (.t 20) (.t 22), (some (some 15, false))⟩,
  ⟨(some 24), .loadA 2 (.t 23), (some (some 15, false))⟩,
  ⟨(some 25), .eqv [.i, .i] true (.t 19) (.t 24), (some (some 15, false))⟩,
  ⟨(some 26), .pick (.t 15) (.c (.one (.sc (.bool true)))) (.t 25), none⟩]
def r41_6 : List SOper := [
  ⟨(some 27), .mv (.t 5), none⟩,
  ⟨(some 28), .mv (.t 0), none⟩,
  ⟨(some 29), .mv (.t 6), none⟩,
  ⟨(some 30), .iadrS 2 (.t 28) (.t 29), none⟩,
  ⟨(some 31), .loadA 2 (.t 30), none⟩,
  ⟨(some 32), .bslice [.sc (.int .i64 0), .sc (.int .i64 0)] 1 2 [(0, 2, (.t 31))], none⟩,
  ⟨(some 33), .app 2 16 (.t 27) (.t 32), none⟩,
  ⟨(some 5), .mv (.t 33), none⟩]
def r41_4 : List SOper := [
  ⟨(some 11), .mv (.t 6), none⟩,
  ⟨(some 12), .bin .add (.t 11) (.c (.one (.sc (.int .i64 1)))), none⟩,
  ⟨(some 6), .mv (.t 12), none⟩]
def l41_0 : SC := (.seq (.seq (.reg r41_3) (.cond (.t 10) .skip (.exit 0))) (.seq (.block 1 (.seq (.reg r41_5) (.cond (.t 26) (.reg r41_6) .skip))) (.reg r41_4)))
def r41_7 : List SOper := [
  ⟨(some 34), .mv (.t 1), none⟩,
  ⟨(some 35), .mv (.t 34), none⟩,
  ⟨(some 36), .mv (.t 5), (some (some 35, true))⟩,
  ⟨(some 37), .len (.t 36), (some (some 35, true))⟩,
  ⟨(some 38), .bin .gtr (.t 37) (.c (.one (.sc (.int .i64 1)))), (some (some 35, true))⟩,
  ⟨(some 39), .pick (.t 35) (.t 38) (.c (.one (.sc (.bool false)))), none⟩,
  ⟨(some 40), .mv (.t 39), none⟩,
  ⟨(some 41), .mv (.t 5), (some (some 40, true))⟩,
  ⟨(some 42), .mv (.t 5), (some (some 40, true))⟩,
  ⟨(some 43), .len (.t 42), (some (some 40, true))⟩,
  ⟨(some 44), .bin .sub (.t 43) (.c (.one (.sc (.int .i64 1)))), (some (some 40, true))⟩,
  ⟨(some 45), .iadrS 2 (.t 41) (.t 44), (some (some 40, true))⟩,
  ⟨(some 46), .loadA 2 (.t 45), (some (some 40, true))⟩,
  ⟨(some 47), .mv (.t 5), (some (some 40, true))⟩,
  ⟨(some 48), .iadrS 2 (.t 47) (.c (.one (.sc (.int .i64 0)))), (some (some 40, true))⟩,
  ⟨(some 49), .loadA 2 (.t 48), (some (some 40, true))⟩,
  ⟨(some 50), .eqv [.i, .i] false (.t 46) (.t 49), (some (some 40, true))⟩,
  ⟨(some 51), .pick (.t 40) (.t 50) (.c (.one (.sc (.bool false)))), none⟩]
def r41_8 : List SOper := [
  ⟨(some 52), .mv (.t 5), none⟩,
  ⟨(some 53), .mv (.t 5), none⟩,
  ⟨(some 54), .len (.t 53), none⟩,
  ⟨(some 55), .bin .sub (.t 54) (.c (.one (.sc (.int .i64 1)))), none⟩,
  ⟨(some 56), .slS 2 (.t 52) none (some (.t 55)) none, none⟩,
  ⟨(some 5), .mv (.t 56), none⟩]
def l41_1 : SC := (.seq (.seq (.reg r41_7) (.cond (.t 51) .skip (.exit 2))) (.block 3 (.reg r41_8)))
def r41_9 : List SOper := [
  ⟨(some 57), .mv (.t 5), none⟩,
  ⟨(some 4), .mv (.t 57), none⟩]
def c41 : SC := (.seq (.reg r41_0) (.seq (.reg r41_1) (.seq (.seq (.reg r41_2) (.block 0 (.loop l41_0))) (.seq (.block 2 (.loop l41_1)) (.seq (.reg r41_9) .ret)))))
/-- limner/limnerref07.Plain -/
def F41 : SFun := ⟨58, c41, [.tmp 4]⟩

def r42_0 : List SOper := [
  ⟨(some 2), .box (.t 0), none⟩,
  ⟨(some 3), .box (.t 1), none⟩,
  ⟨(some 4), .mv (.c (.one (.sc (.bool false)))), none⟩]
def r42_1 : List SOper := [
  ⟨(some 7), .fadr 0 (.t 3), none⟩,
  ⟨(some 8), .load1 (.t 7), none⟩,
  ⟨(some 9), .fadr 0 (.t 2), none⟩,
  ⟨(some 10), .load1 (.t 9), none⟩,
  ⟨(some 11), .bin .sub (.t 8) (.t 10), none⟩,
  ⟨(some 12), .fadr 1 (.t 3), none⟩,
  ⟨(some 13), .load1 (.t 12), none⟩,
  ⟨(some 14), .fadr 1 (.t 2), none⟩,
  ⟨(some 15), .load1 (.t 14), none⟩,
  ⟨(some 16), .bin .sub (.t 13) (.t 15), none⟩,
  ⟨(some 5), .mv (.t 11), none⟩,
  ⟨(some 6), .mv (.t 16), none⟩]
def r42_2 : List SOper := [
  ⟨(some 17), .mv (.t 5), none⟩,
  ⟨(some 18), .bin .gtr (.t 17) (.c (.one (.sc (.int .i64 536870912)))), none⟩,
  ⟨(some 19), .mv (.t 18), none⟩,
  ⟨(some 20), .mv (.t 5), (some (some 19, false))⟩,
  ⟨(some 21), .bin .lss (.t 20) (.c (.one (.sc (.int .i64 (-536870912))))), (some (some 19, false))⟩,
  ⟨(some 22), .pick (.t 19) (.c (.one (.sc (.bool true)))) (.t 21), none⟩,
  ⟨(some 23), .mv (.t 22), none⟩,
  ⟨(some 24), .mv (.t 6), (some (some 23, false))⟩,
  ⟨(some 25), .bin .gtr (.t 24) (.c (.one (.sc (.int .i64 536870912)))), (some (some 23, false))⟩,
  ⟨(some 26), .pick (.t 23) (.c (.one (.sc (.bool true)))) (.t 25), none⟩,
  ⟨(some 27), .mv (.t 26), none⟩,
  ⟨(some 28), .mv (.t 6), (some (some 27, false))⟩,
  ⟨(some 29), .bin .lss (.t 28) (.c (.one (.sc (.int .i64 (-536870912))))), (some (some 27, false))⟩,
  ⟨(some 30), .pick (.t 27) (.c (.one (.sc (.bool true)))) (.t 29), none⟩,
  ⟨(some 4), .mv (.t 30), none⟩]
def c42 : SC := (.seq (.reg r42_0) (.seq (.reg r42_1) (.seq (.reg r42_2) .ret)))
/-- limner/limnerref07.Long -/
def F42 : SFun := ⟨31, c42, [.tmp 4]⟩

def r43_0 : List SOper := [
  ⟨(some 3), .box (.t 0), none⟩,
  ⟨(some 4), .box (.t 1), none⟩,
  ⟨(some 6), .mv (.c (.one (.sc (.slice none 0 0)))), none⟩]
def r43_1 : List SOper := [
  ⟨(some 10), .loadA 2 (.t 3), none⟩,
  ⟨(some 11), .loadA 2 (.t 4), none⟩,
  ⟨(some 12), .mv (.t 2), none⟩,
  ⟨(some 13), .call (.z 1) 54 [(.t 10), (.t 11), (.t 12)], none⟩,
  ⟨(some 9), .mv (.t 13), none⟩,
  ⟨(some 14), .ext (.t 9) 0, none⟩,
  ⟨(some 15), .ext (.t 9) 1, none⟩,
  ⟨(some 7), .alloc [.sc (.int .i64 0), .sc (.int .i64 0)], none⟩,
  ⟨(some 8), .alloc [.sc (.int .i64 0), .sc (.int .i64 0)], none⟩,
  ⟨none, .store 2 (.t 7) (.t 14), none⟩,
  ⟨none, .store 2 (.t 8) (.t 15), none⟩]
def r43_2 : List SOper := [
  ⟨(some 16), .loadA 2 (.t 3), none⟩,
  ⟨(some 17), .loadA 2 (.t 7), none⟩,
  ⟨(some 18), .loadA 2 (.t 8), none⟩,
  ⟨(some 19), .call (.z 1) 55 [(.t 16), (.c (.one (.sc (.int .i64 (-1))))), (.t 17), (.c (.one (.sc (.int .i64 0)))), (.t 18)], none⟩,
  ⟨(some 20), .loadA 2 (.t 4), none⟩,
  ⟨(some 21), .loadA 2 (.t 7), none⟩,
  ⟨(some 22), .loadA 2 (.t 8), none⟩,
  ⟨(some 23), .call (.z 1) 55 [(.t 20), (.c (.one (.sc (.int .i64 (-1))))), (.t 21), (.c (.one (.sc (.int .i64 0)))), (.t 22)], none⟩,
  ⟨(some 24), .loadA 2 (.t 4), none⟩,
  ⟨(some 25), .loadA 2 (.t 7), none⟩,
  ⟨(some 26), .loadA 2 (.t 8), none⟩,
  ⟨(some 27), .call (.z 1) 55 [(.t 24), (.c (.one (.sc (.int .i64 1)))), (.t 25), (.c (.one (.sc (.int .i64 0)))), (.t 26)], none⟩,
  ⟨(some 28), .loadA 2 (.t 3), none⟩,
  ⟨(some 29), .loadA 2 (.t 7), none⟩,
  ⟨(some 30), .loadA 2 (.t 8), none⟩,
  ⟨(some 31), .call (.z 1) 55 [(.t 28), (.c (.one (.sc (.int .i64 1)))), (.t 29), (.c (.one (.sc (.int .i64 0)))), (.t 30)], none⟩,
  ⟨(some 32), .bslice [.sc (.int .i64 0), .sc (.int .i64 0), .sc (.int .i64 0), .sc (.int .i64 0), .sc (.int .i64 0), .sc (.int .i64 0), .sc (.int .i64 0), .sc (.int .i64 0)] 4 2 [(0, 2, (.t 19)), (2, 2, (.t 23)), (4, 2, (.t 27)), (6, 2, (.t 31))], none⟩,
  ⟨(some 6), .mv (.t 32), none⟩]
def c43 : SC := (.seq (.reg r43_0) (.seq (.reg r43_1) (.seq (.reg r43_2) .ret)))
/-- limner/limnerref07.Bar -/
def F43 : SFun := ⟨33, c43, [.tmp 6]⟩

def r44_0 : List SOper := [
  ⟨(some 3), .box (.t 0), none⟩,
  ⟨(some 4), .box (.t 1), none⟩,
  ⟨(some 6), .mv (.c (.one (.sc (.slice none 0 0)))), none⟩]
def r44_1 : List SOper := [
  ⟨(some 10), .loadA 2 (.t 3), none⟩,
  ⟨(some 11), .loadA 2 (.t 4), none⟩,
  ⟨(some 12), .mv (.t 2), none⟩,
  ⟨(some 13), .call (.z 1) 54 [(.t 10), (.t 11), (.t 12)], none⟩,
  ⟨(some 9), .mv (.t 13), none⟩,
  ⟨(some 14), .ext (.t 9) 0, none⟩,
  ⟨(some 15), .ext (.t 9) 1, none⟩,
  ⟨(some 7), .alloc [.sc (.int .i64 0), .sc (.int .i64 0)], none⟩,
  ⟨(some 8), .alloc [.sc (.int .i64 0), .sc (.int .i64 0)], none⟩,
  ⟨none, .store 2 (.t 7) (.t 14), none⟩,
  ⟨none, .store 2 (.t 8) (.t 15), none⟩]
def r44_2 : List SOper := [
  ⟨(some 16), .loadA 2 (.t 3), none⟩,
  ⟨(some 17), .loadA 2 (.t 7), none⟩,
  ⟨(some 18), .loadA 2 (.t 8), none⟩,
  ⟨(some 19), .call (.z 1) 55 [(.t 16), (.c (.one (.sc (.int .i64 (-1))))), (.t 17), (.c (.one (.sc (.int .i64 (-1))))), (.t 18)], none⟩,
  ⟨(some 20), .loadA 2 (.t 3), none⟩,
  ⟨(some 21), .loadA 2 (.t 7), none⟩,
  ⟨(some 22), .loadA 2 (.t 8), none⟩,
  ⟨(some 23), .call (.z 1) 55 [(.t 20), (.c (.one (.sc (.int .i64 (-1))))), (.t 21), (.c (.one (.sc (.int .i64 0)))), (.t 22)], none⟩,
  ⟨(some 24), .loadA 2 (.t 3), none⟩,
  ⟨(some 25), .loadA 2 (.t 7), none⟩,
  ⟨(some 26), .loadA 2 (.t 8), none⟩,
  ⟨(some 27), .call (.z 1) 55 [(.t 24), (.c (.one (.sc (.int .i64 1)))), (.t 25), (.c (.one (.sc (.int .i64 0)))), (.t 26)], none⟩,
  ⟨(some 28), .loadA 2 (.t 3), none⟩,
  ⟨(some 29), .loadA 2 (.t 7), none⟩,
  ⟨(some 30), .loadA 2 (.t 8), none⟩,
  ⟨(some 31), .call (.z 1) 55 [(.t 28), (.c (.one (.sc (.int .i64 1)))), (.t 29), (.c (.one (.sc (.int .i64 (-1))))), (.t 30)], none⟩,
  ⟨(some 32), .bslice [.sc (.int .i64 0), .sc (.int .i64 0), .sc (.int .i64 0), .sc (.int .i64 0), .sc (.int .i64 0), .sc (.int .i64 0), .sc (.int .i64 0), .sc (.int .i64 0)] 4 2 [(0, 2, (.t 19)), (2, 2, (.t 23)), (4, 2, (.t 27)), (6, 2, (.t 31))], none⟩,
  ⟨(some 6), .mv (.t 32), none⟩]
def c44 : SC := (.seq (.reg r44_0) (.seq (.reg r44_1) (.seq (.reg r44_2) .ret)))
/-- limner/limnerref07.First -/
def F44 : SFun := ⟨33, c44, [.tmp 6]⟩

def r45_0 : List SOper := [
  ⟨(some 3), .box (.t 0), none⟩,
  ⟨(some 4), .box (.t 1), none⟩,
  ⟨(some 6), .mv (.c (.one (.sc (.slice none 0 0)))), none⟩]
def r45_1 : List SOper := [
  ⟨(some 10), .loadA 2 (.t 3), none⟩,
  ⟨(some 11), .loadA 2 (.t 4), none⟩,
  ⟨(some 12), .mv (.t 2), none⟩,
  ⟨(some 13), .call (.z 1) 54 [(.t 10), (.t 11), (.t 12)], none⟩,
  ⟨(some 9), .mv (.t 13), none⟩,
  ⟨(some 14), .ext (.t 9) 0, none⟩,
  ⟨(some 15), .ext (.t 9) 1, none⟩,
  ⟨(some 7), .alloc [.sc (.int .i64 0), .sc (.int .i64 0)], none⟩,
  ⟨(some 8), .alloc [.sc (.int .i64 0), .sc (.int .i64 0)], none⟩,
  ⟨none, .store 2 (.t 7) (.t 14), none⟩,
  ⟨none, .store 2 (.t 8) (.t 15), none⟩]
def r45_2 : List SOper := [
  ⟨(some 16), .loadA 2 (.t 4), none⟩,
  ⟨(some 17), .loadA 2 (.t 7), none⟩,
  ⟨(some 18), .loadA 2 (.t 8), none⟩,
  ⟨(some 19), .call (.z 1) 55 [(.t 16), (.c (.one (.sc (.int .i64 (-1))))), (.t 17), (.c (.one (.sc (.int .i64 0)))), (.t 18)], none⟩,
  ⟨(some 20), .loadA 2 (.t 4), none⟩,
  ⟨(some 21), .loadA 2 (.t 7), none⟩,
  ⟨(some 22), .loadA 2 (.t 8), none⟩,
  ⟨(some 23), .call (.z 1) 55 [(.t 20), (.c (.one (.sc (.int .i64 (-1))))), (.t 21), (.c (.one (.sc (.int .i64 1)))), (.t 22)], none⟩,
  ⟨(some 24), .loadA 2 (.t 4), none⟩,
  ⟨(some 25), .loadA 2 (.t 7), none⟩,
  ⟨(some 26), .loadA 2 (.t 8), none⟩,
  ⟨(some 27), .call (.z 1) 55 [(.t 24), (.c (.one (.sc (.int .i64 1)))), (.t 25), (.c (.one (.sc (.int .i64 1)))), (.t 26)], none⟩,
  ⟨(some 28), .loadA 2 (.t 4), none⟩,
  ⟨(some 29), .loadA 2 (.t 7), none⟩,
  ⟨(some 30), .loadA 2 (.t 8), none⟩,
  ⟨(some 31), .call (.z 1) 55 [(.t 28), (.c (.one (.sc (.int .i64 1)))), (.t 29), (.c (.one (.sc (.int .i64 0)))), (.t 30)], none⟩,
  ⟨(some 32), .bslice [.sc (.int .i64 0), .sc (.int .i64 0), .sc (.int .i64 0), .sc (.int .i64 0), .sc (.int .i64 0), .sc (.int .i64 0), .sc (.int .i64 0), .sc (.int .i64 0)] 4 2 [(0, 2, (.t 19)), (2, 2, (.t 23)), (4, 2, (.t 27)), (6, 2, (.t 31))], none⟩,
  ⟨(some 6), .mv (.t 32), none⟩]
def c45 : SC := (.seq (.reg r45_0) (.seq (.reg r45_1) (.seq (.reg r45_2) .ret)))
/-- limner/limnerref07.Last -/
def F45 : SFun := ⟨33, c45, [.tmp 6]⟩

def r46_0 : List SOper := [
  ⟨(some 3), .box (.t 0), none⟩,
  ⟨(some 4), .box (.t 1), none⟩,
  ⟨(some 6), .alloc [.sc (.int .i64 0), .sc (.int .i64 0)], none⟩,
  ⟨(some 7), .alloc [.sc (.int .i64 0), .sc (.int .i64 0)], none⟩,
  ⟨(some 8), .mv (.c (.one (.sc (.int .i64 0)))), none⟩]
def r46_1 : List SOper := [
  ⟨(some 11), .loadA 2 (.t 4), none⟩,
  ⟨(some 12), .loadA 2 (.t 3), none⟩,
  ⟨(some 13), .call (.z 1) 38 [(.t 11), (.t 12)], none⟩,
  ⟨(some 9), .alloc [.sc (.int .i64 0), .sc (.int .i64 0)], none⟩,
  ⟨none, .store 2 (.t 9) (.t 13), none⟩]
def r46_2 : List SOper := [
  ⟨(some 14), .fadr 0 (.t 9), none⟩,
  ⟨(some 15), .load1 (.t 14), none⟩,
  ⟨(some 16), .fadr 1 (.t 9), none⟩,
  ⟨(some 17), .load1 (.t 16), none⟩,
  ⟨(some 18), .mx [(.t 15), (.t 17)], none⟩,
  ⟨(some 19), .bin .gtr (.t 18) (.c (.one (.sc (.int .i64 536870912)))), none⟩,
  ⟨(some 20), .mv (.t 19), none⟩,
  ⟨(some 21), .fadr 0 (.t 9), (some (some 20, false))⟩,
  ⟨(some 22), .load1 (.t 21), (some (some 20, false))⟩,
  ⟨(some 23), .fadr 1 (.t 9), (some (some 20, false))⟩,
  ⟨(some 24), .load1 (.t 23), (some (some 20, false))⟩,
  ⟨(some 25), .mn [(.t 22), (.t 24)], (some (some 20, false))⟩,
  ⟨(some 26), .bin .lss (.t 25) (.c (.one (.sc (.int .i64 (-536870912))))), (some (some 20, false))⟩,
  ⟨(some 27), .pick (.t 20) (.c (.one (.sc (.bool true)))) (.t 26), none⟩]
def r46_3 : List SOper := [
  ⟨(some 28), .loadA 2 (.t 6), none⟩,
  ⟨(some 29), .loadA 2 (.t 7), none⟩,
  ⟨none, .store 2 (.t 6) (.t 28), none⟩,
  ⟨none, .store 2 (.t 7) (.t 29), none⟩,
  ⟨(some 8), .mv (.c (.one (.sc (.int .i64 10)))), none⟩]
def r46_4 : List SOper := [
  ⟨(some 30), .fadr 0 (.t 9), none⟩,
  ⟨(some 31), .load1 (.t 30), none⟩,
  ⟨(some 32), .fadr 0 (.t 9), none⟩,
  ⟨(some 33), .load1 (.t 32), none⟩,
  ⟨(some 34), .bin .mul (.t 31) (.t 33), none⟩,
  ⟨(some 35), .fadr 1 (.t 9), none⟩,
  ⟨(some 36), .load1 (.t 35), none⟩,
  ⟨(some 37), .fadr 1 (.t 9), none⟩,
  ⟨(some 38), .load1 (.t 37), none⟩,
  ⟨(some 39), .bin .mul (.t 36) (.t 38), none⟩,
  ⟨(some 40), .bin .add (.t 34) (.t 39), none⟩,
  ⟨(some 41), .call (.z 1) 56 [(.t 40)], none⟩,
  ⟨(some 10), .mv (.t 41), none⟩]
def r46_5 : List SOper := [
  ⟨(some 42), .fadr 1 (.t 9), none⟩,
  ⟨(some 43), .load1 (.t 42), none⟩,
  ⟨(some 44), .un .neg (.t 43), none⟩,
  ⟨(some 45), .mv (.t 2), none⟩,
  ⟨(some 46), .mv (.t 10), none⟩,
  ⟨(some 47), .call (.z 1) 28 [(.t 44), (.t 45), (.t 46)], none⟩,
  ⟨(some 48), .fadr 0 (.t 9), none⟩,
  ⟨(some 49), .load1 (.t 48), none⟩,
  ⟨(some 50), .mv (.t 2), none⟩,
  ⟨(some 51), .mv (.t 10), none⟩,
  ⟨(some 52), .call (.z 1) 28 [(.t 49), (.t 50), (.t 51)], none⟩,
  ⟨(some 53), .build [.sc (.int .i64 0), .sc (.int .i64 0)] [(0, 1, (.t 47)), (1, 1, (.t 52))], none⟩,
  ⟨none, .store 2 (.t 6) (.t 53), none⟩]
def r46_6 : List SOper := [
  ⟨(some 54), .fadr 0 (.t 9), none⟩,
  ⟨(some 55), .load1 (.t 54), none⟩,
  ⟨(some 56), .mv (.t 2), none⟩,
  ⟨(some 57), .mv (.t 10), none⟩,
  ⟨(some 58), .call (.z 1) 28 [(.t 55), (.t 56), (.t 57)], none⟩,
  ⟨(some 59), .fadr 1 (.t 9), none⟩,
  ⟨(some 60), .load1 (.t 59), none⟩,
  ⟨(some 61), .mv (.t 2), none⟩,
  ⟨(some 62), .mv (.t 10), none⟩,
  ⟨(some 63), .call (.z 1) 28 [(.t 60), (.t 61), (.t 62)], none⟩,
  ⟨(some 64), .build [.sc (.int .i64 0), .sc (.int .i64 0)] [(0, 1, (.t 58)), (1, 1, (.t 63))], none⟩,
  ⟨none, .store 2 (.t 7) (.t 64), none⟩]
def r46_7 : List SOper := [
  ⟨(some 65), .loadA 2 (.t 6), none⟩,
  ⟨(some 66), .loadA 2 (.t 7), none⟩,
  ⟨none, .store 2 (.t 6) (.t 65), none⟩,
  ⟨none, .store 2 (.t 7) (.t 66), none⟩,
  ⟨(some 8), .mv (.c (.one (.sc (.int .i64 0)))), none⟩]
def c46 : SC := (.seq (.reg r46_0) (.seq (.reg r46_1) (.seq (.seq (.reg r46_2) (.cond (.t 27) (.seq (.dreg [(7, 6)] r46_3) .ret) .skip)) (.seq (.reg r46_4) (.seq (.reg r46_5) (.seq (.reg r46_6) (.seq (.dreg [(7, 6)] r46_7) .ret)))))))
/-- limner/stroke.steps -/
def F46 : SFun := ⟨67, c46, [.cellA 6 2, .cellA 7 2, .tmp 8]⟩

def r47_0 : List SOper := [
  ⟨(some 3), .box (.t 0), none⟩,
  ⟨(some 4), .box (.t 1), none⟩,
  ⟨(some 5), .box (.t 2), none⟩,
  ⟨(some 6), .mv (.c (.one (.sc (.int .i64 0)))), none⟩]
def r47_1 : List SOper := [
  ⟨(some 7), .fadr 0 (.t 4), none⟩,
  ⟨(some 8), .load1 (.t 7), none⟩,
  ⟨(some 9), .fadr 0 (.t 3), none⟩,
  ⟨(some 10), .load1 (.t 9), none⟩,
  ⟨(some 11), .bin .sub (.t 8) (.t 10), none⟩,
  ⟨(some 12), .fadr 1 (.t 5), none⟩,
  ⟨(some 13), .load1 (.t 12), none⟩,
  ⟨(some 14), .fadr 1 (.t 3), none⟩,
  ⟨(some 15), .load1 (.t 14), none⟩,
  ⟨(some 16), .bin .sub (.t 13) (.t 15), none⟩,
  ⟨(some 17), .call (.z 1) 57 [(.t 11), (.t 16)], none⟩,
  ⟨(some 18), .fadr 1 (.t 4), none⟩,
  ⟨(some 19), .load1 (.t 18), none⟩,
  ⟨(some 20), .fadr 1 (.t 3), none⟩,
  ⟨(some 21), .load1 (.t 20), none⟩,
  ⟨(some 22), .bin .sub (.t 19) (.t 21), none⟩,
  ⟨(some 23), .fadr 0 (.t 5), none⟩,
  ⟨(some 24), .load1 (.t 23), none⟩,
  ⟨(some 25), .fadr 0 (.t 3), none⟩,
  ⟨(some 26), .load1 (.t 25), none⟩,
  ⟨(some 27), .bin .sub (.t 24) (.t 26), none⟩,
  ⟨(some 28), .call (.z 1) 57 [(.t 22), (.t 27)], none⟩,
  ⟨(some 29), .call (.z 1) 58 [(.t 17), (.t 28)], none⟩,
  ⟨(some 6), .mv (.t 29), none⟩]
def c47 : SC := (.seq (.reg r47_0) (.seq (.reg r47_1) .ret))
/-- limner/geom.Side -/
def F47 : SFun := ⟨30, c47, [.tmp 6]⟩

def r48_0 : List SOper := [
  ⟨(some 1), .box (.t 0), none⟩,
  ⟨(some 2), .mv (.c (.one (.sc (.bool false)))), none⟩]
def r48_1 : List SOper := [
  ⟨(some 3), .fadr 0 (.t 1), none⟩,
  ⟨(some 4), .load1 (.t 3), none⟩,
  ⟨(some 5), .fadr 2 (.t 1), none⟩,
  ⟨(some 6), .load1 (.t 5), none⟩,
  ⟨(some 7), .bin .geq (.t 4) (.t 6), none⟩,
  ⟨(some 8), .mv (.t 7), none⟩,
  ⟨(some 9), .fadr 1 (.t 1), (some (some 8, false))⟩,
  ⟨(some 10), .load1 (.t 9), (some (some 8, false))⟩,
  ⟨(some 11), .fadr 3 (.t 1), (some (some 8, false))⟩,
  ⟨(some 12), .load1 (.t 11), (some (some 8, false))⟩,
  ⟨(some 13), .bin .geq (.t 10) (.t 12), (some (some 8, false))⟩,
  ⟨(some 14), .pick (.t 8) (.c (.one (.sc (.bool true)))) (.t 13), none⟩,
  ⟨(some 2), .mv (.t 14), none⟩]
def c48 : SC := (.seq (.reg r48_0) (.seq (.reg r48_1) .ret))
/-- (limner/geom.Box).Empty -/
def F48 : SFun := ⟨15, c48, [.tmp 2]⟩

def r49_0 : List SOper := [
  ⟨(some 2), .box (.t 0), none⟩,
  ⟨(some 3), .box (.t 1), none⟩,
  ⟨(some 4), .alloc [.sc (.int .i64 0), .sc (.int .i64 0), .sc (.int .i64 0), .sc (.int .i64 0)], none⟩]
def r49_1 : List SOper := [
  ⟨(some 6), .loadA 4 (.t 2), none⟩,
  ⟨(some 7), .call (.z 1) 48 [(.t 6)], none⟩,
  ⟨(some 8), .mv (.t 7), none⟩,
  ⟨(some 9), .loadA 4 (.t 3), (some (some 8, true))⟩,
  ⟨(some 10), .call (.z 1) 48 [(.t 9)], (some (some 8, true))⟩,
  ⟨(some 11), .pick (.t 8) (.t 10) (.c (.one (.sc (.bool false)))), none⟩,
  ⟨(some 5), .mv (.t 11), none⟩]
def r49_2 : List SOper := [
  ⟨(some 12), .build [.sc (.int .i64 0), .sc (.int .i64 0), .sc (.int .i64 0), .sc (.int .i64 0)] [], none⟩,
  ⟨none, .store 4 (.t 4) (.t 12), none⟩]
def r49_3 : List SOper := [
  ⟨(some 14), .loadA 4 (.t 2), none⟩,
  ⟨(some 15), .call (.z 1) 48 [(.t 14)], none⟩,
  ⟨(some 13), .mv (.t 15), none⟩]
def r49_4 : List SOper := [
  ⟨(some 16), .loadA 4 (.t 3), none⟩,
  ⟨none, .store 4 (.t 4) (.t 16), none⟩]
def r49_5 : List SOper := [
  ⟨(some 18), .loadA 4 (.t 3), none⟩,
  ⟨(some 19), .call (.z 1) 48 [(.t 18)], none⟩,
  ⟨(some 17), .mv (.t 19), none⟩]
def r49_6 : List SOper := [
  ⟨(some 20), .loadA 4 (.t 2), none⟩,
  ⟨none, .store 4 (.t 4) (.t 20), none⟩]
def r49_7 : List SOper := [
  ⟨(some 21), .fadr 0 (.t 2), none⟩,
  ⟨(some 22), .load1 (.t 21), none⟩,
  ⟨(some 23), .fadr 0 (.t 3), none⟩,
  ⟨(some 24), .load1 (.t 23), none⟩,
  ⟨(some 25), .mn [(.t 22), (.t 24)], none⟩,
  ⟨(some 26), .fadr 1 (.t 2), none⟩,
  ⟨(some 27), .load1 (.t 26), none⟩,
  ⟨(some 28), .fadr 1 (.t 3), none⟩,
  ⟨(some 29), .load1 (.t 28), none⟩,
  ⟨(some 30), .mn [(.t 27), (.t 29)], none⟩,
  ⟨(some 31), .fadr 2 (.t 2), none⟩,
  ⟨(some 32), .load1 (.t 31), none⟩,
  ⟨(some 33), .fadr 2 (.t 3), none⟩,
  ⟨(some 34), .load1 (.t 33), none⟩,
  ⟨(some 35), .mx [(.t 32), (.t 34)], none⟩,
  ⟨(some 36), .fadr 3 (.t 2), none⟩,
  ⟨(some 37), .load1 (.t 36), none⟩,
  ⟨(some 38), .fadr 3 (.t 3), none⟩,
  ⟨(some 39), .load1 (.t 38), none⟩,
  ⟨(some 40), .mx [(.t 37), (.t 39)], none⟩,
  ⟨(some 41), .build [.sc (.int .i64 0), .sc (.int .i64 0), .sc (.int .i64 0), .sc (.int .i64 0)] [(0, 1, (.t 25)), (1, 1, (.t 30)), (2, 1, (.t 35)), (3, 1, (.t 40))], none⟩,
  ⟨none, .store 4 (.t 4) (.t 41), none⟩]
def c49 : SC := (.seq (.reg r49_0) (.seq (.block 0 (.seq (.reg r49_1) (.cond (.t 5) (.seq (.reg r49_2) .ret) (.seq (.reg r49_3) (.cond (.t 13) (.seq (.reg r49_4) .ret) (.seq (.reg r49_5) (.cond (.t 17) (.seq (.reg r49_6) .ret) .skip))))))) (.seq (.reg r49_7) .ret)))
/-- (limner/geom.Box).Join -/
def F49 : SFun := ⟨42, c49, [.cellA 4 4]⟩

def r50_0 : List SOper := [
  ⟨(some 2), .mv (.c (.one (.sc (.bool false)))), none⟩]
def r50_1 : List SOper := [
  ⟨(some 3), .mv (.t 0), none⟩,
  ⟨(some 4), .bin .geq (.t 3) (.c (.one (.sc (.int .i64 (-2147483648))))), none⟩,
  ⟨(some 5), .mv (.t 4), none⟩,
  ⟨(some 6), .mv (.t 0), (some (some 5, true))⟩,
  ⟨(some 7), .bin .leq (.t 6) (.c (.one (.sc (.int .i64 2147483648)))), (some (some 5, true))⟩,
  ⟨(some 8), .pick (.t 5) (.t 7) (.c (.one (.sc (.bool false)))), none⟩,
  ⟨(some 2), .mv (.t 8), none⟩]
def c50 : SC := (.seq (.reg r50_0) (.seq (.reg r50_1) .ret))
/-- limner/fixed.In -/
def F50 : SFun := ⟨9, c50, [.tmp 2]⟩

def r51_0 : List SOper := [
  ⟨(some 1), .box (.t 0), none⟩,
  ⟨(some 2), .mv (.c (.one (.sc (.bool false)))), none⟩]
def r51_1 : List SOper := [
  ⟨(some 3), .loadA 2 (.t 1), none⟩,
  ⟨(some 4), .call (.z 1) 26 [(.t 3)], none⟩,
  ⟨(some 5), .un .not (.t 4), none⟩,
  ⟨(some 2), .mv (.t 5), none⟩]
def c51 : SC := (.seq (.reg r51_0) (.seq (.reg r51_1) .ret))
/-- limner/stroke.room$1 -/
def F51 : SFun := ⟨6, c51, [.tmp 2]⟩

def r52_0 : List SOper := [
  ⟨(some 4), .mv (.c (.one (.sc (.int .i64 0)))), none⟩]
def r52_1 : List SOper := [
  ⟨(some 6), .mv (.t 0), none⟩,
  ⟨(some 7), .mv (.t 1), none⟩,
  ⟨(some 8), .bin .quo (.t 6) (.t 7), none⟩,
  ⟨(some 5), .mv (.t 8), none⟩]
def r52_2 : List SOper := [
  ⟨(some 9), .mv (.t 5), none⟩,
  ⟨(some 10), .mv (.t 1), none⟩,
  ⟨(some 11), .bin .mul (.t 9) (.t 10), none⟩,
  ⟨(some 12), .mv (.t 0), none⟩,
  ⟨(some 13), .bin .gtr (.t 11) (.t 12), none⟩]
def r52_3 : List SOper := [
  ⟨(some 14), .mv (.t 5), none⟩,
  ⟨(some 15), .bin .sub (.t 14) (.c (.one (.sc (.int .i64 1)))), none⟩,
  ⟨(some 5), .mv (.t 15), none⟩]
def r52_4 : List SOper := [
  ⟨(some 16), .mv (.t 5), none⟩,
  ⟨(some 4), .mv (.t 16), none⟩]
def c52 : SC := (.seq (.reg r52_0) (.seq (.reg r52_1) (.seq (.seq (.reg r52_2) (.cond (.t 13) (.reg r52_3) .skip)) (.seq (.reg r52_4) .ret))))
/-- limner/limnerref01.Below -/
def F52 : SFun := ⟨17, c52, [.tmp 4]⟩

def r53_0 : List SOper := [
  ⟨(some 4), .mv (.c (.one (.sc (.int .i64 0)))), none⟩]
def r53_1 : List SOper := [
  ⟨(some 6), .mv (.t 0), none⟩,
  ⟨(some 7), .len (.t 6), none⟩,
  ⟨(some 8), .mv (.c (.one (.sc (.int .i64 0)))), none⟩]
def r53_2 : List SOper := [
  ⟨(some 9), .bin .lss (.t 8) (.t 7), none⟩]
def r53_3 : List SOper := [
  ⟨(some 10), .mv (.t 8), none⟩,
  ⟨(some 5), .mv (.t 10), none⟩]
def r53_4 : List SOper := [
  ⟨(some 11), .mv (.t 1), none⟩,
  ⟨(some 12), .mv (.t 0), none⟩,
  ⟨(some 13), .mv (.t 5), none⟩,
  ⟨(some 14), .iadrS 2 (.t 12) (.t 13), none⟩,
  ⟨(some 15), .loadA 2 (.t 14), none⟩,
  ⟨(some 16), .callv .q (.t 11) [(.t 15)], none⟩]
def r53_5 : List SOper := [
  ⟨(some 17), .mv (.t 5), none⟩,
  ⟨(some 4), .mv (.t 17), none⟩]
def r53_6 : List SOper := [
  ⟨(some 18), .bin .add (.t 8) (.c (.one (.sc (.int .i64 1)))), none⟩,
  ⟨(some 8), .mv (.t 18), none⟩]
def l53_0 : SC := (.seq (.reg r53_2) (.seq (.cond (.t 9) .skip (.exit 0)) (.seq (.block 1 (.seq (.reg r53_3) (.seq (.reg r53_4) (.cond (.t 16) (.seq (.reg r53_5) .ret) .skip)))) (.reg r53_6))))
def r53_7 : List SOper := [
  ⟨(some 4), .mv (.c (.one (.sc (.int .i64 (-1))))), none⟩]
def c53 : SC := (.seq (.reg r53_0) (.seq (.seq (.reg r53_1) (.block 0 (.loop l53_0))) (.seq (.reg r53_7) .ret)))
/-- slices.IndexFunc[[]limner/geom.Point,limner/geom.Point] -/
def F53 : SFun := ⟨19, c53, [.tmp 4]⟩

def r54_0 : List SOper := [
  ⟨(some 3), .box (.t 0), none⟩,
  ⟨(some 4), .box (.t 1), none⟩,
  ⟨(some 6), .alloc [.sc (.int .i64 0), .sc (.int .i64 0)], none⟩,
  ⟨(some 7), .alloc [.sc (.int .i64 0), .sc (.int .i64 0)], none⟩]
def r54_1 : List SOper := [
  ⟨(some 12), .fadr 0 (.t 4), none⟩,
  ⟨(some 13), .load1 (.t 12), none⟩,
  ⟨(some 14), .fadr 0 (.t 3), none⟩,
  ⟨(some 15), .load1 (.t 14), none⟩,
  ⟨(some 16), .bin .sub (.t 13) (.t 15), none⟩,
  ⟨(some 17), .fadr 1 (.t 4), none⟩,
  ⟨(some 18), .load1 (.t 17), none⟩,
  ⟨(some 19), .fadr 1 (.t 3), none⟩,
  ⟨(some 20), .load1 (.t 19), none⟩,
  ⟨(some 21), .bin .sub (.t 18) (.t 20), none⟩,
  ⟨(some 8), .mv (.t 16), none⟩,
  ⟨(some 9), .mv (.t 21), none⟩]
def r54_2 : List SOper := [
  ⟨(some 22), .mv (.t 8), none⟩,
  ⟨(some 23), .mv (.t 8), none⟩,
  ⟨(some 24), .bin .mul (.t 22) (.t 23), none⟩,
  ⟨(some 25), .mv (.t 9), none⟩,
  ⟨(some 26), .mv (.t 9), none⟩,
  ⟨(some 27), .bin .mul (.t 25) (.t 26), none⟩,
  ⟨(some 28), .bin .add (.t 24) (.t 27), none⟩,
  ⟨(some 29), .call (.z 1) 59 [(.t 28)], none⟩,
  ⟨(some 10), .mv (.t 29), none⟩]
def r54_3 : List SOper := [
  ⟨(some 30), .mv (.t 9), none⟩,
  ⟨(some 31), .un .neg (.t 30), none⟩,
  ⟨(some 32), .mv (.t 2), none⟩,
  ⟨(some 33), .bin .mul (.t 31) (.t 32), none⟩,
  ⟨(some 34), .mv (.t 10), none⟩,
  ⟨(some 35), .call (.z 1) 31 [(.t 33), (.t 34)], none⟩,
  ⟨(some 36), .mv (.t 8), none⟩,
  ⟨(some 37), .mv (.t 2), none⟩,
  ⟨(some 38), .bin .mul (.t 36) (.t 37), none⟩,
  ⟨(some 39), .mv (.t 10), none⟩,
  ⟨(some 40), .call (.z 1) 31 [(.t 38), (.t 39)], none⟩,
  ⟨(some 41), .build [.sc (.int .i64 0), .sc (.int .i64 0)] [(0, 1, (.t 35)), (1, 1, (.t 40))], none⟩,
  ⟨(some 11), .alloc [.sc (.int .i64 0), .sc (.int .i64 0)], none⟩,
  ⟨none, .store 2 (.t 11) (.t 41), none⟩]
def r54_4 : List SOper := [
  ⟨(some 42), .loadA 2 (.t 11), none⟩,
  ⟨(some 43), .mv (.t 8), none⟩,
  ⟨(some 44), .mv (.t 2), none⟩,
  ⟨(some 45), .bin .mul (.t 43) (.t 44), none⟩,
  ⟨(some 46), .mv (.t 10), none⟩,
  ⟨(some 47), .call (.z 1) 31 [(.t 45), (.t 46)], none⟩,
  ⟨(some 48), .mv (.t 9), none⟩,
  ⟨(some 49), .mv (.t 2), none⟩,
  ⟨(some 50), .bin .mul (.t 48) (.t 49), none⟩,
  ⟨(some 51), .mv (.t 10), none⟩,
  ⟨(some 52), .call (.z 1) 31 [(.t 50), (.t 51)], none⟩,
  ⟨(some 53), .build [.sc (.int .i64 0), .sc (.int .i64 0)] [(0, 1, (.t 47)), (1, 1, (.t 52))], none⟩,
  ⟨none, .store 2 (.t 6) (.t 42), none⟩,
  ⟨none, .store 2 (.t 7) (.t 53), none⟩]
def c54 : SC := (.seq (.reg r54_0) (.seq (.reg r54_1) (.seq (.reg r54_2) (.seq (.reg r54_3) (.seq (.reg r54_4) .ret)))))
/-- limner/limnerref07.Steps -/
def F54 : SFun := ⟨54, c54, [.cellA 6 2, .cellA 7 2]⟩

def r55_0 : List SOper := [
  ⟨(some 5), .box (.t 0), none⟩,
  ⟨(some 7), .box (.t 2), none⟩,
  ⟨(some 9), .box (.t 4), none⟩,
  ⟨(some 10), .alloc [.sc (.int .i64 0), .sc (.int .i64 0)], none⟩]
def r55_1 : List SOper := [
  ⟨(some 11), .fadr 0 (.t 5), none⟩,
  ⟨(some 12), .load1 (.t 11), none⟩,
  ⟨(some 13), .mv (.t 1), none⟩,
  ⟨(some 14), .fadr 0 (.t 7), none⟩,
  ⟨(some 15), .load1 (.t 14), none⟩,
  ⟨(some 16), .bin .mul (.t 13) (.t 15), none⟩,
  ⟨(some 17), .bin .add (.t 12) (.t 16), none⟩,
  ⟨(some 18), .mv (.t 3), none⟩,
  ⟨(some 19), .fadr 0 (.t 9), none⟩,
  ⟨(some 20), .load1 (.t 19), none⟩,
  ⟨(some 21), .bin .mul (.t 18) (.t 20), none⟩,
  ⟨(some 22), .bin .add (.t 17) (.t 21), none⟩,
  ⟨(some 23), .fadr 1 (.t 5), none⟩,
  ⟨(some 24), .load1 (.t 23), none⟩,
  ⟨(some 25), .mv (.t 1), none⟩,
  ⟨(some 26), .fadr 1 (.t 7), none⟩,
  ⟨(some 27), .load1 (.t 26), none⟩,
  ⟨(some 28), .bin .mul (.t 25) (.t 27), none⟩,
  ⟨(some 29), .bin .add (.t 24) (.t 28), none⟩,
  ⟨(some 30), .mv (.t 3), none⟩,
  ⟨(some 31), .fadr 1 (.t 9), none⟩,
  ⟨(some 32), .load1 (.t 31), none⟩,
  ⟨(some 33), .bin .mul (.t 30) (.t 32), none⟩,
  ⟨(some 34), .bin .add (.t 29) (.t 33), none⟩,
  ⟨(some 35), .build [.sc (.int .i64 0), .sc (.int .i64 0)] [(0, 1, (.t 22)), (1, 1, (.t 34))], none⟩,
  ⟨none, .store 2 (.t 10) (.t 35), none⟩]
def c55 : SC := (.seq (.reg r55_0) (.seq (.reg r55_1) .ret))
/-- limner/limnerref07.mix -/
def F55 : SFun := ⟨36, c55, [.cellA 10 2]⟩

def r56_0 : List SOper := [
  ⟨(some 2), .mv (.c (.one (.sc (.int .i64 0)))), none⟩]
def r56_1 : List SOper := [
  ⟨(some 3), .mv (.c (.one (.sc (.int .i64 0)))), none⟩]
def r56_2 : List SOper := [
  ⟨(some 4), .mv (.c (.one (.sc (.int .i64 31)))), none⟩]
def r56_3 : List SOper := [
  ⟨(some 6), .mv (.t 4), none⟩,
  ⟨(some 7), .bin .geq (.t 6) (.c (.one (.sc (.int .i64 0)))), none⟩]
def r56_5 : List SOper := [
  ⟨(some 10), .mv (.t 3), none⟩,
  ⟨(some 11), .mv (.t 4), none⟩,
  ⟨(some 12), .bin .shl (.c (.one (.sc (.int .i64 1)))) (.t 11), none⟩,
  ⟨(some 13), .bin .or (.t 10) (.t 12), none⟩,
  ⟨(some 5), .mv (.t 13), none⟩]
def r56_6 : List SOper := [
  ⟨(some 14), .mv (.t 5), none⟩,
  ⟨(some 15), .mv (.t 5), none⟩,
  ⟨(some 16), .call (.z 1) 57 [(.t 14), (.t 15)], none⟩,
  ⟨(some 17), .mv (.t 0), none⟩,
  ⟨(some 18), .call (.z 1) 60 [(.t 17)], none⟩,
  ⟨(some 19), .call (.z 1) 58 [(.t 16), (.t 18)], none⟩,
  ⟨(some 20), .bin .leq (.t 19) (.c (.one (.sc (.int .i64 0)))), none⟩]
def r56_7 : List SOper := [
  ⟨(some 21), .mv (.t 5), none⟩,
  ⟨(some 3), .mv (.t 21), none⟩]
def r56_4 : List SOper := [
  ⟨(some 8), .mv (.t 4), none⟩,
  ⟨(some 9), .bin .sub (.t 8) (.c (.one (.sc (.int .i64 1)))), none⟩,
  ⟨(some 4), .mv (.t 9), none⟩]
def l56_0 : SC := (.seq (.seq (.reg r56_3) (.cond (.t 7) .skip (.exit 0))) (.seq (.block 1 (.seq (.reg r56_5) (.seq (.reg r56_6) (.cond (.t 20) (.reg r56_7) .skip)))) (.reg r56_4)))
def r56_8 : List SOper := [
  ⟨(some 22), .mv (.t 3), none⟩,
  ⟨(some 2), .mv (.t 22), none⟩]
def c56 : SC := (.seq (.reg r56_0) (.seq (.reg r56_1) (.seq (.seq (.reg r56_2) (.block 0 (.loop l56_0))) (.seq (.reg r56_8) .ret))))
/-- limner/wide.Sqrt -/
def F56 : SFun := ⟨23, c56, [.tmp 2]⟩

def r57_0 : List SOper := [
  ⟨(some 4), .alloc [.sc (.int .i64 0), .sc (.int .u64 0)], none⟩]
def r57_1 : List SOper := [
  ⟨(some 8), .mv (.t 0), none⟩,
  ⟨(some 9), .conv .u64 (.t 8), none⟩,
  ⟨(some 10), .mv (.t 1), none⟩,
  ⟨(some 11), .conv .u64 (.t 10), none⟩,
  ⟨(some 12), .call (.z 1) 61 [(.t 9), (.t 11)], none⟩,
  ⟨(some 7), .mv (.t 12), none⟩,
  ⟨(some 13), .ext (.t 7) 0, none⟩,
  ⟨(some 14), .ext (.t 7) 1, none⟩,
  ⟨(some 5), .mv (.t 13), none⟩,
  ⟨(some 6), .mv (.t 14), none⟩]
def r57_2 : List SOper := [
  ⟨(some 15), .mv (.t 0), none⟩,
  ⟨(some 16), .bin .lss (.t 15) (.c (.one (.sc (.int .i64 0)))), none⟩]
def r57_3 : List SOper := [
  ⟨(some 17), .mv (.t 5), none⟩,
  ⟨(some 18), .mv (.t 1), none⟩,
  ⟨(some 19), .conv .u64 (.t 18), none⟩,
  ⟨(some 20), .bin .sub (.t 17) (.t 19), none⟩,
  ⟨(some 5), .mv (.t 20), none⟩]
def r57_4 : List SOper := [
  ⟨(some 21), .mv (.t 1), none⟩,
  ⟨(some 22), .bin .lss (.t 21) (.c (.one (.sc (.int .i64 0)))), none⟩]
def r57_5 : List SOper := [
  ⟨(some 23), .mv (.t 5), none⟩,
  ⟨(some 24), .mv (.t 0), none⟩,
  ⟨(some 25), .conv .u64 (.t 24), none⟩,
  ⟨(some 26), .bin .sub (.t 23) (.t 25), none⟩,
  ⟨(some 5), .mv (.t 26), none⟩]
def r57_6 : List SOper := [
  ⟨(some 27), .mv (.t 5), none⟩,
  ⟨(some 28), .conv .i64 (.t 27), none⟩,
  ⟨(some 29), .mv (.t 6), none⟩,
  ⟨(some 30), .build [.sc (.int .i64 0), .sc (.int .u64 0)] [(0, 1, (.t 28)), (1, 1, (.t 29))], none⟩,
  ⟨none, .store 2 (.t 4) (.t 30), none⟩]
def c57 : SC := (.seq (.reg r57_0) (.seq (.reg r57_1) (.seq (.seq (.reg r57_2) (.cond (.t 16) (.reg r57_3) .skip)) (.seq (.seq (.reg r57_4) (.cond (.t 22) (.reg r57_5) .skip)) (.seq (.reg r57_6) .ret)))))
/-- limner/wide.Mul -/
def F57 : SFun := ⟨31, c57, [.cellA 4 2]⟩

def r58_0 : List SOper := [
  ⟨(some 2), .box (.t 0), none⟩,
  ⟨(some 3), .box (.t 1), none⟩,
  ⟨(some 4), .mv (.c (.one (.sc (.int .i64 0)))), none⟩]
def r58_1 : List SOper := [
  ⟨(some 5), .fadr 0 (.t 2), none⟩,
  ⟨(some 6), .load1 (.t 5), none⟩,
  ⟨(some 7), .fadr 0 (.t 3), none⟩,
  ⟨(some 8), .load1 (.t 7), none⟩,
  ⟨(some 9), .call (.z 1) 63 [(.t 6), (.t 8)], none⟩,
  ⟨(some 10), .fadr 1 (.t 2), none⟩,
  ⟨(some 11), .load1 (.t 10), none⟩,
  ⟨(some 12), .fadr 1 (.t 3), none⟩,
  ⟨(some 13), .load1 (.t 12), none⟩,
  ⟨(some 14), .call (.z 1) 64 [(.t 11), (.t 13)], none⟩,
  ⟨(some 15), .bslice [.sc (.int .i64 0), .sc (.int .i64 0)] 2 1 [(0, 1, (.t 9)), (1, 1, (.t 14))], none⟩,
  ⟨(some 16), .call .q 62 [(.t 15)], none⟩,
  ⟨(some 4), .mv (.t 16), none⟩]
def c58 : SC := (.seq (.reg r58_0) (.seq (.reg r58_1) .ret))
/-- (limner/wide.Num).Cmp -/
def F58 : SFun := ⟨17, c58, [.tmp 4]⟩

def r59_0 : List SOper := [
  ⟨(some 2), .mv (.c (.one (.sc (.int .i64 0)))), none⟩]
def r59_1 : List SOper := [
  ⟨(some 3), .mv (.c (.one (.sc (.int .i64 0)))), none⟩,
  ⟨(some 4), .mv (.c (.one (.sc (.int .i64 1073741825)))), none⟩]
def r59_2 : List SOper := [
  ⟨(some 6), .mv (.t 4), none⟩,
  ⟨(some 7), .mv (.t 3), none⟩,
  ⟨(some 8), .bin .sub (.t 6) (.t 7), none⟩,
  ⟨(some 9), .bin .gtr (.t 8) (.c (.one (.sc (.int .i64 1)))), none⟩]
def r59_3 : List SOper := [
  ⟨(some 10), .mv (.t 3), none⟩,
  ⟨(some 11), .mv (.t 4), none⟩,
  ⟨(some 12), .bin .add (.t 10) (.t 11), none⟩,
  ⟨(some 13), .bin .quo (.t 12) (.c (.one (.sc (.int .i64 2)))), none⟩,
  ⟨(some 5), .mv (.t 13), none⟩]
def r59_4 : List SOper := [
  ⟨(some 14), .mv (.t 5), none⟩,
  ⟨(some 15), .mv (.t 5), none⟩,
  ⟨(some 16), .bin .mul (.t 14) (.t 15), none⟩,
  ⟨(some 17), .mv (.t 0), none⟩,
  ⟨(some 18), .bin .leq (.t 16) (.t 17), none⟩]
def r59_5 : List SOper := [
  ⟨(some 19), .mv (.t 5), none⟩,
  ⟨(some 3), .mv (.t 19), none⟩]
def r59_6 : List SOper := [
  ⟨(some 20), .mv (.t 5), none⟩,
  ⟨(some 4), .mv (.t 20), none⟩]
def l59_0 : SC := (.seq (.seq (.reg r59_2) (.cond (.t 9) .skip (.exit 0))) (.block 1 (.seq (.reg r59_3) (.seq (.reg r59_4) (.cond (.t 18) (.reg r59_5) (.reg r59_6))))))
def r59_7 : List SOper := [
  ⟨(some 21), .mv (.t 3), none⟩,
  ⟨(some 2), .mv (.t 21), none⟩]
def c59 : SC := (.seq (.reg r59_0) (.seq (.reg r59_1) (.seq (.block 0 (.loop l59_0)) (.seq (.reg r59_7) .ret))))
/-- limner/limnerref07.Root -/
def F59 : SFun := ⟨22, c59, [.tmp 2]⟩

def r60_0 : List SOper := [
  ⟨(some 2), .alloc [.sc (.int .i64 0), .sc (.int .u64 0)], none⟩]
def r60_1 : List SOper := [
  ⟨(some 3), .mv (.t 0), none⟩,
  ⟨(some 4), .bin .shr (.t 3) (.c (.one (.sc (.int .u64 63)))), none⟩,
  ⟨(some 5), .mv (.t 0), none⟩,
  ⟨(some 6), .conv .u64 (.t 5), none⟩,
  ⟨(some 7), .build [.sc (.int .i64 0), .sc (.int .u64 0)] [(0, 1, (.t 4)), (1, 1, (.t 6))], none⟩,
  ⟨none, .store 2 (.t 2) (.t 7), none⟩]
def c60 : SC := (.seq (.reg r60_0) (.seq (.reg r60_1) .ret))
/-- limner/wide.Of -/
def F60 : SFun := ⟨8, c60, [.cellA 2 2]⟩

def r61_0 : List SOper := [
  ⟨(some 4), .mv (.c (.one (.sc (.int .u64 0)))), none⟩,
  ⟨(some 5), .mv (.c (.one (.sc (.int .u64 0)))), none⟩]
def r61_1 : List SOper := [
  ⟨(some 14), .mv (.t 0), none⟩,
  ⟨(some 15), .bin .and (.t 14) (.c (.one (.sc (.int .u64 4294967295)))), none⟩,
  ⟨(some 6), .mv (.t 15), none⟩]
def r61_2 : List SOper := [
  ⟨(some 16), .mv (.t 0), none⟩,
  ⟨(some 17), .bin .shr (.t 16) (.c (.one (.sc (.int .u64 32)))), none⟩,
  ⟨(some 7), .mv (.t 17), none⟩]
def r61_3 : List SOper := [
  ⟨(some 18), .mv (.t 1), none⟩,
  ⟨(some 19), .bin .and (.t 18) (.c (.one (.sc (.int .u64 4294967295)))), none⟩,
  ⟨(some 8), .mv (.t 19), none⟩]
def r61_4 : List SOper := [
  ⟨(some 20), .mv (.t 1), none⟩,
  ⟨(some 21), .bin .shr (.t 20) (.c (.one (.sc (.int .u64 32)))), none⟩,
  ⟨(some 9), .mv (.t 21), none⟩]
def r61_5 : List SOper := [
  ⟨(some 22), .mv (.t 6), none⟩,
  ⟨(some 23), .mv (.t 8), none⟩,
  ⟨(some 24), .bin .mul (.t 22) (.t 23), none⟩,
  ⟨(some 10), .mv (.t 24), none⟩]
def r61_6 : List SOper := [
  ⟨(some 25), .mv (.t 7), none⟩,
  ⟨(some 26), .mv (.t 8), none⟩,
  ⟨(some 27), .bin .mul (.t 25) (.t 26), none⟩,
  ⟨(some 28), .mv (.t 10), none⟩,
  ⟨(some 29), .bin .shr (.t 28) (.c (.one (.sc (.int .u64 32)))), none⟩,
  ⟨(some 30), .bin .add (.t 27) (.t 29), none⟩,
  ⟨(some 11), .mv (.t 30), none⟩]
def r61_7 : List SOper := [
  ⟨(some 31), .mv (.t 11), none⟩,
  ⟨(some 32), .bin .and (.t 31) (.c (.one (.sc (.int .u64 4294967295)))), none⟩,
  ⟨(some 12), .mv (.t 32), none⟩]
def r61_8 : List SOper := [
  ⟨(some 33), .mv (.t 11), none⟩,
  ⟨(some 34), .bin .shr (.t 33) (.c (.one (.sc (.int .u64 32)))), none⟩,
  ⟨(some 13), .mv (.t 34), none⟩]
def r61_9 : List SOper := [
  ⟨(some 35), .mv (.t 12), none⟩,
  ⟨(some 36), .mv (.t 6), none⟩,
  ⟨(some 37), .mv (.t 9), none⟩,
  ⟨(some 38), .bin .mul (.t 36) (.t 37), none⟩,
  ⟨(some 39), .bin .add (.t 35) (.t 38), none⟩,
  ⟨(some 12), .mv (.t 39), none⟩]
def r61_10 : List SOper := [
  ⟨(some 40), .mv (.t 7), none⟩,
  ⟨(some 41), .mv (.t 9), none⟩,
  ⟨(some 42), .bin .mul (.t 40) (.t 41), none⟩,
  ⟨(some 43), .mv (.t 13), none⟩,
  ⟨(some 44), .bin .add (.t 42) (.t 43), none⟩,
  ⟨(some 45), .mv (.t 12), none⟩,
  ⟨(some 46), .bin .shr (.t 45) (.c (.one (.sc (.int .u64 32)))), none⟩,
  ⟨(some 47), .bin .add (.t 44) (.t 46), none⟩,
  ⟨(some 4), .mv (.t 47), none⟩]
def r61_11 : List SOper := [
  ⟨(some 48), .mv (.t 0), none⟩,
  ⟨(some 49), .mv (.t 1), none⟩,
  ⟨(some 50), .bin .mul (.t 48) (.t 49), none⟩,
  ⟨(some 5), .mv (.t 50), none⟩]
def c61 : SC := (.seq (.reg r61_0) (.seq (.reg r61_1) (.seq (.reg r61_2) (.seq (.reg r61_3) (.seq (.reg r61_4) (.seq (.reg r61_5) (.seq (.reg r61_6) (.seq (.reg r61_7) (.seq (.reg r61_8) (.seq (.reg r61_9) (.seq (.reg r61_10) (.seq (.reg r61_11) .ret))))))))))))
/-- math/bits.Mul64 -/
def F61 : SFun := ⟨51, c61, [.tmp 4, .tmp 5]⟩

def r62_0 : List SOper := [
  ⟨(some 2), .mv (.c (.one (.sc (.int .i64 0)))), none⟩]
def r62_1 : List SOper := [
  ⟨(some 3), .mv (.c (.one (.sc (.int .i64 0)))), none⟩]
def r62_2 : List SOper := [
  ⟨(some 6), .mv (.t 0), none⟩,
  ⟨(some 7), .len (.t 6), none⟩,
  ⟨(some 8), .mv (.c (.one (.sc (.int .i64 0)))), none⟩]
def r62_3 : List SOper := [
  ⟨(some 9), .bin .lss (.t 8) (.t 7), none⟩]
def r62_4 : List SOper := [
  ⟨(some 10), .iadrS 1 (.t 6) (.t 8), none⟩,
  ⟨(some 11), .load1 (.t 10), none⟩,
  ⟨(some 5), .mv (.t 11), none⟩]
def r62_5 : List SOper := [
  ⟨(some 12), .mv (.t 5), none⟩,
  ⟨(some 13), .mv (.t 3), none⟩,
  ⟨(some 14), .bin .neq (.t 12) (.t 13), none⟩]
def r62_6 : List SOper := [
  ⟨(some 15), .mv (.t 5), none⟩,
  ⟨(some 2), .mv (.t 15), none⟩]
def r62_7 : List SOper := [
  ⟨(some 16), .bin .add (.t 8) (.c (.one (.sc (.int .i64 1)))), none⟩,
  ⟨(some 8), .mv (.t 16), none⟩]
def l62_0 : SC := (.seq (.reg r62_3) (.seq (.cond (.t 9) .skip (.exit 0)) (.seq (.block 1 (.seq (.reg r62_4) (.seq (.reg r62_5) (.cond (.t 14) (.seq (.reg r62_6) .ret) .skip)))) (.reg r62_7))))
def r62_8 : List SOper := [
  ⟨(some 17), .mv (.t 3), none⟩,
  ⟨(some 2), .mv (.t 17), none⟩]
def c62 : SC := (.seq (.reg r62_0) (.seq (.reg r62_1) (.seq (.seq (.reg r62_2) (.block 0 (.loop l62_0))) (.seq (.reg r62_8) .ret))))
/-- cmp.Or[int] -/
def F62 : SFun := ⟨18, c62, [.tmp 2]⟩

def r63_0 : List SOper := [
  ⟨(some 4), .mv (.c (.one (.sc (.int .i64 0)))), none⟩]
def r63_1 : List SOper := [
  ⟨(some 7), .mv (.t 0), none⟩,
  ⟨(some 8), .call (.z 1) 65 [(.t 7)], none⟩,
  ⟨(some 5), .mv (.t 8), none⟩]
def r63_2 : List SOper := [
  ⟨(some 9), .mv (.t 1), none⟩,
  ⟨(some 10), .call (.z 1) 65 [(.t 9)], none⟩,
  ⟨(some 6), .mv (.t 10), none⟩]
def r63_3 : List SOper := [
  ⟨(some 11), .mv (.t 5), none⟩]
def r63_4 : List SOper := [
  ⟨(some 12), .mv (.t 6), none⟩]
def r63_5 : List SOper := [
  ⟨(some 4), .mv (.c (.one (.sc (.int .i64 0)))), none⟩]
def r63_6 : List SOper := [
  ⟨(some 4), .mv (.c (.one (.sc (.int .i64 (-1))))), none⟩]
def r63_7 : List SOper := [
  ⟨(some 13), .mv (.t 6), none⟩]
def r63_8 : List SOper := [
  ⟨(some 4), .mv (.c (.one (.sc (.int .i64 1)))), none⟩]
def r63_9 : List SOper := [
  ⟨(some 14), .mv (.t 0), none⟩,
  ⟨(some 15), .mv (.t 1), none⟩,
  ⟨(some 16), .bin .lss (.t 14) (.t 15), none⟩]
def r63_10 : List SOper := [
  ⟨(some 4), .mv (.c (.one (.sc (.int .i64 (-1))))), none⟩]
def r63_11 : List SOper := [
  ⟨(some 17), .mv (.t 0), none⟩,
  ⟨(some 18), .mv (.t 1), none⟩,
  ⟨(some 19), .bin .gtr (.t 17) (.t 18), none⟩]
def r63_12 : List SOper := [
  ⟨(some 4), .mv (.c (.one (.sc (.int .i64 1)))), none⟩]
def r63_13 : List SOper := [
  ⟨(some 4), .mv (.c (.one (.sc (.int .i64 0)))), none⟩]
def c63 : SC := (.seq (.reg r63_0) (.seq (.reg r63_1) (.seq (.reg r63_2) (.seq (.seq (.reg r63_3) (.cond (.t 11) (.seq (.seq (.reg r63_4) (.cond (.t 12) (.seq (.reg r63_5) .ret) .skip)) (.seq (.reg r63_6) .ret)) .skip)) (.seq (.seq (.reg r63_7) (.cond (.t 13) (.seq (.reg r63_8) .ret) .skip)) (.seq (.seq (.reg r63_9) (.cond (.t 16) (.seq (.reg r63_10) .ret) .skip)) (.seq (.seq (.reg r63_11) (.cond (.t 19) (.seq (.reg r63_12) .ret) .skip)) (.seq (.reg r63_13) .ret))))))))
/-- cmp.Compare[int64] -/
def F63 : SFun := ⟨20, c63, [.tmp 4]⟩

def r64_0 : List SOper := [
  ⟨(some 4), .mv (.c (.one (.sc (.int .i64 0)))), none⟩]
def r64_1 : List SOper := [
  ⟨(some 7), .mv (.t 0), none⟩,
  ⟨(some 8), .call (.z 1) 66 [(.t 7)], none⟩,
  ⟨(some 5), .mv (.t 8), none⟩]
def r64_2 : List SOper := [
  ⟨(some 9), .mv (.t 1), none⟩,
  ⟨(some 10), .call (.z 1) 66 [(.t 9)], none⟩,
  ⟨(some 6), .mv (.t 10), none⟩]
def r64_3 : List SOper := [
  ⟨(some 11), .mv (.t 5), none⟩]
def r64_4 : List SOper := [
  ⟨(some 12), .mv (.t 6), none⟩]
def r64_5 : List SOper := [
  ⟨(some 4), .mv (.c (.one (.sc (.int .i64 0)))), none⟩]
def r64_6 : List SOper := [
  ⟨(some 4), .mv (.c (.one (.sc (.int .i64 (-1))))), none⟩]
def r64_7 : List SOper := [
  ⟨(some 13), .mv (.t 6), none⟩]
def r64_8 : List SOper := [
  ⟨(some 4), .mv (.c (.one (.sc (.int .i64 1)))), none⟩]
def r64_9 : List SOper := [
  ⟨(some 14), .mv (.t 0), none⟩,
  ⟨(some 15), .mv (.t 1), none⟩,
  ⟨(some 16), .bin .lss (.t 14) (.t 15), none⟩]
def r64_10 : List SOper := [
  ⟨(some 4), .mv (.c (.one (.sc (.int .i64 (-1))))), none⟩]
def r64_11 : List SOper := [
  ⟨(some 17), .mv (.t 0), none⟩,
  ⟨(some 18), .mv (.t 1), none⟩,
  ⟨(some 19), .bin .gtr (.t 17) (.t 18), none⟩]
def r64_12 : List SOper := [
  ⟨(some 4), .mv (.c (.one (.sc (.int .i64 1)))), none⟩]
def r64_13 : List SOper := [
  ⟨(some 4), .mv (.c (.one (.sc (.int .i64 0)))), none⟩]
def c64 : SC := (.seq (.reg r64_0) (.seq (.reg r64_1) (.seq (.reg r64_2) (.seq (.seq (.reg r64_3) (.cond (.t 11) (.seq (.seq (.reg r64_4) (.cond (.t 12) (.seq (.reg r64_5) .ret) .skip)) (.seq (.reg r64_6) .ret)) .skip)) (.seq (.seq (.reg r64_7) (.cond (.t 13) (.seq (.reg r64_8) .ret) .skip)) (.seq (.seq (.reg r64_9) (.cond (.t 16) (.seq (.reg r64_10) .ret) .skip)) (.seq (.seq (.reg r64_11) (.cond (.t 19) (.seq (.reg r64_12) .ret) .skip)) (.seq (.reg r64_13) .ret))))))))
/-- cmp.Compare[uint64] -/
def F64 : SFun := ⟨20, c64, [.tmp 4]⟩

def r65_0 : List SOper := [
  ⟨(some 2), .mv (.c (.one (.sc (.bool false)))), none⟩]
def r65_1 : List SOper := [
  ⟨(some 3), .mv (.t 0), none⟩,
  ⟨(some 4), .mv (.t 0), none⟩,
  ⟨(some 5), .bin .neq (.t 3) (.t 4), none⟩,
  ⟨(some 2), .mv (.t 5), none⟩]
def c65 : SC := (.seq (.reg r65_0) (.seq (.reg r65_1) .ret))
/-- cmp.isNaN[int64] -/
def F65 : SFun := ⟨6, c65, [.tmp 2]⟩

def r66_0 : List SOper := [
  ⟨(some 2), .mv (.c (.one (.sc (.bool false)))), none⟩]
def r66_1 : List SOper := [
  ⟨(some 3), .mv (.t 0), none⟩,
  ⟨(some 4), .mv (.t 0), none⟩,
  ⟨(some 5), .bin .neq (.t 3) (.t 4), none⟩,
  ⟨(some 2), .mv (.t 5), none⟩]
def c66 : SC := (.seq (.reg r66_0) (.seq (.reg r66_1) .ret))
/-- cmp.isNaN[uint64] -/
def F66 : SFun := ⟨6, c66, [.tmp 2]⟩

def TA : Nat → Option SFun
  | 3 => some F3
  | 4 => some F4
  | 5 => some F5
  | 6 => some F6
  | 7 => some F7
  | 8 => some F8
  | 9 => some F9
  | 10 => some F10
  | 11 => some F11
  | 12 => some F12
  | 13 => some F13
  | 14 => some F14
  | 15 => some F15
  | 16 => some F16
  | 17 => some F17
  | 18 => some F18
  | 19 => some F19
  | 20 => some F20
  | 21 => some F21
  | 22 => some F22
  | 23 => some F23
  | 24 => some F24
  | 25 => some F25
  | 26 => some F26
  | 27 => some F27
  | 28 => some F28
  | 29 => some F29
  | 30 => some F30
  | 31 => some F31
  | 32 => some F32
  | 33 => some F33
  | 34 => some F34
  | 35 => some F35
  | 36 => some F36
  | 37 => some F37
  | 38 => some F38
  | 39 => some F39
  | 40 => some F40
  | 41 => some F41
  | 42 => some F42
  | 43 => some F43
  | 44 => some F44
  | 45 => some F45
  | 46 => some F46
  | 47 => some F47
  | 48 => some F48
  | 49 => some F49
  | 50 => some F50
  | 51 => some F51
  | 52 => some F52
  | 53 => some F53
  | 54 => some F54
  | 55 => some F55
  | 56 => some F56
  | 57 => some F57
  | 58 => some F58
  | 59 => some F59
  | 60 => some F60
  | 61 => some F61
  | 62 => some F62
  | 63 => some F63
  | 64 => some F64
  | 65 => some F65
  | 66 => some F66
  | _ => none
def mdA : Nat → Mode
  | 8 => .k
  | 9 => (.z 1)
  | 10 => (.z 1)
  | 11 => .k
  | 12 => (.z 1)
  | 15 => (.z 1)
  | 16 => .k
  | 17 => .k
  | 18 => .k
  | 19 => .k
  | 20 => (.z 1)
  | 22 => (.z 1)
  | 24 => (.z 1)
  | 25 => (.z 1)
  | 26 => (.z 1)
  | 27 => (.z 1)
  | 28 => (.z 1)
  | 29 => .k
  | 30 => (.z 1)
  | 31 => (.z 1)
  | 32 => (.z 1)
  | 34 => (.z 1)
  | 35 => .w
  | 36 => .k
  | 37 => .w
  | 38 => (.z 1)
  | 39 => .w
  | 40 => .w
  | 41 => .k
  | 42 => (.z 1)
  | 43 => .k
  | 44 => .k
  | 45 => .k
  | 46 => (.z 1)
  | 47 => (.z 1)
  | 48 => (.z 1)
  | 49 => (.z 1)
  | 50 => (.z 1)
  | 51 => (.z 1)
  | 52 => (.z 1)
  | 54 => (.z 1)
  | 55 => (.z 1)
  | 56 => (.z 1)
  | 57 => (.z 1)
  | 58 => (.z 1)
  | 59 => (.z 1)
  | 60 => (.z 1)
  | 61 => (.z 1)
  | 63 => (.z 1)
  | 64 => (.z 1)
  | 65 => (.z 1)
  | 66 => (.z 1)
  | _ => .q
def q3 : Nat → List (List Nat) × List (Nat × Nat)
  | 7 => ([[], [0], [0, 1], [0, 1, 2], [0, 1, 2], [0, 1, 2, 3, 4], [0, 1, 2, 3, 4, 5], [0, 1, 2, 3, 4, 5, 6], [0, 1, 2, 3, 4, 5, 6, 7], [0, 1, 2, 3, 4, 5, 6, 7, 8], [0, 1, 2, 3, 4, 5, 6, 7, 8, 9], [0, 1, 2, 3, 4, 5, 6, 7, 8, 9, 10], [0, 1, 2, 3, 4, 5, 6, 7, 8, 9, 10, 11], [0, 1, 2, 3, 4, 5, 6, 7, 8, 9, 10, 11, 12], [0, 1, 2, 3, 4, 5, 6, 7, 8, 9, 10, 11, 12, 13], [0, 1, 2, 3, 4, 5, 6, 7, 8, 9, 10, 11, 12, 13, 14], [0, 1, 2, 3, 4, 5, 6, 7, 8, 9, 10, 11, 12], [0, 1, 2, 3, 4, 5, 6, 7, 8, 9, 10, 11, 12, 16], [0, 1, 2, 3, 4, 5, 6, 7, 8, 9, 10, 11, 12], [0, 1, 2, 3, 4, 5, 6, 7, 8, 9, 10, 11, 12, 16, 17, 18], [0, 1, 2, 3, 4, 5, 6, 7, 8, 9, 10, 11, 12], [0, 1, 2, 3, 4, 5, 6, 7, 8, 9, 10, 11, 12, 20], [0, 1, 2, 3, 4, 5, 6, 7, 8, 9, 10, 11, 12, 16, 17, 18, 19, 20, 21], [0, 1, 2, 3, 4, 5, 6, 7, 8, 9, 10, 11, 12, 13, 14, 15, 16, 17, 18, 19, 20, 21, 22], [0, 1, 2, 3, 4, 5, 6, 7, 8, 9, 10, 11, 12, 13, 14, 15, 16, 17, 18, 19, 20, 21, 22, 23], [0, 1, 2, 3, 4, 5, 6, 7, 8, 9, 10, 11, 12, 13, 14, 15, 16, 17, 18, 19, 20, 21, 22, 23, 24], [0, 1, 2, 3, 4, 5, 6, 7, 8, 9, 10, 11, 12, 13, 14, 15, 16, 17, 18, 19, 20, 21, 22, 23, 24, 25], [0, 1, 2, 3, 4, 5, 6, 7, 8, 9, 10, 11, 12, 13, 14, 15, 16, 17, 18, 19, 20, 21, 22, 23, 24, 25, 26], [0, 1, 2, 3, 4, 5, 6, 7, 8, 9, 10, 11, 12, 13, 14, 15, 16, 17, 18, 19, 20, 21, 22, 23, 24, 25, 26, 27], [0, 1, 2, 3, 4, 5, 6, 7, 8, 9, 10, 11, 12, 13, 14, 15, 16, 17, 18, 19, 20, 21, 22, 23, 24, 25], [0, 1, 2, 3, 4, 5, 6, 7, 8, 9, 10, 11, 12, 13, 14, 15, 16, 17, 18, 19, 20, 21, 22, 23, 24, 25, 29], [0, 1, 2, 3, 4, 5, 6, 7, 8, 9, 10, 11, 12, 13, 14, 15, 16, 17, 18, 19, 20, 21, 22, 23, 24, 25], [0, 1, 2, 3, 4, 5, 6, 7, 8, 9, 10, 11, 12, 13, 14, 15, 16, 17, 18, 19, 20, 21, 22, 23, 24, 25, 31], [0, 1, 2, 3, 4, 5, 6, 7, 8, 9, 10, 11, 12, 13, 14, 15, 16, 17, 18, 19, 20, 21, 22, 23, 24, 25], [0, 1, 2, 3, 4, 5, 6, 7, 8, 9, 10, 11, 12, 13, 14, 15, 16, 17, 18, 19, 20, 21, 22, 23, 24, 25, 31, 32, 33], [0, 1, 2, 3, 4, 5, 6, 7, 8, 9, 10, 11, 12, 13, 14, 15, 16, 17, 18, 19, 20, 21, 22, 23, 24, 25, 29, 30, 31, 32, 33, 34], [0, 1, 2, 3, 4, 5, 6, 7, 8, 9, 10, 11, 12, 13, 14, 15, 16, 17, 18, 19, 20, 21, 22, 23, 24, 25, 26, 27, 28, 29, 30, 31, 32, 33, 34, 35], [0, 1, 2, 3, 4, 5, 6, 7, 8, 9, 10, 11, 12, 13, 14, 15, 16, 17, 18, 19, 20, 21, 22, 23, 24, 25, 26, 27, 28, 29, 30, 31, 32, 33, 34, 35, 36], [0, 1, 2, 3, 4, 5, 6, 7, 8, 9, 10, 11, 12, 13, 14, 15, 16, 17, 18, 19, 20, 21, 22, 23, 24, 25, 26, 27, 28, 29, 30, 31, 32, 33, 34, 35, 36, 37], [0, 1, 2, 3, 4, 5, 6, 7, 8, 9, 10, 11, 12, 13, 14, 15, 16, 17, 18, 19, 20, 21, 22, 23, 24, 25, 26, 27, 28, 29, 30, 31, 32, 33, 34, 35, 36, 37, 38], [0, 1, 2, 3, 4, 5, 6, 7, 8, 9, 10, 11, 12, 13, 14, 15, 16, 17, 18, 19, 20, 21, 22, 23, 24, 25, 26, 27, 28, 29, 30, 31, 32, 33, 34, 35, 36, 37, 38, 39], [0, 1, 2, 3, 4, 5, 6, 7, 8, 9, 10, 11, 12, 13, 14, 15, 16, 17, 18, 19, 20, 21, 22, 23, 24, 25, 26, 27, 28, 29, 30, 31, 32, 33, 34, 35, 36, 37, 38, 39, 40], [0, 1, 2, 3, 4, 5, 6, 7, 8, 9, 10, 11, 12, 13, 14, 15, 16, 17, 18, 19, 20, 21, 22, 23, 24, 25, 26, 27, 28, 29, 30, 31, 32, 33, 34, 35, 36, 37, 38], [0, 1, 2, 3, 4, 5, 6, 7, 8, 9, 10, 11, 12, 13, 14, 15, 16, 17, 18, 19, 20, 21, 22, 23, 24, 25, 26, 27, 28, 29, 30, 31, 32, 33, 34, 35, 36, 37, 38, 42], [0, 1, 2, 3, 4, 5, 6, 7, 8, 9, 10, 11, 12, 13, 14, 15, 16, 17, 18, 19, 20, 21, 22, 23, 24, 25, 26, 27, 28, 29, 30, 31, 32, 33, 34, 35, 36, 37, 38], [0, 1, 2, 3, 4, 5, 6, 7, 8, 9, 10, 11, 12, 13, 14, 15, 16, 17, 18, 19, 20, 21, 22, 23, 24, 25, 26, 27, 28, 29, 30, 31, 32, 33, 34, 35, 36, 37, 38, 42, 43, 44], [0, 1, 2, 3, 4, 5, 6, 7, 8, 9, 10, 11, 12, 13, 14, 15, 16, 17, 18, 19, 20, 21, 22, 23, 24, 25, 26, 27, 28, 29, 30, 31, 32, 33, 34, 35, 36, 37, 38], [0, 1, 2, 3, 4, 5, 6, 7, 8, 9, 10, 11, 12, 13, 14, 15, 16, 17, 18, 19, 20, 21, 22, 23, 24, 25, 26, 27, 28, 29, 30, 31, 32, 33, 34, 35, 36, 37, 38, 46], [0, 1, 2, 3, 4, 5, 6, 7, 8, 9, 10, 11, 12, 13, 14, 15, 16, 17, 18, 19, 20, 21, 22, 23, 24, 25, 26, 27, 28, 29, 30, 31, 32, 33, 34, 35, 36, 37, 38, 42, 43, 44, 45, 46, 47], [0, 1, 2, 3, 4, 5, 6, 7, 8, 9, 10, 11, 12, 13, 14, 15, 16, 17, 18, 19, 20, 21, 22, 23, 24, 25, 26, 27, 28, 29, 30, 31, 32, 33, 34, 35, 36, 37, 38, 39, 40, 41, 42, 43, 44, 45, 46, 47, 48], [0, 1, 2, 3, 4, 5, 6, 7, 8, 9, 10, 11, 12, 13, 14, 15, 16, 17, 18, 19, 20, 21, 22, 23, 24, 25, 26, 27, 28, 29, 30, 31, 32, 33, 34, 35, 36, 37, 38, 39, 40, 41, 42, 43, 44, 45, 46, 47, 48, 49], [0, 1, 2, 3, 4, 5, 6, 7, 8, 9, 10, 11, 12, 13, 14, 15, 16, 17, 18, 19, 20, 21, 22, 23, 24, 25, 26, 27, 28, 29, 30, 31, 32, 33, 34, 35, 36, 37, 38, 39, 40, 41, 42, 43, 44, 45, 46, 47, 48, 49, 50], [0, 1, 2, 3, 4, 5, 6, 7, 8, 9, 10, 11, 12, 13, 14, 15, 16, 17, 18, 19, 20, 21, 22, 23, 24, 25, 26, 27, 28, 29, 30, 31, 32, 33, 34, 35, 36, 37, 38, 39, 40, 41, 42, 43, 44, 45, 46, 47, 48, 49, 50, 51], [0, 1, 2, 3, 4, 5, 6, 7, 8, 9, 10, 11, 12, 13, 14, 15, 16, 17, 18, 19, 20, 21, 22, 23, 24, 25, 26, 27, 28, 29, 30, 31, 32, 33, 34, 35, 36, 37, 38, 39, 40, 41, 42, 43, 44, 45, 46, 47, 48, 49, 50, 51, 52], [0, 1, 2, 3, 4, 5, 6, 7, 8, 9, 10, 11, 12, 13, 14, 15, 16, 17, 18, 19, 20, 21, 22, 23, 24, 25, 26, 27, 28, 29, 30, 31, 32, 33, 34, 35, 36, 37, 38, 39, 40, 41, 42, 43, 44, 45, 46, 47, 48, 49, 50, 51, 52, 53], [0, 1, 2, 3, 4, 5, 6, 7, 8, 9, 10, 11, 12, 13, 14, 15, 16, 17, 18, 19, 20, 21, 22, 23, 24, 25, 26, 27, 28, 29, 30, 31, 32, 33, 34, 35, 36, 37, 38, 39, 40, 41, 42, 43, 44, 45, 46, 47, 48, 49, 50, 51], [0, 1, 2, 3, 4, 5, 6, 7, 8, 9, 10, 11, 12, 13, 14, 15, 16, 17, 18, 19, 20, 21, 22, 23, 24, 25, 26, 27, 28, 29, 30, 31, 32, 33, 34, 35, 36, 37, 38, 39, 40, 41, 42, 43, 44, 45, 46, 47, 48, 49, 50, 51, 55], [0, 1, 2, 3, 4, 5, 6, 7, 8, 9, 10, 11, 12, 13, 14, 15, 16, 17, 18, 19, 20, 21, 22, 23, 24, 25, 26, 27, 28, 29, 30, 31, 32, 33, 34, 35, 36, 37, 38, 39, 40, 41, 42, 43, 44, 45, 46, 47, 48, 49, 50, 51], [0, 1, 2, 3, 4, 5, 6, 7, 8, 9, 10, 11, 12, 13, 14, 15, 16, 17, 18, 19, 20, 21, 22, 23, 24, 25, 26, 27, 28, 29, 30, 31, 32, 33, 34, 35, 36, 37, 38, 39, 40, 41, 42, 43, 44, 45, 46, 47, 48, 49, 50, 51, 57], [0, 1, 2, 3, 4, 5, 6, 7, 8, 9, 10, 11, 12, 13, 14, 15, 16, 17, 18, 19, 20, 21, 22, 23, 24, 25, 26, 27, 28, 29, 30, 31, 32, 33, 34, 35, 36, 37, 38, 39, 40, 41, 42, 43, 44, 45, 46, 47, 48, 49, 50, 51], [0, 1, 2, 3, 4, 5, 6, 7, 8, 9, 10, 11, 12, 13, 14, 15, 16, 17, 18, 19, 20, 21, 22, 23, 24, 25, 26, 27, 28, 29, 30, 31, 32, 33, 34, 35, 36, 37, 38, 39, 40, 41, 42, 43, 44, 45, 46, 47, 48, 49, 50, 51, 57, 58, 59], [0, 1, 2, 3, 4, 5, 6, 7, 8, 9, 10, 11, 12, 13, 14, 15, 16, 17, 18, 19, 20, 21, 22, 23, 24, 25, 26, 27, 28, 29, 30, 31, 32, 33, 34, 35, 36, 37, 38, 39, 40, 41, 42, 43, 44, 45, 46, 47, 48, 49, 50, 51, 55, 56, 57, 58, 59, 60], [0, 1, 2, 3, 4, 5, 6, 7, 8, 9, 10, 11, 12, 13, 14, 15, 16, 17, 18, 19, 20, 21, 22, 23, 24, 25, 26, 27, 28, 29, 30, 31, 32, 33, 34, 35, 36, 37, 38, 39, 40, 41, 42, 43, 44, 45, 46, 47, 48, 49, 50, 51, 52, 53, 54, 55, 56, 57, 58, 59, 60, 61], [0, 1, 2, 3, 4, 5, 6, 7, 8, 9, 10, 11, 12, 13, 14, 15, 16, 17, 18, 19, 20, 21, 22, 23, 24, 25, 26, 27, 28, 29, 30, 31, 32, 33, 34, 35, 36, 37, 38, 39, 40, 41, 42, 43, 44, 45, 46, 47, 48, 49, 50, 51, 52, 53, 54, 55, 56, 57, 58, 59, 60, 61, 62], [0, 1, 2, 3, 4, 5, 6, 7, 8, 9, 10, 11, 12, 13, 14, 15, 16, 17, 18, 19, 20, 21, 22, 23, 24, 25, 26, 27, 28, 29, 30, 31, 32, 33, 34, 35, 36, 37, 38, 39, 40, 41, 42, 43, 44, 45, 46, 47, 48, 49, 50, 51, 52, 53, 54, 55, 56, 57, 58, 59, 60, 61, 62, 63], [0, 1, 2, 3, 4, 5, 6, 7, 8, 9, 10, 11, 12, 13, 14, 15, 16, 17, 18, 19, 20, 21, 22, 23, 24, 25, 26, 27, 28, 29, 30, 31, 32, 33, 34, 35, 36, 37, 38, 39, 40, 41, 42, 43, 44, 45, 46, 47, 48, 49, 50, 51, 52, 53, 54, 55, 56, 57, 58, 59, 60, 61, 62, 63, 64], [0, 1, 2, 3, 4, 5, 6, 7, 8, 9, 10, 11, 12, 13, 14, 15, 16, 17, 18, 19, 20, 21, 22, 23, 24, 25, 26, 27, 28, 29, 30, 31, 32, 33, 34, 35, 36, 37, 38, 39, 40, 41, 42, 43, 44, 45, 46, 47, 48, 49, 50, 51, 52, 53, 54, 55, 56, 57, 58, 59, 60, 61, 62, 63, 64, 65], [0, 1, 2, 3, 4, 5, 6, 7, 8, 9, 10, 11, 12, 13, 14, 15, 16, 17, 18, 19, 20, 21, 22, 23, 24, 25, 26, 27, 28, 29, 30, 31, 32, 33, 34, 35, 36, 37, 38, 39, 40, 41, 42, 43, 44, 45, 46, 47, 48, 49, 50, 51, 52, 53, 54, 55, 56, 57, 58, 59, 60, 61, 62, 63, 64, 65, 66]], [])
  | _ => ([], [])
theorem ok3 : slimF Tryd.prog 1 mdA q3 Tryd.f3 = some F3 := by kernel_rfl
def q4 : Nat → List (List Nat) × List (Nat × Nat)
  | 17 => ([[], [], [0, 1], [0, 1, 2], [], [], [4, 5], [4, 5, 6], [0, 1, 2, 3, 4, 5, 6, 7], [0, 1, 2, 3, 4, 5, 6, 7, 8]], [])
  | _ => ([], [])
theorem ok4 : slimF Tryd.prog 1 mdA q4 Tryd.f4 = some F4 := by kernel_rfl
def q5 : Nat → List (List Nat) × List (Nat × Nat)
  | 16 => ([[], [], [0, 1], [0, 1, 2], [], [], [4, 5], [4, 5, 6], [4, 5, 6, 7], [0, 1, 2, 3, 4, 5, 6, 7, 8], [0, 1, 2, 3, 4, 5, 6, 7, 8, 9]], [])
  | 21 => ([[], [0], [0, 1], [0, 1, 2], [], [4], [4, 5], [4, 5, 6], [], [0, 1, 2, 3, 4, 5, 6, 7, 8], [0, 1, 2, 3, 4, 5, 6, 7, 8, 9], [0, 1, 2, 3, 4, 5, 6, 7, 8, 9, 10], [0, 1, 2, 3, 4, 5, 6, 7, 8, 9, 10], [0, 1, 2, 3, 4, 5, 6, 7, 8, 9, 10, 11], [0, 1, 2, 3, 4, 5, 6, 7, 8, 9, 10, 11, 12, 13]], [])
  | 22 => ([[], [0], [0, 1], [0, 1, 2], [], [4], [4, 5], [4, 5, 6], [], [0, 1, 2, 3, 4, 5, 6, 7, 8], [0, 1, 2, 3, 4, 5, 6, 7, 8, 9], [0, 1, 2, 3, 4, 5, 6, 7, 8, 9, 10], [0, 1, 2, 3, 4, 5, 6, 7, 8, 9, 10], [0, 1, 2, 3, 4, 5, 6, 7, 8, 9, 10, 11], [0, 1, 2, 3, 4, 5, 6, 7, 8, 9, 10, 11, 12, 13]], [])
  | 25 => ([[], [0], [0, 1], [0, 1, 2], [0, 1, 2, 3], [0, 1, 2, 3, 4], [0, 1, 2, 3, 4, 5], [0, 1, 2, 3, 4, 5, 6], [0, 1, 2, 3, 4, 5, 6, 7], [0, 1, 2, 3, 4, 5, 6, 7, 8], [0, 1, 2, 3, 4, 5, 6, 7, 8, 9], [0, 1, 2, 3, 4, 5, 6, 7, 8, 9, 10], [0, 1, 2, 3, 4, 5, 6, 7, 8], [0, 1, 2, 3, 4, 5, 6, 7, 8, 12], [0, 1, 2, 3, 4, 5, 6, 7, 8, 12, 13], [0, 1, 2, 3, 4, 5, 6, 7, 8, 9, 10, 11, 12, 13, 14], [0, 1, 2, 3, 4, 5, 6, 7, 8, 9, 10, 11, 12, 13, 14, 15], [0, 1, 2, 3, 4, 5, 6, 7, 8, 9, 10, 11, 12, 13, 14, 15, 16], [0, 1, 2, 3, 4, 5, 6, 7, 8, 9, 10, 11, 12, 13, 14, 15, 16, 17], [0, 1, 2, 3, 4, 5, 6, 7, 8, 9, 10, 11, 12, 13, 14, 15, 16, 17, 18], [0, 1, 2, 3, 4, 5, 6, 7, 8, 9, 10, 11, 12, 13, 14, 15, 16, 17, 18, 19], [0, 1, 2, 3, 4, 5, 6, 7, 8, 9, 10, 11, 12, 13, 14, 15, 16, 17], [0, 1, 2, 3, 4, 5, 6, 7, 8, 9, 10, 11, 12, 13, 14, 15, 16, 17, 21], [0, 1, 2, 3, 4, 5, 6, 7, 8, 9, 10, 11, 12, 13, 14, 15, 16, 17, 21, 22], [0, 1, 2, 3, 4, 5, 6, 7, 8, 9, 10, 11, 12, 13, 14, 15, 16, 17, 18, 19, 20, 21, 22, 23], [0, 1, 2, 3, 4, 5, 6, 7, 8, 9, 10, 11, 12, 13, 14, 15, 16, 17, 18, 19, 20, 21, 22, 23, 24], [0, 1, 2, 3, 4, 5, 6, 7, 8, 9, 10, 11, 12, 13, 14, 15, 16, 17, 18, 19, 20, 21, 22, 23, 24, 25], [0, 1, 2, 3, 4, 5, 6, 7, 8, 9, 10, 11, 12, 13, 14, 15, 16, 17, 18, 19, 20, 21, 22, 23, 24, 25, 26], [0, 1, 2, 3, 4, 5, 6, 7, 8, 9, 10, 11, 12, 13, 14, 15, 16, 17, 18, 19, 20, 21, 22, 23, 24, 25, 26, 27], [0, 1, 2, 3, 4, 5, 6, 7, 8, 9, 10, 11, 12, 13, 14, 15, 16, 17, 18, 19, 20, 21, 22, 23, 24, 25, 26, 27, 28], [0, 1, 2, 3, 4, 5, 6, 7, 8, 9, 10, 11, 12, 13, 14, 15, 16, 17, 18, 19, 20, 21, 22, 23, 24, 25, 26], [0, 1, 2, 3, 4, 5, 6, 7, 8, 9, 10, 11, 12, 13, 14, 15, 16, 17, 18, 19, 20, 21, 22, 23, 24, 25, 26, 30], [0, 1, 2, 3, 4, 5, 6, 7, 8, 9, 10, 11, 12, 13, 14, 15, 16, 17, 18, 19, 20, 21, 22, 23, 24, 25, 26, 30, 31], [0, 1, 2, 3, 4, 5, 6, 7, 8, 9, 10, 11, 12, 13, 14, 15, 16, 17, 18, 19, 20, 21, 22, 23, 24, 25, 26, 27, 28, 29, 30, 31, 32], [0, 1, 2, 3, 4, 5, 6, 7, 8, 9, 10, 11, 12, 13, 14, 15, 16, 17, 18, 19, 20, 21, 22, 23, 24, 25, 26, 27, 28, 29, 30, 31, 32, 33], [0, 1, 2, 3, 4, 5, 6, 7, 8, 9, 10, 11, 12, 13, 14, 15, 16, 17, 18, 19, 20, 21, 22, 23, 24, 25, 26, 27, 28, 29, 30, 31, 32, 33, 34], [0, 1, 2, 3, 4, 5, 6, 7, 8, 9, 10, 11, 12, 13, 14, 15, 16, 17, 18, 19, 20, 21, 22, 23, 24, 25, 26, 27, 28, 29, 30, 31, 32, 33, 34, 35], [0, 1, 2, 3, 4, 5, 6, 7, 8, 9, 10, 11, 12, 13, 14, 15, 16, 17, 18, 19, 20, 21, 22, 23, 24, 25, 26, 27, 28, 29, 30, 31, 32, 33, 34, 35, 36], [0, 1, 2, 3, 4, 5, 6, 7, 8, 9, 10, 11, 12, 13, 14, 15, 16, 17, 18, 19, 20, 21, 22, 23, 24, 25, 26, 27, 28, 29, 30, 31, 32, 33, 34, 35, 36, 37], [0, 1, 2, 3, 4, 5, 6, 7, 8, 9, 10, 11, 12, 13, 14, 15, 16, 17, 18, 19, 20, 21, 22, 23, 24, 25, 26, 27, 28, 29, 30, 31, 32, 33, 34, 35], [0, 1, 2, 3, 4, 5, 6, 7, 8, 9, 10, 11, 12, 13, 14, 15, 16, 17, 18, 19, 20, 21, 22, 23, 24, 25, 26, 27, 28, 29, 30, 31, 32, 33, 34, 35, 39], [0, 1, 2, 3, 4, 5, 6, 7, 8, 9, 10, 11, 12, 13, 14, 15, 16, 17, 18, 19, 20, 21, 22, 23, 24, 25, 26, 27, 28, 29, 30, 31, 32, 33, 34, 35, 39, 40], [0, 1, 2, 3, 4, 5, 6, 7, 8, 9, 10, 11, 12, 13, 14, 15, 16, 17, 18, 19, 20, 21, 22, 23, 24, 25, 26, 27, 28, 29, 30, 31, 32, 33, 34, 35, 36, 37, 38, 39, 40, 41], [0, 1, 2, 3, 4, 5, 6, 7, 8, 9, 10, 11, 12, 13, 14, 15, 16, 17, 18, 19, 20, 21, 22, 23, 24, 25, 26, 27, 28, 29, 30, 31, 32, 33, 34, 35, 36, 37, 38, 39, 40, 41, 42], [0, 1, 2, 3, 4, 5, 6, 7, 8, 9, 10, 11, 12, 13, 14, 15, 16, 17, 18, 19, 20, 21, 22, 23, 24, 25, 26, 27, 28, 29, 30, 31, 32, 33, 34, 35, 36, 37, 38, 39, 40, 41, 42, 43], [0, 1, 2, 3, 4, 5, 6, 7, 8, 9, 10, 11, 12, 13, 14, 15, 16, 17, 18, 19, 20, 21, 22, 23, 24, 25, 26, 27, 28, 29, 30, 31, 32, 33, 34, 35, 36, 37, 38, 39, 40, 41, 42, 43, 44], [0, 1, 2, 3, 4, 5, 6, 7, 8, 9, 10, 11, 12, 13, 14, 15, 16, 17, 18, 19, 20, 21, 22, 23, 24, 25, 26, 27, 28, 29, 30, 31, 32, 33, 34, 35, 36, 37, 38, 39, 40, 41, 42, 43, 44, 45], [0, 1, 2, 3, 4, 5, 6, 7, 8, 9, 10, 11, 12, 13, 14, 15, 16, 17, 18, 19, 20, 21, 22, 23, 24, 25, 26, 27, 28, 29, 30, 31, 32, 33, 34, 35, 36, 37, 38, 39, 40, 41, 42, 43, 44, 45, 46]], [])
  | _ => ([], [])
theorem ok5 : slimF Tryd.prog 1 mdA q5 Tryd.f5 = some F5 := by kernel_rfl
def q6 : Nat → List (List Nat) × List (Nat × Nat)
  | _ => ([], [])
theorem ok6 : slimF Tryd.prog 1 mdA q6 Tryd.f6 = some F6 := by kernel_rfl
def q7 : Nat → List (List Nat) × List (Nat × Nat)
  | 1 => ([[], [0], [], [2], [], [4], [], [], [0, 1, 6, 7], [0, 1, 2, 3, 6, 7, 8], [0, 1, 2, 3, 4, 5, 6, 7, 8, 9]], [(17, 3), (19, 3)])
  | 6 => ([[], [0], [0, 1], [0, 1], [0, 1, 2, 3], [0, 1], [0, 1, 2, 3, 4, 5], [0, 1, 2, 3, 4, 5, 6], [0, 1, 2, 3, 4, 5, 6, 7], [0, 1, 2, 3, 4, 5, 6, 7, 8], [0, 1, 2, 3, 4, 5, 6, 7, 8, 9], [0, 1, 2, 3, 4, 5, 6, 7, 8, 9, 10], [0, 1, 2, 3, 4, 5, 6, 7, 8, 9, 10, 11], [0, 1, 2, 3, 4, 5, 6, 7, 8, 9, 10, 11, 12], [0, 1, 2, 3, 4, 5, 6, 7, 8, 9, 10, 11, 12, 13], [0, 1, 2, 3, 4, 5, 6, 7, 8, 9, 10, 11, 12, 13, 14], [0, 1, 2, 3, 4, 5, 6, 7, 8, 9, 10, 11, 12, 13, 14], [0, 1, 2, 3, 4, 5, 6, 7, 8, 9, 10, 11, 12, 13, 14, 15, 16], [0, 1, 2, 3, 4, 5, 6, 7, 8, 9, 10, 11, 12, 13, 14], [0, 1, 2, 3, 4, 5, 6, 7, 8, 9, 10, 11, 12, 13, 14, 18], [0, 1, 2, 3, 4, 5, 6, 7, 8, 9, 10, 11, 12, 13, 14], [0, 1, 2, 3, 4, 5, 6, 7, 8, 9, 10, 11, 12, 13, 14, 20], [0, 1, 2, 3, 4, 5, 6, 7, 8, 9, 10, 11, 12, 13, 14, 18, 19, 20, 21], [0, 1, 2, 3, 4, 5, 6, 7, 8, 9, 10, 11, 12, 13, 14], [0, 1, 2, 3, 4, 5, 6, 7, 8, 9, 10, 11, 12, 13, 14, 23], [0, 1, 2, 3, 4, 5, 6, 7, 8, 9, 10, 11, 12, 13, 14], [0, 1, 2, 3, 4, 5, 6, 7, 8, 9, 10, 11, 12, 13, 14, 25], [0, 1, 2, 3, 4, 5, 6, 7, 8, 9, 10, 11, 12, 13, 14, 23, 24, 25, 26], [0, 1, 2, 3, 4, 5, 6, 7, 8, 9, 10, 11, 12, 13, 14], [0, 1, 2, 3, 4, 5, 6, 7, 8, 9, 10, 11, 12, 13, 14, 28], [0, 1, 2, 3, 4, 5, 6, 7, 8, 9, 10, 11, 12, 13, 14], [0, 1, 2, 3, 4, 5, 6, 7, 8, 9, 10, 11, 12, 13, 14, 30], [0, 1, 2, 3, 4, 5, 6, 7, 8, 9, 10, 11, 12, 13, 14, 28, 29, 30, 31], [0, 1, 2, 3, 4, 5, 6, 7, 8, 9, 10, 11, 12, 13, 14], [0, 1, 2, 3, 4, 5, 6, 7, 8, 9, 10, 11, 12, 13, 14, 33], [0, 1, 2, 3, 4, 5, 6, 7, 8, 9, 10, 11, 12, 13, 14], [0, 1, 2, 3, 4, 5, 6, 7, 8, 9, 10, 11, 12, 13, 14, 35], [0, 1, 2, 3, 4, 5, 6, 7, 8, 9, 10, 11, 12, 13, 14, 33, 34, 35, 36], [0, 1, 2, 3, 4, 5, 6, 7, 8, 9, 10, 11, 12, 13, 14, 18, 19, 20, 21, 22, 23, 24, 25, 26, 27, 28, 29, 30, 31, 32, 33, 34, 35, 36, 37], [0, 1, 2, 3, 4, 5, 6, 7, 8, 9, 10, 11, 12, 13, 14, 15, 16, 17, 18, 19, 20, 21, 22, 23, 24, 25, 26, 27, 28, 29, 30, 31, 32, 33, 34, 35, 36, 37, 38], [0, 1, 2, 3, 4, 5, 6, 7, 8, 9, 10, 11, 12, 13, 14, 15, 16, 17, 18, 19, 20, 21, 22, 23, 24, 25, 26, 27, 28, 29, 30, 31, 32, 33, 34, 35, 36, 37, 38, 39], [0, 1, 2, 3, 4, 5, 6, 7, 8, 9, 10, 11, 12, 13, 14, 15, 16, 17, 18, 19, 20, 21, 22, 23, 24, 25, 26, 27, 28, 29, 30, 31, 32, 33, 34, 35, 36, 37, 38, 39, 40]], [])
  | _ => ([], [])
theorem ok7 : slimF Tryd.prog 1 mdA q7 Tryd.f7 = some F7 := by kernel_rfl
def q8 : Nat → List (List Nat) × List (Nat × Nat)
  | 7 => ([[], [], [], [], [2, 3], [], [5], [5, 6], [5, 6, 7], [5, 6, 7, 8], [], [2, 3, 4, 5, 6, 7, 8, 9, 10], [2, 3, 4, 5, 6, 7, 8, 9, 10, 11], [1, 2, 3, 4, 5, 6, 7, 8, 9, 10, 11, 12], [1, 2, 3, 4, 5, 6, 7, 8, 9, 10, 11, 12, 13], [0, 1, 2, 3, 4, 5, 6, 7, 8, 9, 10, 11, 12, 13, 14], [0, 1, 2, 3, 4, 5, 6, 7, 8, 9, 10, 11, 12, 13, 14, 15]], [])
  | _ => ([], [])
theorem ok8 : slimF Tryd.prog 1 mdA q8 Tryd.f8 = some F8 := by kernel_rfl
def q9 : Nat → List (List Nat) × List (Nat × Nat)
  | _ => ([], [])
theorem ok9 : slimF Tryd.prog 1 mdA q9 Tryd.f9 = some F9 := by kernel_rfl
def q10 : Nat → List (List Nat) × List (Nat × Nat)
  | 2 => ([[], [0], [0, 1], [0, 1, 2], [0, 1, 2, 3], [0, 1, 2, 3, 4], [0, 1, 2, 3, 4, 5], [0, 1, 2, 3, 4, 5, 6], [0, 1, 2, 3, 4, 5, 6, 7], [0, 1, 2, 3, 4, 5, 6, 7, 8], [0, 1, 2, 3, 4, 5, 6, 7, 8, 9], [0, 1, 2, 3, 4, 5, 6, 7], [0, 1, 2, 3, 4, 5, 6, 7, 8, 9, 10, 11], [0, 1, 2, 3, 4, 5, 6, 7, 8, 9, 10, 11, 12], [0, 1, 2, 3, 4, 5, 6, 7, 8, 9, 10, 11, 12, 13], [0, 1, 2, 3, 4, 5, 6, 7, 8, 9, 10, 11, 12, 13, 14], [0, 1, 2, 3, 4, 5, 6, 7, 8, 9, 10, 11, 12, 13, 14, 15], [0, 1, 2, 3, 4, 5, 6, 7, 8, 9, 10, 11, 12, 13, 14, 15, 16], [0, 1, 2, 3, 4, 5, 6, 7, 8, 9, 10, 11, 12, 13, 14], [0, 1, 2, 3, 4, 5, 6, 7, 8, 9, 10, 11, 12, 13, 14, 15, 16, 17, 18], [0, 1, 2, 3, 4, 5, 6, 7, 8, 9, 10, 11, 12, 13, 14, 15, 16, 17, 18, 19], [0, 1, 2, 3, 4, 5, 6, 7, 8, 9, 10, 11, 12, 13, 14, 15, 16, 17, 18, 19, 20]], [])
  | _ => ([], [])
theorem ok10 : slimF Tryd.prog 1 mdA q10 Tryd.f10 = some F10 := by kernel_rfl
def q11 : Nat → List (List Nat) × List (Nat × Nat)
  | 5 => ([[], [], [1], [], [3], [], [3, 4, 5], [3, 4, 5, 6], [1, 2, 3, 4, 5, 6, 7], [], [9], [], [11], [3, 4, 5, 6, 7, 11, 12], [], [3, 4, 5, 6, 7, 11, 12, 13, 14], [3, 4, 5, 6, 7, 11, 12, 13, 14, 15], [3, 4, 5, 6, 7, 9, 10, 11, 12, 13, 14, 15, 16], [1, 2, 3, 4, 5, 6, 7, 8, 9, 10, 11, 12, 13, 14, 15, 16, 17], [1, 2, 3, 4, 5, 6, 7, 8, 9, 10, 11, 12, 13, 14, 15, 16, 17, 18], [0, 1, 2, 3, 4, 5, 6, 7, 8, 9, 10, 11, 12, 13, 14, 15, 16, 17, 18, 19], [0, 1, 2, 3, 4, 5, 6, 7, 8, 9, 10, 11, 12, 13, 14, 15, 16, 17, 18, 19, 20]], [])
  | _ => ([], [])
theorem ok11 : slimF Tryd.prog 1 mdA q11 Tryd.f11 = some F11 := by kernel_rfl
def q12 : Nat → List (List Nat) × List (Nat × Nat)
  | _ => ([], [])
theorem ok12 : slimF Tryd.prog 1 mdA q12 Tryd.f12 = some F12 := by kernel_rfl
def q13 : Nat → List (List Nat) × List (Nat × Nat)
  | _ => ([], [])
theorem ok13 : slimF Tryd.prog 1 mdA q13 Tryd.f13 = some F13 := by kernel_rfl
def q14 : Nat → List (List Nat) × List (Nat × Nat)
  | 6 => ([[], [], [0, 1], [0, 1, 2], [0, 1, 2, 3], [], [], [5, 6], [5, 6, 7], [5, 6, 7, 8], [0, 1, 2, 3, 4, 5, 6, 7, 8, 9], [0, 1, 2, 3, 4, 5, 6, 7, 8, 9, 10], [0, 1, 2, 3, 4, 5, 6, 7, 8, 9, 10, 11], [0, 1, 2, 3, 4, 5, 6, 7, 8, 9, 10, 11], [0, 1, 2, 3, 4, 5, 6, 7, 8, 9, 10, 11, 12, 13], [0, 1, 2, 3, 4, 5, 6, 7, 8, 9, 10, 11, 12, 13, 14], [0, 1, 2, 3, 4, 5, 6, 7, 8, 9, 10, 11, 12, 13, 14, 15], [0, 1, 2, 3, 4, 5, 6, 7, 8, 9, 10, 11], [0, 1, 2, 3, 4, 5, 6, 7, 8, 9, 10, 11], [0, 1, 2, 3, 4, 5, 6, 7, 8, 9, 10, 11, 17, 18], [0, 1, 2, 3, 4, 5, 6, 7, 8, 9, 10, 11, 17, 18, 19], [0, 1, 2, 3, 4, 5, 6, 7, 8, 9, 10, 11, 17, 18, 19, 20], [0, 1, 2, 3, 4, 5, 6, 7, 8, 9, 10, 11, 12, 13, 14, 15, 16, 17, 18, 19, 20, 21], [0, 1, 2, 3, 4, 5, 6, 7, 8, 9, 10, 11, 12, 13, 14, 15, 16, 17, 18, 19, 20, 21, 22]], [])
  | _ => ([], [])
theorem ok14 : slimF Tryd.prog 1 mdA q14 Tryd.f14 = some F14 := by kernel_rfl
def q15 : Nat → List (List Nat) × List (Nat × Nat)
  | _ => ([], [])
theorem ok15 : slimF Tryd.prog 1 mdA q15 Tryd.f15 = some F15 := by kernel_rfl
def q16 : Nat → List (List Nat) × List (Nat × Nat)
  | _ => ([], [])
theorem ok16 : slimF Tryd.prog 1 mdA q16 Tryd.f16 = some F16 := by kernel_rfl
def q17 : Nat → List (List Nat) × List (Nat × Nat)
  | 4 => ([[], [0], [0, 1], [0, 1, 2], [0, 1, 2, 3], [0, 1, 2, 3, 4], [0, 1, 2, 3, 4, 5], [0, 1, 2, 3, 4, 5, 6], [0, 1, 2, 3, 4, 5, 6, 7], [0, 1, 2, 3, 4, 5, 6, 7], [0, 1, 2, 3, 4, 5, 6, 7, 9], [0, 1, 2, 3, 4, 5, 6, 7, 9, 10], [0, 1, 2, 3, 4, 5, 6, 7, 8, 9, 10, 11], [0, 1, 2, 3, 4, 5, 6, 7, 8, 9, 10, 11, 12], [0, 1, 2, 3, 4, 5, 6, 7], [0, 1, 2, 3, 4, 5, 6, 7, 14], [0, 1, 2, 3, 4, 5, 6, 7, 14, 15], [0, 1, 2, 3, 4, 5, 6, 7, 8, 9, 10, 11, 12, 13, 14, 15, 16], [0, 1, 2, 3, 4, 5, 6, 7, 8, 9, 10, 11, 12, 13, 14, 15, 16, 17]], [])
  | 13 => ([[], [], [1], [1, 2], [], [1, 2, 3, 4], [], [6], [6, 7], [], [1, 2, 3, 4, 5, 6, 7, 8, 9], [], [11], [11, 12], [], [1, 2, 3, 4, 5, 6, 7, 8, 9, 10, 11, 12, 13, 14], [], [16], [16, 17], [], [1, 2, 3, 4, 5, 6, 7, 8, 9, 10, 11, 12, 13, 14, 15, 16, 17, 18, 19], [1, 2, 3, 4, 5, 6, 7, 8, 9, 10, 11, 12, 13, 14, 15, 16, 17, 18, 19, 20], [1, 2, 3, 4, 5, 6, 7, 8, 9, 10, 11, 12, 13, 14, 15, 16, 17, 18, 19, 20, 21], [1, 2, 3, 4, 5, 6, 7, 8, 9, 10, 11, 12, 13, 14, 15, 16, 17, 18, 19, 20, 21, 22], [1, 2, 3, 4, 5, 6, 7, 8, 9, 10, 11, 12, 13, 14, 15, 16, 17, 18, 19, 20, 21, 22], [0, 1, 2, 3, 4, 5, 6, 7, 8, 9, 10, 11, 12, 13, 14, 15, 16, 17, 18, 19, 20, 21, 22, 23, 24]], [])
  | 21 => ([[], [], [1], [1, 2], [], [4], [4, 5], [], [], [8], [7, 8, 9], [7, 8, 9, 10], [], [], [12, 13], [12, 13, 14], [0, 1, 2, 3, 4, 5, 6, 7, 8, 9, 10, 11, 12, 13, 14, 15]], [])
  | 23 => ([[], [0], [0, 1], [0, 1, 2], [], [0, 1, 2, 3, 4]], [])
  | _ => ([], [])
theorem ok17 : slimF Tryd.prog 1 mdA q17 Tryd.f17 = some F17 := by kernel_rfl
def q18 : Nat → List (List Nat) × List (Nat × Nat)
  | 14 => ([[], [], [0, 1], [0, 1, 2], [], [0, 1, 2, 3, 4]], [])
  | 16 => ([[], [], [], [1, 2], [1, 2, 3], [], [], [1, 2, 3, 4, 5, 6], [1, 2, 3, 4, 5, 6, 7], [0, 1, 2, 3, 4, 5, 6, 7, 8], [0, 1, 2, 3, 4, 5, 6, 7, 8, 9]], [])
  | 23 => ([[], [], [1], [1, 2], [], [1, 2, 3, 4], [], [], [7], [6, 7, 8], [6, 7, 8, 9], [], [1, 2, 3, 4, 5, 6, 7, 8, 9, 10, 11], [1, 2, 3, 4, 5, 6, 7, 8, 9, 10, 11, 12], [0, 1, 2, 3, 4, 5, 6, 7, 8, 9, 10, 11, 12, 13], [0, 1, 2, 3, 4, 5, 6, 7, 8, 9, 10, 11, 12, 13, 14]], [])
  | 25 => ([[], [], [1], [1, 2], [], [4], [4, 5], [], [1, 2, 3, 4, 5, 6, 7], [], [], [10], [9, 10, 11], [9, 10, 11, 12], [], [], [15], [14, 15, 16], [14, 15, 16, 17], [], [1, 2, 3, 4, 5, 6, 7, 8, 9, 10, 11, 12, 13, 14, 15, 16, 17, 18, 19], [1, 2, 3, 4, 5, 6, 7, 8, 9, 10, 11, 12, 13, 14, 15, 16, 17, 18, 19, 20], [0, 1, 2, 3, 4, 5, 6, 7, 8, 9, 10, 11, 12, 13, 14, 15, 16, 17, 18, 19, 20, 21], [0, 1, 2, 3, 4, 5, 6, 7, 8, 9, 10, 11, 12, 13, 14, 15, 16, 17, 18, 19, 20, 21, 22]], [])
  | _ => ([], [])
theorem ok18 : slimF Tryd.prog 1 mdA q18 Tryd.f18 = some F18 := by kernel_rfl
def q19 : Nat → List (List Nat) × List (Nat × Nat)
  | 6 => ([[], [], [0, 1], [], [], [0, 1, 2, 3, 4], [], [], [0, 1, 2, 3, 4, 5, 6, 7], [], [], [0, 1, 2, 3, 4, 5, 6, 7, 8, 9, 10], [0, 1, 2, 3, 4, 5, 6, 7, 8, 9, 10, 11], [0, 1, 2, 3, 4, 5, 6, 7, 8, 9, 10, 11, 12], [0, 1, 2, 3, 4, 5, 6, 7, 8, 9, 10, 11, 12, 13], [0, 1, 2, 3, 4, 5, 6, 7, 8, 9, 10, 11, 12, 13], [0, 1, 2, 3, 4, 5, 6, 7, 8, 9, 10, 11, 12, 13, 14, 15], [0, 1, 2, 3, 4, 5, 6, 7, 8, 9, 10, 11, 12, 13, 14, 15, 16]], [])
  | _ => ([], [])
theorem ok19 : slimF Tryd.prog 1 mdA q19 Tryd.f19 = some F19 := by kernel_rfl
def q20 : Nat → List (List Nat) × List (Nat × Nat)
  | _ => ([], [])
theorem ok20 : slimF Tryd.prog 1 mdA q20 Tryd.f20 = some F20 := by kernel_rfl
def q21 : Nat → List (List Nat) × List (Nat × Nat)
  | _ => ([], [])
theorem ok21 : slimF Tryd.prog 1 mdA q21 Tryd.f21 = some F21 := by kernel_rfl
def q22 : Nat → List (List Nat) × List (Nat × Nat)
  | _ => ([], [])
theorem ok22 : slimF Tryd.prog 1 mdA q22 Tryd.f22 = some F22 := by kernel_rfl
def q23 : Nat → List (List Nat) × List (Nat × Nat)
  | _ => ([], [])
theorem ok23 : slimF Tryd.prog 1 mdA q23 Tryd.f23 = some F23 := by kernel_rfl
def q24 : Nat → List (List Nat) × List (Nat × Nat)
  | _ => ([], [])
theorem ok24 : slimF Tryd.prog 1 mdA q24 Tryd.f24 = some F24 := by kernel_rfl
def q25 : Nat → List (List Nat) × List (Nat × Nat)
  | _ => ([], [])
theorem ok25 : slimF Tryd.prog 1 mdA q25 Tryd.f25 = some F25 := by kernel_rfl
def q26 : Nat → List (List Nat) × List (Nat × Nat)
  | _ => ([], [])
theorem ok26 : slimF Tryd.prog 1 mdA q26 Tryd.f26 = some F26 := by kernel_rfl
def q27 : Nat → List (List Nat) × List (Nat × Nat)
  | _ => ([], [])
theorem ok27 : slimF Tryd.prog 1 mdA q27 Tryd.f27 = some F27 := by kernel_rfl
def q28 : Nat → List (List Nat) × List (Nat × Nat)
  | _ => ([], [])
theorem ok28 : slimF Tryd.prog 1 mdA q28 Tryd.f28 = some F28 := by kernel_rfl
def q29 : Nat → List (List Nat) × List (Nat × Nat)
  | _ => ([], [])
theorem ok29 : slimF Tryd.prog 1 mdA q29 Tryd.f29 = some F29 := by kernel_rfl
def q30 : Nat → List (List Nat) × List (Nat × Nat)
  | _ => ([], [])
theorem ok30 : slimF Tryd.prog 1 mdA q30 Tryd.f30 = some F30 := by kernel_rfl
def q31 : Nat → List (List Nat) × List (Nat × Nat)
  | _ => ([], [])
theorem ok31 : slimF Tryd.prog 1 mdA q31 Tryd.f31 = some F31 := by kernel_rfl
def q32 : Nat → List (List Nat) × List (Nat × Nat)
  | _ => ([], [])
theorem ok32 : slimF Tryd.prog 1 mdA q32 Tryd.f32 = some F32 := by kernel_rfl
def q33 : Nat → List (List Nat) × List (Nat × Nat)
  | _ => ([], [])
theorem ok33 : slimF Tryd.prog 1 mdA q33 Tryd.f33 = some F33 := by kernel_rfl
def q34 : Nat → List (List Nat) × List (Nat × Nat)
  | _ => ([], [])
theorem ok34 : slimF Tryd.prog 1 mdA q34 Tryd.f34 = some F34 := by kernel_rfl
def q35 : Nat → List (List Nat) × List (Nat × Nat)
  | 6 => ([[], [], [0, 1], [0, 1, 2], [], [], [5], [4, 5, 6], [4, 5, 6, 7], [0, 1, 2, 3, 4, 5, 6, 7, 8]], [])
  | 11 => ([[], [], [0, 1], [0, 1, 2], [], [], [5], [4, 5, 6], [4, 5, 6, 7], [0, 1, 2, 3, 4, 5, 6, 7, 8]], [])
  | _ => ([], [])
theorem ok35 : slimF Tryd.prog 1 mdA q35 Tryd.f35 = some F35 := by kernel_rfl
def q36 : Nat → List (List Nat) × List (Nat × Nat)
  | _ => ([], [])
theorem ok36 : slimF Tryd.prog 1 mdA q36 Tryd.f36 = some F36 := by kernel_rfl
def q37 : Nat → List (List Nat) × List (Nat × Nat)
  | _ => ([], [])
theorem ok37 : slimF Tryd.prog 1 mdA q37 Tryd.f37 = some F37 := by kernel_rfl
def q38 : Nat → List (List Nat) × List (Nat × Nat)
  | _ => ([], [])
theorem ok38 : slimF Tryd.prog 1 mdA q38 Tryd.f38 = some F38 := by kernel_rfl
def q39 : Nat → List (List Nat) × List (Nat × Nat)
  | 4 => ([[], [], [], [1, 2], [1, 2, 3], [], [], [6], [5, 6, 7], [5, 6, 7, 8], [], [10], [10, 11], [10, 11, 12], [1, 2, 3, 4, 5, 6, 7, 8, 9, 10, 11, 12, 13], [1, 2, 3, 4, 5, 6, 7, 8, 9, 10, 11, 12, 13, 14], [1, 2, 3, 4, 5, 6, 7, 8, 9, 10, 11, 12, 13, 14], [0, 1, 2, 3, 4, 5, 6, 7, 8, 9, 10, 11, 12, 13, 14, 15, 16]], [])
  | 7 => ([[], [], [], [1, 2], [1, 2, 3], [], [5], [5, 6], [], [8], [8, 9], [8, 9, 10], [1, 2, 3, 4, 5, 6, 7, 8, 9, 10, 11], [1, 2, 3, 4, 5, 6, 7, 8, 9, 10, 11, 12], [1, 2, 3, 4, 5, 6, 7, 8, 9, 10, 11, 12], [0, 1, 2, 3, 4, 5, 6, 7, 8, 9, 10, 11, 12, 13, 14]], [])
  | 12 => ([[], [], [], [2], [2, 3], [2, 3, 4], [1, 2, 3, 4, 5], [1, 2, 3, 4, 5, 6], [1, 2, 3, 4, 5, 6], [0, 1, 2, 3, 4, 5, 6, 7, 8]], [])
  | _ => ([], [])
theorem ok39 : slimF Tryd.prog 1 mdA q39 Tryd.f39 = some F39 := by kernel_rfl
def q40 : Nat → List (List Nat) × List (Nat × Nat)
  | 1 => ([[], [], [], [2], [2, 3], [2, 3, 4], [0, 1, 2, 3, 4, 5], [0, 1, 2, 3, 4, 5, 6], [0, 1, 2, 3, 4, 5, 6, 7], [0, 1, 2, 3, 4, 5, 6, 7], [0, 1, 2, 3, 4, 5, 6, 7], [], [], [0, 1, 2, 3, 4, 5, 6, 7, 8, 11, 12], [0, 1, 2, 3, 4, 5, 6, 7, 8, 9, 11, 12, 13], [0, 1, 2, 3, 4, 5, 6, 7, 8, 9, 10, 11, 12, 13, 14]], [])
  | 2 => ([[], [], [], [1, 2], [], [1, 2, 3, 4], [], [], [1, 2, 3, 4, 5, 6, 7], [], [], [1, 2, 3, 4, 5, 6, 7, 8, 9, 10], [], [], [1, 2, 3, 4, 5, 6, 7, 8, 9, 10, 11, 12, 13], [], [1, 2, 3, 4, 5, 6, 7, 8, 9, 10, 11, 12, 13, 14, 15], [1, 2, 3, 4, 5, 6, 7, 8, 9, 10, 11, 12, 13, 14, 15, 16], [1, 2, 3, 4, 5, 6, 7, 8, 9, 10, 11, 12, 13, 14, 15, 16, 17], [1, 2, 3, 4, 5, 6, 7, 8, 9, 10, 11, 12, 13, 14, 15, 16, 17, 18], [1, 2, 3, 4, 5, 6, 7, 8, 9, 10, 11, 12, 13, 14, 15, 16, 17, 18], [0, 1, 2, 3, 4, 5, 6, 7, 8, 9, 10, 11, 12, 13, 14, 15, 16, 17, 18, 19, 20]], [])
  | 3 => ([[], [], [], [2], [2, 3], [2, 3, 4], [0, 1, 2, 3, 4, 5], [0, 1, 2, 3, 4, 5, 6], [0, 1, 2, 3, 4, 5, 6, 7], [0, 1, 2, 3, 4, 5, 6, 7], [0, 1, 2, 3, 4, 5, 6, 7], [0, 1, 2, 3, 4, 5, 6, 7, 8], [0, 1, 2, 3, 4, 5, 6, 7, 8, 9, 11]], [])
  | 4 => ([[], [], [], [1, 2], [], [], [1, 2, 3, 4, 5], [], [1, 2, 3, 4, 5, 6, 7], [], [], [1, 2, 3, 4, 5, 6, 7, 8, 9, 10], [], [1, 2, 3, 4, 5, 6, 7, 8, 9, 10, 11, 12], [], [], [1, 2, 3, 4, 5, 6, 7, 8, 9, 10, 11, 12, 13, 14, 15], [1, 2, 3, 4, 5, 6, 7, 8, 9, 10, 11, 12, 13, 14, 15, 16], [1, 2, 3, 4, 5, 6, 7, 8, 9, 10, 11, 12, 13, 14, 15, 16, 17], [1, 2, 3, 4, 5, 6, 7, 8, 9, 10, 11, 12, 13, 14, 15, 16, 17, 18], [1, 2, 3, 4, 5, 6, 7, 8, 9, 10, 11, 12, 13, 14, 15, 16, 17, 18], [0, 1, 2, 3, 4, 5, 6, 7, 8, 9, 10, 11, 12, 13, 14, 15, 16, 17, 18, 19, 20]], [])
  | _ => ([], [])
theorem ok40 : slimF Tryd.prog 1 mdA q40 Tryd.f40 = some F40 := by kernel_rfl
def q41 : Nat → List (List Nat) × List (Nat × Nat)
  | 5 => ([[], [0], [0, 1], [0, 1, 2], [0, 1, 2], [0, 1, 2, 3, 4], [0, 1, 2, 3, 4, 5], [0, 1, 2], [0, 1, 2], [0, 1, 2, 8], [0, 1, 2, 7, 8, 9], [0, 1, 2, 7, 8, 9, 10], [0, 1, 2, 3, 4, 5, 6, 7, 8, 9, 10, 11], [0, 1, 2, 3, 4, 5, 6, 7, 8, 9, 10, 11, 12]], [])
  | 7 => ([[], [0], [0, 1], [0, 1, 2], [0, 1, 2, 3], [0, 1, 2, 3, 4], [0, 1, 2, 3, 4, 5], [0, 1, 2, 3, 4, 5, 6], [0, 1, 2, 3, 4, 5, 6], [0, 1, 2, 3, 4, 5, 6, 8], [0, 1, 2, 3, 4, 5, 6, 8, 9], [0, 1, 2, 3, 4, 5, 6, 7, 8, 9, 10], [0, 1, 2, 3, 4, 5, 6, 7, 8, 9, 10, 11], [0, 1, 2, 3, 4, 5, 6], [0, 1, 2, 3, 4, 5, 6, 13], [0, 1, 2, 3, 4, 5, 6, 13, 14], [0, 1, 2, 3, 4, 5, 6, 7, 8, 9, 10, 11, 12, 13, 14, 15], [0, 1, 2, 3, 4, 5, 6, 7, 8, 9, 10, 11, 12, 13, 14, 15, 16]], [])
  | _ => ([], [])
theorem ok41 : slimF Tryd.prog 1 mdA q41 Tryd.f41 = some F41 := by kernel_rfl
def q42 : Nat → List (List Nat) × List (Nat × Nat)
  | 1 => ([[], [0], [], [2], [0, 1, 2, 3], [], [5], [], [7], [5, 6, 7, 8], [0, 1, 2, 3, 4], [0, 1, 2, 3, 4, 5, 6, 7, 8, 9, 10]], [])
  | _ => ([], [])
theorem ok42 : slimF Tryd.prog 1 mdA q42 Tryd.f42 = some F42 := by kernel_rfl
def q43 : Nat → List (List Nat) × List (Nat × Nat)
  | 2 => ([[], [], [], [0, 1, 2], [], [], [], [0, 1, 2, 3, 4, 5, 6], [], [], [], [0, 1, 2, 3, 4, 5, 6, 7, 8, 9, 10], [], [], [], [0, 1, 2, 3, 4, 5, 6, 7, 8, 9, 10, 11, 12, 13, 14], [0, 1, 2, 3, 4, 5, 6, 7, 8, 9, 10, 11, 12, 13, 14, 15], [0, 1, 2, 3, 4, 5, 6, 7, 8, 9, 10, 11, 12, 13, 14, 15, 16]], [])
  | _ => ([], [])
theorem ok43 : slimF Tryd.prog 1 mdA q43 Tryd.f43 = some F43 := by kernel_rfl
def q44 : Nat → List (List Nat) × List (Nat × Nat)
  | 2 => ([[], [], [], [0, 1, 2], [], [], [], [0, 1, 2, 3, 4, 5, 6], [], [], [], [0, 1, 2, 3, 4, 5, 6, 7, 8, 9, 10], [], [], [], [0, 1, 2, 3, 4, 5, 6, 7, 8, 9, 10, 11, 12, 13, 14], [0, 1, 2, 3, 4, 5, 6, 7, 8, 9, 10, 11, 12, 13, 14, 15], [0, 1, 2, 3, 4, 5, 6, 7, 8, 9, 10, 11, 12, 13, 14, 15, 16]], [])
  | _ => ([], [])
theorem ok44 : slimF Tryd.prog 1 mdA q44 Tryd.f44 = some F44 := by kernel_rfl
def q45 : Nat → List (List Nat) × List (Nat × Nat)
  | 2 => ([[], [], [], [0, 1, 2], [], [], [], [0, 1, 2, 3, 4, 5, 6], [], [], [], [0, 1, 2, 3, 4, 5, 6, 7, 8, 9, 10], [], [], [], [0, 1, 2, 3, 4, 5, 6, 7, 8, 9, 10, 11, 12, 13, 14], [0, 1, 2, 3, 4, 5, 6, 7, 8, 9, 10, 11, 12, 13, 14, 15], [0, 1, 2, 3, 4, 5, 6, 7, 8, 9, 10, 11, 12, 13, 14, 15, 16]], [])
  | _ => ([], [])
theorem ok45 : slimF Tryd.prog 1 mdA q45 Tryd.f45 = some F45 := by kernel_rfl
def q46 : Nat → List (List Nat) × List (Nat × Nat)
  | 3 => ([[], [], [0], [0, 1, 2], [0, 1, 2, 3]], [(7, 6)])
  | 5 => ([[], [0], [0, 1], [], [], [0, 1, 2, 3, 4], [], [6], [], [], [0, 1, 2, 3, 4, 5, 6, 7, 8, 9], [0, 1, 2, 3, 4, 5, 6, 7, 8, 9, 10], [0, 1, 2, 3, 4, 5, 6, 7, 8, 9, 10, 11]], [])
  | 6 => ([[], [0], [], [], [0, 1, 2, 3], [], [5], [], [], [0, 1, 2, 3, 4, 5, 6, 7, 8], [0, 1, 2, 3, 4, 5, 6, 7, 8, 9], [0, 1, 2, 3, 4, 5, 6, 7, 8, 9, 10]], [])
  | 7 => ([[], [], [0], [0, 1, 2], [0, 1, 2, 3]], [(7, 6)])
  | _ => ([], [])
theorem ok46 : slimF Tryd.prog 1 mdA q46 Tryd.f46 = some F46 := by kernel_rfl
def q47 : Nat → List (List Nat) × List (Nat × Nat)
  | 1 => ([[], [0], [], [2], [0, 1, 2, 3], [], [5], [], [7], [5, 6, 7, 8], [0, 1, 2, 3, 4, 5, 6, 7, 8, 9], [], [11], [], [13], [11, 12, 13, 14], [], [16], [], [18], [16, 17, 18, 19], [0, 1, 2, 3, 4, 5, 6, 7, 8, 9, 10, 11, 12, 13, 14, 15, 16, 17, 18, 19, 20], [0, 1, 2, 3, 4, 5, 6, 7, 8, 9, 10, 11, 12, 13, 14, 15, 16, 17, 18, 19, 20, 21], [0, 1, 2, 3, 4, 5, 6, 7, 8, 9, 10, 11, 12, 13, 14, 15, 16, 17, 18, 19, 20, 21, 22]], [])
  | _ => ([], [])
theorem ok47 : slimF Tryd.prog 1 mdA q47 Tryd.f47 = some F47 := by kernel_rfl
def q48 : Nat → List (List Nat) × List (Nat × Nat)
  | _ => ([], [])
theorem ok48 : slimF Tryd.prog 1 mdA q48 Tryd.f48 = some F48 := by kernel_rfl
def q49 : Nat → List (List Nat) × List (Nat × Nat)
  | _ => ([], [])
theorem ok49 : slimF Tryd.prog 1 mdA q49 Tryd.f49 = some F49 := by kernel_rfl
def q50 : Nat → List (List Nat) × List (Nat × Nat)
  | _ => ([], [])
theorem ok50 : slimF Tryd.prog 1 mdA q50 Tryd.f50 = some F50 := by kernel_rfl
def q51 : Nat → List (List Nat) × List (Nat × Nat)
  | _ => ([], [])
theorem ok51 : slimF Tryd.prog 1 mdA q51 Tryd.f51 = some F51 := by kernel_rfl
def q52 : Nat → List (List Nat) × List (Nat × Nat)
  | _ => ([], [])
theorem ok52 : slimF Tryd.prog 1 mdA q52 Tryd.f52 = some F52 := by kernel_rfl
def q53 : Nat → List (List Nat) × List (Nat × Nat)
  | _ => ([], [])
theorem ok53 : slimF Tryd.prog 1 mdA q53 Tryd.f53 = some F53 := by kernel_rfl
def q54 : Nat → List (List Nat) × List (Nat × Nat)
  | 1 => ([[], [0], [], [2], [0, 1, 2, 3], [], [5], [], [7], [5, 6, 7, 8], [0, 1, 2, 3, 4], [0, 1, 2, 3, 4, 5, 6, 7, 8, 9, 10]], [])
  | 4 => ([[], [], [], [1, 2], [], [1, 2, 3, 4], [], [], [6, 7], [], [1, 2, 3, 4, 5, 6, 7, 8, 9], [1, 2, 3, 4, 5, 6, 7, 8, 9, 10], [0, 1, 2, 3, 4, 5, 6, 7, 8, 9, 10], [0, 1, 2, 3, 4, 5, 6, 7, 8, 9, 10, 11, 12]], [])
  | _ => ([], [])
theorem ok54 : slimF Tryd.prog 1 mdA q54 Tryd.f54 = some F54 := by kernel_rfl
def q55 : Nat → List (List Nat) × List (Nat × Nat)
  | _ => ([], [])
theorem ok55 : slimF Tryd.prog 1 mdA q55 Tryd.f55 = some F55 := by kernel_rfl
def q56 : Nat → List (List Nat) × List (Nat × Nat)
  | _ => ([], [])
theorem ok56 : slimF Tryd.prog 1 mdA q56 Tryd.f56 = some F56 := by kernel_rfl
def q57 : Nat → List (List Nat) × List (Nat × Nat)
  | _ => ([], [])
theorem ok57 : slimF Tryd.prog 1 mdA q57 Tryd.f57 = some F57 := by kernel_rfl
def q58 : Nat → List (List Nat) × List (Nat × Nat)
  | 1 => ([[], [0], [], [2], [0, 1, 2, 3], [], [5], [], [7], [0, 1, 2, 3, 4, 5, 6, 7, 8], [0, 1, 2, 3, 4, 5, 6, 7, 8, 9], [0, 1, 2, 3, 4, 5, 6, 7, 8, 9, 10], [0, 1, 2, 3, 4, 5, 6, 7, 8, 9, 10, 11]], [])
  | _ => ([], [])
theorem ok58 : slimF Tryd.prog 1 mdA q58 Tryd.f58 = some F58 := by kernel_rfl
def q59 : Nat → List (List Nat) × List (Nat × Nat)
  | _ => ([], [])
theorem ok59 : slimF Tryd.prog 1 mdA q59 Tryd.f59 = some F59 := by kernel_rfl
def q60 : Nat → List (List Nat) × List (Nat × Nat)
  | _ => ([], [])
theorem ok60 : slimF Tryd.prog 1 mdA q60 Tryd.f60 = some F60 := by kernel_rfl
def q61 : Nat → List (List Nat) × List (Nat × Nat)
  | _ => ([], [])
theorem ok61 : slimF Tryd.prog 1 mdA q61 Tryd.f61 = some F61 := by kernel_rfl
def q62 : Nat → List (List Nat) × List (Nat × Nat)
  | _ => ([], [])
theorem ok62 : slimF Tryd.prog 1 mdA q62 Tryd.f62 = some F62 := by kernel_rfl
def q63 : Nat → List (List Nat) × List (Nat × Nat)
  | _ => ([], [])
theorem ok63 : slimF Tryd.prog 1 mdA q63 Tryd.f63 = some F63 := by kernel_rfl
def q64 : Nat → List (List Nat) × List (Nat × Nat)
  | _ => ([], [])
theorem ok64 : slimF Tryd.prog 1 mdA q64 Tryd.f64 = some F64 := by kernel_rfl
def q65 : Nat → List (List Nat) × List (Nat × Nat)
  | _ => ([], [])
theorem ok65 : slimF Tryd.prog 1 mdA q65 Tryd.f65 = some F65 := by kernel_rfl
def q66 : Nat → List (List Nat) × List (Nat × Nat)
  | _ => ([], [])
theorem ok66 : slimF Tryd.prog 1 mdA q66 Tryd.f66 = some F66 := by kernel_rfl
def qA : Nat → Nat → List (List Nat) × List (Nat × Nat)
  | 3 => q3
  | 4 => q4
  | 5 => q5
  | 6 => q6
  | 7 => q7
  | 8 => q8
  | 9 => q9
  | 10 => q10
  | 11 => q11
  | 12 => q12
  | 13 => q13
  | 14 => q14
  | 15 => q15
  | 16 => q16
  | 17 => q17
  | 18 => q18
  | 19 => q19
  | 20 => q20
  | 21 => q21
  | 22 => q22
  | 23 => q23
  | 24 => q24
  | 25 => q25
  | 26 => q26
  | 27 => q27
  | 28 => q28
  | 29 => q29
  | 30 => q30
  | 31 => q31
  | 32 => q32
  | 33 => q33
  | 34 => q34
  | 35 => q35
  | 36 => q36
  | 37 => q37
  | 38 => q38
  | 39 => q39
  | 40 => q40
  | 41 => q41
  | 42 => q42
  | 43 => q43
  | 44 => q44
  | 45 => q45
  | 46 => q46
  | 47 => q47
  | 48 => q48
  | 49 => q49
  | 50 => q50
  | 51 => q51
  | 52 => q52
  | 53 => q53
  | 54 => q54
  | 55 => q55
  | 56 => q56
  | 57 => q57
  | 58 => q58
  | 59 => q59
  | 60 => q60
  | 61 => q61
  | 62 => q62
  | 63 => q63
  | 64 => q64
  | 65 => q65
  | 66 => q66
  | _ => fun _ => ([], [])
theorem TA_ok : ∀ f sf, TA f = some sf → ∃ fn, Tryd.prog.funcs[f]? = some fn ∧ slimF Tryd.prog 1 mdA (qA f) fn = some sf := by
  intro f sf h
  unfold TA at h
  split at h
  · cases h; exact ⟨Tryd.f3, Tryd.func3, ok3⟩
  · cases h; exact ⟨Tryd.f4, Tryd.func4, ok4⟩
  · cases h; exact ⟨Tryd.f5, Tryd.func5, ok5⟩
  · cases h; exact ⟨Tryd.f6, Tryd.func6, ok6⟩
  · cases h; exact ⟨Tryd.f7, Tryd.func7, ok7⟩
  · cases h; exact ⟨Tryd.f8, Tryd.func8, ok8⟩
  · cases h; exact ⟨Tryd.f9, Tryd.func9, ok9⟩
  · cases h; exact ⟨Tryd.f10, Tryd.func10, ok10⟩
  · cases h; exact ⟨Tryd.f11, Tryd.func11, ok11⟩
  · cases h; exact ⟨Tryd.f12, Tryd.func12, ok12⟩
  · cases h; exact ⟨Tryd.f13, Tryd.func13, ok13⟩
  · cases h; exact ⟨Tryd.f14, Tryd.func14, ok14⟩
  · cases h; exact ⟨Tryd.f15, Tryd.func15, ok15⟩
  · cases h; exact ⟨Tryd.f16, Tryd.func16, ok16⟩
  · cases h; exact ⟨Tryd.f17, Tryd.func17, ok17⟩
  · cases h; exact ⟨Tryd.f18, Tryd.func18, ok18⟩
  · cases h; exact ⟨Tryd.f19, Tryd.func19, ok19⟩
  · cases h; exact ⟨Tryd.f20, Tryd.func20, ok20⟩
  · cases h; exact ⟨Tryd.f21, Tryd.func21, ok21⟩
  · cases h; exact ⟨Tryd.f22, Tryd.func22, ok22⟩
  · cases h; exact ⟨Tryd.f23, Tryd.func23, ok23⟩
  · cases h; exact ⟨Tryd.f24, Tryd.func24, ok24⟩
  · cases h; exact ⟨Tryd.f25, Tryd.func25, ok25⟩
  · cases h; exact ⟨Tryd.f26, Tryd.func26, ok26⟩
  · cases h; exact ⟨Tryd.f27, Tryd.func27, ok27⟩
  · cases h; exact ⟨Tryd.f28, Tryd.func28, ok28⟩
  · cases h; exact ⟨Tryd.f29, Tryd.func29, ok29⟩
  · cases h; exact ⟨Tryd.f30, Tryd.func30, ok30⟩
  · cases h; exact ⟨Tryd.f31, Tryd.func31, ok31⟩
  · cases h; exact ⟨Tryd.f32, Tryd.func32, ok32⟩
  · cases h; exact ⟨Tryd.f33, Tryd.func33, ok33⟩
  · cases h; exact ⟨Tryd.f34, Tryd.func34, ok34⟩
  · cases h; exact ⟨Tryd.f35, Tryd.func35, ok35⟩
  · cases h; exact ⟨Tryd.f36, Tryd.func36, ok36⟩
  · cases h; exact ⟨Tryd.f37, Tryd.func37, ok37⟩
  · cases h; exact ⟨Tryd.f38, Tryd.func38, ok38⟩
  · cases h; exact ⟨Tryd.f39, Tryd.func39, ok39⟩
  · cases h; exact ⟨Tryd.f40, Tryd.func40, ok40⟩
  · cases h; exact ⟨Tryd.f41, Tryd.func41, ok41⟩
  · cases h; exact ⟨Tryd.f42, Tryd.func42, ok42⟩
  · cases h; exact ⟨Tryd.f43, Tryd.func43, ok43⟩
  · cases h; exact ⟨Tryd.f44, Tryd.func44, ok44⟩
  · cases h; exact ⟨Tryd.f45, Tryd.func45, ok45⟩
  · cases h; exact ⟨Tryd.f46, Tryd.func46, ok46⟩
  · cases h; exact ⟨Tryd.f47, Tryd.func47, ok47⟩
  · cases h; exact ⟨Tryd.f48, Tryd.func48, ok48⟩
  · cases h; exact ⟨Tryd.f49, Tryd.func49, ok49⟩
  · cases h; exact ⟨Tryd.f50, Tryd.func50, ok50⟩
  · cases h; exact ⟨Tryd.f51, Tryd.func51, ok51⟩
  · cases h; exact ⟨Tryd.f52, Tryd.func52, ok52⟩
  · cases h; exact ⟨Tryd.f53, Tryd.func53, ok53⟩
  · cases h; exact ⟨Tryd.f54, Tryd.func54, ok54⟩
  · cases h; exact ⟨Tryd.f55, Tryd.func55, ok55⟩
  · cases h; exact ⟨Tryd.f56, Tryd.func56, ok56⟩
  · cases h; exact ⟨Tryd.f57, Tryd.func57, ok57⟩
  · cases h; exact ⟨Tryd.f58, Tryd.func58, ok58⟩
  · cases h; exact ⟨Tryd.f59, Tryd.func59, ok59⟩
  · cases h; exact ⟨Tryd.f60, Tryd.func60, ok60⟩
  · cases h; exact ⟨Tryd.f61, Tryd.func61, ok61⟩
  · cases h; exact ⟨Tryd.f62, Tryd.func62, ok62⟩
  · cases h; exact ⟨Tryd.f63, Tryd.func63, ok63⟩
  · cases h; exact ⟨Tryd.f64, Tryd.func64, ok64⟩
  · cases h; exact ⟨Tryd.f65, Tryd.func65, ok65⟩
  · cases h; exact ⟨Tryd.f66, Tryd.func66, ok66⟩
  · cases h
end Go.Proofs.YtidpeongblkcbaaDoor.Sy
