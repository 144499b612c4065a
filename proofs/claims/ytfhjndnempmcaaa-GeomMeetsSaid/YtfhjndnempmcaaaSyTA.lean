/- Functions of the program, slimmed down, and the check that they are. Conditions: none. -/
import Derived.Test.YtfhjndnempmcaaaSyO
import Derived.Test.YtfhjndnempmcaaaProg
import Derived.KernelRfl
namespace Go.Proofs.Ytfhjndnempmcaaa.Sy
open Go Go.Proofs
set_option linter.unusedVariables false

def r7_0 : List SOper := [
  ⟨(some 3), .box (.t 0), none⟩,
  ⟨(some 4), .box (.t 1), none⟩,
  ⟨(some 5), .box (.t 2), none⟩,
  ⟨(some 6), .mv (.c (.one (.sc (.bool false)))), none⟩]
def r7_1 : List SOper := [
  ⟨(some 11), .loadA 4 (.t 3), none⟩,
  ⟨(some 12), .loadA 4 (.t 4), none⟩,
  ⟨(some 13), .call (.z 0) 19 [(.t 11), (.t 12)], none⟩,
  ⟨(some 14), .loadA 4 (.t 3), none⟩,
  ⟨(some 15), .loadA 4 (.t 4), none⟩,
  ⟨(some 16), .call (.z 0) 20 [(.t 14), (.t 15)], none⟩,
  ⟨(some 7), .alloc [.sc (.int .i64 0), .sc (.int .i64 0), .sc (.int .i64 0), .sc (.int .i64 0)], none⟩,
  ⟨(some 8), .alloc [.sc (.int .i64 0), .sc (.int .i64 0), .sc (.int .i64 0), .sc (.int .i64 0)], none⟩,
  ⟨none, .store 4 (.t 7) (.t 13), none⟩,
  ⟨none, .store 4 (.t 8) (.t 16), none⟩]
def r7_2 : List SOper := [
  ⟨(some 17), .mkfn 21 [(.t 5)], none⟩,
  ⟨(some 9), .mv (.t 17), none⟩]
def r7_3 : List SOper := [
  ⟨(some 10), .mv (.f 22), none⟩]
def r7_4 : List SOper := [
  ⟨(some 18), .loadA 4 (.t 3), none⟩,
  ⟨(some 19), .loadA 2 (.t 5), none⟩,
  ⟨(some 20), .call (.z 0) 15 [(.t 18), (.t 19)], none⟩,
  ⟨(some 21), .mv (.t 9), none⟩,
  ⟨(some 22), .loadA 4 (.t 3), none⟩,
  ⟨(some 23), .callv .q (.t 21) [(.t 22)], none⟩,
  ⟨(some 24), .beq true (.t 20) (.t 23), none⟩,
  ⟨(some 25), .mv (.t 24), none⟩,
  ⟨(some 26), .loadA 4 (.t 3), (some (some 25, false))⟩,
  ⟨(some 27), .call (.z 0) 23 [(.t 26)], (some (some 25, false))⟩,
  ⟨(some 28), .mv (.t 10), (some (some 25, false))⟩,
  ⟨(some 29), .loadA 4 (.t 3), (some (some 25, false))⟩,
  ⟨(some 30), .callv .q (.t 28) [(.t 29)], (some (some 25, false))⟩,
  ⟨(some 31), .beq true (.t 27) (.t 30), (some (some 25, false))⟩,
  ⟨(some 32), .pick (.t 25) (.c (.one (.sc (.bool true)))) (.t 31), none⟩,
  ⟨(some 33), .mv (.t 32), none⟩,
  ⟨(some 34), .loadA 4 (.t 7), (some (some 33, false))⟩,
  ⟨(some 35), .loadA 2 (.t 5), (some (some 33, false))⟩,
  ⟨(some 36), .call (.z 0) 15 [(.t 34), (.t 35)], (some (some 33, false))⟩,
  ⟨(some 37), .mv (.t 9), (some (some 33, false))⟩,
  ⟨(some 38), .loadA 4 (.t 3), (some (some 33, false))⟩,
  ⟨(some 39), .callv .q (.t 37) [(.t 38)], (some (some 33, false))⟩,
  ⟨(some 40), .mv (.t 39), (some (some 33, false))⟩,
  ⟨(some 41), .mv (.t 9), (some (some 40, true))⟩,
  ⟨(some 42), .loadA 4 (.t 4), (some (some 40, true))⟩,
  ⟨(some 43), .callv .q (.t 41) [(.t 42)], (some (some 40, true))⟩,
  ⟨(some 44), .pick (.t 40) (.t 43) (.c (.one (.sc (.bool false)))), (some (some 33, false))⟩,
  ⟨(some 45), .beq true (.t 36) (.t 44), (some (some 33, false))⟩,
  ⟨(some 46), .pick (.t 33) (.c (.one (.sc (.bool true)))) (.t 45), none⟩,
  ⟨(some 47), .mv (.t 46), none⟩,
  ⟨(some 48), .loadA 4 (.t 7), (some (some 47, false))⟩,
  ⟨(some 49), .loadA 4 (.t 4), (some (some 47, false))⟩,
  ⟨(some 50), .loadA 4 (.t 3), (some (some 47, false))⟩,
  ⟨(some 51), .call (.z 0) 19 [(.t 49), (.t 50)], (some (some 47, false))⟩,
  ⟨(some 52), .eqv [.i, .i, .i, .i] true (.t 48) (.t 51), (some (some 47, false))⟩,
  ⟨(some 53), .pick (.t 47) (.c (.one (.sc (.bool true)))) (.t 52), none⟩,
  ⟨(some 54), .mv (.t 53), none⟩,
  ⟨(some 55), .loadA 4 (.t 8), (some (some 54, false))⟩,
  ⟨(some 56), .loadA 4 (.t 4), (some (some 54, false))⟩,
  ⟨(some 57), .loadA 4 (.t 3), (some (some 54, false))⟩,
  ⟨(some 58), .call (.z 0) 20 [(.t 56), (.t 57)], (some (some 54, false))⟩,
  ⟨(some 59), .eqv [.i, .i, .i, .i] true (.t 55) (.t 58), (some (some 54, false))⟩,
  ⟨(some 60), .mv (.t 59), (some (some 54, false))⟩,
  ⟨(some 61), .mv (.t 10), (some (some 60, true))⟩,
  ⟨(some 62), .loadA 4 (.t 3), (some (some 60, true))⟩,
  ⟨(some 63), .callv .q (.t 61) [(.t 62)], (some (some 60, true))⟩,
  ⟨(some 64), .mv (.t 63), (some (some 60, true))⟩,
  ⟨(some 65), .mv (.t 10), (some (some 64, true))⟩,
  ⟨(some 66), .loadA 4 (.t 4), (some (some 64, true))⟩,
  ⟨(some 67), .callv .q (.t 65) [(.t 66)], (some (some 64, true))⟩,
  ⟨(some 68), .pick (.t 64) (.t 67) (.c (.one (.sc (.bool false)))), (some (some 60, true))⟩,
  ⟨(some 69), .un .not (.t 68), (some (some 60, true))⟩,
  ⟨(some 70), .pick (.t 60) (.t 69) (.c (.one (.sc (.bool false)))), (some (some 54, false))⟩,
  ⟨(some 71), .pick (.t 54) (.c (.one (.sc (.bool true)))) (.t 70), none⟩]
def r7_5 : List SOper := [
  ⟨(some 6), .mv (.c (.one (.sc (.bool false)))), none⟩]
def r7_6 : List SOper := [
  ⟨(some 72), .mv (.t 9), none⟩,
  ⟨(some 73), .loadA 4 (.t 3), none⟩,
  ⟨(some 74), .callv .q (.t 72) [(.t 73)], none⟩,
  ⟨(some 75), .mv (.t 74), none⟩,
  ⟨(some 76), .mv (.t 9), (some (some 75, false))⟩,
  ⟨(some 77), .loadA 4 (.t 4), (some (some 75, false))⟩,
  ⟨(some 78), .callv .q (.t 76) [(.t 77)], (some (some 75, false))⟩,
  ⟨(some 79), .pick (.t 75) (.c (.one (.sc (.bool true)))) (.t 78), none⟩,
  ⟨(some 80), .mv (.t 79), none⟩,
  ⟨(some 81), .loadA 4 (.t 8), (some (some 80, true))⟩,
  ⟨(some 82), .loadA 2 (.t 5), (some (some 80, true))⟩,
  ⟨(some 83), .call (.z 0) 15 [(.t 81), (.t 82)], (some (some 80, true))⟩,
  ⟨(some 84), .un .not (.t 83), (some (some 80, true))⟩,
  ⟨(some 85), .pick (.t 80) (.t 84) (.c (.one (.sc (.bool false)))), none⟩,
  ⟨(some 86), .mv (.t 85), none⟩,
  ⟨(some 87), .mv (.t 10), (some (some 86, false))⟩,
  ⟨(some 88), .loadA 4 (.t 7), (some (some 86, false))⟩,
  ⟨(some 89), .callv .q (.t 87) [(.t 88)], (some (some 86, false))⟩,
  ⟨(some 90), .mv (.t 89), (some (some 86, false))⟩,
  ⟨(some 91), .loadA 4 (.t 7), (some (some 90, true))⟩,
  ⟨(some 92), .build [.sc (.int .i64 0), .sc (.int .i64 0), .sc (.int .i64 0), .sc (.int .i64 0)] [], (some (some 90, true))⟩,
  ⟨(some 93), .eqv [.i, .i, .i, .i] true (.t 91) (.t 92), (some (some 90, true))⟩,
  ⟨(some 94), .pick (.t 90) (.t 93) (.c (.one (.sc (.bool false)))), (some (some 86, false))⟩,
  ⟨(some 95), .pick (.t 86) (.c (.one (.sc (.bool true)))) (.t 94), none⟩]
def r7_7 : List SOper := [
  ⟨(some 6), .mv (.c (.one (.sc (.bool false)))), none⟩]
def r7_8 : List SOper := [
  ⟨(some 97), .mv (.t 10), none⟩,
  ⟨(some 98), .loadA 4 (.t 3), none⟩,
  ⟨(some 99), .callv .q (.t 97) [(.t 98)], none⟩,
  ⟨(some 100), .mv (.t 99), none⟩,
  ⟨(some 101), .mv (.t 10), (some (some 100, true))⟩,
  ⟨(some 102), .loadA 4 (.t 4), (some (some 100, true))⟩,
  ⟨(some 103), .callv .q (.t 101) [(.t 102)], (some (some 100, true))⟩,
  ⟨(some 104), .pick (.t 100) (.t 103) (.c (.one (.sc (.bool false)))), none⟩,
  ⟨(some 96), .mv (.t 104), none⟩]
def r7_9 : List SOper := [
  ⟨(some 105), .loadA 4 (.t 8), none⟩,
  ⟨(some 106), .build [.sc (.int .i64 0), .sc (.int .i64 0), .sc (.int .i64 0), .sc (.int .i64 0)] [], none⟩,
  ⟨(some 107), .eqv [.i, .i, .i, .i] false (.t 105) (.t 106), none⟩,
  ⟨(some 108), .mv (.t 107), none⟩,
  ⟨(some 109), .call (.z 0) 10 [], (some (some 108, true))⟩,
  ⟨(some 110), .pick (.t 108) (.t 109) (.c (.one (.sc (.bool false)))), none⟩,
  ⟨(some 6), .mv (.t 110), none⟩]
def r7_10 : List SOper := [
  ⟨(some 112), .mv (.t 10), none⟩,
  ⟨(some 113), .loadA 4 (.t 3), none⟩,
  ⟨(some 114), .callv .q (.t 112) [(.t 113)], none⟩,
  ⟨(some 111), .mv (.t 114), none⟩]
def r7_11 : List SOper := [
  ⟨(some 115), .loadA 4 (.t 8), none⟩,
  ⟨(some 116), .loadA 4 (.t 4), none⟩,
  ⟨(some 117), .eqv [.i, .i, .i, .i] false (.t 115) (.t 116), none⟩,
  ⟨(some 118), .mv (.t 117), none⟩,
  ⟨(some 119), .call (.z 0) 10 [], (some (some 118, true))⟩,
  ⟨(some 120), .pick (.t 118) (.t 119) (.c (.one (.sc (.bool false)))), none⟩,
  ⟨(some 6), .mv (.t 120), none⟩]
def r7_12 : List SOper := [
  ⟨(some 122), .mv (.t 10), none⟩,
  ⟨(some 123), .loadA 4 (.t 4), none⟩,
  ⟨(some 124), .callv .q (.t 122) [(.t 123)], none⟩,
  ⟨(some 121), .mv (.t 124), none⟩]
def r7_13 : List SOper := [
  ⟨(some 125), .loadA 4 (.t 8), none⟩,
  ⟨(some 126), .loadA 4 (.t 3), none⟩,
  ⟨(some 127), .eqv [.i, .i, .i, .i] false (.t 125) (.t 126), none⟩,
  ⟨(some 128), .mv (.t 127), none⟩,
  ⟨(some 129), .call (.z 0) 10 [], (some (some 128, true))⟩,
  ⟨(some 130), .pick (.t 128) (.t 129) (.c (.one (.sc (.bool false)))), none⟩,
  ⟨(some 6), .mv (.t 130), none⟩]
def r7_14 : List SOper := [
  ⟨(some 131), .loadA 4 (.t 8), none⟩,
  ⟨(some 132), .fadr 0 (.t 3), none⟩,
  ⟨(some 133), .load1 (.t 132), none⟩,
  ⟨(some 134), .fadr 0 (.t 4), none⟩,
  ⟨(some 135), .load1 (.t 134), none⟩,
  ⟨(some 136), .mn [(.t 133), (.t 135)], none⟩,
  ⟨(some 137), .fadr 1 (.t 3), none⟩,
  ⟨(some 138), .load1 (.t 137), none⟩,
  ⟨(some 139), .fadr 1 (.t 4), none⟩,
  ⟨(some 140), .load1 (.t 139), none⟩,
  ⟨(some 141), .mn [(.t 138), (.t 140)], none⟩,
  ⟨(some 142), .fadr 2 (.t 3), none⟩,
  ⟨(some 143), .load1 (.t 142), none⟩,
  ⟨(some 144), .fadr 2 (.t 4), none⟩,
  ⟨(some 145), .load1 (.t 144), none⟩,
  ⟨(some 146), .mx [(.t 143), (.t 145)], none⟩,
  ⟨(some 147), .fadr 3 (.t 3), none⟩,
  ⟨(some 148), .load1 (.t 147), none⟩,
  ⟨(some 149), .fadr 3 (.t 4), none⟩,
  ⟨(some 150), .load1 (.t 149), none⟩,
  ⟨(some 151), .mx [(.t 148), (.t 150)], none⟩,
  ⟨(some 152), .build [.sc (.int .i64 0), .sc (.int .i64 0), .sc (.int .i64 0), .sc (.int .i64 0)] [(0, 1, (.t 136)), (1, 1, (.t 141)), (2, 1, (.t 146)), (3, 1, (.t 151))], none⟩,
  ⟨(some 153), .eqv [.i, .i, .i, .i] false (.t 131) (.t 152), none⟩,
  ⟨(some 154), .mv (.t 153), none⟩,
  ⟨(some 155), .call (.z 0) 10 [], (some (some 154, true))⟩,
  ⟨(some 156), .pick (.t 154) (.t 155) (.c (.one (.sc (.bool false)))), none⟩,
  ⟨(some 6), .mv (.t 156), none⟩]
def c7 : SC := (.seq (.reg r7_0) (.seq (.ureg [11, 12, 13, 14, 15, 16] [] r7_1) (.seq (.reg r7_2) (.seq (.reg r7_3) (.seq (.seq (.reg r7_4) (.cond (.t 71) (.seq (.reg r7_5) .ret) .skip)) (.seq (.seq (.reg r7_6) (.cond (.t 95) (.seq (.reg r7_7) .ret) .skip)) (.seq (.block 0 (.seq (.reg r7_8) (.cond (.t 96) (.seq (.reg r7_9) .ret) (.seq (.reg r7_10) (.cond (.t 111) (.seq (.reg r7_11) .ret) (.seq (.reg r7_12) (.cond (.t 121) (.seq (.reg r7_13) .ret) .skip))))))) (.seq (.reg r7_14) .ret))))))))
/-- limner/limnerlaw03.GeomBoxes -/
def F7 : SFun := ⟨157, c7, [.tmp 6]⟩

def r8_0 : List SOper := [
  ⟨(some 1), .box (.t 0), none⟩,
  ⟨(some 2), .mv (.c (.one (.sc (.bool false)))), none⟩]
def r8_1 : List SOper := [
  ⟨(some 8), .iadrA 4 2 (.t 1) (.c (.one (.sc (.int .i64 0)))), none⟩,
  ⟨(some 9), .loadA 2 (.t 8), none⟩,
  ⟨(some 10), .iadrA 4 2 (.t 1) (.c (.one (.sc (.int .i64 1)))), none⟩,
  ⟨(some 11), .loadA 2 (.t 10), none⟩,
  ⟨(some 12), .iadrA 4 2 (.t 1) (.c (.one (.sc (.int .i64 2)))), none⟩,
  ⟨(some 13), .loadA 2 (.t 12), none⟩,
  ⟨(some 14), .iadrA 4 2 (.t 1) (.c (.one (.sc (.int .i64 3)))), none⟩,
  ⟨(some 15), .loadA 2 (.t 14), none⟩,
  ⟨(some 3), .alloc [.sc (.int .i64 0), .sc (.int .i64 0)], none⟩,
  ⟨(some 4), .alloc [.sc (.int .i64 0), .sc (.int .i64 0)], none⟩,
  ⟨(some 5), .alloc [.sc (.int .i64 0), .sc (.int .i64 0)], none⟩,
  ⟨(some 6), .alloc [.sc (.int .i64 0), .sc (.int .i64 0)], none⟩,
  ⟨none, .store 2 (.t 3) (.t 9), none⟩,
  ⟨none, .store 2 (.t 4) (.t 11), none⟩,
  ⟨none, .store 2 (.t 5) (.t 13), none⟩,
  ⟨none, .store 2 (.t 6) (.t 15), none⟩]
def r8_2 : List SOper := [
  ⟨(some 16), .loadA 2 (.t 3), none⟩,
  ⟨(some 17), .loadA 2 (.t 4), none⟩,
  ⟨(some 18), .loadA 2 (.t 5), none⟩,
  ⟨(some 19), .loadA 2 (.t 6), none⟩,
  ⟨(some 20), .bslice [.sc (.int .i64 0), .sc (.int .i64 0), .sc (.int .i64 0), .sc (.int .i64 0), .sc (.int .i64 0), .sc (.int .i64 0), .sc (.int .i64 0), .sc (.int .i64 0)] 4 2 [(0, 2, (.t 16)), (2, 2, (.t 17)), (4, 2, (.t 18)), (6, 2, (.t 19))], none⟩,
  ⟨(some 21), .call .q 9 [(.t 20)], none⟩,
  ⟨(some 22), .un .not (.t 21), none⟩]
def r8_3 : List SOper := [
  ⟨(some 23), .call (.z 0) 10 [], none⟩,
  ⟨(some 2), .mv (.t 23), none⟩]
def r8_4 : List SOper := [
  ⟨(some 24), .loadA 2 (.t 3), none⟩,
  ⟨(some 25), .loadA 2 (.t 4), none⟩,
  ⟨(some 26), .loadA 2 (.t 5), none⟩,
  ⟨(some 27), .loadA 2 (.t 6), none⟩,
  ⟨(some 28), .call (.z 0) 24 [(.t 24), (.t 25), (.t 26), (.t 27)], none⟩,
  ⟨(some 7), .mv (.t 28), none⟩]
def r8_5 : List SOper := [
  ⟨(some 29), .mv (.t 7), none⟩,
  ⟨(some 30), .loadA 2 (.t 3), none⟩,
  ⟨(some 31), .loadA 2 (.t 4), none⟩,
  ⟨(some 32), .loadA 2 (.t 5), none⟩,
  ⟨(some 33), .loadA 2 (.t 6), none⟩,
  ⟨(some 34), .call (.z 0) 25 [(.t 30), (.t 31), (.t 32), (.t 33)], none⟩,
  ⟨(some 35), .un .not (.t 34), none⟩,
  ⟨(some 36), .beq false (.t 29) (.t 35), none⟩,
  ⟨(some 37), .mv (.t 36), none⟩,
  ⟨(some 38), .mv (.t 7), (some (some 37, true))⟩,
  ⟨(some 39), .loadA 2 (.t 4), (some (some 37, true))⟩,
  ⟨(some 40), .loadA 2 (.t 3), (some (some 37, true))⟩,
  ⟨(some 41), .loadA 2 (.t 5), (some (some 37, true))⟩,
  ⟨(some 42), .loadA 2 (.t 6), (some (some 37, true))⟩,
  ⟨(some 43), .call (.z 0) 24 [(.t 39), (.t 40), (.t 41), (.t 42)], (some (some 37, true))⟩,
  ⟨(some 44), .beq false (.t 38) (.t 43), (some (some 37, true))⟩,
  ⟨(some 45), .pick (.t 37) (.t 44) (.c (.one (.sc (.bool false)))), none⟩,
  ⟨(some 46), .mv (.t 45), none⟩,
  ⟨(some 47), .mv (.t 7), (some (some 46, true))⟩,
  ⟨(some 48), .loadA 2 (.t 5), (some (some 46, true))⟩,
  ⟨(some 49), .loadA 2 (.t 6), (some (some 46, true))⟩,
  ⟨(some 50), .loadA 2 (.t 3), (some (some 46, true))⟩,
  ⟨(some 51), .loadA 2 (.t 4), (some (some 46, true))⟩,
  ⟨(some 52), .call (.z 0) 24 [(.t 48), (.t 49), (.t 50), (.t 51)], (some (some 46, true))⟩,
  ⟨(some 53), .beq false (.t 47) (.t 52), (some (some 46, true))⟩,
  ⟨(some 54), .pick (.t 46) (.t 53) (.c (.one (.sc (.bool false)))), none⟩,
  ⟨(some 55), .mv (.t 54), none⟩,
  ⟨(some 56), .loadA 2 (.t 3), (some (some 55, true))⟩,
  ⟨(some 57), .loadA 2 (.t 4), (some (some 55, true))⟩,
  ⟨(some 58), .loadA 2 (.t 3), (some (some 55, true))⟩,
  ⟨(some 59), .loadA 2 (.t 4), (some (some 55, true))⟩,
  ⟨(some 60), .call (.z 0) 24 [(.t 56), (.t 57), (.t 58), (.t 59)], (some (some 55, true))⟩,
  ⟨(some 61), .pick (.t 55) (.t 60) (.c (.one (.sc (.bool false)))), none⟩,
  ⟨(some 62), .mv (.t 61), none⟩,
  ⟨(some 63), .loadA 2 (.t 3), (some (some 62, true))⟩,
  ⟨(some 64), .loadA 2 (.t 4), (some (some 62, true))⟩,
  ⟨(some 65), .loadA 2 (.t 4), (some (some 62, true))⟩,
  ⟨(some 66), .loadA 2 (.t 4), (some (some 62, true))⟩,
  ⟨(some 67), .call (.z 0) 24 [(.t 63), (.t 64), (.t 65), (.t 66)], (some (some 62, true))⟩,
  ⟨(some 68), .pick (.t 62) (.t 67) (.c (.one (.sc (.bool false)))), none⟩,
  ⟨(some 69), .mv (.t 68), none⟩,
  ⟨(some 70), .loadA 2 (.t 3), (some (some 69, true))⟩,
  ⟨(some 71), .loadA 2 (.t 3), (some (some 69, true))⟩,
  ⟨(some 72), .loadA 2 (.t 3), (some (some 69, true))⟩,
  ⟨(some 73), .loadA 2 (.t 4), (some (some 69, true))⟩,
  ⟨(some 74), .call (.z 0) 24 [(.t 70), (.t 71), (.t 72), (.t 73)], (some (some 69, true))⟩,
  ⟨(some 75), .pick (.t 69) (.t 74) (.c (.one (.sc (.bool false)))), none⟩,
  ⟨(some 76), .mv (.t 75), none⟩,
  ⟨(some 77), .call (.z 0) 10 [], (some (some 76, true))⟩,
  ⟨(some 78), .pick (.t 76) (.t 77) (.c (.one (.sc (.bool false)))), none⟩,
  ⟨(some 2), .mv (.t 78), none⟩]
def c8 : SC := (.seq (.reg r8_0) (.seq (.ureg [8, 9, 10, 11, 12, 13, 14, 15] [(10, 3), (12, 3), (12, 4), (14, 3), (14, 4), (14, 5)] r8_1) (.seq (.seq (.reg r8_2) (.cond (.t 22) (.seq (.reg r8_3) .ret) .skip)) (.seq (.reg r8_4) (.seq (.reg r8_5) .ret)))))
/-- limner/limnerlaw03.GeomMeets -/
def F8 : SFun := ⟨79, c8, [.tmp 2]⟩

def r9_0 : List SOper := [
  ⟨(some 2), .mv (.c (.one (.sc (.bool false)))), none⟩]
def r9_1 : List SOper := [
  ⟨(some 5), .mv (.t 0), none⟩,
  ⟨(some 6), .len (.t 5), none⟩,
  ⟨(some 7), .mv (.c (.one (.sc (.int .i64 0)))), none⟩]
def r9_2 : List SOper := [
  ⟨(some 8), .bin .lss (.t 7) (.t 6), none⟩]
def r9_3 : List SOper := [
  ⟨(some 9), .iadrS 2 (.t 5) (.t 7), none⟩,
  ⟨(some 10), .loadA 2 (.t 9), none⟩,
  ⟨(some 4), .alloc [.sc (.int .i64 0), .sc (.int .i64 0)], none⟩,
  ⟨none, .store 2 (.t 4) (.t 10), none⟩]
def r9_4 : List SOper := [
  ⟨(some 11), .fadr 0 (.t 4), none⟩,
  ⟨(some 12), .load1 (.t 11), none⟩,
  ⟨(some 13), .call (.z 0) 26 [(.t 12)], none⟩,
  ⟨(some 14), .un .not (.t 13), none⟩,
  ⟨(some 15), .mv (.t 14), none⟩,
  ⟨(some 16), .fadr 1 (.t 4), (some (some 15, false))⟩,
  ⟨(some 17), .load1 (.t 16), (some (some 15, false))⟩,
  ⟨(some 18), .call (.z 0) 26 [(.t 17)], (some (some 15, false))⟩,
  ⟨(some 19), .un .not (.t 18), (some (some 15, false))⟩,
  ⟨(some 20), .pick (.t 15) (.c (.one (.sc (.bool true)))) (.t 19), none⟩]
def r9_5 : List SOper := [
  ⟨(some 2), .mv (.c (.one (.sc (.bool false)))), none⟩]
def r9_6 : List SOper := [
  ⟨(some 21), .bin .add (.t 7) (.c (.one (.sc (.int .i64 1)))), none⟩,
  ⟨(some 7), .mv (.t 21), none⟩]
def l9_0 : SC := (.seq (.reg r9_2) (.seq (.cond (.t 8) .skip (.exit 0)) (.seq (.block 1 (.seq (.reg r9_3) (.seq (.reg r9_4) (.cond (.t 20) (.seq (.reg r9_5) .ret) .skip)))) (.reg r9_6))))
def r9_7 : List SOper := [
  ⟨(some 2), .mv (.c (.one (.sc (.bool true)))), none⟩]
def c9 : SC := (.seq (.reg r9_0) (.seq (.seq (.reg r9_1) (.block 0 (.loop l9_0))) (.seq (.reg r9_7) .ret)))
/-- limner/limnerlaw03.in -/
def F9 : SFun := ⟨22, c9, [.tmp 2]⟩

def r10_0 : List SOper := [
  ⟨(some 0), .mv (.c (.one (.sc (.bool false)))), none⟩]
def r10_1 : List SOper := [
  ⟨(some 1), .call (.z 0) 27 [(.c (.one (.sc (.int .i64 0)))), (.c (.one (.sc (.int .i64 0))))], none⟩,
  ⟨(some 2), .call (.z 0) 27 [(.c (.one (.sc (.int .i64 2)))), (.c (.one (.sc (.int .i64 0))))], none⟩,
  ⟨(some 3), .call (.z 0) 27 [(.c (.one (.sc (.int .i64 1)))), (.c (.one (.sc (.int .i64 1))))], none⟩,
  ⟨(some 4), .call (.z 0) 17 [(.t 1), (.t 2), (.t 3)], none⟩,
  ⟨(some 5), .bin .eql (.t 4) (.c (.one (.sc (.int .i64 1)))), none⟩,
  ⟨(some 6), .mv (.t 5), none⟩,
  ⟨(some 7), .call (.z 0) 27 [(.c (.one (.sc (.int .i64 0)))), (.c (.one (.sc (.int .i64 0))))], (some (some 6, true))⟩,
  ⟨(some 8), .call (.z 0) 27 [(.c (.one (.sc (.int .i64 2)))), (.c (.one (.sc (.int .i64 0))))], (some (some 6, true))⟩,
  ⟨(some 9), .call (.z 0) 27 [(.c (.one (.sc (.int .i64 2)))), (.c (.one (.sc (.int .i64 2))))], (some (some 6, true))⟩,
  ⟨(some 10), .call (.z 0) 27 [(.c (.one (.sc (.int .i64 0)))), (.c (.one (.sc (.int .i64 2))))], (some (some 6, true))⟩,
  ⟨(some 11), .bslice [.sc (.int .i64 0), .sc (.int .i64 0), .sc (.int .i64 0), .sc (.int .i64 0), .sc (.int .i64 0), .sc (.int .i64 0), .sc (.int .i64 0), .sc (.int .i64 0)] 4 2 [(0, 2, (.t 7)), (2, 2, (.t 8)), (4, 2, (.t 9)), (6, 2, (.t 10))], (some (some 6, true))⟩,
  ⟨(some 12), .call (.z 0) 27 [(.c (.one (.sc (.int .i64 1)))), (.c (.one (.sc (.int .i64 1))))], (some (some 6, true))⟩,
  ⟨(some 13), .call .q 12 [(.t 11), (.t 12)], (some (some 6, true))⟩,
  ⟨(some 14), .bin .eql (.t 13) (.c (.one (.sc (.int .i64 1)))), (some (some 6, true))⟩,
  ⟨(some 15), .pick (.t 6) (.t 14) (.c (.one (.sc (.bool false)))), none⟩,
  ⟨(some 16), .mv (.t 15), none⟩,
  ⟨(some 17), .call (.z 0) 27 [(.c (.one (.sc (.int .i64 1)))), (.c (.one (.sc (.int .i64 1))))], (some (some 16, true))⟩,
  ⟨(some 18), .bslice [.sc (.int .i64 0), .sc (.int .i64 0)] 1 2 [(0, 2, (.t 17))], (some (some 16, true))⟩,
  ⟨(some 19), .call .q 14 [(.t 18)], (some (some 16, true))⟩,
  ⟨(some 20), .build [.sc (.int .i64 0), .sc (.int .i64 0), .sc (.int .i64 0), .sc (.int .i64 0)] [(0, 1, (.c (.one (.sc (.int .i64 1))))), (1, 1, (.c (.one (.sc (.int .i64 1))))), (2, 1, (.c (.one (.sc (.int .i64 2))))), (3, 1, (.c (.one (.sc (.int .i64 2)))))], (some (some 16, true))⟩,
  ⟨(some 21), .eqv [.i, .i, .i, .i] false (.t 19) (.t 20), (some (some 16, true))⟩,
  ⟨(some 22), .pick (.t 16) (.t 21) (.c (.one (.sc (.bool false)))), none⟩,
  ⟨(some 0), .mv (.t 22), none⟩]
def c10 : SC := (.seq (.reg r10_0) (.seq (.reg r10_1) .ret))
/-- limner/limnerlaw03.awake -/
def F10 : SFun := ⟨23, c10, [.tmp 0]⟩

def r11_0 : List SOper := [
  ⟨(some 1), .box (.t 0), none⟩,
  ⟨(some 2), .alloc [.sc (.int .i64 0), .sc (.int .i64 0)], none⟩]
def r11_1 : List SOper := [
  ⟨(some 3), .fadr 0 (.t 1), none⟩,
  ⟨(some 4), .load1 (.t 3), none⟩,
  ⟨(some 5), .fadr 1 (.t 1), none⟩,
  ⟨(some 6), .load1 (.t 5), none⟩,
  ⟨(some 7), .build [.sc (.int .i64 0), .sc (.int .i64 0)] [(0, 1, (.t 4)), (1, 1, (.t 6))], none⟩,
  ⟨none, .store 2 (.t 2) (.t 7), none⟩]
def c11 : SC := (.seq (.reg r11_0) (.seq (.reg r11_1) .ret))
/-- limner/limnerlaw03.ref -/
def F11 : SFun := ⟨8, c11, [.cellA 2 2]⟩

def r12_0 : List SOper := [
  ⟨(some 3), .box (.t 1), none⟩,
  ⟨(some 4), .mv (.c (.one (.sc (.int .i64 0)))), none⟩]
def r12_1 : List SOper := [
  ⟨(some 5), .mv (.c (.one (.sc (.int .i64 0)))), none⟩]
def r12_2 : List SOper := [
  ⟨(some 9), .mv (.t 0), none⟩,
  ⟨(some 10), .len (.t 9), none⟩,
  ⟨(some 11), .mv (.c (.one (.sc (.int .i64 0)))), none⟩]
def r12_3 : List SOper := [
  ⟨(some 12), .bin .lss (.t 11) (.t 10), none⟩]
def r12_4 : List SOper := [
  ⟨(some 13), .mv (.t 11), none⟩,
  ⟨(some 14), .iadrS 2 (.t 9) (.t 11), none⟩,
  ⟨(some 15), .loadA 2 (.t 14), none⟩,
  ⟨(some 7), .alloc [.sc (.int .i64 0), .sc (.int .i64 0)], none⟩,
  ⟨(some 6), .mv (.t 13), none⟩,
  ⟨none, .store 2 (.t 7) (.t 15), none⟩]
def r12_5 : List SOper := [
  ⟨(some 16), .mv (.t 0), none⟩,
  ⟨(some 17), .mv (.t 6), none⟩,
  ⟨(some 18), .mv (.t 0), none⟩,
  ⟨(some 19), .len (.t 18), none⟩,
  ⟨(some 20), .bin .add (.t 17) (.t 19), none⟩,
  ⟨(some 21), .bin .sub (.t 20) (.c (.one (.sc (.int .i64 1)))), none⟩,
  ⟨(some 22), .mv (.t 0), none⟩,
  ⟨(some 23), .len (.t 22), none⟩,
  ⟨(some 24), .bin .rem (.t 21) (.t 23), none⟩,
  ⟨(some 25), .iadrS 2 (.t 16) (.t 24), none⟩,
  ⟨(some 26), .loadA 2 (.t 25), none⟩,
  ⟨(some 8), .alloc [.sc (.int .i64 0), .sc (.int .i64 0)], none⟩,
  ⟨none, .store 2 (.t 8) (.t 26), none⟩]
def r12_6 : List SOper := [
  ⟨(some 28), .fadr 1 (.t 8), none⟩,
  ⟨(some 29), .load1 (.t 28), none⟩,
  ⟨(some 30), .fadr 1 (.t 3), none⟩,
  ⟨(some 31), .load1 (.t 30), none⟩,
  ⟨(some 32), .bin .leq (.t 29) (.t 31), none⟩,
  ⟨(some 33), .mv (.t 32), none⟩,
  ⟨(some 34), .fadr 1 (.t 3), (some (some 33, true))⟩,
  ⟨(some 35), .load1 (.t 34), (some (some 33, true))⟩,
  ⟨(some 36), .fadr 1 (.t 7), (some (some 33, true))⟩,
  ⟨(some 37), .load1 (.t 36), (some (some 33, true))⟩,
  ⟨(some 38), .bin .lss (.t 35) (.t 37), (some (some 33, true))⟩,
  ⟨(some 39), .pick (.t 33) (.t 38) (.c (.one (.sc (.bool false)))), none⟩,
  ⟨(some 40), .mv (.t 39), none⟩,
  ⟨(some 41), .loadA 2 (.t 8), (some (some 40, true))⟩,
  ⟨(some 42), .loadA 2 (.t 7), (some (some 40, true))⟩,
  ⟨(some 43), .loadA 2 (.t 3), (some (some 40, true))⟩,
  ⟨(some 44), .call (.z 0) 17 [(.t 41), (.t 42), (.t 43)], (some (some 40, true))⟩,
  ⟨(some 45), .bin .gtr (.t 44) (.c (.one (.sc (.int .i64 0)))), (some (some 40, true))⟩,
  ⟨(some 46), .pick (.t 40) (.t 45) (.c (.one (.sc (.bool false)))), none⟩,
  ⟨(some 27), .mv (.t 46), none⟩]
def r12_7 : List SOper := [
  ⟨(some 47), .mv (.t 5), none⟩,
  ⟨(some 48), .bin .add (.t 47) (.c (.one (.sc (.int .i64 1)))), none⟩,
  ⟨(some 5), .mv (.t 48), none⟩]
def r12_8 : List SOper := [
  ⟨(some 50), .fadr 1 (.t 7), none⟩,
  ⟨(some 51), .load1 (.t 50), none⟩,
  ⟨(some 52), .fadr 1 (.t 3), none⟩,
  ⟨(some 53), .load1 (.t 52), none⟩,
  ⟨(some 54), .bin .leq (.t 51) (.t 53), none⟩,
  ⟨(some 55), .mv (.t 54), none⟩,
  ⟨(some 56), .fadr 1 (.t 3), (some (some 55, true))⟩,
  ⟨(some 57), .load1 (.t 56), (some (some 55, true))⟩,
  ⟨(some 58), .fadr 1 (.t 8), (some (some 55, true))⟩,
  ⟨(some 59), .load1 (.t 58), (some (some 55, true))⟩,
  ⟨(some 60), .bin .lss (.t 57) (.t 59), (some (some 55, true))⟩,
  ⟨(some 61), .pick (.t 55) (.t 60) (.c (.one (.sc (.bool false)))), none⟩,
  ⟨(some 62), .mv (.t 61), none⟩,
  ⟨(some 63), .loadA 2 (.t 8), (some (some 62, true))⟩,
  ⟨(some 64), .loadA 2 (.t 7), (some (some 62, true))⟩,
  ⟨(some 65), .loadA 2 (.t 3), (some (some 62, true))⟩,
  ⟨(some 66), .call (.z 0) 17 [(.t 63), (.t 64), (.t 65)], (some (some 62, true))⟩,
  ⟨(some 67), .bin .lss (.t 66) (.c (.one (.sc (.int .i64 0)))), (some (some 62, true))⟩,
  ⟨(some 68), .pick (.t 62) (.t 67) (.c (.one (.sc (.bool false)))), none⟩,
  ⟨(some 49), .mv (.t 68), none⟩]
def r12_9 : List SOper := [
  ⟨(some 69), .mv (.t 5), none⟩,
  ⟨(some 70), .bin .sub (.t 69) (.c (.one (.sc (.int .i64 1)))), none⟩,
  ⟨(some 5), .mv (.t 70), none⟩]
def r12_10 : List SOper := [
  ⟨(some 71), .bin .add (.t 11) (.c (.one (.sc (.int .i64 1)))), none⟩,
  ⟨(some 11), .mv (.t 71), none⟩]
def l12_0 : SC := (.seq (.reg r12_3) (.seq (.cond (.t 12) .skip (.exit 0)) (.seq (.block 1 (.seq (.reg r12_4) (.seq (.reg r12_5) (.block 2 (.seq (.reg r12_6) (.cond (.t 27) (.reg r12_7) (.seq (.reg r12_8) (.cond (.t 49) (.reg r12_9) .skip)))))))) (.reg r12_10))))
def r12_11 : List SOper := [
  ⟨(some 72), .mv (.t 5), none⟩,
  ⟨(some 4), .mv (.t 72), none⟩]
def c12 : SC := (.seq (.reg r12_0) (.seq (.reg r12_1) (.seq (.seq (.reg r12_2) (.block 0 (.loop l12_0))) (.seq (.reg r12_11) .ret))))
/-- limner/geom.Winds -/
def F12 : SFun := ⟨73, c12, [.tmp 4]⟩

def r14_0 : List SOper := [
  ⟨(some 2), .alloc [.sc (.int .i64 0), .sc (.int .i64 0), .sc (.int .i64 0), .sc (.int .i64 0)], none⟩]
def r14_1 : List SOper := [
  ⟨(some 3), .alloc [.sc (.int .i64 0), .sc (.int .i64 0), .sc (.int .i64 0), .sc (.int .i64 0)], none⟩]
def r14_2 : List SOper := [
  ⟨(some 6), .mv (.t 0), none⟩,
  ⟨(some 7), .len (.t 6), none⟩,
  ⟨(some 8), .mv (.c (.one (.sc (.int .i64 0)))), none⟩]
def r14_3 : List SOper := [
  ⟨(some 9), .bin .lss (.t 8) (.t 7), none⟩]
def r14_4 : List SOper := [
  ⟨(some 10), .iadrS 2 (.t 6) (.t 8), none⟩,
  ⟨(some 11), .loadA 2 (.t 10), none⟩,
  ⟨(some 5), .alloc [.sc (.int .i64 0), .sc (.int .i64 0)], none⟩,
  ⟨none, .store 2 (.t 5) (.t 11), none⟩]
def r14_5 : List SOper := [
  ⟨(some 12), .loadA 4 (.t 3), none⟩,
  ⟨(some 13), .fadr 0 (.t 5), none⟩,
  ⟨(some 14), .load1 (.t 13), none⟩,
  ⟨(some 15), .fadr 1 (.t 5), none⟩,
  ⟨(some 16), .load1 (.t 15), none⟩,
  ⟨(some 17), .fadr 0 (.t 5), none⟩,
  ⟨(some 18), .load1 (.t 17), none⟩,
  ⟨(some 19), .bin .add (.t 18) (.c (.one (.sc (.int .i64 1)))), none⟩,
  ⟨(some 20), .fadr 1 (.t 5), none⟩,
  ⟨(some 21), .load1 (.t 20), none⟩,
  ⟨(some 22), .bin .add (.t 21) (.c (.one (.sc (.int .i64 1)))), none⟩,
  ⟨(some 23), .build [.sc (.int .i64 0), .sc (.int .i64 0), .sc (.int .i64 0), .sc (.int .i64 0)] [(0, 1, (.t 14)), (1, 1, (.t 16)), (2, 1, (.t 19)), (3, 1, (.t 22))], none⟩,
  ⟨(some 24), .call (.z 0) 20 [(.t 12), (.t 23)], none⟩,
  ⟨none, .store 4 (.t 3) (.t 24), none⟩]
def r14_6 : List SOper := [
  ⟨(some 25), .bin .add (.t 8) (.c (.one (.sc (.int .i64 1)))), none⟩,
  ⟨(some 8), .mv (.t 25), none⟩]
def l14_0 : SC := (.seq (.reg r14_3) (.seq (.cond (.t 9) .skip (.exit 0)) (.seq (.block 1 (.seq (.reg r14_4) (.reg r14_5))) (.reg r14_6))))
def r14_7 : List SOper := [
  ⟨(some 26), .loadA 4 (.t 3), none⟩,
  ⟨none, .store 4 (.t 2) (.t 26), none⟩]
def c14 : SC := (.seq (.reg r14_0) (.seq (.reg r14_1) (.seq (.seq (.reg r14_2) (.block 0 (.loop l14_0))) (.seq (.reg r14_7) .ret))))
/-- limner/geom.Bound -/
def F14 : SFun := ⟨27, c14, [.cellA 2 4]⟩

def r15_0 : List SOper := [
  ⟨(some 2), .box (.t 0), none⟩,
  ⟨(some 3), .box (.t 1), none⟩,
  ⟨(some 4), .mv (.c (.one (.sc (.bool false)))), none⟩]
def r15_1 : List SOper := [
  ⟨(some 5), .fadr 0 (.t 2), none⟩,
  ⟨(some 6), .load1 (.t 5), none⟩,
  ⟨(some 7), .fadr 0 (.t 3), none⟩,
  ⟨(some 8), .load1 (.t 7), none⟩,
  ⟨(some 9), .bin .leq (.t 6) (.t 8), none⟩,
  ⟨(some 10), .mv (.t 9), none⟩,
  ⟨(some 11), .fadr 0 (.t 3), (some (some 10, true))⟩,
  ⟨(some 12), .load1 (.t 11), (some (some 10, true))⟩,
  ⟨(some 13), .fadr 2 (.t 2), (some (some 10, true))⟩,
  ⟨(some 14), .load1 (.t 13), (some (some 10, true))⟩,
  ⟨(some 15), .bin .lss (.t 12) (.t 14), (some (some 10, true))⟩,
  ⟨(some 16), .pick (.t 10) (.t 15) (.c (.one (.sc (.bool false)))), none⟩,
  ⟨(some 17), .mv (.t 16), none⟩,
  ⟨(some 18), .fadr 1 (.t 2), (some (some 17, true))⟩,
  ⟨(some 19), .load1 (.t 18), (some (some 17, true))⟩,
  ⟨(some 20), .fadr 1 (.t 3), (some (some 17, true))⟩,
  ⟨(some 21), .load1 (.t 20), (some (some 17, true))⟩,
  ⟨(some 22), .bin .leq (.t 19) (.t 21), (some (some 17, true))⟩,
  ⟨(some 23), .pick (.t 17) (.t 22) (.c (.one (.sc (.bool false)))), none⟩,
  ⟨(some 24), .mv (.t 23), none⟩,
  ⟨(some 25), .fadr 1 (.t 3), (some (some 24, true))⟩,
  ⟨(some 26), .load1 (.t 25), (some (some 24, true))⟩,
  ⟨(some 27), .fadr 3 (.t 2), (some (some 24, true))⟩,
  ⟨(some 28), .load1 (.t 27), (some (some 24, true))⟩,
  ⟨(some 29), .bin .lss (.t 26) (.t 28), (some (some 24, true))⟩,
  ⟨(some 30), .pick (.t 24) (.t 29) (.c (.one (.sc (.bool false)))), none⟩,
  ⟨(some 4), .mv (.t 30), none⟩]
def c15 : SC := (.seq (.reg r15_0) (.seq (.reg r15_1) .ret))
/-- (limner/geom.Box).Has -/
def F15 : SFun := ⟨31, c15, [.tmp 4]⟩

def r17_0 : List SOper := [
  ⟨(some 3), .box (.t 0), none⟩,
  ⟨(some 4), .box (.t 1), none⟩,
  ⟨(some 5), .box (.t 2), none⟩,
  ⟨(some 6), .mv (.c (.one (.sc (.int .i64 0)))), none⟩]
def r17_1 : List SOper := [
  ⟨(some 7), .fadr 0 (.t 4), none⟩,
  ⟨(some 8), .load1 (.t 7), none⟩,
  ⟨(some 9), .fadr 0 (.t 3), none⟩,
  ⟨(some 10), .load1 (.t 9), none⟩,
  ⟨(some 11), .bin .sub (.t 8) (.t 10), none⟩,
  ⟨(some 12), .fadr 1 (.t 5), none⟩,
  ⟨(some 13), .load1 (.t 12), none⟩,
  ⟨(some 14), .fadr 1 (.t 3), none⟩,
  ⟨(some 15), .load1 (.t 14), none⟩,
  ⟨(some 16), .bin .sub (.t 13) (.t 15), none⟩,
  ⟨(some 17), .call (.z 0) 29 [(.t 11), (.t 16)], none⟩,
  ⟨(some 18), .fadr 1 (.t 4), none⟩,
  ⟨(some 19), .load1 (.t 18), none⟩,
  ⟨(some 20), .fadr 1 (.t 3), none⟩,
  ⟨(some 21), .load1 (.t 20), none⟩,
  ⟨(some 22), .bin .sub (.t 19) (.t 21), none⟩,
  ⟨(some 23), .fadr 0 (.t 5), none⟩,
  ⟨(some 24), .load1 (.t 23), none⟩,
  ⟨(some 25), .fadr 0 (.t 3), none⟩,
  ⟨(some 26), .load1 (.t 25), none⟩,
  ⟨(some 27), .bin .sub (.t 24) (.t 26), none⟩,
  ⟨(some 28), .call (.z 0) 29 [(.t 22), (.t 27)], none⟩,
  ⟨(some 29), .call (.z 0) 30 [(.t 17), (.t 28)], none⟩,
  ⟨(some 6), .mv (.t 29), none⟩]
def c17 : SC := (.seq (.reg r17_0) (.seq (.reg r17_1) .ret))
/-- limner/geom.Side -/
def F17 : SFun := ⟨30, c17, [.tmp 6]⟩

def r18_0 : List SOper := [
  ⟨(some 3), .box (.t 0), none⟩,
  ⟨(some 4), .box (.t 1), none⟩,
  ⟨(some 5), .box (.t 2), none⟩,
  ⟨(some 6), .mv (.c (.one (.sc (.int .i64 0)))), none⟩]
def r18_1 : List SOper := [
  ⟨(some 14), .fadr 0 (.t 4), none⟩,
  ⟨(some 15), .load1 (.t 14), none⟩,
  ⟨(some 16), .fadr 0 (.t 3), none⟩,
  ⟨(some 17), .load1 (.t 16), none⟩,
  ⟨(some 18), .bin .sub (.t 15) (.t 17), none⟩,
  ⟨(some 19), .fadr 1 (.t 5), none⟩,
  ⟨(some 20), .load1 (.t 19), none⟩,
  ⟨(some 21), .fadr 1 (.t 3), none⟩,
  ⟨(some 22), .load1 (.t 21), none⟩,
  ⟨(some 23), .bin .sub (.t 20) (.t 22), none⟩,
  ⟨(some 24), .call (.z 0) 31 [(.t 18), (.t 23)], none⟩,
  ⟨(some 13), .mv (.t 24), none⟩,
  ⟨(some 25), .ext (.t 13) 0, none⟩,
  ⟨(some 26), .ext (.t 13) 1, none⟩,
  ⟨(some 27), .ext (.t 13) 2, none⟩,
  ⟨(some 7), .mv (.t 25), none⟩,
  ⟨(some 8), .mv (.t 26), none⟩,
  ⟨(some 9), .mv (.t 27), none⟩]
def r18_2 : List SOper := [
  ⟨(some 29), .fadr 1 (.t 4), none⟩,
  ⟨(some 30), .load1 (.t 29), none⟩,
  ⟨(some 31), .fadr 1 (.t 3), none⟩,
  ⟨(some 32), .load1 (.t 31), none⟩,
  ⟨(some 33), .bin .sub (.t 30) (.t 32), none⟩,
  ⟨(some 34), .fadr 0 (.t 5), none⟩,
  ⟨(some 35), .load1 (.t 34), none⟩,
  ⟨(some 36), .fadr 0 (.t 3), none⟩,
  ⟨(some 37), .load1 (.t 36), none⟩,
  ⟨(some 38), .bin .sub (.t 35) (.t 37), none⟩,
  ⟨(some 39), .call (.z 0) 31 [(.t 33), (.t 38)], none⟩,
  ⟨(some 28), .mv (.t 39), none⟩,
  ⟨(some 40), .ext (.t 28) 0, none⟩,
  ⟨(some 41), .ext (.t 28) 1, none⟩,
  ⟨(some 42), .ext (.t 28) 2, none⟩,
  ⟨(some 10), .mv (.t 40), none⟩,
  ⟨(some 11), .mv (.t 41), none⟩,
  ⟨(some 12), .mv (.t 42), none⟩]
def r18_3 : List SOper := [
  ⟨(some 43), .mv (.t 7), none⟩,
  ⟨(some 44), .mv (.t 10), none⟩,
  ⟨(some 45), .bin .neq (.t 43) (.t 44), none⟩]
def r18_4 : List SOper := [
  ⟨(some 46), .mv (.t 7), none⟩,
  ⟨(some 47), .mv (.t 10), none⟩,
  ⟨(some 48), .bin .gtr (.t 46) (.t 47), none⟩]
def r18_5 : List SOper := [
  ⟨(some 6), .mv (.c (.one (.sc (.int .i64 1)))), none⟩]
def r18_6 : List SOper := [
  ⟨(some 6), .mv (.c (.one (.sc (.int .i64 (-1))))), none⟩]
def r18_7 : List SOper := [
  ⟨(some 49), .mv (.t 8), none⟩,
  ⟨(some 50), .mv (.t 11), none⟩,
  ⟨(some 51), .bin .eql (.t 49) (.t 50), none⟩,
  ⟨(some 52), .mv (.t 51), none⟩,
  ⟨(some 53), .mv (.t 9), (some (some 52, true))⟩,
  ⟨(some 54), .mv (.t 12), (some (some 52, true))⟩,
  ⟨(some 55), .bin .eql (.t 53) (.t 54), (some (some 52, true))⟩,
  ⟨(some 56), .pick (.t 52) (.t 55) (.c (.one (.sc (.bool false)))), none⟩]
def r18_8 : List SOper := [
  ⟨(some 6), .mv (.c (.one (.sc (.int .i64 0)))), none⟩]
def r18_9 : List SOper := [
  ⟨(some 57), .mv (.t 8), none⟩,
  ⟨(some 58), .mv (.t 11), none⟩,
  ⟨(some 59), .bin .gtr (.t 57) (.t 58), none⟩,
  ⟨(some 60), .mv (.t 59), none⟩,
  ⟨(some 61), .mv (.t 8), (some (some 60, false))⟩,
  ⟨(some 62), .mv (.t 11), (some (some 60, false))⟩,
  ⟨(some 63), .bin .eql (.t 61) (.t 62), (some (some 60, false))⟩,
  ⟨(some 64), .mv (.t 63), (some (some 60, false))⟩,
  ⟨(some 65), .mv (.t 9), (some (some 64, true))⟩,
  ⟨(some 66), .mv (.t 12), (some (some 64, true))⟩,
  ⟨(some 67), .bin .gtr (.t 65) (.t 66), (some (some 64, true))⟩,
  ⟨(some 68), .pick (.t 64) (.t 67) (.c (.one (.sc (.bool false)))), (some (some 60, false))⟩,
  ⟨(some 69), .pick (.t 60) (.c (.one (.sc (.bool true)))) (.t 68), none⟩]
def r18_10 : List SOper := [
  ⟨(some 70), .mv (.t 7), none⟩,
  ⟨(some 6), .mv (.t 70), none⟩]
def r18_11 : List SOper := [
  ⟨(some 71), .mv (.t 7), none⟩,
  ⟨(some 72), .un .neg (.t 71), none⟩,
  ⟨(some 6), .mv (.t 72), none⟩]
def c18 : SC := (.seq (.reg r18_0) (.seq (.reg r18_1) (.seq (.reg r18_2) (.seq (.seq (.reg r18_3) (.cond (.t 45) (.seq (.seq (.reg r18_4) (.cond (.t 48) (.seq (.reg r18_5) .ret) .skip)) (.seq (.reg r18_6) .ret)) .skip)) (.seq (.seq (.reg r18_7) (.cond (.t 56) (.seq (.reg r18_8) .ret) .skip)) (.seq (.seq (.reg r18_9) (.cond (.t 69) (.seq (.reg r18_10) .ret) .skip)) (.seq (.reg r18_11) .ret)))))))
/-- limner/limnerref03.Side -/
def F18 : SFun := ⟨73, c18, [.tmp 6]⟩

def r19_0 : List SOper := [
  ⟨(some 2), .box (.t 0), none⟩,
  ⟨(some 3), .box (.t 1), none⟩,
  ⟨(some 4), .alloc [.sc (.int .i64 0), .sc (.int .i64 0), .sc (.int .i64 0), .sc (.int .i64 0)], none⟩]
def r19_1 : List SOper := [
  ⟨(some 6), .fadr 0 (.t 2), none⟩,
  ⟨(some 7), .load1 (.t 6), none⟩,
  ⟨(some 8), .fadr 0 (.t 3), none⟩,
  ⟨(some 9), .load1 (.t 8), none⟩,
  ⟨(some 10), .mx [(.t 7), (.t 9)], none⟩,
  ⟨(some 11), .fadr 1 (.t 2), none⟩,
  ⟨(some 12), .load1 (.t 11), none⟩,
  ⟨(some 13), .fadr 1 (.t 3), none⟩,
  ⟨(some 14), .load1 (.t 13), none⟩,
  ⟨(some 15), .mx [(.t 12), (.t 14)], none⟩,
  ⟨(some 16), .fadr 2 (.t 2), none⟩,
  ⟨(some 17), .load1 (.t 16), none⟩,
  ⟨(some 18), .fadr 2 (.t 3), none⟩,
  ⟨(some 19), .load1 (.t 18), none⟩,
  ⟨(some 20), .mn [(.t 17), (.t 19)], none⟩,
  ⟨(some 21), .fadr 3 (.t 2), none⟩,
  ⟨(some 22), .load1 (.t 21), none⟩,
  ⟨(some 23), .fadr 3 (.t 3), none⟩,
  ⟨(some 24), .load1 (.t 23), none⟩,
  ⟨(some 25), .mn [(.t 22), (.t 24)], none⟩,
  ⟨(some 26), .build [.sc (.int .i64 0), .sc (.int .i64 0), .sc (.int .i64 0), .sc (.int .i64 0)] [(0, 1, (.t 10)), (1, 1, (.t 15)), (2, 1, (.t 20)), (3, 1, (.t 25))], none⟩,
  ⟨(some 5), .alloc [.sc (.int .i64 0), .sc (.int .i64 0), .sc (.int .i64 0), .sc (.int .i64 0)], none⟩,
  ⟨none, .store 4 (.t 5) (.t 26), none⟩]
def r19_2 : List SOper := [
  ⟨(some 27), .loadA 4 (.t 5), none⟩,
  ⟨(some 28), .call (.z 0) 23 [(.t 27)], none⟩]
def r19_3 : List SOper := [
  ⟨(some 29), .build [.sc (.int .i64 0), .sc (.int .i64 0), .sc (.int .i64 0), .sc (.int .i64 0)] [], none⟩,
  ⟨none, .store 4 (.t 4) (.t 29), none⟩]
def r19_4 : List SOper := [
  ⟨(some 30), .loadA 4 (.t 5), none⟩,
  ⟨none, .store 4 (.t 4) (.t 30), none⟩]
def c19 : SC := (.seq (.reg r19_0) (.seq (.reg r19_1) (.seq (.seq (.reg r19_2) (.cond (.t 28) (.seq (.reg r19_3) .ret) .skip)) (.seq (.reg r19_4) .ret))))
/-- (limner/geom.Box).Meet -/
def F19 : SFun := ⟨31, c19, [.cellA 4 4]⟩

def r20_0 : List SOper := [
  ⟨(some 2), .box (.t 0), none⟩,
  ⟨(some 3), .box (.t 1), none⟩,
  ⟨(some 4), .alloc [.sc (.int .i64 0), .sc (.int .i64 0), .sc (.int .i64 0), .sc (.int .i64 0)], none⟩]
def r20_1 : List SOper := [
  ⟨(some 6), .loadA 4 (.t 2), none⟩,
  ⟨(some 7), .call (.z 0) 23 [(.t 6)], none⟩,
  ⟨(some 8), .mv (.t 7), none⟩,
  ⟨(some 9), .loadA 4 (.t 3), (some (some 8, true))⟩,
  ⟨(some 10), .call (.z 0) 23 [(.t 9)], (some (some 8, true))⟩,
  ⟨(some 11), .pick (.t 8) (.t 10) (.c (.one (.sc (.bool false)))), none⟩,
  ⟨(some 5), .mv (.t 11), none⟩]
def r20_2 : List SOper := [
  ⟨(some 12), .build [.sc (.int .i64 0), .sc (.int .i64 0), .sc (.int .i64 0), .sc (.int .i64 0)] [], none⟩,
  ⟨none, .store 4 (.t 4) (.t 12), none⟩]
def r20_3 : List SOper := [
  ⟨(some 14), .loadA 4 (.t 2), none⟩,
  ⟨(some 15), .call (.z 0) 23 [(.t 14)], none⟩,
  ⟨(some 13), .mv (.t 15), none⟩]
def r20_4 : List SOper := [
  ⟨(some 16), .loadA 4 (.t 3), none⟩,
  ⟨none, .store 4 (.t 4) (.t 16), none⟩]
def r20_5 : List SOper := [
  ⟨(some 18), .loadA 4 (.t 3), none⟩,
  ⟨(some 19), .call (.z 0) 23 [(.t 18)], none⟩,
  ⟨(some 17), .mv (.t 19), none⟩]
def r20_6 : List SOper := [
  ⟨(some 20), .loadA 4 (.t 2), none⟩,
  ⟨none, .store 4 (.t 4) (.t 20), none⟩]
def r20_7 : List SOper := [
  ⟨(some 21), .fadr 0 (.t 2), none⟩,
  ⟨(some 22), .load1 (.t 21), none⟩,
  ⟨(some 23), .fadr 0 (.t 3), none⟩,
  ⟨(some 24), .load1 (.t 23), none⟩,
  ⟨(some 25), .mn [(.t 22), (.t 24)], none⟩,
  ⟨(some 26), .fadr 1 (.t 2), none⟩,
  ⟨(some 27), .load1 (.t 26), none⟩,
  ⟨(some 28), .fadr 1 (.t 3), none⟩,
  ⟨(some 29), .load1 (.t 28), none⟩,
  ⟨(some 30), .mn [(.t 27), (.t 29)], none⟩,
  ⟨(some 31), .fadr 2 (.t 2), none⟩,
  ⟨(some 32), .load1 (.t 31), none⟩,
  ⟨(some 33), .fadr 2 (.t 3), none⟩,
  ⟨(some 34), .load1 (.t 33), none⟩,
  ⟨(some 35), .mx [(.t 32), (.t 34)], none⟩,
  ⟨(some 36), .fadr 3 (.t 2), none⟩,
  ⟨(some 37), .load1 (.t 36), none⟩,
  ⟨(some 38), .fadr 3 (.t 3), none⟩,
  ⟨(some 39), .load1 (.t 38), none⟩,
  ⟨(some 40), .mx [(.t 37), (.t 39)], none⟩,
  ⟨(some 41), .build [.sc (.int .i64 0), .sc (.int .i64 0), .sc (.int .i64 0), .sc (.int .i64 0)] [(0, 1, (.t 25)), (1, 1, (.t 30)), (2, 1, (.t 35)), (3, 1, (.t 40))], none⟩,
  ⟨none, .store 4 (.t 4) (.t 41), none⟩]
def c20 : SC := (.seq (.reg r20_0) (.seq (.block 0 (.seq (.reg r20_1) (.cond (.t 5) (.seq (.reg r20_2) .ret) (.seq (.reg r20_3) (.cond (.t 13) (.seq (.reg r20_4) .ret) (.seq (.reg r20_5) (.cond (.t 17) (.seq (.reg r20_6) .ret) .skip))))))) (.seq (.reg r20_7) .ret)))
/-- (limner/geom.Box).Join -/
def F20 : SFun := ⟨42, c20, [.cellA 4 4]⟩

def r21_0 : List SOper := [
  ⟨(some 2), .box (.t 0), none⟩,
  ⟨(some 3), .mv (.c (.one (.sc (.bool false)))), none⟩]
def r21_1 : List SOper := [
  ⟨(some 4), .fadr 0 (.t 2), none⟩,
  ⟨(some 5), .load1 (.t 4), none⟩,
  ⟨(some 6), .fadr 0 (.t 1), none⟩,
  ⟨(some 7), .load1 (.t 6), none⟩,
  ⟨(some 8), .bin .leq (.t 5) (.t 7), none⟩,
  ⟨(some 9), .mv (.t 8), none⟩,
  ⟨(some 10), .fadr 0 (.t 1), (some (some 9, true))⟩,
  ⟨(some 11), .load1 (.t 10), (some (some 9, true))⟩,
  ⟨(some 12), .fadr 2 (.t 2), (some (some 9, true))⟩,
  ⟨(some 13), .load1 (.t 12), (some (some 9, true))⟩,
  ⟨(some 14), .bin .lss (.t 11) (.t 13), (some (some 9, true))⟩,
  ⟨(some 15), .pick (.t 9) (.t 14) (.c (.one (.sc (.bool false)))), none⟩,
  ⟨(some 16), .mv (.t 15), none⟩,
  ⟨(some 17), .fadr 1 (.t 2), (some (some 16, true))⟩,
  ⟨(some 18), .load1 (.t 17), (some (some 16, true))⟩,
  ⟨(some 19), .fadr 1 (.t 1), (some (some 16, true))⟩,
  ⟨(some 20), .load1 (.t 19), (some (some 16, true))⟩,
  ⟨(some 21), .bin .leq (.t 18) (.t 20), (some (some 16, true))⟩,
  ⟨(some 22), .pick (.t 16) (.t 21) (.c (.one (.sc (.bool false)))), none⟩,
  ⟨(some 23), .mv (.t 22), none⟩,
  ⟨(some 24), .fadr 1 (.t 1), (some (some 23, true))⟩,
  ⟨(some 25), .load1 (.t 24), (some (some 23, true))⟩,
  ⟨(some 26), .fadr 3 (.t 2), (some (some 23, true))⟩,
  ⟨(some 27), .load1 (.t 26), (some (some 23, true))⟩,
  ⟨(some 28), .bin .lss (.t 25) (.t 27), (some (some 23, true))⟩,
  ⟨(some 29), .pick (.t 23) (.t 28) (.c (.one (.sc (.bool false)))), none⟩,
  ⟨(some 3), .mv (.t 29), none⟩]
def c21 : SC := (.seq (.reg r21_0) (.seq (.reg r21_1) .ret))
/-- limner/limnerlaw03.GeomBoxes$1 -/
def F21 : SFun := ⟨30, c21, [.tmp 3]⟩

def r22_0 : List SOper := [
  ⟨(some 1), .box (.t 0), none⟩,
  ⟨(some 2), .mv (.c (.one (.sc (.bool false)))), none⟩]
def r22_1 : List SOper := [
  ⟨(some 3), .fadr 0 (.t 1), none⟩,
  ⟨(some 4), .load1 (.t 3), none⟩,
  ⟨(some 5), .fadr 2 (.t 1), none⟩,
  ⟨(some 6), .load1 (.t 5), none⟩,
  ⟨(some 7), .bin .geq (.t 4) (.t 6), none⟩,
  ⟨(some 8), .mv (.t 7), none⟩,
  ⟨(some 9), .fadr 1 (.t 1), (some (some 8, false))⟩,
  ⟨(some 10), .load1 (.t 9), (some (some 8, false))⟩,
  ⟨(some 11), .fadr 3 (.t 1), (some (some 8, false))⟩,
  ⟨(some 12), .load1 (.t 11), (some (some 8, false))⟩,
  ⟨(some 13), .bin .geq (.t 10) (.t 12), (some (some 8, false))⟩,
  ⟨(some 14), .pick (.t 8) (.c (.one (.sc (.bool true)))) (.t 13), none⟩,
  ⟨(some 2), .mv (.t 14), none⟩]
def c22 : SC := (.seq (.reg r22_0) (.seq (.reg r22_1) .ret))
/-- limner/limnerlaw03.GeomBoxes$2 -/
def F22 : SFun := ⟨15, c22, [.tmp 2]⟩

def r23_0 : List SOper := [
  ⟨(some 1), .box (.t 0), none⟩,
  ⟨(some 2), .mv (.c (.one (.sc (.bool false)))), none⟩]
def r23_1 : List SOper := [
  ⟨(some 3), .fadr 0 (.t 1), none⟩,
  ⟨(some 4), .load1 (.t 3), none⟩,
  ⟨(some 5), .fadr 2 (.t 1), none⟩,
  ⟨(some 6), .load1 (.t 5), none⟩,
  ⟨(some 7), .bin .geq (.t 4) (.t 6), none⟩,
  ⟨(some 8), .mv (.t 7), none⟩,
  ⟨(some 9), .fadr 1 (.t 1), (some (some 8, false))⟩,
  ⟨(some 10), .load1 (.t 9), (some (some 8, false))⟩,
  ⟨(some 11), .fadr 3 (.t 1), (some (some 8, false))⟩,
  ⟨(some 12), .load1 (.t 11), (some (some 8, false))⟩,
  ⟨(some 13), .bin .geq (.t 10) (.t 12), (some (some 8, false))⟩,
  ⟨(some 14), .pick (.t 8) (.c (.one (.sc (.bool true)))) (.t 13), none⟩,
  ⟨(some 2), .mv (.t 14), none⟩]
def c23 : SC := (.seq (.reg r23_0) (.seq (.reg r23_1) .ret))
/-- (limner/geom.Box).Empty -/
def F23 : SFun := ⟨15, c23, [.tmp 2]⟩

def r24_0 : List SOper := [
  ⟨(some 4), .box (.t 0), none⟩,
  ⟨(some 5), .box (.t 1), none⟩,
  ⟨(some 6), .box (.t 2), none⟩,
  ⟨(some 7), .box (.t 3), none⟩,
  ⟨(some 8), .mv (.c (.one (.sc (.bool false)))), none⟩]
def r24_1 : List SOper := [
  ⟨(some 13), .loadA 2 (.t 4), none⟩,
  ⟨(some 14), .loadA 2 (.t 5), none⟩,
  ⟨(some 15), .loadA 2 (.t 6), none⟩,
  ⟨(some 16), .call (.z 0) 17 [(.t 13), (.t 14), (.t 15)], none⟩,
  ⟨(some 17), .loadA 2 (.t 4), none⟩,
  ⟨(some 18), .loadA 2 (.t 5), none⟩,
  ⟨(some 19), .loadA 2 (.t 7), none⟩,
  ⟨(some 20), .call (.z 0) 17 [(.t 17), (.t 18), (.t 19)], none⟩,
  ⟨(some 21), .loadA 2 (.t 6), none⟩,
  ⟨(some 22), .loadA 2 (.t 7), none⟩,
  ⟨(some 23), .loadA 2 (.t 4), none⟩,
  ⟨(some 24), .call (.z 0) 17 [(.t 21), (.t 22), (.t 23)], none⟩,
  ⟨(some 25), .loadA 2 (.t 6), none⟩,
  ⟨(some 26), .loadA 2 (.t 7), none⟩,
  ⟨(some 27), .loadA 2 (.t 5), none⟩,
  ⟨(some 28), .call (.z 0) 17 [(.t 25), (.t 26), (.t 27)], none⟩,
  ⟨(some 29), .build [.sc (.int .i64 0), .sc (.int .i64 0), .sc (.int .i64 0), .sc (.int .i64 0)] [(0, 1, (.t 16)), (1, 1, (.t 20)), (2, 1, (.t 24)), (3, 1, (.t 28))], none⟩,
  ⟨(some 9), .alloc [.sc (.int .i64 0), .sc (.int .i64 0), .sc (.int .i64 0), .sc (.int .i64 0)], none⟩,
  ⟨none, .store 4 (.t 9) (.t 29), none⟩]
def r24_2 : List SOper := [
  ⟨(some 30), .iadrA 4 1 (.t 9) (.c (.one (.sc (.int .i64 0)))), none⟩,
  ⟨(some 31), .load1 (.t 30), none⟩,
  ⟨(some 32), .iadrA 4 1 (.t 9) (.c (.one (.sc (.int .i64 1)))), none⟩,
  ⟨(some 33), .load1 (.t 32), none⟩,
  ⟨(some 34), .bin .mul (.t 31) (.t 33), none⟩,
  ⟨(some 35), .bin .lss (.t 34) (.c (.one (.sc (.int .i64 0)))), none⟩,
  ⟨(some 36), .mv (.t 35), none⟩,
  ⟨(some 37), .iadrA 4 1 (.t 9) (.c (.one (.sc (.int .i64 2)))), (some (some 36, true))⟩,
  ⟨(some 38), .load1 (.t 37), (some (some 36, true))⟩,
  ⟨(some 39), .iadrA 4 1 (.t 9) (.c (.one (.sc (.int .i64 3)))), (some (some 36, true))⟩,
  ⟨(some 40), .load1 (.t 39), (some (some 36, true))⟩,
  ⟨(some 41), .bin .mul (.t 38) (.t 40), (some (some 36, true))⟩,
  ⟨(some 42), .bin .lss (.t 41) (.c (.one (.sc (.int .i64 0)))), (some (some 36, true))⟩,
  ⟨(some 43), .pick (.t 36) (.t 42) (.c (.one (.sc (.bool false)))), none⟩]
def r24_3 : List SOper := [
  ⟨(some 8), .mv (.c (.one (.sc (.bool true)))), none⟩]
def r24_4 : List SOper := [
  ⟨(some 44), .loadA 2 (.t 4), none⟩,
  ⟨(some 45), .loadA 2 (.t 5), none⟩,
  ⟨(some 46), .loadA 2 (.t 6), none⟩,
  ⟨(some 47), .call (.z 0) 32 [(.t 44), (.t 45), (.t 46)], none⟩,
  ⟨(some 48), .loadA 2 (.t 4), none⟩,
  ⟨(some 49), .loadA 2 (.t 5), none⟩,
  ⟨(some 50), .loadA 2 (.t 7), none⟩,
  ⟨(some 51), .call (.z 0) 32 [(.t 48), (.t 49), (.t 50)], none⟩,
  ⟨(some 52), .loadA 2 (.t 6), none⟩,
  ⟨(some 53), .loadA 2 (.t 7), none⟩,
  ⟨(some 54), .loadA 2 (.t 4), none⟩,
  ⟨(some 55), .call (.z 0) 32 [(.t 52), (.t 53), (.t 54)], none⟩,
  ⟨(some 56), .loadA 2 (.t 6), none⟩,
  ⟨(some 57), .loadA 2 (.t 7), none⟩,
  ⟨(some 58), .loadA 2 (.t 5), none⟩,
  ⟨(some 59), .call (.z 0) 32 [(.t 56), (.t 57), (.t 58)], none⟩,
  ⟨(some 60), .build [.sc (.bool false), .sc (.bool false), .sc (.bool false), .sc (.bool false)] [(0, 1, (.t 47)), (1, 1, (.t 51)), (2, 1, (.t 55)), (3, 1, (.t 59))], none⟩,
  ⟨(some 10), .alloc [.sc (.bool false), .sc (.bool false), .sc (.bool false), .sc (.bool false)], none⟩,
  ⟨none, .store 4 (.t 10) (.t 60), none⟩]
def r24_5 : List SOper := [
  ⟨(some 61), .loadA 4 (.t 10), none⟩,
  ⟨(some 62), .mv (.c (.one (.sc (.int .i64 0)))), none⟩]
def r24_6 : List SOper := [
  ⟨(some 63), .bin .lss (.t 62) (.c (.one (.sc (.int .i64 4)))), none⟩]
def r24_7 : List SOper := [
  ⟨(some 64), .mv (.t 62), none⟩,
  ⟨(some 65), .idxA 4 1 false (.t 61) (.t 62), none⟩,
  ⟨(some 11), .mv (.t 64), none⟩,
  ⟨(some 12), .mv (.t 65), none⟩]
def r24_8 : List SOper := [
  ⟨(some 66), .mv (.t 12), none⟩,
  ⟨(some 67), .mv (.t 66), none⟩,
  ⟨(some 68), .mv (.t 11), (some (some 67, true))⟩,
  ⟨(some 69), .iadrA 4 1 (.t 9) (.t 68), (some (some 67, true))⟩,
  ⟨(some 70), .load1 (.t 69), (some (some 67, true))⟩,
  ⟨(some 71), .bin .eql (.t 70) (.c (.one (.sc (.int .i64 0)))), (some (some 67, true))⟩,
  ⟨(some 72), .pick (.t 67) (.t 71) (.c (.one (.sc (.bool false)))), none⟩]
def r24_9 : List SOper := [
  ⟨(some 8), .mv (.c (.one (.sc (.bool true)))), none⟩]
def r24_10 : List SOper := [
  ⟨(some 73), .bin .add (.t 62) (.c (.one (.sc (.int .i64 1)))), none⟩,
  ⟨(some 62), .mv (.t 73), none⟩]
def l24_0 : SC := (.seq (.reg r24_6) (.seq (.cond (.t 63) .skip (.exit 0)) (.seq (.block 1 (.seq (.reg r24_7) (.seq (.reg r24_8) (.cond (.t 72) (.seq (.reg r24_9) .ret) .skip)))) (.reg r24_10))))
def r24_11 : List SOper := [
  ⟨(some 8), .mv (.c (.one (.sc (.bool false)))), none⟩]
def c24 : SC := (.seq (.reg r24_0) (.seq (.reg r24_1) (.seq (.seq (.reg r24_2) (.cond (.t 43) (.seq (.reg r24_3) .ret) .skip)) (.seq (.reg r24_4) (.seq (.seq (.reg r24_5) (.block 0 (.loop l24_0))) (.seq (.reg r24_11) .ret))))))
/-- limner/geom.Meets -/
def F24 : SFun := ⟨74, c24, [.tmp 8]⟩

def r25_0 : List SOper := [
  ⟨(some 4), .box (.t 0), none⟩,
  ⟨(some 5), .box (.t 1), none⟩,
  ⟨(some 6), .box (.t 2), none⟩,
  ⟨(some 7), .box (.t 3), none⟩,
  ⟨(some 8), .mv (.c (.one (.sc (.bool false)))), none⟩]
def r25_1 : List SOper := [
  ⟨(some 10), .fadr 0 (.t 4), none⟩,
  ⟨(some 11), .load1 (.t 10), none⟩,
  ⟨(some 12), .fadr 0 (.t 5), none⟩,
  ⟨(some 13), .load1 (.t 12), none⟩,
  ⟨(some 14), .mx [(.t 11), (.t 13)], none⟩,
  ⟨(some 15), .fadr 0 (.t 6), none⟩,
  ⟨(some 16), .load1 (.t 15), none⟩,
  ⟨(some 17), .fadr 0 (.t 7), none⟩,
  ⟨(some 18), .load1 (.t 17), none⟩,
  ⟨(some 19), .mn [(.t 16), (.t 18)], none⟩,
  ⟨(some 20), .bin .lss (.t 14) (.t 19), none⟩,
  ⟨(some 21), .mv (.t 20), none⟩,
  ⟨(some 22), .fadr 0 (.t 6), (some (some 21, false))⟩,
  ⟨(some 23), .load1 (.t 22), (some (some 21, false))⟩,
  ⟨(some 24), .fadr 0 (.t 7), (some (some 21, false))⟩,
  ⟨(some 25), .load1 (.t 24), (some (some 21, false))⟩,
  ⟨(some 26), .mx [(.t 23), (.t 25)], (some (some 21, false))⟩,
  ⟨(some 27), .fadr 0 (.t 4), (some (some 21, false))⟩,
  ⟨(some 28), .load1 (.t 27), (some (some 21, false))⟩,
  ⟨(some 29), .fadr 0 (.t 5), (some (some 21, false))⟩,
  ⟨(some 30), .load1 (.t 29), (some (some 21, false))⟩,
  ⟨(some 31), .mn [(.t 28), (.t 30)], (some (some 21, false))⟩,
  ⟨(some 32), .bin .lss (.t 26) (.t 31), (some (some 21, false))⟩,
  ⟨(some 33), .pick (.t 21) (.c (.one (.sc (.bool true)))) (.t 32), none⟩,
  ⟨(some 34), .mv (.t 33), none⟩,
  ⟨(some 35), .fadr 1 (.t 4), (some (some 34, false))⟩,
  ⟨(some 36), .load1 (.t 35), (some (some 34, false))⟩,
  ⟨(some 37), .fadr 1 (.t 5), (some (some 34, false))⟩,
  ⟨(some 38), .load1 (.t 37), (some (some 34, false))⟩,
  ⟨(some 39), .mx [(.t 36), (.t 38)], (some (some 34, false))⟩,
  ⟨(some 40), .fadr 1 (.t 6), (some (some 34, false))⟩,
  ⟨(some 41), .load1 (.t 40), (some (some 34, false))⟩,
  ⟨(some 42), .fadr 1 (.t 7), (some (some 34, false))⟩,
  ⟨(some 43), .load1 (.t 42), (some (some 34, false))⟩,
  ⟨(some 44), .mn [(.t 41), (.t 43)], (some (some 34, false))⟩,
  ⟨(some 45), .bin .lss (.t 39) (.t 44), (some (some 34, false))⟩,
  ⟨(some 46), .pick (.t 34) (.c (.one (.sc (.bool true)))) (.t 45), none⟩,
  ⟨(some 47), .mv (.t 46), none⟩,
  ⟨(some 48), .fadr 1 (.t 6), (some (some 47, false))⟩,
  ⟨(some 49), .load1 (.t 48), (some (some 47, false))⟩,
  ⟨(some 50), .fadr 1 (.t 7), (some (some 47, false))⟩,
  ⟨(some 51), .load1 (.t 50), (some (some 47, false))⟩,
  ⟨(some 52), .mx [(.t 49), (.t 51)], (some (some 47, false))⟩,
  ⟨(some 53), .fadr 1 (.t 4), (some (some 47, false))⟩,
  ⟨(some 54), .load1 (.t 53), (some (some 47, false))⟩,
  ⟨(some 55), .fadr 1 (.t 5), (some (some 47, false))⟩,
  ⟨(some 56), .load1 (.t 55), (some (some 47, false))⟩,
  ⟨(some 57), .mn [(.t 54), (.t 56)], (some (some 47, false))⟩,
  ⟨(some 58), .bin .lss (.t 52) (.t 57), (some (some 47, false))⟩,
  ⟨(some 59), .pick (.t 47) (.c (.one (.sc (.bool true)))) (.t 58), none⟩]
def r25_2 : List SOper := [
  ⟨(some 8), .mv (.c (.one (.sc (.bool true)))), none⟩]
def r25_3 : List SOper := [
  ⟨(some 9), .mv (.f 33), none⟩]
def r25_4 : List SOper := [
  ⟨(some 60), .loadA 2 (.t 4), none⟩,
  ⟨(some 61), .loadA 2 (.t 5), none⟩,
  ⟨(some 62), .eqv [.i, .i] true (.t 60) (.t 61), none⟩,
  ⟨(some 63), .mv (.t 62), none⟩,
  ⟨(some 64), .mv (.t 9), (some (some 63, true))⟩,
  ⟨(some 65), .loadA 2 (.t 4), (some (some 63, true))⟩,
  ⟨(some 66), .loadA 2 (.t 5), (some (some 63, true))⟩,
  ⟨(some 67), .loadA 2 (.t 6), (some (some 63, true))⟩,
  ⟨(some 68), .callv .q (.t 64) [(.t 65), (.t 66), (.t 67)], (some (some 63, true))⟩,
  ⟨(some 69), .mv (.t 9), (some (some 63, true))⟩,
  ⟨(some 70), .loadA 2 (.t 4), (some (some 63, true))⟩,
  ⟨(some 71), .loadA 2 (.t 5), (some (some 63, true))⟩,
  ⟨(some 72), .loadA 2 (.t 7), (some (some 63, true))⟩,
  ⟨(some 73), .callv .q (.t 69) [(.t 70), (.t 71), (.t 72)], (some (some 63, true))⟩,
  ⟨(some 74), .bin .mul (.t 68) (.t 73), (some (some 63, true))⟩,
  ⟨(some 75), .bin .gtr (.t 74) (.c (.one (.sc (.int .i64 0)))), (some (some 63, true))⟩,
  ⟨(some 76), .pick (.t 63) (.t 75) (.c (.one (.sc (.bool false)))), none⟩,
  ⟨(some 77), .mv (.t 76), none⟩,
  ⟨(some 78), .loadA 2 (.t 6), (some (some 77, false))⟩,
  ⟨(some 79), .loadA 2 (.t 7), (some (some 77, false))⟩,
  ⟨(some 80), .eqv [.i, .i] true (.t 78) (.t 79), (some (some 77, false))⟩,
  ⟨(some 81), .mv (.t 80), (some (some 77, false))⟩,
  ⟨(some 82), .mv (.t 9), (some (some 81, true))⟩,
  ⟨(some 83), .loadA 2 (.t 6), (some (some 81, true))⟩,
  ⟨(some 84), .loadA 2 (.t 7), (some (some 81, true))⟩,
  ⟨(some 85), .loadA 2 (.t 4), (some (some 81, true))⟩,
  ⟨(some 86), .callv .q (.t 82) [(.t 83), (.t 84), (.t 85)], (some (some 81, true))⟩,
  ⟨(some 87), .mv (.t 9), (some (some 81, true))⟩,
  ⟨(some 88), .loadA 2 (.t 6), (some (some 81, true))⟩,
  ⟨(some 89), .loadA 2 (.t 7), (some (some 81, true))⟩,
  ⟨(some 90), .loadA 2 (.t 5), (some (some 81, true))⟩,
  ⟨(some 91), .callv .q (.t 87) [(.t 88), (.t 89), (.t 90)], (some (some 81, true))⟩,
  ⟨(some 92), .bin .mul (.t 86) (.t 91), (some (some 81, true))⟩,
  ⟨(some 93), .bin .gtr (.t 92) (.c (.one (.sc (.int .i64 0)))), (some (some 81, true))⟩,
  ⟨(some 94), .pick (.t 81) (.t 93) (.c (.one (.sc (.bool false)))), (some (some 77, false))⟩,
  ⟨(some 95), .pick (.t 77) (.c (.one (.sc (.bool true)))) (.t 94), none⟩,
  ⟨(some 8), .mv (.t 95), none⟩]
def c25 : SC := (.seq (.reg r25_0) (.seq (.seq (.reg r25_1) (.cond (.t 59) (.seq (.reg r25_2) .ret) .skip)) (.seq (.reg r25_3) (.seq (.reg r25_4) .ret))))
/-- limner/limnerlaw03.parted -/
def F25 : SFun := ⟨96, c25, [.tmp 8]⟩

def r26_0 : List SOper := [
  ⟨(some 2), .mv (.c (.one (.sc (.bool false)))), none⟩]
def r26_1 : List SOper := [
  ⟨(some 3), .mv (.t 0), none⟩,
  ⟨(some 4), .bin .geq (.t 3) (.c (.one (.sc (.int .i64 (-2147483648))))), none⟩,
  ⟨(some 5), .mv (.t 4), none⟩,
  ⟨(some 6), .mv (.t 0), (some (some 5, true))⟩,
  ⟨(some 7), .bin .leq (.t 6) (.c (.one (.sc (.int .i64 2147483648)))), (some (some 5, true))⟩,
  ⟨(some 8), .pick (.t 5) (.t 7) (.c (.one (.sc (.bool false)))), none⟩,
  ⟨(some 2), .mv (.t 8), none⟩]
def c26 : SC := (.seq (.reg r26_0) (.seq (.reg r26_1) .ret))
/-- limner/limnerref01.In -/
def F26 : SFun := ⟨9, c26, [.tmp 2]⟩

def r27_0 : List SOper := [
  ⟨(some 4), .alloc [.sc (.int .i64 0), .sc (.int .i64 0)], none⟩]
def r27_1 : List SOper := [
  ⟨(some 5), .mv (.t 0), none⟩,
  ⟨(some 6), .mv (.t 1), none⟩,
  ⟨(some 7), .build [.sc (.int .i64 0), .sc (.int .i64 0)] [(0, 1, (.t 5)), (1, 1, (.t 6))], none⟩,
  ⟨none, .store 2 (.t 4) (.t 7), none⟩]
def c27 : SC := (.seq (.reg r27_0) (.seq (.reg r27_1) .ret))
/-- limner/limnerlaw03.at -/
def F27 : SFun := ⟨8, c27, [.cellA 4 2]⟩

def r29_0 : List SOper := [
  ⟨(some 4), .alloc [.sc (.int .i64 0), .sc (.int .u64 0)], none⟩]
def r29_1 : List SOper := [
  ⟨(some 8), .mv (.t 0), none⟩,
  ⟨(some 9), .conv .u64 (.t 8), none⟩,
  ⟨(some 10), .mv (.t 1), none⟩,
  ⟨(some 11), .conv .u64 (.t 10), none⟩,
  ⟨(some 12), .call (.z 0) 34 [(.t 9), (.t 11)], none⟩,
  ⟨(some 7), .mv (.t 12), none⟩,
  ⟨(some 13), .ext (.t 7) 0, none⟩,
  ⟨(some 14), .ext (.t 7) 1, none⟩,
  ⟨(some 5), .mv (.t 13), none⟩,
  ⟨(some 6), .mv (.t 14), none⟩]
def r29_2 : List SOper := [
  ⟨(some 15), .mv (.t 0), none⟩,
  ⟨(some 16), .bin .lss (.t 15) (.c (.one (.sc (.int .i64 0)))), none⟩]
def r29_3 : List SOper := [
  ⟨(some 17), .mv (.t 5), none⟩,
  ⟨(some 18), .mv (.t 1), none⟩,
  ⟨(some 19), .conv .u64 (.t 18), none⟩,
  ⟨(some 20), .bin .sub (.t 17) (.t 19), none⟩,
  ⟨(some 5), .mv (.t 20), none⟩]
def r29_4 : List SOper := [
  ⟨(some 21), .mv (.t 1), none⟩,
  ⟨(some 22), .bin .lss (.t 21) (.c (.one (.sc (.int .i64 0)))), none⟩]
def r29_5 : List SOper := [
  ⟨(some 23), .mv (.t 5), none⟩,
  ⟨(some 24), .mv (.t 0), none⟩,
  ⟨(some 25), .conv .u64 (.t 24), none⟩,
  ⟨(some 26), .bin .sub (.t 23) (.t 25), none⟩,
  ⟨(some 5), .mv (.t 26), none⟩]
def r29_6 : List SOper := [
  ⟨(some 27), .mv (.t 5), none⟩,
  ⟨(some 28), .conv .i64 (.t 27), none⟩,
  ⟨(some 29), .mv (.t 6), none⟩,
  ⟨(some 30), .build [.sc (.int .i64 0), .sc (.int .u64 0)] [(0, 1, (.t 28)), (1, 1, (.t 29))], none⟩,
  ⟨none, .store 2 (.t 4) (.t 30), none⟩]
def c29 : SC := (.seq (.reg r29_0) (.seq (.reg r29_1) (.seq (.seq (.reg r29_2) (.cond (.t 16) (.reg r29_3) .skip)) (.seq (.seq (.reg r29_4) (.cond (.t 22) (.reg r29_5) .skip)) (.seq (.reg r29_6) .ret)))))
/-- limner/wide.Mul -/
def F29 : SFun := ⟨31, c29, [.cellA 4 2]⟩

def r30_0 : List SOper := [
  ⟨(some 2), .box (.t 0), none⟩,
  ⟨(some 3), .box (.t 1), none⟩,
  ⟨(some 4), .mv (.c (.one (.sc (.int .i64 0)))), none⟩]
def r30_1 : List SOper := [
  ⟨(some 5), .fadr 0 (.t 2), none⟩,
  ⟨(some 6), .load1 (.t 5), none⟩,
  ⟨(some 7), .fadr 0 (.t 3), none⟩,
  ⟨(some 8), .load1 (.t 7), none⟩,
  ⟨(some 9), .call (.z 0) 36 [(.t 6), (.t 8)], none⟩,
  ⟨(some 10), .fadr 1 (.t 2), none⟩,
  ⟨(some 11), .load1 (.t 10), none⟩,
  ⟨(some 12), .fadr 1 (.t 3), none⟩,
  ⟨(some 13), .load1 (.t 12), none⟩,
  ⟨(some 14), .call (.z 0) 37 [(.t 11), (.t 13)], none⟩,
  ⟨(some 15), .bslice [.sc (.int .i64 0), .sc (.int .i64 0)] 2 1 [(0, 1, (.t 9)), (1, 1, (.t 14))], none⟩,
  ⟨(some 16), .call .q 35 [(.t 15)], none⟩,
  ⟨(some 4), .mv (.t 16), none⟩]
def c30 : SC := (.seq (.reg r30_0) (.seq (.reg r30_1) .ret))
/-- (limner/wide.Num).Cmp -/
def F30 : SFun := ⟨17, c30, [.tmp 4]⟩

def r31_0 : List SOper := [
  ⟨(some 4), .mv (.c (.one (.sc (.int .i64 0)))), none⟩,
  ⟨(some 5), .mv (.c (.one (.sc (.int .i64 0)))), none⟩,
  ⟨(some 6), .mv (.c (.one (.sc (.int .i64 0)))), none⟩]
def r31_1 : List SOper := [
  ⟨(some 7), .mv (.c (.one (.sc (.int .i64 1)))), none⟩]
def r31_2 : List SOper := [
  ⟨(some 9), .mv (.t 0), none⟩,
  ⟨(some 10), .bin .lss (.t 9) (.c (.one (.sc (.int .i64 0)))), none⟩]
def r31_3 : List SOper := [
  ⟨(some 11), .mv (.t 0), none⟩,
  ⟨(some 12), .un .neg (.t 11), none⟩,
  ⟨(some 0), .mv (.t 12), none⟩]
def r31_4 : List SOper := [
  ⟨(some 13), .mv (.t 7), none⟩,
  ⟨(some 14), .un .neg (.t 13), none⟩,
  ⟨(some 7), .mv (.t 14), none⟩]
def r31_5 : List SOper := [
  ⟨(some 15), .mv (.t 1), none⟩,
  ⟨(some 16), .bin .lss (.t 15) (.c (.one (.sc (.int .i64 0)))), none⟩]
def r31_6 : List SOper := [
  ⟨(some 17), .mv (.t 1), none⟩,
  ⟨(some 18), .un .neg (.t 17), none⟩,
  ⟨(some 1), .mv (.t 18), none⟩]
def r31_7 : List SOper := [
  ⟨(some 19), .mv (.t 7), none⟩,
  ⟨(some 20), .un .neg (.t 19), none⟩,
  ⟨(some 7), .mv (.t 20), none⟩]
def r31_8 : List SOper := [
  ⟨(some 21), .mv (.t 0), none⟩,
  ⟨(some 22), .bin .eql (.t 21) (.c (.one (.sc (.int .i64 0)))), none⟩,
  ⟨(some 23), .mv (.t 22), none⟩,
  ⟨(some 24), .mv (.t 1), (some (some 23, false))⟩,
  ⟨(some 25), .bin .eql (.t 24) (.c (.one (.sc (.int .i64 0)))), (some (some 23, false))⟩,
  ⟨(some 26), .pick (.t 23) (.c (.one (.sc (.bool true)))) (.t 25), none⟩]
def r31_9 : List SOper := [
  ⟨(some 4), .mv (.c (.one (.sc (.int .i64 0)))), none⟩,
  ⟨(some 5), .mv (.c (.one (.sc (.int .i64 0)))), none⟩,
  ⟨(some 6), .mv (.c (.one (.sc (.int .i64 0)))), none⟩]
def r31_10 : List SOper := [
  ⟨(some 27), .mv (.t 0), none⟩,
  ⟨(some 28), .bin .rem (.t 27) (.c (.one (.sc (.int .i64 65536)))), none⟩,
  ⟨(some 29), .mv (.t 1), none⟩,
  ⟨(some 30), .bin .mul (.t 28) (.t 29), none⟩,
  ⟨(some 8), .mv (.t 30), none⟩]
def r31_11 : List SOper := [
  ⟨(some 31), .mv (.t 7), none⟩,
  ⟨(some 32), .mv (.t 0), none⟩,
  ⟨(some 33), .bin .quo (.t 32) (.c (.one (.sc (.int .i64 65536)))), none⟩,
  ⟨(some 34), .mv (.t 1), none⟩,
  ⟨(some 35), .bin .mul (.t 33) (.t 34), none⟩,
  ⟨(some 36), .mv (.t 8), none⟩,
  ⟨(some 37), .bin .quo (.t 36) (.c (.one (.sc (.int .i64 65536)))), none⟩,
  ⟨(some 38), .bin .add (.t 35) (.t 37), none⟩,
  ⟨(some 39), .mv (.t 8), none⟩,
  ⟨(some 40), .bin .rem (.t 39) (.c (.one (.sc (.int .i64 65536)))), none⟩,
  ⟨(some 4), .mv (.t 31), none⟩,
  ⟨(some 5), .mv (.t 38), none⟩,
  ⟨(some 6), .mv (.t 40), none⟩]
def c31 : SC := (.seq (.reg r31_0) (.seq (.reg r31_1) (.seq (.seq (.reg r31_2) (.cond (.t 10) (.seq (.reg r31_3) (.reg r31_4)) .skip)) (.seq (.seq (.reg r31_5) (.cond (.t 16) (.seq (.reg r31_6) (.reg r31_7)) .skip)) (.seq (.seq (.reg r31_8) (.cond (.t 26) (.seq (.reg r31_9) .ret) .skip)) (.seq (.reg r31_10) (.seq (.reg r31_11) .ret)))))))
/-- limner/limnerref03.product -/
def F31 : SFun := ⟨41, c31, [.tmp 4, .tmp 5, .tmp 6]⟩

def r32_0 : List SOper := [
  ⟨(some 3), .box (.t 0), none⟩,
  ⟨(some 4), .box (.t 1), none⟩,
  ⟨(some 5), .box (.t 2), none⟩,
  ⟨(some 6), .mv (.c (.one (.sc (.bool false)))), none⟩]
def r32_1 : List SOper := [
  ⟨(some 7), .fadr 0 (.t 3), none⟩,
  ⟨(some 8), .load1 (.t 7), none⟩,
  ⟨(some 9), .fadr 0 (.t 4), none⟩,
  ⟨(some 10), .load1 (.t 9), none⟩,
  ⟨(some 11), .mn [(.t 8), (.t 10)], none⟩,
  ⟨(some 12), .fadr 0 (.t 5), none⟩,
  ⟨(some 13), .load1 (.t 12), none⟩,
  ⟨(some 14), .bin .leq (.t 11) (.t 13), none⟩,
  ⟨(some 15), .mv (.t 14), none⟩,
  ⟨(some 16), .fadr 0 (.t 5), (some (some 15, true))⟩,
  ⟨(some 17), .load1 (.t 16), (some (some 15, true))⟩,
  ⟨(some 18), .fadr 0 (.t 3), (some (some 15, true))⟩,
  ⟨(some 19), .load1 (.t 18), (some (some 15, true))⟩,
  ⟨(some 20), .fadr 0 (.t 4), (some (some 15, true))⟩,
  ⟨(some 21), .load1 (.t 20), (some (some 15, true))⟩,
  ⟨(some 22), .mx [(.t 19), (.t 21)], (some (some 15, true))⟩,
  ⟨(some 23), .bin .leq (.t 17) (.t 22), (some (some 15, true))⟩,
  ⟨(some 24), .pick (.t 15) (.t 23) (.c (.one (.sc (.bool false)))), none⟩,
  ⟨(some 25), .mv (.t 24), none⟩,
  ⟨(some 26), .fadr 1 (.t 3), (some (some 25, true))⟩,
  ⟨(some 27), .load1 (.t 26), (some (some 25, true))⟩,
  ⟨(some 28), .fadr 1 (.t 4), (some (some 25, true))⟩,
  ⟨(some 29), .load1 (.t 28), (some (some 25, true))⟩,
  ⟨(some 30), .mn [(.t 27), (.t 29)], (some (some 25, true))⟩,
  ⟨(some 31), .fadr 1 (.t 5), (some (some 25, true))⟩,
  ⟨(some 32), .load1 (.t 31), (some (some 25, true))⟩,
  ⟨(some 33), .bin .leq (.t 30) (.t 32), (some (some 25, true))⟩,
  ⟨(some 34), .pick (.t 25) (.t 33) (.c (.one (.sc (.bool false)))), none⟩,
  ⟨(some 35), .mv (.t 34), none⟩,
  ⟨(some 36), .fadr 1 (.t 5), (some (some 35, true))⟩,
  ⟨(some 37), .load1 (.t 36), (some (some 35, true))⟩,
  ⟨(some 38), .fadr 1 (.t 3), (some (some 35, true))⟩,
  ⟨(some 39), .load1 (.t 38), (some (some 35, true))⟩,
  ⟨(some 40), .fadr 1 (.t 4), (some (some 35, true))⟩,
  ⟨(some 41), .load1 (.t 40), (some (some 35, true))⟩,
  ⟨(some 42), .mx [(.t 39), (.t 41)], (some (some 35, true))⟩,
  ⟨(some 43), .bin .leq (.t 37) (.t 42), (some (some 35, true))⟩,
  ⟨(some 44), .pick (.t 35) (.t 43) (.c (.one (.sc (.bool false)))), none⟩,
  ⟨(some 6), .mv (.t 44), none⟩]
def c32 : SC := (.seq (.reg r32_0) (.seq (.reg r32_1) .ret))
/-- limner/geom.between -/
def F32 : SFun := ⟨45, c32, [.tmp 6]⟩

def r33_0 : List SOper := [
  ⟨(some 3), .box (.t 0), none⟩,
  ⟨(some 4), .box (.t 1), none⟩,
  ⟨(some 5), .box (.t 2), none⟩,
  ⟨(some 6), .mv (.c (.one (.sc (.int .i64 0)))), none⟩]
def r33_1 : List SOper := [
  ⟨(some 7), .loadA 2 (.t 3), none⟩,
  ⟨(some 8), .call (.z 0) 11 [(.t 7)], none⟩,
  ⟨(some 9), .loadA 2 (.t 4), none⟩,
  ⟨(some 10), .call (.z 0) 11 [(.t 9)], none⟩,
  ⟨(some 11), .loadA 2 (.t 5), none⟩,
  ⟨(some 12), .call (.z 0) 11 [(.t 11)], none⟩,
  ⟨(some 13), .call (.z 0) 18 [(.t 8), (.t 10), (.t 12)], none⟩,
  ⟨(some 6), .mv (.t 13), none⟩]
def c33 : SC := (.seq (.reg r33_0) (.seq (.reg r33_1) .ret))
/-- limner/limnerlaw03.parted$1 -/
def F33 : SFun := ⟨14, c33, [.tmp 6]⟩

def r34_0 : List SOper := [
  ⟨(some 4), .mv (.c (.one (.sc (.int .u64 0)))), none⟩,
  ⟨(some 5), .mv (.c (.one (.sc (.int .u64 0)))), none⟩]
def r34_1 : List SOper := [
  ⟨(some 14), .mv (.t 0), none⟩,
  ⟨(some 15), .bin .and (.t 14) (.c (.one (.sc (.int .u64 4294967295)))), none⟩,
  ⟨(some 6), .mv (.t 15), none⟩]
def r34_2 : List SOper := [
  ⟨(some 16), .mv (.t 0), none⟩,
  ⟨(some 17), .bin .shr (.t 16) (.c (.one (.sc (.int .u64 32)))), none⟩,
  ⟨(some 7), .mv (.t 17), none⟩]
def r34_3 : List SOper := [
  ⟨(some 18), .mv (.t 1), none⟩,
  ⟨(some 19), .bin .and (.t 18) (.c (.one (.sc (.int .u64 4294967295)))), none⟩,
  ⟨(some 8), .mv (.t 19), none⟩]
def r34_4 : List SOper := [
  ⟨(some 20), .mv (.t 1), none⟩,
  ⟨(some 21), .bin .shr (.t 20) (.c (.one (.sc (.int .u64 32)))), none⟩,
  ⟨(some 9), .mv (.t 21), none⟩]
def r34_5 : List SOper := [
  ⟨(some 22), .mv (.t 6), none⟩,
  ⟨(some 23), .mv (.t 8), none⟩,
  ⟨(some 24), .bin .mul (.t 22) (.t 23), none⟩,
  ⟨(some 10), .mv (.t 24), none⟩]
def r34_6 : List SOper := [
  ⟨(some 25), .mv (.t 7), none⟩,
  ⟨(some 26), .mv (.t 8), none⟩,
  ⟨(some 27), .bin .mul (.t 25) (.t 26), none⟩,
  ⟨(some 28), .mv (.t 10), none⟩,
  ⟨(some 29), .bin .shr (.t 28) (.c (.one (.sc (.int .u64 32)))), none⟩,
  ⟨(some 30), .bin .add (.t 27) (.t 29), none⟩,
  ⟨(some 11), .mv (.t 30), none⟩]
def r34_7 : List SOper := [
  ⟨(some 31), .mv (.t 11), none⟩,
  ⟨(some 32), .bin .and (.t 31) (.c (.one (.sc (.int .u64 4294967295)))), none⟩,
  ⟨(some 12), .mv (.t 32), none⟩]
def r34_8 : List SOper := [
  ⟨(some 33), .mv (.t 11), none⟩,
  ⟨(some 34), .bin .shr (.t 33) (.c (.one (.sc (.int .u64 32)))), none⟩,
  ⟨(some 13), .mv (.t 34), none⟩]
def r34_9 : List SOper := [
  ⟨(some 35), .mv (.t 12), none⟩,
  ⟨(some 36), .mv (.t 6), none⟩,
  ⟨(some 37), .mv (.t 9), none⟩,
  ⟨(some 38), .bin .mul (.t 36) (.t 37), none⟩,
  ⟨(some 39), .bin .add (.t 35) (.t 38), none⟩,
  ⟨(some 12), .mv (.t 39), none⟩]
def r34_10 : List SOper := [
  ⟨(some 40), .mv (.t 7), none⟩,
  ⟨(some 41), .mv (.t 9), none⟩,
  ⟨(some 42), .bin .mul (.t 40) (.t 41), none⟩,
  ⟨(some 43), .mv (.t 13), none⟩,
  ⟨(some 44), .bin .add (.t 42) (.t 43), none⟩,
  ⟨(some 45), .mv (.t 12), none⟩,
  ⟨(some 46), .bin .shr (.t 45) (.c (.one (.sc (.int .u64 32)))), none⟩,
  ⟨(some 47), .bin .add (.t 44) (.t 46), none⟩,
  ⟨(some 4), .mv (.t 47), none⟩]
def r34_11 : List SOper := [
  ⟨(some 48), .mv (.t 0), none⟩,
  ⟨(some 49), .mv (.t 1), none⟩,
  ⟨(some 50), .bin .mul (.t 48) (.t 49), none⟩,
  ⟨(some 5), .mv (.t 50), none⟩]
def c34 : SC := (.seq (.reg r34_0) (.seq (.reg r34_1) (.seq (.reg r34_2) (.seq (.reg r34_3) (.seq (.reg r34_4) (.seq (.reg r34_5) (.seq (.reg r34_6) (.seq (.reg r34_7) (.seq (.reg r34_8) (.seq (.reg r34_9) (.seq (.reg r34_10) (.seq (.reg r34_11) .ret))))))))))))
/-- math/bits.Mul64 -/
def F34 : SFun := ⟨51, c34, [.tmp 4, .tmp 5]⟩

def r35_0 : List SOper := [
  ⟨(some 2), .mv (.c (.one (.sc (.int .i64 0)))), none⟩]
def r35_1 : List SOper := [
  ⟨(some 3), .mv (.c (.one (.sc (.int .i64 0)))), none⟩]
def r35_2 : List SOper := [
  ⟨(some 6), .mv (.t 0), none⟩,
  ⟨(some 7), .len (.t 6), none⟩,
  ⟨(some 8), .mv (.c (.one (.sc (.int .i64 0)))), none⟩]
def r35_3 : List SOper := [
  ⟨(some 9), .bin .lss (.t 8) (.t 7), none⟩]
def r35_4 : List SOper := [
  ⟨(some 10), .iadrS 1 (.t 6) (.t 8), none⟩,
  ⟨(some 11), .load1 (.t 10), none⟩,
  ⟨(some 5), .mv (.t 11), none⟩]
def r35_5 : List SOper := [
  ⟨(some 12), .mv (.t 5), none⟩,
  ⟨(some 13), .mv (.t 3), none⟩,
  ⟨(some 14), .bin .neq (.t 12) (.t 13), none⟩]
def r35_6 : List SOper := [
  ⟨(some 15), .mv (.t 5), none⟩,
  ⟨(some 2), .mv (.t 15), none⟩]
def r35_7 : List SOper := [
  ⟨(some 16), .bin .add (.t 8) (.c (.one (.sc (.int .i64 1)))), none⟩,
  ⟨(some 8), .mv (.t 16), none⟩]
def l35_0 : SC := (.seq (.reg r35_3) (.seq (.cond (.t 9) .skip (.exit 0)) (.seq (.block 1 (.seq (.reg r35_4) (.seq (.reg r35_5) (.cond (.t 14) (.seq (.reg r35_6) .ret) .skip)))) (.reg r35_7))))
def r35_8 : List SOper := [
  ⟨(some 17), .mv (.t 3), none⟩,
  ⟨(some 2), .mv (.t 17), none⟩]
def c35 : SC := (.seq (.reg r35_0) (.seq (.reg r35_1) (.seq (.seq (.reg r35_2) (.block 0 (.loop l35_0))) (.seq (.reg r35_8) .ret))))
/-- cmp.Or[int] -/
def F35 : SFun := ⟨18, c35, [.tmp 2]⟩

def r36_0 : List SOper := [
  ⟨(some 4), .mv (.c (.one (.sc (.int .i64 0)))), none⟩]
def r36_1 : List SOper := [
  ⟨(some 7), .mv (.t 0), none⟩,
  ⟨(some 8), .call (.z 0) 38 [(.t 7)], none⟩,
  ⟨(some 5), .mv (.t 8), none⟩]
def r36_2 : List SOper := [
  ⟨(some 9), .mv (.t 1), none⟩,
  ⟨(some 10), .call (.z 0) 38 [(.t 9)], none⟩,
  ⟨(some 6), .mv (.t 10), none⟩]
def r36_3 : List SOper := [
  ⟨(some 11), .mv (.t 5), none⟩]
def r36_4 : List SOper := [
  ⟨(some 12), .mv (.t 6), none⟩]
def r36_5 : List SOper := [
  ⟨(some 4), .mv (.c (.one (.sc (.int .i64 0)))), none⟩]
def r36_6 : List SOper := [
  ⟨(some 4), .mv (.c (.one (.sc (.int .i64 (-1))))), none⟩]
def r36_7 : List SOper := [
  ⟨(some 13), .mv (.t 6), none⟩]
def r36_8 : List SOper := [
  ⟨(some 4), .mv (.c (.one (.sc (.int .i64 1)))), none⟩]
def r36_9 : List SOper := [
  ⟨(some 14), .mv (.t 0), none⟩,
  ⟨(some 15), .mv (.t 1), none⟩,
  ⟨(some 16), .bin .lss (.t 14) (.t 15), none⟩]
def r36_10 : List SOper := [
  ⟨(some 4), .mv (.c (.one (.sc (.int .i64 (-1))))), none⟩]
def r36_11 : List SOper := [
  ⟨(some 17), .mv (.t 0), none⟩,
  ⟨(some 18), .mv (.t 1), none⟩,
  ⟨(some 19), .bin .gtr (.t 17) (.t 18), none⟩]
def r36_12 : List SOper := [
  ⟨(some 4), .mv (.c (.one (.sc (.int .i64 1)))), none⟩]
def r36_13 : List SOper := [
  ⟨(some 4), .mv (.c (.one (.sc (.int .i64 0)))), none⟩]
def c36 : SC := (.seq (.reg r36_0) (.seq (.reg r36_1) (.seq (.reg r36_2) (.seq (.seq (.reg r36_3) (.cond (.t 11) (.seq (.seq (.reg r36_4) (.cond (.t 12) (.seq (.reg r36_5) .ret) .skip)) (.seq (.reg r36_6) .ret)) .skip)) (.seq (.seq (.reg r36_7) (.cond (.t 13) (.seq (.reg r36_8) .ret) .skip)) (.seq (.seq (.reg r36_9) (.cond (.t 16) (.seq (.reg r36_10) .ret) .skip)) (.seq (.seq (.reg r36_11) (.cond (.t 19) (.seq (.reg r36_12) .ret) .skip)) (.seq (.reg r36_13) .ret))))))))
/-- cmp.Compare[int64] -/
def F36 : SFun := ⟨20, c36, [.tmp 4]⟩

def r37_0 : List SOper := [
  ⟨(some 4), .mv (.c (.one (.sc (.int .i64 0)))), none⟩]
def r37_1 : List SOper := [
  ⟨(some 7), .mv (.t 0), none⟩,
  ⟨(some 8), .call (.z 0) 39 [(.t 7)], none⟩,
  ⟨(some 5), .mv (.t 8), none⟩]
def r37_2 : List SOper := [
  ⟨(some 9), .mv (.t 1), none⟩,
  ⟨(some 10), .call (.z 0) 39 [(.t 9)], none⟩,
  ⟨(some 6), .mv (.t 10), none⟩]
def r37_3 : List SOper := [
  ⟨(some 11), .mv (.t 5), none⟩]
def r37_4 : List SOper := [
  ⟨(some 12), .mv (.t 6), none⟩]
def r37_5 : List SOper := [
  ⟨(some 4), .mv (.c (.one (.sc (.int .i64 0)))), none⟩]
def r37_6 : List SOper := [
  ⟨(some 4), .mv (.c (.one (.sc (.int .i64 (-1))))), none⟩]
def r37_7 : List SOper := [
  ⟨(some 13), .mv (.t 6), none⟩]
def r37_8 : List SOper := [
  ⟨(some 4), .mv (.c (.one (.sc (.int .i64 1)))), none⟩]
def r37_9 : List SOper := [
  ⟨(some 14), .mv (.t 0), none⟩,
  ⟨(some 15), .mv (.t 1), none⟩,
  ⟨(some 16), .bin .lss (.t 14) (.t 15), none⟩]
def r37_10 : List SOper := [
  ⟨(some 4), .mv (.c (.one (.sc (.int .i64 (-1))))), none⟩]
def r37_11 : List SOper := [
  ⟨(some 17), .mv (.t 0), none⟩,
  ⟨(some 18), .mv (.t 1), none⟩,
  ⟨(some 19), .bin .gtr (.t 17) (.t 18), none⟩]
def r37_12 : List SOper := [
  ⟨(some 4), .mv (.c (.one (.sc (.int .i64 1)))), none⟩]
def r37_13 : List SOper := [
  ⟨(some 4), .mv (.c (.one (.sc (.int .i64 0)))), none⟩]
def c37 : SC := (.seq (.reg r37_0) (.seq (.reg r37_1) (.seq (.reg r37_2) (.seq (.seq (.reg r37_3) (.cond (.t 11) (.seq (.seq (.reg r37_4) (.cond (.t 12) (.seq (.reg r37_5) .ret) .skip)) (.seq (.reg r37_6) .ret)) .skip)) (.seq (.seq (.reg r37_7) (.cond (.t 13) (.seq (.reg r37_8) .ret) .skip)) (.seq (.seq (.reg r37_9) (.cond (.t 16) (.seq (.reg r37_10) .ret) .skip)) (.seq (.seq (.reg r37_11) (.cond (.t 19) (.seq (.reg r37_12) .ret) .skip)) (.seq (.reg r37_13) .ret))))))))
/-- cmp.Compare[uint64] -/
def F37 : SFun := ⟨20, c37, [.tmp 4]⟩

def r38_0 : List SOper := [
  ⟨(some 2), .mv (.c (.one (.sc (.bool false)))), none⟩]
def r38_1 : List SOper := [
  ⟨(some 3), .mv (.t 0), none⟩,
  ⟨(some 4), .mv (.t 0), none⟩,
  ⟨(some 5), .bin .neq (.t 3) (.t 4), none⟩,
  ⟨(some 2), .mv (.t 5), none⟩]
def c38 : SC := (.seq (.reg r38_0) (.seq (.reg r38_1) .ret))
/-- cmp.isNaN[int64] -/
def F38 : SFun := ⟨6, c38, [.tmp 2]⟩

def r39_0 : List SOper := [
  ⟨(some 2), .mv (.c (.one (.sc (.bool false)))), none⟩]
def r39_1 : List SOper := [
  ⟨(some 3), .mv (.t 0), none⟩,
  ⟨(some 4), .mv (.t 0), none⟩,
  ⟨(some 5), .bin .neq (.t 3) (.t 4), none⟩,
  ⟨(some 2), .mv (.t 5), none⟩]
def c39 : SC := (.seq (.reg r39_0) (.seq (.reg r39_1) .ret))
/-- cmp.isNaN[uint64] -/
def F39 : SFun := ⟨6, c39, [.tmp 2]⟩

def TA : Nat → Option SFun
  | 7 => some F7
  | 8 => some F8
  | 9 => some F9
  | 10 => some F10
  | 11 => some F11
  | 12 => some F12
  | 14 => some F14
  | 15 => some F15
  | 17 => some F17
  | 18 => some F18
  | 19 => some F19
  | 20 => some F20
  | 21 => some F21
  | 22 => some F22
  | 23 => some F23
  | 24 => some F24
  | 25 => some F25
  | 26 => some F26
  | 27 => some F27
  | 29 => some F29
  | 30 => some F30
  | 31 => some F31
  | 32 => some F32
  | 33 => some F33
  | 34 => some F34
  | 35 => some F35
  | 36 => some F36
  | 37 => some F37
  | 38 => some F38
  | 39 => some F39
  | _ => none
def mdA : Nat → Mode
  | 7 => (.z 0)
  | 8 => (.z 0)
  | 10 => (.z 0)
  | 11 => (.z 0)
  | 15 => (.z 0)
  | 17 => (.z 0)
  | 18 => (.z 0)
  | 19 => (.z 0)
  | 20 => (.z 0)
  | 22 => (.z 0)
  | 23 => (.z 0)
  | 24 => (.z 0)
  | 25 => (.z 0)
  | 26 => (.z 0)
  | 27 => (.z 0)
  | 29 => (.z 0)
  | 30 => (.z 0)
  | 31 => (.z 0)
  | 32 => (.z 0)
  | 33 => (.z 0)
  | 34 => (.z 0)
  | 36 => (.z 0)
  | 37 => (.z 0)
  | 38 => (.z 0)
  | 39 => (.z 0)
  | _ => .q
def q7 : Nat → List (List Nat) × List (Nat × Nat)
  | 1 => ([[], [], [0, 1], [], [], [0, 1, 2, 3, 4], [], [], [0, 1, 2, 3, 4, 5, 6, 7], [0, 1, 2, 3, 4, 5, 6, 7, 8]], [])
  | 4 => ([[], [], [0, 1], [], [], [0, 1, 2, 3, 4], [0, 1, 2, 3, 4, 5], [0, 1, 2, 3, 4, 5, 6], [0, 1, 2, 3, 4, 5, 6, 7], [0, 1, 2, 3, 4, 5, 6, 7, 8], [0, 1, 2, 3, 4, 5, 6, 7], [0, 1, 2, 3, 4, 5, 6, 7], [0, 1, 2, 3, 4, 5, 6, 7, 8, 9, 10, 11], [0, 1, 2, 3, 4, 5, 6, 7, 8, 9, 10, 11, 12], [0, 1, 2, 3, 4, 5, 6, 7, 8, 9, 10, 11, 12, 13], [0, 1, 2, 3, 4, 5, 6, 7, 8, 9, 10, 11, 12, 13, 14], [0, 1, 2, 3, 4, 5, 6, 7, 8, 9, 10, 11, 12, 13, 14, 15], [0, 1, 2, 3, 4, 5, 6, 7, 8, 9, 10, 11, 12, 13, 14, 15], [0, 1, 2, 3, 4, 5, 6, 7, 8, 9, 10, 11, 12, 13, 14, 15, 16, 17], [0, 1, 2, 3, 4, 5, 6, 7, 8, 9, 10, 11, 12, 13, 14, 15], [0, 1, 2, 3, 4, 5, 6, 7, 8, 9, 10, 11, 12, 13, 14, 15], [0, 1, 2, 3, 4, 5, 6, 7, 8, 9, 10, 11, 12, 13, 14, 15, 16, 17, 18, 19, 20], [0, 1, 2, 3, 4, 5, 6, 7, 8, 9, 10, 11, 12, 13, 14, 15, 16, 17, 18, 19, 20, 21], [0, 1, 2, 3, 4, 5, 6, 7, 8, 9, 10, 11, 12, 13, 14, 15, 16, 17, 18, 19, 20, 21, 22], [0, 1, 2, 3, 4, 5, 6, 7, 8, 9, 10, 11, 12, 13, 14, 15, 16, 17, 18, 19, 20, 21, 22], [0, 1, 2, 3, 4, 5, 6, 7, 8, 9, 10, 11, 12, 13, 14, 15, 16, 17, 18, 19, 20, 21, 22, 23, 24], [0, 1, 2, 3, 4, 5, 6, 7, 8, 9, 10, 11, 12, 13, 14, 15, 16, 17, 18, 19, 20, 21, 22, 23, 24, 25], [0, 1, 2, 3, 4, 5, 6, 7, 8, 9, 10, 11, 12, 13, 14, 15, 16, 17, 18, 19, 20, 21, 22, 23, 24, 25, 26], [0, 1, 2, 3, 4, 5, 6, 7, 8, 9, 10, 11, 12, 13, 14, 15, 16, 17, 18, 19, 20, 21, 22, 23, 24, 25, 26, 27], [0, 1, 2, 3, 4, 5, 6, 7, 8, 9, 10, 11, 12, 13, 14, 15, 16, 17, 18, 19, 20, 21, 22, 23, 24, 25, 26, 27, 28], [0, 1, 2, 3, 4, 5, 6, 7, 8, 9, 10, 11, 12, 13, 14, 15, 16, 17, 18, 19, 20, 21, 22, 23, 24, 25, 26, 27, 28, 29], [0, 1, 2, 3, 4, 5, 6, 7, 8, 9, 10, 11, 12, 13, 14, 15, 16, 17, 18, 19, 20, 21, 22, 23, 24, 25, 26, 27, 28, 29], [0, 1, 2, 3, 4, 5, 6, 7, 8, 9, 10, 11, 12, 13, 14, 15, 16, 17, 18, 19, 20, 21, 22, 23, 24, 25, 26, 27, 28, 29], [0, 1, 2, 3, 4, 5, 6, 7, 8, 9, 10, 11, 12, 13, 14, 15, 16, 17, 18, 19, 20, 21, 22, 23, 24, 25, 26, 27, 28, 29, 31, 32], [0, 1, 2, 3, 4, 5, 6, 7, 8, 9, 10, 11, 12, 13, 14, 15, 16, 17, 18, 19, 20, 21, 22, 23, 24, 25, 26, 27, 28, 29, 30, 31, 32, 33], [0, 1, 2, 3, 4, 5, 6, 7, 8, 9, 10, 11, 12, 13, 14, 15, 16, 17, 18, 19, 20, 21, 22, 23, 24, 25, 26, 27, 28, 29, 30, 31, 32, 33, 34], [0, 1, 2, 3, 4, 5, 6, 7, 8, 9, 10, 11, 12, 13, 14, 15, 16, 17, 18, 19, 20, 21, 22, 23, 24, 25, 26, 27, 28, 29, 30, 31, 32, 33, 34, 35], [0, 1, 2, 3, 4, 5, 6, 7, 8, 9, 10, 11, 12, 13, 14, 15, 16, 17, 18, 19, 20, 21, 22, 23, 24, 25, 26, 27, 28, 29, 30, 31, 32, 33, 34, 35, 36], [0, 1, 2, 3, 4, 5, 6, 7, 8, 9, 10, 11, 12, 13, 14, 15, 16, 17, 18, 19, 20, 21, 22, 23, 24, 25, 26, 27, 28, 29, 30, 31, 32, 33, 34, 35, 36], [0, 1, 2, 3, 4, 5, 6, 7, 8, 9, 10, 11, 12, 13, 14, 15, 16, 17, 18, 19, 20, 21, 22, 23, 24, 25, 26, 27, 28, 29, 30, 31, 32, 33, 34, 35, 36], [0, 1, 2, 3, 4, 5, 6, 7, 8, 9, 10, 11, 12, 13, 14, 15, 16, 17, 18, 19, 20, 21, 22, 23, 24, 25, 26, 27, 28, 29, 30, 31, 32, 33, 34, 35, 36, 38, 39], [0, 1, 2, 3, 4, 5, 6, 7, 8, 9, 10, 11, 12, 13, 14, 15, 16, 17, 18, 19, 20, 21, 22, 23, 24, 25, 26, 27, 28, 29, 30, 31, 32, 33, 34, 35, 36, 37, 38, 39, 40], [0, 1, 2, 3, 4, 5, 6, 7, 8, 9, 10, 11, 12, 13, 14, 15, 16, 17, 18, 19, 20, 21, 22, 23, 24, 25, 26, 27, 28, 29, 30, 31, 32, 33, 34, 35, 36, 37, 38, 39, 40, 41], [0, 1, 2, 3, 4, 5, 6, 7, 8, 9, 10, 11, 12, 13, 14, 15, 16, 17, 18, 19, 20, 21, 22, 23, 24, 25, 26, 27, 28, 29, 30, 31, 32, 33, 34, 35, 36, 37, 38, 39, 40, 41, 42], [0, 1, 2, 3, 4, 5, 6, 7, 8, 9, 10, 11, 12, 13, 14, 15, 16, 17, 18, 19, 20, 21, 22, 23, 24, 25, 26, 27, 28, 29, 30, 31, 32, 33, 34, 35, 36, 37, 38, 39, 40, 41, 42], [0, 1, 2, 3, 4, 5, 6, 7, 8, 9, 10, 11, 12, 13, 14, 15, 16, 17, 18, 19, 20, 21, 22, 23, 24, 25, 26, 27, 28, 29, 30, 31, 32, 33, 34, 35, 36, 37, 38, 39, 40, 41, 42, 43, 44], [0, 1, 2, 3, 4, 5, 6, 7, 8, 9, 10, 11, 12, 13, 14, 15, 16, 17, 18, 19, 20, 21, 22, 23, 24, 25, 26, 27, 28, 29, 30, 31, 32, 33, 34, 35, 36, 37, 38, 39, 40, 41, 42, 43, 44, 45], [0, 1, 2, 3, 4, 5, 6, 7, 8, 9, 10, 11, 12, 13, 14, 15, 16, 17, 18, 19, 20, 21, 22, 23, 24, 25, 26, 27, 28, 29, 30, 31, 32, 33, 34, 35, 36, 37, 38, 39, 40, 41, 42, 43, 44, 45, 46], [0, 1, 2, 3, 4, 5, 6, 7, 8, 9, 10, 11, 12, 13, 14, 15, 16, 17, 18, 19, 20, 21, 22, 23, 24, 25, 26, 27, 28, 29, 30, 31, 32, 33, 34, 35, 36, 37, 38, 39, 40, 41, 42, 43, 44, 45, 46], [0, 1, 2, 3, 4, 5, 6, 7, 8, 9, 10, 11, 12, 13, 14, 15, 16, 17, 18, 19, 20, 21, 22, 23, 24, 25, 26, 27, 28, 29, 30, 31, 32, 33, 34, 35, 36, 37, 38, 39, 40, 41, 42, 43, 44, 45, 46, 47, 48], [0, 1, 2, 3, 4, 5, 6, 7, 8, 9, 10, 11, 12, 13, 14, 15, 16, 17, 18, 19, 20, 21, 22, 23, 24, 25, 26, 27, 28, 29, 30, 31, 32, 33, 34, 35, 36, 37, 38, 39, 40, 41, 42, 43, 44, 45, 46, 47, 48, 49], [0, 1, 2, 3, 4, 5, 6, 7, 8, 9, 10, 11, 12, 13, 14, 15, 16, 17, 18, 19, 20, 21, 22, 23, 24, 25, 26, 27, 28, 29, 30, 31, 32, 33, 34, 35, 36, 37, 38, 39, 40, 41, 42, 43, 44, 45, 46, 47, 48, 49, 50], [0, 1, 2, 3, 4, 5, 6, 7, 8, 9, 10, 11, 12, 13, 14, 15, 16, 17, 18, 19, 20, 21, 22, 23, 24, 25, 26, 27, 28, 29, 30, 31, 32, 33, 34, 35, 36, 37, 38, 39, 40, 41, 42, 43, 44, 45, 46, 47, 48, 49, 50, 51], [0, 1, 2, 3, 4, 5, 6, 7, 8, 9, 10, 11, 12, 13, 14, 15, 16, 17, 18, 19, 20, 21, 22, 23, 24, 25, 26, 27, 28, 29, 30, 31, 32, 33, 34, 35, 36, 37, 38, 39, 40, 41, 42, 43, 44, 45, 46, 47, 48, 49, 50, 51, 52]], [])
  | _ => ([], [])
theorem ok7 : slimF Try.prog 0 mdA q7 Try.f7 = some F7 := by kernel_rfl
def q8 : Nat → List (List Nat) × List (Nat × Nat)
  | 1 => ([[], [0], [], [2], [], [4], [], [6], [], [], [], [], [0, 1, 8, 9, 10, 11], [0, 1, 2, 3, 8, 9, 10, 11, 12], [0, 1, 2, 3, 4, 5, 8, 9, 10, 11, 12, 13], [0, 1, 2, 3, 4, 5, 6, 7, 8, 9, 10, 11, 12, 13, 14]], [(10, 3), (12, 3), (12, 4), (14, 3), (14, 4), (14, 5)])
  | _ => ([], [])
theorem ok8 : slimF Try.prog 0 mdA q8 Try.f8 = some F8 := by kernel_rfl
def q9 : Nat → List (List Nat) × List (Nat × Nat)
  | _ => ([], [])
theorem ok9 : slimF Try.prog 0 mdA q9 Try.f9 = some F9 := by kernel_rfl
def q10 : Nat → List (List Nat) × List (Nat × Nat)
  | _ => ([], [])
theorem ok10 : slimF Try.prog 0 mdA q10 Try.f10 = some F10 := by kernel_rfl
def q11 : Nat → List (List Nat) × List (Nat × Nat)
  | _ => ([], [])
theorem ok11 : slimF Try.prog 0 mdA q11 Try.f11 = some F11 := by kernel_rfl
def q12 : Nat → List (List Nat) × List (Nat × Nat)
  | _ => ([], [])
theorem ok12 : slimF Try.prog 0 mdA q12 Try.f12 = some F12 := by kernel_rfl
def q14 : Nat → List (List Nat) × List (Nat × Nat)
  | _ => ([], [])
theorem ok14 : slimF Try.prog 0 mdA q14 Try.f14 = some F14 := by kernel_rfl
def q15 : Nat → List (List Nat) × List (Nat × Nat)
  | _ => ([], [])
theorem ok15 : slimF Try.prog 0 mdA q15 Try.f15 = some F15 := by kernel_rfl
def q17 : Nat → List (List Nat) × List (Nat × Nat)
  | 1 => ([[], [0], [], [2], [0, 1, 2, 3], [], [5], [], [7], [5, 6, 7, 8], [0, 1, 2, 3, 4, 5, 6, 7, 8, 9], [], [11], [], [13], [11, 12, 13, 14], [], [16], [], [18], [16, 17, 18, 19], [0, 1, 2, 3, 4, 5, 6, 7, 8, 9, 10, 11, 12, 13, 14, 15, 16, 17, 18, 19, 20], [0, 1, 2, 3, 4, 5, 6, 7, 8, 9, 10, 11, 12, 13, 14, 15, 16, 17, 18, 19, 20, 21], [0, 1, 2, 3, 4, 5, 6, 7, 8, 9, 10, 11, 12, 13, 14, 15, 16, 17, 18, 19, 20, 21, 22]], [])
  | _ => ([], [])
theorem ok17 : slimF Try.prog 0 mdA q17 Try.f17 = some F17 := by kernel_rfl
def q18 : Nat → List (List Nat) × List (Nat × Nat)
  | _ => ([], [])
theorem ok18 : slimF Try.prog 0 mdA q18 Try.f18 = some F18 := by kernel_rfl
def q19 : Nat → List (List Nat) × List (Nat × Nat)
  | _ => ([], [])
theorem ok19 : slimF Try.prog 0 mdA q19 Try.f19 = some F19 := by kernel_rfl
def q20 : Nat → List (List Nat) × List (Nat × Nat)
  | _ => ([], [])
theorem ok20 : slimF Try.prog 0 mdA q20 Try.f20 = some F20 := by kernel_rfl
def q21 : Nat → List (List Nat) × List (Nat × Nat)
  | _ => ([], [])
theorem ok21 : slimF Try.prog 0 mdA q21 Try.f21 = some F21 := by kernel_rfl
def q22 : Nat → List (List Nat) × List (Nat × Nat)
  | _ => ([], [])
theorem ok22 : slimF Try.prog 0 mdA q22 Try.f22 = some F22 := by kernel_rfl
def q23 : Nat → List (List Nat) × List (Nat × Nat)
  | _ => ([], [])
theorem ok23 : slimF Try.prog 0 mdA q23 Try.f23 = some F23 := by kernel_rfl
def q24 : Nat → List (List Nat) × List (Nat × Nat)
  | 1 => ([[], [], [], [0, 1, 2], [], [], [], [0, 1, 2, 3, 4, 5, 6], [], [], [], [0, 1, 2, 3, 4, 5, 6, 7, 8, 9, 10], [], [], [], [0, 1, 2, 3, 4, 5, 6, 7, 8, 9, 10, 11, 12, 13, 14], [0, 1, 2, 3, 4, 5, 6, 7, 8, 9, 10, 11, 12, 13, 14, 15], [], [0, 1, 2, 3, 4, 5, 6, 7, 8, 9, 10, 11, 12, 13, 14, 15, 16, 17]], [])
  | 4 => ([[], [], [], [0, 1, 2], [], [], [], [0, 1, 2, 3, 4, 5, 6], [], [], [], [0, 1, 2, 3, 4, 5, 6, 7, 8, 9, 10], [], [], [], [0, 1, 2, 3, 4, 5, 6, 7, 8, 9, 10, 11, 12, 13, 14], [0, 1, 2, 3, 4, 5, 6, 7, 8, 9, 10, 11, 12, 13, 14, 15], [], [0, 1, 2, 3, 4, 5, 6, 7, 8, 9, 10, 11, 12, 13, 14, 15, 16, 17]], [])
  | _ => ([], [])
theorem ok24 : slimF Try.prog 0 mdA q24 Try.f24 = some F24 := by kernel_rfl
def q25 : Nat → List (List Nat) × List (Nat × Nat)
  | 4 => ([[], [], [0, 1], [0, 1, 2], [0, 1, 2, 3], [0, 1, 2, 3], [0, 1, 2, 3], [0, 1, 2, 3], [0, 1, 2, 3, 4, 5, 6, 7], [0, 1, 2, 3], [0, 1, 2, 3], [0, 1, 2, 3], [0, 1, 2, 3], [0, 1, 2, 3, 4, 5, 6, 7, 8, 9, 10, 11, 12], [0, 1, 2, 3, 4, 5, 6, 7, 8, 9, 10, 11, 12, 13], [0, 1, 2, 3, 4, 5, 6, 7, 8, 9, 10, 11, 12, 13, 14], [0, 1, 2, 3, 4, 5, 6, 7, 8, 9, 10, 11, 12, 13, 14, 15], [0, 1, 2, 3, 4, 5, 6, 7, 8, 9, 10, 11, 12, 13, 14, 15, 16], [0, 1, 2, 3, 4, 5, 6, 7, 8, 9, 10, 11, 12, 13, 14, 15, 16, 17], [0, 1, 2, 3, 4, 5, 6, 7, 8, 9, 10, 11, 12, 13, 14, 15, 16, 17], [0, 1, 2, 3, 4, 5, 6, 7, 8, 9, 10, 11, 12, 13, 14, 15, 16, 17, 18, 19], [0, 1, 2, 3, 4, 5, 6, 7, 8, 9, 10, 11, 12, 13, 14, 15, 16, 17, 18, 19, 20], [0, 1, 2, 3, 4, 5, 6, 7, 8, 9, 10, 11, 12, 13, 14, 15, 16, 17, 18, 19, 20, 21], [0, 1, 2, 3, 4, 5, 6, 7, 8, 9, 10, 11, 12, 13, 14, 15, 16, 17, 18, 19, 20, 21], [0, 1, 2, 3, 4, 5, 6, 7, 8, 9, 10, 11, 12, 13, 14, 15, 16, 17, 18, 19, 20, 21], [0, 1, 2, 3, 4, 5, 6, 7, 8, 9, 10, 11, 12, 13, 14, 15, 16, 17, 18, 19, 20, 21], [0, 1, 2, 3, 4, 5, 6, 7, 8, 9, 10, 11, 12, 13, 14, 15, 16, 17, 18, 19, 20, 21, 22, 23, 24, 25], [0, 1, 2, 3, 4, 5, 6, 7, 8, 9, 10, 11, 12, 13, 14, 15, 16, 17, 18, 19, 20, 21], [0, 1, 2, 3, 4, 5, 6, 7, 8, 9, 10, 11, 12, 13, 14, 15, 16, 17, 18, 19, 20, 21], [0, 1, 2, 3, 4, 5, 6, 7, 8, 9, 10, 11, 12, 13, 14, 15, 16, 17, 18, 19, 20, 21], [0, 1, 2, 3, 4, 5, 6, 7, 8, 9, 10, 11, 12, 13, 14, 15, 16, 17, 18, 19, 20, 21], [0, 1, 2, 3, 4, 5, 6, 7, 8, 9, 10, 11, 12, 13, 14, 15, 16, 17, 18, 19, 20, 21, 22, 23, 24, 25, 26, 27, 28, 29, 30], [0, 1, 2, 3, 4, 5, 6, 7, 8, 9, 10, 11, 12, 13, 14, 15, 16, 17, 18, 19, 20, 21, 22, 23, 24, 25, 26, 27, 28, 29, 30, 31], [0, 1, 2, 3, 4, 5, 6, 7, 8, 9, 10, 11, 12, 13, 14, 15, 16, 17, 18, 19, 20, 21, 22, 23, 24, 25, 26, 27, 28, 29, 30, 31, 32], [0, 1, 2, 3, 4, 5, 6, 7, 8, 9, 10, 11, 12, 13, 14, 15, 16, 17, 18, 19, 20, 21, 22, 23, 24, 25, 26, 27, 28, 29, 30, 31, 32, 33], [0, 1, 2, 3, 4, 5, 6, 7, 8, 9, 10, 11, 12, 13, 14, 15, 16, 17, 18, 19, 20, 21, 22, 23, 24, 25, 26, 27, 28, 29, 30, 31, 32, 33, 34], [0, 1, 2, 3, 4, 5, 6, 7, 8, 9, 10, 11, 12, 13, 14, 15, 16, 17, 18, 19, 20, 21, 22, 23, 24, 25, 26, 27, 28, 29, 30, 31, 32, 33, 34, 35]], [])
  | _ => ([], [])
theorem ok25 : slimF Try.prog 0 mdA q25 Try.f25 = some F25 := by kernel_rfl
def q26 : Nat → List (List Nat) × List (Nat × Nat)
  | _ => ([], [])
theorem ok26 : slimF Try.prog 0 mdA q26 Try.f26 = some F26 := by kernel_rfl
def q27 : Nat → List (List Nat) × List (Nat × Nat)
  | _ => ([], [])
theorem ok27 : slimF Try.prog 0 mdA q27 Try.f27 = some F27 := by kernel_rfl
def q29 : Nat → List (List Nat) × List (Nat × Nat)
  | _ => ([], [])
theorem ok29 : slimF Try.prog 0 mdA q29 Try.f29 = some F29 := by kernel_rfl
def q30 : Nat → List (List Nat) × List (Nat × Nat)
  | 1 => ([[], [0], [], [2], [0, 1, 2, 3], [], [5], [], [7], [0, 1, 2, 3, 4, 5, 6, 7, 8], [0, 1, 2, 3, 4, 5, 6, 7, 8, 9], [0, 1, 2, 3, 4, 5, 6, 7, 8, 9, 10], [0, 1, 2, 3, 4, 5, 6, 7, 8, 9, 10, 11]], [])
  | _ => ([], [])
theorem ok30 : slimF Try.prog 0 mdA q30 Try.f30 = some F30 := by kernel_rfl
def q31 : Nat → List (List Nat) × List (Nat × Nat)
  | _ => ([], [])
theorem ok31 : slimF Try.prog 0 mdA q31 Try.f31 = some F31 := by kernel_rfl
def q32 : Nat → List (List Nat) × List (Nat × Nat)
  | _ => ([], [])
theorem ok32 : slimF Try.prog 0 mdA q32 Try.f32 = some F32 := by kernel_rfl
def q33 : Nat → List (List Nat) × List (Nat × Nat)
  | 1 => ([[], [0], [], [0, 1, 2], [], [0, 1, 2, 3, 4], [0, 1, 2, 3, 4, 5], [0, 1, 2, 3, 4, 5, 6]], [])
  | _ => ([], [])
theorem ok33 : slimF Try.prog 0 mdA q33 Try.f33 = some F33 := by kernel_rfl
def q34 : Nat → List (List Nat) × List (Nat × Nat)
  | _ => ([], [])
theorem ok34 : slimF Try.prog 0 mdA q34 Try.f34 = some F34 := by kernel_rfl
def q35 : Nat → List (List Nat) × List (Nat × Nat)
  | _ => ([], [])
theorem ok35 : slimF Try.prog 0 mdA q35 Try.f35 = some F35 := by kernel_rfl
def q36 : Nat → List (List Nat) × List (Nat × Nat)
  | _ => ([], [])
theorem ok36 : slimF Try.prog 0 mdA q36 Try.f36 = some F36 := by kernel_rfl
def q37 : Nat → List (List Nat) × List (Nat × Nat)
  | _ => ([], [])
theorem ok37 : slimF Try.prog 0 mdA q37 Try.f37 = some F37 := by kernel_rfl
def q38 : Nat → List (List Nat) × List (Nat × Nat)
  | _ => ([], [])
theorem ok38 : slimF Try.prog 0 mdA q38 Try.f38 = some F38 := by kernel_rfl
def q39 : Nat → List (List Nat) × List (Nat × Nat)
  | _ => ([], [])
theorem ok39 : slimF Try.prog 0 mdA q39 Try.f39 = some F39 := by kernel_rfl
def qA : Nat → Nat → List (List Nat) × List (Nat × Nat)
  | 7 => q7
  | 8 => q8
  | 9 => q9
  | 10 => q10
  | 11 => q11
  | 12 => q12
  | 14 => q14
  | 15 => q15
  | 17 => q17
  | 18 => q18
  | 19 => q19
  | 20 => q20
  | 21 => q21
  | 22 => q22
  | 23 => q23
  | 24 => q24
  | 25 => q25
  | 26 => q26
  | 27 => q27
  | 29 => q29
  | 30 => q30
  | 31 => q31
  | 32 => q32
  | 33 => q33
  | 34 => q34
  | 35 => q35
  | 36 => q36
  | 37 => q37
  | 38 => q38
  | 39 => q39
  | _ => fun _ => ([], [])
theorem TA_ok : ∀ f sf, TA f = some sf → ∃ fn, Try.prog.funcs[f]? = some fn ∧ slimF Try.prog 0 mdA (qA f) fn = some sf := by
  intro f sf h
  unfold TA at h
  split at h
  · cases h; exact ⟨Try.f7, Try.func7, ok7⟩
  · cases h; exact ⟨Try.f8, Try.func8, ok8⟩
  · cases h; exact ⟨Try.f9, Try.func9, ok9⟩
  · cases h; exact ⟨Try.f10, Try.func10, ok10⟩
  · cases h; exact ⟨Try.f11, Try.func11, ok11⟩
  · cases h; exact ⟨Try.f12, Try.func12, ok12⟩
  · cases h; exact ⟨Try.f14, Try.func14, ok14⟩
  · cases h; exact ⟨Try.f15, Try.func15, ok15⟩
  · cases h; exact ⟨Try.f17, Try.func17, ok17⟩
  · cases h; exact ⟨Try.f18, Try.func18, ok18⟩
  · cases h; exact ⟨Try.f19, Try.func19, ok19⟩
  · cases h; exact ⟨Try.f20, Try.func20, ok20⟩
  · cases h; exact ⟨Try.f21, Try.func21, ok21⟩
  · cases h; exact ⟨Try.f22, Try.func22, ok22⟩
  · cases h; exact ⟨Try.f23, Try.func23, ok23⟩
  · cases h; exact ⟨Try.f24, Try.func24, ok24⟩
  · cases h; exact ⟨Try.f25, Try.func25, ok25⟩
  · cases h; exact ⟨Try.f26, Try.func26, ok26⟩
  · cases h; exact ⟨Try.f27, Try.func27, ok27⟩
  · cases h; exact ⟨Try.f29, Try.func29, ok29⟩
  · cases h; exact ⟨Try.f30, Try.func30, ok30⟩
  · cases h; exact ⟨Try.f31, Try.func31, ok31⟩
  · cases h; exact ⟨Try.f32, Try.func32, ok32⟩
  · cases h; exact ⟨Try.f33, Try.func33, ok33⟩
  · cases h; exact ⟨Try.f34, Try.func34, ok34⟩
  · cases h; exact ⟨Try.f35, Try.func35, ok35⟩
  · cases h; exact ⟨Try.f36, Try.func36, ok36⟩
  · cases h; exact ⟨Try.f37, Try.func37, ok37⟩
  · cases h; exact ⟨Try.f38, Try.func38, ok38⟩
  · cases h; exact ⟨Try.f39, Try.func39, ok39⟩
  · cases h
end Go.Proofs.Ytfhjndnempmcaaa.Sy
