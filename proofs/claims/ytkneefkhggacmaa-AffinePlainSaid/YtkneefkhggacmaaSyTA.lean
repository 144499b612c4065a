/- Functions of the program, slimmed down, and the check that they are. Conditions: none. -/
import Derived.Test.YtkneefkhggacmaaSyO
import Derived.Test.YtkneefkhggacmaaProg
import Derived.KernelRfl
namespace Go.Proofs.Ytkneefkhggacmaa.Sy
open Go Go.Proofs
set_option linter.unusedVariables false

def r4_0 : List SOper := [
  ⟨(some 1), .box (.t 0), none⟩,
  ⟨(some 2), .mv (.c (.one (.sc (.bool false)))), none⟩]
def r4_1 : List SOper := [
  ⟨(some 17), .fadr 0 (.t 1), none⟩,
  ⟨(some 18), .loadA 2 (.t 17), none⟩,
  ⟨(some 19), .fadr 2 (.t 1), none⟩,
  ⟨(some 20), .load1 (.t 19), none⟩,
  ⟨(some 21), .fadr 3 (.t 1), none⟩,
  ⟨(some 22), .load1 (.t 21), none⟩,
  ⟨(some 3), .alloc [.sc (.int .i64 0), .sc (.int .i64 0)], none⟩,
  ⟨none, .store 2 (.t 3) (.t 18), none⟩,
  ⟨(some 4), .mv (.t 20), none⟩,
  ⟨(some 5), .mv (.t 22), none⟩]
def r4_2 : List SOper := [
  ⟨(some 23), .call (.z 0) 22 [], none⟩,
  ⟨(some 24), .mv (.t 4), none⟩,
  ⟨(some 25), .mv (.t 5), none⟩,
  ⟨(some 26), .call (.z 0) 23 [(.t 24), (.t 25)], none⟩,
  ⟨(some 27), .fadr 4 (.t 1), none⟩,
  ⟨(some 28), .load1 (.t 27), none⟩,
  ⟨(some 29), .call (.z 0) 24 [(.t 28)], none⟩,
  ⟨(some 6), .alloc [.sc (.int .i64 0), .sc (.int .i64 0), .sc (.int .i64 0), .sc (.int .i64 0), .sc (.int .i64 0), .sc (.int .i64 0)], none⟩,
  ⟨(some 7), .alloc [.sc (.int .i64 0), .sc (.int .i64 0), .sc (.int .i64 0), .sc (.int .i64 0), .sc (.int .i64 0), .sc (.int .i64 0)], none⟩,
  ⟨(some 8), .alloc [.sc (.int .i64 0), .sc (.int .i64 0), .sc (.int .i64 0), .sc (.int .i64 0), .sc (.int .i64 0), .sc (.int .i64 0)], none⟩,
  ⟨none, .store 6 (.t 6) (.t 23), none⟩,
  ⟨none, .store 6 (.t 7) (.t 26), none⟩,
  ⟨none, .store 6 (.t 8) (.t 29), none⟩]
def r4_3 : List SOper := [
  ⟨(some 30), .loadA 6 (.t 6), none⟩,
  ⟨(some 31), .call (.z 0) 17 [(.t 30)], none⟩,
  ⟨(some 32), .build [.sc (.int .i64 0), .sc (.int .i64 0), .sc (.int .i64 0), .sc (.int .i64 0), .sc (.int .i64 0), .sc (.int .i64 0)] [(0, 1, (.c (.one (.sc (.int .i64 65536))))), (1, 1, (.c (.one (.sc (.int .i64 0))))), (2, 1, (.c (.one (.sc (.int .i64 0))))), (3, 1, (.c (.one (.sc (.int .i64 65536))))), (4, 1, (.c (.one (.sc (.int .i64 0))))), (5, 1, (.c (.one (.sc (.int .i64 0)))))], none⟩,
  ⟨(some 33), .eqv [.i, .i, .i, .i, .i, .i] true (.t 31) (.t 32), none⟩,
  ⟨(some 34), .mv (.t 33), none⟩,
  ⟨(some 35), .loadA 6 (.t 7), (some (some 34, false))⟩,
  ⟨(some 36), .call (.z 0) 17 [(.t 35)], (some (some 34, false))⟩,
  ⟨(some 37), .mv (.t 4), (some (some 34, false))⟩,
  ⟨(some 38), .mv (.t 5), (some (some 34, false))⟩,
  ⟨(some 39), .build [.sc (.int .i64 0), .sc (.int .i64 0), .sc (.int .i64 0), .sc (.int .i64 0), .sc (.int .i64 0), .sc (.int .i64 0)] [(0, 1, (.c (.one (.sc (.int .i64 65536))))), (1, 1, (.c (.one (.sc (.int .i64 0))))), (2, 1, (.c (.one (.sc (.int .i64 0))))), (3, 1, (.c (.one (.sc (.int .i64 65536))))), (4, 1, (.t 37)), (5, 1, (.t 38))], (some (some 34, false))⟩,
  ⟨(some 40), .eqv [.i, .i, .i, .i, .i, .i] true (.t 36) (.t 39), (some (some 34, false))⟩,
  ⟨(some 41), .pick (.t 34) (.c (.one (.sc (.bool true)))) (.t 40), none⟩,
  ⟨(some 42), .mv (.t 41), none⟩,
  ⟨(some 43), .mv (.t 4), (some (some 42, false))⟩,
  ⟨(some 44), .mv (.t 5), (some (some 42, false))⟩,
  ⟨(some 45), .call (.z 0) 25 [(.t 43), (.t 44)], (some (some 42, false))⟩,
  ⟨(some 46), .call (.z 0) 17 [(.t 45)], (some (some 42, false))⟩,
  ⟨(some 47), .mv (.t 4), (some (some 42, false))⟩,
  ⟨(some 48), .mv (.t 5), (some (some 42, false))⟩,
  ⟨(some 49), .build [.sc (.int .i64 0), .sc (.int .i64 0), .sc (.int .i64 0), .sc (.int .i64 0), .sc (.int .i64 0), .sc (.int .i64 0)] [(0, 1, (.t 47)), (1, 1, (.c (.one (.sc (.int .i64 0))))), (2, 1, (.c (.one (.sc (.int .i64 0))))), (3, 1, (.t 48)), (4, 1, (.c (.one (.sc (.int .i64 0))))), (5, 1, (.c (.one (.sc (.int .i64 0)))))], (some (some 42, false))⟩,
  ⟨(some 50), .eqv [.i, .i, .i, .i, .i, .i] true (.t 46) (.t 49), (some (some 42, false))⟩,
  ⟨(some 51), .pick (.t 42) (.c (.one (.sc (.bool true)))) (.t 50), none⟩]
def r4_4 : List SOper := [
  ⟨(some 2), .mv (.c (.one (.sc (.bool false)))), none⟩]
def r4_5 : List SOper := [
  ⟨(some 52), .loadA 2 (.t 3), none⟩,
  ⟨(some 53), .call (.z 0) 19 [(.t 52)], none⟩,
  ⟨(some 54), .un .not (.t 53), none⟩]
def r4_6 : List SOper := [
  ⟨(some 55), .call (.z 0) 21 [], none⟩,
  ⟨(some 2), .mv (.t 55), none⟩]
def r4_7 : List SOper := [
  ⟨(some 57), .loadA 6 (.t 6), none⟩,
  ⟨(some 58), .loadA 2 (.t 3), none⟩,
  ⟨(some 59), .call (.z 0) 15 [(.t 57), (.t 58)], none⟩,
  ⟨(some 56), .mv (.t 59), none⟩,
  ⟨(some 60), .ext (.t 56) 0, none⟩,
  ⟨(some 61), .ext (.t 56) 1, none⟩,
  ⟨(some 9), .alloc [.sc (.int .i64 0), .sc (.int .i64 0)], none⟩,
  ⟨none, .store 2 (.t 9) (.t 60), none⟩,
  ⟨(some 10), .mv (.t 61), none⟩]
def r4_8 : List SOper := [
  ⟨(some 62), .mv (.t 10), none⟩,
  ⟨(some 63), .bin .neq (.t 62) (.c (.one (.sc (.int .i64 0)))), none⟩,
  ⟨(some 64), .mv (.t 63), none⟩,
  ⟨(some 65), .loadA 2 (.t 9), (some (some 64, false))⟩,
  ⟨(some 66), .loadA 2 (.t 3), (some (some 64, false))⟩,
  ⟨(some 67), .eqv [.i, .i] true (.t 65) (.t 66), (some (some 64, false))⟩,
  ⟨(some 68), .pick (.t 64) (.c (.one (.sc (.bool true)))) (.t 67), none⟩]
def r4_9 : List SOper := [
  ⟨(some 2), .mv (.c (.one (.sc (.bool false)))), none⟩]
def r4_10 : List SOper := [
  ⟨(some 69), .mv (.t 4), none⟩,
  ⟨(some 70), .call (.z 0) 26 [(.t 69)], none⟩,
  ⟨(some 71), .mv (.t 70), none⟩,
  ⟨(some 72), .mv (.t 5), (some (some 71, true))⟩,
  ⟨(some 73), .call (.z 0) 26 [(.t 72)], (some (some 71, true))⟩,
  ⟨(some 74), .pick (.t 71) (.t 73) (.c (.one (.sc (.bool false)))), none⟩]
def r4_11 : List SOper := [
  ⟨(some 76), .loadA 6 (.t 7), none⟩,
  ⟨(some 77), .loadA 2 (.t 3), none⟩,
  ⟨(some 78), .call (.z 0) 15 [(.t 76), (.t 77)], none⟩,
  ⟨(some 75), .mv (.t 78), none⟩,
  ⟨(some 79), .ext (.t 75) 0, none⟩,
  ⟨(some 80), .ext (.t 75) 1, none⟩,
  ⟨(some 11), .alloc [.sc (.int .i64 0), .sc (.int .i64 0)], none⟩,
  ⟨none, .store 2 (.t 11) (.t 79), none⟩,
  ⟨(some 12), .mv (.t 80), none⟩]
def r4_12 : List SOper := [
  ⟨(some 81), .fadr 0 (.t 3), none⟩,
  ⟨(some 82), .load1 (.t 81), none⟩,
  ⟨(some 83), .mv (.t 4), none⟩,
  ⟨(some 84), .bin .add (.t 82) (.t 83), none⟩,
  ⟨(some 85), .call (.z 0) 26 [(.t 84)], none⟩,
  ⟨(some 86), .mv (.t 85), none⟩,
  ⟨(some 87), .fadr 1 (.t 3), (some (some 86, true))⟩,
  ⟨(some 88), .load1 (.t 87), (some (some 86, true))⟩,
  ⟨(some 89), .mv (.t 5), (some (some 86, true))⟩,
  ⟨(some 90), .bin .add (.t 88) (.t 89), (some (some 86, true))⟩,
  ⟨(some 91), .call (.z 0) 26 [(.t 90)], (some (some 86, true))⟩,
  ⟨(some 92), .pick (.t 86) (.t 91) (.c (.one (.sc (.bool false)))), none⟩,
  ⟨(some 13), .mv (.t 92), none⟩]
def r4_13 : List SOper := [
  ⟨(some 93), .mv (.t 13), none⟩,
  ⟨(some 94), .mv (.t 12), none⟩,
  ⟨(some 95), .bin .eql (.t 94) (.c (.one (.sc (.int .i64 0)))), none⟩,
  ⟨(some 96), .beq true (.t 93) (.t 95), none⟩,
  ⟨(some 97), .mv (.t 96), none⟩,
  ⟨(some 98), .mv (.t 13), (some (some 97, false))⟩,
  ⟨(some 99), .mv (.t 98), (some (some 97, false))⟩,
  ⟨(some 100), .loadA 2 (.t 11), (some (some 99, true))⟩,
  ⟨(some 101), .fadr 0 (.t 3), (some (some 99, true))⟩,
  ⟨(some 102), .load1 (.t 101), (some (some 99, true))⟩,
  ⟨(some 103), .mv (.t 4), (some (some 99, true))⟩,
  ⟨(some 104), .bin .add (.t 102) (.t 103), (some (some 99, true))⟩,
  ⟨(some 105), .fadr 1 (.t 3), (some (some 99, true))⟩,
  ⟨(some 106), .load1 (.t 105), (some (some 99, true))⟩,
  ⟨(some 107), .mv (.t 5), (some (some 99, true))⟩,
  ⟨(some 108), .bin .add (.t 106) (.t 107), (some (some 99, true))⟩,
  ⟨(some 109), .build [.sc (.int .i64 0), .sc (.int .i64 0)] [(0, 1, (.t 104)), (1, 1, (.t 108))], (some (some 99, true))⟩,
  ⟨(some 110), .eqv [.i, .i] true (.t 100) (.t 109), (some (some 99, true))⟩,
  ⟨(some 111), .pick (.t 99) (.t 110) (.c (.one (.sc (.bool false)))), (some (some 97, false))⟩,
  ⟨(some 112), .pick (.t 97) (.c (.one (.sc (.bool true)))) (.t 111), none⟩]
def r4_14 : List SOper := [
  ⟨(some 2), .mv (.c (.one (.sc (.bool false)))), none⟩]
def r4_15 : List SOper := [
  ⟨(some 113), .fadr 4 (.t 1), none⟩,
  ⟨(some 114), .load1 (.t 113), none⟩,
  ⟨(some 115), .bin .rem (.t 114) (.c (.one (.sc (.int .i64 4)))), none⟩,
  ⟨(some 14), .mv (.t 115), none⟩]
def r4_16 : List SOper := [
  ⟨(some 116), .mv (.t 14), none⟩,
  ⟨(some 117), .bin .lss (.t 116) (.c (.one (.sc (.int .i64 0)))), none⟩]
def r4_17 : List SOper := [
  ⟨(some 118), .mv (.t 14), none⟩,
  ⟨(some 119), .bin .add (.t 118) (.c (.one (.sc (.int .i64 4)))), none⟩,
  ⟨(some 14), .mv (.t 119), none⟩]
def r4_18 : List SOper := [
  ⟨(some 120), .mv (.t 14), none⟩,
  ⟨(some 121), .mv (.c (.one (.sc (.int .i64 0)))), none⟩]
def r4_19 : List SOper := [
  ⟨(some 122), .bin .lss (.t 121) (.t 120), none⟩]
def r4_20 : List SOper := [
  ⟨(some 123), .fadr 1 (.t 9), none⟩,
  ⟨(some 124), .load1 (.t 123), none⟩,
  ⟨(some 125), .un .neg (.t 124), none⟩,
  ⟨(some 126), .fadr 0 (.t 9), none⟩,
  ⟨(some 127), .load1 (.t 126), none⟩,
  ⟨(some 128), .build [.sc (.int .i64 0), .sc (.int .i64 0)] [(0, 1, (.t 125)), (1, 1, (.t 127))], none⟩,
  ⟨none, .store 2 (.t 9) (.t 128), none⟩]
def r4_21 : List SOper := [
  ⟨(some 129), .bin .add (.t 121) (.c (.one (.sc (.int .i64 1)))), none⟩,
  ⟨(some 121), .mv (.t 129), none⟩]
def l4_0 : SC := (.seq (.reg r4_19) (.seq (.cond (.t 122) .skip (.exit 0)) (.seq (.block 1 (.reg r4_20)) (.reg r4_21))))
def r4_22 : List SOper := [
  ⟨(some 131), .loadA 6 (.t 8), none⟩,
  ⟨(some 132), .loadA 2 (.t 3), none⟩,
  ⟨(some 133), .call (.z 0) 15 [(.t 131), (.t 132)], none⟩,
  ⟨(some 130), .mv (.t 133), none⟩,
  ⟨(some 134), .ext (.t 130) 0, none⟩,
  ⟨(some 135), .ext (.t 130) 1, none⟩,
  ⟨(some 15), .alloc [.sc (.int .i64 0), .sc (.int .i64 0)], none⟩,
  ⟨none, .store 2 (.t 15) (.t 134), none⟩,
  ⟨(some 16), .mv (.t 135), none⟩]
def r4_23 : List SOper := [
  ⟨(some 136), .mv (.t 16), none⟩,
  ⟨(some 137), .bin .eql (.t 136) (.c (.one (.sc (.int .i64 0)))), none⟩,
  ⟨(some 138), .mv (.t 137), none⟩,
  ⟨(some 139), .loadA 2 (.t 15), (some (some 138, true))⟩,
  ⟨(some 140), .loadA 2 (.t 9), (some (some 138, true))⟩,
  ⟨(some 141), .eqv [.i, .i] false (.t 139) (.t 140), (some (some 138, true))⟩,
  ⟨(some 142), .pick (.t 138) (.t 141) (.c (.one (.sc (.bool false)))), none⟩,
  ⟨(some 143), .mv (.t 142), none⟩,
  ⟨(some 144), .call (.z 0) 21 [], (some (some 143, true))⟩,
  ⟨(some 145), .pick (.t 143) (.t 144) (.c (.one (.sc (.bool false)))), none⟩,
  ⟨(some 2), .mv (.t 145), none⟩]
def c4 : SC := (.seq (.reg r4_0) (.seq (.dreg [(19, 3), (21, 3)] r4_1) (.seq (.ureg [23, 24, 25, 26, 27, 28, 29] [] r4_2) (.seq (.seq (.reg r4_3) (.cond (.t 51) (.seq (.reg r4_4) .ret) .skip)) (.seq (.seq (.reg r4_5) (.cond (.t 54) (.seq (.reg r4_6) .ret) .skip)) (.seq (.reg r4_7) (.seq (.seq (.reg r4_8) (.cond (.t 68) (.seq (.reg r4_9) .ret) .skip)) (.seq (.seq (.reg r4_10) (.cond (.t 74) (.seq (.reg r4_11) (.seq (.reg r4_12) (.seq (.reg r4_13) (.cond (.t 112) (.seq (.reg r4_14) .ret) .skip)))) .skip)) (.seq (.reg r4_15) (.seq (.seq (.reg r4_16) (.cond (.t 117) (.reg r4_17) .skip)) (.seq (.seq (.reg r4_18) (.block 0 (.loop l4_0))) (.seq (.reg r4_22) (.seq (.reg r4_23) .ret)))))))))))))
/-- limner/limnerlaw04.AffinePlain -/
def F4 : SFun := ⟨146, c4, [.tmp 2]⟩

def r7_0 : List SOper := [
  ⟨(some 3), .box (.t 0), none⟩,
  ⟨(some 4), .box (.t 1), none⟩,
  ⟨(some 5), .box (.t 2), none⟩,
  ⟨(some 6), .mv (.c (.one (.sc (.bool false)))), none⟩]
def r7_1 : List SOper := [
  ⟨(some 20), .loadA 6 (.t 3), none⟩,
  ⟨(some 21), .loadA 4 (.t 4), none⟩,
  ⟨(some 22), .call (.z 0) 30 [(.t 20), (.t 21)], none⟩,
  ⟨(some 19), .mv (.t 22), none⟩,
  ⟨(some 23), .ext (.t 19) 0, none⟩,
  ⟨(some 24), .ext (.t 19) 1, none⟩,
  ⟨(some 7), .alloc [.sc (.int .i64 0), .sc (.int .i64 0), .sc (.int .i64 0), .sc (.int .i64 0)], none⟩,
  ⟨none, .store 4 (.t 7) (.t 23), none⟩,
  ⟨(some 8), .mv (.t 24), none⟩]
def r7_2 : List SOper := [
  ⟨(some 25), .fadr 0 (.t 4), none⟩,
  ⟨(some 26), .load1 (.t 25), none⟩,
  ⟨(some 27), .fadr 2 (.t 4), none⟩,
  ⟨(some 28), .load1 (.t 27), none⟩,
  ⟨(some 29), .bin .geq (.t 26) (.t 28), none⟩,
  ⟨(some 30), .mv (.t 29), none⟩,
  ⟨(some 31), .fadr 1 (.t 4), (some (some 30, false))⟩,
  ⟨(some 32), .load1 (.t 31), (some (some 30, false))⟩,
  ⟨(some 33), .fadr 3 (.t 4), (some (some 30, false))⟩,
  ⟨(some 34), .load1 (.t 33), (some (some 30, false))⟩,
  ⟨(some 35), .bin .geq (.t 32) (.t 34), (some (some 30, false))⟩,
  ⟨(some 36), .pick (.t 30) (.c (.one (.sc (.bool true)))) (.t 35), none⟩,
  ⟨(some 9), .mv (.t 36), none⟩]
def r7_3 : List SOper := [
  ⟨(some 37), .loadA 6 (.t 3), none⟩,
  ⟨(some 38), .call (.z 0) 17 [(.t 37)], none⟩,
  ⟨(some 39), .call (.z 0) 16 [(.t 38)], none⟩,
  ⟨(some 40), .un .not (.t 39), none⟩]
def r7_4 : List SOper := [
  ⟨(some 41), .mv (.t 8), none⟩,
  ⟨(some 42), .bin .eql (.t 41) (.c (.one (.sc (.int .i64 10)))), none⟩,
  ⟨(some 43), .mv (.t 42), none⟩,
  ⟨(some 44), .loadA 4 (.t 7), (some (some 43, true))⟩,
  ⟨(some 45), .build [.sc (.int .i64 0), .sc (.int .i64 0), .sc (.int .i64 0), .sc (.int .i64 0)] [], (some (some 43, true))⟩,
  ⟨(some 46), .eqv [.i, .i, .i, .i] false (.t 44) (.t 45), (some (some 43, true))⟩,
  ⟨(some 47), .pick (.t 43) (.t 46) (.c (.one (.sc (.bool false)))), none⟩,
  ⟨(some 48), .mv (.t 47), none⟩,
  ⟨(some 49), .call (.z 0) 21 [], (some (some 48, true))⟩,
  ⟨(some 50), .pick (.t 48) (.t 49) (.c (.one (.sc (.bool false)))), none⟩,
  ⟨(some 6), .mv (.t 50), none⟩]
def r7_5 : List SOper := [
  ⟨(some 51), .mv (.t 9), none⟩]
def r7_6 : List SOper := [
  ⟨(some 52), .mv (.t 8), none⟩,
  ⟨(some 53), .bin .eql (.t 52) (.c (.one (.sc (.int .i64 0)))), none⟩,
  ⟨(some 54), .mv (.t 53), none⟩,
  ⟨(some 55), .loadA 4 (.t 7), (some (some 54, true))⟩,
  ⟨(some 56), .build [.sc (.int .i64 0), .sc (.int .i64 0), .sc (.int .i64 0), .sc (.int .i64 0)] [], (some (some 54, true))⟩,
  ⟨(some 57), .eqv [.i, .i, .i, .i] false (.t 55) (.t 56), (some (some 54, true))⟩,
  ⟨(some 58), .pick (.t 54) (.t 57) (.c (.one (.sc (.bool false)))), none⟩,
  ⟨(some 59), .mv (.t 58), none⟩,
  ⟨(some 60), .call (.z 0) 21 [], (some (some 59, true))⟩,
  ⟨(some 61), .pick (.t 59) (.t 60) (.c (.one (.sc (.bool false)))), none⟩,
  ⟨(some 6), .mv (.t 61), none⟩]
def r7_7 : List SOper := [
  ⟨(some 10), .mv (.c (.one (.sc (.slice none 0 0)))), none⟩]
def r7_8 : List SOper := [
  ⟨(some 62), .fadr 0 (.t 4), none⟩,
  ⟨(some 63), .load1 (.t 62), none⟩,
  ⟨(some 64), .fadr 2 (.t 4), none⟩,
  ⟨(some 65), .load1 (.t 64), none⟩,
  ⟨(some 66), .bin .sub (.t 65) (.c (.one (.sc (.int .i64 1)))), none⟩,
  ⟨(some 67), .bslice [.sc (.int .i64 0), .sc (.int .i64 0)] 2 1 [(0, 1, (.t 63)), (1, 1, (.t 66))], none⟩,
  ⟨(some 68), .len (.t 67), none⟩,
  ⟨(some 69), .mv (.c (.one (.sc (.int .i64 0)))), none⟩]
def r7_9 : List SOper := [
  ⟨(some 70), .bin .lss (.t 69) (.t 68), none⟩]
def r7_10 : List SOper := [
  ⟨(some 71), .iadrS 1 (.t 67) (.t 69), none⟩,
  ⟨(some 72), .load1 (.t 71), none⟩,
  ⟨(some 12), .mv (.t 72), none⟩]
def r7_11 : List SOper := [
  ⟨(some 73), .fadr 1 (.t 4), none⟩,
  ⟨(some 74), .load1 (.t 73), none⟩,
  ⟨(some 75), .fadr 3 (.t 4), none⟩,
  ⟨(some 76), .load1 (.t 75), none⟩,
  ⟨(some 77), .bin .sub (.t 76) (.c (.one (.sc (.int .i64 1)))), none⟩,
  ⟨(some 78), .bslice [.sc (.int .i64 0), .sc (.int .i64 0)] 2 1 [(0, 1, (.t 74)), (1, 1, (.t 77))], none⟩,
  ⟨(some 79), .len (.t 78), none⟩,
  ⟨(some 80), .mv (.c (.one (.sc (.int .i64 0)))), none⟩]
def r7_12 : List SOper := [
  ⟨(some 81), .bin .lss (.t 80) (.t 79), none⟩]
def r7_13 : List SOper := [
  ⟨(some 82), .iadrS 1 (.t 78) (.t 80), none⟩,
  ⟨(some 83), .load1 (.t 82), none⟩,
  ⟨(some 14), .mv (.t 83), none⟩]
def r7_14 : List SOper := [
  ⟨(some 85), .loadA 6 (.t 3), none⟩,
  ⟨(some 86), .mv (.t 12), none⟩,
  ⟨(some 87), .mv (.t 14), none⟩,
  ⟨(some 88), .build [.sc (.int .i64 0), .sc (.int .i64 0)] [(0, 1, (.t 86)), (1, 1, (.t 87))], none⟩,
  ⟨(some 89), .call (.z 0) 15 [(.t 85), (.t 88)], none⟩,
  ⟨(some 84), .mv (.t 89), none⟩,
  ⟨(some 90), .ext (.t 84) 0, none⟩,
  ⟨(some 91), .ext (.t 84) 1, none⟩,
  ⟨(some 15), .alloc [.sc (.int .i64 0), .sc (.int .i64 0)], none⟩,
  ⟨none, .store 2 (.t 15) (.t 90), none⟩,
  ⟨(some 16), .mv (.t 91), none⟩]
def r7_15 : List SOper := [
  ⟨(some 92), .mv (.t 16), none⟩,
  ⟨(some 93), .bin .neq (.t 92) (.c (.one (.sc (.int .i64 0)))), none⟩]
def r7_16 : List SOper := [
  ⟨(some 94), .mv (.t 8), none⟩,
  ⟨(some 95), .bin .eql (.t 94) (.c (.one (.sc (.int .i64 10)))), none⟩,
  ⟨(some 96), .mv (.t 95), none⟩,
  ⟨(some 97), .loadA 4 (.t 7), (some (some 96, true))⟩,
  ⟨(some 98), .build [.sc (.int .i64 0), .sc (.int .i64 0), .sc (.int .i64 0), .sc (.int .i64 0)] [], (some (some 96, true))⟩,
  ⟨(some 99), .eqv [.i, .i, .i, .i] false (.t 97) (.t 98), (some (some 96, true))⟩,
  ⟨(some 100), .pick (.t 96) (.t 99) (.c (.one (.sc (.bool false)))), none⟩,
  ⟨(some 101), .mv (.t 100), none⟩,
  ⟨(some 102), .call (.z 0) 21 [], (some (some 101, true))⟩,
  ⟨(some 103), .pick (.t 101) (.t 102) (.c (.one (.sc (.bool false)))), none⟩,
  ⟨(some 6), .mv (.t 103), none⟩]
def r7_17 : List SOper := [
  ⟨(some 104), .mv (.t 10), none⟩,
  ⟨(some 105), .loadA 2 (.t 15), none⟩,
  ⟨(some 106), .bslice [.sc (.int .i64 0), .sc (.int .i64 0)] 1 2 [(0, 2, (.t 105))], none⟩,
  ⟨(some 107), .app 2 16 (.t 104) (.t 106), none⟩,
  ⟨(some 10), .mv (.t 107), none⟩]
def r7_18 : List SOper := [
  ⟨(some 108), .bin .add (.t 80) (.c (.one (.sc (.int .i64 1)))), none⟩,
  ⟨(some 80), .mv (.t 108), none⟩]
def l7_0 : SC := (.seq (.reg r7_12) (.seq (.cond (.t 81) .skip (.exit 2)) (.seq (.block 3 (.seq (.reg r7_13) (.seq (.reg r7_14) (.seq (.seq (.reg r7_15) (.cond (.t 93) (.seq (.reg r7_16) .ret) .skip)) (.reg r7_17))))) (.reg r7_18))))
def r7_19 : List SOper := [
  ⟨(some 109), .bin .add (.t 69) (.c (.one (.sc (.int .i64 1)))), none⟩,
  ⟨(some 69), .mv (.t 109), none⟩]
def l7_1 : SC := (.seq (.reg r7_9) (.seq (.cond (.t 70) .skip (.exit 0)) (.seq (.block 1 (.seq (.reg r7_10) (.seq (.reg r7_11) (.block 2 (.loop l7_0))))) (.reg r7_19))))
def r7_20 : List SOper := [
  ⟨(some 110), .mv (.t 8), none⟩,
  ⟨(some 111), .bin .neq (.t 110) (.c (.one (.sc (.int .i64 0)))), none⟩,
  ⟨(some 112), .mv (.t 111), none⟩,
  ⟨(some 113), .loadA 4 (.t 7), (some (some 112, false))⟩,
  ⟨(some 114), .mv (.t 10), (some (some 112, false))⟩,
  ⟨(some 115), .call .q 31 [(.t 114)], (some (some 112, false))⟩,
  ⟨(some 116), .eqv [.i, .i, .i, .i] true (.t 113) (.t 115), (some (some 112, false))⟩,
  ⟨(some 117), .pick (.t 112) (.c (.one (.sc (.bool true)))) (.t 116), none⟩]
def r7_21 : List SOper := [
  ⟨(some 6), .mv (.c (.one (.sc (.bool false)))), none⟩]
def r7_22 : List SOper := [
  ⟨(some 118), .loadA 4 (.t 4), none⟩,
  ⟨(some 119), .loadA 2 (.t 5), none⟩,
  ⟨(some 120), .call (.z 0) 32 [(.t 118), (.t 119)], none⟩]
def r7_23 : List SOper := [
  ⟨(some 122), .loadA 6 (.t 3), none⟩,
  ⟨(some 123), .loadA 2 (.t 5), none⟩,
  ⟨(some 124), .call (.z 0) 15 [(.t 122), (.t 123)], none⟩,
  ⟨(some 121), .mv (.t 124), none⟩,
  ⟨(some 125), .ext (.t 121) 0, none⟩,
  ⟨(some 126), .ext (.t 121) 1, none⟩,
  ⟨(some 17), .alloc [.sc (.int .i64 0), .sc (.int .i64 0)], none⟩,
  ⟨none, .store 2 (.t 17) (.t 125), none⟩,
  ⟨(some 18), .mv (.t 126), none⟩]
def r7_24 : List SOper := [
  ⟨(some 127), .mv (.t 18), none⟩,
  ⟨(some 128), .bin .neq (.t 127) (.c (.one (.sc (.int .i64 0)))), none⟩,
  ⟨(some 129), .mv (.t 128), none⟩,
  ⟨(some 130), .loadA 4 (.t 7), (some (some 129, false))⟩,
  ⟨(some 131), .loadA 2 (.t 17), (some (some 129, false))⟩,
  ⟨(some 132), .call (.z 0) 32 [(.t 130), (.t 131)], (some (some 129, false))⟩,
  ⟨(some 133), .un .not (.t 132), (some (some 129, false))⟩,
  ⟨(some 134), .pick (.t 129) (.c (.one (.sc (.bool true)))) (.t 133), none⟩]
def r7_25 : List SOper := [
  ⟨(some 6), .mv (.c (.one (.sc (.bool false)))), none⟩]
def r7_26 : List SOper := [
  ⟨(some 135), .call (.z 0) 21 [], none⟩,
  ⟨(some 6), .mv (.t 135), none⟩]
def c7 : SC := (.seq (.reg r7_0) (.seq (.reg r7_1) (.seq (.reg r7_2) (.seq (.seq (.reg r7_3) (.cond (.t 40) (.seq (.reg r7_4) .ret) .skip)) (.seq (.seq (.reg r7_5) (.cond (.t 51) (.seq (.reg r7_6) .ret) .skip)) (.seq (.reg r7_7) (.seq (.seq (.reg r7_8) (.block 0 (.loop l7_1))) (.seq (.seq (.reg r7_20) (.cond (.t 117) (.seq (.reg r7_21) .ret) .skip)) (.seq (.seq (.reg r7_22) (.cond (.t 120) (.seq (.reg r7_23) (.seq (.reg r7_24) (.cond (.t 134) (.seq (.reg r7_25) .ret) .skip))) .skip)) (.seq (.reg r7_26) .ret))))))))))
/-- limner/limnerlaw04.AffineBounds -/
def F7 : SFun := ⟨136, c7, [.tmp 6]⟩

def r9_0 : List SOper := [
  ⟨(some 4), .mv (.c (.one (.sc (.bool false)))), none⟩]
def r9_1 : List SOper := [
  ⟨(some 7), .mv (.t 0), none⟩,
  ⟨(some 8), .len (.t 7), none⟩,
  ⟨(some 9), .bin .gtr (.t 8) (.c (.one (.sc (.int .i64 100)))), none⟩]
def r9_2 : List SOper := [
  ⟨(some 10), .call (.z 0) 37 [], none⟩,
  ⟨(some 4), .mv (.t 10), none⟩]
def r9_3 : List SOper := [
  ⟨(some 12), .mv (.t 0), none⟩,
  ⟨(some 13), .mv (.t 1), none⟩,
  ⟨(some 14), .call .k 38 [(.t 12), (.t 13)], none⟩,
  ⟨(some 11), .mv (.t 14), none⟩,
  ⟨(some 15), .ext (.t 11) 0, none⟩,
  ⟨(some 16), .ext (.t 11) 1, none⟩,
  ⟨(some 5), .mv (.t 15), none⟩,
  ⟨(some 6), .mv (.t 16), none⟩]
def r9_4 : List SOper := [
  ⟨(some 17), .mv (.t 0), none⟩,
  ⟨(some 18), .call .q 39 [(.t 17)], none⟩,
  ⟨(some 19), .un .not (.t 18), none⟩,
  ⟨(some 20), .mv (.t 19), none⟩,
  ⟨(some 21), .mv (.t 1), (some (some 20, false))⟩,
  ⟨(some 22), .bin .lss (.t 21) (.c (.one (.sc (.int .i64 0)))), (some (some 20, false))⟩,
  ⟨(some 23), .pick (.t 20) (.c (.one (.sc (.bool true)))) (.t 22), none⟩,
  ⟨(some 24), .mv (.t 23), none⟩,
  ⟨(some 25), .mv (.t 1), (some (some 24, false))⟩,
  ⟨(some 26), .bin .gtr (.t 25) (.c (.one (.sc (.int .i64 6)))), (some (some 24, false))⟩,
  ⟨(some 27), .pick (.t 24) (.c (.one (.sc (.bool true)))) (.t 26), none⟩]
def r9_5 : List SOper := [
  ⟨(some 28), .mv (.t 6), none⟩,
  ⟨(some 29), .bin .eql (.t 28) (.c (.one (.sc (.int .i64 30)))), none⟩,
  ⟨(some 30), .mv (.t 29), none⟩,
  ⟨(some 31), .mv (.t 5), (some (some 30, true))⟩,
  ⟨(some 32), .len (.t 31), (some (some 30, true))⟩,
  ⟨(some 33), .bin .eql (.t 32) (.c (.one (.sc (.int .i64 0)))), (some (some 30, true))⟩,
  ⟨(some 34), .pick (.t 30) (.t 33) (.c (.one (.sc (.bool false)))), none⟩,
  ⟨(some 35), .mv (.t 34), none⟩,
  ⟨(some 36), .call (.z 0) 37 [], (some (some 35, true))⟩,
  ⟨(some 37), .pick (.t 35) (.t 36) (.c (.one (.sc (.bool false)))), none⟩,
  ⟨(some 4), .mv (.t 37), none⟩]
def r9_6 : List SOper := [
  ⟨(some 38), .mv (.t 6), none⟩,
  ⟨(some 39), .bin .eql (.t 38) (.c (.one (.sc (.int .i64 0)))), none⟩,
  ⟨(some 40), .mv (.t 39), none⟩,
  ⟨(some 41), .mv (.t 5), (some (some 40, true))⟩,
  ⟨(some 42), .mv (.t 0), (some (some 40, true))⟩,
  ⟨(some 43), .call .k 42 [(.t 42)], (some (some 40, true))⟩,
  ⟨(some 44), .mv (.t 1), (some (some 40, true))⟩,
  ⟨(some 45), .call .k 41 [(.t 43), (.t 44)], (some (some 40, true))⟩,
  ⟨(some 46), .call .q 40 [(.t 41), (.t 45)], (some (some 40, true))⟩,
  ⟨(some 47), .pick (.t 40) (.t 46) (.c (.one (.sc (.bool false)))), none⟩,
  ⟨(some 48), .mv (.t 47), none⟩,
  ⟨(some 49), .mv (.t 5), (some (some 48, true))⟩,
  ⟨(some 50), .mv (.t 5), (some (some 48, true))⟩,
  ⟨(some 51), .len (.t 50), (some (some 48, true))⟩,
  ⟨(some 52), .bin .sub (.t 51) (.c (.one (.sc (.int .i64 1)))), (some (some 48, true))⟩,
  ⟨(some 53), .iadrS 2 (.t 49) (.t 52), (some (some 48, true))⟩,
  ⟨(some 54), .loadA 2 (.t 53), (some (some 48, true))⟩,
  ⟨(some 55), .mv (.t 0), (some (some 48, true))⟩,
  ⟨(some 56), .mv (.t 0), (some (some 48, true))⟩,
  ⟨(some 57), .len (.t 56), (some (some 48, true))⟩,
  ⟨(some 58), .bin .sub (.t 57) (.c (.one (.sc (.int .i64 1)))), (some (some 48, true))⟩,
  ⟨(some 59), .iadrS 2 (.t 55) (.t 58), (some (some 48, true))⟩,
  ⟨(some 60), .loadA 2 (.t 59), (some (some 48, true))⟩,
  ⟨(some 61), .eqv [.i, .i] false (.t 54) (.t 60), (some (some 48, true))⟩,
  ⟨(some 62), .pick (.t 48) (.t 61) (.c (.one (.sc (.bool false)))), none⟩,
  ⟨(some 63), .mv (.t 62), none⟩,
  ⟨(some 64), .call (.z 0) 37 [], (some (some 63, true))⟩,
  ⟨(some 65), .pick (.t 63) (.t 64) (.c (.one (.sc (.bool false)))), none⟩,
  ⟨(some 4), .mv (.t 65), none⟩]
def c9 : SC := (.seq (.reg r9_0) (.seq (.seq (.reg r9_1) (.cond (.t 9) (.seq (.reg r9_2) .ret) .skip)) (.seq (.reg r9_3) (.seq (.seq (.reg r9_4) (.cond (.t 27) (.seq (.reg r9_5) .ret) .skip)) (.seq (.reg r9_6) .ret)))))
/-- limner/limnerlaw05.CurveFlats -/
def F9 : SFun := ⟨66, c9, [.tmp 4]⟩

def r10_0 : List SOper := [
  ⟨(some 4), .mv (.c (.one (.sc (.bool false)))), none⟩]
def r10_1 : List SOper := [
  ⟨(some 14), .mv (.t 0), none⟩,
  ⟨(some 15), .call .q 39 [(.t 14)], none⟩,
  ⟨(some 16), .un .not (.t 15), none⟩,
  ⟨(some 17), .mv (.t 16), none⟩,
  ⟨(some 18), .mv (.t 1), (some (some 17, false))⟩,
  ⟨(some 19), .bin .lss (.t 18) (.c (.one (.sc (.int .i64 0)))), (some (some 17, false))⟩,
  ⟨(some 20), .pick (.t 17) (.c (.one (.sc (.bool true)))) (.t 19), none⟩,
  ⟨(some 21), .mv (.t 20), none⟩,
  ⟨(some 22), .mv (.t 1), (some (some 21, false))⟩,
  ⟨(some 23), .bin .gtr (.t 22) (.c (.one (.sc (.int .i64 6)))), (some (some 21, false))⟩,
  ⟨(some 24), .pick (.t 21) (.c (.one (.sc (.bool true)))) (.t 23), none⟩]
def r10_2 : List SOper := [
  ⟨(some 25), .call (.z 0) 37 [], none⟩,
  ⟨(some 4), .mv (.t 25), none⟩]
def r10_3 : List SOper := [
  ⟨(some 27), .mv (.t 0), none⟩,
  ⟨(some 28), .mv (.t 1), none⟩,
  ⟨(some 29), .call .k 38 [(.t 27), (.t 28)], none⟩,
  ⟨(some 26), .mv (.t 29), none⟩,
  ⟨(some 30), .ext (.t 26) 0, none⟩,
  ⟨(some 31), .ext (.t 26) 1, none⟩,
  ⟨(some 5), .mv (.t 30), none⟩,
  ⟨(some 6), .mv (.t 31), none⟩]
def r10_4 : List SOper := [
  ⟨(some 32), .mv (.t 6), none⟩,
  ⟨(some 33), .bin .neq (.t 32) (.c (.one (.sc (.int .i64 0)))), none⟩,
  ⟨(some 34), .mv (.t 33), none⟩,
  ⟨(some 35), .mv (.t 5), (some (some 34, false))⟩,
  ⟨(some 36), .len (.t 35), (some (some 34, false))⟩,
  ⟨(some 37), .mv (.t 1), (some (some 34, false))⟩,
  ⟨(some 38), .bin .shl (.c (.one (.sc (.int .i64 1)))) (.t 37), (some (some 34, false))⟩,
  ⟨(some 39), .bin .neq (.t 36) (.t 38), (some (some 34, false))⟩,
  ⟨(some 40), .pick (.t 34) (.c (.one (.sc (.bool true)))) (.t 39), none⟩]
def r10_5 : List SOper := [
  ⟨(some 4), .mv (.c (.one (.sc (.bool false)))), none⟩]
def r10_6 : List SOper := [
  ⟨(some 41), .mv (.t 1), none⟩,
  ⟨(some 42), .mv (.t 0), none⟩,
  ⟨(some 43), .len (.t 42), none⟩,
  ⟨(some 44), .bin .sub (.t 43) (.c (.one (.sc (.int .i64 1)))), none⟩,
  ⟨(some 45), .bin .mul (.t 41) (.t 44), none⟩,
  ⟨(some 46), .bin .shl (.c (.one (.sc (.int .i64 1)))) (.t 45), none⟩,
  ⟨(some 7), .mv (.t 46), none⟩]
def r10_7 : List SOper := [
  ⟨(some 47), .mv (.t 5), none⟩,
  ⟨(some 48), .len (.t 47), none⟩,
  ⟨(some 49), .mv (.c (.one (.sc (.int .i64 0)))), none⟩]
def r10_8 : List SOper := [
  ⟨(some 50), .bin .lss (.t 49) (.t 48), none⟩]
def r10_9 : List SOper := [
  ⟨(some 51), .mv (.t 49), none⟩,
  ⟨(some 52), .iadrS 2 (.t 47) (.t 49), none⟩,
  ⟨(some 53), .loadA 2 (.t 52), none⟩,
  ⟨(some 9), .alloc [.sc (.int .i64 0), .sc (.int .i64 0)], none⟩,
  ⟨(some 8), .mv (.t 51), none⟩,
  ⟨none, .store 2 (.t 9) (.t 53), none⟩]
def r10_10 : List SOper := [
  ⟨(some 55), .mv (.t 0), none⟩,
  ⟨(some 56), .call .k 42 [(.t 55)], none⟩,
  ⟨(some 57), .mv (.t 8), none⟩,
  ⟨(some 58), .bin .add (.t 57) (.c (.one (.sc (.int .i64 1)))), none⟩,
  ⟨(some 59), .mv (.t 1), none⟩,
  ⟨(some 60), .call .q 43 [(.t 56), (.t 58), (.t 59)], none⟩,
  ⟨(some 54), .mv (.t 60), none⟩,
  ⟨(some 61), .ext (.t 54) 0, none⟩,
  ⟨(some 62), .ext (.t 54) 1, none⟩,
  ⟨(some 10), .mv (.t 61), none⟩,
  ⟨(some 11), .mv (.t 62), none⟩]
def r10_11 : List SOper := [
  ⟨(some 63), .mv (.t 10), none⟩,
  ⟨(some 64), .fadr 0 (.t 9), none⟩,
  ⟨(some 65), .load1 (.t 64), none⟩,
  ⟨(some 66), .mv (.t 7), none⟩,
  ⟨(some 67), .bin .mul (.t 65) (.t 66), none⟩,
  ⟨(some 68), .bin .sub (.t 63) (.t 67), none⟩,
  ⟨(some 69), .mv (.t 11), none⟩,
  ⟨(some 70), .fadr 1 (.t 9), none⟩,
  ⟨(some 71), .load1 (.t 70), none⟩,
  ⟨(some 72), .mv (.t 7), none⟩,
  ⟨(some 73), .bin .mul (.t 71) (.t 72), none⟩,
  ⟨(some 74), .bin .sub (.t 69) (.t 73), none⟩,
  ⟨(some 12), .mv (.t 68), none⟩,
  ⟨(some 13), .mv (.t 74), none⟩]
def r10_12 : List SOper := [
  ⟨(some 75), .mv (.t 12), none⟩,
  ⟨(some 76), .bin .lss (.t 75) (.c (.one (.sc (.int .i64 0)))), none⟩,
  ⟨(some 77), .mv (.t 76), none⟩,
  ⟨(some 78), .mv (.t 13), (some (some 77, false))⟩,
  ⟨(some 79), .bin .lss (.t 78) (.c (.one (.sc (.int .i64 0)))), (some (some 77, false))⟩,
  ⟨(some 80), .pick (.t 77) (.c (.one (.sc (.bool true)))) (.t 79), none⟩,
  ⟨(some 81), .mv (.t 80), none⟩,
  ⟨(some 82), .mv (.t 12), (some (some 81, false))⟩,
  ⟨(some 83), .mv (.t 1), (some (some 81, false))⟩,
  ⟨(some 84), .bin .mul (.c (.one (.sc (.int .i64 2)))) (.t 83), (some (some 81, false))⟩,
  ⟨(some 85), .mv (.t 7), (some (some 81, false))⟩,
  ⟨(some 86), .bin .mul (.t 84) (.t 85), (some (some 81, false))⟩,
  ⟨(some 87), .bin .gtr (.t 82) (.t 86), (some (some 81, false))⟩,
  ⟨(some 88), .pick (.t 81) (.c (.one (.sc (.bool true)))) (.t 87), none⟩,
  ⟨(some 89), .mv (.t 88), none⟩,
  ⟨(some 90), .mv (.t 13), (some (some 89, false))⟩,
  ⟨(some 91), .mv (.t 1), (some (some 89, false))⟩,
  ⟨(some 92), .bin .mul (.c (.one (.sc (.int .i64 2)))) (.t 91), (some (some 89, false))⟩,
  ⟨(some 93), .mv (.t 7), (some (some 89, false))⟩,
  ⟨(some 94), .bin .mul (.t 92) (.t 93), (some (some 89, false))⟩,
  ⟨(some 95), .bin .gtr (.t 90) (.t 94), (some (some 89, false))⟩,
  ⟨(some 96), .pick (.t 89) (.c (.one (.sc (.bool true)))) (.t 95), none⟩]
def r10_13 : List SOper := [
  ⟨(some 4), .mv (.c (.one (.sc (.bool false)))), none⟩]
def r10_14 : List SOper := [
  ⟨(some 97), .bin .add (.t 49) (.c (.one (.sc (.int .i64 1)))), none⟩,
  ⟨(some 49), .mv (.t 97), none⟩]
def l10_0 : SC := (.seq (.reg r10_8) (.seq (.cond (.t 50) .skip (.exit 0)) (.seq (.block 1 (.seq (.reg r10_9) (.seq (.reg r10_10) (.seq (.reg r10_11) (.seq (.reg r10_12) (.cond (.t 96) (.seq (.reg r10_13) .ret) .skip)))))) (.reg r10_14))))
def r10_15 : List SOper := [
  ⟨(some 98), .call (.z 0) 37 [], none⟩,
  ⟨(some 4), .mv (.t 98), none⟩]
def c10 : SC := (.seq (.reg r10_0) (.seq (.seq (.reg r10_1) (.cond (.t 24) (.seq (.reg r10_2) .ret) .skip)) (.seq (.reg r10_3) (.seq (.seq (.reg r10_4) (.cond (.t 40) (.seq (.reg r10_5) .ret) .skip)) (.seq (.reg r10_6) (.seq (.seq (.reg r10_7) (.block 0 (.loop l10_0))) (.seq (.reg r10_15) .ret)))))))
/-- limner/limnerlaw05.CurveNear -/
def F10 : SFun := ⟨99, c10, [.tmp 4]⟩

def r11_0 : List SOper := [
  ⟨(some 2), .box (.t 0), none⟩,
  ⟨(some 4), .mv (.c (.one (.sc (.bool false)))), none⟩]
def r11_1 : List SOper := [
  ⟨(some 11), .iadrA 3 1 (.t 2) (.c (.one (.sc (.int .i64 0)))), none⟩,
  ⟨(some 12), .load1 (.t 11), none⟩,
  ⟨(some 13), .call (.z 0) 44 [(.t 12), (.c (.one (.sc (.int .i64 7))))], none⟩,
  ⟨(some 14), .iadrA 3 1 (.t 2) (.c (.one (.sc (.int .i64 1)))), none⟩,
  ⟨(some 15), .load1 (.t 14), none⟩,
  ⟨(some 16), .call (.z 0) 44 [(.t 15), (.c (.one (.sc (.int .i64 7))))], none⟩,
  ⟨(some 17), .iadrA 3 1 (.t 2) (.c (.one (.sc (.int .i64 2)))), none⟩,
  ⟨(some 18), .load1 (.t 17), none⟩,
  ⟨(some 19), .call (.z 0) 44 [(.t 18), (.c (.one (.sc (.int .i64 7))))], none⟩,
  ⟨(some 20), .bslice [.sc (.int .i64 0), .sc (.int .i64 0), .sc (.int .i64 0), .sc (.int .i64 0), .sc (.int .i64 0), .sc (.int .i64 0)] 3 2 [(0, 2, (.t 13)), (2, 2, (.t 16)), (4, 2, (.t 19))], none⟩,
  ⟨(some 5), .mv (.t 20), none⟩]
def r11_2 : List SOper := [
  ⟨(some 21), .mv (.t 5), none⟩,
  ⟨(some 22), .call .q 39 [(.t 21)], none⟩,
  ⟨(some 23), .un .not (.t 22), none⟩,
  ⟨(some 24), .mv (.t 23), none⟩,
  ⟨(some 25), .mv (.t 1), (some (some 24, false))⟩,
  ⟨(some 26), .bin .lss (.t 25) (.c (.one (.sc (.int .i64 0)))), (some (some 24, false))⟩,
  ⟨(some 27), .pick (.t 24) (.c (.one (.sc (.bool true)))) (.t 26), none⟩,
  ⟨(some 28), .mv (.t 27), none⟩,
  ⟨(some 29), .mv (.t 1), (some (some 28, false))⟩,
  ⟨(some 30), .bin .gtr (.t 29) (.c (.one (.sc (.int .i64 6)))), (some (some 28, false))⟩,
  ⟨(some 31), .pick (.t 28) (.c (.one (.sc (.bool true)))) (.t 30), none⟩]
def r11_3 : List SOper := [
  ⟨(some 32), .call (.z 0) 37 [], none⟩,
  ⟨(some 4), .mv (.t 32), none⟩]
def r11_4 : List SOper := [
  ⟨(some 34), .mv (.t 5), none⟩,
  ⟨(some 35), .mv (.t 1), none⟩,
  ⟨(some 36), .call .k 38 [(.t 34), (.t 35)], none⟩,
  ⟨(some 33), .mv (.t 36), none⟩,
  ⟨(some 37), .ext (.t 33) 0, none⟩,
  ⟨(some 38), .ext (.t 33) 1, none⟩,
  ⟨(some 6), .mv (.t 37), none⟩,
  ⟨(some 7), .mv (.t 38), none⟩]
def r11_5 : List SOper := [
  ⟨(some 39), .mv (.t 7), none⟩,
  ⟨(some 40), .bin .neq (.t 39) (.c (.one (.sc (.int .i64 0)))), none⟩]
def r11_6 : List SOper := [
  ⟨(some 4), .mv (.c (.one (.sc (.bool false)))), none⟩]
def r11_7 : List SOper := [
  ⟨(some 41), .iadrA 3 1 (.t 2) (.c (.one (.sc (.int .i64 0)))), none⟩,
  ⟨(some 42), .load1 (.t 41), none⟩,
  ⟨(some 8), .mv (.t 42), none⟩]
def r11_8 : List SOper := [
  ⟨(some 43), .mv (.t 6), none⟩,
  ⟨(some 44), .len (.t 43), none⟩,
  ⟨(some 45), .mv (.c (.one (.sc (.int .i64 0)))), none⟩]
def r11_9 : List SOper := [
  ⟨(some 46), .bin .lss (.t 45) (.t 44), none⟩]
def r11_10 : List SOper := [
  ⟨(some 47), .iadrS 2 (.t 43) (.t 45), none⟩,
  ⟨(some 48), .loadA 2 (.t 47), none⟩,
  ⟨(some 10), .alloc [.sc (.int .i64 0), .sc (.int .i64 0)], none⟩,
  ⟨none, .store 2 (.t 10) (.t 48), none⟩]
def r11_11 : List SOper := [
  ⟨(some 49), .fadr 1 (.t 10), none⟩,
  ⟨(some 50), .load1 (.t 49), none⟩,
  ⟨(some 51), .bin .neq (.t 50) (.c (.one (.sc (.int .i64 7)))), none⟩,
  ⟨(some 52), .mv (.t 51), none⟩,
  ⟨(some 53), .iadrA 3 1 (.t 2) (.c (.one (.sc (.int .i64 0)))), (some (some 52, false))⟩,
  ⟨(some 54), .load1 (.t 53), (some (some 52, false))⟩,
  ⟨(some 55), .iadrA 3 1 (.t 2) (.c (.one (.sc (.int .i64 1)))), (some (some 52, false))⟩,
  ⟨(some 56), .load1 (.t 55), (some (some 52, false))⟩,
  ⟨(some 57), .bin .leq (.t 54) (.t 56), (some (some 52, false))⟩,
  ⟨(some 58), .mv (.t 57), (some (some 52, false))⟩,
  ⟨(some 59), .iadrA 3 1 (.t 2) (.c (.one (.sc (.int .i64 1)))), (some (some 58, true))⟩,
  ⟨(some 60), .load1 (.t 59), (some (some 58, true))⟩,
  ⟨(some 61), .iadrA 3 1 (.t 2) (.c (.one (.sc (.int .i64 2)))), (some (some 58, true))⟩,
  ⟨(some 62), .load1 (.t 61), (some (some 58, true))⟩,
  ⟨(some 63), .bin .leq (.t 60) (.t 62), (some (some 58, true))⟩,
  ⟨(some 64), .pick (.t 58) (.t 63) (.c (.one (.sc (.bool false)))), (some (some 52, false))⟩,
  ⟨(some 65), .mv (.t 64), (some (some 52, false))⟩,
  ⟨(some 66), .fadr 0 (.t 10), (some (some 65, true))⟩,
  ⟨(some 67), .load1 (.t 66), (some (some 65, true))⟩,
  ⟨(some 68), .mv (.t 8), (some (some 65, true))⟩,
  ⟨(some 69), .bin .lss (.t 67) (.t 68), (some (some 65, true))⟩,
  ⟨(some 70), .pick (.t 65) (.t 69) (.c (.one (.sc (.bool false)))), (some (some 52, false))⟩,
  ⟨(some 71), .pick (.t 52) (.c (.one (.sc (.bool true)))) (.t 70), none⟩,
  ⟨(some 72), .mv (.t 71), none⟩,
  ⟨(some 73), .iadrA 3 1 (.t 2) (.c (.one (.sc (.int .i64 0)))), (some (some 72, false))⟩,
  ⟨(some 74), .load1 (.t 73), (some (some 72, false))⟩,
  ⟨(some 75), .iadrA 3 1 (.t 2) (.c (.one (.sc (.int .i64 1)))), (some (some 72, false))⟩,
  ⟨(some 76), .load1 (.t 75), (some (some 72, false))⟩,
  ⟨(some 77), .bin .geq (.t 74) (.t 76), (some (some 72, false))⟩,
  ⟨(some 78), .mv (.t 77), (some (some 72, false))⟩,
  ⟨(some 79), .iadrA 3 1 (.t 2) (.c (.one (.sc (.int .i64 1)))), (some (some 78, true))⟩,
  ⟨(some 80), .load1 (.t 79), (some (some 78, true))⟩,
  ⟨(some 81), .iadrA 3 1 (.t 2) (.c (.one (.sc (.int .i64 2)))), (some (some 78, true))⟩,
  ⟨(some 82), .load1 (.t 81), (some (some 78, true))⟩,
  ⟨(some 83), .bin .geq (.t 80) (.t 82), (some (some 78, true))⟩,
  ⟨(some 84), .pick (.t 78) (.t 83) (.c (.one (.sc (.bool false)))), (some (some 72, false))⟩,
  ⟨(some 85), .mv (.t 84), (some (some 72, false))⟩,
  ⟨(some 86), .fadr 0 (.t 10), (some (some 85, true))⟩,
  ⟨(some 87), .load1 (.t 86), (some (some 85, true))⟩,
  ⟨(some 88), .mv (.t 8), (some (some 85, true))⟩,
  ⟨(some 89), .bin .gtr (.t 87) (.t 88), (some (some 85, true))⟩,
  ⟨(some 90), .pick (.t 85) (.t 89) (.c (.one (.sc (.bool false)))), (some (some 72, false))⟩,
  ⟨(some 91), .pick (.t 72) (.c (.one (.sc (.bool true)))) (.t 90), none⟩]
def r11_12 : List SOper := [
  ⟨(some 4), .mv (.c (.one (.sc (.bool false)))), none⟩]
def r11_13 : List SOper := [
  ⟨(some 92), .fadr 0 (.t 10), none⟩,
  ⟨(some 93), .load1 (.t 92), none⟩,
  ⟨(some 8), .mv (.t 93), none⟩]
def r11_14 : List SOper := [
  ⟨(some 94), .bin .add (.t 45) (.c (.one (.sc (.int .i64 1)))), none⟩,
  ⟨(some 45), .mv (.t 94), none⟩]
def l11_0 : SC := (.seq (.reg r11_9) (.seq (.cond (.t 46) .skip (.exit 0)) (.seq (.block 1 (.seq (.reg r11_10) (.seq (.seq (.reg r11_11) (.cond (.t 91) (.seq (.reg r11_12) .ret) .skip)) (.reg r11_13)))) (.reg r11_14))))
def r11_15 : List SOper := [
  ⟨(some 95), .call (.z 0) 37 [], none⟩,
  ⟨(some 4), .mv (.t 95), none⟩]
def c11 : SC := (.seq (.reg r11_0) (.seq (.reg r11_1) (.seq (.seq (.reg r11_2) (.cond (.t 31) (.seq (.reg r11_3) .ret) .skip)) (.seq (.reg r11_4) (.seq (.seq (.reg r11_5) (.cond (.t 40) (.seq (.reg r11_6) .ret) .skip)) (.seq (.reg r11_7) (.seq (.seq (.reg r11_8) (.block 0 (.loop l11_0))) (.seq (.reg r11_15) .ret))))))))
/-- limner/limnerlaw05.CurveLines -/
def F11 : SFun := ⟨96, c11, [.tmp 4]⟩

def r12_0 : List SOper := [
  ⟨(some 2), .mv (.c (.one (.sc (.bool false)))), none⟩]
def r12_1 : List SOper := [
  ⟨(some 11), .mv (.t 0), none⟩,
  ⟨(some 12), .len (.t 11), none⟩,
  ⟨(some 13), .bin .gtr (.t 12) (.c (.one (.sc (.int .i64 100)))), none⟩]
def r12_2 : List SOper := [
  ⟨(some 14), .call (.z 0) 37 [], none⟩,
  ⟨(some 2), .mv (.t 14), none⟩]
def r12_3 : List SOper := [
  ⟨(some 15), .mv (.t 0), none⟩,
  ⟨(some 16), .call .k 42 [(.t 15)], none⟩,
  ⟨(some 3), .mv (.t 16), none⟩]
def r12_4 : List SOper := [
  ⟨(some 18), .mv (.t 0), none⟩,
  ⟨(some 19), .call .k 45 [(.t 18)], none⟩,
  ⟨(some 17), .mv (.t 19), none⟩,
  ⟨(some 20), .ext (.t 17) 0, none⟩,
  ⟨(some 21), .ext (.t 17) 1, none⟩,
  ⟨(some 22), .ext (.t 17) 2, none⟩,
  ⟨(some 4), .mv (.t 20), none⟩,
  ⟨(some 5), .mv (.t 21), none⟩,
  ⟨(some 6), .mv (.t 22), none⟩]
def r12_5 : List SOper := [
  ⟨(some 23), .mv (.t 0), none⟩,
  ⟨(some 24), .mv (.t 3), none⟩,
  ⟨(some 25), .call .q 40 [(.t 23), (.t 24)], none⟩,
  ⟨(some 26), .un .not (.t 25), none⟩]
def r12_6 : List SOper := [
  ⟨(some 2), .mv (.c (.one (.sc (.bool false)))), none⟩]
def r12_7 : List SOper := [
  ⟨(some 27), .mv (.t 0), none⟩,
  ⟨(some 28), .call .q 39 [(.t 27)], none⟩,
  ⟨(some 29), .un .not (.t 28), none⟩]
def r12_8 : List SOper := [
  ⟨(some 30), .mv (.t 6), none⟩,
  ⟨(some 31), .bin .eql (.t 30) (.c (.one (.sc (.int .i64 30)))), none⟩,
  ⟨(some 32), .mv (.t 31), none⟩,
  ⟨(some 33), .mv (.t 4), (some (some 32, true))⟩,
  ⟨(some 34), .len (.t 33), (some (some 32, true))⟩,
  ⟨(some 35), .bin .eql (.t 34) (.c (.one (.sc (.int .i64 0)))), (some (some 32, true))⟩,
  ⟨(some 36), .pick (.t 32) (.t 35) (.c (.one (.sc (.bool false)))), none⟩,
  ⟨(some 37), .mv (.t 36), none⟩,
  ⟨(some 38), .mv (.t 5), (some (some 37, true))⟩,
  ⟨(some 39), .len (.t 38), (some (some 37, true))⟩,
  ⟨(some 40), .bin .eql (.t 39) (.c (.one (.sc (.int .i64 0)))), (some (some 37, true))⟩,
  ⟨(some 41), .pick (.t 37) (.t 40) (.c (.one (.sc (.bool false)))), none⟩,
  ⟨(some 42), .mv (.t 41), none⟩,
  ⟨(some 43), .call (.z 0) 37 [], (some (some 42, true))⟩,
  ⟨(some 44), .pick (.t 42) (.t 43) (.c (.one (.sc (.bool false)))), none⟩,
  ⟨(some 2), .mv (.t 44), none⟩]
def r12_9 : List SOper := [
  ⟨(some 46), .mv (.t 3), none⟩,
  ⟨(some 47), .call .k 46 [(.t 46)], none⟩,
  ⟨(some 45), .mv (.t 47), none⟩,
  ⟨(some 48), .ext (.t 45) 0, none⟩,
  ⟨(some 49), .ext (.t 45) 1, none⟩,
  ⟨(some 7), .mv (.t 48), none⟩,
  ⟨(some 8), .mv (.t 49), none⟩]
def r12_10 : List SOper := [
  ⟨(some 50), .mv (.t 0), none⟩,
  ⟨(some 51), .iadrS 2 (.t 50) (.c (.one (.sc (.int .i64 0)))), none⟩,
  ⟨(some 52), .loadA 2 (.t 51), none⟩,
  ⟨(some 53), .mv (.t 0), none⟩,
  ⟨(some 54), .iadrS 2 (.t 53) (.c (.one (.sc (.int .i64 1)))), none⟩,
  ⟨(some 55), .loadA 2 (.t 54), none⟩,
  ⟨(some 56), .call (.z 0) 47 [(.t 52), (.t 55)], none⟩,
  ⟨(some 9), .alloc [.sc (.int .i64 0), .sc (.int .i64 0)], none⟩,
  ⟨none, .store 2 (.t 9) (.t 56), none⟩]
def r12_11 : List SOper := [
  ⟨(some 57), .mv (.t 3), none⟩,
  ⟨(some 58), .iadrS 2 (.t 57) (.c (.one (.sc (.int .i64 0)))), none⟩,
  ⟨(some 59), .loadA 2 (.t 58), none⟩,
  ⟨(some 60), .mv (.t 3), none⟩,
  ⟨(some 61), .iadrS 2 (.t 60) (.c (.one (.sc (.int .i64 1)))), none⟩,
  ⟨(some 62), .loadA 2 (.t 61), none⟩,
  ⟨(some 63), .call (.z 0) 48 [(.t 59), (.t 62)], none⟩,
  ⟨(some 10), .alloc [.sc (.int .i64 0), .sc (.int .i64 0)], none⟩,
  ⟨none, .store 2 (.t 10) (.t 63), none⟩]
def r12_12 : List SOper := [
  ⟨(some 64), .mv (.t 6), none⟩,
  ⟨(some 65), .bin .eql (.t 64) (.c (.one (.sc (.int .i64 0)))), none⟩,
  ⟨(some 66), .mv (.t 65), none⟩,
  ⟨(some 67), .mv (.t 4), (some (some 66, true))⟩,
  ⟨(some 68), .mv (.t 7), (some (some 66, true))⟩,
  ⟨(some 69), .call .q 40 [(.t 67), (.t 68)], (some (some 66, true))⟩,
  ⟨(some 70), .pick (.t 66) (.t 69) (.c (.one (.sc (.bool false)))), none⟩,
  ⟨(some 71), .mv (.t 70), none⟩,
  ⟨(some 72), .mv (.t 5), (some (some 71, true))⟩,
  ⟨(some 73), .mv (.t 8), (some (some 71, true))⟩,
  ⟨(some 74), .call .q 40 [(.t 72), (.t 73)], (some (some 71, true))⟩,
  ⟨(some 75), .pick (.t 71) (.t 74) (.c (.one (.sc (.bool false)))), none⟩,
  ⟨(some 76), .mv (.t 75), none⟩,
  ⟨(some 77), .fadr 0 (.t 9), (some (some 76, true))⟩,
  ⟨(some 78), .load1 (.t 77), (some (some 76, true))⟩,
  ⟨(some 79), .fadr 0 (.t 10), (some (some 76, true))⟩,
  ⟨(some 80), .load1 (.t 79), (some (some 76, true))⟩,
  ⟨(some 81), .bin .eql (.t 78) (.t 80), (some (some 76, true))⟩,
  ⟨(some 82), .pick (.t 76) (.t 81) (.c (.one (.sc (.bool false)))), none⟩,
  ⟨(some 83), .mv (.t 82), none⟩,
  ⟨(some 84), .fadr 1 (.t 9), (some (some 83, true))⟩,
  ⟨(some 85), .load1 (.t 84), (some (some 83, true))⟩,
  ⟨(some 86), .fadr 1 (.t 10), (some (some 83, true))⟩,
  ⟨(some 87), .load1 (.t 86), (some (some 83, true))⟩,
  ⟨(some 88), .bin .eql (.t 85) (.t 87), (some (some 83, true))⟩,
  ⟨(some 89), .pick (.t 83) (.t 88) (.c (.one (.sc (.bool false)))), none⟩,
  ⟨(some 90), .mv (.t 89), none⟩,
  ⟨(some 91), .mv (.t 4), (some (some 90, true))⟩,
  ⟨(some 92), .mv (.t 4), (some (some 90, true))⟩,
  ⟨(some 93), .len (.t 92), (some (some 90, true))⟩,
  ⟨(some 94), .bin .sub (.t 93) (.c (.one (.sc (.int .i64 1)))), (some (some 90, true))⟩,
  ⟨(some 95), .iadrS 2 (.t 91) (.t 94), (some (some 90, true))⟩,
  ⟨(some 96), .loadA 2 (.t 95), (some (some 90, true))⟩,
  ⟨(some 97), .mv (.t 5), (some (some 90, true))⟩,
  ⟨(some 98), .iadrS 2 (.t 97) (.c (.one (.sc (.int .i64 0)))), (some (some 90, true))⟩,
  ⟨(some 99), .loadA 2 (.t 98), (some (some 90, true))⟩,
  ⟨(some 100), .eqv [.i, .i] false (.t 96) (.t 99), (some (some 90, true))⟩,
  ⟨(some 101), .pick (.t 90) (.t 100) (.c (.one (.sc (.bool false)))), none⟩,
  ⟨(some 102), .mv (.t 101), none⟩,
  ⟨(some 103), .call (.z 0) 37 [], (some (some 102, true))⟩,
  ⟨(some 104), .pick (.t 102) (.t 103) (.c (.one (.sc (.bool false)))), none⟩,
  ⟨(some 2), .mv (.t 104), none⟩]
def c12 : SC := (.seq (.reg r12_0) (.seq (.seq (.reg r12_1) (.cond (.t 13) (.seq (.reg r12_2) .ret) .skip)) (.seq (.reg r12_3) (.seq (.reg r12_4) (.seq (.seq (.reg r12_5) (.cond (.t 26) (.seq (.reg r12_6) .ret) .skip)) (.seq (.seq (.reg r12_7) (.cond (.t 29) (.seq (.reg r12_8) .ret) .skip)) (.seq (.reg r12_9) (.seq (.reg r12_10) (.seq (.reg r12_11) (.seq (.reg r12_12) .ret))))))))))
/-- limner/limnerlaw05.CurveHalves -/
def F12 : SFun := ⟨105, c12, [.tmp 2]⟩

def r13_0 : List SOper := [
  ⟨(some 4), .mv (.c (.one (.sc (.bool false)))), none⟩]
def r13_1 : List SOper := [
  ⟨(some 19), .mv (.t 0), none⟩,
  ⟨(some 20), .call .q 39 [(.t 19)], none⟩,
  ⟨(some 21), .un .not (.t 20), none⟩,
  ⟨(some 22), .mv (.t 21), none⟩,
  ⟨(some 23), .mv (.t 1), (some (some 22, false))⟩,
  ⟨(some 24), .bin .lss (.t 23) (.c (.one (.sc (.int .i64 1)))), (some (some 22, false))⟩,
  ⟨(some 25), .pick (.t 22) (.c (.one (.sc (.bool true)))) (.t 24), none⟩,
  ⟨(some 26), .mv (.t 25), none⟩,
  ⟨(some 27), .mv (.t 1), (some (some 26, false))⟩,
  ⟨(some 28), .bin .gtr (.t 27) (.c (.one (.sc (.int .i64 6)))), (some (some 26, false))⟩,
  ⟨(some 29), .pick (.t 26) (.c (.one (.sc (.bool true)))) (.t 28), none⟩]
def r13_2 : List SOper := [
  ⟨(some 30), .call (.z 0) 37 [], none⟩,
  ⟨(some 4), .mv (.t 30), none⟩]
def r13_3 : List SOper := [
  ⟨(some 32), .mv (.t 0), none⟩,
  ⟨(some 33), .mv (.t 1), none⟩,
  ⟨(some 34), .call .k 38 [(.t 32), (.t 33)], none⟩,
  ⟨(some 31), .mv (.t 34), none⟩,
  ⟨(some 35), .ext (.t 31) 0, none⟩,
  ⟨(some 36), .ext (.t 31) 1, none⟩,
  ⟨(some 5), .mv (.t 35), none⟩,
  ⟨(some 6), .mv (.t 36), none⟩]
def r13_4 : List SOper := [
  ⟨(some 38), .mv (.t 0), none⟩,
  ⟨(some 39), .call .k 45 [(.t 38)], none⟩,
  ⟨(some 37), .mv (.t 39), none⟩,
  ⟨(some 40), .ext (.t 37) 0, none⟩,
  ⟨(some 41), .ext (.t 37) 1, none⟩,
  ⟨(some 42), .ext (.t 37) 2, none⟩,
  ⟨(some 7), .mv (.t 40), none⟩,
  ⟨(some 8), .mv (.t 41), none⟩,
  ⟨(some 9), .mv (.t 42), none⟩]
def r13_5 : List SOper := [
  ⟨(some 44), .mv (.t 7), none⟩,
  ⟨(some 45), .mv (.t 1), none⟩,
  ⟨(some 46), .bin .sub (.t 45) (.c (.one (.sc (.int .i64 1)))), none⟩,
  ⟨(some 47), .call .k 38 [(.t 44), (.t 46)], none⟩,
  ⟨(some 43), .mv (.t 47), none⟩,
  ⟨(some 48), .ext (.t 43) 0, none⟩,
  ⟨(some 49), .ext (.t 43) 1, none⟩,
  ⟨(some 10), .mv (.t 48), none⟩,
  ⟨(some 11), .mv (.t 49), none⟩]
def r13_6 : List SOper := [
  ⟨(some 51), .mv (.t 8), none⟩,
  ⟨(some 52), .mv (.t 1), none⟩,
  ⟨(some 53), .bin .sub (.t 52) (.c (.one (.sc (.int .i64 1)))), none⟩,
  ⟨(some 54), .call .k 38 [(.t 51), (.t 53)], none⟩,
  ⟨(some 50), .mv (.t 54), none⟩,
  ⟨(some 55), .ext (.t 50) 0, none⟩,
  ⟨(some 56), .ext (.t 50) 1, none⟩,
  ⟨(some 12), .mv (.t 55), none⟩,
  ⟨(some 13), .mv (.t 56), none⟩]
def r13_7 : List SOper := [
  ⟨(some 57), .bslice [] 0 2 [], none⟩,
  ⟨(some 58), .mv (.t 10), none⟩,
  ⟨(some 59), .app 2 16 (.t 57) (.t 58), none⟩,
  ⟨(some 60), .mv (.t 12), none⟩,
  ⟨(some 61), .app 2 16 (.t 59) (.t 60), none⟩,
  ⟨(some 14), .mv (.t 61), none⟩]
def r13_8 : List SOper := [
  ⟨(some 62), .mv (.t 11), none⟩,
  ⟨(some 63), .bin .neq (.t 62) (.c (.one (.sc (.int .i64 0)))), none⟩,
  ⟨(some 64), .mv (.t 63), none⟩,
  ⟨(some 65), .mv (.t 13), (some (some 64, false))⟩,
  ⟨(some 66), .bin .neq (.t 65) (.c (.one (.sc (.int .i64 0)))), (some (some 64, false))⟩,
  ⟨(some 67), .pick (.t 64) (.c (.one (.sc (.bool true)))) (.t 66), none⟩,
  ⟨(some 68), .mv (.t 67), none⟩,
  ⟨(some 69), .mv (.t 5), (some (some 68, false))⟩,
  ⟨(some 70), .mv (.t 14), (some (some 68, false))⟩,
  ⟨(some 71), .call .k 42 [(.t 70)], (some (some 68, false))⟩,
  ⟨(some 72), .call .q 40 [(.t 69), (.t 71)], (some (some 68, false))⟩,
  ⟨(some 73), .un .not (.t 72), (some (some 68, false))⟩,
  ⟨(some 74), .pick (.t 68) (.c (.one (.sc (.bool true)))) (.t 73), none⟩]
def r13_9 : List SOper := [
  ⟨(some 4), .mv (.c (.one (.sc (.bool false)))), none⟩]
def r13_10 : List SOper := [
  ⟨(some 76), .mv (.t 0), none⟩,
  ⟨(some 77), .iadrS 2 (.t 76) (.c (.one (.sc (.int .i64 0)))), none⟩,
  ⟨(some 78), .loadA 2 (.t 77), none⟩,
  ⟨(some 79), .mv (.t 0), none⟩,
  ⟨(some 80), .iadrS 2 (.t 79) (.c (.one (.sc (.int .i64 0)))), none⟩,
  ⟨(some 81), .loadA 2 (.t 80), none⟩,
  ⟨(some 82), .mv (.t 0), none⟩,
  ⟨(some 83), .iadrS 2 (.t 82) (.c (.one (.sc (.int .i64 0)))), none⟩,
  ⟨(some 84), .loadA 2 (.t 83), none⟩,
  ⟨(some 85), .bslice [.sc (.int .i64 0), .sc (.int .i64 0), .sc (.int .i64 0), .sc (.int .i64 0), .sc (.int .i64 0), .sc (.int .i64 0)] 3 2 [(0, 2, (.t 78)), (2, 2, (.t 81)), (4, 2, (.t 84))], none⟩,
  ⟨(some 86), .mv (.t 1), none⟩,
  ⟨(some 87), .call .k 38 [(.t 85), (.t 86)], none⟩,
  ⟨(some 75), .mv (.t 87), none⟩,
  ⟨(some 88), .ext (.t 75) 0, none⟩,
  ⟨(some 89), .ext (.t 75) 1, none⟩,
  ⟨(some 15), .mv (.t 88), none⟩,
  ⟨(some 16), .mv (.t 89), none⟩]
def r13_11 : List SOper := [
  ⟨(some 90), .mv (.t 15), none⟩,
  ⟨(some 91), .len (.t 90), none⟩,
  ⟨(some 92), .mv (.c (.one (.sc (.int .i64 0)))), none⟩]
def r13_12 : List SOper := [
  ⟨(some 93), .bin .lss (.t 92) (.t 91), none⟩]
def r13_13 : List SOper := [
  ⟨(some 94), .iadrS 2 (.t 90) (.t 92), none⟩,
  ⟨(some 95), .loadA 2 (.t 94), none⟩,
  ⟨(some 18), .alloc [.sc (.int .i64 0), .sc (.int .i64 0)], none⟩,
  ⟨none, .store 2 (.t 18) (.t 95), none⟩]
def r13_14 : List SOper := [
  ⟨(some 96), .loadA 2 (.t 18), none⟩,
  ⟨(some 97), .mv (.t 0), none⟩,
  ⟨(some 98), .iadrS 2 (.t 97) (.c (.one (.sc (.int .i64 0)))), none⟩,
  ⟨(some 99), .loadA 2 (.t 98), none⟩,
  ⟨(some 100), .eqv [.i, .i] true (.t 96) (.t 99), none⟩]
def r13_15 : List SOper := [
  ⟨(some 4), .mv (.c (.one (.sc (.bool false)))), none⟩]
def r13_16 : List SOper := [
  ⟨(some 101), .bin .add (.t 92) (.c (.one (.sc (.int .i64 1)))), none⟩,
  ⟨(some 92), .mv (.t 101), none⟩]
def l13_0 : SC := (.seq (.reg r13_12) (.seq (.cond (.t 93) .skip (.exit 0)) (.seq (.block 1 (.seq (.reg r13_13) (.seq (.reg r13_14) (.cond (.t 100) (.seq (.reg r13_15) .ret) .skip)))) (.reg r13_16))))
def r13_17 : List SOper := [
  ⟨(some 102), .mv (.t 16), none⟩,
  ⟨(some 103), .bin .eql (.t 102) (.c (.one (.sc (.int .i64 0)))), none⟩,
  ⟨(some 104), .mv (.t 103), none⟩,
  ⟨(some 105), .mv (.t 15), (some (some 104, true))⟩,
  ⟨(some 106), .len (.t 105), (some (some 104, true))⟩,
  ⟨(some 107), .mv (.t 1), (some (some 104, true))⟩,
  ⟨(some 108), .bin .shl (.c (.one (.sc (.int .i64 1)))) (.t 107), (some (some 104, true))⟩,
  ⟨(some 109), .bin .eql (.t 106) (.t 108), (some (some 104, true))⟩,
  ⟨(some 110), .pick (.t 104) (.t 109) (.c (.one (.sc (.bool false)))), none⟩,
  ⟨(some 111), .mv (.t 110), none⟩,
  ⟨(some 112), .call (.z 0) 37 [], (some (some 111, true))⟩,
  ⟨(some 113), .pick (.t 111) (.t 112) (.c (.one (.sc (.bool false)))), none⟩,
  ⟨(some 4), .mv (.t 113), none⟩]
def c13 : SC := (.seq (.reg r13_0) (.seq (.seq (.reg r13_1) (.cond (.t 29) (.seq (.reg r13_2) .ret) .skip)) (.seq (.reg r13_3) (.seq (.reg r13_4) (.seq (.reg r13_5) (.seq (.reg r13_6) (.seq (.reg r13_7) (.seq (.seq (.reg r13_8) (.cond (.t 74) (.seq (.reg r13_9) .ret) .skip)) (.seq (.reg r13_10) (.seq (.seq (.reg r13_11) (.block 0 (.loop l13_0))) (.seq (.reg r13_17) .ret)))))))))))
/-- limner/limnerlaw05.CurveParts -/
def F13 : SFun := ⟨114, c13, [.tmp 4]⟩

def r14_0 : List SOper := [
  ⟨(some 4), .mv (.c (.one (.sc (.bool false)))), none⟩]
def r14_1 : List SOper := [
  ⟨(some 13), .mv (.t 0), none⟩,
  ⟨(some 14), .call .q 39 [(.t 13)], none⟩,
  ⟨(some 15), .un .not (.t 14), none⟩,
  ⟨(some 16), .mv (.t 15), none⟩,
  ⟨(some 17), .mv (.t 1), (some (some 16, false))⟩,
  ⟨(some 18), .bin .lss (.t 17) (.c (.one (.sc (.int .i64 0)))), (some (some 16, false))⟩,
  ⟨(some 19), .pick (.t 16) (.c (.one (.sc (.bool true)))) (.t 18), none⟩,
  ⟨(some 20), .mv (.t 19), none⟩,
  ⟨(some 21), .mv (.t 1), (some (some 20, false))⟩,
  ⟨(some 22), .bin .gtr (.t 21) (.c (.one (.sc (.int .i64 6)))), (some (some 20, false))⟩,
  ⟨(some 23), .pick (.t 20) (.c (.one (.sc (.bool true)))) (.t 22), none⟩]
def r14_2 : List SOper := [
  ⟨(some 24), .call (.z 0) 37 [], none⟩,
  ⟨(some 4), .mv (.t 24), none⟩]
def r14_3 : List SOper := [
  ⟨(some 25), .mv (.t 0), none⟩,
  ⟨(some 26), .call .q 49 [(.t 25)], none⟩,
  ⟨(some 5), .alloc [.sc (.int .i64 0), .sc (.int .i64 0), .sc (.int .i64 0), .sc (.int .i64 0)], none⟩,
  ⟨none, .store 4 (.t 5) (.t 26), none⟩]
def r14_4 : List SOper := [
  ⟨(some 27), .loadA 4 (.t 5), none⟩,
  ⟨(some 28), .mv (.t 0), none⟩,
  ⟨(some 29), .call .q 31 [(.t 28)], none⟩,
  ⟨(some 30), .eqv [.i, .i, .i, .i] true (.t 27) (.t 29), none⟩]
def r14_5 : List SOper := [
  ⟨(some 4), .mv (.c (.one (.sc (.bool false)))), none⟩]
def r14_6 : List SOper := [
  ⟨(some 32), .mv (.t 0), none⟩,
  ⟨(some 33), .mv (.t 1), none⟩,
  ⟨(some 34), .call .k 38 [(.t 32), (.t 33)], none⟩,
  ⟨(some 31), .mv (.t 34), none⟩,
  ⟨(some 35), .ext (.t 31) 0, none⟩,
  ⟨(some 36), .ext (.t 31) 1, none⟩,
  ⟨(some 6), .mv (.t 35), none⟩,
  ⟨(some 7), .mv (.t 36), none⟩]
def r14_7 : List SOper := [
  ⟨(some 38), .mv (.t 0), none⟩,
  ⟨(some 39), .call .k 45 [(.t 38)], none⟩,
  ⟨(some 37), .mv (.t 39), none⟩,
  ⟨(some 40), .ext (.t 37) 0, none⟩,
  ⟨(some 41), .ext (.t 37) 1, none⟩,
  ⟨(some 42), .ext (.t 37) 2, none⟩,
  ⟨(some 8), .mv (.t 40), none⟩,
  ⟨(some 9), .mv (.t 41), none⟩,
  ⟨(some 10), .mv (.t 42), none⟩]
def r14_8 : List SOper := [
  ⟨(some 43), .mv (.t 6), none⟩,
  ⟨(some 44), .mv (.t 8), none⟩,
  ⟨(some 45), .app 2 16 (.t 43) (.t 44), none⟩,
  ⟨(some 46), .mv (.t 9), none⟩,
  ⟨(some 47), .app 2 16 (.t 45) (.t 46), none⟩,
  ⟨(some 48), .len (.t 47), none⟩,
  ⟨(some 49), .mv (.c (.one (.sc (.int .i64 0)))), none⟩]
def r14_9 : List SOper := [
  ⟨(some 50), .bin .lss (.t 49) (.t 48), none⟩]
def r14_10 : List SOper := [
  ⟨(some 51), .iadrS 2 (.t 47) (.t 49), none⟩,
  ⟨(some 52), .loadA 2 (.t 51), none⟩,
  ⟨(some 12), .alloc [.sc (.int .i64 0), .sc (.int .i64 0)], none⟩,
  ⟨none, .store 2 (.t 12) (.t 52), none⟩]
def r14_11 : List SOper := [
  ⟨(some 53), .loadA 4 (.t 5), none⟩,
  ⟨(some 54), .loadA 2 (.t 12), none⟩,
  ⟨(some 55), .call (.z 0) 32 [(.t 53), (.t 54)], none⟩,
  ⟨(some 56), .un .not (.t 55), none⟩]
def r14_12 : List SOper := [
  ⟨(some 4), .mv (.c (.one (.sc (.bool false)))), none⟩]
def r14_13 : List SOper := [
  ⟨(some 57), .bin .add (.t 49) (.c (.one (.sc (.int .i64 1)))), none⟩,
  ⟨(some 49), .mv (.t 57), none⟩]
def l14_0 : SC := (.seq (.reg r14_9) (.seq (.cond (.t 50) .skip (.exit 0)) (.seq (.block 1 (.seq (.reg r14_10) (.seq (.reg r14_11) (.cond (.t 56) (.seq (.reg r14_12) .ret) .skip)))) (.reg r14_13))))
def r14_14 : List SOper := [
  ⟨(some 58), .mv (.t 6), none⟩,
  ⟨(some 59), .len (.t 58), none⟩,
  ⟨(some 60), .mv (.t 1), none⟩,
  ⟨(some 61), .bin .shl (.c (.one (.sc (.int .i64 1)))) (.t 60), none⟩,
  ⟨(some 62), .bin .eql (.t 59) (.t 61), none⟩,
  ⟨(some 63), .mv (.t 62), none⟩,
  ⟨(some 64), .call (.z 0) 37 [], (some (some 63, true))⟩,
  ⟨(some 65), .pick (.t 63) (.t 64) (.c (.one (.sc (.bool false)))), none⟩,
  ⟨(some 4), .mv (.t 65), none⟩]
def c14 : SC := (.seq (.reg r14_0) (.seq (.seq (.reg r14_1) (.cond (.t 23) (.seq (.reg r14_2) .ret) .skip)) (.seq (.reg r14_3) (.seq (.seq (.reg r14_4) (.cond (.t 30) (.seq (.reg r14_5) .ret) .skip)) (.seq (.reg r14_6) (.seq (.reg r14_7) (.seq (.seq (.reg r14_8) (.block 0 (.loop l14_0))) (.seq (.reg r14_14) .ret))))))))
/-- limner/limnerlaw05.CurveBounds -/
def F14 : SFun := ⟨66, c14, [.tmp 4]⟩

def r15_0 : List SOper := [
  ⟨(some 2), .box (.t 0), none⟩,
  ⟨(some 3), .box (.t 1), none⟩,
  ⟨(some 4), .alloc [.sc (.int .i64 0), .sc (.int .i64 0)], none⟩,
  ⟨(some 5), .mv (.c (.one (.sc (.int .i64 0)))), none⟩]
def r15_1 : List SOper := [
  ⟨(some 7), .loadA 6 (.t 2), none⟩,
  ⟨(some 8), .call (.z 0) 18 [(.t 7)], none⟩,
  ⟨(some 9), .un .not (.t 8), none⟩,
  ⟨(some 10), .mv (.t 9), none⟩,
  ⟨(some 11), .loadA 2 (.t 3), (some (some 10, false))⟩,
  ⟨(some 12), .call (.z 0) 50 [(.t 11)], (some (some 10, false))⟩,
  ⟨(some 13), .un .not (.t 12), (some (some 10, false))⟩,
  ⟨(some 14), .pick (.t 10) (.c (.one (.sc (.bool true)))) (.t 13), none⟩]
def r15_2 : List SOper := [
  ⟨(some 15), .build [.sc (.int .i64 0), .sc (.int .i64 0)] [], none⟩,
  ⟨none, .store 2 (.t 4) (.t 15), none⟩,
  ⟨(some 5), .mv (.c (.one (.sc (.int .i64 10)))), none⟩]
def r15_3 : List SOper := [
  ⟨(some 16), .fadr 0 (.t 2), none⟩,
  ⟨(some 17), .load1 (.t 16), none⟩,
  ⟨(some 18), .fadr 0 (.t 3), none⟩,
  ⟨(some 19), .load1 (.t 18), none⟩,
  ⟨(some 20), .fadr 2 (.t 2), none⟩,
  ⟨(some 21), .load1 (.t 20), none⟩,
  ⟨(some 22), .fadr 1 (.t 3), none⟩,
  ⟨(some 23), .load1 (.t 22), none⟩,
  ⟨(some 24), .call (.z 0) 51 [(.t 17), (.t 19), (.t 21), (.t 23)], none⟩,
  ⟨(some 25), .fadr 4 (.t 2), none⟩,
  ⟨(some 26), .load1 (.t 25), none⟩,
  ⟨(some 27), .bin .add (.t 24) (.t 26), none⟩,
  ⟨(some 28), .fadr 1 (.t 2), none⟩,
  ⟨(some 29), .load1 (.t 28), none⟩,
  ⟨(some 30), .fadr 0 (.t 3), none⟩,
  ⟨(some 31), .load1 (.t 30), none⟩,
  ⟨(some 32), .fadr 3 (.t 2), none⟩,
  ⟨(some 33), .load1 (.t 32), none⟩,
  ⟨(some 34), .fadr 1 (.t 3), none⟩,
  ⟨(some 35), .load1 (.t 34), none⟩,
  ⟨(some 36), .call (.z 0) 51 [(.t 29), (.t 31), (.t 33), (.t 35)], none⟩,
  ⟨(some 37), .fadr 5 (.t 2), none⟩,
  ⟨(some 38), .load1 (.t 37), none⟩,
  ⟨(some 39), .bin .add (.t 36) (.t 38), none⟩,
  ⟨(some 40), .build [.sc (.int .i64 0), .sc (.int .i64 0)] [(0, 1, (.t 27)), (1, 1, (.t 39))], none⟩,
  ⟨(some 6), .alloc [.sc (.int .i64 0), .sc (.int .i64 0)], none⟩,
  ⟨none, .store 2 (.t 6) (.t 40), none⟩]
def r15_4 : List SOper := [
  ⟨(some 41), .loadA 2 (.t 6), none⟩,
  ⟨(some 42), .call (.z 0) 50 [(.t 41)], none⟩,
  ⟨(some 43), .un .not (.t 42), none⟩]
def r15_5 : List SOper := [
  ⟨(some 44), .build [.sc (.int .i64 0), .sc (.int .i64 0)] [], none⟩,
  ⟨none, .store 2 (.t 4) (.t 44), none⟩,
  ⟨(some 5), .mv (.c (.one (.sc (.int .i64 10)))), none⟩]
def r15_6 : List SOper := [
  ⟨(some 45), .loadA 2 (.t 6), none⟩,
  ⟨none, .store 2 (.t 4) (.t 45), none⟩,
  ⟨(some 5), .mv (.c (.one (.sc (.int .i64 0)))), none⟩]
def c15 : SC := (.seq (.reg r15_0) (.seq (.seq (.reg r15_1) (.cond (.t 14) (.seq (.reg r15_2) .ret) .skip)) (.seq (.reg r15_3) (.seq (.seq (.reg r15_4) (.cond (.t 43) (.seq (.reg r15_5) .ret) .skip)) (.seq (.reg r15_6) .ret)))))
/-- (limner/affine.Matrix).Apply -/
def F15 : SFun := ⟨46, c15, [.cellA 4 2, .tmp 5]⟩

def r16_0 : List SOper := [
  ⟨(some 1), .box (.t 0), none⟩,
  ⟨(some 2), .mv (.c (.one (.sc (.bool false)))), none⟩]
def r16_1 : List SOper := [
  ⟨(some 3), .mv (.c (.one (.sc (.int .i64 0)))), none⟩]
def r16_2 : List SOper := [
  ⟨(some 4), .mv (.t 3), none⟩,
  ⟨(some 5), .bin .lss (.t 4) (.c (.one (.sc (.int .i64 4)))), none⟩]
def r16_4 : List SOper := [
  ⟨(some 8), .mv (.t 3), none⟩,
  ⟨(some 9), .iadrA 6 1 (.t 1) (.t 8), none⟩,
  ⟨(some 10), .load1 (.t 9), none⟩,
  ⟨(some 11), .bin .lss (.t 10) (.c (.one (.sc (.int .i64 (-16777216))))), none⟩,
  ⟨(some 12), .mv (.t 11), none⟩,
  ⟨(some 13), .mv (.t 3), (some (some 12, false))⟩,
  ⟨(some 14), .iadrA 6 1 (.t 1) (.t 13), (some (some 12, false))⟩,
  ⟨(some 15), .load1 (.t 14), (some (some 12, false))⟩,
  ⟨(some 16), .bin .gtr (.t 15) (.c (.one (.sc (.int .i64 16777216)))), (some (some 12, false))⟩,
  ⟨(some 17), .pick (.t 12) (.c (.one (.sc (.bool true)))) (.t 16), none⟩]
def r16_5 : List SOper := [
  ⟨(some 2), .mv (.c (.one (.sc (.bool false)))), none⟩]
def r16_3 : List SOper := [
  ⟨(some 6), .mv (.t 3), none⟩,
  ⟨(some 7), .bin .add (.t 6) (.c (.one (.sc (.int .i64 1)))), none⟩,
  ⟨(some 3), .mv (.t 7), none⟩]
def l16_0 : SC := (.seq (.seq (.reg r16_2) (.cond (.t 5) .skip (.exit 0))) (.seq (.block 1 (.seq (.reg r16_4) (.cond (.t 17) (.seq (.reg r16_5) .ret) .skip))) (.reg r16_3)))
def r16_6 : List SOper := [
  ⟨(some 18), .iadrA 6 1 (.t 1) (.c (.one (.sc (.int .i64 4)))), none⟩,
  ⟨(some 19), .load1 (.t 18), none⟩,
  ⟨(some 20), .call (.z 0) 26 [(.t 19)], none⟩,
  ⟨(some 21), .mv (.t 20), none⟩,
  ⟨(some 22), .iadrA 6 1 (.t 1) (.c (.one (.sc (.int .i64 5)))), (some (some 21, true))⟩,
  ⟨(some 23), .load1 (.t 22), (some (some 21, true))⟩,
  ⟨(some 24), .call (.z 0) 26 [(.t 23)], (some (some 21, true))⟩,
  ⟨(some 25), .pick (.t 21) (.t 24) (.c (.one (.sc (.bool false)))), none⟩,
  ⟨(some 2), .mv (.t 25), none⟩]
def c16 : SC := (.seq (.reg r16_0) (.seq (.seq (.reg r16_1) (.block 0 (.loop l16_0))) (.seq (.reg r16_6) .ret)))
/-- limner/limnerref04.Right -/
def F16 : SFun := ⟨26, c16, [.tmp 2]⟩

def r17_0 : List SOper := [
  ⟨(some 1), .box (.t 0), none⟩,
  ⟨(some 2), .alloc [.sc (.int .i64 0), .sc (.int .i64 0), .sc (.int .i64 0), .sc (.int .i64 0), .sc (.int .i64 0), .sc (.int .i64 0)], none⟩]
def r17_1 : List SOper := [
  ⟨(some 3), .fadr 0 (.t 1), none⟩,
  ⟨(some 4), .load1 (.t 3), none⟩,
  ⟨(some 5), .fadr 1 (.t 1), none⟩,
  ⟨(some 6), .load1 (.t 5), none⟩,
  ⟨(some 7), .fadr 2 (.t 1), none⟩,
  ⟨(some 8), .load1 (.t 7), none⟩,
  ⟨(some 9), .fadr 3 (.t 1), none⟩,
  ⟨(some 10), .load1 (.t 9), none⟩,
  ⟨(some 11), .fadr 4 (.t 1), none⟩,
  ⟨(some 12), .load1 (.t 11), none⟩,
  ⟨(some 13), .fadr 5 (.t 1), none⟩,
  ⟨(some 14), .load1 (.t 13), none⟩,
  ⟨(some 15), .build [.sc (.int .i64 0), .sc (.int .i64 0), .sc (.int .i64 0), .sc (.int .i64 0), .sc (.int .i64 0), .sc (.int .i64 0)] [(0, 1, (.t 4)), (1, 1, (.t 6)), (2, 1, (.t 8)), (3, 1, (.t 10)), (4, 1, (.t 12)), (5, 1, (.t 14))], none⟩,
  ⟨none, .store 6 (.t 2) (.t 15), none⟩]
def c17 : SC := (.seq (.reg r17_0) (.seq (.reg r17_1) .ret))
/-- limner/limnerlaw04.ref -/
def F17 : SFun := ⟨16, c17, [.cellA 2 6]⟩

def r18_0 : List SOper := [
  ⟨(some 1), .box (.t 0), none⟩,
  ⟨(some 2), .mv (.c (.one (.sc (.bool false)))), none⟩]
def r18_1 : List SOper := [
  ⟨(some 5), .fadr 0 (.t 1), none⟩,
  ⟨(some 6), .load1 (.t 5), none⟩,
  ⟨(some 7), .fadr 1 (.t 1), none⟩,
  ⟨(some 8), .load1 (.t 7), none⟩,
  ⟨(some 9), .fadr 2 (.t 1), none⟩,
  ⟨(some 10), .load1 (.t 9), none⟩,
  ⟨(some 11), .fadr 3 (.t 1), none⟩,
  ⟨(some 12), .load1 (.t 11), none⟩,
  ⟨(some 13), .build [.sc (.int .i64 0), .sc (.int .i64 0), .sc (.int .i64 0), .sc (.int .i64 0)] [(0, 1, (.t 6)), (1, 1, (.t 8)), (2, 1, (.t 10)), (3, 1, (.t 12))], none⟩,
  ⟨(some 14), .mv (.c (.one (.sc (.int .i64 0)))), none⟩]
def r18_2 : List SOper := [
  ⟨(some 15), .bin .lss (.t 14) (.c (.one (.sc (.int .i64 4)))), none⟩]
def r18_3 : List SOper := [
  ⟨(some 16), .idxA 4 1 false (.t 13) (.t 14), none⟩,
  ⟨(some 4), .mv (.t 16), none⟩]
def r18_4 : List SOper := [
  ⟨(some 17), .mv (.t 4), none⟩,
  ⟨(some 18), .bin .lss (.t 17) (.c (.one (.sc (.int .i64 (-16777216))))), none⟩,
  ⟨(some 19), .mv (.t 18), none⟩,
  ⟨(some 20), .mv (.t 4), (some (some 19, false))⟩,
  ⟨(some 21), .bin .gtr (.t 20) (.c (.one (.sc (.int .i64 16777216)))), (some (some 19, false))⟩,
  ⟨(some 22), .pick (.t 19) (.c (.one (.sc (.bool true)))) (.t 21), none⟩]
def r18_5 : List SOper := [
  ⟨(some 2), .mv (.c (.one (.sc (.bool false)))), none⟩]
def r18_6 : List SOper := [
  ⟨(some 23), .bin .add (.t 14) (.c (.one (.sc (.int .i64 1)))), none⟩,
  ⟨(some 14), .mv (.t 23), none⟩]
def l18_0 : SC := (.seq (.reg r18_2) (.seq (.cond (.t 15) .skip (.exit 0)) (.seq (.block 1 (.seq (.reg r18_3) (.seq (.reg r18_4) (.cond (.t 22) (.seq (.reg r18_5) .ret) .skip)))) (.reg r18_6))))
def r18_7 : List SOper := [
  ⟨(some 24), .fadr 4 (.t 1), none⟩,
  ⟨(some 25), .load1 (.t 24), none⟩,
  ⟨(some 26), .call (.z 0) 52 [(.t 25)], none⟩,
  ⟨(some 27), .mv (.t 26), none⟩,
  ⟨(some 28), .fadr 5 (.t 1), (some (some 27, true))⟩,
  ⟨(some 29), .load1 (.t 28), (some (some 27, true))⟩,
  ⟨(some 30), .call (.z 0) 52 [(.t 29)], (some (some 27, true))⟩,
  ⟨(some 31), .pick (.t 27) (.t 30) (.c (.one (.sc (.bool false)))), none⟩,
  ⟨(some 2), .mv (.t 31), none⟩]
def c18 : SC := (.seq (.reg r18_0) (.seq (.seq (.reg r18_1) (.block 0 (.loop l18_0))) (.seq (.reg r18_7) .ret)))
/-- (limner/affine.Matrix).Right -/
def F18 : SFun := ⟨32, c18, [.tmp 2]⟩

def r19_0 : List SOper := [
  ⟨(some 1), .box (.t 0), none⟩,
  ⟨(some 2), .mv (.c (.one (.sc (.bool false)))), none⟩]
def r19_1 : List SOper := [
  ⟨(some 3), .fadr 0 (.t 1), none⟩,
  ⟨(some 4), .load1 (.t 3), none⟩,
  ⟨(some 5), .call (.z 0) 26 [(.t 4)], none⟩,
  ⟨(some 6), .mv (.t 5), none⟩,
  ⟨(some 7), .fadr 1 (.t 1), (some (some 6, true))⟩,
  ⟨(some 8), .load1 (.t 7), (some (some 6, true))⟩,
  ⟨(some 9), .call (.z 0) 26 [(.t 8)], (some (some 6, true))⟩,
  ⟨(some 10), .pick (.t 6) (.t 9) (.c (.one (.sc (.bool false)))), none⟩,
  ⟨(some 2), .mv (.t 10), none⟩]
def c19 : SC := (.seq (.reg r19_0) (.seq (.reg r19_1) .ret))
/-- limner/limnerlaw04.in -/
def F19 : SFun := ⟨11, c19, [.tmp 2]⟩

def r21_0 : List SOper := [
  ⟨(some 0), .mv (.c (.one (.sc (.bool false)))), none⟩]
def r21_1 : List SOper := [
  ⟨(some 6), .call (.z 0) 25 [(.c (.one (.sc (.int .i64 131072)))), (.c (.one (.sc (.int .i64 65536))))], none⟩,
  ⟨(some 7), .build [.sc (.int .i64 0), .sc (.int .i64 0)] [(0, 1, (.c (.one (.sc (.int .i64 3))))), (1, 1, (.c (.one (.sc (.int .i64 5)))))], none⟩,
  ⟨(some 8), .call (.z 0) 15 [(.t 6), (.t 7)], none⟩,
  ⟨(some 5), .mv (.t 8), none⟩,
  ⟨(some 9), .ext (.t 5) 0, none⟩,
  ⟨(some 10), .ext (.t 5) 1, none⟩,
  ⟨(some 1), .alloc [.sc (.int .i64 0), .sc (.int .i64 0)], none⟩,
  ⟨none, .store 2 (.t 1) (.t 9), none⟩,
  ⟨(some 2), .mv (.t 10), none⟩]
def r21_2 : List SOper := [
  ⟨(some 12), .call (.z 0) 24 [(.c (.one (.sc (.int .i64 1))))], none⟩,
  ⟨(some 13), .build [.sc (.int .i64 0), .sc (.int .i64 0)] [(0, 1, (.c (.one (.sc (.int .i64 3))))), (1, 1, (.c (.one (.sc (.int .i64 5)))))], none⟩,
  ⟨(some 14), .call (.z 0) 15 [(.t 12), (.t 13)], none⟩,
  ⟨(some 11), .mv (.t 14), none⟩,
  ⟨(some 15), .ext (.t 11) 0, none⟩,
  ⟨(some 16), .ext (.t 11) 1, none⟩,
  ⟨(some 3), .alloc [.sc (.int .i64 0), .sc (.int .i64 0)], none⟩,
  ⟨none, .store 2 (.t 3) (.t 15), none⟩,
  ⟨(some 4), .mv (.t 16), none⟩]
def r21_3 : List SOper := [
  ⟨(some 17), .mv (.t 2), none⟩,
  ⟨(some 18), .bin .eql (.t 17) (.c (.one (.sc (.int .i64 0)))), none⟩,
  ⟨(some 19), .mv (.t 18), none⟩,
  ⟨(some 20), .mv (.t 4), (some (some 19, true))⟩,
  ⟨(some 21), .bin .eql (.t 20) (.c (.one (.sc (.int .i64 0)))), (some (some 19, true))⟩,
  ⟨(some 22), .pick (.t 19) (.t 21) (.c (.one (.sc (.bool false)))), none⟩,
  ⟨(some 23), .mv (.t 22), none⟩,
  ⟨(some 24), .loadA 2 (.t 1), (some (some 23, true))⟩,
  ⟨(some 25), .build [.sc (.int .i64 0), .sc (.int .i64 0)] [(0, 1, (.c (.one (.sc (.int .i64 6))))), (1, 1, (.c (.one (.sc (.int .i64 5)))))], (some (some 23, true))⟩,
  ⟨(some 26), .eqv [.i, .i] false (.t 24) (.t 25), (some (some 23, true))⟩,
  ⟨(some 27), .pick (.t 23) (.t 26) (.c (.one (.sc (.bool false)))), none⟩,
  ⟨(some 28), .mv (.t 27), none⟩,
  ⟨(some 29), .loadA 2 (.t 3), (some (some 28, true))⟩,
  ⟨(some 30), .build [.sc (.int .i64 0), .sc (.int .i64 0)] [(0, 1, (.c (.one (.sc (.int .i64 (-5)))))), (1, 1, (.c (.one (.sc (.int .i64 3)))))], (some (some 28, true))⟩,
  ⟨(some 31), .eqv [.i, .i] false (.t 29) (.t 30), (some (some 28, true))⟩,
  ⟨(some 32), .pick (.t 28) (.t 31) (.c (.one (.sc (.bool false)))), none⟩,
  ⟨(some 0), .mv (.t 32), none⟩]
def c21 : SC := (.seq (.reg r21_0) (.seq (.reg r21_1) (.seq (.reg r21_2) (.seq (.reg r21_3) .ret))))
/-- limner/limnerlaw04.awake -/
def F21 : SFun := ⟨33, c21, [.tmp 0]⟩

def r22_0 : List SOper := [
  ⟨(some 0), .alloc [.sc (.int .i64 0), .sc (.int .i64 0), .sc (.int .i64 0), .sc (.int .i64 0), .sc (.int .i64 0), .sc (.int .i64 0)], none⟩]
def r22_1 : List SOper := [
  ⟨(some 1), .call (.z 0) 25 [(.c (.one (.sc (.int .i64 65536)))), (.c (.one (.sc (.int .i64 65536))))], none⟩,
  ⟨none, .store 6 (.t 0) (.t 1), none⟩]
def c22 : SC := (.seq (.reg r22_0) (.seq (.reg r22_1) .ret))
/-- limner/affine.One -/
def F22 : SFun := ⟨2, c22, [.cellA 0 6]⟩

def r23_0 : List SOper := [
  ⟨(some 4), .alloc [.sc (.int .i64 0), .sc (.int .i64 0), .sc (.int .i64 0), .sc (.int .i64 0), .sc (.int .i64 0), .sc (.int .i64 0)], none⟩]
def r23_1 : List SOper := [
  ⟨(some 5), .mv (.t 0), none⟩,
  ⟨(some 6), .mv (.t 1), none⟩,
  ⟨(some 7), .build [.sc (.int .i64 0), .sc (.int .i64 0), .sc (.int .i64 0), .sc (.int .i64 0), .sc (.int .i64 0), .sc (.int .i64 0)] [(0, 1, (.c (.one (.sc (.int .i64 65536))))), (3, 1, (.c (.one (.sc (.int .i64 65536))))), (4, 1, (.t 5)), (5, 1, (.t 6))], none⟩,
  ⟨none, .store 6 (.t 4) (.t 7), none⟩]
def c23 : SC := (.seq (.reg r23_0) (.seq (.reg r23_1) .ret))
/-- limner/affine.Move -/
def F23 : SFun := ⟨8, c23, [.cellA 4 6]⟩

def r24_0 : List SOper := [
  ⟨(some 2), .alloc [.sc (.int .i64 0), .sc (.int .i64 0), .sc (.int .i64 0), .sc (.int .i64 0), .sc (.int .i64 0), .sc (.int .i64 0)], none⟩]
def r24_1 : List SOper := [
  ⟨(some 3), .build [.sc (.int .i64 0), .sc (.int .i64 0), .sc (.int .i64 0), .sc (.int .i64 0), .sc (.int .i64 0), .sc (.int .i64 0)] [(0, 1, (.c (.one (.sc (.int .i64 65536))))), (3, 1, (.c (.one (.sc (.int .i64 65536)))))], none⟩,
  ⟨(some 4), .build [.sc (.int .i64 0), .sc (.int .i64 0), .sc (.int .i64 0), .sc (.int .i64 0), .sc (.int .i64 0), .sc (.int .i64 0)] [(1, 1, (.c (.one (.sc (.int .i64 65536))))), (2, 1, (.c (.one (.sc (.int .i64 (-65536))))))], none⟩,
  ⟨(some 5), .build [.sc (.int .i64 0), .sc (.int .i64 0), .sc (.int .i64 0), .sc (.int .i64 0), .sc (.int .i64 0), .sc (.int .i64 0)] [(0, 1, (.c (.one (.sc (.int .i64 (-65536)))))), (3, 1, (.c (.one (.sc (.int .i64 (-65536))))))], none⟩,
  ⟨(some 6), .build [.sc (.int .i64 0), .sc (.int .i64 0), .sc (.int .i64 0), .sc (.int .i64 0), .sc (.int .i64 0), .sc (.int .i64 0)] [(1, 1, (.c (.one (.sc (.int .i64 (-65536)))))), (2, 1, (.c (.one (.sc (.int .i64 65536)))))], none⟩,
  ⟨(some 7), .build (List.replicate 24 (.sc (.int .i64 0))) [(0, 6, (.t 3)), (6, 6, (.t 4)), (12, 6, (.t 5)), (18, 6, (.t 6))], none⟩,
  ⟨(some 8), .mv (.t 0), none⟩,
  ⟨(some 9), .bin .and (.t 8) (.c (.one (.sc (.int .i64 3)))), none⟩,
  ⟨(some 10), .idxA 4 6 true (.t 7) (.t 9), none⟩,
  ⟨none, .store 6 (.t 2) (.t 10), none⟩]
def c24 : SC := (.seq (.reg r24_0) (.seq (.reg r24_1) .ret))
/-- limner/affine.Quarter -/
def F24 : SFun := ⟨11, c24, [.cellA 2 6]⟩

def r25_0 : List SOper := [
  ⟨(some 4), .alloc [.sc (.int .i64 0), .sc (.int .i64 0), .sc (.int .i64 0), .sc (.int .i64 0), .sc (.int .i64 0), .sc (.int .i64 0)], none⟩]
def r25_1 : List SOper := [
  ⟨(some 5), .mv (.t 0), none⟩,
  ⟨(some 6), .mv (.t 1), none⟩,
  ⟨(some 7), .build [.sc (.int .i64 0), .sc (.int .i64 0), .sc (.int .i64 0), .sc (.int .i64 0), .sc (.int .i64 0), .sc (.int .i64 0)] [(0, 1, (.t 5)), (3, 1, (.t 6))], none⟩,
  ⟨none, .store 6 (.t 4) (.t 7), none⟩]
def c25 : SC := (.seq (.reg r25_0) (.seq (.reg r25_1) .ret))
/-- limner/affine.Scale -/
def F25 : SFun := ⟨8, c25, [.cellA 4 6]⟩

def r26_0 : List SOper := [
  ⟨(some 2), .mv (.c (.one (.sc (.bool false)))), none⟩]
def r26_1 : List SOper := [
  ⟨(some 3), .mv (.t 0), none⟩,
  ⟨(some 4), .bin .geq (.t 3) (.c (.one (.sc (.int .i64 (-2147483648))))), none⟩,
  ⟨(some 5), .mv (.t 4), none⟩,
  ⟨(some 6), .mv (.t 0), (some (some 5, true))⟩,
  ⟨(some 7), .bin .leq (.t 6) (.c (.one (.sc (.int .i64 2147483648)))), (some (some 5, true))⟩,
  ⟨(some 8), .pick (.t 5) (.t 7) (.c (.one (.sc (.bool false)))), none⟩,
  ⟨(some 2), .mv (.t 8), none⟩]
def c26 : SC := (.seq (.reg r26_0) (.seq (.reg r26_1) .ret))
/-- limner/limnerref01.In -/
def F26 : SFun := ⟨9, c26, [.tmp 2]⟩

def r30_0 : List SOper := [
  ⟨(some 2), .box (.t 0), none⟩,
  ⟨(some 3), .box (.t 1), none⟩,
  ⟨(some 4), .alloc [.sc (.int .i64 0), .sc (.int .i64 0), .sc (.int .i64 0), .sc (.int .i64 0)], none⟩,
  ⟨(some 5), .mv (.c (.one (.sc (.int .i64 0)))), none⟩]
def r30_1 : List SOper := [
  ⟨(some 11), .loadA 6 (.t 2), none⟩,
  ⟨(some 12), .call (.z 0) 18 [(.t 11)], none⟩,
  ⟨(some 13), .un .not (.t 12), none⟩]
def r30_2 : List SOper := [
  ⟨(some 14), .build [.sc (.int .i64 0), .sc (.int .i64 0), .sc (.int .i64 0), .sc (.int .i64 0)] [], none⟩,
  ⟨none, .store 4 (.t 4) (.t 14), none⟩,
  ⟨(some 5), .mv (.c (.one (.sc (.int .i64 10)))), none⟩]
def r30_3 : List SOper := [
  ⟨(some 15), .loadA 4 (.t 3), none⟩,
  ⟨(some 16), .call (.z 0) 54 [(.t 15)], none⟩]
def r30_4 : List SOper := [
  ⟨(some 17), .build [.sc (.int .i64 0), .sc (.int .i64 0), .sc (.int .i64 0), .sc (.int .i64 0)] [], none⟩,
  ⟨none, .store 4 (.t 4) (.t 17), none⟩,
  ⟨(some 5), .mv (.c (.one (.sc (.int .i64 0)))), none⟩]
def r30_5 : List SOper := [
  ⟨(some 6), .alloc [.sc (.int .i64 0), .sc (.int .i64 0), .sc (.int .i64 0), .sc (.int .i64 0), .sc (.int .i64 0), .sc (.int .i64 0), .sc (.int .i64 0), .sc (.int .i64 0)], none⟩]
def r30_6 : List SOper := [
  ⟨(some 18), .mv (.c (.one (.sc (.int .i64 0)))), none⟩]
def r30_7 : List SOper := [
  ⟨(some 19), .bin .lss (.t 18) (.c (.one (.sc (.int .i64 4)))), none⟩]
def r30_8 : List SOper := [
  ⟨(some 20), .mv (.t 18), none⟩,
  ⟨(some 7), .mv (.t 20), none⟩]
def r30_9 : List SOper := [
  ⟨(some 21), .fadr 0 (.t 3), none⟩,
  ⟨(some 22), .load1 (.t 21), none⟩,
  ⟨(some 23), .fadr 1 (.t 3), none⟩,
  ⟨(some 24), .load1 (.t 23), none⟩,
  ⟨(some 25), .build [.sc (.int .i64 0), .sc (.int .i64 0)] [(0, 1, (.t 22)), (1, 1, (.t 24))], none⟩,
  ⟨(some 8), .alloc [.sc (.int .i64 0), .sc (.int .i64 0)], none⟩,
  ⟨none, .store 2 (.t 8) (.t 25), none⟩]
def r30_10 : List SOper := [
  ⟨(some 26), .mv (.t 7), none⟩,
  ⟨(some 27), .bin .and (.t 26) (.c (.one (.sc (.int .i64 1)))), none⟩,
  ⟨(some 28), .bin .neq (.t 27) (.c (.one (.sc (.int .i64 0)))), none⟩]
def r30_11 : List SOper := [
  ⟨(some 29), .fadr 2 (.t 3), none⟩,
  ⟨(some 30), .load1 (.t 29), none⟩,
  ⟨(some 31), .bin .sub (.t 30) (.c (.one (.sc (.int .i64 1)))), none⟩,
  ⟨(some 32), .fadr 0 (.t 8), none⟩,
  ⟨none, .store 1 (.t 32) (.t 31), none⟩]
def r30_12 : List SOper := [
  ⟨(some 33), .mv (.t 7), none⟩,
  ⟨(some 34), .bin .and (.t 33) (.c (.one (.sc (.int .i64 2)))), none⟩,
  ⟨(some 35), .bin .neq (.t 34) (.c (.one (.sc (.int .i64 0)))), none⟩]
def r30_13 : List SOper := [
  ⟨(some 36), .fadr 3 (.t 3), none⟩,
  ⟨(some 37), .load1 (.t 36), none⟩,
  ⟨(some 38), .bin .sub (.t 37) (.c (.one (.sc (.int .i64 1)))), none⟩,
  ⟨(some 39), .fadr 1 (.t 8), none⟩,
  ⟨none, .store 1 (.t 39) (.t 38), none⟩]
def r30_14 : List SOper := [
  ⟨(some 41), .loadA 6 (.t 2), none⟩,
  ⟨(some 42), .loadA 2 (.t 8), none⟩,
  ⟨(some 43), .call (.z 0) 15 [(.t 41), (.t 42)], none⟩,
  ⟨(some 40), .mv (.t 43), none⟩,
  ⟨(some 44), .ext (.t 40) 0, none⟩,
  ⟨(some 45), .ext (.t 40) 1, none⟩,
  ⟨(some 9), .alloc [.sc (.int .i64 0), .sc (.int .i64 0)], none⟩,
  ⟨none, .store 2 (.t 9) (.t 44), none⟩,
  ⟨(some 10), .mv (.t 45), none⟩]
def r30_15 : List SOper := [
  ⟨(some 46), .mv (.t 10), none⟩,
  ⟨(some 47), .bin .neq (.t 46) (.c (.one (.sc (.int .i64 0)))), none⟩]
def r30_16 : List SOper := [
  ⟨(some 48), .build [.sc (.int .i64 0), .sc (.int .i64 0), .sc (.int .i64 0), .sc (.int .i64 0)] [], none⟩,
  ⟨(some 49), .mv (.t 10), none⟩,
  ⟨none, .store 4 (.t 4) (.t 48), none⟩,
  ⟨(some 5), .mv (.t 49), none⟩]
def r30_17 : List SOper := [
  ⟨(some 50), .mv (.t 7), none⟩,
  ⟨(some 51), .loadA 2 (.t 9), none⟩,
  ⟨(some 52), .iadrA 4 2 (.t 6) (.t 50), none⟩,
  ⟨none, .store 2 (.t 52) (.t 51), none⟩]
def r30_18 : List SOper := [
  ⟨(some 53), .bin .add (.t 18) (.c (.one (.sc (.int .i64 1)))), none⟩,
  ⟨(some 18), .mv (.t 53), none⟩]
def l30_0 : SC := (.seq (.reg r30_7) (.seq (.cond (.t 19) .skip (.exit 0)) (.seq (.block 1 (.seq (.reg r30_8) (.seq (.reg r30_9) (.seq (.seq (.reg r30_10) (.cond (.t 28) (.reg r30_11) .skip)) (.seq (.seq (.reg r30_12) (.cond (.t 35) (.reg r30_13) .skip)) (.seq (.reg r30_14) (.seq (.seq (.reg r30_15) (.cond (.t 47) (.seq (.reg r30_16) .ret) .skip)) (.reg r30_17)))))))) (.reg r30_18))))
def r30_19 : List SOper := [
  ⟨(some 54), .slA 4 2 (.t 6) none none none, none⟩,
  ⟨(some 55), .call .q 31 [(.t 54)], none⟩,
  ⟨none, .store 4 (.t 4) (.t 55), none⟩,
  ⟨(some 5), .mv (.c (.one (.sc (.int .i64 0)))), none⟩]
def c30 : SC := (.seq (.reg r30_0) (.seq (.seq (.reg r30_1) (.cond (.t 13) (.seq (.reg r30_2) .ret) .skip)) (.seq (.seq (.reg r30_3) (.cond (.t 16) (.seq (.reg r30_4) .ret) .skip)) (.seq (.reg r30_5) (.seq (.seq (.reg r30_6) (.block 0 (.loop l30_0))) (.seq (.reg r30_19) .ret))))))
/-- (limner/affine.Matrix).Bound -/
def F30 : SFun := ⟨56, c30, [.cellA 4 4, .tmp 5]⟩

def r31_0 : List SOper := [
  ⟨(some 2), .alloc [.sc (.int .i64 0), .sc (.int .i64 0), .sc (.int .i64 0), .sc (.int .i64 0)], none⟩]
def r31_1 : List SOper := [
  ⟨(some 3), .alloc [.sc (.int .i64 0), .sc (.int .i64 0), .sc (.int .i64 0), .sc (.int .i64 0)], none⟩]
def r31_2 : List SOper := [
  ⟨(some 6), .mv (.t 0), none⟩,
  ⟨(some 7), .len (.t 6), none⟩,
  ⟨(some 8), .mv (.c (.one (.sc (.int .i64 0)))), none⟩]
def r31_3 : List SOper := [
  ⟨(some 9), .bin .lss (.t 8) (.t 7), none⟩]
def r31_4 : List SOper := [
  ⟨(some 10), .iadrS 2 (.t 6) (.t 8), none⟩,
  ⟨(some 11), .loadA 2 (.t 10), none⟩,
  ⟨(some 5), .alloc [.sc (.int .i64 0), .sc (.int .i64 0)], none⟩,
  ⟨none, .store 2 (.t 5) (.t 11), none⟩]
def r31_5 : List SOper := [
  ⟨(some 12), .loadA 4 (.t 3), none⟩,
  ⟨(some 13), .fadr 0 (.t 5), none⟩,
  ⟨(some 14), .load1 (.t 13), none⟩,
  ⟨(some 15), .fadr 1 (.t 5), none⟩,
  ⟨(some 16), .load1 (.t 15), none⟩,
  ⟨(some 17), .fadr 0 (.t 5), none⟩,
  ⟨(some 18), .load1 (.t 17), none⟩,
  ⟨(some 19), .bin .add (.t 18) (.c (.one (.sc (.int .i64 1)))), none⟩,
  ⟨(some 20), .fadr 1 (.t 5), none⟩,
  ⟨(some 21), .load1 (.t 20), none⟩,
  ⟨(some 22), .bin .add (.t 21) (.c (.one (.sc (.int .i64 1)))), none⟩,
  ⟨(some 23), .build [.sc (.int .i64 0), .sc (.int .i64 0), .sc (.int .i64 0), .sc (.int .i64 0)] [(0, 1, (.t 14)), (1, 1, (.t 16)), (2, 1, (.t 19)), (3, 1, (.t 22))], none⟩,
  ⟨(some 24), .call (.z 0) 55 [(.t 12), (.t 23)], none⟩,
  ⟨none, .store 4 (.t 3) (.t 24), none⟩]
def r31_6 : List SOper := [
  ⟨(some 25), .bin .add (.t 8) (.c (.one (.sc (.int .i64 1)))), none⟩,
  ⟨(some 8), .mv (.t 25), none⟩]
def l31_0 : SC := (.seq (.reg r31_3) (.seq (.cond (.t 9) .skip (.exit 0)) (.seq (.block 1 (.seq (.reg r31_4) (.reg r31_5))) (.reg r31_6))))
def r31_7 : List SOper := [
  ⟨(some 26), .loadA 4 (.t 3), none⟩,
  ⟨none, .store 4 (.t 2) (.t 26), none⟩]
def c31 : SC := (.seq (.reg r31_0) (.seq (.reg r31_1) (.seq (.seq (.reg r31_2) (.block 0 (.loop l31_0))) (.seq (.reg r31_7) .ret))))
/-- limner/geom.Bound -/
def F31 : SFun := ⟨27, c31, [.cellA 2 4]⟩

def r32_0 : List SOper := [
  ⟨(some 2), .box (.t 0), none⟩,
  ⟨(some 3), .box (.t 1), none⟩,
  ⟨(some 4), .mv (.c (.one (.sc (.bool false)))), none⟩]
def r32_1 : List SOper := [
  ⟨(some 5), .fadr 0 (.t 2), none⟩,
  ⟨(some 6), .load1 (.t 5), none⟩,
  ⟨(some 7), .fadr 0 (.t 3), none⟩,
  ⟨(some 8), .load1 (.t 7), none⟩,
  ⟨(some 9), .bin .leq (.t 6) (.t 8), none⟩,
  ⟨(some 10), .mv (.t 9), none⟩,
  ⟨(some 11), .fadr 0 (.t 3), (some (some 10, true))⟩,
  ⟨(some 12), .load1 (.t 11), (some (some 10, true))⟩,
  ⟨(some 13), .fadr 2 (.t 2), (some (some 10, true))⟩,
  ⟨(some 14), .load1 (.t 13), (some (some 10, true))⟩,
  ⟨(some 15), .bin .lss (.t 12) (.t 14), (some (some 10, true))⟩,
  ⟨(some 16), .pick (.t 10) (.t 15) (.c (.one (.sc (.bool false)))), none⟩,
  ⟨(some 17), .mv (.t 16), none⟩,
  ⟨(some 18), .fadr 1 (.t 2), (some (some 17, true))⟩,
  ⟨(some 19), .load1 (.t 18), (some (some 17, true))⟩,
  ⟨(some 20), .fadr 1 (.t 3), (some (some 17, true))⟩,
  ⟨(some 21), .load1 (.t 20), (some (some 17, true))⟩,
  ⟨(some 22), .bin .leq (.t 19) (.t 21), (some (some 17, true))⟩,
  ⟨(some 23), .pick (.t 17) (.t 22) (.c (.one (.sc (.bool false)))), none⟩,
  ⟨(some 24), .mv (.t 23), none⟩,
  ⟨(some 25), .fadr 1 (.t 3), (some (some 24, true))⟩,
  ⟨(some 26), .load1 (.t 25), (some (some 24, true))⟩,
  ⟨(some 27), .fadr 3 (.t 2), (some (some 24, true))⟩,
  ⟨(some 28), .load1 (.t 27), (some (some 24, true))⟩,
  ⟨(some 29), .bin .lss (.t 26) (.t 28), (some (some 24, true))⟩,
  ⟨(some 30), .pick (.t 24) (.t 29) (.c (.one (.sc (.bool false)))), none⟩,
  ⟨(some 4), .mv (.t 30), none⟩]
def c32 : SC := (.seq (.reg r32_0) (.seq (.reg r32_1) .ret))
/-- (limner/geom.Box).Has -/
def F32 : SFun := ⟨31, c32, [.tmp 4]⟩

def r37_0 : List SOper := [
  ⟨(some 0), .mv (.c (.one (.sc (.bool false)))), none⟩]
def r37_1 : List SOper := [
  ⟨(some 4), .call (.z 0) 44 [(.c (.one (.sc (.int .i64 0)))), (.c (.one (.sc (.int .i64 0))))], none⟩,
  ⟨(some 5), .call (.z 0) 44 [(.c (.one (.sc (.int .i64 4)))), (.c (.one (.sc (.int .i64 8))))], none⟩,
  ⟨(some 6), .call (.z 0) 44 [(.c (.one (.sc (.int .i64 8)))), (.c (.one (.sc (.int .i64 0))))], none⟩,
  ⟨(some 7), .bslice [.sc (.int .i64 0), .sc (.int .i64 0), .sc (.int .i64 0), .sc (.int .i64 0), .sc (.int .i64 0), .sc (.int .i64 0)] 3 2 [(0, 2, (.t 4)), (2, 2, (.t 5)), (4, 2, (.t 6))], none⟩,
  ⟨(some 8), .call .k 38 [(.t 7), (.c (.one (.sc (.int .i64 1))))], none⟩,
  ⟨(some 3), .mv (.t 8), none⟩,
  ⟨(some 9), .ext (.t 3) 0, none⟩,
  ⟨(some 10), .ext (.t 3) 1, none⟩,
  ⟨(some 1), .mv (.t 9), none⟩,
  ⟨(some 2), .mv (.t 10), none⟩]
def r37_2 : List SOper := [
  ⟨(some 11), .mv (.t 2), none⟩,
  ⟨(some 12), .bin .eql (.t 11) (.c (.one (.sc (.int .i64 0)))), none⟩,
  ⟨(some 13), .mv (.t 12), none⟩,
  ⟨(some 14), .mv (.t 1), (some (some 13, true))⟩,
  ⟨(some 15), .len (.t 14), (some (some 13, true))⟩,
  ⟨(some 16), .bin .eql (.t 15) (.c (.one (.sc (.int .i64 2)))), (some (some 13, true))⟩,
  ⟨(some 17), .pick (.t 13) (.t 16) (.c (.one (.sc (.bool false)))), none⟩,
  ⟨(some 18), .mv (.t 17), none⟩,
  ⟨(some 19), .mv (.t 1), (some (some 18, true))⟩,
  ⟨(some 20), .iadrS 2 (.t 19) (.c (.one (.sc (.int .i64 0)))), (some (some 18, true))⟩,
  ⟨(some 21), .loadA 2 (.t 20), (some (some 18, true))⟩,
  ⟨(some 22), .call (.z 0) 44 [(.c (.one (.sc (.int .i64 4)))), (.c (.one (.sc (.int .i64 4))))], (some (some 18, true))⟩,
  ⟨(some 23), .eqv [.i, .i] false (.t 21) (.t 22), (some (some 18, true))⟩,
  ⟨(some 24), .pick (.t 18) (.t 23) (.c (.one (.sc (.bool false)))), none⟩,
  ⟨(some 25), .mv (.t 24), none⟩,
  ⟨(some 26), .mv (.t 1), (some (some 25, true))⟩,
  ⟨(some 27), .iadrS 2 (.t 26) (.c (.one (.sc (.int .i64 1)))), (some (some 25, true))⟩,
  ⟨(some 28), .loadA 2 (.t 27), (some (some 25, true))⟩,
  ⟨(some 29), .call (.z 0) 44 [(.c (.one (.sc (.int .i64 8)))), (.c (.one (.sc (.int .i64 0))))], (some (some 25, true))⟩,
  ⟨(some 30), .eqv [.i, .i] false (.t 28) (.t 29), (some (some 25, true))⟩,
  ⟨(some 31), .pick (.t 25) (.t 30) (.c (.one (.sc (.bool false)))), none⟩,
  ⟨(some 0), .mv (.t 31), none⟩]
def c37 : SC := (.seq (.reg r37_0) (.seq (.reg r37_1) (.seq (.reg r37_2) .ret)))
/-- limner/limnerlaw05.awake -/
def F37 : SFun := ⟨32, c37, [.tmp 0]⟩

def r38_0 : List SOper := [
  ⟨(some 4), .mv (.c (.one (.sc (.slice none 0 0)))), none⟩,
  ⟨(some 5), .mv (.c (.one (.sc (.int .i64 0)))), none⟩]
def r38_1 : List SOper := [
  ⟨(some 12), .mv (.t 0), none⟩,
  ⟨(some 13), .call .q 59 [(.t 12)], none⟩,
  ⟨(some 6), .mv (.t 13), none⟩]
def r38_2 : List SOper := [
  ⟨(some 14), .mv (.t 6), none⟩,
  ⟨(some 15), .bin .neq (.t 14) (.c (.one (.sc (.int .i64 0)))), none⟩]
def r38_3 : List SOper := [
  ⟨(some 16), .mv (.t 6), none⟩,
  ⟨(some 4), .mv (.c (.one (.sc (.slice none 0 0)))), none⟩,
  ⟨(some 5), .mv (.t 16), none⟩]
def r38_4 : List SOper := [
  ⟨(some 17), .mv (.t 1), none⟩,
  ⟨(some 18), .bin .lss (.t 17) (.c (.one (.sc (.int .i64 0)))), none⟩,
  ⟨(some 19), .mv (.t 18), none⟩,
  ⟨(some 20), .mv (.t 1), (some (some 19, false))⟩,
  ⟨(some 21), .bin .gtr (.t 20) (.c (.one (.sc (.int .i64 6)))), (some (some 19, false))⟩,
  ⟨(some 22), .pick (.t 19) (.c (.one (.sc (.bool true)))) (.t 21), none⟩]
def r38_5 : List SOper := [
  ⟨(some 4), .mv (.c (.one (.sc (.slice none 0 0)))), none⟩,
  ⟨(some 5), .mv (.c (.one (.sc (.int .i64 30)))), none⟩]
def r38_6 : List SOper := [
  ⟨(some 7), .mv (.c (.one (.sc (.slice none 0 0)))), none⟩]
def r38_7 : List SOper := [
  ⟨(some 23), .mv (.t 0), none⟩,
  ⟨(some 24), .call .q 60 [(.t 23)], none⟩,
  ⟨(some 25), .mv (.t 1), none⟩,
  ⟨(some 26), .build (List.replicate 10 (.sc (.int .i64 0))) [(0, 9, (.t 24)), (9, 1, (.t 25))], none⟩,
  ⟨(some 27), .bslice (List.replicate 10 (.sc (.int .i64 0))) 1 10 [(0, 10, (.t 26))], none⟩,
  ⟨(some 8), .mv (.t 27), none⟩]
def r38_8 : List SOper := [
  ⟨(some 28), .mv (.t 8), none⟩,
  ⟨(some 29), .len (.t 28), none⟩,
  ⟨(some 30), .bin .gtr (.t 29) (.c (.one (.sc (.int .i64 0)))), none⟩]
def r38_9 : List SOper := [
  ⟨(some 31), .mv (.t 8), none⟩,
  ⟨(some 32), .mv (.t 8), none⟩,
  ⟨(some 33), .len (.t 32), none⟩,
  ⟨(some 34), .bin .sub (.t 33) (.c (.one (.sc (.int .i64 1)))), none⟩,
  ⟨(some 35), .iadrS 10 (.t 31) (.t 34), none⟩,
  ⟨(some 36), .loadA 10 (.t 35), none⟩,
  ⟨(some 9), .alloc (List.replicate 10 (.sc (.int .i64 0))), none⟩,
  ⟨none, .store 10 (.t 9) (.t 36), none⟩]
def r38_10 : List SOper := [
  ⟨(some 37), .mv (.t 8), none⟩,
  ⟨(some 38), .mv (.t 8), none⟩,
  ⟨(some 39), .len (.t 38), none⟩,
  ⟨(some 40), .bin .sub (.t 39) (.c (.one (.sc (.int .i64 1)))), none⟩,
  ⟨(some 41), .slS 10 (.t 37) none (some (.t 40)) none, none⟩,
  ⟨(some 8), .mv (.t 41), none⟩]
def r38_11 : List SOper := [
  ⟨(some 42), .fadr 9 (.t 9), none⟩,
  ⟨(some 43), .load1 (.t 42), none⟩,
  ⟨(some 44), .bin .eql (.t 43) (.c (.one (.sc (.int .i64 0)))), none⟩]
def r38_12 : List SOper := [
  ⟨(some 45), .mv (.t 7), none⟩,
  ⟨(some 46), .fadr 0 (.t 9), none⟩,
  ⟨(some 47), .fadr 8 (.t 46), none⟩,
  ⟨(some 48), .load1 (.t 47), none⟩,
  ⟨(some 49), .bin .sub (.t 48) (.c (.one (.sc (.int .i64 1)))), none⟩,
  ⟨(some 50), .fadr 0 (.t 9), none⟩,
  ⟨(some 51), .fadr 0 (.t 50), none⟩,
  ⟨(some 52), .iadrA 4 2 (.t 51) (.t 49), none⟩,
  ⟨(some 53), .loadA 2 (.t 52), none⟩,
  ⟨(some 54), .bslice [.sc (.int .i64 0), .sc (.int .i64 0)] 1 2 [(0, 2, (.t 53))], none⟩,
  ⟨(some 55), .app 2 16 (.t 45) (.t 54), none⟩,
  ⟨(some 7), .mv (.t 55), none⟩]
def r38_13 : List SOper := [
  ⟨(some 57), .fadr 0 (.t 9), none⟩,
  ⟨(some 58), .loadA 9 (.t 57), none⟩,
  ⟨(some 59), .call (.z 0) 61 [(.t 58)], none⟩,
  ⟨(some 56), .mv (.t 59), none⟩,
  ⟨(some 60), .ext (.t 56) 0, none⟩,
  ⟨(some 61), .ext (.t 56) 1, none⟩,
  ⟨(some 10), .alloc (List.replicate 9 (.sc (.int .i64 0))), none⟩,
  ⟨(some 11), .alloc (List.replicate 9 (.sc (.int .i64 0))), none⟩,
  ⟨none, .store 9 (.t 10) (.t 60), none⟩,
  ⟨none, .store 9 (.t 11) (.t 61), none⟩]
def r38_14 : List SOper := [
  ⟨(some 62), .mv (.t 8), none⟩,
  ⟨(some 63), .loadA 9 (.t 11), none⟩,
  ⟨(some 64), .fadr 9 (.t 9), none⟩,
  ⟨(some 65), .load1 (.t 64), none⟩,
  ⟨(some 66), .bin .sub (.t 65) (.c (.one (.sc (.int .i64 1)))), none⟩,
  ⟨(some 67), .build (List.replicate 10 (.sc (.int .i64 0))) [(0, 9, (.t 63)), (9, 1, (.t 66))], none⟩,
  ⟨(some 68), .loadA 9 (.t 10), none⟩,
  ⟨(some 69), .fadr 9 (.t 9), none⟩,
  ⟨(some 70), .load1 (.t 69), none⟩,
  ⟨(some 71), .bin .sub (.t 70) (.c (.one (.sc (.int .i64 1)))), none⟩,
  ⟨(some 72), .build (List.replicate 10 (.sc (.int .i64 0))) [(0, 9, (.t 68)), (9, 1, (.t 71))], none⟩,
  ⟨(some 73), .bslice (List.replicate 20 (.sc (.int .i64 0))) 2 10 [(0, 10, (.t 67)), (10, 10, (.t 72))], none⟩,
  ⟨(some 74), .app 10 80 (.t 62) (.t 73), none⟩,
  ⟨(some 8), .mv (.t 74), none⟩]
def l38_0 : SC := (.seq (.seq (.reg r38_8) (.cond (.t 30) .skip (.exit 0))) (.block 1 (.seq (.reg r38_9) (.seq (.reg r38_10) (.seq (.seq (.reg r38_11) (.cond (.t 44) (.seq (.reg r38_12) (.exit 1)) .skip)) (.seq (.reg r38_13) (.reg r38_14)))))))
def r38_15 : List SOper := [
  ⟨(some 75), .mv (.t 7), none⟩,
  ⟨(some 4), .mv (.t 75), none⟩,
  ⟨(some 5), .mv (.c (.one (.sc (.int .i64 0)))), none⟩]
def c38 : SC := (.seq (.reg r38_0) (.seq (.seq (.reg r38_1) (.seq (.reg r38_2) (.cond (.t 15) (.seq (.reg r38_3) .ret) .skip))) (.seq (.seq (.reg r38_4) (.cond (.t 22) (.seq (.reg r38_5) .ret) .skip)) (.seq (.reg r38_6) (.seq (.reg r38_7) (.seq (.block 0 (.loop l38_0)) (.seq (.reg r38_15) .ret)))))))
/-- limner/curve.Flat -/
def F38 : SFun := ⟨76, c38, [.tmp 4, .tmp 5]⟩

def r39_0 : List SOper := [
  ⟨(some 2), .mv (.c (.one (.sc (.bool false)))), none⟩]
def r39_1 : List SOper := [
  ⟨(some 5), .mv (.t 0), none⟩,
  ⟨(some 6), .len (.t 5), none⟩,
  ⟨(some 7), .mv (.c (.one (.sc (.int .i64 0)))), none⟩]
def r39_2 : List SOper := [
  ⟨(some 8), .bin .lss (.t 7) (.t 6), none⟩]
def r39_3 : List SOper := [
  ⟨(some 9), .iadrS 2 (.t 5) (.t 7), none⟩,
  ⟨(some 10), .loadA 2 (.t 9), none⟩,
  ⟨(some 4), .alloc [.sc (.int .i64 0), .sc (.int .i64 0)], none⟩,
  ⟨none, .store 2 (.t 4) (.t 10), none⟩]
def r39_4 : List SOper := [
  ⟨(some 11), .fadr 0 (.t 4), none⟩,
  ⟨(some 12), .load1 (.t 11), none⟩,
  ⟨(some 13), .call (.z 0) 26 [(.t 12)], none⟩,
  ⟨(some 14), .un .not (.t 13), none⟩,
  ⟨(some 15), .mv (.t 14), none⟩,
  ⟨(some 16), .fadr 1 (.t 4), (some (some 15, false))⟩,
  ⟨(some 17), .load1 (.t 16), (some (some 15, false))⟩,
  ⟨(some 18), .call (.z 0) 26 [(.t 17)], (some (some 15, false))⟩,
  ⟨(some 19), .un .not (.t 18), (some (some 15, false))⟩,
  ⟨(some 20), .pick (.t 15) (.c (.one (.sc (.bool true)))) (.t 19), none⟩]
def r39_5 : List SOper := [
  ⟨(some 2), .mv (.c (.one (.sc (.bool false)))), none⟩]
def r39_6 : List SOper := [
  ⟨(some 21), .bin .add (.t 7) (.c (.one (.sc (.int .i64 1)))), none⟩,
  ⟨(some 7), .mv (.t 21), none⟩]
def l39_0 : SC := (.seq (.reg r39_2) (.seq (.cond (.t 8) .skip (.exit 0)) (.seq (.block 1 (.seq (.reg r39_3) (.seq (.reg r39_4) (.cond (.t 20) (.seq (.reg r39_5) .ret) .skip)))) (.reg r39_6))))
def r39_7 : List SOper := [
  ⟨(some 22), .mv (.t 0), none⟩,
  ⟨(some 23), .len (.t 22), none⟩,
  ⟨(some 24), .bin .eql (.t 23) (.c (.one (.sc (.int .i64 3)))), none⟩,
  ⟨(some 25), .mv (.t 24), none⟩,
  ⟨(some 26), .mv (.t 0), (some (some 25, false))⟩,
  ⟨(some 27), .len (.t 26), (some (some 25, false))⟩,
  ⟨(some 28), .bin .eql (.t 27) (.c (.one (.sc (.int .i64 4)))), (some (some 25, false))⟩,
  ⟨(some 29), .pick (.t 25) (.c (.one (.sc (.bool true)))) (.t 28), none⟩,
  ⟨(some 2), .mv (.t 29), none⟩]
def c39 : SC := (.seq (.reg r39_0) (.seq (.seq (.reg r39_1) (.block 0 (.loop l39_0))) (.seq (.reg r39_7) .ret)))
/-- limner/limnerlaw05.right -/
def F39 : SFun := ⟨30, c39, [.tmp 2]⟩

def r40_0 : List SOper := [
  ⟨(some 4), .mv (.c (.one (.sc (.bool false)))), none⟩]
def r40_1 : List SOper := [
  ⟨(some 6), .mv (.t 0), none⟩,
  ⟨(some 7), .len (.t 6), none⟩,
  ⟨(some 8), .mv (.t 1), none⟩,
  ⟨(some 9), .len (.t 8), none⟩,
  ⟨(some 10), .bin .neq (.t 7) (.t 9), none⟩]
def r40_2 : List SOper := [
  ⟨(some 4), .mv (.c (.one (.sc (.bool false)))), none⟩]
def r40_3 : List SOper := [
  ⟨(some 11), .mv (.t 0), none⟩,
  ⟨(some 12), .len (.t 11), none⟩,
  ⟨(some 13), .mv (.c (.one (.sc (.int .i64 0)))), none⟩]
def r40_4 : List SOper := [
  ⟨(some 14), .bin .lss (.t 13) (.t 12), none⟩]
def r40_5 : List SOper := [
  ⟨(some 15), .mv (.t 13), none⟩,
  ⟨(some 5), .mv (.t 15), none⟩]
def r40_6 : List SOper := [
  ⟨(some 16), .mv (.t 0), none⟩,
  ⟨(some 17), .mv (.t 5), none⟩,
  ⟨(some 18), .iadrS 2 (.t 16) (.t 17), none⟩,
  ⟨(some 19), .fadr 0 (.t 18), none⟩,
  ⟨(some 20), .load1 (.t 19), none⟩,
  ⟨(some 21), .mv (.t 1), none⟩,
  ⟨(some 22), .mv (.t 5), none⟩,
  ⟨(some 23), .iadrS 2 (.t 21) (.t 22), none⟩,
  ⟨(some 24), .fadr 0 (.t 23), none⟩,
  ⟨(some 25), .load1 (.t 24), none⟩,
  ⟨(some 26), .bin .neq (.t 20) (.t 25), none⟩,
  ⟨(some 27), .mv (.t 26), none⟩,
  ⟨(some 28), .mv (.t 0), (some (some 27, false))⟩,
  ⟨(some 29), .mv (.t 5), (some (some 27, false))⟩,
  ⟨(some 30), .iadrS 2 (.t 28) (.t 29), (some (some 27, false))⟩,
  ⟨(some 31), .fadr 1 (.t 30), (some (some 27, false))⟩,
  ⟨(some 32), .load1 (.t 31), (some (some 27, false))⟩,
  ⟨(some 33), .mv (.t 1), (some (some 27, false))⟩,
  ⟨(some 34), .mv (.t 5), (some (some 27, false))⟩,
  ⟨(some 35), .iadrS 2 (.t 33) (.t 34), (some (some 27, false))⟩,
  ⟨(some 36), .fadr 1 (.t 35), (some (some 27, false))⟩,
  ⟨(some 37), .load1 (.t 36), (some (some 27, false))⟩,
  ⟨(some 38), .bin .neq (.t 32) (.t 37), (some (some 27, false))⟩,
  ⟨(some 39), .pick (.t 27) (.c (.one (.sc (.bool true)))) (.t 38), none⟩]
def r40_7 : List SOper := [
  ⟨(some 4), .mv (.c (.one (.sc (.bool false)))), none⟩]
def r40_8 : List SOper := [
  ⟨(some 40), .bin .add (.t 13) (.c (.one (.sc (.int .i64 1)))), none⟩,
  ⟨(some 13), .mv (.t 40), none⟩]
def l40_0 : SC := (.seq (.reg r40_4) (.seq (.cond (.t 14) .skip (.exit 0)) (.seq (.block 1 (.seq (.reg r40_5) (.seq (.reg r40_6) (.cond (.t 39) (.seq (.reg r40_7) .ret) .skip)))) (.reg r40_8))))
def r40_9 : List SOper := [
  ⟨(some 4), .mv (.c (.one (.sc (.bool true)))), none⟩]
def c40 : SC := (.seq (.reg r40_0) (.seq (.seq (.reg r40_1) (.cond (.t 10) (.seq (.reg r40_2) .ret) .skip)) (.seq (.seq (.reg r40_3) (.block 0 (.loop l40_0))) (.seq (.reg r40_9) .ret))))
/-- limner/limnerlaw05.same -/
def F40 : SFun := ⟨41, c40, [.tmp 4]⟩

def r41_0 : List SOper := [
  ⟨(some 4), .mv (.c (.one (.sc (.slice none 0 0)))), none⟩]
def r41_1 : List SOper := [
  ⟨(some 7), .mv (.t 1), none⟩,
  ⟨(some 8), .bin .eql (.t 7) (.c (.one (.sc (.int .i64 0)))), none⟩]
def r41_2 : List SOper := [
  ⟨(some 9), .mv (.t 0), none⟩,
  ⟨(some 10), .mv (.t 0), none⟩,
  ⟨(some 11), .len (.t 10), none⟩,
  ⟨(some 12), .bin .sub (.t 11) (.c (.one (.sc (.int .i64 1)))), none⟩,
  ⟨(some 13), .iadrS 2 (.t 9) (.t 12), none⟩,
  ⟨(some 14), .loadA 2 (.t 13), none⟩,
  ⟨(some 15), .bslice [.sc (.int .i64 0), .sc (.int .i64 0)] 1 2 [(0, 2, (.t 14))], none⟩,
  ⟨(some 4), .mv (.t 15), none⟩]
def r41_3 : List SOper := [
  ⟨(some 17), .mv (.t 0), none⟩,
  ⟨(some 18), .call .k 46 [(.t 17)], none⟩,
  ⟨(some 16), .mv (.t 18), none⟩,
  ⟨(some 19), .ext (.t 16) 0, none⟩,
  ⟨(some 20), .ext (.t 16) 1, none⟩,
  ⟨(some 5), .mv (.t 19), none⟩,
  ⟨(some 6), .mv (.t 20), none⟩]
def r41_4 : List SOper := [
  ⟨(some 21), .mv (.t 5), none⟩,
  ⟨(some 22), .mv (.t 1), none⟩,
  ⟨(some 23), .bin .sub (.t 22) (.c (.one (.sc (.int .i64 1)))), none⟩,
  ⟨(some 24), .call .k 41 [(.t 21), (.t 23)], none⟩,
  ⟨(some 25), .mv (.t 6), none⟩,
  ⟨(some 26), .mv (.t 1), none⟩,
  ⟨(some 27), .bin .sub (.t 26) (.c (.one (.sc (.int .i64 1)))), none⟩,
  ⟨(some 28), .call .k 41 [(.t 25), (.t 27)], none⟩,
  ⟨(some 29), .app 2 16 (.t 24) (.t 28), none⟩,
  ⟨(some 4), .mv (.t 29), none⟩]
def c41 : SC := (.seq (.reg r41_0) (.seq (.seq (.reg r41_1) (.cond (.t 8) (.seq (.reg r41_2) .ret) .skip)) (.seq (.reg r41_3) (.seq (.reg r41_4) .ret))))
/-- limner/limnerref05.Flat -/
def F41 : SFun := ⟨30, c41, [.tmp 4]⟩

def r42_0 : List SOper := [
  ⟨(some 2), .mv (.c (.one (.sc (.slice none 0 0)))), none⟩]
def r42_1 : List SOper := [
  ⟨(some 3), .mv (.c (.one (.sc (.slice none 0 0)))), none⟩]
def r42_2 : List SOper := [
  ⟨(some 6), .mv (.t 0), none⟩,
  ⟨(some 7), .len (.t 6), none⟩,
  ⟨(some 8), .mv (.c (.one (.sc (.int .i64 0)))), none⟩]
def r42_3 : List SOper := [
  ⟨(some 9), .bin .lss (.t 8) (.t 7), none⟩]
def r42_4 : List SOper := [
  ⟨(some 10), .iadrS 2 (.t 6) (.t 8), none⟩,
  ⟨(some 11), .loadA 2 (.t 10), none⟩,
  ⟨(some 5), .alloc [.sc (.int .i64 0), .sc (.int .i64 0)], none⟩,
  ⟨none, .store 2 (.t 5) (.t 11), none⟩]
def r42_5 : List SOper := [
  ⟨(some 12), .mv (.t 3), none⟩,
  ⟨(some 13), .fadr 0 (.t 5), none⟩,
  ⟨(some 14), .load1 (.t 13), none⟩,
  ⟨(some 15), .fadr 1 (.t 5), none⟩,
  ⟨(some 16), .load1 (.t 15), none⟩,
  ⟨(some 17), .build [.sc (.int .i64 0), .sc (.int .i64 0)] [(0, 1, (.t 14)), (1, 1, (.t 16))], none⟩,
  ⟨(some 18), .bslice [.sc (.int .i64 0), .sc (.int .i64 0)] 1 2 [(0, 2, (.t 17))], none⟩,
  ⟨(some 19), .app 2 16 (.t 12) (.t 18), none⟩,
  ⟨(some 3), .mv (.t 19), none⟩]
def r42_6 : List SOper := [
  ⟨(some 20), .bin .add (.t 8) (.c (.one (.sc (.int .i64 1)))), none⟩,
  ⟨(some 8), .mv (.t 20), none⟩]
def l42_0 : SC := (.seq (.reg r42_3) (.seq (.cond (.t 9) .skip (.exit 0)) (.seq (.block 1 (.seq (.reg r42_4) (.reg r42_5))) (.reg r42_6))))
def r42_7 : List SOper := [
  ⟨(some 21), .mv (.t 3), none⟩,
  ⟨(some 2), .mv (.t 21), none⟩]
def c42 : SC := (.seq (.reg r42_0) (.seq (.reg r42_1) (.seq (.seq (.reg r42_2) (.block 0 (.loop l42_0))) (.seq (.reg r42_7) .ret))))
/-- limner/limnerlaw05.ref -/
def F42 : SFun := ⟨22, c42, [.tmp 2]⟩

def r43_0 : List SOper := [
  ⟨(some 6), .mv (.c (.one (.sc (.int .i64 0)))), none⟩,
  ⟨(some 7), .mv (.c (.one (.sc (.int .i64 0)))), none⟩]
def r43_1 : List SOper := [
  ⟨(some 12), .mv (.t 0), none⟩,
  ⟨(some 13), .len (.t 12), none⟩,
  ⟨(some 14), .mv (.t 1), none⟩,
  ⟨(some 15), .mv (.t 2), none⟩,
  ⟨(some 16), .call .k 62 [(.t 13), (.t 14), (.t 15)], none⟩,
  ⟨(some 8), .mv (.t 16), none⟩]
def r43_2 : List SOper := [
  ⟨(some 9), .mv (.c (.one (.sc (.int .i64 0)))), none⟩,
  ⟨(some 10), .mv (.c (.one (.sc (.int .i64 0)))), none⟩]
def r43_3 : List SOper := [
  ⟨(some 11), .mv (.c (.one (.sc (.int .i64 0)))), none⟩]
def r43_4 : List SOper := [
  ⟨(some 17), .mv (.t 11), none⟩,
  ⟨(some 18), .mv (.t 0), none⟩,
  ⟨(some 19), .len (.t 18), none⟩,
  ⟨(some 20), .bin .lss (.t 17) (.t 19), none⟩]
def r43_6 : List SOper := [
  ⟨(some 23), .mv (.t 9), none⟩,
  ⟨(some 24), .mv (.t 8), none⟩,
  ⟨(some 25), .mv (.t 11), none⟩,
  ⟨(some 26), .iadrS 1 (.t 24) (.t 25), none⟩,
  ⟨(some 27), .load1 (.t 26), none⟩,
  ⟨(some 28), .mv (.t 0), none⟩,
  ⟨(some 29), .mv (.t 11), none⟩,
  ⟨(some 30), .iadrS 2 (.t 28) (.t 29), none⟩,
  ⟨(some 31), .fadr 0 (.t 30), none⟩,
  ⟨(some 32), .load1 (.t 31), none⟩,
  ⟨(some 33), .bin .mul (.t 27) (.t 32), none⟩,
  ⟨(some 34), .bin .add (.t 23) (.t 33), none⟩,
  ⟨(some 9), .mv (.t 34), none⟩]
def r43_7 : List SOper := [
  ⟨(some 35), .mv (.t 10), none⟩,
  ⟨(some 36), .mv (.t 8), none⟩,
  ⟨(some 37), .mv (.t 11), none⟩,
  ⟨(some 38), .iadrS 1 (.t 36) (.t 37), none⟩,
  ⟨(some 39), .load1 (.t 38), none⟩,
  ⟨(some 40), .mv (.t 0), none⟩,
  ⟨(some 41), .mv (.t 11), none⟩,
  ⟨(some 42), .iadrS 2 (.t 40) (.t 41), none⟩,
  ⟨(some 43), .fadr 1 (.t 42), none⟩,
  ⟨(some 44), .load1 (.t 43), none⟩,
  ⟨(some 45), .bin .mul (.t 39) (.t 44), none⟩,
  ⟨(some 46), .bin .add (.t 35) (.t 45), none⟩,
  ⟨(some 10), .mv (.t 46), none⟩]
def r43_5 : List SOper := [
  ⟨(some 21), .mv (.t 11), none⟩,
  ⟨(some 22), .bin .add (.t 21) (.c (.one (.sc (.int .i64 1)))), none⟩,
  ⟨(some 11), .mv (.t 22), none⟩]
def l43_0 : SC := (.seq (.seq (.reg r43_4) (.cond (.t 20) .skip (.exit 0))) (.seq (.block 1 (.seq (.reg r43_6) (.reg r43_7))) (.reg r43_5)))
def r43_8 : List SOper := [
  ⟨(some 47), .mv (.t 9), none⟩,
  ⟨(some 48), .mv (.t 10), none⟩,
  ⟨(some 6), .mv (.t 47), none⟩,
  ⟨(some 7), .mv (.t 48), none⟩]
def c43 : SC := (.seq (.reg r43_0) (.seq (.reg r43_1) (.seq (.reg r43_2) (.seq (.seq (.reg r43_3) (.block 0 (.loop l43_0))) (.seq (.reg r43_8) .ret)))))
/-- limner/limnerref05.At -/
def F43 : SFun := ⟨49, c43, [.tmp 6, .tmp 7]⟩

def r44_0 : List SOper := [
  ⟨(some 4), .alloc [.sc (.int .i64 0), .sc (.int .i64 0)], none⟩]
def r44_1 : List SOper := [
  ⟨(some 5), .mv (.t 0), none⟩,
  ⟨(some 6), .mv (.t 1), none⟩,
  ⟨(some 7), .build [.sc (.int .i64 0), .sc (.int .i64 0)] [(0, 1, (.t 5)), (1, 1, (.t 6))], none⟩,
  ⟨none, .store 2 (.t 4) (.t 7), none⟩]
def c44 : SC := (.seq (.reg r44_0) (.seq (.reg r44_1) .ret))
/-- limner/limnerlaw05.at -/
def F44 : SFun := ⟨8, c44, [.cellA 4 2]⟩

def r45_0 : List SOper := [
  ⟨(some 2), .mv (.c (.one (.sc (.slice none 0 0)))), none⟩,
  ⟨(some 3), .mv (.c (.one (.sc (.slice none 0 0)))), none⟩,
  ⟨(some 4), .mv (.c (.one (.sc (.int .i64 0)))), none⟩]
def r45_1 : List SOper := [
  ⟨(some 8), .mv (.t 0), none⟩,
  ⟨(some 9), .call .q 59 [(.t 8)], none⟩,
  ⟨(some 5), .mv (.t 9), none⟩]
def r45_2 : List SOper := [
  ⟨(some 10), .mv (.t 5), none⟩,
  ⟨(some 11), .bin .neq (.t 10) (.c (.one (.sc (.int .i64 0)))), none⟩]
def r45_3 : List SOper := [
  ⟨(some 12), .mv (.t 5), none⟩,
  ⟨(some 2), .mv (.c (.one (.sc (.slice none 0 0)))), none⟩,
  ⟨(some 3), .mv (.c (.one (.sc (.slice none 0 0)))), none⟩,
  ⟨(some 4), .mv (.t 12), none⟩]
def r45_4 : List SOper := [
  ⟨(some 14), .mv (.t 0), none⟩,
  ⟨(some 15), .call .q 60 [(.t 14)], none⟩,
  ⟨(some 16), .call (.z 0) 61 [(.t 15)], none⟩,
  ⟨(some 13), .mv (.t 16), none⟩,
  ⟨(some 17), .ext (.t 13) 0, none⟩,
  ⟨(some 18), .ext (.t 13) 1, none⟩,
  ⟨(some 6), .alloc (List.replicate 9 (.sc (.int .i64 0))), none⟩,
  ⟨(some 7), .alloc (List.replicate 9 (.sc (.int .i64 0))), none⟩,
  ⟨none, .store 9 (.t 6) (.t 17), none⟩,
  ⟨none, .store 9 (.t 7) (.t 18), none⟩]
def r45_5 : List SOper := [
  ⟨(some 19), .fadr 0 (.t 6), none⟩,
  ⟨(some 20), .fadr 8 (.t 6), none⟩,
  ⟨(some 21), .load1 (.t 20), none⟩,
  ⟨(some 22), .slA 4 2 (.t 19) none (some (.t 21)) none, none⟩,
  ⟨(some 23), .call .k 63 [(.t 22)], none⟩,
  ⟨(some 24), .fadr 0 (.t 7), none⟩,
  ⟨(some 25), .fadr 8 (.t 7), none⟩,
  ⟨(some 26), .load1 (.t 25), none⟩,
  ⟨(some 27), .slA 4 2 (.t 24) none (some (.t 26)) none, none⟩,
  ⟨(some 28), .call .k 63 [(.t 27)], none⟩,
  ⟨(some 2), .mv (.t 23), none⟩,
  ⟨(some 3), .mv (.t 28), none⟩,
  ⟨(some 4), .mv (.c (.one (.sc (.int .i64 0)))), none⟩]
def c45 : SC := (.seq (.reg r45_0) (.seq (.seq (.reg r45_1) (.seq (.reg r45_2) (.cond (.t 11) (.seq (.reg r45_3) .ret) .skip))) (.seq (.reg r45_4) (.seq (.reg r45_5) .ret))))
/-- limner/curve.Halves -/
def F45 : SFun := ⟨29, c45, [.tmp 2, .tmp 3, .tmp 4]⟩

def r46_0 : List SOper := [
  ⟨(some 2), .mv (.c (.one (.sc (.slice none 0 0)))), none⟩,
  ⟨(some 3), .mv (.c (.one (.sc (.slice none 0 0)))), none⟩]
def r46_1 : List SOper := [
  ⟨(some 4), .mv (.c (.one (.sc (.slice none 0 0)))), none⟩,
  ⟨(some 5), .mv (.c (.one (.sc (.slice none 0 0)))), none⟩]
def r46_2 : List SOper := [
  ⟨(some 8), .mv (.t 0), none⟩,
  ⟨(some 9), .len (.t 8), none⟩,
  ⟨(some 10), .bin .gtr (.t 9) (.c (.one (.sc (.int .i64 0)))), none⟩]
def r46_3 : List SOper := [
  ⟨(some 11), .mv (.t 4), none⟩,
  ⟨(some 12), .mv (.t 0), none⟩,
  ⟨(some 13), .iadrS 2 (.t 12) (.c (.one (.sc (.int .i64 0)))), none⟩,
  ⟨(some 14), .loadA 2 (.t 13), none⟩,
  ⟨(some 15), .bslice [.sc (.int .i64 0), .sc (.int .i64 0)] 1 2 [(0, 2, (.t 14))], none⟩,
  ⟨(some 16), .app 2 16 (.t 11) (.t 15), none⟩,
  ⟨(some 4), .mv (.t 16), none⟩]
def r46_4 : List SOper := [
  ⟨(some 17), .mv (.t 0), none⟩,
  ⟨(some 18), .mv (.t 0), none⟩,
  ⟨(some 19), .len (.t 18), none⟩,
  ⟨(some 20), .bin .sub (.t 19) (.c (.one (.sc (.int .i64 1)))), none⟩,
  ⟨(some 21), .iadrS 2 (.t 17) (.t 20), none⟩,
  ⟨(some 22), .loadA 2 (.t 21), none⟩,
  ⟨(some 23), .bslice [.sc (.int .i64 0), .sc (.int .i64 0)] 1 2 [(0, 2, (.t 22))], none⟩,
  ⟨(some 24), .mv (.t 5), none⟩,
  ⟨(some 25), .app 2 16 (.t 23) (.t 24), none⟩,
  ⟨(some 5), .mv (.t 25), none⟩]
def r46_5 : List SOper := [
  ⟨(some 6), .mv (.c (.one (.sc (.slice none 0 0)))), none⟩]
def r46_6 : List SOper := [
  ⟨(some 7), .mv (.c (.one (.sc (.int .i64 0)))), none⟩]
def r46_7 : List SOper := [
  ⟨(some 26), .mv (.t 7), none⟩,
  ⟨(some 27), .bin .add (.t 26) (.c (.one (.sc (.int .i64 1)))), none⟩,
  ⟨(some 28), .mv (.t 0), none⟩,
  ⟨(some 29), .len (.t 28), none⟩,
  ⟨(some 30), .bin .lss (.t 27) (.t 29), none⟩]
def r46_9 : List SOper := [
  ⟨(some 33), .mv (.t 6), none⟩,
  ⟨(some 34), .mv (.t 0), none⟩,
  ⟨(some 35), .mv (.t 7), none⟩,
  ⟨(some 36), .iadrS 2 (.t 34) (.t 35), none⟩,
  ⟨(some 37), .loadA 2 (.t 36), none⟩,
  ⟨(some 38), .mv (.t 0), none⟩,
  ⟨(some 39), .mv (.t 7), none⟩,
  ⟨(some 40), .bin .add (.t 39) (.c (.one (.sc (.int .i64 1)))), none⟩,
  ⟨(some 41), .iadrS 2 (.t 38) (.t 40), none⟩,
  ⟨(some 42), .loadA 2 (.t 41), none⟩,
  ⟨(some 43), .call (.z 0) 48 [(.t 37), (.t 42)], none⟩,
  ⟨(some 44), .bslice [.sc (.int .i64 0), .sc (.int .i64 0)] 1 2 [(0, 2, (.t 43))], none⟩,
  ⟨(some 45), .app 2 16 (.t 33) (.t 44), none⟩,
  ⟨(some 6), .mv (.t 45), none⟩]
def r46_8 : List SOper := [
  ⟨(some 31), .mv (.t 7), none⟩,
  ⟨(some 32), .bin .add (.t 31) (.c (.one (.sc (.int .i64 1)))), none⟩,
  ⟨(some 7), .mv (.t 32), none⟩]
def l46_0 : SC := (.seq (.seq (.reg r46_7) (.cond (.t 30) .skip (.exit 2))) (.seq (.block 3 (.reg r46_9)) (.reg r46_8)))
def r46_10 : List SOper := [
  ⟨(some 46), .mv (.t 6), none⟩,
  ⟨(some 0), .mv (.t 46), none⟩]
def l46_1 : SC := (.seq (.seq (.reg r46_2) (.cond (.t 10) .skip (.exit 0))) (.block 1 (.seq (.reg r46_3) (.seq (.reg r46_4) (.seq (.reg r46_5) (.seq (.seq (.reg r46_6) (.block 2 (.loop l46_0))) (.reg r46_10)))))))
def r46_11 : List SOper := [
  ⟨(some 47), .mv (.t 4), none⟩,
  ⟨(some 48), .mv (.t 5), none⟩,
  ⟨(some 2), .mv (.t 47), none⟩,
  ⟨(some 3), .mv (.t 48), none⟩]
def c46 : SC := (.seq (.reg r46_0) (.seq (.reg r46_1) (.seq (.block 0 (.loop l46_1)) (.seq (.reg r46_11) .ret))))
/-- limner/limnerref05.Halves -/
def F46 : SFun := ⟨49, c46, [.tmp 2, .tmp 3]⟩

def r47_0 : List SOper := [
  ⟨(some 2), .box (.t 0), none⟩,
  ⟨(some 3), .box (.t 1), none⟩,
  ⟨(some 4), .alloc [.sc (.int .i64 0), .sc (.int .i64 0)], none⟩]
def r47_1 : List SOper := [
  ⟨(some 5), .fadr 0 (.t 2), none⟩,
  ⟨(some 6), .load1 (.t 5), none⟩,
  ⟨(some 7), .fadr 0 (.t 3), none⟩,
  ⟨(some 8), .load1 (.t 7), none⟩,
  ⟨(some 9), .bin .add (.t 6) (.t 8), none⟩,
  ⟨(some 10), .bin .shr (.t 9) (.c (.one (.sc (.int .u64 1)))), none⟩,
  ⟨(some 11), .fadr 1 (.t 2), none⟩,
  ⟨(some 12), .load1 (.t 11), none⟩,
  ⟨(some 13), .fadr 1 (.t 3), none⟩,
  ⟨(some 14), .load1 (.t 13), none⟩,
  ⟨(some 15), .bin .add (.t 12) (.t 14), none⟩,
  ⟨(some 16), .bin .shr (.t 15) (.c (.one (.sc (.int .u64 1)))), none⟩,
  ⟨(some 17), .build [.sc (.int .i64 0), .sc (.int .i64 0)] [(0, 1, (.t 10)), (1, 1, (.t 16))], none⟩,
  ⟨none, .store 2 (.t 4) (.t 17), none⟩]
def c47 : SC := (.seq (.reg r47_0) (.seq (.reg r47_1) .ret))
/-- limner/curve.Mid -/
def F47 : SFun := ⟨18, c47, [.cellA 4 2]⟩

def r48_0 : List SOper := [
  ⟨(some 2), .box (.t 0), none⟩,
  ⟨(some 3), .box (.t 1), none⟩,
  ⟨(some 4), .alloc [.sc (.int .i64 0), .sc (.int .i64 0)], none⟩]
def r48_1 : List SOper := [
  ⟨(some 5), .fadr 0 (.t 2), none⟩,
  ⟨(some 6), .load1 (.t 5), none⟩,
  ⟨(some 7), .fadr 0 (.t 3), none⟩,
  ⟨(some 8), .load1 (.t 7), none⟩,
  ⟨(some 9), .bin .add (.t 6) (.t 8), none⟩,
  ⟨(some 10), .call (.z 0) 64 [(.t 9), (.c (.one (.sc (.int .i64 2))))], none⟩,
  ⟨(some 11), .fadr 1 (.t 2), none⟩,
  ⟨(some 12), .load1 (.t 11), none⟩,
  ⟨(some 13), .fadr 1 (.t 3), none⟩,
  ⟨(some 14), .load1 (.t 13), none⟩,
  ⟨(some 15), .bin .add (.t 12) (.t 14), none⟩,
  ⟨(some 16), .call (.z 0) 64 [(.t 15), (.c (.one (.sc (.int .i64 2))))], none⟩,
  ⟨(some 17), .build [.sc (.int .i64 0), .sc (.int .i64 0)] [(0, 1, (.t 10)), (1, 1, (.t 16))], none⟩,
  ⟨none, .store 2 (.t 4) (.t 17), none⟩]
def c48 : SC := (.seq (.reg r48_0) (.seq (.reg r48_1) .ret))
/-- limner/limnerref05.Mid -/
def F48 : SFun := ⟨18, c48, [.cellA 4 2]⟩

def r49_0 : List SOper := [
  ⟨(some 2), .alloc [.sc (.int .i64 0), .sc (.int .i64 0), .sc (.int .i64 0), .sc (.int .i64 0)], none⟩]
def r49_1 : List SOper := [
  ⟨(some 3), .mv (.t 0), none⟩,
  ⟨(some 4), .call .q 31 [(.t 3)], none⟩,
  ⟨none, .store 4 (.t 2) (.t 4), none⟩]
def c49 : SC := (.seq (.reg r49_0) (.seq (.reg r49_1) .ret))
/-- limner/curve.Bound -/
def F49 : SFun := ⟨5, c49, [.cellA 2 4]⟩

def r50_0 : List SOper := [
  ⟨(some 1), .box (.t 0), none⟩,
  ⟨(some 2), .mv (.c (.one (.sc (.bool false)))), none⟩]
def r50_1 : List SOper := [
  ⟨(some 3), .fadr 0 (.t 1), none⟩,
  ⟨(some 4), .load1 (.t 3), none⟩,
  ⟨(some 5), .call (.z 0) 52 [(.t 4)], none⟩,
  ⟨(some 6), .mv (.t 5), none⟩,
  ⟨(some 7), .fadr 1 (.t 1), (some (some 6, true))⟩,
  ⟨(some 8), .load1 (.t 7), (some (some 6, true))⟩,
  ⟨(some 9), .call (.z 0) 52 [(.t 8)], (some (some 6, true))⟩,
  ⟨(some 10), .pick (.t 6) (.t 9) (.c (.one (.sc (.bool false)))), none⟩,
  ⟨(some 2), .mv (.t 10), none⟩]
def c50 : SC := (.seq (.reg r50_0) (.seq (.reg r50_1) .ret))
/-- (limner/geom.Point).In -/
def F50 : SFun := ⟨11, c50, [.tmp 2]⟩

def r51_0 : List SOper := [
  ⟨(some 8), .mv (.c (.one (.sc (.int .i64 0)))), none⟩]
def r51_1 : List SOper := [
  ⟨(some 9), .mv (.t 0), none⟩,
  ⟨(some 10), .mv (.t 1), none⟩,
  ⟨(some 11), .bin .mul (.t 9) (.t 10), none⟩,
  ⟨(some 12), .mv (.t 2), none⟩,
  ⟨(some 13), .mv (.t 3), none⟩,
  ⟨(some 14), .bin .mul (.t 12) (.t 13), none⟩,
  ⟨(some 15), .bin .add (.t 11) (.t 14), none⟩,
  ⟨(some 16), .bin .add (.t 15) (.c (.one (.sc (.int .i64 32768)))), none⟩,
  ⟨(some 17), .bin .shr (.t 16) (.c (.one (.sc (.int .u64 16)))), none⟩,
  ⟨(some 8), .mv (.t 17), none⟩]
def c51 : SC := (.seq (.reg r51_0) (.seq (.reg r51_1) .ret))
/-- limner/affine.mix -/
def F51 : SFun := ⟨18, c51, [.tmp 8]⟩

def r52_0 : List SOper := [
  ⟨(some 2), .mv (.c (.one (.sc (.bool false)))), none⟩]
def r52_1 : List SOper := [
  ⟨(some 3), .mv (.t 0), none⟩,
  ⟨(some 4), .bin .geq (.t 3) (.c (.one (.sc (.int .i64 (-2147483648))))), none⟩,
  ⟨(some 5), .mv (.t 4), none⟩,
  ⟨(some 6), .mv (.t 0), (some (some 5, true))⟩,
  ⟨(some 7), .bin .leq (.t 6) (.c (.one (.sc (.int .i64 2147483648)))), (some (some 5, true))⟩,
  ⟨(some 8), .pick (.t 5) (.t 7) (.c (.one (.sc (.bool false)))), none⟩,
  ⟨(some 2), .mv (.t 8), none⟩]
def c52 : SC := (.seq (.reg r52_0) (.seq (.reg r52_1) .ret))
/-- limner/fixed.In -/
def F52 : SFun := ⟨9, c52, [.tmp 2]⟩

def r54_0 : List SOper := [
  ⟨(some 1), .box (.t 0), none⟩,
  ⟨(some 2), .mv (.c (.one (.sc (.bool false)))), none⟩]
def r54_1 : List SOper := [
  ⟨(some 3), .fadr 0 (.t 1), none⟩,
  ⟨(some 4), .load1 (.t 3), none⟩,
  ⟨(some 5), .fadr 2 (.t 1), none⟩,
  ⟨(some 6), .load1 (.t 5), none⟩,
  ⟨(some 7), .bin .geq (.t 4) (.t 6), none⟩,
  ⟨(some 8), .mv (.t 7), none⟩,
  ⟨(some 9), .fadr 1 (.t 1), (some (some 8, false))⟩,
  ⟨(some 10), .load1 (.t 9), (some (some 8, false))⟩,
  ⟨(some 11), .fadr 3 (.t 1), (some (some 8, false))⟩,
  ⟨(some 12), .load1 (.t 11), (some (some 8, false))⟩,
  ⟨(some 13), .bin .geq (.t 10) (.t 12), (some (some 8, false))⟩,
  ⟨(some 14), .pick (.t 8) (.c (.one (.sc (.bool true)))) (.t 13), none⟩,
  ⟨(some 2), .mv (.t 14), none⟩]
def c54 : SC := (.seq (.reg r54_0) (.seq (.reg r54_1) .ret))
/-- (limner/geom.Box).Empty -/
def F54 : SFun := ⟨15, c54, [.tmp 2]⟩

def r55_0 : List SOper := [
  ⟨(some 2), .box (.t 0), none⟩,
  ⟨(some 3), .box (.t 1), none⟩,
  ⟨(some 4), .alloc [.sc (.int .i64 0), .sc (.int .i64 0), .sc (.int .i64 0), .sc (.int .i64 0)], none⟩]
def r55_1 : List SOper := [
  ⟨(some 6), .loadA 4 (.t 2), none⟩,
  ⟨(some 7), .call (.z 0) 54 [(.t 6)], none⟩,
  ⟨(some 8), .mv (.t 7), none⟩,
  ⟨(some 9), .loadA 4 (.t 3), (some (some 8, true))⟩,
  ⟨(some 10), .call (.z 0) 54 [(.t 9)], (some (some 8, true))⟩,
  ⟨(some 11), .pick (.t 8) (.t 10) (.c (.one (.sc (.bool false)))), none⟩,
  ⟨(some 5), .mv (.t 11), none⟩]
def r55_2 : List SOper := [
  ⟨(some 12), .build [.sc (.int .i64 0), .sc (.int .i64 0), .sc (.int .i64 0), .sc (.int .i64 0)] [], none⟩,
  ⟨none, .store 4 (.t 4) (.t 12), none⟩]
def r55_3 : List SOper := [
  ⟨(some 14), .loadA 4 (.t 2), none⟩,
  ⟨(some 15), .call (.z 0) 54 [(.t 14)], none⟩,
  ⟨(some 13), .mv (.t 15), none⟩]
def r55_4 : List SOper := [
  ⟨(some 16), .loadA 4 (.t 3), none⟩,
  ⟨none, .store 4 (.t 4) (.t 16), none⟩]
def r55_5 : List SOper := [
  ⟨(some 18), .loadA 4 (.t 3), none⟩,
  ⟨(some 19), .call (.z 0) 54 [(.t 18)], none⟩,
  ⟨(some 17), .mv (.t 19), none⟩]
def r55_6 : List SOper := [
  ⟨(some 20), .loadA 4 (.t 2), none⟩,
  ⟨none, .store 4 (.t 4) (.t 20), none⟩]
def r55_7 : List SOper := [
  ⟨(some 21), .fadr 0 (.t 2), none⟩,
  ⟨(some 22), .load1 (.t 21), none⟩,
  ⟨(some 23), .fadr 0 (.t 3), none⟩,
  ⟨(some 24), .load1 (.t 23), none⟩,
  ⟨(some 25), .mn [(.t 22), (.t 24)], none⟩,
  ⟨(some 26), .fadr 1 (.t 2), none⟩,
  ⟨(some 27), .load1 (.t 26), none⟩,
  ⟨(some 28), .fadr 1 (.t 3), none⟩,
  ⟨(some 29), .load1 (.t 28), none⟩,
  ⟨(some 30), .mn [(.t 27), (.t 29)], none⟩,
  ⟨(some 31), .fadr 2 (.t 2), none⟩,
  ⟨(some 32), .load1 (.t 31), none⟩,
  ⟨(some 33), .fadr 2 (.t 3), none⟩,
  ⟨(some 34), .load1 (.t 33), none⟩,
  ⟨(some 35), .mx [(.t 32), (.t 34)], none⟩,
  ⟨(some 36), .fadr 3 (.t 2), none⟩,
  ⟨(some 37), .load1 (.t 36), none⟩,
  ⟨(some 38), .fadr 3 (.t 3), none⟩,
  ⟨(some 39), .load1 (.t 38), none⟩,
  ⟨(some 40), .mx [(.t 37), (.t 39)], none⟩,
  ⟨(some 41), .build [.sc (.int .i64 0), .sc (.int .i64 0), .sc (.int .i64 0), .sc (.int .i64 0)] [(0, 1, (.t 25)), (1, 1, (.t 30)), (2, 1, (.t 35)), (3, 1, (.t 40))], none⟩,
  ⟨none, .store 4 (.t 4) (.t 41), none⟩]
def c55 : SC := (.seq (.reg r55_0) (.seq (.block 0 (.seq (.reg r55_1) (.cond (.t 5) (.seq (.reg r55_2) .ret) (.seq (.reg r55_3) (.cond (.t 13) (.seq (.reg r55_4) .ret) (.seq (.reg r55_5) (.cond (.t 17) (.seq (.reg r55_6) .ret) .skip))))))) (.seq (.reg r55_7) .ret)))
/-- (limner/geom.Box).Join -/
def F55 : SFun := ⟨42, c55, [.cellA 4 4]⟩

def r59_0 : List SOper := [
  ⟨(some 2), .mv (.c (.one (.sc (.int .i64 0)))), none⟩]
def r59_1 : List SOper := [
  ⟨(some 3), .mv (.t 0), none⟩,
  ⟨(some 4), .len (.t 3), none⟩,
  ⟨(some 5), .bin .lss (.t 4) (.c (.one (.sc (.int .i64 3)))), none⟩,
  ⟨(some 6), .mv (.t 5), none⟩,
  ⟨(some 7), .mv (.t 0), (some (some 6, false))⟩,
  ⟨(some 8), .len (.t 7), (some (some 6, false))⟩,
  ⟨(some 9), .bin .gtr (.t 8) (.c (.one (.sc (.int .i64 4)))), (some (some 6, false))⟩,
  ⟨(some 10), .pick (.t 6) (.c (.one (.sc (.bool true)))) (.t 9), none⟩,
  ⟨(some 11), .mv (.t 10), none⟩,
  ⟨(some 12), .mv (.t 0), (some (some 11, false))⟩,
  ⟨(some 13), .call .q 66 [(.t 12), (.f 67)], (some (some 11, false))⟩,
  ⟨(some 14), .pick (.t 11) (.c (.one (.sc (.bool true)))) (.t 13), none⟩]
def r59_2 : List SOper := [
  ⟨(some 2), .mv (.c (.one (.sc (.int .i64 30)))), none⟩]
def r59_3 : List SOper := [
  ⟨(some 2), .mv (.c (.one (.sc (.int .i64 0)))), none⟩]
def c59 : SC := (.seq (.reg r59_0) (.seq (.seq (.reg r59_1) (.cond (.t 14) (.seq (.reg r59_2) .ret) .skip)) (.seq (.reg r59_3) .ret)))
/-- limner/curve.check -/
def F59 : SFun := ⟨15, c59, [.tmp 2]⟩

def r60_0 : List SOper := [
  ⟨(some 2), .alloc (List.replicate 9 (.sc (.int .i64 0))), none⟩]
def r60_1 : List SOper := [
  ⟨(some 4), .mv (.t 0), none⟩,
  ⟨(some 5), .len (.t 4), none⟩,
  ⟨(some 6), .build (List.replicate 9 (.sc (.int .i64 0))) [(8, 1, (.t 5))], none⟩,
  ⟨(some 3), .alloc (List.replicate 9 (.sc (.int .i64 0))), none⟩,
  ⟨none, .store 9 (.t 3) (.t 6), none⟩]
def r60_2 : List SOper := [
  ⟨(some 7), .fadr 0 (.t 3), none⟩,
  ⟨(some 8), .slA 4 2 (.t 7) none none none, none⟩,
  ⟨(some 9), .mv (.t 0), none⟩,
  ⟨(some 10), .cpy 2 (.t 8) (.t 9), none⟩]
def r60_3 : List SOper := [
  ⟨(some 11), .loadA 9 (.t 3), none⟩,
  ⟨none, .store 9 (.t 2) (.t 11), none⟩]
def c60 : SC := (.seq (.reg r60_0) (.seq (.reg r60_1) (.seq (.reg r60_2) (.seq (.reg r60_3) .ret))))
/-- limner/curve.rowOf -/
def F60 : SFun := ⟨12, c60, [.cellA 2 9]⟩

def r61_0 : List SOper := [
  ⟨(some 1), .box (.t 0), none⟩,
  ⟨(some 2), .alloc (List.replicate 9 (.sc (.int .i64 0))), none⟩,
  ⟨(some 3), .alloc (List.replicate 9 (.sc (.int .i64 0))), none⟩]
def r61_1 : List SOper := [
  ⟨(some 7), .fadr 8 (.t 1), none⟩,
  ⟨(some 8), .load1 (.t 7), none⟩,
  ⟨(some 9), .fadr 8 (.t 1), none⟩,
  ⟨(some 10), .load1 (.t 9), none⟩,
  ⟨(some 11), .fadr 8 (.t 2), none⟩,
  ⟨none, .store 1 (.t 11) (.t 8), none⟩,
  ⟨(some 12), .fadr 8 (.t 3), none⟩,
  ⟨none, .store 1 (.t 12) (.t 10), none⟩]
def r61_2 : List SOper := [
  ⟨(some 13), .fadr 8 (.t 1), none⟩,
  ⟨(some 14), .load1 (.t 13), none⟩,
  ⟨(some 15), .mv (.c (.one (.sc (.int .i64 0)))), none⟩]
def r61_3 : List SOper := [
  ⟨(some 16), .bin .lss (.t 15) (.t 14), none⟩]
def r61_4 : List SOper := [
  ⟨(some 17), .mv (.t 15), none⟩,
  ⟨(some 4), .mv (.t 17), none⟩]
def r61_5 : List SOper := [
  ⟨(some 18), .fadr 8 (.t 1), none⟩,
  ⟨(some 19), .load1 (.t 18), none⟩,
  ⟨(some 20), .bin .sub (.t 19) (.c (.one (.sc (.int .i64 1)))), none⟩,
  ⟨(some 21), .mv (.t 4), none⟩,
  ⟨(some 22), .bin .sub (.t 20) (.t 21), none⟩,
  ⟨(some 5), .mv (.t 22), none⟩]
def r61_6 : List SOper := [
  ⟨(some 23), .mv (.t 4), none⟩,
  ⟨(some 24), .mv (.t 5), none⟩,
  ⟨(some 25), .fadr 0 (.t 1), none⟩,
  ⟨(some 26), .iadrA 4 2 (.t 25) (.c (.one (.sc (.int .i64 0)))), none⟩,
  ⟨(some 27), .loadA 2 (.t 26), none⟩,
  ⟨(some 28), .mv (.t 5), none⟩,
  ⟨(some 29), .fadr 0 (.t 1), none⟩,
  ⟨(some 30), .iadrA 4 2 (.t 29) (.t 28), none⟩,
  ⟨(some 31), .loadA 2 (.t 30), none⟩,
  ⟨(some 32), .fadr 0 (.t 2), none⟩,
  ⟨(some 33), .iadrA 4 2 (.t 32) (.t 23), none⟩,
  ⟨none, .store 2 (.t 33) (.t 27), none⟩,
  ⟨(some 34), .fadr 0 (.t 3), none⟩,
  ⟨(some 35), .iadrA 4 2 (.t 34) (.t 24), none⟩,
  ⟨none, .store 2 (.t 35) (.t 31), none⟩]
def r61_7 : List SOper := [
  ⟨(some 36), .mv (.t 5), none⟩,
  ⟨(some 37), .mv (.c (.one (.sc (.int .i64 0)))), none⟩]
def r61_8 : List SOper := [
  ⟨(some 38), .bin .lss (.t 37) (.t 36), none⟩]
def r61_9 : List SOper := [
  ⟨(some 39), .mv (.t 37), none⟩,
  ⟨(some 6), .mv (.t 39), none⟩]
def r61_10 : List SOper := [
  ⟨(some 40), .mv (.t 6), none⟩,
  ⟨(some 41), .mv (.t 6), none⟩,
  ⟨(some 42), .fadr 0 (.t 1), none⟩,
  ⟨(some 43), .iadrA 4 2 (.t 42) (.t 41), none⟩,
  ⟨(some 44), .loadA 2 (.t 43), none⟩,
  ⟨(some 45), .mv (.t 6), none⟩,
  ⟨(some 46), .bin .add (.t 45) (.c (.one (.sc (.int .i64 1)))), none⟩,
  ⟨(some 47), .fadr 0 (.t 1), none⟩,
  ⟨(some 48), .iadrA 4 2 (.t 47) (.t 46), none⟩,
  ⟨(some 49), .loadA 2 (.t 48), none⟩,
  ⟨(some 50), .call (.z 0) 47 [(.t 44), (.t 49)], none⟩,
  ⟨(some 51), .fadr 0 (.t 1), none⟩,
  ⟨(some 52), .iadrA 4 2 (.t 51) (.t 40), none⟩,
  ⟨none, .store 2 (.t 52) (.t 50), none⟩]
def r61_11 : List SOper := [
  ⟨(some 53), .bin .add (.t 37) (.c (.one (.sc (.int .i64 1)))), none⟩,
  ⟨(some 37), .mv (.t 53), none⟩]
def l61_0 : SC := (.seq (.reg r61_8) (.seq (.cond (.t 38) .skip (.exit 2)) (.seq (.block 3 (.seq (.reg r61_9) (.reg r61_10))) (.reg r61_11))))
def r61_12 : List SOper := [
  ⟨(some 54), .bin .add (.t 15) (.c (.one (.sc (.int .i64 1)))), none⟩,
  ⟨(some 15), .mv (.t 54), none⟩]
def l61_1 : SC := (.seq (.reg r61_3) (.seq (.cond (.t 16) .skip (.exit 0)) (.seq (.block 1 (.seq (.reg r61_4) (.seq (.reg r61_5) (.seq (.dreg [(30, 33)] r61_6) (.seq (.reg r61_7) (.block 2 (.loop l61_0))))))) (.reg r61_12))))
def r61_13 : List SOper := [
  ⟨(some 55), .loadA 9 (.t 2), none⟩,
  ⟨(some 56), .loadA 9 (.t 3), none⟩,
  ⟨none, .store 9 (.t 2) (.t 55), none⟩,
  ⟨none, .store 9 (.t 3) (.t 56), none⟩]
def c61 : SC := (.seq (.reg r61_0) (.seq (.dreg [(9, 11)] r61_1) (.seq (.seq (.reg r61_2) (.block 0 (.loop l61_1))) (.seq (.dreg [(3, 2)] r61_13) .ret))))
/-- (limner/curve.row).halves -/
def F61 : SFun := ⟨57, c61, [.cellA 2 9, .cellA 3 9]⟩

def r62_0 : List SOper := [
  ⟨(some 6), .mv (.c (.one (.sc (.slice none 0 0)))), none⟩]
def r62_1 : List SOper := [
  ⟨(some 12), .bslice [.sc (.int .i64 0)] 1 1 [(0, 1, (.c (.one (.sc (.int .i64 1)))))], none⟩,
  ⟨(some 7), .mv (.t 12), none⟩]
def r62_2 : List SOper := [
  ⟨(some 13), .mv (.t 2), none⟩,
  ⟨(some 14), .bin .shl (.c (.one (.sc (.int .i64 1)))) (.t 13), none⟩,
  ⟨(some 8), .mv (.t 14), none⟩]
def r62_3 : List SOper := [
  ⟨(some 9), .mv (.c (.one (.sc (.int .i64 1)))), none⟩]
def r62_4 : List SOper := [
  ⟨(some 15), .mv (.t 9), none⟩,
  ⟨(some 16), .mv (.t 0), none⟩,
  ⟨(some 17), .bin .lss (.t 15) (.t 16), none⟩]
def r62_6 : List SOper := [
  ⟨(some 20), .mv (.t 9), none⟩,
  ⟨(some 21), .bin .add (.t 20) (.c (.one (.sc (.int .i64 1)))), none⟩,
  ⟨(some 22), .mkslice [.sc (.int .i64 0)] 8 1 (.t 21) (.t 21), none⟩,
  ⟨(some 10), .mv (.t 22), none⟩]
def r62_7 : List SOper := [
  ⟨(some 11), .mv (.c (.one (.sc (.int .i64 0)))), none⟩]
def r62_8 : List SOper := [
  ⟨(some 23), .mv (.t 11), none⟩,
  ⟨(some 24), .mv (.t 9), none⟩,
  ⟨(some 25), .bin .lss (.t 23) (.t 24), none⟩]
def r62_10 : List SOper := [
  ⟨(some 28), .mv (.t 10), none⟩,
  ⟨(some 29), .mv (.t 11), none⟩,
  ⟨(some 30), .iadrS 1 (.t 28) (.t 29), none⟩,
  ⟨(some 31), .load1 (.t 30), none⟩,
  ⟨(some 32), .mv (.t 7), none⟩,
  ⟨(some 33), .mv (.t 11), none⟩,
  ⟨(some 34), .iadrS 1 (.t 32) (.t 33), none⟩,
  ⟨(some 35), .load1 (.t 34), none⟩,
  ⟨(some 36), .mv (.t 8), none⟩,
  ⟨(some 37), .mv (.t 1), none⟩,
  ⟨(some 38), .bin .sub (.t 36) (.t 37), none⟩,
  ⟨(some 39), .bin .mul (.t 35) (.t 38), none⟩,
  ⟨(some 40), .bin .add (.t 31) (.t 39), none⟩,
  ⟨(some 41), .iadrS 1 (.t 28) (.t 29), none⟩,
  ⟨none, .store 1 (.t 41) (.t 40), none⟩]
def r62_11 : List SOper := [
  ⟨(some 42), .mv (.t 10), none⟩,
  ⟨(some 43), .mv (.t 11), none⟩,
  ⟨(some 44), .bin .add (.t 43) (.c (.one (.sc (.int .i64 1)))), none⟩,
  ⟨(some 45), .iadrS 1 (.t 42) (.t 44), none⟩,
  ⟨(some 46), .load1 (.t 45), none⟩,
  ⟨(some 47), .mv (.t 7), none⟩,
  ⟨(some 48), .mv (.t 11), none⟩,
  ⟨(some 49), .iadrS 1 (.t 47) (.t 48), none⟩,
  ⟨(some 50), .load1 (.t 49), none⟩,
  ⟨(some 51), .mv (.t 1), none⟩,
  ⟨(some 52), .bin .mul (.t 50) (.t 51), none⟩,
  ⟨(some 53), .bin .add (.t 46) (.t 52), none⟩,
  ⟨(some 54), .iadrS 1 (.t 42) (.t 44), none⟩,
  ⟨none, .store 1 (.t 54) (.t 53), none⟩]
def r62_9 : List SOper := [
  ⟨(some 26), .mv (.t 11), none⟩,
  ⟨(some 27), .bin .add (.t 26) (.c (.one (.sc (.int .i64 1)))), none⟩,
  ⟨(some 11), .mv (.t 27), none⟩]
def l62_0 : SC := (.seq (.seq (.reg r62_8) (.cond (.t 25) .skip (.exit 2))) (.seq (.block 3 (.seq (.reg r62_10) (.reg r62_11))) (.reg r62_9)))
def r62_12 : List SOper := [
  ⟨(some 55), .mv (.t 10), none⟩,
  ⟨(some 7), .mv (.t 55), none⟩]
def r62_5 : List SOper := [
  ⟨(some 18), .mv (.t 9), none⟩,
  ⟨(some 19), .bin .add (.t 18) (.c (.one (.sc (.int .i64 1)))), none⟩,
  ⟨(some 9), .mv (.t 19), none⟩]
def l62_1 : SC := (.seq (.seq (.reg r62_4) (.cond (.t 17) .skip (.exit 0))) (.seq (.block 1 (.seq (.reg r62_6) (.seq (.seq (.reg r62_7) (.block 2 (.loop l62_0))) (.reg r62_12)))) (.reg r62_5)))
def r62_13 : List SOper := [
  ⟨(some 56), .mv (.t 7), none⟩,
  ⟨(some 6), .mv (.t 56), none⟩]
def c62 : SC := (.seq (.reg r62_0) (.seq (.reg r62_1) (.seq (.reg r62_2) (.seq (.seq (.reg r62_3) (.block 0 (.loop l62_1))) (.seq (.reg r62_13) .ret)))))
/-- limner/limnerref05.weights -/
def F62 : SFun := ⟨57, c62, [.tmp 6]⟩

def r63_0 : List SOper := [
  ⟨(some 2), .mv (.c (.one (.sc (.slice none 0 0)))), none⟩]
def r63_1 : List SOper := [
  ⟨(some 3), .mv (.t 0), none⟩,
  ⟨(some 4), .eqnil 0 false (.t 3), none⟩]
def r63_2 : List SOper := [
  ⟨(some 2), .mv (.c (.one (.sc (.slice none 0 0)))), none⟩]
def r63_3 : List SOper := [
  ⟨(some 5), .bslice [] 0 2 [], none⟩,
  ⟨(some 6), .mv (.t 0), none⟩,
  ⟨(some 7), .app 2 16 (.t 5) (.t 6), none⟩,
  ⟨(some 2), .mv (.t 7), none⟩]
def c63 : SC := (.seq (.reg r63_0) (.seq (.seq (.reg r63_1) (.cond (.t 4) (.seq (.reg r63_2) .ret) .skip)) (.seq (.reg r63_3) .ret)))
/-- slices.Clone[[]limner/geom.Point,limner/geom.Point] -/
def F63 : SFun := ⟨8, c63, [.tmp 2]⟩

def r64_0 : List SOper := [
  ⟨(some 4), .mv (.c (.one (.sc (.int .i64 0)))), none⟩]
def r64_1 : List SOper := [
  ⟨(some 6), .mv (.t 0), none⟩,
  ⟨(some 7), .mv (.t 1), none⟩,
  ⟨(some 8), .bin .quo (.t 6) (.t 7), none⟩,
  ⟨(some 5), .mv (.t 8), none⟩]
def r64_2 : List SOper := [
  ⟨(some 9), .mv (.t 5), none⟩,
  ⟨(some 10), .mv (.t 1), none⟩,
  ⟨(some 11), .bin .mul (.t 9) (.t 10), none⟩,
  ⟨(some 12), .mv (.t 0), none⟩,
  ⟨(some 13), .bin .gtr (.t 11) (.t 12), none⟩]
def r64_3 : List SOper := [
  ⟨(some 14), .mv (.t 5), none⟩,
  ⟨(some 15), .bin .sub (.t 14) (.c (.one (.sc (.int .i64 1)))), none⟩,
  ⟨(some 5), .mv (.t 15), none⟩]
def r64_4 : List SOper := [
  ⟨(some 16), .mv (.t 5), none⟩,
  ⟨(some 4), .mv (.t 16), none⟩]
def c64 : SC := (.seq (.reg r64_0) (.seq (.reg r64_1) (.seq (.seq (.reg r64_2) (.cond (.t 13) (.reg r64_3) .skip)) (.seq (.reg r64_4) .ret))))
/-- limner/limnerref01.Below -/
def F64 : SFun := ⟨17, c64, [.tmp 4]⟩

def r66_0 : List SOper := [
  ⟨(some 4), .mv (.c (.one (.sc (.bool false)))), none⟩]
def r66_1 : List SOper := [
  ⟨(some 5), .mv (.t 0), none⟩,
  ⟨(some 6), .mv (.t 1), none⟩,
  ⟨(some 7), .call .q 68 [(.t 5), (.t 6)], none⟩,
  ⟨(some 8), .bin .geq (.t 7) (.c (.one (.sc (.int .i64 0)))), none⟩,
  ⟨(some 4), .mv (.t 8), none⟩]
def c66 : SC := (.seq (.reg r66_0) (.seq (.reg r66_1) .ret))
/-- slices.ContainsFunc[[]limner/geom.Point,limner/geom.Point] -/
def F66 : SFun := ⟨9, c66, [.tmp 4]⟩

def r67_0 : List SOper := [
  ⟨(some 1), .box (.t 0), none⟩,
  ⟨(some 2), .mv (.c (.one (.sc (.bool false)))), none⟩]
def r67_1 : List SOper := [
  ⟨(some 3), .loadA 2 (.t 1), none⟩,
  ⟨(some 4), .call (.z 0) 50 [(.t 3)], none⟩,
  ⟨(some 5), .un .not (.t 4), none⟩,
  ⟨(some 2), .mv (.t 5), none⟩]
def c67 : SC := (.seq (.reg r67_0) (.seq (.reg r67_1) .ret))
/-- limner/curve.check$1 -/
def F67 : SFun := ⟨6, c67, [.tmp 2]⟩

def r68_0 : List SOper := [
  ⟨(some 4), .mv (.c (.one (.sc (.int .i64 0)))), none⟩]
def r68_1 : List SOper := [
  ⟨(some 6), .mv (.t 0), none⟩,
  ⟨(some 7), .len (.t 6), none⟩,
  ⟨(some 8), .mv (.c (.one (.sc (.int .i64 0)))), none⟩]
def r68_2 : List SOper := [
  ⟨(some 9), .bin .lss (.t 8) (.t 7), none⟩]
def r68_3 : List SOper := [
  ⟨(some 10), .mv (.t 8), none⟩,
  ⟨(some 5), .mv (.t 10), none⟩]
def r68_4 : List SOper := [
  ⟨(some 11), .mv (.t 1), none⟩,
  ⟨(some 12), .mv (.t 0), none⟩,
  ⟨(some 13), .mv (.t 5), none⟩,
  ⟨(some 14), .iadrS 2 (.t 12) (.t 13), none⟩,
  ⟨(some 15), .loadA 2 (.t 14), none⟩,
  ⟨(some 16), .callv .q (.t 11) [(.t 15)], none⟩]
def r68_5 : List SOper := [
  ⟨(some 17), .mv (.t 5), none⟩,
  ⟨(some 4), .mv (.t 17), none⟩]
def r68_6 : List SOper := [
  ⟨(some 18), .bin .add (.t 8) (.c (.one (.sc (.int .i64 1)))), none⟩,
  ⟨(some 8), .mv (.t 18), none⟩]
def l68_0 : SC := (.seq (.reg r68_2) (.seq (.cond (.t 9) .skip (.exit 0)) (.seq (.block 1 (.seq (.reg r68_3) (.seq (.reg r68_4) (.cond (.t 16) (.seq (.reg r68_5) .ret) .skip)))) (.reg r68_6))))
def r68_7 : List SOper := [
  ⟨(some 4), .mv (.c (.one (.sc (.int .i64 (-1))))), none⟩]
def c68 : SC := (.seq (.reg r68_0) (.seq (.seq (.reg r68_1) (.block 0 (.loop l68_0))) (.seq (.reg r68_7) .ret)))
/-- slices.IndexFunc[[]limner/geom.Point,limner/geom.Point] -/
def F68 : SFun := ⟨19, c68, [.tmp 4]⟩

def TA : Nat → Option SFun
  | 4 => some F4
  | 7 => some F7
  | 9 => some F9
  | 10 => some F10
  | 11 => some F11
  | 12 => some F12
  | 13 => some F13
  | 14 => some F14
  | 15 => some F15
  | 16 => some F16
  | 17 => some F17
  | 18 => some F18
  | 19 => some F19
  | 21 => some F21
  | 22 => some F22
  | 23 => some F23
  | 24 => some F24
  | 25 => some F25
  | 26 => some F26
  | 30 => some F30
  | 31 => some F31
  | 32 => some F32
  | 37 => some F37
  | 38 => some F38
  | 39 => some F39
  | 40 => some F40
  | 41 => some F41
  | 42 => some F42
  | 43 => some F43
  | 44 => some F44
  | 45 => some F45
  | 46 => some F46
  | 47 => some F47
  | 48 => some F48
  | 49 => some F49
  | 50 => some F50
  | 51 => some F51
  | 52 => some F52
  | 54 => some F54
  | 55 => some F55
  | 59 => some F59
  | 60 => some F60
  | 61 => some F61
  | 62 => some F62
  | 63 => some F63
  | 64 => some F64
  | 66 => some F66
  | 67 => some F67
  | 68 => some F68
  | _ => none
def mdA : Nat → Mode
  | 4 => (.z 0)
  | 7 => (.z 0)
  | 11 => (.z 0)
  | 15 => (.z 0)
  | 16 => (.z 0)
  | 17 => (.z 0)
  | 18 => (.z 0)
  | 19 => (.z 0)
  | 21 => (.z 0)
  | 22 => (.z 0)
  | 23 => (.z 0)
  | 24 => (.z 0)
  | 25 => (.z 0)
  | 26 => (.z 0)
  | 30 => (.z 0)
  | 32 => (.z 0)
  | 37 => (.z 0)
  | 38 => .k
  | 41 => .k
  | 42 => .k
  | 44 => (.z 0)
  | 45 => .k
  | 46 => .k
  | 47 => (.z 0)
  | 48 => (.z 0)
  | 50 => (.z 0)
  | 51 => (.z 0)
  | 52 => (.z 0)
  | 54 => (.z 0)
  | 55 => (.z 0)
  | 61 => (.z 0)
  | 62 => .k
  | 63 => .k
  | 64 => (.z 0)
  | 67 => (.z 0)
  | _ => .q
def q4 : Nat → List (List Nat) × List (Nat × Nat)
  | 1 => ([[], [0], [], [2], [], [4], [], [0, 1, 6], [0, 1, 2, 3, 6, 7], [0, 1, 2, 3, 4, 5, 6, 7, 8]], [(19, 3), (21, 3)])
  | 2 => ([[], [], [], [0, 1, 2], [], [4], [0, 1, 2, 3, 4, 5], [], [], [], [0, 1, 2, 3, 4, 5, 6, 7, 8, 9], [0, 1, 2, 3, 4, 5, 6, 7, 8, 9, 10], [0, 1, 2, 3, 4, 5, 6, 7, 8, 9, 10, 11]], [])
  | _ => ([], [])
theorem ok4 : slimF Try.prog 0 mdA q4 Try.f4 = some F4 := by kernel_rfl
def q7 : Nat → List (List Nat) × List (Nat × Nat)
  | 20 => ([[], [0], [0, 1], [0, 1, 2], [0, 1, 2], [0, 1, 2, 4], [0, 1, 2, 3, 4, 5], [0, 1, 2, 3, 4, 5, 6]], [])
  | _ => ([], [])
theorem ok7 : slimF Try.prog 0 mdA q7 Try.f7 = some F7 := by kernel_rfl
def q9 : Nat → List (List Nat) × List (Nat × Nat)
  | 6 => ([[], [0], [0, 1], [0, 1, 2], [0, 1, 2], [0, 1, 2, 4], [0, 1, 2], [0, 1, 2, 4, 5, 6], [0, 1, 2, 3, 4, 5, 6, 7], [0, 1, 2, 3, 4, 5, 6, 7, 8], [0, 1, 2, 3, 4, 5, 6, 7, 8, 9], [0, 1, 2, 3, 4, 5, 6, 7, 8, 9, 10], [0, 1, 2, 3, 4, 5, 6, 7, 8, 9, 10], [0, 1, 2, 3, 4, 5, 6, 7, 8, 9, 10, 12], [0, 1, 2, 3, 4, 5, 6, 7, 8, 9, 10, 12, 13], [0, 1, 2, 3, 4, 5, 6, 7, 8, 9, 10, 11, 12, 13, 14], [0, 1, 2, 3, 4, 5, 6, 7, 8, 9, 10, 11, 12, 13, 14, 15], [0, 1, 2, 3, 4, 5, 6, 7, 8, 9, 10], [0, 1, 2, 3, 4, 5, 6, 7, 8, 9, 10], [0, 1, 2, 3, 4, 5, 6, 7, 8, 9, 10, 18], [0, 1, 2, 3, 4, 5, 6, 7, 8, 9, 10, 18, 19], [0, 1, 2, 3, 4, 5, 6, 7, 8, 9, 10, 17, 18, 19, 20], [0, 1, 2, 3, 4, 5, 6, 7, 8, 9, 10, 17, 18, 19, 20, 21], [0, 1, 2, 3, 4, 5, 6, 7, 8, 9, 10, 11, 12, 13, 14, 15, 16, 17, 18, 19, 20, 21, 22], [0, 1, 2, 3, 4, 5, 6, 7, 8, 9, 10, 11, 12, 13, 14, 15, 16, 17, 18, 19, 20, 21, 22, 23], [0, 1, 2, 3, 4, 5, 6, 7, 8, 9, 10, 11, 12, 13, 14, 15, 16, 17, 18, 19, 20, 21, 22, 23, 24], [0, 1, 2, 3, 4, 5, 6, 7, 8, 9, 10, 11, 12, 13, 14, 15, 16, 17, 18, 19, 20, 21, 22, 23, 24, 25], [0, 1, 2, 3, 4, 5, 6, 7, 8, 9, 10, 11, 12, 13, 14, 15, 16, 17, 18, 19, 20, 21, 22, 23, 24, 25, 26], [0, 1, 2, 3, 4, 5, 6, 7, 8, 9, 10, 11, 12, 13, 14, 15, 16, 17, 18, 19, 20, 21, 22, 23, 24, 25, 26, 27]], [])
  | _ => ([], [])
theorem ok9 : slimF Try.prog 0 mdA q9 Try.f9 = some F9 := by kernel_rfl
def q10 : Nat → List (List Nat) × List (Nat × Nat)
  | 11 => ([[], [], [1], [], [1, 2, 3], [0, 1, 2, 3, 4], [], [], [7], [], [7, 8, 9], [6, 7, 8, 9, 10], [0, 1, 2, 3, 4, 5], [0, 1, 2, 3, 4, 5, 6, 7, 8, 9, 10, 11, 12]], [])
  | _ => ([], [])
theorem ok10 : slimF Try.prog 0 mdA q10 Try.f10 = some F10 := by kernel_rfl
def q11 : Nat → List (List Nat) × List (Nat × Nat)
  | 1 => ([[], [0], [0, 1], [], [3], [0, 1, 2, 3, 4], [], [6], [0, 1, 2, 3, 4, 5, 6, 7], [0, 1, 2, 3, 4, 5, 6, 7, 8], [0, 1, 2, 3, 4, 5, 6, 7, 8, 9]], [])
  | _ => ([], [])
theorem ok11 : slimF Try.prog 0 mdA q11 Try.f11 = some F11 := by kernel_rfl
def q12 : Nat → List (List Nat) × List (Nat × Nat)
  | 10 => ([[], [0], [0, 1], [], [3], [3, 4], [0, 1, 2, 3, 4, 5], [], [0, 1, 2, 3, 4, 5, 6, 7]], [])
  | 11 => ([[], [0], [0, 1], [], [3], [3, 4], [0, 1, 2, 3, 4, 5], [], [0, 1, 2, 3, 4, 5, 6, 7]], [])
  | 12 => ([[], [0], [0, 1], [0, 1, 2], [0, 1, 2], [0, 1, 2, 3, 4], [0, 1, 2, 3, 4, 5], [0, 1, 2, 3, 4, 5, 6], [0, 1, 2, 3, 4, 5, 6, 7], [0, 1, 2, 3, 4, 5, 6, 7], [0, 1, 2, 3, 4, 5, 6, 7, 8, 9], [0, 1, 2, 3, 4, 5, 6, 7, 8, 9, 10], [0, 1, 2, 3, 4, 5, 6, 7, 8, 9, 10, 11], [0, 1, 2, 3, 4, 5, 6, 7, 8, 9, 10, 11, 12], [0, 1, 2, 3, 4, 5, 6, 7, 8, 9, 10, 11, 12, 13], [0, 1, 2, 3, 4, 5, 6, 7, 8, 9, 10, 11, 12], [0, 1, 2, 3, 4, 5, 6, 7, 8, 9, 10, 11, 12, 15], [0, 1, 2, 3, 4, 5, 6, 7, 8, 9, 10, 11, 12, 13, 14, 15, 16], [0, 1, 2, 3, 4, 5, 6, 7, 8, 9, 10, 11, 12, 13, 14, 15, 16, 17], [0, 1, 2, 3, 4, 5, 6, 7, 8, 9, 10, 11, 12, 13, 14, 15, 16, 17, 18], [0, 1, 2, 3, 4, 5, 6, 7, 8, 9, 10, 11, 12, 13, 14, 15, 16, 17, 18, 19], [0, 1, 2, 3, 4, 5, 6, 7, 8, 9, 10, 11, 12, 13, 14, 15, 16, 17, 18, 19, 20], [0, 1, 2, 3, 4, 5, 6, 7, 8, 9, 10, 11, 12, 13, 14, 15, 16, 17, 18, 19], [0, 1, 2, 3, 4, 5, 6, 7, 8, 9, 10, 11, 12, 13, 14, 15, 16, 17, 18, 19, 22], [0, 1, 2, 3, 4, 5, 6, 7, 8, 9, 10, 11, 12, 13, 14, 15, 16, 17, 18, 19, 20, 21, 22, 23], [0, 1, 2, 3, 4, 5, 6, 7, 8, 9, 10, 11, 12, 13, 14, 15, 16, 17, 18, 19, 20, 21, 22, 23, 24], [0, 1, 2, 3, 4, 5, 6, 7, 8, 9, 10, 11, 12, 13, 14, 15, 16, 17, 18, 19, 20, 21, 22, 23, 24, 25], [0, 1, 2, 3, 4, 5, 6, 7, 8, 9, 10, 11, 12, 13, 14, 15, 16, 17, 18, 19, 20, 21, 22, 23, 24, 25, 26], [0, 1, 2, 3, 4, 5, 6, 7, 8, 9, 10, 11, 12, 13, 14, 15, 16, 17, 18, 19, 20, 21, 22, 23, 24, 25, 26], [0, 1, 2, 3, 4, 5, 6, 7, 8, 9, 10, 11, 12, 13, 14, 15, 16, 17, 18, 19, 20, 21, 22, 23, 24, 25, 26, 28], [0, 1, 2, 3, 4, 5, 6, 7, 8, 9, 10, 11, 12, 13, 14, 15, 16, 17, 18, 19, 20, 21, 22, 23, 24, 25, 26, 28, 29], [0, 1, 2, 3, 4, 5, 6, 7, 8, 9, 10, 11, 12, 13, 14, 15, 16, 17, 18, 19, 20, 21, 22, 23, 24, 25, 26, 27, 28, 29, 30], [0, 1, 2, 3, 4, 5, 6, 7, 8, 9, 10, 11, 12, 13, 14, 15, 16, 17, 18, 19, 20, 21, 22, 23, 24, 25, 26, 27, 28, 29, 30, 31], [0, 1, 2, 3, 4, 5, 6, 7, 8, 9, 10, 11, 12, 13, 14, 15, 16, 17, 18, 19, 20, 21, 22, 23, 24, 25, 26], [0, 1, 2, 3, 4, 5, 6, 7, 8, 9, 10, 11, 12, 13, 14, 15, 16, 17, 18, 19, 20, 21, 22, 23, 24, 25, 26, 33], [0, 1, 2, 3, 4, 5, 6, 7, 8, 9, 10, 11, 12, 13, 14, 15, 16, 17, 18, 19, 20, 21, 22, 23, 24, 25, 26, 33, 34], [0, 1, 2, 3, 4, 5, 6, 7, 8, 9, 10, 11, 12, 13, 14, 15, 16, 17, 18, 19, 20, 21, 22, 23, 24, 25, 26, 27, 28, 29, 30, 31, 32, 33, 34, 35], [0, 1, 2, 3, 4, 5, 6, 7, 8, 9, 10, 11, 12, 13, 14, 15, 16, 17, 18, 19, 20, 21, 22, 23, 24, 25, 26, 27, 28, 29, 30, 31, 32, 33, 34, 35, 36], [0, 1, 2, 3, 4, 5, 6, 7, 8, 9, 10, 11, 12, 13, 14, 15, 16, 17, 18, 19, 20, 21, 22, 23, 24, 25, 26, 27, 28, 29, 30, 31, 32, 33, 34, 35, 36, 37], [0, 1, 2, 3, 4, 5, 6, 7, 8, 9, 10, 11, 12, 13, 14, 15, 16, 17, 18, 19, 20, 21, 22, 23, 24, 25, 26, 27, 28, 29, 30, 31, 32, 33, 34, 35, 36, 37, 38], [0, 1, 2, 3, 4, 5, 6, 7, 8, 9, 10, 11, 12, 13, 14, 15, 16, 17, 18, 19, 20, 21, 22, 23, 24, 25, 26, 27, 28, 29, 30, 31, 32, 33, 34, 35, 36, 37, 38, 39], [0, 1, 2, 3, 4, 5, 6, 7, 8, 9, 10, 11, 12, 13, 14, 15, 16, 17, 18, 19, 20, 21, 22, 23, 24, 25, 26, 27, 28, 29, 30, 31, 32, 33, 34, 35, 36, 37, 38, 39, 40]], [])
  | _ => ([], [])
theorem ok12 : slimF Try.prog 0 mdA q12 Try.f12 = some F12 := by kernel_rfl
def q13 : Nat → List (List Nat) × List (Nat × Nat)
  | 10 => ([[], [0], [0, 1], [], [3], [3, 4], [], [6], [6, 7], [0, 1, 2, 3, 4, 5, 6, 7, 8], [], [0, 1, 2, 3, 4, 5, 6, 7, 8, 9, 10], [0, 1, 2, 3, 4, 5, 6, 7, 8, 9, 10, 11], [0, 1, 2, 3, 4, 5, 6, 7, 8, 9, 10, 11, 12], [0, 1, 2, 3, 4, 5, 6, 7, 8, 9, 10, 11, 12], [0, 1, 2, 3, 4, 5, 6, 7, 8, 9, 10, 11, 12, 13], [0, 1, 2, 3, 4, 5, 6, 7, 8, 9, 10, 11, 12, 13, 14, 15]], [])
  | 14 => ([[], [], [1], [1, 2], [0, 1, 2, 3]], [])
  | _ => ([], [])
theorem ok13 : slimF Try.prog 0 mdA q13 Try.f13 = some F13 := by kernel_rfl
def q14 : Nat → List (List Nat) × List (Nat × Nat)
  | 4 => ([[], [], [1], [0, 1, 2]], [])
  | _ => ([], [])
theorem ok14 : slimF Try.prog 0 mdA q14 Try.f14 = some F14 := by kernel_rfl
def q15 : Nat → List (List Nat) × List (Nat × Nat)
  | 3 => ([[], [0], [], [2], [], [4], [], [6], [0, 1, 2, 3, 4, 5, 6, 7], [], [9], [0, 1, 2, 3, 4, 5, 6, 7, 8, 9, 10], [], [12], [], [14], [], [16], [], [18], [0, 1, 2, 3, 4, 5, 6, 7, 8, 12, 13, 14, 15, 16, 17, 18, 19], [], [21], [0, 1, 2, 3, 4, 5, 6, 7, 8, 12, 13, 14, 15, 16, 17, 18, 19, 20, 21, 22], [0, 1, 2, 3, 4, 5, 6, 7, 8, 9, 10, 11, 12, 13, 14, 15, 16, 17, 18, 19, 20, 21, 22, 23], [], [0, 1, 2, 3, 4, 5, 6, 7, 8, 9, 10, 11, 12, 13, 14, 15, 16, 17, 18, 19, 20, 21, 22, 23, 24, 25]], [])
  | _ => ([], [])
theorem ok15 : slimF Try.prog 0 mdA q15 Try.f15 = some F15 := by kernel_rfl
def q16 : Nat → List (List Nat) × List (Nat × Nat)
  | _ => ([], [])
theorem ok16 : slimF Try.prog 0 mdA q16 Try.f16 = some F16 := by kernel_rfl
def q17 : Nat → List (List Nat) × List (Nat × Nat)
  | _ => ([], [])
theorem ok17 : slimF Try.prog 0 mdA q17 Try.f17 = some F17 := by kernel_rfl
def q18 : Nat → List (List Nat) × List (Nat × Nat)
  | _ => ([], [])
theorem ok18 : slimF Try.prog 0 mdA q18 Try.f18 = some F18 := by kernel_rfl
def q19 : Nat → List (List Nat) × List (Nat × Nat)
  | _ => ([], [])
theorem ok19 : slimF Try.prog 0 mdA q19 Try.f19 = some F19 := by kernel_rfl
def q21 : Nat → List (List Nat) × List (Nat × Nat)
  | _ => ([], [])
theorem ok21 : slimF Try.prog 0 mdA q21 Try.f21 = some F21 := by kernel_rfl
def q22 : Nat → List (List Nat) × List (Nat × Nat)
  | _ => ([], [])
theorem ok22 : slimF Try.prog 0 mdA q22 Try.f22 = some F22 := by kernel_rfl
def q23 : Nat → List (List Nat) × List (Nat × Nat)
  | _ => ([], [])
theorem ok23 : slimF Try.prog 0 mdA q23 Try.f23 = some F23 := by kernel_rfl
def q24 : Nat → List (List Nat) × List (Nat × Nat)
  | _ => ([], [])
theorem ok24 : slimF Try.prog 0 mdA q24 Try.f24 = some F24 := by kernel_rfl
def q25 : Nat → List (List Nat) × List (Nat × Nat)
  | _ => ([], [])
theorem ok25 : slimF Try.prog 0 mdA q25 Try.f25 = some F25 := by kernel_rfl
def q26 : Nat → List (List Nat) × List (Nat × Nat)
  | _ => ([], [])
theorem ok26 : slimF Try.prog 0 mdA q26 Try.f26 = some F26 := by kernel_rfl
def q30 : Nat → List (List Nat) × List (Nat × Nat)
  | _ => ([], [])
theorem ok30 : slimF Try.prog 0 mdA q30 Try.f30 = some F30 := by kernel_rfl
def q31 : Nat → List (List Nat) × List (Nat × Nat)
  | _ => ([], [])
theorem ok31 : slimF Try.prog 0 mdA q31 Try.f31 = some F31 := by kernel_rfl
def q32 : Nat → List (List Nat) × List (Nat × Nat)
  | _ => ([], [])
theorem ok32 : slimF Try.prog 0 mdA q32 Try.f32 = some F32 := by kernel_rfl
def q37 : Nat → List (List Nat) × List (Nat × Nat)
  | 2 => ([[], [0], [0, 1], [0, 1, 2], [0, 1, 2, 3], [0, 1, 2, 3, 4], [0, 1, 2, 3, 4, 5], [0, 1, 2, 3, 4, 5, 6], [0, 1, 2, 3, 4, 5, 6, 7], [0, 1, 2, 3, 4, 5, 6, 7, 8], [0, 1, 2, 3, 4, 5, 6, 7, 8, 9], [0, 1, 2, 3, 4, 5, 6, 7], [0, 1, 2, 3, 4, 5, 6, 7, 8, 9, 10, 11], [0, 1, 2, 3, 4, 5, 6, 7, 8, 9, 10, 11, 12], [0, 1, 2, 3, 4, 5, 6, 7, 8, 9, 10, 11, 12, 13], [0, 1, 2, 3, 4, 5, 6, 7, 8, 9, 10, 11, 12, 13, 14], [0, 1, 2, 3, 4, 5, 6, 7, 8, 9, 10, 11, 12, 13, 14, 15], [0, 1, 2, 3, 4, 5, 6, 7, 8, 9, 10, 11, 12, 13, 14, 15, 16], [0, 1, 2, 3, 4, 5, 6, 7, 8, 9, 10, 11, 12, 13, 14], [0, 1, 2, 3, 4, 5, 6, 7, 8, 9, 10, 11, 12, 13, 14, 15, 16, 17, 18], [0, 1, 2, 3, 4, 5, 6, 7, 8, 9, 10, 11, 12, 13, 14, 15, 16, 17, 18, 19], [0, 1, 2, 3, 4, 5, 6, 7, 8, 9, 10, 11, 12, 13, 14, 15, 16, 17, 18, 19, 20]], [])
  | _ => ([], [])
theorem ok37 : slimF Try.prog 0 mdA q37 Try.f37 = some F37 := by kernel_rfl
def q38 : Nat → List (List Nat) × List (Nat × Nat)
  | _ => ([], [])
theorem ok38 : slimF Try.prog 0 mdA q38 Try.f38 = some F38 := by kernel_rfl
def q39 : Nat → List (List Nat) × List (Nat × Nat)
  | _ => ([], [])
theorem ok39 : slimF Try.prog 0 mdA q39 Try.f39 = some F39 := by kernel_rfl
def q40 : Nat → List (List Nat) × List (Nat × Nat)
  | 6 => ([[], [], [0, 1], [0, 1, 2], [0, 1, 2, 3], [], [], [5, 6], [5, 6, 7], [5, 6, 7, 8], [0, 1, 2, 3, 4, 5, 6, 7, 8, 9], [0, 1, 2, 3, 4, 5, 6, 7, 8, 9, 10], [0, 1, 2, 3, 4, 5, 6, 7, 8, 9, 10, 11], [0, 1, 2, 3, 4, 5, 6, 7, 8, 9, 10, 11], [0, 1, 2, 3, 4, 5, 6, 7, 8, 9, 10, 11, 12, 13], [0, 1, 2, 3, 4, 5, 6, 7, 8, 9, 10, 11, 12, 13, 14], [0, 1, 2, 3, 4, 5, 6, 7, 8, 9, 10, 11, 12, 13, 14, 15], [0, 1, 2, 3, 4, 5, 6, 7, 8, 9, 10, 11], [0, 1, 2, 3, 4, 5, 6, 7, 8, 9, 10, 11], [0, 1, 2, 3, 4, 5, 6, 7, 8, 9, 10, 11, 17, 18], [0, 1, 2, 3, 4, 5, 6, 7, 8, 9, 10, 11, 17, 18, 19], [0, 1, 2, 3, 4, 5, 6, 7, 8, 9, 10, 11, 17, 18, 19, 20], [0, 1, 2, 3, 4, 5, 6, 7, 8, 9, 10, 11, 12, 13, 14, 15, 16, 17, 18, 19, 20, 21], [0, 1, 2, 3, 4, 5, 6, 7, 8, 9, 10, 11, 12, 13, 14, 15, 16, 17, 18, 19, 20, 21, 22]], [])
  | _ => ([], [])
theorem ok40 : slimF Try.prog 0 mdA q40 Try.f40 = some F40 := by kernel_rfl
def q41 : Nat → List (List Nat) × List (Nat × Nat)
  | _ => ([], [])
theorem ok41 : slimF Try.prog 0 mdA q41 Try.f41 = some F41 := by kernel_rfl
def q42 : Nat → List (List Nat) × List (Nat × Nat)
  | _ => ([], [])
theorem ok42 : slimF Try.prog 0 mdA q42 Try.f42 = some F42 := by kernel_rfl
def q43 : Nat → List (List Nat) × List (Nat × Nat)
  | 6 => ([[], [], [], [1, 2], [1, 2, 3], [], [], [5, 6], [5, 6, 7], [5, 6, 7, 8], [1, 2, 3, 4, 5, 6, 7, 8, 9], [0, 1, 2, 3, 4, 5, 6, 7, 8, 9, 10], [0, 1, 2, 3, 4, 5, 6, 7, 8, 9, 10, 11]], [])
  | 7 => ([[], [], [], [1, 2], [1, 2, 3], [], [], [5, 6], [5, 6, 7], [5, 6, 7, 8], [1, 2, 3, 4, 5, 6, 7, 8, 9], [0, 1, 2, 3, 4, 5, 6, 7, 8, 9, 10], [0, 1, 2, 3, 4, 5, 6, 7, 8, 9, 10, 11]], [])
  | _ => ([], [])
theorem ok43 : slimF Try.prog 0 mdA q43 Try.f43 = some F43 := by kernel_rfl
def q44 : Nat → List (List Nat) × List (Nat × Nat)
  | _ => ([], [])
theorem ok44 : slimF Try.prog 0 mdA q44 Try.f44 = some F44 := by kernel_rfl
def q45 : Nat → List (List Nat) × List (Nat × Nat)
  | 5 => ([[], [], [1], [0, 1, 2], [0, 1, 2, 3], [], [], [6], [5, 6, 7], [0, 1, 2, 3, 4, 5, 6, 7, 8], [0, 1, 2, 3, 4, 5, 6, 7, 8, 9], [0, 1, 2, 3, 4, 5, 6, 7, 8, 9, 10], [0, 1, 2, 3, 4, 5, 6, 7, 8, 9, 10, 11]], [])
  | _ => ([], [])
theorem ok45 : slimF Try.prog 0 mdA q45 Try.f45 = some F45 := by kernel_rfl
def q46 : Nat → List (List Nat) × List (Nat × Nat)
  | 9 => ([[], [], [], [1, 2], [1, 2, 3], [], [], [6], [5, 6, 7], [5, 6, 7, 8], [1, 2, 3, 4, 5, 6, 7, 8, 9], [1, 2, 3, 4, 5, 6, 7, 8, 9, 10], [0, 1, 2, 3, 4, 5, 6, 7, 8, 9, 10, 11], [0, 1, 2, 3, 4, 5, 6, 7, 8, 9, 10, 11, 12]], [])
  | _ => ([], [])
theorem ok46 : slimF Try.prog 0 mdA q46 Try.f46 = some F46 := by kernel_rfl
def q47 : Nat → List (List Nat) × List (Nat × Nat)
  | _ => ([], [])
theorem ok47 : slimF Try.prog 0 mdA q47 Try.f47 = some F47 := by kernel_rfl
def q48 : Nat → List (List Nat) × List (Nat × Nat)
  | 1 => ([[], [0], [], [2], [0, 1, 2, 3], [0, 1, 2, 3, 4], [], [6], [], [8], [6, 7, 8, 9], [0, 1, 2, 3, 4, 5, 6, 7, 8, 9, 10], [0, 1, 2, 3, 4, 5, 6, 7, 8, 9, 10, 11], [0, 1, 2, 3, 4, 5, 6, 7, 8, 9, 10, 11, 12]], [])
  | _ => ([], [])
theorem ok48 : slimF Try.prog 0 mdA q48 Try.f48 = some F48 := by kernel_rfl
def q49 : Nat → List (List Nat) × List (Nat × Nat)
  | _ => ([], [])
theorem ok49 : slimF Try.prog 0 mdA q49 Try.f49 = some F49 := by kernel_rfl
def q50 : Nat → List (List Nat) × List (Nat × Nat)
  | _ => ([], [])
theorem ok50 : slimF Try.prog 0 mdA q50 Try.f50 = some F50 := by kernel_rfl
def q51 : Nat → List (List Nat) × List (Nat × Nat)
  | _ => ([], [])
theorem ok51 : slimF Try.prog 0 mdA q51 Try.f51 = some F51 := by kernel_rfl
def q52 : Nat → List (List Nat) × List (Nat × Nat)
  | _ => ([], [])
theorem ok52 : slimF Try.prog 0 mdA q52 Try.f52 = some F52 := by kernel_rfl
def q54 : Nat → List (List Nat) × List (Nat × Nat)
  | _ => ([], [])
theorem ok54 : slimF Try.prog 0 mdA q54 Try.f54 = some F54 := by kernel_rfl
def q55 : Nat → List (List Nat) × List (Nat × Nat)
  | _ => ([], [])
theorem ok55 : slimF Try.prog 0 mdA q55 Try.f55 = some F55 := by kernel_rfl
def q59 : Nat → List (List Nat) × List (Nat × Nat)
  | _ => ([], [])
theorem ok59 : slimF Try.prog 0 mdA q59 Try.f59 = some F59 := by kernel_rfl
def q60 : Nat → List (List Nat) × List (Nat × Nat)
  | _ => ([], [])
theorem ok60 : slimF Try.prog 0 mdA q60 Try.f60 = some F60 := by kernel_rfl
def q61 : Nat → List (List Nat) × List (Nat × Nat)
  | 1 => ([[], [0], [], [2], [0, 1], [0, 1, 4], [0, 1, 2, 3, 4, 5], [0, 1, 2, 3, 4, 5, 6]], [(9, 11)])
  | 6 => ([[], [], [], [2], [2, 3], [], [], [5, 6], [5, 6, 7], [], [0, 2, 3, 4, 9], [0, 2, 3, 4, 9, 10], [], [0, 1, 2, 3, 4, 5, 6, 7, 8, 9, 10, 11, 12], [0, 1, 2, 3, 4, 5, 6, 7, 8, 9, 10, 11, 12, 13]], [(30, 33)])
  | 10 => ([[], [], [], [1, 2], [1, 2, 3], [], [5], [], [5, 6, 7], [5, 6, 7, 8], [1, 2, 3, 4, 5, 6, 7, 8, 9], [], [0, 1, 2, 3, 4, 5, 6, 7, 8, 9, 10, 11], [0, 1, 2, 3, 4, 5, 6, 7, 8, 9, 10, 11, 12]], [])
  | 13 => ([[], [], [0], [0, 1, 2]], [(3, 2)])
  | _ => ([], [])
theorem ok61 : slimF Try.prog 0 mdA q61 Try.f61 = some F61 := by kernel_rfl
def q62 : Nat → List (List Nat) × List (Nat × Nat)
  | 10 => ([[], [], [0, 1], [0, 1, 2], [], [], [4, 5], [4, 5, 6], [], [], [8, 9], [4, 5, 6, 7, 8, 9, 10], [0, 1, 2, 3, 4, 5, 6, 7, 8, 9, 10, 11], [0, 1, 2, 3, 4, 5, 6, 7, 8, 9, 10, 11, 12], [0, 1, 2, 3, 4, 5, 6, 7, 8, 9, 10, 11, 12, 13]], [])
  | 11 => ([[], [], [1], [0, 1, 2], [0, 1, 2, 3], [], [], [5, 6], [5, 6, 7], [], [5, 6, 7, 8, 9], [0, 1, 2, 3, 4, 5, 6, 7, 8, 9, 10], [0, 1, 2, 3, 4, 5, 6, 7, 8, 9, 10, 11], [0, 1, 2, 3, 4, 5, 6, 7, 8, 9, 10, 11, 12]], [])
  | _ => ([], [])
theorem ok62 : slimF Try.prog 0 mdA q62 Try.f62 = some F62 := by kernel_rfl
def q63 : Nat → List (List Nat) × List (Nat × Nat)
  | _ => ([], [])
theorem ok63 : slimF Try.prog 0 mdA q63 Try.f63 = some F63 := by kernel_rfl
def q64 : Nat → List (List Nat) × List (Nat × Nat)
  | _ => ([], [])
theorem ok64 : slimF Try.prog 0 mdA q64 Try.f64 = some F64 := by kernel_rfl
def q66 : Nat → List (List Nat) × List (Nat × Nat)
  | _ => ([], [])
theorem ok66 : slimF Try.prog 0 mdA q66 Try.f66 = some F66 := by kernel_rfl
def q67 : Nat → List (List Nat) × List (Nat × Nat)
  | _ => ([], [])
theorem ok67 : slimF Try.prog 0 mdA q67 Try.f67 = some F67 := by kernel_rfl
def q68 : Nat → List (List Nat) × List (Nat × Nat)
  | _ => ([], [])
theorem ok68 : slimF Try.prog 0 mdA q68 Try.f68 = some F68 := by kernel_rfl
def qA : Nat → Nat → List (List Nat) × List (Nat × Nat)
  | 4 => q4
  | 7 => q7
  | 9 => q9
  | 10 => q10
  | 11 => q11
  | 12 => q12
  | 13 => q13
  | 14 => q14
  | 15 => q15
  | 16 => q16
  | 17 => q17
  | 18 => q18
  | 19 => q19
  | 21 => q21
  | 22 => q22
  | 23 => q23
  | 24 => q24
  | 25 => q25
  | 26 => q26
  | 30 => q30
  | 31 => q31
  | 32 => q32
  | 37 => q37
  | 38 => q38
  | 39 => q39
  | 40 => q40
  | 41 => q41
  | 42 => q42
  | 43 => q43
  | 44 => q44
  | 45 => q45
  | 46 => q46
  | 47 => q47
  | 48 => q48
  | 49 => q49
  | 50 => q50
  | 51 => q51
  | 52 => q52
  | 54 => q54
  | 55 => q55
  | 59 => q59
  | 60 => q60
  | 61 => q61
  | 62 => q62
  | 63 => q63
  | 64 => q64
  | 66 => q66
  | 67 => q67
  | 68 => q68
  | _ => fun _ => ([], [])
theorem TA_ok : ∀ f sf, TA f = some sf → ∃ fn, Try.prog.funcs[f]? = some fn ∧ slimF Try.prog 0 mdA (qA f) fn = some sf := by
  intro f sf h
  unfold TA at h
  split at h
  · cases h; exact ⟨Try.f4, Try.func4, ok4⟩
  · cases h; exact ⟨Try.f7, Try.func7, ok7⟩
  · cases h; exact ⟨Try.f9, Try.func9, ok9⟩
  · cases h; exact ⟨Try.f10, Try.func10, ok10⟩
  · cases h; exact ⟨Try.f11, Try.func11, ok11⟩
  · cases h; exact ⟨Try.f12, Try.func12, ok12⟩
  · cases h; exact ⟨Try.f13, Try.func13, ok13⟩
  · cases h; exact ⟨Try.f14, Try.func14, ok14⟩
  · cases h; exact ⟨Try.f15, Try.func15, ok15⟩
  · cases h; exact ⟨Try.f16, Try.func16, ok16⟩
  · cases h; exact ⟨Try.f17, Try.func17, ok17⟩
  · cases h; exact ⟨Try.f18, Try.func18, ok18⟩
  · cases h; exact ⟨Try.f19, Try.func19, ok19⟩
  · cases h; exact ⟨Try.f21, Try.func21, ok21⟩
  · cases h; exact ⟨Try.f22, Try.func22, ok22⟩
  · cases h; exact ⟨Try.f23, Try.func23, ok23⟩
  · cases h; exact ⟨Try.f24, Try.func24, ok24⟩
  · cases h; exact ⟨Try.f25, Try.func25, ok25⟩
  · cases h; exact ⟨Try.f26, Try.func26, ok26⟩
  · cases h; exact ⟨Try.f30, Try.func30, ok30⟩
  · cases h; exact ⟨Try.f31, Try.func31, ok31⟩
  · cases h; exact ⟨Try.f32, Try.func32, ok32⟩
  · cases h; exact ⟨Try.f37, Try.func37, ok37⟩
  · cases h; exact ⟨Try.f38, Try.func38, ok38⟩
  · cases h; exact ⟨Try.f39, Try.func39, ok39⟩
  · cases h; exact ⟨Try.f40, Try.func40, ok40⟩
  · cases h; exact ⟨Try.f41, Try.func41, ok41⟩
  · cases h; exact ⟨Try.f42, Try.func42, ok42⟩
  · cases h; exact ⟨Try.f43, Try.func43, ok43⟩
  · cases h; exact ⟨Try.f44, Try.func44, ok44⟩
  · cases h; exact ⟨Try.f45, Try.func45, ok45⟩
  · cases h; exact ⟨Try.f46, Try.func46, ok46⟩
  · cases h; exact ⟨Try.f47, Try.func47, ok47⟩
  · cases h; exact ⟨Try.f48, Try.func48, ok48⟩
  · cases h; exact ⟨Try.f49, Try.func49, ok49⟩
  · cases h; exact ⟨Try.f50, Try.func50, ok50⟩
  · cases h; exact ⟨Try.f51, Try.func51, ok51⟩
  · cases h; exact ⟨Try.f52, Try.func52, ok52⟩
  · cases h; exact ⟨Try.f54, Try.func54, ok54⟩
  · cases h; exact ⟨Try.f55, Try.func55, ok55⟩
  · cases h; exact ⟨Try.f59, Try.func59, ok59⟩
  · cases h; exact ⟨Try.f60, Try.func60, ok60⟩
  · cases h; exact ⟨Try.f61, Try.func61, ok61⟩
  · cases h; exact ⟨Try.f62, Try.func62, ok62⟩
  · cases h; exact ⟨Try.f63, Try.func63, ok63⟩
  · cases h; exact ⟨Try.f64, Try.func64, ok64⟩
  · cases h; exact ⟨Try.f66, Try.func66, ok66⟩
  · cases h; exact ⟨Try.f67, Try.func67, ok67⟩
  · cases h; exact ⟨Try.f68, Try.func68, ok68⟩
  · cases h
end Go.Proofs.Ytkneefkhggacmaa.Sy
