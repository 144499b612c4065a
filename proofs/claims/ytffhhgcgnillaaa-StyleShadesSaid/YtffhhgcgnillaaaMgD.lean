import Derived.Test.YtffhhgcgnillaaaMgC
import Derived.Test.YtffhhgcgnillaaaProg
import Derived.KernelRfl
/- Functions of the program, slimmed down, and the check that they are. Conditions: none. -/
namespace Go.Proofs.Ytffhhgcgnillaaa.Sy
open Go Go.Proofs
set_option linter.unusedVariables false

def bytesA : List Nat := [0, 1, 2, 2, 3, 3, 3, 3, 4, 4, 4, 4, 4, 4, 4, 4, 5, 5, 5, 5, 5, 5, 5, 5, 5, 5, 5, 5, 5, 5, 5, 5, 6, 6, 6, 6, 6, 6, 6, 6, 6, 6, 6, 6, 6, 6, 6, 6, 6, 6, 6, 6, 6, 6, 6, 6, 6, 6, 6, 6, 6, 6, 6, 6, 7, 7, 7, 7, 7, 7, 7, 7, 7, 7, 7, 7, 7, 7, 7, 7, 7, 7, 7, 7, 7, 7, 7, 7, 7, 7, 7, 7, 7, 7, 7, 7, 7, 7, 7, 7, 7, 7, 7, 7, 7, 7, 7, 7, 7, 7, 7, 7, 7, 7, 7, 7, 7, 7, 7, 7, 7, 7, 7, 7, 7, 7, 7, 7, 8, 8, 8, 8, 8, 8, 8, 8, 8, 8, 8, 8, 8, 8, 8, 8, 8, 8, 8, 8, 8, 8, 8, 8, 8, 8, 8, 8, 8, 8, 8, 8, 8, 8, 8, 8, 8, 8, 8, 8, 8, 8, 8, 8, 8, 8, 8, 8, 8, 8, 8, 8, 8, 8, 8, 8, 8, 8, 8, 8, 8, 8, 8, 8, 8, 8, 8, 8, 8, 8, 8, 8, 8, 8, 8, 8, 8, 8, 8, 8, 8, 8, 8, 8, 8, 8, 8, 8, 8, 8, 8, 8, 8, 8, 8, 8, 8, 8, 8, 8, 8, 8, 8, 8, 8, 8, 8, 8, 8, 8, 8, 8, 8, 8, 8, 8, 8, 8, 8, 8, 8, 8, 8, 8, 8, 8, 8, 8]
def r3_0 : List SOper := [
  ⟨(some 3), .box (.t 0), none⟩,
  ⟨(some 4), .box (.t 1), none⟩,
  ⟨(some 6), .mv (.c (.one (.sc (.bool false)))), none⟩]
def r3_1 : List SOper := [
  ⟨(some 12), .fadr 9 (.t 3), none⟩,
  ⟨(some 13), .load1 (.t 12), none⟩,
  ⟨(some 14), .len (.t 13), none⟩,
  ⟨(some 15), .bin .gtr (.t 14) (.c (.one (.sc (.int .i64 60)))), none⟩,
  ⟨(some 16), .mv (.t 15), none⟩,
  ⟨(some 17), .loadA 10 (.t 3), (some (some 16, false))⟩,
  ⟨(some 18), .call .q 7 [(.t 17)], (some (some 16, false))⟩,
  ⟨(some 19), .bin .neq (.t 18) (.c (.one (.sc (.int .i64 0)))), (some (some 16, false))⟩,
  ⟨(some 20), .pick (.t 16) (.c (.one (.sc (.bool true)))) (.t 19), none⟩,
  ⟨(some 21), .mv (.t 20), none⟩,
  ⟨(some 22), .fadr 0 (.t 3), (some (some 21, false))⟩,
  ⟨(some 23), .load1 (.t 22), (some (some 21, false))⟩,
  ⟨(some 24), .bin .lss (.t 23) (.c (.one (.sc (.int .i64 2)))), (some (some 21, false))⟩,
  ⟨(some 25), .pick (.t 21) (.c (.one (.sc (.bool true)))) (.t 24), none⟩,
  ⟨(some 26), .mv (.t 25), none⟩,
  ⟨(some 27), .loadA 2 (.t 4), (some (some 26, false))⟩,
  ⟨(some 28), .call (.z 0) 8 [(.t 27)], (some (some 26, false))⟩,
  ⟨(some 29), .pick (.t 26) (.c (.one (.sc (.bool true)))) (.t 28), none⟩,
  ⟨(some 30), .mv (.t 29), none⟩,
  ⟨(some 31), .mv (.t 2), (some (some 30, false))⟩,
  ⟨(some 32), .bin .lss (.t 31) (.c (.one (.sc (.int .i64 (-100))))), (some (some 30, false))⟩,
  ⟨(some 33), .pick (.t 30) (.c (.one (.sc (.bool true)))) (.t 32), none⟩,
  ⟨(some 34), .mv (.t 33), none⟩,
  ⟨(some 35), .mv (.t 2), (some (some 34, false))⟩,
  ⟨(some 36), .bin .gtr (.t 35) (.c (.one (.sc (.int .i64 100)))), (some (some 34, false))⟩,
  ⟨(some 37), .pick (.t 34) (.c (.one (.sc (.bool true)))) (.t 36), none⟩]
def r3_2 : List SOper := [
  ⟨(some 38), .call (.z 0) 9 [], none⟩,
  ⟨(some 6), .mv (.t 38), none⟩]
def r3_3 : List SOper := [
  ⟨(some 39), .fadr 9 (.t 3), none⟩,
  ⟨(some 40), .load1 (.t 39), none⟩,
  ⟨(some 41), .iadrS 5 (.t 40) (.c (.one (.sc (.int .i64 0)))), none⟩,
  ⟨(some 42), .fadr 1 (.t 41), none⟩,
  ⟨(some 43), .loadA 4 (.t 42), none⟩,
  ⟨(some 44), .fadr 9 (.t 3), none⟩,
  ⟨(some 45), .load1 (.t 44), none⟩,
  ⟨(some 46), .fadr 9 (.t 3), none⟩,
  ⟨(some 47), .load1 (.t 46), none⟩,
  ⟨(some 48), .len (.t 47), none⟩,
  ⟨(some 49), .bin .sub (.t 48) (.c (.one (.sc (.int .i64 1)))), none⟩,
  ⟨(some 50), .iadrS 5 (.t 45) (.t 49), none⟩,
  ⟨(some 51), .fadr 1 (.t 50), none⟩,
  ⟨(some 52), .loadA 4 (.t 51), none⟩,
  ⟨(some 7), .alloc [.sc (.int .u8 0), .sc (.int .u8 0), .sc (.int .u8 0), .sc (.int .u8 0)], none⟩,
  ⟨(some 8), .alloc [.sc (.int .u8 0), .sc (.int .u8 0), .sc (.int .u8 0), .sc (.int .u8 0)], none⟩,
  ⟨none, .store 4 (.t 7) (.t 43), none⟩,
  ⟨none, .store 4 (.t 8) (.t 52), none⟩]
def r3_4 : List SOper := [
  ⟨(some 53), .fadr 9 (.t 3), none⟩,
  ⟨(some 54), .load1 (.t 53), none⟩,
  ⟨(some 55), .iadrS 5 (.t 54) (.c (.one (.sc (.int .i64 0)))), none⟩,
  ⟨(some 56), .fadr 0 (.t 55), none⟩,
  ⟨(some 57), .load1 (.t 56), none⟩,
  ⟨(some 58), .bin .gtr (.t 57) (.c (.one (.sc (.int .i64 0)))), none⟩,
  ⟨(some 59), .mv (.t 58), none⟩,
  ⟨(some 60), .loadA 10 (.t 3), (some (some 59, true))⟩,
  ⟨(some 61), .fadr 5 (.t 3), (some (some 59, true))⟩,
  ⟨(some 62), .loadA 2 (.t 61), (some (some 59, true))⟩,
  ⟨(some 63), .call .q 10 [(.t 60), (.t 62)], (some (some 59, true))⟩,
  ⟨(some 64), .loadA 4 (.t 7), (some (some 59, true))⟩,
  ⟨(some 65), .eqv [.i, .i, .i, .i] true (.t 63) (.t 64), (some (some 59, true))⟩,
  ⟨(some 66), .pick (.t 59) (.t 65) (.c (.one (.sc (.bool false)))), none⟩,
  ⟨(some 67), .mv (.t 66), none⟩,
  ⟨(some 68), .fadr 9 (.t 3), (some (some 67, false))⟩,
  ⟨(some 69), .load1 (.t 68), (some (some 67, false))⟩,
  ⟨(some 70), .fadr 9 (.t 3), (some (some 67, false))⟩,
  ⟨(some 71), .load1 (.t 70), (some (some 67, false))⟩,
  ⟨(some 72), .len (.t 71), (some (some 67, false))⟩,
  ⟨(some 73), .bin .sub (.t 72) (.c (.one (.sc (.int .i64 1)))), (some (some 67, false))⟩,
  ⟨(some 74), .iadrS 5 (.t 69) (.t 73), (some (some 67, false))⟩,
  ⟨(some 75), .fadr 0 (.t 74), (some (some 67, false))⟩,
  ⟨(some 76), .load1 (.t 75), (some (some 67, false))⟩,
  ⟨(some 77), .bin .lss (.t 76) (.c (.one (.sc (.int .i64 65536)))), (some (some 67, false))⟩,
  ⟨(some 78), .mv (.t 77), (some (some 67, false))⟩,
  ⟨(some 79), .loadA 10 (.t 3), (some (some 78, true))⟩,
  ⟨(some 80), .fadr 7 (.t 3), (some (some 78, true))⟩,
  ⟨(some 81), .loadA 2 (.t 80), (some (some 78, true))⟩,
  ⟨(some 82), .call .q 10 [(.t 79), (.t 81)], (some (some 78, true))⟩,
  ⟨(some 83), .loadA 4 (.t 8), (some (some 78, true))⟩,
  ⟨(some 84), .eqv [.i, .i, .i, .i] true (.t 82) (.t 83), (some (some 78, true))⟩,
  ⟨(some 85), .pick (.t 78) (.t 84) (.c (.one (.sc (.bool false)))), (some (some 67, false))⟩,
  ⟨(some 86), .pick (.t 67) (.c (.one (.sc (.bool true)))) (.t 85), none⟩]
def r3_5 : List SOper := [
  ⟨(some 6), .mv (.c (.one (.sc (.bool false)))), none⟩]
def r3_6 : List SOper := [
  ⟨(some 87), .fadr 7 (.t 3), none⟩,
  ⟨(some 88), .fadr 0 (.t 87), none⟩,
  ⟨(some 89), .load1 (.t 88), none⟩,
  ⟨(some 90), .fadr 5 (.t 3), none⟩,
  ⟨(some 91), .fadr 0 (.t 90), none⟩,
  ⟨(some 92), .load1 (.t 91), none⟩,
  ⟨(some 93), .bin .sub (.t 89) (.t 92), none⟩,
  ⟨(some 94), .fadr 7 (.t 3), none⟩,
  ⟨(some 95), .fadr 1 (.t 94), none⟩,
  ⟨(some 96), .load1 (.t 95), none⟩,
  ⟨(some 97), .fadr 5 (.t 3), none⟩,
  ⟨(some 98), .fadr 1 (.t 97), none⟩,
  ⟨(some 99), .load1 (.t 98), none⟩,
  ⟨(some 100), .bin .sub (.t 96) (.t 99), none⟩,
  ⟨(some 101), .build [.sc (.int .i64 0), .sc (.int .i64 0)] [(0, 1, (.t 93)), (1, 1, (.t 100))], none⟩,
  ⟨(some 9), .alloc [.sc (.int .i64 0), .sc (.int .i64 0)], none⟩,
  ⟨none, .store 2 (.t 9) (.t 101), none⟩]
def r3_7 : List SOper := [
  ⟨(some 102), .fadr 0 (.t 3), none⟩,
  ⟨(some 103), .load1 (.t 102), none⟩,
  ⟨(some 104), .bin .eql (.t 103) (.c (.one (.sc (.int .i64 2)))), none⟩]
def r3_8 : List SOper := [
  ⟨(some 105), .fadr 0 (.t 4), none⟩,
  ⟨(some 106), .load1 (.t 105), none⟩,
  ⟨(some 107), .mv (.t 2), none⟩,
  ⟨(some 108), .fadr 1 (.t 9), none⟩,
  ⟨(some 109), .load1 (.t 108), none⟩,
  ⟨(some 110), .bin .mul (.t 107) (.t 109), none⟩,
  ⟨(some 111), .bin .sub (.t 106) (.t 110), none⟩,
  ⟨(some 112), .fadr 1 (.t 4), none⟩,
  ⟨(some 113), .load1 (.t 112), none⟩,
  ⟨(some 114), .mv (.t 2), none⟩,
  ⟨(some 115), .fadr 0 (.t 9), none⟩,
  ⟨(some 116), .load1 (.t 115), none⟩,
  ⟨(some 117), .bin .mul (.t 114) (.t 116), none⟩,
  ⟨(some 118), .bin .add (.t 113) (.t 117), none⟩,
  ⟨(some 119), .build [.sc (.int .i64 0), .sc (.int .i64 0)] [(0, 1, (.t 111)), (1, 1, (.t 118))], none⟩,
  ⟨(some 10), .alloc [.sc (.int .i64 0), .sc (.int .i64 0)], none⟩,
  ⟨none, .store 2 (.t 10) (.t 119), none⟩]
def r3_9 : List SOper := [
  ⟨(some 120), .loadA 2 (.t 10), none⟩,
  ⟨(some 121), .call (.z 0) 8 [(.t 120)], none⟩,
  ⟨(some 122), .mv (.t 121), none⟩,
  ⟨(some 123), .loadA 10 (.t 3), (some (some 122, false))⟩,
  ⟨(some 124), .loadA 2 (.t 10), (some (some 122, false))⟩,
  ⟨(some 125), .call .q 10 [(.t 123), (.t 124)], (some (some 122, false))⟩,
  ⟨(some 126), .loadA 10 (.t 3), (some (some 122, false))⟩,
  ⟨(some 127), .loadA 2 (.t 4), (some (some 122, false))⟩,
  ⟨(some 128), .call .q 10 [(.t 126), (.t 127)], (some (some 122, false))⟩,
  ⟨(some 129), .eqv [.i, .i, .i, .i] false (.t 125) (.t 128), (some (some 122, false))⟩,
  ⟨(some 130), .pick (.t 122) (.c (.one (.sc (.bool true)))) (.t 129), none⟩,
  ⟨(some 131), .mv (.t 130), none⟩,
  ⟨(some 132), .call (.z 0) 9 [], (some (some 131, true))⟩,
  ⟨(some 133), .pick (.t 131) (.t 132) (.c (.one (.sc (.bool false)))), none⟩,
  ⟨(some 6), .mv (.t 133), none⟩]
def r3_10 : List SOper := [
  ⟨(some 134), .fadr 5 (.t 3), none⟩,
  ⟨(some 135), .fadr 0 (.t 134), none⟩,
  ⟨(some 136), .load1 (.t 135), none⟩,
  ⟨(some 137), .bin .mul (.c (.one (.sc (.int .i64 2)))) (.t 136), none⟩,
  ⟨(some 138), .fadr 0 (.t 4), none⟩,
  ⟨(some 139), .load1 (.t 138), none⟩,
  ⟨(some 140), .bin .sub (.t 137) (.t 139), none⟩,
  ⟨(some 141), .fadr 5 (.t 3), none⟩,
  ⟨(some 142), .fadr 1 (.t 141), none⟩,
  ⟨(some 143), .load1 (.t 142), none⟩,
  ⟨(some 144), .bin .mul (.c (.one (.sc (.int .i64 2)))) (.t 143), none⟩,
  ⟨(some 145), .fadr 1 (.t 4), none⟩,
  ⟨(some 146), .load1 (.t 145), none⟩,
  ⟨(some 147), .bin .sub (.t 144) (.t 146), none⟩,
  ⟨(some 148), .build [.sc (.int .i64 0), .sc (.int .i64 0)] [(0, 1, (.t 140)), (1, 1, (.t 147))], none⟩,
  ⟨(some 11), .alloc [.sc (.int .i64 0), .sc (.int .i64 0)], none⟩,
  ⟨none, .store 2 (.t 11) (.t 148), none⟩]
def r3_11 : List SOper := [
  ⟨(some 149), .loadA 2 (.t 11), none⟩,
  ⟨(some 150), .call (.z 0) 8 [(.t 149)], none⟩,
  ⟨(some 151), .mv (.t 150), none⟩,
  ⟨(some 152), .loadA 10 (.t 3), (some (some 151, false))⟩,
  ⟨(some 153), .loadA 2 (.t 11), (some (some 151, false))⟩,
  ⟨(some 154), .call .q 10 [(.t 152), (.t 153)], (some (some 151, false))⟩,
  ⟨(some 155), .loadA 10 (.t 3), (some (some 151, false))⟩,
  ⟨(some 156), .loadA 2 (.t 4), (some (some 151, false))⟩,
  ⟨(some 157), .call .q 10 [(.t 155), (.t 156)], (some (some 151, false))⟩,
  ⟨(some 158), .eqv [.i, .i, .i, .i] false (.t 154) (.t 157), (some (some 151, false))⟩,
  ⟨(some 159), .pick (.t 151) (.c (.one (.sc (.bool true)))) (.t 158), none⟩,
  ⟨(some 160), .mv (.t 159), none⟩,
  ⟨(some 161), .call (.z 0) 9 [], (some (some 160, true))⟩,
  ⟨(some 162), .pick (.t 160) (.t 161) (.c (.one (.sc (.bool false)))), none⟩,
  ⟨(some 6), .mv (.t 162), none⟩]
def c3 : SC := (.seq (.reg r3_0) (.seq (.seq (.reg r3_1) (.cond (.t 37) (.seq (.reg r3_2) .ret) .skip)) (.seq (.ureg [39, 40, 41, 42, 43, 44, 45, 46, 47, 48, 49, 50, 51, 52] [(44, 7), (46, 7), (51, 7)] r3_3) (.seq (.seq (.reg r3_4) (.cond (.t 86) (.seq (.reg r3_5) .ret) .skip)) (.seq (.reg r3_6) (.seq (.seq (.reg r3_7) (.cond (.t 104) (.seq (.reg r3_8) (.seq (.reg r3_9) .ret)) .skip)) (.seq (.reg r3_10) (.seq (.reg r3_11) .ret))))))))
/-- limner/limnerlaw16.StyleShades -/
def F3 : SFun := ⟨163, c3, [.tmp 6]⟩

def r4_0 : List SOper := [
  ⟨(some 2), .box (.t 0), none⟩,
  ⟨(some 3), .box (.t 1), none⟩,
  ⟨(some 4), .mv (.c (.one (.sc (.bool false)))), none⟩]
def r4_1 : List SOper := [
  ⟨(some 8), .fadr 9 (.t 2), none⟩,
  ⟨(some 9), .load1 (.t 8), none⟩,
  ⟨(some 10), .len (.t 9), none⟩,
  ⟨(some 11), .bin .gtr (.t 10) (.c (.one (.sc (.int .i64 60)))), none⟩]
def r4_2 : List SOper := [
  ⟨(some 12), .call (.z 0) 9 [], none⟩,
  ⟨(some 4), .mv (.t 12), none⟩]
def r4_3 : List SOper := [
  ⟨(some 13), .loadA 10 (.t 2), none⟩,
  ⟨(some 14), .call .q 7 [(.t 13)], none⟩,
  ⟨(some 5), .mv (.t 14), none⟩]
def r4_4 : List SOper := [
  ⟨(some 15), .loadA 10 (.t 2), none⟩,
  ⟨(some 16), .call .q 11 [(.t 15)], none⟩,
  ⟨(some 17), .mv (.t 5), none⟩,
  ⟨(some 18), .bin .neq (.t 16) (.t 17), none⟩,
  ⟨(some 19), .mv (.t 18), none⟩,
  ⟨(some 20), .loadA 10 (.t 2), (some (some 19, false))⟩,
  ⟨(some 21), .loadA 10 (.t 2), (some (some 19, false))⟩,
  ⟨(some 22), .call .q 12 [(.t 20), (.t 21)], (some (some 19, false))⟩,
  ⟨(some 23), .un .not (.t 22), (some (some 19, false))⟩,
  ⟨(some 24), .pick (.t 19) (.c (.one (.sc (.bool true)))) (.t 23), none⟩]
def r4_5 : List SOper := [
  ⟨(some 4), .mv (.c (.one (.sc (.bool false)))), none⟩]
def r4_6 : List SOper := [
  ⟨(some 25), .mv (.t 5), none⟩,
  ⟨(some 26), .bin .neq (.t 25) (.c (.one (.sc (.int .i64 0)))), none⟩]
def r4_7 : List SOper := [
  ⟨(some 27), .call (.z 0) 9 [], none⟩,
  ⟨(some 4), .mv (.t 27), none⟩]
def r4_8 : List SOper := [
  ⟨(some 28), .build [.sc (.int .i64 0), .sc (.int .i64 0), .sc (.int .i64 0), .sc (.int .i64 0)] [], none⟩,
  ⟨(some 6), .alloc [.sc (.int .i64 0), .sc (.int .i64 0), .sc (.int .i64 0), .sc (.int .i64 0)], none⟩,
  ⟨none, .store 4 (.t 6) (.t 28), none⟩]
def r4_9 : List SOper := [
  ⟨(some 29), .fadr 0 (.t 2), none⟩,
  ⟨(some 30), .load1 (.t 29), none⟩]
def r4_10 : List SOper := [
  ⟨(some 32), .bin .eql (.t 30) (.c (.one (.sc (.int .i64 1)))), none⟩,
  ⟨(some 31), .mv (.t 32), none⟩]
def r4_11 : List SOper := [
  ⟨(some 33), .fadr 1 (.t 2), none⟩,
  ⟨(some 34), .loadA 4 (.t 33), none⟩,
  ⟨(some 35), .call (.z 0) 13 [(.t 34)], none⟩,
  ⟨none, .store 4 (.t 6) (.t 35), none⟩]
def r4_12 : List SOper := [
  ⟨(some 37), .bin .eql (.t 30) (.c (.one (.sc (.int .i64 2)))), none⟩,
  ⟨(some 36), .mv (.t 37), none⟩]
def r4_13 : List SOper := [
  ⟨(some 38), .fadr 9 (.t 2), none⟩,
  ⟨(some 39), .load1 (.t 38), none⟩,
  ⟨(some 40), .call .k 15 [(.t 39)], none⟩,
  ⟨(some 41), .fadr 5 (.t 2), none⟩,
  ⟨(some 42), .loadA 2 (.t 41), none⟩,
  ⟨(some 43), .call (.z 0) 17 [(.t 42)], none⟩,
  ⟨(some 44), .fadr 7 (.t 2), none⟩,
  ⟨(some 45), .loadA 2 (.t 44), none⟩,
  ⟨(some 46), .call (.z 0) 17 [(.t 45)], none⟩,
  ⟨(some 47), .loadA 2 (.t 3), none⟩,
  ⟨(some 48), .call (.z 0) 17 [(.t 47)], none⟩,
  ⟨(some 49), .call (.z 0) 16 [(.t 43), (.t 46), (.t 48)], none⟩,
  ⟨(some 50), .call .q 14 [(.t 40), (.t 49)], none⟩,
  ⟨none, .store 4 (.t 6) (.t 50), none⟩]
def r4_14 : List SOper := [
  ⟨(some 52), .bin .eql (.t 30) (.c (.one (.sc (.int .i64 3)))), none⟩,
  ⟨(some 51), .mv (.t 52), none⟩]
def r4_15 : List SOper := [
  ⟨(some 53), .fadr 9 (.t 2), none⟩,
  ⟨(some 54), .load1 (.t 53), none⟩,
  ⟨(some 55), .call .k 15 [(.t 54)], none⟩,
  ⟨(some 56), .fadr 5 (.t 2), none⟩,
  ⟨(some 57), .loadA 2 (.t 56), none⟩,
  ⟨(some 58), .call (.z 0) 17 [(.t 57)], none⟩,
  ⟨(some 59), .fadr 7 (.t 2), none⟩,
  ⟨(some 60), .loadA 2 (.t 59), none⟩,
  ⟨(some 61), .call (.z 0) 17 [(.t 60)], none⟩,
  ⟨(some 62), .loadA 2 (.t 3), none⟩,
  ⟨(some 63), .call (.z 0) 17 [(.t 62)], none⟩,
  ⟨(some 64), .call (.z 0) 18 [(.t 58), (.t 61), (.t 63)], none⟩,
  ⟨(some 65), .call .q 14 [(.t 55), (.t 64)], none⟩,
  ⟨none, .store 4 (.t 6) (.t 65), none⟩]
def r4_16 : List SOper := [
  ⟨(some 66), .loadA 10 (.t 2), none⟩,
  ⟨(some 67), .loadA 2 (.t 3), none⟩,
  ⟨(some 68), .call .q 10 [(.t 66), (.t 67)], none⟩,
  ⟨(some 7), .alloc [.sc (.int .u8 0), .sc (.int .u8 0), .sc (.int .u8 0), .sc (.int .u8 0)], none⟩,
  ⟨none, .store 4 (.t 7) (.t 68), none⟩]
def r4_17 : List SOper := [
  ⟨(some 69), .loadA 4 (.t 7), none⟩,
  ⟨(some 70), .call (.z 0) 13 [(.t 69)], none⟩,
  ⟨(some 71), .loadA 4 (.t 6), none⟩,
  ⟨(some 72), .eqv [.i, .i, .i, .i] false (.t 70) (.t 71), none⟩,
  ⟨(some 73), .mv (.t 72), none⟩,
  ⟨(some 74), .loadA 4 (.t 7), (some (some 73, true))⟩,
  ⟨(some 75), .call (.z 0) 19 [(.t 74)], (some (some 73, true))⟩,
  ⟨(some 76), .pick (.t 73) (.t 75) (.c (.one (.sc (.bool false)))), none⟩,
  ⟨(some 77), .mv (.t 76), none⟩,
  ⟨(some 78), .call (.z 0) 9 [], (some (some 77, true))⟩,
  ⟨(some 79), .pick (.t 77) (.t 78) (.c (.one (.sc (.bool false)))), none⟩,
  ⟨(some 4), .mv (.t 79), none⟩]
def c4 : SC := (.seq (.reg r4_0) (.seq (.seq (.reg r4_1) (.cond (.t 11) (.seq (.reg r4_2) .ret) .skip)) (.seq (.reg r4_3) (.seq (.seq (.reg r4_4) (.cond (.t 24) (.seq (.reg r4_5) .ret) .skip)) (.seq (.seq (.reg r4_6) (.cond (.t 26) (.seq (.reg r4_7) .ret) .skip)) (.seq (.reg r4_8) (.seq (.seq (.reg r4_9) (.block 0 (.seq (.reg r4_10) (.cond (.t 31) (.reg r4_11) (.seq (.reg r4_12) (.cond (.t 36) (.reg r4_13) (.seq (.reg r4_14) (.cond (.t 51) (.reg r4_15) .skip)))))))) (.seq (.reg r4_16) (.seq (.reg r4_17) .ret)))))))))
/-- limner/limnerlaw16.StylePaints -/
def F4 : SFun := ⟨80, c4, [.tmp 4]⟩

def r5_0 : List SOper := [
  ⟨(some 2), .box (.t 0), none⟩,
  ⟨(some 4), .mv (.c (.one (.sc (.bool false)))), none⟩]
def r5_1 : List SOper := [
  ⟨(some 6), .loadA 27 (.t 2), none⟩,
  ⟨(some 7), .call .q 20 [(.t 6), (.c (.one (.sc (.slice none 0 0))))], none⟩,
  ⟨(some 8), .un .not (.t 7), none⟩]
def r5_2 : List SOper := [
  ⟨(some 9), .call (.z 0) 9 [], none⟩,
  ⟨(some 4), .mv (.t 9), none⟩]
def r5_3 : List SOper := [
  ⟨(some 10), .loadA 27 (.t 2), none⟩,
  ⟨(some 5), .alloc [.sc (.int .i64 0), .sc (.int .u8 0), .sc (.int .u8 0), .sc (.int .u8 0), .sc (.int .u8 0), .sc (.int .i64 0), .sc (.int .i64 0), .sc (.int .i64 0), .sc (.int .i64 0), .sc (.slice none 0 0), .sc (.int .i64 0), .sc (.int .u8 0), .sc (.int .u8 0), .sc (.int .u8 0), .sc (.int .u8 0), .sc (.int .i64 0), .sc (.int .i64 0), .sc (.int .i64 0), .sc (.int .i64 0), .sc (.slice none 0 0), .sc (.int .i64 0), .sc (.int .i64 0), .sc (.int .i64 0), .sc (.slice none 0 0), .sc (.int .i64 0), .sc (.int .i64 0), .sc (.int .i64 0)], none⟩,
  ⟨none, .store 27 (.t 5) (.t 10), none⟩]
def r5_4 : List SOper := [
  ⟨(some 11), .bslice [] 0 5 [], none⟩,
  ⟨(some 12), .fadr 0 (.t 2), none⟩,
  ⟨(some 13), .fadr 9 (.t 12), none⟩,
  ⟨(some 14), .load1 (.t 13), none⟩,
  ⟨(some 15), .app 5 16 (.t 11) (.t 14), none⟩,
  ⟨(some 16), .fadr 0 (.t 5), none⟩,
  ⟨(some 17), .fadr 9 (.t 16), none⟩,
  ⟨none, .store 1 (.t 17) (.t 15), none⟩]
def r5_5 : List SOper := [
  ⟨(some 18), .bslice [] 0 1 [], none⟩,
  ⟨(some 19), .fadr 23 (.t 2), none⟩,
  ⟨(some 20), .fadr 0 (.t 19), none⟩,
  ⟨(some 21), .load1 (.t 20), none⟩,
  ⟨(some 22), .app 1 8 (.t 18) (.t 21), none⟩,
  ⟨(some 23), .fadr 23 (.t 5), none⟩,
  ⟨(some 24), .fadr 0 (.t 23), none⟩,
  ⟨none, .store 1 (.t 24) (.t 22), none⟩]
def r5_6 : List SOper := [
  ⟨(some 25), .loadA 27 (.t 2), none⟩,
  ⟨(some 26), .loadA 27 (.t 5), none⟩,
  ⟨(some 27), .call .q 21 [(.t 25), (.t 26)], none⟩,
  ⟨(some 28), .un .not (.t 27), none⟩,
  ⟨(some 29), .mv (.t 28), none⟩,
  ⟨(some 30), .loadA 27 (.t 5), (some (some 29, false))⟩,
  ⟨(some 31), .loadA 27 (.t 2), (some (some 29, false))⟩,
  ⟨(some 32), .call .q 21 [(.t 30), (.t 31)], (some (some 29, false))⟩,
  ⟨(some 33), .un .not (.t 32), (some (some 29, false))⟩,
  ⟨(some 34), .pick (.t 29) (.c (.one (.sc (.bool true)))) (.t 33), none⟩]
def r5_7 : List SOper := [
  ⟨(some 4), .mv (.c (.one (.sc (.bool false)))), none⟩]
def r5_8 : List SOper := [
  ⟨(some 35), .mv (.t 1), none⟩]
def r5_10 : List SOper := [
  ⟨(some 38), .bin .eql (.t 35) (.c (.one (.sc (.int .i64 0)))), none⟩,
  ⟨(some 37), .mv (.t 38), none⟩]
def r5_11 : List SOper := [
  ⟨(some 39), .fadr 20 (.t 5), none⟩,
  ⟨(some 40), .load1 (.t 39), none⟩,
  ⟨(some 41), .bin .xor (.t 40) (.c (.one (.sc (.int .i64 1)))), none⟩,
  ⟨(some 42), .fadr 20 (.t 5), none⟩,
  ⟨none, .store 1 (.t 42) (.t 41), none⟩]
def r5_12 : List SOper := [
  ⟨(some 44), .bin .eql (.t 35) (.c (.one (.sc (.int .i64 1)))), none⟩,
  ⟨(some 43), .mv (.t 44), none⟩]
def r5_13 : List SOper := [
  ⟨(some 45), .fadr 21 (.t 5), none⟩,
  ⟨(some 46), .load1 (.t 45), none⟩,
  ⟨(some 47), .bin .xor (.t 46) (.c (.one (.sc (.int .i64 1)))), none⟩,
  ⟨(some 48), .fadr 21 (.t 5), none⟩,
  ⟨none, .store 1 (.t 48) (.t 47), none⟩]
def r5_14 : List SOper := [
  ⟨(some 50), .bin .eql (.t 35) (.c (.one (.sc (.int .i64 2)))), none⟩,
  ⟨(some 49), .mv (.t 50), none⟩]
def r5_15 : List SOper := [
  ⟨(some 51), .fadr 22 (.t 5), none⟩,
  ⟨(some 52), .load1 (.t 51), none⟩,
  ⟨(some 53), .bin .xor (.t 52) (.c (.one (.sc (.int .i64 1)))), none⟩,
  ⟨(some 54), .fadr 22 (.t 5), none⟩,
  ⟨none, .store 1 (.t 54) (.t 53), none⟩]
def r5_16 : List SOper := [
  ⟨(some 56), .bin .eql (.t 35) (.c (.one (.sc (.int .i64 3)))), none⟩,
  ⟨(some 55), .mv (.t 56), none⟩]
def r5_17 : List SOper := [
  ⟨(some 57), .fadr 25 (.t 5), none⟩,
  ⟨(some 58), .load1 (.t 57), none⟩,
  ⟨(some 59), .bin .xor (.t 58) (.c (.one (.sc (.int .i64 1)))), none⟩,
  ⟨(some 60), .fadr 25 (.t 5), none⟩,
  ⟨none, .store 1 (.t 60) (.t 59), none⟩]
def r5_18 : List SOper := [
  ⟨(some 62), .bin .eql (.t 35) (.c (.one (.sc (.int .i64 4)))), none⟩,
  ⟨(some 61), .mv (.t 62), none⟩]
def r5_19 : List SOper := [
  ⟨(some 63), .fadr 26 (.t 5), none⟩,
  ⟨(some 64), .load1 (.t 63), none⟩,
  ⟨(some 65), .bin .xor (.t 64) (.c (.one (.sc (.int .i64 1)))), none⟩,
  ⟨(some 66), .fadr 26 (.t 5), none⟩,
  ⟨none, .store 1 (.t 66) (.t 65), none⟩]
def r5_20 : List SOper := [
  ⟨(some 68), .bin .eql (.t 35) (.c (.one (.sc (.int .i64 5)))), none⟩,
  ⟨(some 67), .mv (.t 68), none⟩]
def r5_21 : List SOper := [
  ⟨(some 69), .fadr 23 (.t 5), none⟩,
  ⟨(some 70), .fadr 1 (.t 69), none⟩,
  ⟨(some 71), .load1 (.t 70), none⟩,
  ⟨(some 72), .bin .xor (.t 71) (.c (.one (.sc (.int .i64 1)))), none⟩,
  ⟨(some 73), .fadr 23 (.t 5), none⟩,
  ⟨(some 74), .fadr 1 (.t 73), none⟩,
  ⟨none, .store 1 (.t 74) (.t 72), none⟩]
def r5_22 : List SOper := [
  ⟨(some 76), .bin .eql (.t 35) (.c (.one (.sc (.int .i64 6)))), none⟩,
  ⟨(some 75), .mv (.t 76), none⟩]
def r5_23 : List SOper := [
  ⟨(some 77), .fadr 23 (.t 5), none⟩,
  ⟨(some 78), .fadr 0 (.t 77), none⟩,
  ⟨(some 79), .load1 (.t 78), none⟩,
  ⟨(some 80), .bslice [.sc (.int .i64 0)] 1 1 [(0, 1, (.c (.one (.sc (.int .i64 1)))))], none⟩,
  ⟨(some 81), .app 1 8 (.t 79) (.t 80), none⟩,
  ⟨(some 82), .fadr 23 (.t 5), none⟩,
  ⟨(some 83), .fadr 0 (.t 82), none⟩,
  ⟨none, .store 1 (.t 83) (.t 81), none⟩]
def r5_24 : List SOper := [
  ⟨(some 85), .bin .eql (.t 35) (.c (.one (.sc (.int .i64 7)))), none⟩,
  ⟨(some 84), .mv (.t 85), none⟩]
def r5_25 : List SOper := [
  ⟨(some 86), .fadr 0 (.t 5), none⟩,
  ⟨(some 87), .fadr 1 (.t 86), none⟩,
  ⟨(some 88), .iadrA 4 1 (.t 87) (.c (.one (.sc (.int .i64 2)))), none⟩,
  ⟨(some 89), .load1 (.t 88), none⟩,
  ⟨(some 90), .bin .xor (.t 89) (.c (.one (.sc (.int .u8 1)))), none⟩,
  ⟨(some 91), .fadr 0 (.t 5), none⟩,
  ⟨(some 92), .fadr 1 (.t 91), none⟩,
  ⟨(some 93), .iadrA 4 1 (.t 92) (.c (.one (.sc (.int .i64 2)))), none⟩,
  ⟨none, .store 1 (.t 93) (.t 90), none⟩]
def r5_26 : List SOper := [
  ⟨(some 95), .bin .eql (.t 35) (.c (.one (.sc (.int .i64 8)))), none⟩,
  ⟨(some 94), .mv (.t 95), none⟩]
def r5_27 : List SOper := [
  ⟨(some 96), .fadr 10 (.t 5), none⟩,
  ⟨(some 97), .fadr 5 (.t 96), none⟩,
  ⟨(some 98), .fadr 0 (.t 97), none⟩,
  ⟨(some 99), .load1 (.t 98), none⟩,
  ⟨(some 100), .bin .xor (.t 99) (.c (.one (.sc (.int .i64 1)))), none⟩,
  ⟨(some 101), .fadr 10 (.t 5), none⟩,
  ⟨(some 102), .fadr 5 (.t 101), none⟩,
  ⟨(some 103), .fadr 0 (.t 102), none⟩,
  ⟨none, .store 1 (.t 103) (.t 100), none⟩]
def r5_28 : List SOper := [
  ⟨(some 105), .bin .eql (.t 35) (.c (.one (.sc (.int .i64 9)))), none⟩,
  ⟨(some 104), .mv (.t 105), none⟩]
def r5_29 : List SOper := [
  ⟨(some 106), .fadr 0 (.t 5), none⟩,
  ⟨(some 107), .fadr 9 (.t 106), none⟩,
  ⟨(some 108), .load1 (.t 107), none⟩,
  ⟨(some 109), .build [.sc (.int .i64 0), .sc (.int .u8 0), .sc (.int .u8 0), .sc (.int .u8 0), .sc (.int .u8 0)] [], none⟩,
  ⟨(some 110), .bslice [.sc (.int .i64 0), .sc (.int .u8 0), .sc (.int .u8 0), .sc (.int .u8 0), .sc (.int .u8 0)] 1 5 [(0, 5, (.t 109))], none⟩,
  ⟨(some 111), .app 5 16 (.t 108) (.t 110), none⟩,
  ⟨(some 112), .fadr 0 (.t 5), none⟩,
  ⟨(some 113), .fadr 9 (.t 112), none⟩,
  ⟨none, .store 1 (.t 113) (.t 111), none⟩]
def r5_9 : List SOper := [
  ⟨(some 36), .call (.z 0) 9 [], none⟩,
  ⟨(some 4), .mv (.t 36), none⟩]
def r5_30 : List SOper := [
  ⟨(some 114), .loadA 27 (.t 2), none⟩,
  ⟨(some 115), .loadA 27 (.t 5), none⟩,
  ⟨(some 116), .call .q 21 [(.t 114), (.t 115)], none⟩,
  ⟨(some 117), .un .not (.t 116), none⟩,
  ⟨(some 118), .mv (.t 117), none⟩,
  ⟨(some 119), .loadA 27 (.t 5), (some (some 118, true))⟩,
  ⟨(some 120), .loadA 27 (.t 2), (some (some 118, true))⟩,
  ⟨(some 121), .call .q 21 [(.t 119), (.t 120)], (some (some 118, true))⟩,
  ⟨(some 122), .un .not (.t 121), (some (some 118, true))⟩,
  ⟨(some 123), .pick (.t 118) (.t 122) (.c (.one (.sc (.bool false)))), none⟩,
  ⟨(some 124), .mv (.t 123), none⟩,
  ⟨(some 125), .call (.z 0) 9 [], (some (some 124, true))⟩,
  ⟨(some 126), .pick (.t 124) (.t 125) (.c (.one (.sc (.bool false)))), none⟩,
  ⟨(some 4), .mv (.t 126), none⟩]
def c5 : SC := (.seq (.reg r5_0) (.seq (.seq (.reg r5_1) (.cond (.t 8) (.seq (.reg r5_2) .ret) .skip)) (.seq (.reg r5_3) (.seq (.reg r5_4) (.seq (.reg r5_5) (.seq (.seq (.reg r5_6) (.cond (.t 34) (.seq (.reg r5_7) .ret) .skip)) (.seq (.seq (.reg r5_8) (.block 0 (.seq (.reg r5_10) (.cond (.t 37) (.reg r5_11) (.seq (.reg r5_12) (.cond (.t 43) (.reg r5_13) (.seq (.reg r5_14) (.cond (.t 49) (.reg r5_15) (.seq (.reg r5_16) (.cond (.t 55) (.reg r5_17) (.seq (.reg r5_18) (.cond (.t 61) (.reg r5_19) (.seq (.reg r5_20) (.cond (.t 67) (.reg r5_21) (.seq (.reg r5_22) (.cond (.t 75) (.reg r5_23) (.seq (.reg r5_24) (.cond (.t 84) (.reg r5_25) (.seq (.reg r5_26) (.cond (.t 94) (.reg r5_27) (.seq (.reg r5_28) (.cond (.t 104) (.reg r5_29) (.seq (.reg r5_9) .ret))))))))))))))))))))))) (.seq (.reg r5_30) .ret))))))))
/-- limner/limnerlaw16.StyleEquals -/
def F5 : SFun := ⟨127, c5, [.tmp 4]⟩

def r6_0 : List SOper := [
  ⟨(some 1), .box (.t 0), none⟩,
  ⟨(some 2), .mv (.c (.one (.sc (.bool false)))), none⟩]
def r6_1 : List SOper := [
  ⟨(some 5), .fadr 0 (.t 1), none⟩,
  ⟨(some 6), .fadr 9 (.t 5), none⟩,
  ⟨(some 7), .load1 (.t 6), none⟩,
  ⟨(some 8), .len (.t 7), none⟩,
  ⟨(some 9), .bin .gtr (.t 8) (.c (.one (.sc (.int .i64 60)))), none⟩,
  ⟨(some 10), .mv (.t 9), none⟩,
  ⟨(some 11), .fadr 10 (.t 1), (some (some 10, false))⟩,
  ⟨(some 12), .fadr 9 (.t 11), (some (some 10, false))⟩,
  ⟨(some 13), .load1 (.t 12), (some (some 10, false))⟩,
  ⟨(some 14), .len (.t 13), (some (some 10, false))⟩,
  ⟨(some 15), .bin .gtr (.t 14) (.c (.one (.sc (.int .i64 60)))), (some (some 10, false))⟩,
  ⟨(some 16), .pick (.t 10) (.c (.one (.sc (.bool true)))) (.t 15), none⟩,
  ⟨(some 17), .mv (.t 16), none⟩,
  ⟨(some 18), .fadr 23 (.t 1), (some (some 17, false))⟩,
  ⟨(some 19), .fadr 0 (.t 18), (some (some 17, false))⟩,
  ⟨(some 20), .load1 (.t 19), (some (some 17, false))⟩,
  ⟨(some 21), .len (.t 20), (some (some 17, false))⟩,
  ⟨(some 22), .bin .gtr (.t 21) (.c (.one (.sc (.int .i64 60)))), (some (some 17, false))⟩,
  ⟨(some 23), .pick (.t 17) (.c (.one (.sc (.bool true)))) (.t 22), none⟩]
def r6_2 : List SOper := [
  ⟨(some 24), .call (.z 0) 9 [], none⟩,
  ⟨(some 2), .mv (.t 24), none⟩]
def r6_3 : List SOper := [
  ⟨(some 25), .fadr 0 (.t 1), none⟩,
  ⟨(some 26), .loadA 10 (.t 25), none⟩,
  ⟨(some 27), .call .q 7 [(.t 26)], none⟩,
  ⟨(some 3), .mv (.t 27), none⟩]
def r6_4 : List SOper := [
  ⟨(some 28), .mv (.t 3), none⟩,
  ⟨(some 29), .bin .eql (.t 28) (.c (.one (.sc (.int .i64 0)))), none⟩]
def r6_5 : List SOper := [
  ⟨(some 30), .fadr 10 (.t 1), none⟩,
  ⟨(some 31), .loadA 10 (.t 30), none⟩,
  ⟨(some 32), .call .q 7 [(.t 31)], none⟩,
  ⟨(some 3), .mv (.t 32), none⟩]
def r6_6 : List SOper := [
  ⟨(some 33), .mv (.t 3), none⟩,
  ⟨(some 34), .bin .eql (.t 33) (.c (.one (.sc (.int .i64 0)))), none⟩,
  ⟨(some 35), .mv (.t 34), none⟩,
  ⟨(some 36), .fadr 20 (.t 1), (some (some 35, true))⟩,
  ⟨(some 37), .load1 (.t 36), (some (some 35, true))⟩,
  ⟨(some 38), .bin .neq (.t 37) (.c (.one (.sc (.int .i64 1)))), (some (some 35, true))⟩,
  ⟨(some 39), .mv (.t 38), (some (some 35, true))⟩,
  ⟨(some 40), .fadr 20 (.t 1), (some (some 39, true))⟩,
  ⟨(some 41), .load1 (.t 40), (some (some 39, true))⟩,
  ⟨(some 42), .bin .neq (.t 41) (.c (.one (.sc (.int .i64 2)))), (some (some 39, true))⟩,
  ⟨(some 43), .pick (.t 39) (.t 42) (.c (.one (.sc (.bool false)))), (some (some 35, true))⟩,
  ⟨(some 44), .mv (.t 43), (some (some 35, true))⟩,
  ⟨(some 45), .fadr 21 (.t 1), (some (some 44, false))⟩,
  ⟨(some 46), .load1 (.t 45), (some (some 44, false))⟩,
  ⟨(some 47), .bin .lss (.t 46) (.c (.one (.sc (.int .i64 0)))), (some (some 44, false))⟩,
  ⟨(some 48), .pick (.t 44) (.c (.one (.sc (.bool true)))) (.t 47), (some (some 35, true))⟩,
  ⟨(some 49), .mv (.t 48), (some (some 35, true))⟩,
  ⟨(some 50), .fadr 21 (.t 1), (some (some 49, false))⟩,
  ⟨(some 51), .load1 (.t 50), (some (some 49, false))⟩,
  ⟨(some 52), .bin .gtr (.t 51) (.c (.one (.sc (.int .i64 32768)))), (some (some 49, false))⟩,
  ⟨(some 53), .pick (.t 49) (.c (.one (.sc (.bool true)))) (.t 52), (some (some 35, true))⟩,
  ⟨(some 54), .mv (.t 53), (some (some 35, true))⟩,
  ⟨(some 55), .fadr 22 (.t 1), (some (some 54, false))⟩,
  ⟨(some 56), .load1 (.t 55), (some (some 54, false))⟩,
  ⟨(some 57), .bin .lss (.t 56) (.c (.one (.sc (.int .i64 0)))), (some (some 54, false))⟩,
  ⟨(some 58), .pick (.t 54) (.c (.one (.sc (.bool true)))) (.t 57), (some (some 35, true))⟩,
  ⟨(some 59), .mv (.t 58), (some (some 35, true))⟩,
  ⟨(some 60), .fadr 22 (.t 1), (some (some 59, false))⟩,
  ⟨(some 61), .load1 (.t 60), (some (some 59, false))⟩,
  ⟨(some 62), .bin .gtr (.t 61) (.c (.one (.sc (.int .i64 2)))), (some (some 59, false))⟩,
  ⟨(some 63), .pick (.t 59) (.c (.one (.sc (.bool true)))) (.t 62), (some (some 35, true))⟩,
  ⟨(some 64), .mv (.t 63), (some (some 35, true))⟩,
  ⟨(some 65), .fadr 25 (.t 1), (some (some 64, false))⟩,
  ⟨(some 66), .load1 (.t 65), (some (some 64, false))⟩,
  ⟨(some 67), .bin .lss (.t 66) (.c (.one (.sc (.int .i64 0)))), (some (some 64, false))⟩,
  ⟨(some 68), .pick (.t 64) (.c (.one (.sc (.bool true)))) (.t 67), (some (some 35, true))⟩,
  ⟨(some 69), .mv (.t 68), (some (some 35, true))⟩,
  ⟨(some 70), .fadr 25 (.t 1), (some (some 69, false))⟩,
  ⟨(some 71), .load1 (.t 70), (some (some 69, false))⟩,
  ⟨(some 72), .bin .gtr (.t 71) (.c (.one (.sc (.int .i64 255)))), (some (some 69, false))⟩,
  ⟨(some 73), .pick (.t 69) (.c (.one (.sc (.bool true)))) (.t 72), (some (some 35, true))⟩,
  ⟨(some 74), .mv (.t 73), (some (some 35, true))⟩,
  ⟨(some 75), .fadr 26 (.t 1), (some (some 74, false))⟩,
  ⟨(some 76), .load1 (.t 75), (some (some 74, false))⟩,
  ⟨(some 77), .bin .lss (.t 76) (.c (.one (.sc (.int .i64 0)))), (some (some 74, false))⟩,
  ⟨(some 78), .pick (.t 74) (.c (.one (.sc (.bool true)))) (.t 77), (some (some 35, true))⟩,
  ⟨(some 79), .mv (.t 78), (some (some 35, true))⟩,
  ⟨(some 80), .fadr 26 (.t 1), (some (some 79, false))⟩,
  ⟨(some 81), .load1 (.t 80), (some (some 79, false))⟩,
  ⟨(some 82), .bin .gtr (.t 81) (.c (.one (.sc (.int .i64 4)))), (some (some 79, false))⟩,
  ⟨(some 83), .pick (.t 79) (.c (.one (.sc (.bool true)))) (.t 82), (some (some 35, true))⟩,
  ⟨(some 84), .mv (.t 83), (some (some 35, true))⟩,
  ⟨(some 85), .fadr 23 (.t 1), (some (some 84, false))⟩,
  ⟨(some 86), .fadr 0 (.t 85), (some (some 84, false))⟩,
  ⟨(some 87), .load1 (.t 86), (some (some 84, false))⟩,
  ⟨(some 88), .fadr 23 (.t 1), (some (some 84, false))⟩,
  ⟨(some 89), .fadr 1 (.t 88), (some (some 84, false))⟩,
  ⟨(some 90), .load1 (.t 89), (some (some 84, false))⟩,
  ⟨(some 91), .call .q 22 [(.t 87), (.t 90)], (some (some 84, false))⟩,
  ⟨(some 92), .un .not (.t 91), (some (some 84, false))⟩,
  ⟨(some 93), .pick (.t 84) (.c (.one (.sc (.bool true)))) (.t 92), (some (some 35, true))⟩,
  ⟨(some 94), .pick (.t 35) (.t 93) (.c (.one (.sc (.bool false)))), none⟩]
def r6_7 : List SOper := [
  ⟨(some 3), .mv (.c (.one (.sc (.int .i64 30)))), none⟩]
def r6_8 : List SOper := [
  ⟨(some 95), .call .k 23 [], none⟩,
  ⟨(some 4), .alloc [.sc (.int .i64 0), .sc (.int .u8 0), .sc (.int .u8 0), .sc (.int .u8 0), .sc (.int .u8 0), .sc (.int .i64 0), .sc (.int .i64 0), .sc (.int .i64 0), .sc (.int .i64 0), .sc (.slice none 0 0), .sc (.int .i64 0), .sc (.int .u8 0), .sc (.int .u8 0), .sc (.int .u8 0), .sc (.int .u8 0), .sc (.int .i64 0), .sc (.int .i64 0), .sc (.int .i64 0), .sc (.int .i64 0), .sc (.slice none 0 0), .sc (.int .i64 0), .sc (.int .i64 0), .sc (.int .i64 0), .sc (.slice none 0 0), .sc (.int .i64 0), .sc (.int .i64 0), .sc (.int .i64 0)], none⟩,
  ⟨none, .store 27 (.t 4) (.t 95), none⟩]
def r6_9 : List SOper := [
  ⟨(some 96), .loadA 27 (.t 1), none⟩,
  ⟨(some 97), .call .q 24 [(.t 96)], none⟩,
  ⟨(some 98), .mv (.t 3), none⟩,
  ⟨(some 99), .bin .eql (.t 97) (.t 98), none⟩,
  ⟨(some 100), .mv (.t 99), none⟩,
  ⟨(some 101), .loadA 27 (.t 1), (some (some 100, true))⟩,
  ⟨(some 102), .loadA 27 (.t 1), (some (some 100, true))⟩,
  ⟨(some 103), .call .q 21 [(.t 101), (.t 102)], (some (some 100, true))⟩,
  ⟨(some 104), .pick (.t 100) (.t 103) (.c (.one (.sc (.bool false)))), none⟩,
  ⟨(some 105), .mv (.t 104), none⟩,
  ⟨(some 106), .loadA 27 (.t 4), (some (some 105, true))⟩,
  ⟨(some 107), .call .q 24 [(.t 106)], (some (some 105, true))⟩,
  ⟨(some 108), .bin .eql (.t 107) (.c (.one (.sc (.int .i64 0)))), (some (some 105, true))⟩,
  ⟨(some 109), .pick (.t 105) (.t 108) (.c (.one (.sc (.bool false)))), none⟩,
  ⟨(some 110), .mv (.t 109), none⟩,
  ⟨(some 111), .fadr 20 (.t 4), (some (some 110, true))⟩,
  ⟨(some 112), .load1 (.t 111), (some (some 110, true))⟩,
  ⟨(some 113), .bin .eql (.t 112) (.c (.one (.sc (.int .i64 1)))), (some (some 110, true))⟩,
  ⟨(some 114), .pick (.t 110) (.t 113) (.c (.one (.sc (.bool false)))), none⟩,
  ⟨(some 115), .mv (.t 114), none⟩,
  ⟨(some 116), .fadr 25 (.t 4), (some (some 115, true))⟩,
  ⟨(some 117), .load1 (.t 116), (some (some 115, true))⟩,
  ⟨(some 118), .bin .eql (.t 117) (.c (.one (.sc (.int .i64 255)))), (some (some 115, true))⟩,
  ⟨(some 119), .pick (.t 115) (.t 118) (.c (.one (.sc (.bool false)))), none⟩,
  ⟨(some 120), .mv (.t 119), none⟩,
  ⟨(some 121), .fadr 0 (.t 4), (some (some 120, true))⟩,
  ⟨(some 122), .fadr 0 (.t 121), (some (some 120, true))⟩,
  ⟨(some 123), .load1 (.t 122), (some (some 120, true))⟩,
  ⟨(some 124), .bin .eql (.t 123) (.c (.one (.sc (.int .i64 0)))), (some (some 120, true))⟩,
  ⟨(some 125), .pick (.t 120) (.t 124) (.c (.one (.sc (.bool false)))), none⟩,
  ⟨(some 126), .mv (.t 125), none⟩,
  ⟨(some 127), .fadr 21 (.t 4), (some (some 126, true))⟩,
  ⟨(some 128), .load1 (.t 127), (some (some 126, true))⟩,
  ⟨(some 129), .bin .eql (.t 128) (.c (.one (.sc (.int .i64 0)))), (some (some 126, true))⟩,
  ⟨(some 130), .pick (.t 126) (.t 129) (.c (.one (.sc (.bool false)))), none⟩,
  ⟨(some 131), .mv (.t 130), none⟩,
  ⟨(some 132), .call (.z 0) 9 [], (some (some 131, true))⟩,
  ⟨(some 133), .pick (.t 131) (.t 132) (.c (.one (.sc (.bool false)))), none⟩,
  ⟨(some 2), .mv (.t 133), none⟩]
def c6 : SC := (.seq (.reg r6_0) (.seq (.seq (.reg r6_1) (.cond (.t 23) (.seq (.reg r6_2) .ret) .skip)) (.seq (.reg r6_3) (.seq (.seq (.reg r6_4) (.cond (.t 29) (.reg r6_5) .skip)) (.seq (.seq (.reg r6_6) (.cond (.t 94) (.reg r6_7) .skip)) (.seq (.reg r6_8) (.seq (.reg r6_9) .ret)))))))
/-- limner/limnerlaw16.StyleChecks -/
def F6 : SFun := ⟨134, c6, [.tmp 2]⟩

def r7_0 : List SOper := [
  ⟨(some 1), .box (.t 0), none⟩,
  ⟨(some 2), .mv (.c (.one (.sc (.int .i64 0)))), none⟩]
def r7_1 : List SOper := [
  ⟨(some 4), .fadr 0 (.t 1), none⟩,
  ⟨(some 5), .load1 (.t 4), none⟩,
  ⟨(some 6), .bin .lss (.t 5) (.c (.one (.sc (.int .i64 0)))), none⟩,
  ⟨(some 7), .mv (.t 6), none⟩,
  ⟨(some 8), .fadr 0 (.t 1), (some (some 7, false))⟩,
  ⟨(some 9), .load1 (.t 8), (some (some 7, false))⟩,
  ⟨(some 10), .bin .gtr (.t 9) (.c (.one (.sc (.int .i64 3)))), (some (some 7, false))⟩,
  ⟨(some 11), .pick (.t 7) (.c (.one (.sc (.bool true)))) (.t 10), none⟩]
def r7_2 : List SOper := [
  ⟨(some 2), .mv (.c (.one (.sc (.int .i64 33)))), none⟩]
def r7_3 : List SOper := [
  ⟨(some 12), .fadr 5 (.t 1), none⟩,
  ⟨(some 13), .loadA 2 (.t 12), none⟩,
  ⟨(some 14), .build [.sc (.int .i64 0), .sc (.int .i64 0)] [], none⟩,
  ⟨(some 15), .eqv [.i, .i] false (.t 13) (.t 14), none⟩,
  ⟨(some 16), .mv (.t 15), none⟩,
  ⟨(some 17), .fadr 7 (.t 1), (some (some 16, true))⟩,
  ⟨(some 18), .loadA 2 (.t 17), (some (some 16, true))⟩,
  ⟨(some 19), .build [.sc (.int .i64 0), .sc (.int .i64 0)] [], (some (some 16, true))⟩,
  ⟨(some 20), .eqv [.i, .i] false (.t 18) (.t 19), (some (some 16, true))⟩,
  ⟨(some 21), .pick (.t 16) (.t 20) (.c (.one (.sc (.bool false)))), none⟩,
  ⟨(some 22), .mv (.t 21), none⟩,
  ⟨(some 23), .fadr 9 (.t 1), (some (some 22, true))⟩,
  ⟨(some 24), .load1 (.t 23), (some (some 22, true))⟩,
  ⟨(some 25), .len (.t 24), (some (some 22, true))⟩,
  ⟨(some 26), .bin .eql (.t 25) (.c (.one (.sc (.int .i64 0)))), (some (some 22, true))⟩,
  ⟨(some 27), .pick (.t 22) (.t 26) (.c (.one (.sc (.bool false)))), none⟩,
  ⟨(some 3), .mv (.t 27), none⟩]
def r7_4 : List SOper := [
  ⟨(some 28), .fadr 0 (.t 1), none⟩,
  ⟨(some 29), .load1 (.t 28), none⟩]
def r7_7 : List SOper := [
  ⟨(some 59), .bin .eql (.t 29) (.c (.one (.sc (.int .i64 0)))), none⟩,
  ⟨(some 58), .mv (.t 59), none⟩]
def r7_8 : List SOper := [
  ⟨(some 60), .mv (.t 3), none⟩,
  ⟨(some 61), .un .not (.t 60), none⟩,
  ⟨(some 62), .mv (.t 61), none⟩,
  ⟨(some 63), .fadr 1 (.t 1), (some (some 62, false))⟩,
  ⟨(some 64), .loadA 4 (.t 63), (some (some 62, false))⟩,
  ⟨(some 65), .build [.sc (.int .u8 0), .sc (.int .u8 0), .sc (.int .u8 0), .sc (.int .u8 0)] [], (some (some 62, false))⟩,
  ⟨(some 66), .eqv [.i, .i, .i, .i] true (.t 64) (.t 65), (some (some 62, false))⟩,
  ⟨(some 67), .pick (.t 62) (.c (.one (.sc (.bool true)))) (.t 66), none⟩]
def r7_9 : List SOper := [
  ⟨(some 2), .mv (.c (.one (.sc (.int .i64 30)))), none⟩]
def r7_10 : List SOper := [
  ⟨(some 69), .bin .eql (.t 29) (.c (.one (.sc (.int .i64 1)))), none⟩,
  ⟨(some 68), .mv (.t 69), none⟩]
def r7_11 : List SOper := [
  ⟨(some 70), .mv (.t 3), none⟩,
  ⟨(some 71), .un .not (.t 70), none⟩,
  ⟨(some 72), .mv (.t 71), none⟩,
  ⟨(some 73), .fadr 1 (.t 1), (some (some 72, false))⟩,
  ⟨(some 74), .loadA 4 (.t 73), (some (some 72, false))⟩,
  ⟨(some 75), .call (.z 0) 13 [(.t 74)], (some (some 72, false))⟩,
  ⟨(some 76), .call (.z 0) 25 [(.t 75)], (some (some 72, false))⟩,
  ⟨(some 77), .un .not (.t 76), (some (some 72, false))⟩,
  ⟨(some 78), .pick (.t 72) (.c (.one (.sc (.bool true)))) (.t 77), none⟩]
def r7_12 : List SOper := [
  ⟨(some 2), .mv (.c (.one (.sc (.int .i64 30)))), none⟩]
def r7_5 : List SOper := [
  ⟨(some 30), .fadr 1 (.t 1), none⟩,
  ⟨(some 31), .loadA 4 (.t 30), none⟩,
  ⟨(some 32), .build [.sc (.int .u8 0), .sc (.int .u8 0), .sc (.int .u8 0), .sc (.int .u8 0)] [], none⟩,
  ⟨(some 33), .eqv [.i, .i, .i, .i] true (.t 31) (.t 32), none⟩,
  ⟨(some 34), .mv (.t 33), none⟩,
  ⟨(some 35), .fadr 5 (.t 1), (some (some 34, false))⟩,
  ⟨(some 36), .loadA 2 (.t 35), (some (some 34, false))⟩,
  ⟨(some 37), .call (.z 0) 8 [(.t 36)], (some (some 34, false))⟩,
  ⟨(some 38), .pick (.t 34) (.c (.one (.sc (.bool true)))) (.t 37), none⟩,
  ⟨(some 39), .mv (.t 38), none⟩,
  ⟨(some 40), .fadr 7 (.t 1), (some (some 39, false))⟩,
  ⟨(some 41), .loadA 2 (.t 40), (some (some 39, false))⟩,
  ⟨(some 42), .call (.z 0) 8 [(.t 41)], (some (some 39, false))⟩,
  ⟨(some 43), .pick (.t 39) (.c (.one (.sc (.bool true)))) (.t 42), none⟩,
  ⟨(some 44), .mv (.t 43), none⟩,
  ⟨(some 45), .fadr 5 (.t 1), (some (some 44, false))⟩,
  ⟨(some 46), .loadA 2 (.t 45), (some (some 44, false))⟩,
  ⟨(some 47), .fadr 7 (.t 1), (some (some 44, false))⟩,
  ⟨(some 48), .loadA 2 (.t 47), (some (some 44, false))⟩,
  ⟨(some 49), .eqv [.i, .i] false (.t 46) (.t 48), (some (some 44, false))⟩,
  ⟨(some 50), .pick (.t 44) (.c (.one (.sc (.bool true)))) (.t 49), none⟩,
  ⟨(some 51), .mv (.t 50), none⟩,
  ⟨(some 52), .fadr 9 (.t 1), (some (some 51, false))⟩,
  ⟨(some 53), .load1 (.t 52), (some (some 51, false))⟩,
  ⟨(some 54), .call .k 15 [(.t 53)], (some (some 51, false))⟩,
  ⟨(some 55), .call .q 26 [(.t 54)], (some (some 51, false))⟩,
  ⟨(some 56), .un .not (.t 55), (some (some 51, false))⟩,
  ⟨(some 57), .pick (.t 51) (.c (.one (.sc (.bool true)))) (.t 56), none⟩]
def r7_6 : List SOper := [
  ⟨(some 2), .mv (.c (.one (.sc (.int .i64 30)))), none⟩]
def r7_13 : List SOper := [
  ⟨(some 2), .mv (.c (.one (.sc (.int .i64 0)))), none⟩]
def c7 : SC := (.seq (.reg r7_0) (.seq (.seq (.reg r7_1) (.cond (.t 11) (.seq (.reg r7_2) .ret) .skip)) (.seq (.reg r7_3) (.seq (.seq (.reg r7_4) (.block 0 (.seq (.reg r7_7) (.cond (.t 58) (.seq (.reg r7_8) (.cond (.t 67) (.seq (.reg r7_9) .ret) .skip)) (.seq (.reg r7_10) (.cond (.t 68) (.seq (.reg r7_11) (.cond (.t 78) (.seq (.reg r7_12) .ret) .skip)) (.seq (.reg r7_5) (.cond (.t 57) (.seq (.reg r7_6) .ret) .skip)))))))) (.seq (.reg r7_13) .ret)))))
/-- limner/limnerlaw16.right -/
def F7 : SFun := ⟨79, c7, [.tmp 2]⟩

def r8_0 : List SOper := [
  ⟨(some 1), .box (.t 0), none⟩,
  ⟨(some 2), .mv (.c (.one (.sc (.bool false)))), none⟩]
def r8_1 : List SOper := [
  ⟨(some 3), .fadr 0 (.t 1), none⟩,
  ⟨(some 4), .load1 (.t 3), none⟩,
  ⟨(some 5), .bin .lss (.t 4) (.c (.one (.sc (.int .i64 (-16777216))))), none⟩,
  ⟨(some 6), .mv (.t 5), none⟩,
  ⟨(some 7), .fadr 0 (.t 1), (some (some 6, false))⟩,
  ⟨(some 8), .load1 (.t 7), (some (some 6, false))⟩,
  ⟨(some 9), .bin .gtr (.t 8) (.c (.one (.sc (.int .i64 16777216)))), (some (some 6, false))⟩,
  ⟨(some 10), .pick (.t 6) (.c (.one (.sc (.bool true)))) (.t 9), none⟩,
  ⟨(some 11), .mv (.t 10), none⟩,
  ⟨(some 12), .fadr 1 (.t 1), (some (some 11, false))⟩,
  ⟨(some 13), .load1 (.t 12), (some (some 11, false))⟩,
  ⟨(some 14), .bin .lss (.t 13) (.c (.one (.sc (.int .i64 (-16777216))))), (some (some 11, false))⟩,
  ⟨(some 15), .pick (.t 11) (.c (.one (.sc (.bool true)))) (.t 14), none⟩,
  ⟨(some 16), .mv (.t 15), none⟩,
  ⟨(some 17), .fadr 1 (.t 1), (some (some 16, false))⟩,
  ⟨(some 18), .load1 (.t 17), (some (some 16, false))⟩,
  ⟨(some 19), .bin .gtr (.t 18) (.c (.one (.sc (.int .i64 16777216)))), (some (some 16, false))⟩,
  ⟨(some 20), .pick (.t 16) (.c (.one (.sc (.bool true)))) (.t 19), none⟩,
  ⟨(some 2), .mv (.t 20), none⟩]
def c8 : SC := (.seq (.reg r8_0) (.seq (.reg r8_1) .ret))
/-- limner/limnerlaw16.far -/
def F8 : SFun := ⟨21, c8, [.tmp 2]⟩

def r9_0 : List SOper := [
  ⟨(some 0), .mv (.c (.one (.sc (.bool false)))), none⟩]
def r9_1 : List SOper := [
  ⟨(some 2), .build [.sc (.int .i64 0), .sc (.int .i64 0)] [(0, 1, (.c (.one (.sc (.int .i64 256)))))], none⟩,
  ⟨(some 3), .build [.sc (.int .u8 0), .sc (.int .u8 0), .sc (.int .u8 0), .sc (.int .u8 0)] [(0, 1, (.c (.one (.sc (.int .u8 0))))), (1, 1, (.c (.one (.sc (.int .u8 0))))), (2, 1, (.c (.one (.sc (.int .u8 0))))), (3, 1, (.c (.one (.sc (.int .u8 255)))))], none⟩,
  ⟨(some 4), .build [.sc (.int .i64 0), .sc (.int .u8 0), .sc (.int .u8 0), .sc (.int .u8 0), .sc (.int .u8 0)] [(0, 1, (.c (.one (.sc (.int .i64 0))))), (1, 4, (.t 3))], none⟩,
  ⟨(some 5), .build [.sc (.int .u8 0), .sc (.int .u8 0), .sc (.int .u8 0), .sc (.int .u8 0)] [(0, 1, (.c (.one (.sc (.int .u8 255))))), (1, 1, (.c (.one (.sc (.int .u8 255))))), (2, 1, (.c (.one (.sc (.int .u8 255))))), (3, 1, (.c (.one (.sc (.int .u8 255)))))], none⟩,
  ⟨(some 6), .build [.sc (.int .i64 0), .sc (.int .u8 0), .sc (.int .u8 0), .sc (.int .u8 0), .sc (.int .u8 0)] [(0, 1, (.c (.one (.sc (.int .i64 65536))))), (1, 4, (.t 5))], none⟩,
  ⟨(some 7), .bslice [.sc (.int .i64 0), .sc (.int .u8 0), .sc (.int .u8 0), .sc (.int .u8 0), .sc (.int .u8 0), .sc (.int .i64 0), .sc (.int .u8 0), .sc (.int .u8 0), .sc (.int .u8 0), .sc (.int .u8 0)] 2 5 [(0, 5, (.t 4)), (5, 5, (.t 6))], none⟩,
  ⟨(some 8), .build [.sc (.int .i64 0), .sc (.int .u8 0), .sc (.int .u8 0), .sc (.int .u8 0), .sc (.int .u8 0), .sc (.int .i64 0), .sc (.int .i64 0), .sc (.int .i64 0), .sc (.int .i64 0), .sc (.slice none 0 0)] [(0, 1, (.c (.one (.sc (.int .i64 2))))), (7, 2, (.t 2)), (9, 1, (.t 7))], none⟩,
  ⟨(some 1), .alloc [.sc (.int .i64 0), .sc (.int .u8 0), .sc (.int .u8 0), .sc (.int .u8 0), .sc (.int .u8 0), .sc (.int .i64 0), .sc (.int .i64 0), .sc (.int .i64 0), .sc (.int .i64 0), .sc (.slice none 0 0)], none⟩,
  ⟨none, .store 10 (.t 1) (.t 8), none⟩]
def r9_2 : List SOper := [
  ⟨(some 9), .loadA 10 (.t 1), none⟩,
  ⟨(some 10), .call .q 11 [(.t 9)], none⟩,
  ⟨(some 11), .bin .eql (.t 10) (.c (.one (.sc (.int .i64 0)))), none⟩,
  ⟨(some 12), .mv (.t 11), none⟩,
  ⟨(some 13), .loadA 10 (.t 1), (some (some 12, true))⟩,
  ⟨(some 14), .build [.sc (.int .i64 0), .sc (.int .i64 0)] [(0, 1, (.c (.one (.sc (.int .i64 128))))), (1, 1, (.c (.one (.sc (.int .i64 99)))))], (some (some 12, true))⟩,
  ⟨(some 15), .call .q 10 [(.t 13), (.t 14)], (some (some 12, true))⟩,
  ⟨(some 16), .build [.sc (.int .u8 0), .sc (.int .u8 0), .sc (.int .u8 0), .sc (.int .u8 0)] [(0, 1, (.c (.one (.sc (.int .u8 128))))), (1, 1, (.c (.one (.sc (.int .u8 128))))), (2, 1, (.c (.one (.sc (.int .u8 128))))), (3, 1, (.c (.one (.sc (.int .u8 255)))))], (some (some 12, true))⟩,
  ⟨(some 17), .eqv [.i, .i, .i, .i] false (.t 15) (.t 16), (some (some 12, true))⟩,
  ⟨(some 18), .pick (.t 12) (.t 17) (.c (.one (.sc (.bool false)))), none⟩,
  ⟨(some 0), .mv (.t 18), none⟩]
def c9 : SC := (.seq (.reg r9_0) (.seq (.reg r9_1) (.seq (.reg r9_2) .ret)))
/-- limner/limnerlaw16.awake -/
def F9 : SFun := ⟨19, c9, [.tmp 0]⟩

def r10_0 : List SOper := [
  ⟨(some 2), .box (.t 0), none⟩,
  ⟨(some 3), .box (.t 1), none⟩,
  ⟨(some 4), .alloc [.sc (.int .u8 0), .sc (.int .u8 0), .sc (.int .u8 0), .sc (.int .u8 0)], none⟩]
def r10_1 : List SOper := [
  ⟨(some 6), .fadr 0 (.t 3), none⟩,
  ⟨(some 7), .load1 (.t 6), none⟩,
  ⟨(some 8), .call (.z 0) 27 [(.t 7)], none⟩,
  ⟨(some 9), .fadr 1 (.t 3), none⟩,
  ⟨(some 10), .load1 (.t 9), none⟩,
  ⟨(some 11), .call (.z 0) 27 [(.t 10)], none⟩,
  ⟨(some 12), .build [.sc (.int .i64 0), .sc (.int .i64 0)] [(0, 1, (.t 8)), (1, 1, (.t 11))], none⟩,
  ⟨none, .store 2 (.t 3) (.t 12), none⟩]
def r10_2 : List SOper := [
  ⟨(some 13), .fadr 1 (.t 2), none⟩,
  ⟨(some 14), .loadA 4 (.t 13), none⟩,
  ⟨(some 5), .alloc [.sc (.int .u8 0), .sc (.int .u8 0), .sc (.int .u8 0), .sc (.int .u8 0)], none⟩,
  ⟨none, .store 4 (.t 5) (.t 14), none⟩]
def r10_3 : List SOper := [
  ⟨(some 15), .fadr 0 (.t 2), none⟩,
  ⟨(some 16), .load1 (.t 15), none⟩]
def r10_4 : List SOper := [
  ⟨(some 18), .bin .eql (.t 16) (.c (.one (.sc (.int .i64 2)))), none⟩,
  ⟨(some 17), .mv (.t 18), none⟩]
def r10_5 : List SOper := [
  ⟨(some 20), .fadr 9 (.t 2), none⟩,
  ⟨(some 21), .load1 (.t 20), none⟩,
  ⟨(some 22), .loadA 10 (.t 2), none⟩,
  ⟨(some 23), .loadA 2 (.t 3), none⟩,
  ⟨(some 24), .call .q 29 [(.t 22), (.t 23)], none⟩,
  ⟨(some 25), .call .q 28 [(.t 21), (.t 24)], none⟩,
  ⟨(some 19), .mv (.t 25), none⟩,
  ⟨(some 26), .ext (.t 19) 0, none⟩,
  ⟨(some 27), .ext (.t 19) 1, none⟩,
  ⟨none, .store 4 (.t 5) (.t 26), none⟩]
def r10_6 : List SOper := [
  ⟨(some 29), .bin .eql (.t 16) (.c (.one (.sc (.int .i64 3)))), none⟩,
  ⟨(some 28), .mv (.t 29), none⟩]
def r10_7 : List SOper := [
  ⟨(some 31), .fadr 9 (.t 2), none⟩,
  ⟨(some 32), .load1 (.t 31), none⟩,
  ⟨(some 33), .loadA 10 (.t 2), none⟩,
  ⟨(some 34), .loadA 2 (.t 3), none⟩,
  ⟨(some 35), .call .q 30 [(.t 33), (.t 34)], none⟩,
  ⟨(some 36), .call .q 28 [(.t 32), (.t 35)], none⟩,
  ⟨(some 30), .mv (.t 36), none⟩,
  ⟨(some 37), .ext (.t 30) 0, none⟩,
  ⟨(some 38), .ext (.t 30) 1, none⟩,
  ⟨none, .store 4 (.t 5) (.t 37), none⟩]
def r10_8 : List SOper := [
  ⟨(some 39), .loadA 4 (.t 5), none⟩,
  ⟨none, .store 4 (.t 4) (.t 39), none⟩]
def c10 : SC := (.seq (.reg r10_0) (.seq (.reg r10_1) (.seq (.reg r10_2) (.seq (.seq (.reg r10_3) (.block 0 (.seq (.reg r10_4) (.cond (.t 17) (.reg r10_5) (.seq (.reg r10_6) (.cond (.t 28) (.reg r10_7) .skip)))))) (.seq (.reg r10_8) .ret)))))
/-- (limner/style.Paint).At -/
def F10 : SFun := ⟨40, c10, [.cellA 4 4]⟩

def r11_0 : List SOper := [
  ⟨(some 1), .box (.t 0), none⟩,
  ⟨(some 2), .mv (.c (.one (.sc (.int .i64 0)))), none⟩]
def r11_1 : List SOper := [
  ⟨(some 4), .fadr 0 (.t 1), none⟩,
  ⟨(some 5), .load1 (.t 4), none⟩,
  ⟨(some 6), .bin .eql (.t 5) (.c (.one (.sc (.int .i64 2)))), none⟩,
  ⟨(some 7), .mv (.t 6), none⟩,
  ⟨(some 8), .fadr 0 (.t 1), (some (some 7, false))⟩,
  ⟨(some 9), .load1 (.t 8), (some (some 7, false))⟩,
  ⟨(some 10), .bin .eql (.t 9) (.c (.one (.sc (.int .i64 3)))), (some (some 7, false))⟩,
  ⟨(some 11), .pick (.t 7) (.c (.one (.sc (.bool true)))) (.t 10), none⟩,
  ⟨(some 3), .mv (.t 11), none⟩]
def r11_2 : List SOper := [
  ⟨(some 13), .fadr 0 (.t 1), none⟩,
  ⟨(some 14), .load1 (.t 13), none⟩,
  ⟨(some 15), .bin .lss (.t 14) (.c (.one (.sc (.int .i64 0)))), none⟩,
  ⟨(some 16), .mv (.t 15), none⟩,
  ⟨(some 17), .fadr 0 (.t 1), (some (some 16, false))⟩,
  ⟨(some 18), .load1 (.t 17), (some (some 16, false))⟩,
  ⟨(some 19), .bin .gtr (.t 18) (.c (.one (.sc (.int .i64 3)))), (some (some 16, false))⟩,
  ⟨(some 20), .pick (.t 16) (.c (.one (.sc (.bool true)))) (.t 19), none⟩,
  ⟨(some 12), .mv (.t 20), none⟩]
def r11_3 : List SOper := [
  ⟨(some 2), .mv (.c (.one (.sc (.int .i64 33)))), none⟩]
def r11_4 : List SOper := [
  ⟨(some 22), .fadr 1 (.t 1), none⟩,
  ⟨(some 23), .loadA 4 (.t 22), none⟩,
  ⟨(some 24), .call (.z 0) 19 [(.t 23)], none⟩,
  ⟨(some 25), .un .not (.t 24), none⟩,
  ⟨(some 26), .mv (.t 25), none⟩,
  ⟨(some 27), .fadr 0 (.t 1), (some (some 26, false))⟩,
  ⟨(some 28), .load1 (.t 27), (some (some 26, false))⟩,
  ⟨(some 29), .bin .neq (.t 28) (.c (.one (.sc (.int .i64 1)))), (some (some 26, false))⟩,
  ⟨(some 30), .mv (.t 29), (some (some 26, false))⟩,
  ⟨(some 31), .fadr 1 (.t 1), (some (some 30, true))⟩,
  ⟨(some 32), .loadA 4 (.t 31), (some (some 30, true))⟩,
  ⟨(some 33), .build [.sc (.int .u8 0), .sc (.int .u8 0), .sc (.int .u8 0), .sc (.int .u8 0)] [], (some (some 30, true))⟩,
  ⟨(some 34), .eqv [.i, .i, .i, .i] true (.t 32) (.t 33), (some (some 30, true))⟩,
  ⟨(some 35), .pick (.t 30) (.t 34) (.c (.one (.sc (.bool false)))), (some (some 26, false))⟩,
  ⟨(some 36), .pick (.t 26) (.c (.one (.sc (.bool true)))) (.t 35), none⟩,
  ⟨(some 21), .mv (.t 36), none⟩]
def r11_5 : List SOper := [
  ⟨(some 2), .mv (.c (.one (.sc (.int .i64 30)))), none⟩]
def r11_6 : List SOper := [
  ⟨(some 38), .mv (.t 3), none⟩,
  ⟨(some 39), .un .not (.t 38), none⟩,
  ⟨(some 40), .mv (.t 39), none⟩,
  ⟨(some 41), .fadr 5 (.t 1), (some (some 40, true))⟩,
  ⟨(some 42), .loadA 2 (.t 41), (some (some 40, true))⟩,
  ⟨(some 43), .build [.sc (.int .i64 0), .sc (.int .i64 0)] [], (some (some 40, true))⟩,
  ⟨(some 44), .eqv [.i, .i] true (.t 42) (.t 43), (some (some 40, true))⟩,
  ⟨(some 45), .mv (.t 44), (some (some 40, true))⟩,
  ⟨(some 46), .fadr 7 (.t 1), (some (some 45, false))⟩,
  ⟨(some 47), .loadA 2 (.t 46), (some (some 45, false))⟩,
  ⟨(some 48), .build [.sc (.int .i64 0), .sc (.int .i64 0)] [], (some (some 45, false))⟩,
  ⟨(some 49), .eqv [.i, .i] true (.t 47) (.t 48), (some (some 45, false))⟩,
  ⟨(some 50), .pick (.t 45) (.c (.one (.sc (.bool true)))) (.t 49), (some (some 40, true))⟩,
  ⟨(some 51), .mv (.t 50), (some (some 40, true))⟩,
  ⟨(some 52), .fadr 9 (.t 1), (some (some 51, false))⟩,
  ⟨(some 53), .load1 (.t 52), (some (some 51, false))⟩,
  ⟨(some 54), .len (.t 53), (some (some 51, false))⟩,
  ⟨(some 55), .bin .gtr (.t 54) (.c (.one (.sc (.int .i64 0)))), (some (some 51, false))⟩,
  ⟨(some 56), .pick (.t 51) (.c (.one (.sc (.bool true)))) (.t 55), (some (some 40, true))⟩,
  ⟨(some 57), .pick (.t 40) (.t 56) (.c (.one (.sc (.bool false)))), none⟩,
  ⟨(some 37), .mv (.t 57), none⟩]
def r11_7 : List SOper := [
  ⟨(some 2), .mv (.c (.one (.sc (.int .i64 30)))), none⟩]
def r11_8 : List SOper := [
  ⟨(some 59), .mv (.t 3), none⟩,
  ⟨(some 60), .mv (.t 59), none⟩,
  ⟨(some 61), .fadr 5 (.t 1), (some (some 60, true))⟩,
  ⟨(some 62), .loadA 2 (.t 61), (some (some 60, true))⟩,
  ⟨(some 63), .call (.z 0) 31 [(.t 62)], (some (some 60, true))⟩,
  ⟨(some 64), .un .not (.t 63), (some (some 60, true))⟩,
  ⟨(some 65), .mv (.t 64), (some (some 60, true))⟩,
  ⟨(some 66), .fadr 7 (.t 1), (some (some 65, false))⟩,
  ⟨(some 67), .loadA 2 (.t 66), (some (some 65, false))⟩,
  ⟨(some 68), .call (.z 0) 31 [(.t 67)], (some (some 65, false))⟩,
  ⟨(some 69), .un .not (.t 68), (some (some 65, false))⟩,
  ⟨(some 70), .pick (.t 65) (.c (.one (.sc (.bool true)))) (.t 69), (some (some 60, true))⟩,
  ⟨(some 71), .mv (.t 70), (some (some 60, true))⟩,
  ⟨(some 72), .fadr 5 (.t 1), (some (some 71, false))⟩,
  ⟨(some 73), .loadA 2 (.t 72), (some (some 71, false))⟩,
  ⟨(some 74), .fadr 7 (.t 1), (some (some 71, false))⟩,
  ⟨(some 75), .loadA 2 (.t 74), (some (some 71, false))⟩,
  ⟨(some 76), .eqv [.i, .i] false (.t 73) (.t 75), (some (some 71, false))⟩,
  ⟨(some 77), .pick (.t 71) (.c (.one (.sc (.bool true)))) (.t 76), (some (some 60, true))⟩,
  ⟨(some 78), .pick (.t 60) (.t 77) (.c (.one (.sc (.bool false)))), none⟩,
  ⟨(some 58), .mv (.t 78), none⟩]
def r11_9 : List SOper := [
  ⟨(some 2), .mv (.c (.one (.sc (.int .i64 30)))), none⟩]
def r11_10 : List SOper := [
  ⟨(some 80), .mv (.t 3), none⟩,
  ⟨(some 79), .mv (.t 80), none⟩]
def r11_11 : List SOper := [
  ⟨(some 81), .fadr 9 (.t 1), none⟩,
  ⟨(some 82), .load1 (.t 81), none⟩,
  ⟨(some 83), .call .q 32 [(.t 82)], none⟩,
  ⟨(some 2), .mv (.t 83), none⟩]
def r11_12 : List SOper := [
  ⟨(some 2), .mv (.c (.one (.sc (.int .i64 0)))), none⟩]
def c11 : SC := (.seq (.reg r11_0) (.seq (.reg r11_1) (.seq (.block 0 (.seq (.reg r11_2) (.cond (.t 12) (.seq (.reg r11_3) .ret) (.seq (.reg r11_4) (.cond (.t 21) (.seq (.reg r11_5) .ret) (.seq (.reg r11_6) (.cond (.t 37) (.seq (.reg r11_7) .ret) (.seq (.reg r11_8) (.cond (.t 58) (.seq (.reg r11_9) .ret) (.seq (.reg r11_10) (.cond (.t 79) (.seq (.reg r11_11) .ret) .skip))))))))))) (.seq (.reg r11_12) .ret))))
/-- (limner/style.Paint).Check -/
def F11 : SFun := ⟨84, c11, [.tmp 2]⟩

def r12_0 : List SOper := [
  ⟨(some 2), .box (.t 0), none⟩,
  ⟨(some 3), .box (.t 1), none⟩,
  ⟨(some 4), .mv (.c (.one (.sc (.bool false)))), none⟩]
def r12_1 : List SOper := [
  ⟨(some 5), .fadr 0 (.t 2), none⟩,
  ⟨(some 6), .load1 (.t 5), none⟩,
  ⟨(some 7), .fadr 0 (.t 3), none⟩,
  ⟨(some 8), .load1 (.t 7), none⟩,
  ⟨(some 9), .bin .eql (.t 6) (.t 8), none⟩,
  ⟨(some 10), .mv (.t 9), none⟩,
  ⟨(some 11), .fadr 1 (.t 2), (some (some 10, true))⟩,
  ⟨(some 12), .loadA 4 (.t 11), (some (some 10, true))⟩,
  ⟨(some 13), .fadr 1 (.t 3), (some (some 10, true))⟩,
  ⟨(some 14), .loadA 4 (.t 13), (some (some 10, true))⟩,
  ⟨(some 15), .eqv [.i, .i, .i, .i] false (.t 12) (.t 14), (some (some 10, true))⟩,
  ⟨(some 16), .pick (.t 10) (.t 15) (.c (.one (.sc (.bool false)))), none⟩,
  ⟨(some 17), .mv (.t 16), none⟩,
  ⟨(some 18), .fadr 5 (.t 2), (some (some 17, true))⟩,
  ⟨(some 19), .loadA 2 (.t 18), (some (some 17, true))⟩,
  ⟨(some 20), .fadr 5 (.t 3), (some (some 17, true))⟩,
  ⟨(some 21), .loadA 2 (.t 20), (some (some 17, true))⟩,
  ⟨(some 22), .eqv [.i, .i] false (.t 19) (.t 21), (some (some 17, true))⟩,
  ⟨(some 23), .pick (.t 17) (.t 22) (.c (.one (.sc (.bool false)))), none⟩,
  ⟨(some 24), .mv (.t 23), none⟩,
  ⟨(some 25), .fadr 7 (.t 2), (some (some 24, true))⟩,
  ⟨(some 26), .loadA 2 (.t 25), (some (some 24, true))⟩,
  ⟨(some 27), .fadr 7 (.t 3), (some (some 24, true))⟩,
  ⟨(some 28), .loadA 2 (.t 27), (some (some 24, true))⟩,
  ⟨(some 29), .eqv [.i, .i] false (.t 26) (.t 28), (some (some 24, true))⟩,
  ⟨(some 30), .pick (.t 24) (.t 29) (.c (.one (.sc (.bool false)))), none⟩,
  ⟨(some 31), .mv (.t 30), none⟩,
  ⟨(some 32), .fadr 9 (.t 2), (some (some 31, true))⟩,
  ⟨(some 33), .load1 (.t 32), (some (some 31, true))⟩,
  ⟨(some 34), .fadr 9 (.t 3), (some (some 31, true))⟩,
  ⟨(some 35), .load1 (.t 34), (some (some 31, true))⟩,
  ⟨(some 36), .call .q 33 [(.t 33), (.t 35)], (some (some 31, true))⟩,
  ⟨(some 37), .pick (.t 31) (.t 36) (.c (.one (.sc (.bool false)))), none⟩,
  ⟨(some 4), .mv (.t 37), none⟩]
def c12 : SC := (.seq (.reg r12_0) (.seq (.reg r12_1) .ret))
/-- (limner/style.Paint).Equal -/
def F12 : SFun := ⟨38, c12, [.tmp 4]⟩

def r13_0 : List SOper := [
  ⟨(some 1), .box (.t 0), none⟩,
  ⟨(some 2), .alloc [.sc (.int .i64 0), .sc (.int .i64 0), .sc (.int .i64 0), .sc (.int .i64 0)], none⟩]
def r13_1 : List SOper := [
  ⟨(some 3), .iadrA 4 1 (.t 1) (.c (.one (.sc (.int .i64 0)))), none⟩,
  ⟨(some 4), .load1 (.t 3), none⟩,
  ⟨(some 5), .conv .i64 (.t 4), none⟩,
  ⟨(some 6), .iadrA 4 1 (.t 1) (.c (.one (.sc (.int .i64 1)))), none⟩,
  ⟨(some 7), .load1 (.t 6), none⟩,
  ⟨(some 8), .conv .i64 (.t 7), none⟩,
  ⟨(some 9), .iadrA 4 1 (.t 1) (.c (.one (.sc (.int .i64 2)))), none⟩,
  ⟨(some 10), .load1 (.t 9), none⟩,
  ⟨(some 11), .conv .i64 (.t 10), none⟩,
  ⟨(some 12), .iadrA 4 1 (.t 1) (.c (.one (.sc (.int .i64 3)))), none⟩,
  ⟨(some 13), .load1 (.t 12), none⟩,
  ⟨(some 14), .conv .i64 (.t 13), none⟩,
  ⟨(some 15), .build [.sc (.int .i64 0), .sc (.int .i64 0), .sc (.int .i64 0), .sc (.int .i64 0)] [(0, 1, (.t 5)), (1, 1, (.t 8)), (2, 1, (.t 11)), (3, 1, (.t 14))], none⟩,
  ⟨none, .store 4 (.t 2) (.t 15), none⟩]
def c13 : SC := (.seq (.reg r13_0) (.seq (.reg r13_1) .ret))
/-- limner/limnerlaw16.refColor -/
def F13 : SFun := ⟨16, c13, [.cellA 2 4]⟩

def r14_0 : List SOper := [
  ⟨(some 4), .alloc [.sc (.int .i64 0), .sc (.int .i64 0), .sc (.int .i64 0), .sc (.int .i64 0)], none⟩]
def r14_1 : List SOper := [
  ⟨(some 6), .mv (.t 1), none⟩,
  ⟨(some 7), .mv (.t 0), none⟩,
  ⟨(some 8), .iadrS 5 (.t 7) (.c (.one (.sc (.int .i64 0)))), none⟩,
  ⟨(some 9), .fadr 0 (.t 8), none⟩,
  ⟨(some 10), .load1 (.t 9), none⟩,
  ⟨(some 11), .bin .leq (.t 6) (.t 10), none⟩]
def r14_2 : List SOper := [
  ⟨(some 12), .mv (.t 0), none⟩,
  ⟨(some 13), .iadrS 5 (.t 12) (.c (.one (.sc (.int .i64 0)))), none⟩,
  ⟨(some 14), .fadr 1 (.t 13), none⟩,
  ⟨(some 15), .loadA 4 (.t 14), none⟩,
  ⟨none, .store 4 (.t 4) (.t 15), none⟩]
def r14_3 : List SOper := [
  ⟨(some 5), .mv (.c (.one (.sc (.int .i64 1)))), none⟩]
def r14_4 : List SOper := [
  ⟨(some 16), .mv (.t 5), none⟩,
  ⟨(some 17), .mv (.t 0), none⟩,
  ⟨(some 18), .len (.t 17), none⟩,
  ⟨(some 19), .bin .lss (.t 16) (.t 18), none⟩]
def r14_6 : List SOper := [
  ⟨(some 22), .mv (.t 1), none⟩,
  ⟨(some 23), .mv (.t 0), none⟩,
  ⟨(some 24), .mv (.t 5), none⟩,
  ⟨(some 25), .iadrS 5 (.t 23) (.t 24), none⟩,
  ⟨(some 26), .fadr 0 (.t 25), none⟩,
  ⟨(some 27), .load1 (.t 26), none⟩,
  ⟨(some 28), .bin .lss (.t 22) (.t 27), none⟩]
def r14_7 : List SOper := [
  ⟨(some 29), .mv (.t 0), none⟩,
  ⟨(some 30), .mv (.t 5), none⟩,
  ⟨(some 31), .bin .sub (.t 30) (.c (.one (.sc (.int .i64 1)))), none⟩,
  ⟨(some 32), .iadrS 5 (.t 29) (.t 31), none⟩,
  ⟨(some 33), .fadr 1 (.t 32), none⟩,
  ⟨(some 34), .loadA 4 (.t 33), none⟩,
  ⟨(some 35), .mv (.t 0), none⟩,
  ⟨(some 36), .mv (.t 5), none⟩,
  ⟨(some 37), .iadrS 5 (.t 35) (.t 36), none⟩,
  ⟨(some 38), .fadr 1 (.t 37), none⟩,
  ⟨(some 39), .loadA 4 (.t 38), none⟩,
  ⟨(some 40), .mv (.t 1), none⟩,
  ⟨(some 41), .mv (.t 0), none⟩,
  ⟨(some 42), .mv (.t 5), none⟩,
  ⟨(some 43), .bin .sub (.t 42) (.c (.one (.sc (.int .i64 1)))), none⟩,
  ⟨(some 44), .iadrS 5 (.t 41) (.t 43), none⟩,
  ⟨(some 45), .fadr 0 (.t 44), none⟩,
  ⟨(some 46), .load1 (.t 45), none⟩,
  ⟨(some 47), .bin .sub (.t 40) (.t 46), none⟩,
  ⟨(some 48), .bin .mul (.t 47) (.c (.one (.sc (.int .i64 65536)))), none⟩,
  ⟨(some 49), .mv (.t 0), none⟩,
  ⟨(some 50), .mv (.t 5), none⟩,
  ⟨(some 51), .iadrS 5 (.t 49) (.t 50), none⟩,
  ⟨(some 52), .fadr 0 (.t 51), none⟩,
  ⟨(some 53), .load1 (.t 52), none⟩,
  ⟨(some 54), .mv (.t 0), none⟩,
  ⟨(some 55), .mv (.t 5), none⟩,
  ⟨(some 56), .bin .sub (.t 55) (.c (.one (.sc (.int .i64 1)))), none⟩,
  ⟨(some 57), .iadrS 5 (.t 54) (.t 56), none⟩,
  ⟨(some 58), .fadr 0 (.t 57), none⟩,
  ⟨(some 59), .load1 (.t 58), none⟩,
  ⟨(some 60), .bin .sub (.t 53) (.t 59), none⟩,
  ⟨(some 61), .call (.z 0) 35 [(.t 48), (.t 60)], none⟩,
  ⟨(some 62), .call (.z 0) 34 [(.t 34), (.t 39), (.t 61)], none⟩,
  ⟨none, .store 4 (.t 4) (.t 62), none⟩]
def r14_5 : List SOper := [
  ⟨(some 20), .mv (.t 5), none⟩,
  ⟨(some 21), .bin .add (.t 20) (.c (.one (.sc (.int .i64 1)))), none⟩,
  ⟨(some 5), .mv (.t 21), none⟩]
def l14_0 : SC := (.seq (.seq (.reg r14_4) (.cond (.t 19) .skip (.exit 0))) (.seq (.block 1 (.seq (.reg r14_6) (.cond (.t 28) (.seq (.reg r14_7) .ret) .skip))) (.reg r14_5)))
def r14_8 : List SOper := [
  ⟨(some 63), .mv (.t 0), none⟩,
  ⟨(some 64), .mv (.t 0), none⟩,
  ⟨(some 65), .len (.t 64), none⟩,
  ⟨(some 66), .bin .sub (.t 65) (.c (.one (.sc (.int .i64 1)))), none⟩,
  ⟨(some 67), .iadrS 5 (.t 63) (.t 66), none⟩,
  ⟨(some 68), .fadr 1 (.t 67), none⟩,
  ⟨(some 69), .loadA 4 (.t 68), none⟩,
  ⟨none, .store 4 (.t 4) (.t 69), none⟩]
def c14 : SC := (.seq (.reg r14_0) (.seq (.seq (.reg r14_1) (.cond (.t 11) (.seq (.reg r14_2) .ret) .skip)) (.seq (.seq (.reg r14_3) (.block 0 (.loop l14_0))) (.seq (.reg r14_8) .ret))))
/-- limner/limnerref16.Shade -/
def F14 : SFun := ⟨70, c14, [.cellA 4 4]⟩

def r15_0 : List SOper := [
  ⟨(some 2), .mv (.c (.one (.sc (.slice none 0 0)))), none⟩]
def r15_1 : List SOper := [
  ⟨(some 3), .mv (.c (.one (.sc (.slice none 0 0)))), none⟩]
def r15_2 : List SOper := [
  ⟨(some 6), .mv (.t 0), none⟩,
  ⟨(some 7), .len (.t 6), none⟩,
  ⟨(some 8), .mv (.c (.one (.sc (.int .i64 0)))), none⟩]
def r15_3 : List SOper := [
  ⟨(some 9), .bin .lss (.t 8) (.t 7), none⟩]
def r15_4 : List SOper := [
  ⟨(some 10), .iadrS 5 (.t 6) (.t 8), none⟩,
  ⟨(some 11), .loadA 5 (.t 10), none⟩,
  ⟨(some 5), .alloc [.sc (.int .i64 0), .sc (.int .u8 0), .sc (.int .u8 0), .sc (.int .u8 0), .sc (.int .u8 0)], none⟩,
  ⟨none, .store 5 (.t 5) (.t 11), none⟩]
def r15_5 : List SOper := [
  ⟨(some 12), .mv (.t 3), none⟩,
  ⟨(some 13), .fadr 0 (.t 5), none⟩,
  ⟨(some 14), .load1 (.t 13), none⟩,
  ⟨(some 15), .fadr 1 (.t 5), none⟩,
  ⟨(some 16), .loadA 4 (.t 15), none⟩,
  ⟨(some 17), .call (.z 0) 13 [(.t 16)], none⟩,
  ⟨(some 18), .build [.sc (.int .i64 0), .sc (.int .i64 0), .sc (.int .i64 0), .sc (.int .i64 0), .sc (.int .i64 0)] [(0, 1, (.t 14)), (1, 4, (.t 17))], none⟩,
  ⟨(some 19), .bslice [.sc (.int .i64 0), .sc (.int .i64 0), .sc (.int .i64 0), .sc (.int .i64 0), .sc (.int .i64 0)] 1 5 [(0, 5, (.t 18))], none⟩,
  ⟨(some 20), .app 5 40 (.t 12) (.t 19), none⟩,
  ⟨(some 3), .mv (.t 20), none⟩]
def r15_6 : List SOper := [
  ⟨(some 21), .bin .add (.t 8) (.c (.one (.sc (.int .i64 1)))), none⟩,
  ⟨(some 8), .mv (.t 21), none⟩]
def l15_0 : SC := (.seq (.reg r15_3) (.seq (.cond (.t 9) .skip (.exit 0)) (.seq (.block 1 (.seq (.reg r15_4) (.reg r15_5))) (.reg r15_6))))
def r15_7 : List SOper := [
  ⟨(some 22), .mv (.t 3), none⟩,
  ⟨(some 2), .mv (.t 22), none⟩]
def c15 : SC := (.seq (.reg r15_0) (.seq (.reg r15_1) (.seq (.seq (.reg r15_2) (.block 0 (.loop l15_0))) (.seq (.reg r15_7) .ret))))
/-- limner/limnerlaw16.refStops -/
def F15 : SFun := ⟨23, c15, [.tmp 2]⟩

def r16_0 : List SOper := [
  ⟨(some 3), .box (.t 0), none⟩,
  ⟨(some 4), .box (.t 1), none⟩,
  ⟨(some 5), .box (.t 2), none⟩,
  ⟨(some 6), .mv (.c (.one (.sc (.int .i64 0)))), none⟩]
def r16_1 : List SOper := [
  ⟨(some 17), .fadr 0 (.t 4), none⟩,
  ⟨(some 18), .load1 (.t 17), none⟩,
  ⟨(some 19), .fadr 0 (.t 3), none⟩,
  ⟨(some 20), .load1 (.t 19), none⟩,
  ⟨(some 21), .bin .sub (.t 18) (.t 20), none⟩,
  ⟨(some 22), .fadr 1 (.t 4), none⟩,
  ⟨(some 23), .load1 (.t 22), none⟩,
  ⟨(some 24), .fadr 1 (.t 3), none⟩,
  ⟨(some 25), .load1 (.t 24), none⟩,
  ⟨(some 26), .bin .sub (.t 23) (.t 25), none⟩,
  ⟨(some 7), .mv (.t 21), none⟩,
  ⟨(some 8), .mv (.t 26), none⟩]
def r16_2 : List SOper := [
  ⟨(some 27), .fadr 0 (.t 5), none⟩,
  ⟨(some 28), .load1 (.t 27), none⟩,
  ⟨(some 29), .call (.z 0) 36 [(.t 28)], none⟩,
  ⟨(some 30), .fadr 0 (.t 3), none⟩,
  ⟨(some 31), .load1 (.t 30), none⟩,
  ⟨(some 32), .bin .sub (.t 29) (.t 31), none⟩,
  ⟨(some 33), .fadr 1 (.t 5), none⟩,
  ⟨(some 34), .load1 (.t 33), none⟩,
  ⟨(some 35), .call (.z 0) 36 [(.t 34)], none⟩,
  ⟨(some 36), .fadr 1 (.t 3), none⟩,
  ⟨(some 37), .load1 (.t 36), none⟩,
  ⟨(some 38), .bin .sub (.t 35) (.t 37), none⟩,
  ⟨(some 9), .mv (.t 32), none⟩,
  ⟨(some 10), .mv (.t 38), none⟩]
def r16_3 : List SOper := [
  ⟨(some 39), .mv (.t 9), none⟩,
  ⟨(some 40), .mv (.t 7), none⟩,
  ⟨(some 41), .bin .mul (.t 39) (.t 40), none⟩,
  ⟨(some 42), .mv (.t 10), none⟩,
  ⟨(some 43), .mv (.t 8), none⟩,
  ⟨(some 44), .bin .mul (.t 42) (.t 43), none⟩,
  ⟨(some 45), .bin .add (.t 41) (.t 44), none⟩,
  ⟨(some 46), .mv (.t 7), none⟩,
  ⟨(some 47), .mv (.t 7), none⟩,
  ⟨(some 48), .bin .mul (.t 46) (.t 47), none⟩,
  ⟨(some 49), .mv (.t 8), none⟩,
  ⟨(some 50), .mv (.t 8), none⟩,
  ⟨(some 51), .bin .mul (.t 49) (.t 50), none⟩,
  ⟨(some 52), .bin .add (.t 48) (.t 51), none⟩,
  ⟨(some 11), .mv (.t 45), none⟩,
  ⟨(some 12), .mv (.t 52), none⟩]
def r16_4 : List SOper := [
  ⟨(some 53), .mv (.t 11), none⟩,
  ⟨(some 54), .mv (.t 12), none⟩,
  ⟨(some 55), .call (.z 0) 35 [(.t 53), (.t 54)], none⟩,
  ⟨(some 13), .mv (.t 55), none⟩]
def r16_5 : List SOper := [
  ⟨(some 56), .mv (.t 11), none⟩,
  ⟨(some 57), .mv (.t 13), none⟩,
  ⟨(some 58), .mv (.t 12), none⟩,
  ⟨(some 59), .bin .mul (.t 57) (.t 58), none⟩,
  ⟨(some 60), .bin .sub (.t 56) (.t 59), none⟩,
  ⟨(some 14), .mv (.t 60), none⟩]
def r16_6 : List SOper := [
  ⟨(some 61), .mv (.t 13), none⟩,
  ⟨(some 15), .mv (.t 61), none⟩]
def r16_7 : List SOper := [
  ⟨(some 16), .mv (.c (.one (.sc (.int .i64 0)))), none⟩]
def r16_8 : List SOper := [
  ⟨(some 62), .mv (.t 16), none⟩,
  ⟨(some 63), .bin .lss (.t 62) (.c (.one (.sc (.int .i64 16)))), none⟩]
def r16_10 : List SOper := [
  ⟨(some 66), .mv (.t 15), none⟩,
  ⟨(some 67), .bin .mul (.t 66) (.c (.one (.sc (.int .i64 2)))), none⟩,
  ⟨(some 15), .mv (.t 67), none⟩]
def r16_11 : List SOper := [
  ⟨(some 68), .mv (.t 14), none⟩,
  ⟨(some 69), .bin .mul (.t 68) (.c (.one (.sc (.int .i64 2)))), none⟩,
  ⟨(some 14), .mv (.t 69), none⟩]
def r16_12 : List SOper := [
  ⟨(some 70), .mv (.t 14), none⟩,
  ⟨(some 71), .mv (.t 12), none⟩,
  ⟨(some 72), .bin .geq (.t 70) (.t 71), none⟩]
def r16_13 : List SOper := [
  ⟨(some 73), .mv (.t 14), none⟩,
  ⟨(some 74), .mv (.t 12), none⟩,
  ⟨(some 75), .bin .sub (.t 73) (.t 74), none⟩,
  ⟨(some 14), .mv (.t 75), none⟩]
def r16_14 : List SOper := [
  ⟨(some 76), .mv (.t 15), none⟩,
  ⟨(some 77), .bin .add (.t 76) (.c (.one (.sc (.int .i64 1)))), none⟩,
  ⟨(some 15), .mv (.t 77), none⟩]
def r16_9 : List SOper := [
  ⟨(some 64), .mv (.t 16), none⟩,
  ⟨(some 65), .bin .add (.t 64) (.c (.one (.sc (.int .i64 1)))), none⟩,
  ⟨(some 16), .mv (.t 65), none⟩]
def l16_0 : SC := (.seq (.seq (.reg r16_8) (.cond (.t 63) .skip (.exit 0))) (.seq (.block 1 (.seq (.reg r16_10) (.seq (.reg r16_11) (.seq (.reg r16_12) (.cond (.t 72) (.seq (.reg r16_13) (.reg r16_14)) .skip))))) (.reg r16_9)))
def r16_15 : List SOper := [
  ⟨(some 78), .mv (.t 15), none⟩,
  ⟨(some 6), .mv (.t 78), none⟩]
def c16 : SC := (.seq (.reg r16_0) (.seq (.reg r16_1) (.seq (.reg r16_2) (.seq (.reg r16_3) (.seq (.reg r16_4) (.seq (.reg r16_5) (.seq (.reg r16_6) (.seq (.seq (.reg r16_7) (.block 0 (.loop l16_0))) (.seq (.reg r16_15) .ret)))))))))
/-- limner/limnerref16.Along -/
def F16 : SFun := ⟨79, c16, [.tmp 6]⟩

def r17_0 : List SOper := [
  ⟨(some 1), .box (.t 0), none⟩,
  ⟨(some 2), .alloc [.sc (.int .i64 0), .sc (.int .i64 0)], none⟩]
def r17_1 : List SOper := [
  ⟨(some 3), .fadr 0 (.t 1), none⟩,
  ⟨(some 4), .load1 (.t 3), none⟩,
  ⟨(some 5), .fadr 1 (.t 1), none⟩,
  ⟨(some 6), .load1 (.t 5), none⟩,
  ⟨(some 7), .build [.sc (.int .i64 0), .sc (.int .i64 0)] [(0, 1, (.t 4)), (1, 1, (.t 6))], none⟩,
  ⟨none, .store 2 (.t 2) (.t 7), none⟩]
def c17 : SC := (.seq (.reg r17_0) (.seq (.reg r17_1) .ret))
/-- limner/limnerlaw16.ref -/
def F17 : SFun := ⟨8, c17, [.cellA 2 2]⟩

def r18_0 : List SOper := [
  ⟨(some 3), .box (.t 0), none⟩,
  ⟨(some 4), .box (.t 1), none⟩,
  ⟨(some 5), .box (.t 2), none⟩,
  ⟨(some 6), .mv (.c (.one (.sc (.int .i64 0)))), none⟩]
def r18_1 : List SOper := [
  ⟨(some 8), .fadr 0 (.t 5), none⟩,
  ⟨(some 9), .load1 (.t 8), none⟩,
  ⟨(some 10), .call (.z 0) 36 [(.t 9)], none⟩,
  ⟨(some 11), .fadr 1 (.t 5), none⟩,
  ⟨(some 12), .load1 (.t 11), none⟩,
  ⟨(some 13), .call (.z 0) 36 [(.t 12)], none⟩,
  ⟨(some 14), .build [.sc (.int .i64 0), .sc (.int .i64 0)] [(0, 1, (.t 10)), (1, 1, (.t 13))], none⟩,
  ⟨(some 7), .alloc [.sc (.int .i64 0), .sc (.int .i64 0)], none⟩,
  ⟨none, .store 2 (.t 7) (.t 14), none⟩]
def r18_2 : List SOper := [
  ⟨(some 15), .loadA 2 (.t 3), none⟩,
  ⟨(some 16), .loadA 2 (.t 7), none⟩,
  ⟨(some 17), .call (.z 0) 37 [(.t 15), (.t 16)], none⟩,
  ⟨(some 18), .bin .mul (.t 17) (.c (.one (.sc (.int .i64 65536)))), none⟩,
  ⟨(some 19), .loadA 2 (.t 3), none⟩,
  ⟨(some 20), .loadA 2 (.t 4), none⟩,
  ⟨(some 21), .call (.z 0) 37 [(.t 19), (.t 20)], none⟩,
  ⟨(some 22), .call (.z 0) 35 [(.t 18), (.t 21)], none⟩,
  ⟨(some 6), .mv (.t 22), none⟩]
def c18 : SC := (.seq (.reg r18_0) (.seq (.reg r18_1) (.seq (.reg r18_2) .ret)))
/-- limner/limnerref16.Round -/
def F18 : SFun := ⟨23, c18, [.tmp 6]⟩

def r19_0 : List SOper := [
  ⟨(some 1), .box (.t 0), none⟩,
  ⟨(some 2), .mv (.c (.one (.sc (.bool false)))), none⟩]
def r19_1 : List SOper := [
  ⟨(some 3), .iadrA 4 1 (.t 1) (.c (.one (.sc (.int .i64 0)))), none⟩,
  ⟨(some 4), .load1 (.t 3), none⟩,
  ⟨(some 5), .iadrA 4 1 (.t 1) (.c (.one (.sc (.int .i64 1)))), none⟩,
  ⟨(some 6), .load1 (.t 5), none⟩,
  ⟨(some 7), .iadrA 4 1 (.t 1) (.c (.one (.sc (.int .i64 2)))), none⟩,
  ⟨(some 8), .load1 (.t 7), none⟩,
  ⟨(some 9), .mx [(.t 4), (.t 6), (.t 8)], none⟩,
  ⟨(some 10), .iadrA 4 1 (.t 1) (.c (.one (.sc (.int .i64 3)))), none⟩,
  ⟨(some 11), .load1 (.t 10), none⟩,
  ⟨(some 12), .bin .leq (.t 9) (.t 11), none⟩,
  ⟨(some 2), .mv (.t 12), none⟩]
def c19 : SC := (.seq (.reg r19_0) (.seq (.reg r19_1) .ret))
/-- (limner/paint.Color).Right -/
def F19 : SFun := ⟨13, c19, [.tmp 2]⟩

def r20_0 : List SOper := [
  ⟨(some 2), .box (.t 0), none⟩,
  ⟨(some 4), .mv (.c (.one (.sc (.bool false)))), none⟩]
def r20_1 : List SOper := [
  ⟨(some 5), .fadr 0 (.t 2), none⟩,
  ⟨(some 6), .fadr 9 (.t 5), none⟩,
  ⟨(some 7), .load1 (.t 6), none⟩,
  ⟨(some 8), .len (.t 7), none⟩,
  ⟨(some 9), .bin .leq (.t 8) (.c (.one (.sc (.int .i64 60)))), none⟩,
  ⟨(some 10), .mv (.t 9), none⟩,
  ⟨(some 11), .fadr 10 (.t 2), (some (some 10, true))⟩,
  ⟨(some 12), .fadr 9 (.t 11), (some (some 10, true))⟩,
  ⟨(some 13), .load1 (.t 12), (some (some 10, true))⟩,
  ⟨(some 14), .len (.t 13), (some (some 10, true))⟩,
  ⟨(some 15), .bin .leq (.t 14) (.c (.one (.sc (.int .i64 60)))), (some (some 10, true))⟩,
  ⟨(some 16), .pick (.t 10) (.t 15) (.c (.one (.sc (.bool false)))), none⟩,
  ⟨(some 17), .mv (.t 16), none⟩,
  ⟨(some 18), .fadr 23 (.t 2), (some (some 17, true))⟩,
  ⟨(some 19), .fadr 0 (.t 18), (some (some 17, true))⟩,
  ⟨(some 20), .load1 (.t 19), (some (some 17, true))⟩,
  ⟨(some 21), .len (.t 20), (some (some 17, true))⟩,
  ⟨(some 22), .bin .leq (.t 21) (.c (.one (.sc (.int .i64 60)))), (some (some 17, true))⟩,
  ⟨(some 23), .pick (.t 17) (.t 22) (.c (.one (.sc (.bool false)))), none⟩,
  ⟨(some 24), .mv (.t 23), none⟩,
  ⟨(some 25), .mv (.t 1), (some (some 24, true))⟩,
  ⟨(some 26), .len (.t 25), (some (some 24, true))⟩,
  ⟨(some 27), .bin .leq (.t 26) (.c (.one (.sc (.int .i64 20)))), (some (some 24, true))⟩,
  ⟨(some 28), .pick (.t 24) (.t 27) (.c (.one (.sc (.bool false)))), none⟩,
  ⟨(some 4), .mv (.t 28), none⟩]
def c20 : SC := (.seq (.reg r20_0) (.seq (.reg r20_1) .ret))
/-- limner/limnerlaw16.small -/
def F20 : SFun := ⟨29, c20, [.tmp 4]⟩

def r21_0 : List SOper := [
  ⟨(some 2), .box (.t 0), none⟩,
  ⟨(some 3), .box (.t 1), none⟩,
  ⟨(some 4), .mv (.c (.one (.sc (.bool false)))), none⟩]
def r21_1 : List SOper := [
  ⟨(some 5), .fadr 0 (.t 2), none⟩,
  ⟨(some 6), .loadA 10 (.t 5), none⟩,
  ⟨(some 7), .fadr 0 (.t 3), none⟩,
  ⟨(some 8), .loadA 10 (.t 7), none⟩,
  ⟨(some 9), .call .q 12 [(.t 6), (.t 8)], none⟩,
  ⟨(some 10), .mv (.t 9), none⟩,
  ⟨(some 11), .fadr 10 (.t 2), (some (some 10, true))⟩,
  ⟨(some 12), .loadA 10 (.t 11), (some (some 10, true))⟩,
  ⟨(some 13), .fadr 10 (.t 3), (some (some 10, true))⟩,
  ⟨(some 14), .loadA 10 (.t 13), (some (some 10, true))⟩,
  ⟨(some 15), .call .q 12 [(.t 12), (.t 14)], (some (some 10, true))⟩,
  ⟨(some 16), .pick (.t 10) (.t 15) (.c (.one (.sc (.bool false)))), none⟩,
  ⟨(some 17), .mv (.t 16), none⟩,
  ⟨(some 18), .fadr 20 (.t 2), (some (some 17, true))⟩,
  ⟨(some 19), .load1 (.t 18), (some (some 17, true))⟩,
  ⟨(some 20), .fadr 20 (.t 3), (some (some 17, true))⟩,
  ⟨(some 21), .load1 (.t 20), (some (some 17, true))⟩,
  ⟨(some 22), .bin .eql (.t 19) (.t 21), (some (some 17, true))⟩,
  ⟨(some 23), .pick (.t 17) (.t 22) (.c (.one (.sc (.bool false)))), none⟩,
  ⟨(some 24), .mv (.t 23), none⟩,
  ⟨(some 25), .fadr 21 (.t 2), (some (some 24, true))⟩,
  ⟨(some 26), .load1 (.t 25), (some (some 24, true))⟩,
  ⟨(some 27), .fadr 21 (.t 3), (some (some 24, true))⟩,
  ⟨(some 28), .load1 (.t 27), (some (some 24, true))⟩,
  ⟨(some 29), .bin .eql (.t 26) (.t 28), (some (some 24, true))⟩,
  ⟨(some 30), .pick (.t 24) (.t 29) (.c (.one (.sc (.bool false)))), none⟩,
  ⟨(some 31), .mv (.t 30), none⟩,
  ⟨(some 32), .fadr 22 (.t 2), (some (some 31, true))⟩,
  ⟨(some 33), .load1 (.t 32), (some (some 31, true))⟩,
  ⟨(some 34), .fadr 22 (.t 3), (some (some 31, true))⟩,
  ⟨(some 35), .load1 (.t 34), (some (some 31, true))⟩,
  ⟨(some 36), .bin .eql (.t 33) (.t 35), (some (some 31, true))⟩,
  ⟨(some 37), .pick (.t 31) (.t 36) (.c (.one (.sc (.bool false)))), none⟩,
  ⟨(some 38), .mv (.t 37), none⟩,
  ⟨(some 39), .fadr 23 (.t 2), (some (some 38, true))⟩,
  ⟨(some 40), .fadr 0 (.t 39), (some (some 38, true))⟩,
  ⟨(some 41), .load1 (.t 40), (some (some 38, true))⟩,
  ⟨(some 42), .fadr 23 (.t 3), (some (some 38, true))⟩,
  ⟨(some 43), .fadr 0 (.t 42), (some (some 38, true))⟩,
  ⟨(some 44), .load1 (.t 43), (some (some 38, true))⟩,
  ⟨(some 45), .call .q 38 [(.t 41), (.t 44)], (some (some 38, true))⟩,
  ⟨(some 46), .pick (.t 38) (.t 45) (.c (.one (.sc (.bool false)))), none⟩,
  ⟨(some 47), .mv (.t 46), none⟩,
  ⟨(some 48), .fadr 23 (.t 2), (some (some 47, true))⟩,
  ⟨(some 49), .fadr 1 (.t 48), (some (some 47, true))⟩,
  ⟨(some 50), .load1 (.t 49), (some (some 47, true))⟩,
  ⟨(some 51), .fadr 23 (.t 3), (some (some 47, true))⟩,
  ⟨(some 52), .fadr 1 (.t 51), (some (some 47, true))⟩,
  ⟨(some 53), .load1 (.t 52), (some (some 47, true))⟩,
  ⟨(some 54), .bin .eql (.t 50) (.t 53), (some (some 47, true))⟩,
  ⟨(some 55), .pick (.t 47) (.t 54) (.c (.one (.sc (.bool false)))), none⟩,
  ⟨(some 56), .mv (.t 55), none⟩,
  ⟨(some 57), .fadr 25 (.t 2), (some (some 56, true))⟩,
  ⟨(some 58), .load1 (.t 57), (some (some 56, true))⟩,
  ⟨(some 59), .fadr 25 (.t 3), (some (some 56, true))⟩,
  ⟨(some 60), .load1 (.t 59), (some (some 56, true))⟩,
  ⟨(some 61), .bin .eql (.t 58) (.t 60), (some (some 56, true))⟩,
  ⟨(some 62), .pick (.t 56) (.t 61) (.c (.one (.sc (.bool false)))), none⟩,
  ⟨(some 63), .mv (.t 62), none⟩,
  ⟨(some 64), .fadr 26 (.t 2), (some (some 63, true))⟩,
  ⟨(some 65), .load1 (.t 64), (some (some 63, true))⟩,
  ⟨(some 66), .fadr 26 (.t 3), (some (some 63, true))⟩,
  ⟨(some 67), .load1 (.t 66), (some (some 63, true))⟩,
  ⟨(some 68), .bin .eql (.t 65) (.t 67), (some (some 63, true))⟩,
  ⟨(some 69), .pick (.t 63) (.t 68) (.c (.one (.sc (.bool false)))), none⟩,
  ⟨(some 4), .mv (.t 69), none⟩]
def c21 : SC := (.seq (.reg r21_0) (.seq (.reg r21_1) .ret))
/-- (limner/style.Style).Equal -/
def F21 : SFun := ⟨70, c21, [.tmp 4]⟩

def r22_0 : List SOper := [
  ⟨(some 4), .mv (.c (.one (.sc (.bool false)))), none⟩]
def r22_1 : List SOper := [
  ⟨(some 7), .mv (.t 0), none⟩,
  ⟨(some 8), .len (.t 7), none⟩,
  ⟨(some 9), .bin .eql (.t 8) (.c (.one (.sc (.int .i64 0)))), none⟩]
def r22_2 : List SOper := [
  ⟨(some 10), .mv (.t 1), none⟩,
  ⟨(some 11), .bin .eql (.t 10) (.c (.one (.sc (.int .i64 0)))), none⟩,
  ⟨(some 4), .mv (.t 11), none⟩]
def r22_3 : List SOper := [
  ⟨(some 12), .mv (.t 0), none⟩,
  ⟨(some 13), .len (.t 12), none⟩,
  ⟨(some 14), .bin .neq (.t 13) (.c (.one (.sc (.int .i64 2)))), none⟩,
  ⟨(some 15), .mv (.t 14), none⟩,
  ⟨(some 16), .mv (.t 0), (some (some 15, true))⟩,
  ⟨(some 17), .len (.t 16), (some (some 15, true))⟩,
  ⟨(some 18), .bin .neq (.t 17) (.c (.one (.sc (.int .i64 4)))), (some (some 15, true))⟩,
  ⟨(some 19), .pick (.t 15) (.t 18) (.c (.one (.sc (.bool false)))), none⟩,
  ⟨(some 20), .mv (.t 19), none⟩,
  ⟨(some 21), .mv (.t 0), (some (some 20, true))⟩,
  ⟨(some 22), .len (.t 21), (some (some 20, true))⟩,
  ⟨(some 23), .bin .neq (.t 22) (.c (.one (.sc (.int .i64 6)))), (some (some 20, true))⟩,
  ⟨(some 24), .pick (.t 20) (.t 23) (.c (.one (.sc (.bool false)))), none⟩,
  ⟨(some 25), .mv (.t 24), none⟩,
  ⟨(some 26), .mv (.t 0), (some (some 25, true))⟩,
  ⟨(some 27), .len (.t 26), (some (some 25, true))⟩,
  ⟨(some 28), .bin .neq (.t 27) (.c (.one (.sc (.int .i64 8)))), (some (some 25, true))⟩,
  ⟨(some 29), .pick (.t 25) (.t 28) (.c (.one (.sc (.bool false)))), none⟩]
def r22_4 : List SOper := [
  ⟨(some 4), .mv (.c (.one (.sc (.bool false)))), none⟩]
def r22_5 : List SOper := [
  ⟨(some 5), .mv (.c (.one (.sc (.int .i64 0)))), none⟩]
def r22_6 : List SOper := [
  ⟨(some 6), .mv (.c (.one (.sc (.int .i64 0)))), none⟩]
def r22_7 : List SOper := [
  ⟨(some 30), .mv (.t 6), none⟩,
  ⟨(some 31), .mv (.t 0), none⟩,
  ⟨(some 32), .len (.t 31), none⟩,
  ⟨(some 33), .bin .lss (.t 30) (.t 32), none⟩]
def r22_9 : List SOper := [
  ⟨(some 36), .mv (.t 0), none⟩,
  ⟨(some 37), .mv (.t 6), none⟩,
  ⟨(some 38), .iadrS 1 (.t 36) (.t 37), none⟩,
  ⟨(some 39), .load1 (.t 38), none⟩,
  ⟨(some 40), .bin .lss (.t 39) (.c (.one (.sc (.int .i64 1)))), none⟩,
  ⟨(some 41), .mv (.t 40), none⟩,
  ⟨(some 42), .mv (.t 0), (some (some 41, false))⟩,
  ⟨(some 43), .mv (.t 6), (some (some 41, false))⟩,
  ⟨(some 44), .iadrS 1 (.t 42) (.t 43), (some (some 41, false))⟩,
  ⟨(some 45), .load1 (.t 44), (some (some 41, false))⟩,
  ⟨(some 46), .bin .gtr (.t 45) (.c (.one (.sc (.int .i64 1048576)))), (some (some 41, false))⟩,
  ⟨(some 47), .pick (.t 41) (.c (.one (.sc (.bool true)))) (.t 46), none⟩]
def r22_10 : List SOper := [
  ⟨(some 4), .mv (.c (.one (.sc (.bool false)))), none⟩]
def r22_11 : List SOper := [
  ⟨(some 48), .mv (.t 5), none⟩,
  ⟨(some 49), .mv (.t 0), none⟩,
  ⟨(some 50), .mv (.t 6), none⟩,
  ⟨(some 51), .iadrS 1 (.t 49) (.t 50), none⟩,
  ⟨(some 52), .load1 (.t 51), none⟩,
  ⟨(some 53), .bin .add (.t 48) (.t 52), none⟩,
  ⟨(some 5), .mv (.t 53), none⟩]
def r22_8 : List SOper := [
  ⟨(some 34), .mv (.t 6), none⟩,
  ⟨(some 35), .bin .add (.t 34) (.c (.one (.sc (.int .i64 1)))), none⟩,
  ⟨(some 6), .mv (.t 35), none⟩]
def l22_0 : SC := (.seq (.seq (.reg r22_7) (.cond (.t 33) .skip (.exit 0))) (.seq (.block 1 (.seq (.seq (.reg r22_9) (.cond (.t 47) (.seq (.reg r22_10) .ret) .skip)) (.reg r22_11))) (.reg r22_8)))
def r22_12 : List SOper := [
  ⟨(some 54), .mv (.t 1), none⟩,
  ⟨(some 55), .bin .geq (.t 54) (.c (.one (.sc (.int .i64 0)))), none⟩,
  ⟨(some 56), .mv (.t 55), none⟩,
  ⟨(some 57), .mv (.t 1), (some (some 56, true))⟩,
  ⟨(some 58), .mv (.t 5), (some (some 56, true))⟩,
  ⟨(some 59), .bin .lss (.t 57) (.t 58), (some (some 56, true))⟩,
  ⟨(some 60), .pick (.t 56) (.t 59) (.c (.one (.sc (.bool false)))), none⟩,
  ⟨(some 4), .mv (.t 60), none⟩]
def c22 : SC := (.seq (.reg r22_0) (.seq (.seq (.reg r22_1) (.cond (.t 9) (.seq (.reg r22_2) .ret) .skip)) (.seq (.seq (.reg r22_3) (.cond (.t 29) (.seq (.reg r22_4) .ret) .skip)) (.seq (.reg r22_5) (.seq (.seq (.reg r22_6) (.block 0 (.loop l22_0))) (.seq (.reg r22_12) .ret))))))
/-- limner/limnerref09.Right -/
def F22 : SFun := ⟨61, c22, [.tmp 4]⟩

def r23_0 : List SOper := [
  ⟨(some 0), .alloc [.sc (.int .i64 0), .sc (.int .u8 0), .sc (.int .u8 0), .sc (.int .u8 0), .sc (.int .u8 0), .sc (.int .i64 0), .sc (.int .i64 0), .sc (.int .i64 0), .sc (.int .i64 0), .sc (.slice none 0 0), .sc (.int .i64 0), .sc (.int .u8 0), .sc (.int .u8 0), .sc (.int .u8 0), .sc (.int .u8 0), .sc (.int .i64 0), .sc (.int .i64 0), .sc (.int .i64 0), .sc (.int .i64 0), .sc (.slice none 0 0), .sc (.int .i64 0), .sc (.int .i64 0), .sc (.int .i64 0), .sc (.slice none 0 0), .sc (.int .i64 0), .sc (.int .i64 0), .sc (.int .i64 0)], none⟩]
def r23_1 : List SOper := [
  ⟨(some 1), .build [.sc (.int .i64 0), .sc (.int .u8 0), .sc (.int .u8 0), .sc (.int .u8 0), .sc (.int .u8 0), .sc (.int .i64 0), .sc (.int .i64 0), .sc (.int .i64 0), .sc (.int .i64 0), .sc (.slice none 0 0), .sc (.int .i64 0), .sc (.int .u8 0), .sc (.int .u8 0), .sc (.int .u8 0), .sc (.int .u8 0), .sc (.int .i64 0), .sc (.int .i64 0), .sc (.int .i64 0), .sc (.int .i64 0), .sc (.slice none 0 0), .sc (.int .i64 0), .sc (.int .i64 0), .sc (.int .i64 0), .sc (.slice none 0 0), .sc (.int .i64 0), .sc (.int .i64 0), .sc (.int .i64 0)] [(20, 1, (.c (.one (.sc (.int .i64 1))))), (25, 1, (.c (.one (.sc (.int .i64 255)))))], none⟩,
  ⟨none, .store 27 (.t 0) (.t 1), none⟩]
def c23 : SC := (.seq (.reg r23_0) (.seq (.reg r23_1) .ret))
/-- limner/style.None -/
def F23 : SFun := ⟨2, c23, [.cellA 0 27]⟩

def r24_0 : List SOper := [
  ⟨(some 1), .box (.t 0), none⟩,
  ⟨(some 2), .mv (.c (.one (.sc (.int .i64 0)))), none⟩]
def r24_1 : List SOper := [
  ⟨(some 8), .fadr 0 (.t 1), none⟩,
  ⟨(some 9), .loadA 10 (.t 8), none⟩,
  ⟨(some 10), .fadr 10 (.t 1), none⟩,
  ⟨(some 11), .loadA 10 (.t 10), none⟩,
  ⟨(some 12), .bslice [.sc (.int .i64 0), .sc (.int .u8 0), .sc (.int .u8 0), .sc (.int .u8 0), .sc (.int .u8 0), .sc (.int .i64 0), .sc (.int .i64 0), .sc (.int .i64 0), .sc (.int .i64 0), .sc (.slice none 0 0), .sc (.int .i64 0), .sc (.int .u8 0), .sc (.int .u8 0), .sc (.int .u8 0), .sc (.int .u8 0), .sc (.int .i64 0), .sc (.int .i64 0), .sc (.int .i64 0), .sc (.int .i64 0), .sc (.slice none 0 0)] 2 10 [(0, 10, (.t 9)), (10, 10, (.t 11))], none⟩,
  ⟨(some 13), .len (.t 12), none⟩,
  ⟨(some 14), .mv (.c (.one (.sc (.int .i64 0)))), none⟩]
def r24_2 : List SOper := [
  ⟨(some 15), .bin .lss (.t 14) (.t 13), none⟩]
def r24_3 : List SOper := [
  ⟨(some 16), .iadrS 10 (.t 12) (.t 14), none⟩,
  ⟨(some 17), .loadA 10 (.t 16), none⟩,
  ⟨(some 4), .alloc [.sc (.int .i64 0), .sc (.int .u8 0), .sc (.int .u8 0), .sc (.int .u8 0), .sc (.int .u8 0), .sc (.int .i64 0), .sc (.int .i64 0), .sc (.int .i64 0), .sc (.int .i64 0), .sc (.slice none 0 0)], none⟩,
  ⟨none, .store 10 (.t 4) (.t 17), none⟩]
def r24_4 : List SOper := [
  ⟨(some 18), .loadA 10 (.t 4), none⟩,
  ⟨(some 19), .call .q 11 [(.t 18)], none⟩,
  ⟨(some 5), .mv (.t 19), none⟩]
def r24_5 : List SOper := [
  ⟨(some 20), .mv (.t 5), none⟩,
  ⟨(some 21), .bin .neq (.t 20) (.c (.one (.sc (.int .i64 0)))), none⟩]
def r24_6 : List SOper := [
  ⟨(some 22), .mv (.t 5), none⟩,
  ⟨(some 2), .mv (.t 22), none⟩]
def r24_7 : List SOper := [
  ⟨(some 23), .bin .add (.t 14) (.c (.one (.sc (.int .i64 1)))), none⟩,
  ⟨(some 14), .mv (.t 23), none⟩]
def l24_0 : SC := (.seq (.reg r24_2) (.seq (.cond (.t 15) .skip (.exit 0)) (.seq (.block 1 (.seq (.reg r24_3) (.seq (.reg r24_4) (.seq (.reg r24_5) (.cond (.t 21) (.seq (.reg r24_6) .ret) .skip))))) (.reg r24_7))))
def r24_8 : List SOper := [
  ⟨(some 24), .fadr 20 (.t 1), none⟩,
  ⟨(some 25), .load1 (.t 24), none⟩,
  ⟨(some 26), .build [.sc (.int .i64 0), .sc (.int .i64 0), .sc (.int .i64 0)] [(0, 1, (.t 25)), (1, 1, (.c (.one (.sc (.int .i64 1))))), (2, 1, (.c (.one (.sc (.int .i64 2)))))], none⟩,
  ⟨(some 27), .fadr 21 (.t 1), none⟩,
  ⟨(some 28), .load1 (.t 27), none⟩,
  ⟨(some 29), .build [.sc (.int .i64 0), .sc (.int .i64 0), .sc (.int .i64 0)] [(0, 1, (.t 28)), (1, 1, (.c (.one (.sc (.int .i64 0))))), (2, 1, (.c (.one (.sc (.int .i64 32768)))))], none⟩,
  ⟨(some 30), .fadr 22 (.t 1), none⟩,
  ⟨(some 31), .load1 (.t 30), none⟩,
  ⟨(some 32), .build [.sc (.int .i64 0), .sc (.int .i64 0), .sc (.int .i64 0)] [(0, 1, (.t 31)), (1, 1, (.c (.one (.sc (.int .i64 0))))), (2, 1, (.c (.one (.sc (.int .i64 2)))))], none⟩,
  ⟨(some 33), .fadr 25 (.t 1), none⟩,
  ⟨(some 34), .load1 (.t 33), none⟩,
  ⟨(some 35), .build [.sc (.int .i64 0), .sc (.int .i64 0), .sc (.int .i64 0)] [(0, 1, (.t 34)), (1, 1, (.c (.one (.sc (.int .i64 0))))), (2, 1, (.c (.one (.sc (.int .i64 255)))))], none⟩,
  ⟨(some 36), .fadr 26 (.t 1), none⟩,
  ⟨(some 37), .load1 (.t 36), none⟩,
  ⟨(some 38), .build [.sc (.int .i64 0), .sc (.int .i64 0), .sc (.int .i64 0)] [(0, 1, (.t 37)), (1, 1, (.c (.one (.sc (.int .i64 0))))), (2, 1, (.c (.one (.sc (.int .i64 4)))))], none⟩,
  ⟨(some 39), .bslice (List.replicate 15 (.sc (.int .i64 0))) 5 3 [(0, 3, (.t 26)), (3, 3, (.t 29)), (6, 3, (.t 32)), (9, 3, (.t 35)), (12, 3, (.t 38))], none⟩,
  ⟨(some 40), .len (.t 39), none⟩,
  ⟨(some 41), .mv (.c (.one (.sc (.int .i64 0)))), none⟩]
def r24_9 : List SOper := [
  ⟨(some 42), .bin .lss (.t 41) (.t 40), none⟩]
def r24_10 : List SOper := [
  ⟨(some 43), .iadrS 3 (.t 39) (.t 41), none⟩,
  ⟨(some 44), .loadA 3 (.t 43), none⟩,
  ⟨(some 7), .alloc [.sc (.int .i64 0), .sc (.int .i64 0), .sc (.int .i64 0)], none⟩,
  ⟨none, .store 3 (.t 7) (.t 44), none⟩]
def r24_11 : List SOper := [
  ⟨(some 45), .fadr 0 (.t 7), none⟩,
  ⟨(some 46), .load1 (.t 45), none⟩,
  ⟨(some 47), .fadr 1 (.t 7), none⟩,
  ⟨(some 48), .load1 (.t 47), none⟩,
  ⟨(some 49), .bin .lss (.t 46) (.t 48), none⟩,
  ⟨(some 50), .mv (.t 49), none⟩,
  ⟨(some 51), .fadr 0 (.t 7), (some (some 50, false))⟩,
  ⟨(some 52), .load1 (.t 51), (some (some 50, false))⟩,
  ⟨(some 53), .fadr 2 (.t 7), (some (some 50, false))⟩,
  ⟨(some 54), .load1 (.t 53), (some (some 50, false))⟩,
  ⟨(some 55), .bin .gtr (.t 52) (.t 54), (some (some 50, false))⟩,
  ⟨(some 56), .pick (.t 50) (.c (.one (.sc (.bool true)))) (.t 55), none⟩]
def r24_12 : List SOper := [
  ⟨(some 2), .mv (.c (.one (.sc (.int .i64 30)))), none⟩]
def r24_13 : List SOper := [
  ⟨(some 57), .bin .add (.t 41) (.c (.one (.sc (.int .i64 1)))), none⟩,
  ⟨(some 41), .mv (.t 57), none⟩]
def l24_1 : SC := (.seq (.reg r24_9) (.seq (.cond (.t 42) .skip (.exit 2)) (.seq (.block 3 (.seq (.reg r24_10) (.seq (.reg r24_11) (.cond (.t 56) (.seq (.reg r24_12) .ret) .skip)))) (.reg r24_13))))
def r24_14 : List SOper := [
  ⟨(some 58), .fadr 23 (.t 1), none⟩,
  ⟨(some 59), .loadA 2 (.t 58), none⟩,
  ⟨(some 60), .call .q 39 [(.t 59)], none⟩,
  ⟨(some 2), .mv (.t 60), none⟩]
def c24 : SC := (.seq (.reg r24_0) (.seq (.seq (.reg r24_1) (.block 0 (.loop l24_0))) (.seq (.seq (.reg r24_8) (.block 2 (.loop l24_1))) (.seq (.reg r24_14) .ret))))
/-- (limner/style.Style).Check -/
def F24 : SFun := ⟨61, c24, [.tmp 2]⟩

def r25_0 : List SOper := [
  ⟨(some 1), .box (.t 0), none⟩,
  ⟨(some 2), .mv (.c (.one (.sc (.bool false)))), none⟩]
def r25_1 : List SOper := [
  ⟨(some 3), .iadrA 4 1 (.t 1) (.c (.one (.sc (.int .i64 0)))), none⟩,
  ⟨(some 4), .load1 (.t 3), none⟩,
  ⟨(some 5), .iadrA 4 1 (.t 1) (.c (.one (.sc (.int .i64 3)))), none⟩,
  ⟨(some 6), .load1 (.t 5), none⟩,
  ⟨(some 7), .bin .leq (.t 4) (.t 6), none⟩,
  ⟨(some 8), .mv (.t 7), none⟩,
  ⟨(some 9), .iadrA 4 1 (.t 1) (.c (.one (.sc (.int .i64 1)))), (some (some 8, true))⟩,
  ⟨(some 10), .load1 (.t 9), (some (some 8, true))⟩,
  ⟨(some 11), .iadrA 4 1 (.t 1) (.c (.one (.sc (.int .i64 3)))), (some (some 8, true))⟩,
  ⟨(some 12), .load1 (.t 11), (some (some 8, true))⟩,
  ⟨(some 13), .bin .leq (.t 10) (.t 12), (some (some 8, true))⟩,
  ⟨(some 14), .pick (.t 8) (.t 13) (.c (.one (.sc (.bool false)))), none⟩,
  ⟨(some 15), .mv (.t 14), none⟩,
  ⟨(some 16), .iadrA 4 1 (.t 1) (.c (.one (.sc (.int .i64 2)))), (some (some 15, true))⟩,
  ⟨(some 17), .load1 (.t 16), (some (some 15, true))⟩,
  ⟨(some 18), .iadrA 4 1 (.t 1) (.c (.one (.sc (.int .i64 3)))), (some (some 15, true))⟩,
  ⟨(some 19), .load1 (.t 18), (some (some 15, true))⟩,
  ⟨(some 20), .bin .leq (.t 17) (.t 19), (some (some 15, true))⟩,
  ⟨(some 21), .pick (.t 15) (.t 20) (.c (.one (.sc (.bool false)))), none⟩,
  ⟨(some 2), .mv (.t 21), none⟩]
def c25 : SC := (.seq (.reg r25_0) (.seq (.reg r25_1) .ret))
/-- limner/limnerref10.Right -/
def F25 : SFun := ⟨22, c25, [.tmp 2]⟩

def r26_0 : List SOper := [
  ⟨(some 2), .mv (.c (.one (.sc (.bool false)))), none⟩]
def r26_1 : List SOper := [
  ⟨(some 3), .mv (.c (.one (.sc (.int .i64 0)))), none⟩]
def r26_2 : List SOper := [
  ⟨(some 4), .mv (.t 3), none⟩,
  ⟨(some 5), .mv (.t 0), none⟩,
  ⟨(some 6), .len (.t 5), none⟩,
  ⟨(some 7), .bin .lss (.t 4) (.t 6), none⟩]
def r26_4 : List SOper := [
  ⟨(some 10), .mv (.t 0), none⟩,
  ⟨(some 11), .mv (.t 3), none⟩,
  ⟨(some 12), .iadrS 5 (.t 10) (.t 11), none⟩,
  ⟨(some 13), .fadr 0 (.t 12), none⟩,
  ⟨(some 14), .load1 (.t 13), none⟩,
  ⟨(some 15), .bin .lss (.t 14) (.c (.one (.sc (.int .i64 0)))), none⟩,
  ⟨(some 16), .mv (.t 15), none⟩,
  ⟨(some 17), .mv (.t 0), (some (some 16, false))⟩,
  ⟨(some 18), .mv (.t 3), (some (some 16, false))⟩,
  ⟨(some 19), .iadrS 5 (.t 17) (.t 18), (some (some 16, false))⟩,
  ⟨(some 20), .fadr 0 (.t 19), (some (some 16, false))⟩,
  ⟨(some 21), .load1 (.t 20), (some (some 16, false))⟩,
  ⟨(some 22), .bin .gtr (.t 21) (.c (.one (.sc (.int .i64 65536)))), (some (some 16, false))⟩,
  ⟨(some 23), .pick (.t 16) (.c (.one (.sc (.bool true)))) (.t 22), none⟩,
  ⟨(some 24), .mv (.t 23), none⟩,
  ⟨(some 25), .mv (.t 0), (some (some 24, false))⟩,
  ⟨(some 26), .mv (.t 3), (some (some 24, false))⟩,
  ⟨(some 27), .iadrS 5 (.t 25) (.t 26), (some (some 24, false))⟩,
  ⟨(some 28), .fadr 1 (.t 27), (some (some 24, false))⟩,
  ⟨(some 29), .loadA 4 (.t 28), (some (some 24, false))⟩,
  ⟨(some 30), .call (.z 0) 25 [(.t 29)], (some (some 24, false))⟩,
  ⟨(some 31), .un .not (.t 30), (some (some 24, false))⟩,
  ⟨(some 32), .pick (.t 24) (.c (.one (.sc (.bool true)))) (.t 31), none⟩,
  ⟨(some 33), .mv (.t 32), none⟩,
  ⟨(some 34), .mv (.t 3), (some (some 33, false))⟩,
  ⟨(some 35), .bin .gtr (.t 34) (.c (.one (.sc (.int .i64 0)))), (some (some 33, false))⟩,
  ⟨(some 36), .mv (.t 35), (some (some 33, false))⟩,
  ⟨(some 37), .mv (.t 0), (some (some 36, true))⟩,
  ⟨(some 38), .mv (.t 3), (some (some 36, true))⟩,
  ⟨(some 39), .bin .sub (.t 38) (.c (.one (.sc (.int .i64 1)))), (some (some 36, true))⟩,
  ⟨(some 40), .iadrS 5 (.t 37) (.t 39), (some (some 36, true))⟩,
  ⟨(some 41), .fadr 0 (.t 40), (some (some 36, true))⟩,
  ⟨(some 42), .load1 (.t 41), (some (some 36, true))⟩,
  ⟨(some 43), .mv (.t 0), (some (some 36, true))⟩,
  ⟨(some 44), .mv (.t 3), (some (some 36, true))⟩,
  ⟨(some 45), .iadrS 5 (.t 43) (.t 44), (some (some 36, true))⟩,
  ⟨(some 46), .fadr 0 (.t 45), (some (some 36, true))⟩,
  ⟨(some 47), .load1 (.t 46), (some (some 36, true))⟩,
  ⟨(some 48), .bin .gtr (.t 42) (.t 47), (some (some 36, true))⟩,
  ⟨(some 49), .pick (.t 36) (.t 48) (.c (.one (.sc (.bool false)))), (some (some 33, false))⟩,
  ⟨(some 50), .pick (.t 33) (.c (.one (.sc (.bool true)))) (.t 49), none⟩]
def r26_5 : List SOper := [
  ⟨(some 2), .mv (.c (.one (.sc (.bool false)))), none⟩]
def r26_3 : List SOper := [
  ⟨(some 8), .mv (.t 3), none⟩,
  ⟨(some 9), .bin .add (.t 8) (.c (.one (.sc (.int .i64 1)))), none⟩,
  ⟨(some 3), .mv (.t 9), none⟩]
def l26_0 : SC := (.seq (.seq (.reg r26_2) (.cond (.t 7) .skip (.exit 0))) (.seq (.block 1 (.seq (.reg r26_4) (.cond (.t 50) (.seq (.reg r26_5) .ret) .skip))) (.reg r26_3)))
def r26_6 : List SOper := [
  ⟨(some 51), .mv (.t 0), none⟩,
  ⟨(some 52), .len (.t 51), none⟩,
  ⟨(some 53), .bin .geq (.t 52) (.c (.one (.sc (.int .i64 1)))), none⟩,
  ⟨(some 54), .mv (.t 53), none⟩,
  ⟨(some 55), .mv (.t 0), (some (some 54, true))⟩,
  ⟨(some 56), .len (.t 55), (some (some 54, true))⟩,
  ⟨(some 57), .bin .leq (.t 56) (.c (.one (.sc (.int .i64 16)))), (some (some 54, true))⟩,
  ⟨(some 58), .pick (.t 54) (.t 57) (.c (.one (.sc (.bool false)))), none⟩,
  ⟨(some 2), .mv (.t 58), none⟩]
def c26 : SC := (.seq (.reg r26_0) (.seq (.seq (.reg r26_1) (.block 0 (.loop l26_0))) (.seq (.reg r26_6) .ret)))
/-- limner/limnerref16.Stops -/
def F26 : SFun := ⟨59, c26, [.tmp 2]⟩

def r27_0 : List SOper := [
  ⟨(some 2), .mv (.c (.one (.sc (.int .i64 0)))), none⟩]
def r27_1 : List SOper := [
  ⟨(some 3), .mv (.t 0), none⟩,
  ⟨(some 4), .mx [(.t 3), (.c (.one (.sc (.int .i64 (-16777216)))))], none⟩,
  ⟨(some 5), .mn [(.t 4), (.c (.one (.sc (.int .i64 16777216))))], none⟩,
  ⟨(some 2), .mv (.t 5), none⟩]
def c27 : SC := (.seq (.reg r27_0) (.seq (.reg r27_1) .ret))
/-- limner/style.clip -/
def F27 : SFun := ⟨6, c27, [.tmp 2]⟩

def r28_0 : List SOper := [
  ⟨(some 3), .box (.t 1), none⟩,
  ⟨(some 4), .alloc [.sc (.int .u8 0), .sc (.int .u8 0), .sc (.int .u8 0), .sc (.int .u8 0)], none⟩,
  ⟨(some 5), .mv (.c (.one (.sc (.int .i64 0)))), none⟩]
def r28_1 : List SOper := [
  ⟨(some 11), .mv (.t 0), none⟩,
  ⟨(some 12), .call .q 32 [(.t 11)], none⟩,
  ⟨(some 6), .mv (.t 12), none⟩]
def r28_2 : List SOper := [
  ⟨(some 13), .mv (.t 6), none⟩,
  ⟨(some 14), .bin .neq (.t 13) (.c (.one (.sc (.int .i64 0)))), none⟩]
def r28_3 : List SOper := [
  ⟨(some 15), .build [.sc (.int .u8 0), .sc (.int .u8 0), .sc (.int .u8 0), .sc (.int .u8 0)] [], none⟩,
  ⟨(some 16), .mv (.t 6), none⟩,
  ⟨none, .store 4 (.t 4) (.t 15), none⟩,
  ⟨(some 5), .mv (.t 16), none⟩]
def r28_4 : List SOper := [
  ⟨(some 17), .mv (.t 0), none⟩,
  ⟨(some 18), .mv (.t 0), none⟩,
  ⟨(some 19), .len (.t 18), none⟩,
  ⟨(some 20), .bin .sub (.t 19) (.c (.one (.sc (.int .i64 1)))), none⟩,
  ⟨(some 21), .iadrS 5 (.t 17) (.t 20), none⟩,
  ⟨(some 22), .loadA 5 (.t 21), none⟩,
  ⟨(some 7), .alloc [.sc (.int .i64 0), .sc (.int .u8 0), .sc (.int .u8 0), .sc (.int .u8 0), .sc (.int .u8 0)], none⟩,
  ⟨none, .store 5 (.t 7) (.t 22), none⟩]
def r28_5 : List SOper := [
  ⟨(some 24), .load1 (.t 3), none⟩,
  ⟨(some 25), .mv (.t 0), none⟩,
  ⟨(some 26), .iadrS 5 (.t 25) (.c (.one (.sc (.int .i64 0)))), none⟩,
  ⟨(some 27), .fadr 0 (.t 26), none⟩,
  ⟨(some 28), .load1 (.t 27), none⟩,
  ⟨(some 29), .bin .leq (.t 24) (.t 28), none⟩,
  ⟨(some 23), .mv (.t 29), none⟩]
def r28_6 : List SOper := [
  ⟨(some 30), .mv (.t 0), none⟩,
  ⟨(some 31), .iadrS 5 (.t 30) (.c (.one (.sc (.int .i64 0)))), none⟩,
  ⟨(some 32), .fadr 1 (.t 31), none⟩,
  ⟨(some 33), .loadA 4 (.t 32), none⟩,
  ⟨none, .store 4 (.t 4) (.t 33), none⟩,
  ⟨(some 5), .mv (.c (.one (.sc (.int .i64 0)))), none⟩]
def r28_7 : List SOper := [
  ⟨(some 35), .load1 (.t 3), none⟩,
  ⟨(some 36), .fadr 0 (.t 7), none⟩,
  ⟨(some 37), .load1 (.t 36), none⟩,
  ⟨(some 38), .bin .geq (.t 35) (.t 37), none⟩,
  ⟨(some 34), .mv (.t 38), none⟩]
def r28_8 : List SOper := [
  ⟨(some 39), .fadr 1 (.t 7), none⟩,
  ⟨(some 40), .loadA 4 (.t 39), none⟩,
  ⟨none, .store 4 (.t 4) (.t 40), none⟩,
  ⟨(some 5), .mv (.c (.one (.sc (.int .i64 0)))), none⟩]
def r28_9 : List SOper := [
  ⟨(some 41), .mv (.t 0), none⟩,
  ⟨(some 42), .mkfn 41 [(.t 3)], none⟩,
  ⟨(some 43), .call .q 40 [(.t 41), (.t 42)], none⟩,
  ⟨(some 8), .mv (.t 43), none⟩]
def r28_10 : List SOper := [
  ⟨(some 44), .mv (.t 0), none⟩,
  ⟨(some 45), .mv (.t 8), none⟩,
  ⟨(some 46), .bin .sub (.t 45) (.c (.one (.sc (.int .i64 1)))), none⟩,
  ⟨(some 47), .iadrS 5 (.t 44) (.t 46), none⟩,
  ⟨(some 48), .loadA 5 (.t 47), none⟩,
  ⟨(some 49), .mv (.t 0), none⟩,
  ⟨(some 50), .mv (.t 8), none⟩,
  ⟨(some 51), .iadrS 5 (.t 49) (.t 50), none⟩,
  ⟨(some 52), .loadA 5 (.t 51), none⟩,
  ⟨(some 9), .alloc [.sc (.int .i64 0), .sc (.int .u8 0), .sc (.int .u8 0), .sc (.int .u8 0), .sc (.int .u8 0)], none⟩,
  ⟨(some 10), .alloc [.sc (.int .i64 0), .sc (.int .u8 0), .sc (.int .u8 0), .sc (.int .u8 0), .sc (.int .u8 0)], none⟩,
  ⟨none, .store 5 (.t 9) (.t 48), none⟩,
  ⟨none, .store 5 (.t 10) (.t 52), none⟩]
def r28_11 : List SOper := [
  ⟨(some 53), .fadr 1 (.t 9), none⟩,
  ⟨(some 54), .loadA 4 (.t 53), none⟩,
  ⟨(some 55), .fadr 1 (.t 10), none⟩,
  ⟨(some 56), .loadA 4 (.t 55), none⟩,
  ⟨(some 57), .load1 (.t 3), none⟩,
  ⟨(some 58), .fadr 0 (.t 9), none⟩,
  ⟨(some 59), .load1 (.t 58), none⟩,
  ⟨(some 60), .bin .sub (.t 57) (.t 59), none⟩,
  ⟨(some 61), .bin .mul (.t 60) (.c (.one (.sc (.int .i64 65536)))), none⟩,
  ⟨(some 62), .fadr 0 (.t 10), none⟩,
  ⟨(some 63), .load1 (.t 62), none⟩,
  ⟨(some 64), .fadr 0 (.t 9), none⟩,
  ⟨(some 65), .load1 (.t 64), none⟩,
  ⟨(some 66), .bin .sub (.t 63) (.t 65), none⟩,
  ⟨(some 67), .bin .quo (.t 61) (.t 66), none⟩,
  ⟨(some 68), .call (.z 0) 42 [(.t 54), (.t 56), (.t 67)], none⟩,
  ⟨none, .store 4 (.t 4) (.t 68), none⟩,
  ⟨(some 5), .mv (.c (.one (.sc (.int .i64 0)))), none⟩]
def c28 : SC := (.seq (.reg r28_0) (.seq (.seq (.reg r28_1) (.seq (.reg r28_2) (.cond (.t 14) (.seq (.reg r28_3) .ret) .skip))) (.seq (.reg r28_4) (.seq (.block 0 (.seq (.reg r28_5) (.cond (.t 23) (.seq (.reg r28_6) .ret) (.seq (.reg r28_7) (.cond (.t 34) (.seq (.reg r28_8) .ret) .skip))))) (.seq (.reg r28_9) (.seq (.ureg [44, 45, 46, 47, 48, 49, 50, 51, 52] [(51, 9)] r28_10) (.seq (.reg r28_11) .ret)))))))
/-- limner/paint.Shade -/
def F28 : SFun := ⟨69, c28, [.cellA 4 4, .tmp 5]⟩

def r29_0 : List SOper := [
  ⟨(some 2), .box (.t 0), none⟩,
  ⟨(some 3), .box (.t 1), none⟩,
  ⟨(some 4), .mv (.c (.one (.sc (.int .i64 0)))), none⟩]
def r29_1 : List SOper := [
  ⟨(some 10), .fadr 7 (.t 2), none⟩,
  ⟨(some 11), .fadr 0 (.t 10), none⟩,
  ⟨(some 12), .load1 (.t 11), none⟩,
  ⟨(some 13), .fadr 5 (.t 2), none⟩,
  ⟨(some 14), .fadr 0 (.t 13), none⟩,
  ⟨(some 15), .load1 (.t 14), none⟩,
  ⟨(some 16), .bin .sub (.t 12) (.t 15), none⟩,
  ⟨(some 17), .fadr 7 (.t 2), none⟩,
  ⟨(some 18), .fadr 1 (.t 17), none⟩,
  ⟨(some 19), .load1 (.t 18), none⟩,
  ⟨(some 20), .fadr 5 (.t 2), none⟩,
  ⟨(some 21), .fadr 1 (.t 20), none⟩,
  ⟨(some 22), .load1 (.t 21), none⟩,
  ⟨(some 23), .bin .sub (.t 19) (.t 22), none⟩,
  ⟨(some 24), .build [.sc (.int .i64 0), .sc (.int .i64 0)] [(0, 1, (.t 16)), (1, 1, (.t 23))], none⟩,
  ⟨(some 25), .fadr 0 (.t 3), none⟩,
  ⟨(some 26), .load1 (.t 25), none⟩,
  ⟨(some 27), .fadr 5 (.t 2), none⟩,
  ⟨(some 28), .fadr 0 (.t 27), none⟩,
  ⟨(some 29), .load1 (.t 28), none⟩,
  ⟨(some 30), .bin .sub (.t 26) (.t 29), none⟩,
  ⟨(some 31), .fadr 1 (.t 3), none⟩,
  ⟨(some 32), .load1 (.t 31), none⟩,
  ⟨(some 33), .fadr 5 (.t 2), none⟩,
  ⟨(some 34), .fadr 1 (.t 33), none⟩,
  ⟨(some 35), .load1 (.t 34), none⟩,
  ⟨(some 36), .bin .sub (.t 32) (.t 35), none⟩,
  ⟨(some 37), .build [.sc (.int .i64 0), .sc (.int .i64 0)] [(0, 1, (.t 30)), (1, 1, (.t 36))], none⟩,
  ⟨(some 5), .alloc [.sc (.int .i64 0), .sc (.int .i64 0)], none⟩,
  ⟨(some 6), .alloc [.sc (.int .i64 0), .sc (.int .i64 0)], none⟩,
  ⟨none, .store 2 (.t 5) (.t 24), none⟩,
  ⟨none, .store 2 (.t 6) (.t 37), none⟩]
def r29_2 : List SOper := [
  ⟨(some 39), .fadr 0 (.t 6), none⟩,
  ⟨(some 40), .load1 (.t 39), none⟩,
  ⟨(some 41), .fadr 0 (.t 5), none⟩,
  ⟨(some 42), .load1 (.t 41), none⟩,
  ⟨(some 43), .bin .mul (.t 40) (.t 42), none⟩,
  ⟨(some 44), .fadr 1 (.t 6), none⟩,
  ⟨(some 45), .load1 (.t 44), none⟩,
  ⟨(some 46), .fadr 1 (.t 5), none⟩,
  ⟨(some 47), .load1 (.t 46), none⟩,
  ⟨(some 48), .bin .mul (.t 45) (.t 47), none⟩,
  ⟨(some 49), .bin .add (.t 43) (.t 48), none⟩,
  ⟨(some 50), .fadr 0 (.t 5), none⟩,
  ⟨(some 51), .load1 (.t 50), none⟩,
  ⟨(some 52), .fadr 0 (.t 5), none⟩,
  ⟨(some 53), .load1 (.t 52), none⟩,
  ⟨(some 54), .bin .mul (.t 51) (.t 53), none⟩,
  ⟨(some 55), .fadr 1 (.t 5), none⟩,
  ⟨(some 56), .load1 (.t 55), none⟩,
  ⟨(some 57), .fadr 1 (.t 5), none⟩,
  ⟨(some 58), .load1 (.t 57), none⟩,
  ⟨(some 59), .bin .mul (.t 56) (.t 58), none⟩,
  ⟨(some 60), .bin .add (.t 54) (.t 59), none⟩,
  ⟨(some 61), .call (.z 0) 43 [(.t 49), (.c (.one (.sc (.int .i64 65536)))), (.t 60)], none⟩,
  ⟨(some 38), .mv (.t 61), none⟩,
  ⟨(some 62), .ext (.t 38) 0, none⟩,
  ⟨(some 63), .ext (.t 38) 1, none⟩,
  ⟨(some 64), .ext (.t 38) 2, none⟩,
  ⟨(some 7), .mv (.t 62), none⟩,
  ⟨(some 8), .mv (.t 63), none⟩,
  ⟨(some 9), .mv (.t 64), none⟩]
def r29_3 : List SOper := [
  ⟨(some 65), .mv (.t 7), none⟩,
  ⟨(some 4), .mv (.t 65), none⟩]
def c29 : SC := (.seq (.reg r29_0) (.seq (.ureg [10, 11, 12, 13, 14, 15, 16, 17, 18, 19, 20, 21, 22, 23, 24, 25, 26, 27, 28, 29, 30, 31, 32, 33, 34, 35, 36, 37] [(25, 5), (28, 5), (31, 5), (34, 5)] r29_1) (.seq (.reg r29_2) (.seq (.reg r29_3) .ret))))
/-- (limner/style.Paint).along -/
def F29 : SFun := ⟨66, c29, [.tmp 4]⟩

def r30_0 : List SOper := [
  ⟨(some 2), .box (.t 0), none⟩,
  ⟨(some 3), .box (.t 1), none⟩,
  ⟨(some 4), .mv (.c (.one (.sc (.int .i64 0)))), none⟩]
def r30_1 : List SOper := [
  ⟨(some 10), .fadr 5 (.t 2), none⟩,
  ⟨(some 11), .loadA 2 (.t 10), none⟩,
  ⟨(some 12), .fadr 7 (.t 2), none⟩,
  ⟨(some 13), .loadA 2 (.t 12), none⟩,
  ⟨(some 14), .call (.z 0) 44 [(.t 11), (.t 13)], none⟩,
  ⟨(some 9), .mv (.t 14), none⟩,
  ⟨(some 15), .ext (.t 9) 0, none⟩,
  ⟨(some 16), .ext (.t 9) 1, none⟩,
  ⟨(some 5), .mv (.t 15), none⟩,
  ⟨(some 6), .mv (.t 16), none⟩]
def r30_2 : List SOper := [
  ⟨(some 18), .fadr 5 (.t 2), none⟩,
  ⟨(some 19), .loadA 2 (.t 18), none⟩,
  ⟨(some 20), .loadA 2 (.t 3), none⟩,
  ⟨(some 21), .call (.z 0) 44 [(.t 19), (.t 20)], none⟩,
  ⟨(some 17), .mv (.t 21), none⟩,
  ⟨(some 22), .ext (.t 17) 0, none⟩,
  ⟨(some 23), .ext (.t 17) 1, none⟩,
  ⟨(some 7), .mv (.t 22), none⟩,
  ⟨(some 8), .mv (.t 23), none⟩]
def r30_3 : List SOper := [
  ⟨(some 24), .mv (.t 7), none⟩,
  ⟨(some 25), .bin .mul (.t 24) (.c (.one (.sc (.int .i64 65536)))), none⟩,
  ⟨(some 26), .mv (.t 5), none⟩,
  ⟨(some 27), .bin .quo (.t 25) (.t 26), none⟩,
  ⟨(some 4), .mv (.t 27), none⟩]
def c30 : SC := (.seq (.reg r30_0) (.seq (.reg r30_1) (.seq (.reg r30_2) (.seq (.reg r30_3) .ret))))
/-- (limner/style.Paint).round -/
def F30 : SFun := ⟨28, c30, [.tmp 4]⟩

def r31_0 : List SOper := [
  ⟨(some 1), .box (.t 0), none⟩,
  ⟨(some 2), .mv (.c (.one (.sc (.bool false)))), none⟩]
def r31_1 : List SOper := [
  ⟨(some 3), .fadr 0 (.t 1), none⟩,
  ⟨(some 4), .load1 (.t 3), none⟩,
  ⟨(some 5), .fadr 1 (.t 1), none⟩,
  ⟨(some 6), .load1 (.t 5), none⟩,
  ⟨(some 7), .mn [(.t 4), (.t 6)], none⟩,
  ⟨(some 8), .bin .geq (.t 7) (.c (.one (.sc (.int .i64 (-16777216))))), none⟩,
  ⟨(some 9), .mv (.t 8), none⟩,
  ⟨(some 10), .fadr 0 (.t 1), (some (some 9, true))⟩,
  ⟨(some 11), .load1 (.t 10), (some (some 9, true))⟩,
  ⟨(some 12), .fadr 1 (.t 1), (some (some 9, true))⟩,
  ⟨(some 13), .load1 (.t 12), (some (some 9, true))⟩,
  ⟨(some 14), .mx [(.t 11), (.t 13)], (some (some 9, true))⟩,
  ⟨(some 15), .bin .leq (.t 14) (.c (.one (.sc (.int .i64 16777216)))), (some (some 9, true))⟩,
  ⟨(some 16), .pick (.t 9) (.t 15) (.c (.one (.sc (.bool false)))), none⟩,
  ⟨(some 2), .mv (.t 16), none⟩]
def c31 : SC := (.seq (.reg r31_0) (.seq (.reg r31_1) .ret))
/-- limner/style.near -/
def F31 : SFun := ⟨17, c31, [.tmp 2]⟩

def r32_0 : List SOper := [
  ⟨(some 2), .mv (.c (.one (.sc (.int .i64 0)))), none⟩]
def r32_1 : List SOper := [
  ⟨(some 6), .mv (.t 0), none⟩,
  ⟨(some 7), .len (.t 6), none⟩,
  ⟨(some 8), .bin .geq (.t 7) (.c (.one (.sc (.int .i64 1)))), none⟩,
  ⟨(some 9), .mv (.t 8), none⟩,
  ⟨(some 10), .mv (.t 0), (some (some 9, true))⟩,
  ⟨(some 11), .len (.t 10), (some (some 9, true))⟩,
  ⟨(some 12), .bin .leq (.t 11) (.c (.one (.sc (.int .i64 16)))), (some (some 9, true))⟩,
  ⟨(some 13), .pick (.t 9) (.t 12) (.c (.one (.sc (.bool false)))), none⟩,
  ⟨(some 3), .mv (.t 13), none⟩]
def r32_2 : List SOper := [
  ⟨(some 14), .mv (.t 0), none⟩,
  ⟨(some 15), .len (.t 14), none⟩,
  ⟨(some 16), .mv (.c (.one (.sc (.int .i64 0)))), none⟩]
def r32_3 : List SOper := [
  ⟨(some 17), .bin .lss (.t 16) (.t 15), none⟩]
def r32_4 : List SOper := [
  ⟨(some 18), .mv (.t 16), none⟩,
  ⟨(some 19), .iadrS 5 (.t 14) (.t 16), none⟩,
  ⟨(some 20), .loadA 5 (.t 19), none⟩,
  ⟨(some 5), .alloc [.sc (.int .i64 0), .sc (.int .u8 0), .sc (.int .u8 0), .sc (.int .u8 0), .sc (.int .u8 0)], none⟩,
  ⟨(some 4), .mv (.t 18), none⟩,
  ⟨none, .store 5 (.t 5) (.t 20), none⟩]
def r32_5 : List SOper := [
  ⟨(some 21), .mv (.t 3), none⟩,
  ⟨(some 22), .mv (.t 21), none⟩,
  ⟨(some 23), .fadr 0 (.t 5), (some (some 22, true))⟩,
  ⟨(some 24), .load1 (.t 23), (some (some 22, true))⟩,
  ⟨(some 25), .bin .geq (.t 24) (.c (.one (.sc (.int .i64 0)))), (some (some 22, true))⟩,
  ⟨(some 26), .pick (.t 22) (.t 25) (.c (.one (.sc (.bool false)))), none⟩,
  ⟨(some 27), .mv (.t 26), none⟩,
  ⟨(some 28), .fadr 0 (.t 5), (some (some 27, true))⟩,
  ⟨(some 29), .load1 (.t 28), (some (some 27, true))⟩,
  ⟨(some 30), .bin .leq (.t 29) (.c (.one (.sc (.int .i64 65536)))), (some (some 27, true))⟩,
  ⟨(some 31), .pick (.t 27) (.t 30) (.c (.one (.sc (.bool false)))), none⟩,
  ⟨(some 32), .mv (.t 31), none⟩,
  ⟨(some 33), .fadr 1 (.t 5), (some (some 32, true))⟩,
  ⟨(some 34), .loadA 4 (.t 33), (some (some 32, true))⟩,
  ⟨(some 35), .call (.z 0) 19 [(.t 34)], (some (some 32, true))⟩,
  ⟨(some 36), .pick (.t 32) (.t 35) (.c (.one (.sc (.bool false)))), none⟩,
  ⟨(some 37), .mv (.t 36), none⟩,
  ⟨(some 38), .mv (.t 4), (some (some 37, true))⟩,
  ⟨(some 39), .bin .eql (.t 38) (.c (.one (.sc (.int .i64 0)))), (some (some 37, true))⟩,
  ⟨(some 40), .mv (.t 39), (some (some 37, true))⟩,
  ⟨(some 41), .mv (.t 0), (some (some 40, false))⟩,
  ⟨(some 42), .mv (.t 4), (some (some 40, false))⟩,
  ⟨(some 43), .bin .sub (.t 42) (.c (.one (.sc (.int .i64 1)))), (some (some 40, false))⟩,
  ⟨(some 44), .iadrS 5 (.t 41) (.t 43), (some (some 40, false))⟩,
  ⟨(some 45), .fadr 0 (.t 44), (some (some 40, false))⟩,
  ⟨(some 46), .load1 (.t 45), (some (some 40, false))⟩,
  ⟨(some 47), .fadr 0 (.t 5), (some (some 40, false))⟩,
  ⟨(some 48), .load1 (.t 47), (some (some 40, false))⟩,
  ⟨(some 49), .bin .leq (.t 46) (.t 48), (some (some 40, false))⟩,
  ⟨(some 50), .pick (.t 40) (.c (.one (.sc (.bool true)))) (.t 49), (some (some 37, true))⟩,
  ⟨(some 51), .pick (.t 37) (.t 50) (.c (.one (.sc (.bool false)))), none⟩,
  ⟨(some 3), .mv (.t 51), none⟩]
def r32_6 : List SOper := [
  ⟨(some 52), .bin .add (.t 16) (.c (.one (.sc (.int .i64 1)))), none⟩,
  ⟨(some 16), .mv (.t 52), none⟩]
def l32_0 : SC := (.seq (.reg r32_3) (.seq (.cond (.t 17) .skip (.exit 0)) (.seq (.block 1 (.seq (.reg r32_4) (.reg r32_5))) (.reg r32_6))))
def r32_7 : List SOper := [
  ⟨(some 53), .mv (.t 3), none⟩,
  ⟨(some 54), .un .not (.t 53), none⟩]
def r32_8 : List SOper := [
  ⟨(some 2), .mv (.c (.one (.sc (.int .i64 30)))), none⟩]
def r32_9 : List SOper := [
  ⟨(some 2), .mv (.c (.one (.sc (.int .i64 0)))), none⟩]
def c32 : SC := (.seq (.reg r32_0) (.seq (.reg r32_1) (.seq (.seq (.reg r32_2) (.block 0 (.loop l32_0))) (.seq (.seq (.reg r32_7) (.cond (.t 54) (.seq (.reg r32_8) .ret) .skip)) (.seq (.reg r32_9) .ret)))))
/-- limner/paint.CheckStops -/
def F32 : SFun := ⟨55, c32, [.tmp 2]⟩

def r33_0 : List SOper := [
  ⟨(some 4), .mv (.c (.one (.sc (.bool false)))), none⟩]
def r33_1 : List SOper := [
  ⟨(some 6), .mv (.t 0), none⟩,
  ⟨(some 7), .len (.t 6), none⟩,
  ⟨(some 8), .mv (.t 1), none⟩,
  ⟨(some 9), .len (.t 8), none⟩,
  ⟨(some 10), .bin .neq (.t 7) (.t 9), none⟩]
def r33_2 : List SOper := [
  ⟨(some 4), .mv (.c (.one (.sc (.bool false)))), none⟩]
def r33_3 : List SOper := [
  ⟨(some 11), .mv (.t 0), none⟩,
  ⟨(some 12), .len (.t 11), none⟩,
  ⟨(some 13), .mv (.c (.one (.sc (.int .i64 0)))), none⟩]
def r33_4 : List SOper := [
  ⟨(some 14), .bin .lss (.t 13) (.t 12), none⟩]
def r33_5 : List SOper := [
  ⟨(some 15), .mv (.t 13), none⟩,
  ⟨(some 5), .mv (.t 15), none⟩]
def r33_6 : List SOper := [
  ⟨(some 16), .mv (.t 0), none⟩,
  ⟨(some 17), .mv (.t 5), none⟩,
  ⟨(some 18), .iadrS 5 (.t 16) (.t 17), none⟩,
  ⟨(some 19), .loadA 5 (.t 18), none⟩,
  ⟨(some 20), .mv (.t 1), none⟩,
  ⟨(some 21), .mv (.t 5), none⟩,
  ⟨(some 22), .iadrS 5 (.t 20) (.t 21), none⟩,
  ⟨(some 23), .loadA 5 (.t 22), none⟩,
  ⟨(some 24), .eqv [.i, .i, .i, .i, .i] true (.t 19) (.t 23), none⟩]
def r33_7 : List SOper := [
  ⟨(some 4), .mv (.c (.one (.sc (.bool false)))), none⟩]
def r33_8 : List SOper := [
  ⟨(some 25), .bin .add (.t 13) (.c (.one (.sc (.int .i64 1)))), none⟩,
  ⟨(some 13), .mv (.t 25), none⟩]
def l33_0 : SC := (.seq (.reg r33_4) (.seq (.cond (.t 14) .skip (.exit 0)) (.seq (.block 1 (.seq (.reg r33_5) (.seq (.reg r33_6) (.cond (.t 24) (.seq (.reg r33_7) .ret) .skip)))) (.reg r33_8))))
def r33_9 : List SOper := [
  ⟨(some 4), .mv (.c (.one (.sc (.bool true)))), none⟩]
def c33 : SC := (.seq (.reg r33_0) (.seq (.seq (.reg r33_1) (.cond (.t 10) (.seq (.reg r33_2) .ret) .skip)) (.seq (.seq (.reg r33_3) (.block 0 (.loop l33_0))) (.seq (.reg r33_9) .ret))))
/-- slices.Equal[[]limner/paint.Stop,limner/paint.Stop] -/
def F33 : SFun := ⟨26, c33, [.tmp 4]⟩

def r34_0 : List SOper := [
  ⟨(some 3), .box (.t 0), none⟩,
  ⟨(some 4), .box (.t 1), none⟩,
  ⟨(some 6), .alloc [.sc (.int .i64 0), .sc (.int .i64 0), .sc (.int .i64 0), .sc (.int .i64 0)], none⟩]
def r34_1 : List SOper := [
  ⟨(some 7), .mv (.c (.one (.sc (.int .i64 0)))), none⟩]
def r34_2 : List SOper := [
  ⟨(some 8), .mv (.t 7), none⟩,
  ⟨(some 9), .bin .lss (.t 8) (.c (.one (.sc (.int .i64 4)))), none⟩]
def r34_4 : List SOper := [
  ⟨(some 12), .mv (.t 7), none⟩,
  ⟨(some 13), .mv (.t 7), none⟩,
  ⟨(some 14), .iadrA 4 1 (.t 3) (.t 13), none⟩,
  ⟨(some 15), .load1 (.t 14), none⟩,
  ⟨(some 16), .mv (.t 2), none⟩,
  ⟨(some 17), .bin .sub (.c (.one (.sc (.int .i64 65536)))) (.t 16), none⟩,
  ⟨(some 18), .bin .mul (.t 15) (.t 17), none⟩,
  ⟨(some 19), .mv (.t 7), none⟩,
  ⟨(some 20), .iadrA 4 1 (.t 4) (.t 19), none⟩,
  ⟨(some 21), .load1 (.t 20), none⟩,
  ⟨(some 22), .mv (.t 2), none⟩,
  ⟨(some 23), .bin .mul (.t 21) (.t 22), none⟩,
  ⟨(some 24), .bin .add (.t 18) (.t 23), none⟩,
  ⟨(some 25), .call (.z 0) 45 [(.t 24), (.c (.one (.sc (.int .i64 65536))))], none⟩,
  ⟨(some 26), .iadrA 4 1 (.t 3) (.t 12), none⟩,
  ⟨none, .store 1 (.t 26) (.t 25), none⟩]
def r34_3 : List SOper := [
  ⟨(some 10), .mv (.t 7), none⟩,
  ⟨(some 11), .bin .add (.t 10) (.c (.one (.sc (.int .i64 1)))), none⟩,
  ⟨(some 7), .mv (.t 11), none⟩]
def l34_0 : SC := (.seq (.seq (.reg r34_2) (.cond (.t 9) .skip (.exit 0))) (.seq (.block 1 (.reg r34_4)) (.reg r34_3)))
def r34_5 : List SOper := [
  ⟨(some 27), .loadA 4 (.t 3), none⟩,
  ⟨none, .store 4 (.t 6) (.t 27), none⟩]
def c34 : SC := (.seq (.reg r34_0) (.seq (.seq (.reg r34_1) (.block 0 (.loop l34_0))) (.seq (.reg r34_5) .ret)))
/-- limner/limnerref10.Mix -/
def F34 : SFun := ⟨28, c34, [.cellA 6 4]⟩

def r35_0 : List SOper := [
  ⟨(some 4), .mv (.c (.one (.sc (.int .i64 0)))), none⟩]
def r35_1 : List SOper := [
  ⟨(some 6), .mv (.t 0), none⟩,
  ⟨(some 7), .mv (.t 1), none⟩,
  ⟨(some 8), .bin .quo (.t 6) (.t 7), none⟩,
  ⟨(some 5), .mv (.t 8), none⟩]
def r35_2 : List SOper := [
  ⟨(some 9), .mv (.t 5), none⟩,
  ⟨(some 10), .mv (.t 1), none⟩,
  ⟨(some 11), .bin .mul (.t 9) (.t 10), none⟩,
  ⟨(some 12), .mv (.t 0), none⟩,
  ⟨(some 13), .bin .gtr (.t 11) (.t 12), none⟩]
def r35_3 : List SOper := [
  ⟨(some 14), .mv (.t 5), none⟩,
  ⟨(some 15), .bin .sub (.t 14) (.c (.one (.sc (.int .i64 1)))), none⟩,
  ⟨(some 5), .mv (.t 15), none⟩]
def r35_4 : List SOper := [
  ⟨(some 16), .mv (.t 5), none⟩,
  ⟨(some 4), .mv (.t 16), none⟩]
def c35 : SC := (.seq (.reg r35_0) (.seq (.reg r35_1) (.seq (.seq (.reg r35_2) (.cond (.t 13) (.reg r35_3) .skip)) (.seq (.reg r35_4) .ret))))
/-- limner/limnerref01.Below -/
def F35 : SFun := ⟨17, c35, [.tmp 4]⟩

def r36_0 : List SOper := [
  ⟨(some 2), .mv (.c (.one (.sc (.int .i64 0)))), none⟩]
def r36_1 : List SOper := [
  ⟨(some 3), .mv (.t 0), none⟩,
  ⟨(some 4), .bin .lss (.t 3) (.c (.one (.sc (.int .i64 (-16777216))))), none⟩]
def r36_2 : List SOper := [
  ⟨(some 2), .mv (.c (.one (.sc (.int .i64 (-16777216))))), none⟩]
def r36_3 : List SOper := [
  ⟨(some 5), .mv (.t 0), none⟩,
  ⟨(some 6), .bin .gtr (.t 5) (.c (.one (.sc (.int .i64 16777216)))), none⟩]
def r36_4 : List SOper := [
  ⟨(some 2), .mv (.c (.one (.sc (.int .i64 16777216)))), none⟩]
def r36_5 : List SOper := [
  ⟨(some 7), .mv (.t 0), none⟩,
  ⟨(some 2), .mv (.t 7), none⟩]
def c36 : SC := (.seq (.reg r36_0) (.seq (.seq (.reg r36_1) (.cond (.t 4) (.seq (.reg r36_2) .ret) .skip)) (.seq (.seq (.reg r36_3) (.cond (.t 6) (.seq (.reg r36_4) .ret) .skip)) (.seq (.reg r36_5) .ret))))
/-- limner/limnerref16.clip -/
def F36 : SFun := ⟨8, c36, [.tmp 2]⟩

def r37_0 : List SOper := [
  ⟨(some 2), .box (.t 0), none⟩,
  ⟨(some 3), .box (.t 1), none⟩,
  ⟨(some 4), .mv (.c (.one (.sc (.int .i64 0)))), none⟩]
def r37_1 : List SOper := [
  ⟨(some 7), .fadr 0 (.t 3), none⟩,
  ⟨(some 8), .load1 (.t 7), none⟩,
  ⟨(some 9), .fadr 0 (.t 2), none⟩,
  ⟨(some 10), .load1 (.t 9), none⟩,
  ⟨(some 11), .bin .sub (.t 8) (.t 10), none⟩,
  ⟨(some 12), .fadr 1 (.t 3), none⟩,
  ⟨(some 13), .load1 (.t 12), none⟩,
  ⟨(some 14), .fadr 1 (.t 2), none⟩,
  ⟨(some 15), .load1 (.t 14), none⟩,
  ⟨(some 16), .bin .sub (.t 13) (.t 15), none⟩,
  ⟨(some 5), .mv (.t 11), none⟩,
  ⟨(some 6), .mv (.t 16), none⟩]
def r37_2 : List SOper := [
  ⟨(some 17), .mv (.t 5), none⟩,
  ⟨(some 18), .mv (.t 5), none⟩,
  ⟨(some 19), .bin .mul (.t 17) (.t 18), none⟩,
  ⟨(some 20), .mv (.t 6), none⟩,
  ⟨(some 21), .mv (.t 6), none⟩,
  ⟨(some 22), .bin .mul (.t 20) (.t 21), none⟩,
  ⟨(some 23), .bin .add (.t 19) (.t 22), none⟩,
  ⟨(some 24), .call (.z 0) 46 [(.t 23)], none⟩,
  ⟨(some 4), .mv (.t 24), none⟩]
def c37 : SC := (.seq (.reg r37_0) (.seq (.reg r37_1) (.seq (.reg r37_2) .ret)))
/-- limner/limnerref09.Length -/
def F37 : SFun := ⟨25, c37, [.tmp 4]⟩

def r38_0 : List SOper := [
  ⟨(some 4), .mv (.c (.one (.sc (.bool false)))), none⟩]
def r38_1 : List SOper := [
  ⟨(some 6), .mv (.t 0), none⟩,
  ⟨(some 7), .len (.t 6), none⟩,
  ⟨(some 8), .mv (.t 1), none⟩,
  ⟨(some 9), .len (.t 8), none⟩,
  ⟨(some 10), .bin .neq (.t 7) (.t 9), none⟩]
def r38_2 : List SOper := [
  ⟨(some 4), .mv (.c (.one (.sc (.bool false)))), none⟩]
def r38_3 : List SOper := [
  ⟨(some 11), .mv (.t 0), none⟩,
  ⟨(some 12), .len (.t 11), none⟩,
  ⟨(some 13), .mv (.c (.one (.sc (.int .i64 0)))), none⟩]
def r38_4 : List SOper := [
  ⟨(some 14), .bin .lss (.t 13) (.t 12), none⟩]
def r38_5 : List SOper := [
  ⟨(some 15), .mv (.t 13), none⟩,
  ⟨(some 5), .mv (.t 15), none⟩]
def r38_6 : List SOper := [
  ⟨(some 16), .mv (.t 0), none⟩,
  ⟨(some 17), .mv (.t 5), none⟩,
  ⟨(some 18), .iadrS 1 (.t 16) (.t 17), none⟩,
  ⟨(some 19), .load1 (.t 18), none⟩,
  ⟨(some 20), .mv (.t 1), none⟩,
  ⟨(some 21), .mv (.t 5), none⟩,
  ⟨(some 22), .iadrS 1 (.t 20) (.t 21), none⟩,
  ⟨(some 23), .load1 (.t 22), none⟩,
  ⟨(some 24), .bin .neq (.t 19) (.t 23), none⟩]
def r38_7 : List SOper := [
  ⟨(some 4), .mv (.c (.one (.sc (.bool false)))), none⟩]
def r38_8 : List SOper := [
  ⟨(some 25), .bin .add (.t 13) (.c (.one (.sc (.int .i64 1)))), none⟩,
  ⟨(some 13), .mv (.t 25), none⟩]
def l38_0 : SC := (.seq (.reg r38_4) (.seq (.cond (.t 14) .skip (.exit 0)) (.seq (.block 1 (.seq (.reg r38_5) (.seq (.reg r38_6) (.cond (.t 24) (.seq (.reg r38_7) .ret) .skip)))) (.reg r38_8))))
def r38_9 : List SOper := [
  ⟨(some 4), .mv (.c (.one (.sc (.bool true)))), none⟩]
def c38 : SC := (.seq (.reg r38_0) (.seq (.seq (.reg r38_1) (.cond (.t 10) (.seq (.reg r38_2) .ret) .skip)) (.seq (.seq (.reg r38_3) (.block 0 (.loop l38_0))) (.seq (.reg r38_9) .ret))))
/-- slices.Equal[[]int,int] -/
def F38 : SFun := ⟨26, c38, [.tmp 4]⟩

def r39_0 : List SOper := [
  ⟨(some 1), .box (.t 0), none⟩,
  ⟨(some 2), .mv (.c (.one (.sc (.int .i64 0)))), none⟩]
def r39_1 : List SOper := [
  ⟨(some 5), .fadr 0 (.t 1), none⟩,
  ⟨(some 6), .load1 (.t 5), none⟩,
  ⟨(some 7), .len (.t 6), none⟩,
  ⟨(some 8), .bin .eql (.t 7) (.c (.one (.sc (.int .i64 0)))), none⟩,
  ⟨(some 9), .mv (.t 8), none⟩,
  ⟨(some 10), .fadr 1 (.t 1), (some (some 9, true))⟩,
  ⟨(some 11), .load1 (.t 10), (some (some 9, true))⟩,
  ⟨(some 12), .bin .eql (.t 11) (.c (.one (.sc (.int .i64 0)))), (some (some 9, true))⟩,
  ⟨(some 13), .pick (.t 9) (.t 12) (.c (.one (.sc (.bool false)))), none⟩]
def r39_2 : List SOper := [
  ⟨(some 2), .mv (.c (.one (.sc (.int .i64 0)))), none⟩]
def r39_3 : List SOper := [
  ⟨(some 14), .fadr 0 (.t 1), none⟩,
  ⟨(some 15), .load1 (.t 14), none⟩,
  ⟨(some 16), .len (.t 15), none⟩,
  ⟨(some 17), .bin .eql (.t 16) (.c (.one (.sc (.int .i64 0)))), none⟩,
  ⟨(some 18), .mv (.t 17), none⟩,
  ⟨(some 19), .fadr 0 (.t 1), (some (some 18, false))⟩,
  ⟨(some 20), .load1 (.t 19), (some (some 18, false))⟩,
  ⟨(some 21), .len (.t 20), (some (some 18, false))⟩,
  ⟨(some 22), .bin .gtr (.t 21) (.c (.one (.sc (.int .i64 8)))), (some (some 18, false))⟩,
  ⟨(some 23), .pick (.t 18) (.c (.one (.sc (.bool true)))) (.t 22), none⟩,
  ⟨(some 24), .mv (.t 23), none⟩,
  ⟨(some 25), .fadr 0 (.t 1), (some (some 24, false))⟩,
  ⟨(some 26), .load1 (.t 25), (some (some 24, false))⟩,
  ⟨(some 27), .len (.t 26), (some (some 24, false))⟩,
  ⟨(some 28), .bin .rem (.t 27) (.c (.one (.sc (.int .i64 2)))), (some (some 24, false))⟩,
  ⟨(some 29), .bin .neq (.t 28) (.c (.one (.sc (.int .i64 0)))), (some (some 24, false))⟩,
  ⟨(some 30), .pick (.t 24) (.c (.one (.sc (.bool true)))) (.t 29), none⟩]
def r39_4 : List SOper := [
  ⟨(some 2), .mv (.c (.one (.sc (.int .i64 30)))), none⟩]
def r39_5 : List SOper := [
  ⟨(some 31), .fadr 0 (.t 1), none⟩,
  ⟨(some 32), .load1 (.t 31), none⟩,
  ⟨(some 33), .len (.t 32), none⟩,
  ⟨(some 34), .mv (.c (.one (.sc (.int .i64 0)))), none⟩]
def r39_6 : List SOper := [
  ⟨(some 35), .bin .lss (.t 34) (.t 33), none⟩]
def r39_7 : List SOper := [
  ⟨(some 36), .iadrS 1 (.t 32) (.t 34), none⟩,
  ⟨(some 37), .load1 (.t 36), none⟩,
  ⟨(some 4), .mv (.t 37), none⟩]
def r39_8 : List SOper := [
  ⟨(some 38), .mv (.t 4), none⟩,
  ⟨(some 39), .bin .lss (.t 38) (.c (.one (.sc (.int .i64 1)))), none⟩,
  ⟨(some 40), .mv (.t 39), none⟩,
  ⟨(some 41), .mv (.t 4), (some (some 40, false))⟩,
  ⟨(some 42), .bin .gtr (.t 41) (.c (.one (.sc (.int .i64 1048576)))), (some (some 40, false))⟩,
  ⟨(some 43), .pick (.t 40) (.c (.one (.sc (.bool true)))) (.t 42), none⟩]
def r39_9 : List SOper := [
  ⟨(some 2), .mv (.c (.one (.sc (.int .i64 30)))), none⟩]
def r39_10 : List SOper := [
  ⟨(some 44), .bin .add (.t 34) (.c (.one (.sc (.int .i64 1)))), none⟩,
  ⟨(some 34), .mv (.t 44), none⟩]
def l39_0 : SC := (.seq (.reg r39_6) (.seq (.cond (.t 35) .skip (.exit 0)) (.seq (.block 1 (.seq (.reg r39_7) (.seq (.reg r39_8) (.cond (.t 43) (.seq (.reg r39_9) .ret) .skip)))) (.reg r39_10))))
def r39_11 : List SOper := [
  ⟨(some 45), .fadr 1 (.t 1), none⟩,
  ⟨(some 46), .load1 (.t 45), none⟩,
  ⟨(some 47), .bin .lss (.t 46) (.c (.one (.sc (.int .i64 0)))), none⟩,
  ⟨(some 48), .mv (.t 47), none⟩,
  ⟨(some 49), .fadr 1 (.t 1), (some (some 48, false))⟩,
  ⟨(some 50), .load1 (.t 49), (some (some 48, false))⟩,
  ⟨(some 51), .loadA 2 (.t 1), (some (some 48, false))⟩,
  ⟨(some 52), .call .q 47 [(.t 51)], (some (some 48, false))⟩,
  ⟨(some 53), .bin .geq (.t 50) (.t 52), (some (some 48, false))⟩,
  ⟨(some 54), .pick (.t 48) (.c (.one (.sc (.bool true)))) (.t 53), none⟩]
def r39_12 : List SOper := [
  ⟨(some 2), .mv (.c (.one (.sc (.int .i64 30)))), none⟩]
def r39_13 : List SOper := [
  ⟨(some 2), .mv (.c (.one (.sc (.int .i64 0)))), none⟩]
def c39 : SC := (.seq (.reg r39_0) (.seq (.seq (.reg r39_1) (.cond (.t 13) (.seq (.reg r39_2) .ret) .skip)) (.seq (.seq (.reg r39_3) (.cond (.t 30) (.seq (.reg r39_4) .ret) .skip)) (.seq (.seq (.reg r39_5) (.block 0 (.loop l39_0))) (.seq (.seq (.reg r39_11) (.cond (.t 54) (.seq (.reg r39_12) .ret) .skip)) (.seq (.reg r39_13) .ret))))))
/-- (limner/dash.Pattern).Check -/
def F39 : SFun := ⟨55, c39, [.tmp 2]⟩

def r40_0 : List SOper := [
  ⟨(some 4), .mv (.c (.one (.sc (.int .i64 0)))), none⟩]
def r40_1 : List SOper := [
  ⟨(some 6), .mv (.t 0), none⟩,
  ⟨(some 7), .len (.t 6), none⟩,
  ⟨(some 8), .mv (.c (.one (.sc (.int .i64 0)))), none⟩]
def r40_2 : List SOper := [
  ⟨(some 9), .bin .lss (.t 8) (.t 7), none⟩]
def r40_3 : List SOper := [
  ⟨(some 10), .mv (.t 8), none⟩,
  ⟨(some 5), .mv (.t 10), none⟩]
def r40_4 : List SOper := [
  ⟨(some 11), .mv (.t 1), none⟩,
  ⟨(some 12), .mv (.t 0), none⟩,
  ⟨(some 13), .mv (.t 5), none⟩,
  ⟨(some 14), .iadrS 5 (.t 12) (.t 13), none⟩,
  ⟨(some 15), .loadA 5 (.t 14), none⟩,
  ⟨(some 16), .callv .q (.t 11) [(.t 15)], none⟩]
def r40_5 : List SOper := [
  ⟨(some 17), .mv (.t 5), none⟩,
  ⟨(some 4), .mv (.t 17), none⟩]
def r40_6 : List SOper := [
  ⟨(some 18), .bin .add (.t 8) (.c (.one (.sc (.int .i64 1)))), none⟩,
  ⟨(some 8), .mv (.t 18), none⟩]
def l40_0 : SC := (.seq (.reg r40_2) (.seq (.cond (.t 9) .skip (.exit 0)) (.seq (.block 1 (.seq (.reg r40_3) (.seq (.reg r40_4) (.cond (.t 16) (.seq (.reg r40_5) .ret) .skip)))) (.reg r40_6))))
def r40_7 : List SOper := [
  ⟨(some 4), .mv (.c (.one (.sc (.int .i64 (-1))))), none⟩]
def c40 : SC := (.seq (.reg r40_0) (.seq (.seq (.reg r40_1) (.block 0 (.loop l40_0))) (.seq (.reg r40_7) .ret)))
/-- slices.IndexFunc[[]limner/paint.Stop,limner/paint.Stop] -/
def F40 : SFun := ⟨19, c40, [.tmp 4]⟩

def r41_0 : List SOper := [
  ⟨(some 2), .box (.t 0), none⟩,
  ⟨(some 3), .mv (.c (.one (.sc (.bool false)))), none⟩]
def r41_1 : List SOper := [
  ⟨(some 4), .fadr 0 (.t 2), none⟩,
  ⟨(some 5), .load1 (.t 4), none⟩,
  ⟨(some 6), .load1 (.t 1), none⟩,
  ⟨(some 7), .bin .gtr (.t 5) (.t 6), none⟩,
  ⟨(some 3), .mv (.t 7), none⟩]
def c41 : SC := (.seq (.reg r41_0) (.seq (.reg r41_1) .ret))
/-- limner/paint.Shade$1 -/
def F41 : SFun := ⟨8, c41, [.tmp 3]⟩

def r42_0 : List SOper := [
  ⟨(some 3), .box (.t 0), none⟩,
  ⟨(some 4), .box (.t 1), none⟩,
  ⟨(some 6), .alloc [.sc (.int .u8 0), .sc (.int .u8 0), .sc (.int .u8 0), .sc (.int .u8 0)], none⟩]
def r42_1 : List SOper := [
  ⟨(some 9), .mv (.t 2), none⟩,
  ⟨(some 10), .mx [(.t 9), (.c (.one (.sc (.int .i64 0))))], none⟩,
  ⟨(some 11), .mn [(.t 10), (.c (.one (.sc (.int .i64 65536))))], none⟩,
  ⟨(some 2), .mv (.t 11), none⟩]
def r42_2 : List SOper := [
  ⟨(some 7), .alloc [.sc (.int .u8 0), .sc (.int .u8 0), .sc (.int .u8 0), .sc (.int .u8 0)], none⟩]
def r42_3 : List SOper := [
  ⟨(some 12), .mv (.c (.one (.sc (.int .i64 0)))), none⟩]
def r42_4 : List SOper := [
  ⟨(some 13), .bin .lss (.t 12) (.c (.one (.sc (.int .i64 4)))), none⟩]
def r42_5 : List SOper := [
  ⟨(some 14), .mv (.t 12), none⟩,
  ⟨(some 8), .mv (.t 14), none⟩]
def r42_6 : List SOper := [
  ⟨(some 15), .mv (.t 8), none⟩,
  ⟨(some 16), .mv (.t 8), none⟩,
  ⟨(some 17), .iadrA 4 1 (.t 3) (.t 16), none⟩,
  ⟨(some 18), .load1 (.t 17), none⟩,
  ⟨(some 19), .conv .i64 (.t 18), none⟩,
  ⟨(some 20), .mv (.t 2), none⟩,
  ⟨(some 21), .bin .sub (.c (.one (.sc (.int .i64 65536)))) (.t 20), none⟩,
  ⟨(some 22), .bin .mul (.t 19) (.t 21), none⟩,
  ⟨(some 23), .mv (.t 8), none⟩,
  ⟨(some 24), .iadrA 4 1 (.t 4) (.t 23), none⟩,
  ⟨(some 25), .load1 (.t 24), none⟩,
  ⟨(some 26), .conv .i64 (.t 25), none⟩,
  ⟨(some 27), .mv (.t 2), none⟩,
  ⟨(some 28), .bin .mul (.t 26) (.t 27), none⟩,
  ⟨(some 29), .bin .add (.t 22) (.t 28), none⟩,
  ⟨(some 30), .bin .add (.t 29) (.c (.one (.sc (.int .i64 32768)))), none⟩,
  ⟨(some 31), .bin .quo (.t 30) (.c (.one (.sc (.int .i64 65536)))), none⟩,
  ⟨(some 32), .conv .u8 (.t 31), none⟩,
  ⟨(some 33), .iadrA 4 1 (.t 7) (.t 15), none⟩,
  ⟨none, .store 1 (.t 33) (.t 32), none⟩]
def r42_7 : List SOper := [
  ⟨(some 34), .bin .add (.t 12) (.c (.one (.sc (.int .i64 1)))), none⟩,
  ⟨(some 12), .mv (.t 34), none⟩]
def l42_0 : SC := (.seq (.reg r42_4) (.seq (.cond (.t 13) .skip (.exit 0)) (.seq (.block 1 (.seq (.reg r42_5) (.reg r42_6))) (.reg r42_7))))
def r42_8 : List SOper := [
  ⟨(some 35), .loadA 4 (.t 7), none⟩,
  ⟨none, .store 4 (.t 6) (.t 35), none⟩]
def c42 : SC := (.seq (.reg r42_0) (.seq (.reg r42_1) (.seq (.reg r42_2) (.seq (.seq (.reg r42_3) (.block 0 (.loop l42_0))) (.seq (.reg r42_8) .ret)))))
/-- limner/paint.Mix -/
def F42 : SFun := ⟨36, c42, [.cellA 6 4]⟩

def r43_0 : List SOper := [
  ⟨(some 6), .mv (.c (.one (.sc (.int .i64 0)))), none⟩,
  ⟨(some 7), .mv (.c (.one (.sc (.bool false)))), none⟩,
  ⟨(some 8), .mv (.c (.one (.sc (.int .i64 0)))), none⟩]
def r43_1 : List SOper := [
  ⟨(some 15), .mv (.t 2), none⟩,
  ⟨(some 16), .bin .eql (.t 15) (.c (.one (.sc (.int .i64 0)))), none⟩]
def r43_2 : List SOper := [
  ⟨(some 6), .mv (.c (.one (.sc (.int .i64 0)))), none⟩,
  ⟨(some 7), .mv (.c (.one (.sc (.bool false)))), none⟩,
  ⟨(some 8), .mv (.c (.one (.sc (.int .i64 11)))), none⟩]
def r43_3 : List SOper := [
  ⟨(some 18), .mv (.t 0), none⟩,
  ⟨(some 19), .call (.z 0) 49 [(.t 18)], none⟩,
  ⟨(some 20), .mv (.t 1), none⟩,
  ⟨(some 21), .call (.z 0) 49 [(.t 20)], none⟩,
  ⟨(some 22), .call (.z 0) 48 [(.t 19), (.t 21)], none⟩,
  ⟨(some 17), .mv (.t 22), none⟩,
  ⟨(some 23), .ext (.t 17) 0, none⟩,
  ⟨(some 24), .ext (.t 17) 1, none⟩,
  ⟨(some 9), .mv (.t 23), none⟩,
  ⟨(some 10), .mv (.t 24), none⟩]
def r43_4 : List SOper := [
  ⟨(some 25), .mv (.t 9), none⟩,
  ⟨(some 26), .mv (.t 2), none⟩,
  ⟨(some 27), .call (.z 0) 49 [(.t 26)], none⟩,
  ⟨(some 28), .bin .geq (.t 25) (.t 27), none⟩]
def r43_5 : List SOper := [
  ⟨(some 6), .mv (.c (.one (.sc (.int .i64 0)))), none⟩,
  ⟨(some 7), .mv (.c (.one (.sc (.bool false)))), none⟩,
  ⟨(some 8), .mv (.c (.one (.sc (.int .i64 10)))), none⟩]
def r43_6 : List SOper := [
  ⟨(some 30), .mv (.t 9), none⟩,
  ⟨(some 31), .mv (.t 10), none⟩,
  ⟨(some 32), .mv (.t 2), none⟩,
  ⟨(some 33), .call (.z 0) 49 [(.t 32)], none⟩,
  ⟨(some 34), .call (.z 0) 50 [(.t 30), (.t 31), (.t 33)], none⟩,
  ⟨(some 29), .mv (.t 34), none⟩,
  ⟨(some 35), .ext (.t 29) 0, none⟩,
  ⟨(some 36), .ext (.t 29) 1, none⟩,
  ⟨(some 11), .mv (.t 35), none⟩,
  ⟨(some 12), .mv (.t 36), none⟩]
def r43_7 : List SOper := [
  ⟨(some 37), .mv (.t 11), none⟩,
  ⟨(some 38), .build [.sc (.int .i64 0), .sc (.int .u64 0)] [(1, 1, (.t 37))], none⟩,
  ⟨(some 13), .alloc [.sc (.int .i64 0), .sc (.int .u64 0)], none⟩,
  ⟨none, .store 2 (.t 13) (.t 38), none⟩]
def r43_8 : List SOper := [
  ⟨(some 39), .mv (.t 0), none⟩,
  ⟨(some 40), .bin .lss (.t 39) (.c (.one (.sc (.int .i64 0)))), none⟩,
  ⟨(some 41), .mv (.t 1), none⟩,
  ⟨(some 42), .bin .lss (.t 41) (.c (.one (.sc (.int .i64 0)))), none⟩,
  ⟨(some 43), .beq true (.t 40) (.t 42), none⟩,
  ⟨(some 44), .mv (.t 2), none⟩,
  ⟨(some 45), .bin .lss (.t 44) (.c (.one (.sc (.int .i64 0)))), none⟩,
  ⟨(some 46), .beq true (.t 43) (.t 45), none⟩]
def r43_9 : List SOper := [
  ⟨(some 47), .mv (.t 12), none⟩,
  ⟨(some 48), .bin .gtr (.t 47) (.c (.one (.sc (.int .u64 0)))), none⟩]
def r43_10 : List SOper := [
  ⟨(some 49), .loadA 2 (.t 13), none⟩,
  ⟨(some 50), .call (.z 0) 52 [(.c (.one (.sc (.int .i64 1))))], none⟩,
  ⟨(some 51), .call (.z 0) 51 [(.t 49), (.t 50)], none⟩,
  ⟨none, .store 2 (.t 13) (.t 51), none⟩]
def r43_11 : List SOper := [
  ⟨(some 52), .loadA 2 (.t 13), none⟩,
  ⟨(some 53), .call (.z 0) 53 [(.t 52)], none⟩,
  ⟨none, .store 2 (.t 13) (.t 53), none⟩]
def r43_12 : List SOper := [
  ⟨(some 55), .loadA 2 (.t 13), none⟩,
  ⟨(some 56), .call (.z 0) 54 [(.t 55)], none⟩,
  ⟨(some 54), .mv (.t 56), none⟩,
  ⟨(some 57), .ext (.t 54) 0, none⟩,
  ⟨(some 58), .ext (.t 54) 1, none⟩,
  ⟨(some 6), .mv (.t 57), none⟩,
  ⟨(some 14), .mv (.t 58), none⟩]
def r43_13 : List SOper := [
  ⟨(some 59), .mv (.t 14), none⟩,
  ⟨(some 60), .un .not (.t 59), none⟩]
def r43_14 : List SOper := [
  ⟨(some 6), .mv (.c (.one (.sc (.int .i64 0)))), none⟩,
  ⟨(some 7), .mv (.c (.one (.sc (.bool false)))), none⟩,
  ⟨(some 8), .mv (.c (.one (.sc (.int .i64 10)))), none⟩]
def r43_15 : List SOper := [
  ⟨(some 61), .mv (.t 6), none⟩,
  ⟨(some 62), .mv (.t 12), none⟩,
  ⟨(some 63), .bin .eql (.t 62) (.c (.one (.sc (.int .u64 0)))), none⟩,
  ⟨(some 6), .mv (.t 61), none⟩,
  ⟨(some 7), .mv (.t 63), none⟩,
  ⟨(some 8), .mv (.c (.one (.sc (.int .i64 0)))), none⟩]
def c43 : SC := (.seq (.reg r43_0) (.seq (.seq (.reg r43_1) (.cond (.t 16) (.seq (.reg r43_2) .ret) .skip)) (.seq (.reg r43_3) (.seq (.seq (.reg r43_4) (.cond (.t 28) (.seq (.reg r43_5) .ret) .skip)) (.seq (.reg r43_6) (.seq (.reg r43_7) (.seq (.seq (.reg r43_8) (.cond (.t 46) (.seq (.seq (.reg r43_9) (.cond (.t 48) (.reg r43_10) .skip)) (.reg r43_11)) .skip)) (.seq (.reg r43_12) (.seq (.seq (.reg r43_13) (.cond (.t 60) (.seq (.reg r43_14) .ret) .skip)) (.seq (.reg r43_15) .ret))))))))))
/-- limner/wide.MulDiv -/
def F43 : SFun := ⟨64, c43, [.tmp 6, .tmp 7, .tmp 8]⟩

def r44_0 : List SOper := [
  ⟨(some 2), .box (.t 0), none⟩,
  ⟨(some 3), .box (.t 1), none⟩,
  ⟨(some 4), .mv (.c (.one (.sc (.int .i64 0)))), none⟩,
  ⟨(some 5), .mv (.c (.one (.sc (.int .i64 0)))), none⟩]
def r44_1 : List SOper := [
  ⟨(some 8), .loadA 2 (.t 2), none⟩,
  ⟨(some 9), .call (.z 0) 55 [(.t 8)], none⟩,
  ⟨(some 10), .un .not (.t 9), none⟩,
  ⟨(some 11), .mv (.t 10), none⟩,
  ⟨(some 12), .loadA 2 (.t 3), (some (some 11, false))⟩,
  ⟨(some 13), .call (.z 0) 55 [(.t 12)], (some (some 11, false))⟩,
  ⟨(some 14), .un .not (.t 13), (some (some 11, false))⟩,
  ⟨(some 15), .pick (.t 11) (.c (.one (.sc (.bool true)))) (.t 14), none⟩]
def r44_2 : List SOper := [
  ⟨(some 4), .mv (.c (.one (.sc (.int .i64 0)))), none⟩,
  ⟨(some 5), .mv (.c (.one (.sc (.int .i64 30)))), none⟩]
def r44_3 : List SOper := [
  ⟨(some 16), .fadr 0 (.t 3), none⟩,
  ⟨(some 17), .load1 (.t 16), none⟩,
  ⟨(some 18), .fadr 0 (.t 2), none⟩,
  ⟨(some 19), .load1 (.t 18), none⟩,
  ⟨(some 20), .bin .sub (.t 17) (.t 19), none⟩,
  ⟨(some 21), .fadr 1 (.t 3), none⟩,
  ⟨(some 22), .load1 (.t 21), none⟩,
  ⟨(some 23), .fadr 1 (.t 2), none⟩,
  ⟨(some 24), .load1 (.t 23), none⟩,
  ⟨(some 25), .bin .sub (.t 22) (.t 24), none⟩,
  ⟨(some 6), .mv (.t 20), none⟩,
  ⟨(some 7), .mv (.t 25), none⟩]
def r44_4 : List SOper := [
  ⟨(some 26), .mv (.t 6), none⟩,
  ⟨(some 27), .mv (.t 7), none⟩,
  ⟨(some 28), .mx [(.t 26), (.t 27)], none⟩,
  ⟨(some 29), .bin .gtr (.t 28) (.c (.one (.sc (.int .i64 536870912)))), none⟩,
  ⟨(some 30), .mv (.t 29), none⟩,
  ⟨(some 31), .mv (.t 6), (some (some 30, false))⟩,
  ⟨(some 32), .mv (.t 7), (some (some 30, false))⟩,
  ⟨(some 33), .mn [(.t 31), (.t 32)], (some (some 30, false))⟩,
  ⟨(some 34), .bin .lss (.t 33) (.c (.one (.sc (.int .i64 (-536870912))))), (some (some 30, false))⟩,
  ⟨(some 35), .pick (.t 30) (.c (.one (.sc (.bool true)))) (.t 34), none⟩]
def r44_5 : List SOper := [
  ⟨(some 4), .mv (.c (.one (.sc (.int .i64 0)))), none⟩,
  ⟨(some 5), .mv (.c (.one (.sc (.int .i64 10)))), none⟩]
def r44_6 : List SOper := [
  ⟨(some 36), .mv (.t 6), none⟩,
  ⟨(some 37), .mv (.t 6), none⟩,
  ⟨(some 38), .bin .mul (.t 36) (.t 37), none⟩,
  ⟨(some 39), .mv (.t 7), none⟩,
  ⟨(some 40), .mv (.t 7), none⟩,
  ⟨(some 41), .bin .mul (.t 39) (.t 40), none⟩,
  ⟨(some 42), .bin .add (.t 38) (.t 41), none⟩,
  ⟨(some 43), .call (.z 0) 56 [(.t 42)], none⟩,
  ⟨(some 4), .mv (.t 43), none⟩,
  ⟨(some 5), .mv (.c (.one (.sc (.int .i64 0)))), none⟩]
def c44 : SC := (.seq (.reg r44_0) (.seq (.seq (.reg r44_1) (.cond (.t 15) (.seq (.reg r44_2) .ret) .skip)) (.seq (.reg r44_3) (.seq (.seq (.reg r44_4) (.cond (.t 35) (.seq (.reg r44_5) .ret) .skip)) (.seq (.reg r44_6) .ret)))))
/-- limner/dash.Length -/
def F44 : SFun := ⟨44, c44, [.tmp 4, .tmp 5]⟩

def r45_0 : List SOper := [
  ⟨(some 4), .mv (.c (.one (.sc (.int .i64 0)))), none⟩]
def r45_1 : List SOper := [
  ⟨(some 7), .mv (.t 0), none⟩,
  ⟨(some 8), .mv (.t 1), none⟩,
  ⟨(some 9), .call (.z 0) 35 [(.t 7), (.t 8)], none⟩,
  ⟨(some 5), .mv (.t 9), none⟩]
def r45_2 : List SOper := [
  ⟨(some 10), .mv (.t 0), none⟩,
  ⟨(some 11), .mv (.t 5), none⟩,
  ⟨(some 12), .mv (.t 1), none⟩,
  ⟨(some 13), .bin .mul (.t 11) (.t 12), none⟩,
  ⟨(some 14), .bin .sub (.t 10) (.t 13), none⟩,
  ⟨(some 6), .mv (.t 14), none⟩]
def r45_3 : List SOper := [
  ⟨(some 15), .mv (.t 6), none⟩,
  ⟨(some 16), .mv (.t 1), none⟩,
  ⟨(some 17), .mv (.t 6), none⟩,
  ⟨(some 18), .bin .sub (.t 16) (.t 17), none⟩,
  ⟨(some 19), .bin .geq (.t 15) (.t 18), none⟩]
def r45_4 : List SOper := [
  ⟨(some 20), .mv (.t 5), none⟩,
  ⟨(some 21), .bin .add (.t 20) (.c (.one (.sc (.int .i64 1)))), none⟩,
  ⟨(some 5), .mv (.t 21), none⟩]
def r45_5 : List SOper := [
  ⟨(some 22), .mv (.t 5), none⟩,
  ⟨(some 4), .mv (.t 22), none⟩]
def c45 : SC := (.seq (.reg r45_0) (.seq (.reg r45_1) (.seq (.reg r45_2) (.seq (.seq (.reg r45_3) (.cond (.t 19) (.reg r45_4) .skip)) (.seq (.reg r45_5) .ret)))))
/-- limner/limnerref01.Round -/
def F45 : SFun := ⟨23, c45, [.tmp 4]⟩

def r46_0 : List SOper := [
  ⟨(some 2), .mv (.c (.one (.sc (.int .i64 0)))), none⟩]
def r46_1 : List SOper := [
  ⟨(some 3), .mv (.c (.one (.sc (.int .i64 0)))), none⟩,
  ⟨(some 4), .mv (.c (.one (.sc (.int .i64 1073741825)))), none⟩]
def r46_2 : List SOper := [
  ⟨(some 6), .mv (.t 4), none⟩,
  ⟨(some 7), .mv (.t 3), none⟩,
  ⟨(some 8), .bin .sub (.t 6) (.t 7), none⟩,
  ⟨(some 9), .bin .gtr (.t 8) (.c (.one (.sc (.int .i64 1)))), none⟩]
def r46_3 : List SOper := [
  ⟨(some 10), .mv (.t 3), none⟩,
  ⟨(some 11), .mv (.t 4), none⟩,
  ⟨(some 12), .bin .add (.t 10) (.t 11), none⟩,
  ⟨(some 13), .bin .quo (.t 12) (.c (.one (.sc (.int .i64 2)))), none⟩,
  ⟨(some 5), .mv (.t 13), none⟩]
def r46_4 : List SOper := [
  ⟨(some 14), .mv (.t 5), none⟩,
  ⟨(some 15), .mv (.t 5), none⟩,
  ⟨(some 16), .bin .mul (.t 14) (.t 15), none⟩,
  ⟨(some 17), .mv (.t 0), none⟩,
  ⟨(some 18), .bin .leq (.t 16) (.t 17), none⟩]
def r46_5 : List SOper := [
  ⟨(some 19), .mv (.t 5), none⟩,
  ⟨(some 3), .mv (.t 19), none⟩]
def r46_6 : List SOper := [
  ⟨(some 20), .mv (.t 5), none⟩,
  ⟨(some 4), .mv (.t 20), none⟩]
def l46_0 : SC := (.seq (.seq (.reg r46_2) (.cond (.t 9) .skip (.exit 0))) (.block 1 (.seq (.reg r46_3) (.seq (.reg r46_4) (.cond (.t 18) (.reg r46_5) (.reg r46_6))))))
def r46_7 : List SOper := [
  ⟨(some 21), .mv (.t 3), none⟩,
  ⟨(some 2), .mv (.t 21), none⟩]
def c46 : SC := (.seq (.reg r46_0) (.seq (.reg r46_1) (.seq (.block 0 (.loop l46_0)) (.seq (.reg r46_7) .ret))))
/-- limner/limnerref07.Root -/
def F46 : SFun := ⟨22, c46, [.tmp 2]⟩

def r47_0 : List SOper := [
  ⟨(some 1), .box (.t 0), none⟩,
  ⟨(some 2), .mv (.c (.one (.sc (.int .i64 0)))), none⟩]
def r47_1 : List SOper := [
  ⟨(some 3), .mv (.c (.one (.sc (.int .i64 0)))), none⟩]
def r47_2 : List SOper := [
  ⟨(some 6), .fadr 0 (.t 1), none⟩,
  ⟨(some 7), .load1 (.t 6), none⟩,
  ⟨(some 8), .len (.t 7), none⟩,
  ⟨(some 9), .mv (.c (.one (.sc (.int .i64 0)))), none⟩]
def r47_3 : List SOper := [
  ⟨(some 10), .bin .lss (.t 9) (.t 8), none⟩]
def r47_4 : List SOper := [
  ⟨(some 11), .iadrS 1 (.t 7) (.t 9), none⟩,
  ⟨(some 12), .load1 (.t 11), none⟩,
  ⟨(some 5), .mv (.t 12), none⟩]
def r47_5 : List SOper := [
  ⟨(some 13), .mv (.t 3), none⟩,
  ⟨(some 14), .mv (.t 5), none⟩,
  ⟨(some 15), .bin .add (.t 13) (.t 14), none⟩,
  ⟨(some 3), .mv (.t 15), none⟩]
def r47_6 : List SOper := [
  ⟨(some 16), .bin .add (.t 9) (.c (.one (.sc (.int .i64 1)))), none⟩,
  ⟨(some 9), .mv (.t 16), none⟩]
def l47_0 : SC := (.seq (.reg r47_3) (.seq (.cond (.t 10) .skip (.exit 0)) (.seq (.block 1 (.seq (.reg r47_4) (.reg r47_5))) (.reg r47_6))))
def r47_7 : List SOper := [
  ⟨(some 17), .mv (.t 3), none⟩,
  ⟨(some 2), .mv (.t 17), none⟩]
def c47 : SC := (.seq (.reg r47_0) (.seq (.reg r47_1) (.seq (.seq (.reg r47_2) (.block 0 (.loop l47_0))) (.seq (.reg r47_7) .ret))))
/-- (limner/dash.Pattern).Sum -/
def F47 : SFun := ⟨18, c47, [.tmp 2]⟩

def r48_0 : List SOper := [
  ⟨(some 4), .mv (.c (.one (.sc (.int .u64 0)))), none⟩,
  ⟨(some 5), .mv (.c (.one (.sc (.int .u64 0)))), none⟩]
def r48_1 : List SOper := [
  ⟨(some 14), .mv (.t 0), none⟩,
  ⟨(some 15), .bin .and (.t 14) (.c (.one (.sc (.int .u64 4294967295)))), none⟩,
  ⟨(some 6), .mv (.t 15), none⟩]
def r48_2 : List SOper := [
  ⟨(some 16), .mv (.t 0), none⟩,
  ⟨(some 17), .bin .shr (.t 16) (.c (.one (.sc (.int .u64 32)))), none⟩,
  ⟨(some 7), .mv (.t 17), none⟩]
def r48_3 : List SOper := [
  ⟨(some 18), .mv (.t 1), none⟩,
  ⟨(some 19), .bin .and (.t 18) (.c (.one (.sc (.int .u64 4294967295)))), none⟩,
  ⟨(some 8), .mv (.t 19), none⟩]
def r48_4 : List SOper := [
  ⟨(some 20), .mv (.t 1), none⟩,
  ⟨(some 21), .bin .shr (.t 20) (.c (.one (.sc (.int .u64 32)))), none⟩,
  ⟨(some 9), .mv (.t 21), none⟩]
def r48_5 : List SOper := [
  ⟨(some 22), .mv (.t 6), none⟩,
  ⟨(some 23), .mv (.t 8), none⟩,
  ⟨(some 24), .bin .mul (.t 22) (.t 23), none⟩,
  ⟨(some 10), .mv (.t 24), none⟩]
def r48_6 : List SOper := [
  ⟨(some 25), .mv (.t 7), none⟩,
  ⟨(some 26), .mv (.t 8), none⟩,
  ⟨(some 27), .bin .mul (.t 25) (.t 26), none⟩,
  ⟨(some 28), .mv (.t 10), none⟩,
  ⟨(some 29), .bin .shr (.t 28) (.c (.one (.sc (.int .u64 32)))), none⟩,
  ⟨(some 30), .bin .add (.t 27) (.t 29), none⟩,
  ⟨(some 11), .mv (.t 30), none⟩]
def r48_7 : List SOper := [
  ⟨(some 31), .mv (.t 11), none⟩,
  ⟨(some 32), .bin .and (.t 31) (.c (.one (.sc (.int .u64 4294967295)))), none⟩,
  ⟨(some 12), .mv (.t 32), none⟩]
def r48_8 : List SOper := [
  ⟨(some 33), .mv (.t 11), none⟩,
  ⟨(some 34), .bin .shr (.t 33) (.c (.one (.sc (.int .u64 32)))), none⟩,
  ⟨(some 13), .mv (.t 34), none⟩]
def r48_9 : List SOper := [
  ⟨(some 35), .mv (.t 12), none⟩,
  ⟨(some 36), .mv (.t 6), none⟩,
  ⟨(some 37), .mv (.t 9), none⟩,
  ⟨(some 38), .bin .mul (.t 36) (.t 37), none⟩,
  ⟨(some 39), .bin .add (.t 35) (.t 38), none⟩,
  ⟨(some 12), .mv (.t 39), none⟩]
def r48_10 : List SOper := [
  ⟨(some 40), .mv (.t 7), none⟩,
  ⟨(some 41), .mv (.t 9), none⟩,
  ⟨(some 42), .bin .mul (.t 40) (.t 41), none⟩,
  ⟨(some 43), .mv (.t 13), none⟩,
  ⟨(some 44), .bin .add (.t 42) (.t 43), none⟩,
  ⟨(some 45), .mv (.t 12), none⟩,
  ⟨(some 46), .bin .shr (.t 45) (.c (.one (.sc (.int .u64 32)))), none⟩,
  ⟨(some 47), .bin .add (.t 44) (.t 46), none⟩,
  ⟨(some 4), .mv (.t 47), none⟩]
def r48_11 : List SOper := [
  ⟨(some 48), .mv (.t 0), none⟩,
  ⟨(some 49), .mv (.t 1), none⟩,
  ⟨(some 50), .bin .mul (.t 48) (.t 49), none⟩,
  ⟨(some 5), .mv (.t 50), none⟩]
def c48 : SC := (.seq (.reg r48_0) (.seq (.reg r48_1) (.seq (.reg r48_2) (.seq (.reg r48_3) (.seq (.reg r48_4) (.seq (.reg r48_5) (.seq (.reg r48_6) (.seq (.reg r48_7) (.seq (.reg r48_8) (.seq (.reg r48_9) (.seq (.reg r48_10) (.seq (.reg r48_11) .ret))))))))))))
/-- math/bits.Mul64 -/
def F48 : SFun := ⟨51, c48, [.tmp 4, .tmp 5]⟩

def r49_0 : List SOper := [
  ⟨(some 2), .mv (.c (.one (.sc (.int .u64 0)))), none⟩]
def r49_1 : List SOper := [
  ⟨(some 3), .mv (.t 0), none⟩,
  ⟨(some 4), .bin .lss (.t 3) (.c (.one (.sc (.int .i64 0)))), none⟩]
def r49_2 : List SOper := [
  ⟨(some 5), .mv (.t 0), none⟩,
  ⟨(some 6), .conv .u64 (.t 5), none⟩,
  ⟨(some 7), .un .neg (.t 6), none⟩,
  ⟨(some 2), .mv (.t 7), none⟩]
def r49_3 : List SOper := [
  ⟨(some 8), .mv (.t 0), none⟩,
  ⟨(some 9), .conv .u64 (.t 8), none⟩,
  ⟨(some 2), .mv (.t 9), none⟩]
def c49 : SC := (.seq (.reg r49_0) (.seq (.seq (.reg r49_1) (.cond (.t 4) (.seq (.reg r49_2) .ret) .skip)) (.seq (.reg r49_3) .ret)))
/-- limner/wide.size -/
def F49 : SFun := ⟨10, c49, [.tmp 2]⟩

def r50_0 : List SOper := [
  ⟨(some 6), .mv (.c (.one (.sc (.int .u64 0)))), none⟩,
  ⟨(some 7), .mv (.c (.one (.sc (.int .u64 0)))), none⟩]
def r50_1 : List SOper := [
  ⟨(some 19), .mv (.t 2), none⟩,
  ⟨(some 20), .bin .eql (.t 19) (.c (.one (.sc (.int .u64 0)))), none⟩]
def r50_2 : List SOper := [
  ⟨(some 21), .stuck, none⟩,
  ⟨none, .stuck, none⟩]
def r50_3 : List SOper := [
  ⟨(some 22), .mv (.t 2), none⟩,
  ⟨(some 23), .mv (.t 0), none⟩,
  ⟨(some 24), .bin .leq (.t 22) (.t 23), none⟩]
def r50_4 : List SOper := [
  ⟨(some 25), .stuck, none⟩,
  ⟨none, .stuck, none⟩]
def r50_5 : List SOper := [
  ⟨(some 26), .mv (.t 0), none⟩,
  ⟨(some 27), .bin .eql (.t 26) (.c (.one (.sc (.int .u64 0)))), none⟩]
def r50_6 : List SOper := [
  ⟨(some 28), .mv (.t 1), none⟩,
  ⟨(some 29), .mv (.t 2), none⟩,
  ⟨(some 30), .bin .quo (.t 28) (.t 29), none⟩,
  ⟨(some 31), .mv (.t 1), none⟩,
  ⟨(some 32), .mv (.t 2), none⟩,
  ⟨(some 33), .bin .rem (.t 31) (.t 32), none⟩,
  ⟨(some 6), .mv (.t 30), none⟩,
  ⟨(some 7), .mv (.t 33), none⟩]
def r50_7 : List SOper := [
  ⟨(some 34), .mv (.t 2), none⟩,
  ⟨(some 35), .call (.z 0) 57 [(.t 34)], none⟩,
  ⟨(some 36), .conv .u64 (.t 35), none⟩,
  ⟨(some 8), .mv (.t 36), none⟩]
def r50_8 : List SOper := [
  ⟨(some 37), .mv (.t 2), none⟩,
  ⟨(some 38), .mv (.t 8), none⟩,
  ⟨(some 39), .bin .shl (.t 37) (.t 38), none⟩,
  ⟨(some 2), .mv (.t 39), none⟩]
def r50_9 : List SOper := [
  ⟨(some 40), .mv (.t 2), none⟩,
  ⟨(some 41), .bin .shr (.t 40) (.c (.one (.sc (.int .u64 32)))), none⟩,
  ⟨(some 9), .mv (.t 41), none⟩]
def r50_10 : List SOper := [
  ⟨(some 42), .mv (.t 2), none⟩,
  ⟨(some 43), .bin .and (.t 42) (.c (.one (.sc (.int .u64 4294967295)))), none⟩,
  ⟨(some 10), .mv (.t 43), none⟩]
def r50_11 : List SOper := [
  ⟨(some 44), .mv (.t 0), none⟩,
  ⟨(some 45), .mv (.t 8), none⟩,
  ⟨(some 46), .bin .shl (.t 44) (.t 45), none⟩,
  ⟨(some 47), .mv (.t 1), none⟩,
  ⟨(some 48), .mv (.t 8), none⟩,
  ⟨(some 49), .bin .sub (.c (.one (.sc (.int .u64 64)))) (.t 48), none⟩,
  ⟨(some 50), .bin .shr (.t 47) (.t 49), none⟩,
  ⟨(some 51), .bin .or (.t 46) (.t 50), none⟩,
  ⟨(some 11), .mv (.t 51), none⟩]
def r50_12 : List SOper := [
  ⟨(some 52), .mv (.t 1), none⟩,
  ⟨(some 53), .mv (.t 8), none⟩,
  ⟨(some 54), .bin .shl (.t 52) (.t 53), none⟩,
  ⟨(some 12), .mv (.t 54), none⟩]
def r50_13 : List SOper := [
  ⟨(some 55), .mv (.t 12), none⟩,
  ⟨(some 56), .bin .shr (.t 55) (.c (.one (.sc (.int .u64 32)))), none⟩,
  ⟨(some 13), .mv (.t 56), none⟩]
def r50_14 : List SOper := [
  ⟨(some 57), .mv (.t 12), none⟩,
  ⟨(some 58), .bin .and (.t 57) (.c (.one (.sc (.int .u64 4294967295)))), none⟩,
  ⟨(some 14), .mv (.t 58), none⟩]
def r50_15 : List SOper := [
  ⟨(some 59), .mv (.t 11), none⟩,
  ⟨(some 60), .mv (.t 9), none⟩,
  ⟨(some 61), .bin .quo (.t 59) (.t 60), none⟩,
  ⟨(some 15), .mv (.t 61), none⟩]
def r50_16 : List SOper := [
  ⟨(some 62), .mv (.t 11), none⟩,
  ⟨(some 63), .mv (.t 15), none⟩,
  ⟨(some 64), .mv (.t 9), none⟩,
  ⟨(some 65), .bin .mul (.t 63) (.t 64), none⟩,
  ⟨(some 66), .bin .sub (.t 62) (.t 65), none⟩,
  ⟨(some 16), .mv (.t 66), none⟩]
def r50_17 : List SOper := [
  ⟨(some 67), .mv (.t 15), none⟩,
  ⟨(some 68), .bin .geq (.t 67) (.c (.one (.sc (.int .u64 4294967296)))), none⟩,
  ⟨(some 69), .mv (.t 68), none⟩,
  ⟨(some 70), .mv (.t 15), (some (some 69, false))⟩,
  ⟨(some 71), .mv (.t 10), (some (some 69, false))⟩,
  ⟨(some 72), .bin .mul (.t 70) (.t 71), (some (some 69, false))⟩,
  ⟨(some 73), .mv (.t 16), (some (some 69, false))⟩,
  ⟨(some 74), .bin .mul (.c (.one (.sc (.int .u64 4294967296)))) (.t 73), (some (some 69, false))⟩,
  ⟨(some 75), .mv (.t 13), (some (some 69, false))⟩,
  ⟨(some 76), .bin .add (.t 74) (.t 75), (some (some 69, false))⟩,
  ⟨(some 77), .bin .gtr (.t 72) (.t 76), (some (some 69, false))⟩,
  ⟨(some 78), .pick (.t 69) (.c (.one (.sc (.bool true)))) (.t 77), none⟩]
def r50_18 : List SOper := [
  ⟨(some 79), .mv (.t 15), none⟩,
  ⟨(some 80), .bin .sub (.t 79) (.c (.one (.sc (.int .u64 1)))), none⟩,
  ⟨(some 15), .mv (.t 80), none⟩]
def r50_19 : List SOper := [
  ⟨(some 81), .mv (.t 16), none⟩,
  ⟨(some 82), .mv (.t 9), none⟩,
  ⟨(some 83), .bin .add (.t 81) (.t 82), none⟩,
  ⟨(some 16), .mv (.t 83), none⟩]
def r50_20 : List SOper := [
  ⟨(some 84), .mv (.t 16), none⟩,
  ⟨(some 85), .bin .geq (.t 84) (.c (.one (.sc (.int .u64 4294967296)))), none⟩]
def l50_0 : SC := (.seq (.seq (.reg r50_17) (.cond (.t 78) .skip (.exit 0))) (.block 1 (.seq (.reg r50_18) (.seq (.reg r50_19) (.seq (.reg r50_20) (.cond (.t 85) (.exit 0) .skip))))))
def r50_21 : List SOper := [
  ⟨(some 86), .mv (.t 11), none⟩,
  ⟨(some 87), .bin .mul (.t 86) (.c (.one (.sc (.int .u64 4294967296)))), none⟩,
  ⟨(some 88), .mv (.t 13), none⟩,
  ⟨(some 89), .bin .add (.t 87) (.t 88), none⟩,
  ⟨(some 90), .mv (.t 15), none⟩,
  ⟨(some 91), .mv (.t 2), none⟩,
  ⟨(some 92), .bin .mul (.t 90) (.t 91), none⟩,
  ⟨(some 93), .bin .sub (.t 89) (.t 92), none⟩,
  ⟨(some 17), .mv (.t 93), none⟩]
def r50_22 : List SOper := [
  ⟨(some 94), .mv (.t 17), none⟩,
  ⟨(some 95), .mv (.t 9), none⟩,
  ⟨(some 96), .bin .quo (.t 94) (.t 95), none⟩,
  ⟨(some 18), .mv (.t 96), none⟩]
def r50_23 : List SOper := [
  ⟨(some 97), .mv (.t 17), none⟩,
  ⟨(some 98), .mv (.t 18), none⟩,
  ⟨(some 99), .mv (.t 9), none⟩,
  ⟨(some 100), .bin .mul (.t 98) (.t 99), none⟩,
  ⟨(some 101), .bin .sub (.t 97) (.t 100), none⟩,
  ⟨(some 16), .mv (.t 101), none⟩]
def r50_24 : List SOper := [
  ⟨(some 102), .mv (.t 18), none⟩,
  ⟨(some 103), .bin .geq (.t 102) (.c (.one (.sc (.int .u64 4294967296)))), none⟩,
  ⟨(some 104), .mv (.t 103), none⟩,
  ⟨(some 105), .mv (.t 18), (some (some 104, false))⟩,
  ⟨(some 106), .mv (.t 10), (some (some 104, false))⟩,
  ⟨(some 107), .bin .mul (.t 105) (.t 106), (some (some 104, false))⟩,
  ⟨(some 108), .mv (.t 16), (some (some 104, false))⟩,
  ⟨(some 109), .bin .mul (.c (.one (.sc (.int .u64 4294967296)))) (.t 108), (some (some 104, false))⟩,
  ⟨(some 110), .mv (.t 14), (some (some 104, false))⟩,
  ⟨(some 111), .bin .add (.t 109) (.t 110), (some (some 104, false))⟩,
  ⟨(some 112), .bin .gtr (.t 107) (.t 111), (some (some 104, false))⟩,
  ⟨(some 113), .pick (.t 104) (.c (.one (.sc (.bool true)))) (.t 112), none⟩]
def r50_25 : List SOper := [
  ⟨(some 114), .mv (.t 18), none⟩,
  ⟨(some 115), .bin .sub (.t 114) (.c (.one (.sc (.int .u64 1)))), none⟩,
  ⟨(some 18), .mv (.t 115), none⟩]
def r50_26 : List SOper := [
  ⟨(some 116), .mv (.t 16), none⟩,
  ⟨(some 117), .mv (.t 9), none⟩,
  ⟨(some 118), .bin .add (.t 116) (.t 117), none⟩,
  ⟨(some 16), .mv (.t 118), none⟩]
def r50_27 : List SOper := [
  ⟨(some 119), .mv (.t 16), none⟩,
  ⟨(some 120), .bin .geq (.t 119) (.c (.one (.sc (.int .u64 4294967296)))), none⟩]
def l50_1 : SC := (.seq (.seq (.reg r50_24) (.cond (.t 113) .skip (.exit 2))) (.block 3 (.seq (.reg r50_25) (.seq (.reg r50_26) (.seq (.reg r50_27) (.cond (.t 120) (.exit 2) .skip))))))
def r50_28 : List SOper := [
  ⟨(some 121), .mv (.t 15), none⟩,
  ⟨(some 122), .bin .mul (.t 121) (.c (.one (.sc (.int .u64 4294967296)))), none⟩,
  ⟨(some 123), .mv (.t 18), none⟩,
  ⟨(some 124), .bin .add (.t 122) (.t 123), none⟩,
  ⟨(some 125), .mv (.t 17), none⟩,
  ⟨(some 126), .bin .mul (.t 125) (.c (.one (.sc (.int .u64 4294967296)))), none⟩,
  ⟨(some 127), .mv (.t 14), none⟩,
  ⟨(some 128), .bin .add (.t 126) (.t 127), none⟩,
  ⟨(some 129), .mv (.t 18), none⟩,
  ⟨(some 130), .mv (.t 2), none⟩,
  ⟨(some 131), .bin .mul (.t 129) (.t 130), none⟩,
  ⟨(some 132), .bin .sub (.t 128) (.t 131), none⟩,
  ⟨(some 133), .mv (.t 8), none⟩,
  ⟨(some 134), .bin .shr (.t 132) (.t 133), none⟩,
  ⟨(some 6), .mv (.t 124), none⟩,
  ⟨(some 7), .mv (.t 134), none⟩]
def c50 : SC := (.seq (.reg r50_0) (.seq (.seq (.reg r50_1) (.cond (.t 20) (.reg r50_2) .skip)) (.seq (.seq (.reg r50_3) (.cond (.t 24) (.reg r50_4) .skip)) (.seq (.seq (.reg r50_5) (.cond (.t 27) (.seq (.reg r50_6) .ret) .skip)) (.seq (.reg r50_7) (.seq (.reg r50_8) (.seq (.reg r50_9) (.seq (.reg r50_10) (.seq (.reg r50_11) (.seq (.reg r50_12) (.seq (.reg r50_13) (.seq (.reg r50_14) (.seq (.reg r50_15) (.seq (.reg r50_16) (.seq (.block 0 (.loop l50_0)) (.seq (.reg r50_21) (.seq (.reg r50_22) (.seq (.reg r50_23) (.seq (.block 2 (.loop l50_1)) (.seq (.reg r50_28) .ret))))))))))))))))))))
/-- math/bits.Div64 -/
def F50 : SFun := ⟨135, c50, [.tmp 6, .tmp 7]⟩

def r51_0 : List SOper := [
  ⟨(some 2), .box (.t 0), none⟩,
  ⟨(some 3), .box (.t 1), none⟩,
  ⟨(some 4), .alloc [.sc (.int .i64 0), .sc (.int .u64 0)], none⟩]
def r51_1 : List SOper := [
  ⟨(some 10), .fadr 1 (.t 2), none⟩,
  ⟨(some 11), .load1 (.t 10), none⟩,
  ⟨(some 12), .fadr 1 (.t 3), none⟩,
  ⟨(some 13), .load1 (.t 12), none⟩,
  ⟨(some 14), .carry false [(.t 11), (.t 13), (.c (.one (.sc (.int .u64 0))))], none⟩,
  ⟨(some 9), .mv (.t 14), none⟩,
  ⟨(some 15), .ext (.t 9) 0, none⟩,
  ⟨(some 16), .ext (.t 9) 1, none⟩,
  ⟨(some 5), .mv (.t 15), none⟩,
  ⟨(some 6), .mv (.t 16), none⟩]
def r51_2 : List SOper := [
  ⟨(some 18), .fadr 0 (.t 2), none⟩,
  ⟨(some 19), .load1 (.t 18), none⟩,
  ⟨(some 20), .conv .u64 (.t 19), none⟩,
  ⟨(some 21), .fadr 0 (.t 3), none⟩,
  ⟨(some 22), .load1 (.t 21), none⟩,
  ⟨(some 23), .conv .u64 (.t 22), none⟩,
  ⟨(some 24), .mv (.t 6), none⟩,
  ⟨(some 25), .carry false [(.t 20), (.t 23), (.t 24)], none⟩,
  ⟨(some 17), .mv (.t 25), none⟩,
  ⟨(some 26), .ext (.t 17) 0, none⟩,
  ⟨(some 27), .ext (.t 17) 1, none⟩,
  ⟨(some 7), .mv (.t 26), none⟩,
  ⟨(some 8), .mv (.t 27), none⟩]
def r51_3 : List SOper := [
  ⟨(some 28), .mv (.t 7), none⟩,
  ⟨(some 29), .conv .i64 (.t 28), none⟩,
  ⟨(some 30), .mv (.t 5), none⟩,
  ⟨(some 31), .build [.sc (.int .i64 0), .sc (.int .u64 0)] [(0, 1, (.t 29)), (1, 1, (.t 30))], none⟩,
  ⟨none, .store 2 (.t 4) (.t 31), none⟩]
def c51 : SC := (.seq (.reg r51_0) (.seq (.reg r51_1) (.seq (.reg r51_2) (.seq (.reg r51_3) .ret))))
/-- (limner/wide.Num).Add -/
def F51 : SFun := ⟨32, c51, [.cellA 4 2]⟩

def r52_0 : List SOper := [
  ⟨(some 2), .alloc [.sc (.int .i64 0), .sc (.int .u64 0)], none⟩]
def r52_1 : List SOper := [
  ⟨(some 3), .mv (.t 0), none⟩,
  ⟨(some 4), .bin .shr (.t 3) (.c (.one (.sc (.int .u64 63)))), none⟩,
  ⟨(some 5), .mv (.t 0), none⟩,
  ⟨(some 6), .conv .u64 (.t 5), none⟩,
  ⟨(some 7), .build [.sc (.int .i64 0), .sc (.int .u64 0)] [(0, 1, (.t 4)), (1, 1, (.t 6))], none⟩,
  ⟨none, .store 2 (.t 2) (.t 7), none⟩]
def c52 : SC := (.seq (.reg r52_0) (.seq (.reg r52_1) .ret))
/-- limner/wide.Of -/
def F52 : SFun := ⟨8, c52, [.cellA 2 2]⟩

def r53_0 : List SOper := [
  ⟨(some 1), .box (.t 0), none⟩,
  ⟨(some 2), .alloc [.sc (.int .i64 0), .sc (.int .u64 0)], none⟩]
def r53_1 : List SOper := [
  ⟨(some 3), .build [.sc (.int .i64 0), .sc (.int .u64 0)] [], none⟩,
  ⟨(some 4), .loadA 2 (.t 1), none⟩,
  ⟨(some 5), .call (.z 0) 59 [(.t 3), (.t 4)], none⟩,
  ⟨none, .store 2 (.t 2) (.t 5), none⟩]
def c53 : SC := (.seq (.reg r53_0) (.seq (.reg r53_1) .ret))
/-- (limner/wide.Num).Neg -/
def F53 : SFun := ⟨6, c53, [.cellA 2 2]⟩

def r54_0 : List SOper := [
  ⟨(some 1), .box (.t 0), none⟩,
  ⟨(some 2), .mv (.c (.one (.sc (.int .i64 0)))), none⟩,
  ⟨(some 3), .mv (.c (.one (.sc (.bool false)))), none⟩]
def r54_1 : List SOper := [
  ⟨(some 5), .fadr 1 (.t 1), none⟩,
  ⟨(some 6), .load1 (.t 5), none⟩,
  ⟨(some 7), .conv .i64 (.t 6), none⟩,
  ⟨(some 4), .mv (.t 7), none⟩]
def r54_2 : List SOper := [
  ⟨(some 8), .loadA 2 (.t 1), none⟩,
  ⟨(some 9), .mv (.t 4), none⟩,
  ⟨(some 10), .call (.z 0) 52 [(.t 9)], none⟩,
  ⟨(some 11), .eqv [.i, .i] false (.t 8) (.t 10), none⟩]
def r54_3 : List SOper := [
  ⟨(some 12), .mv (.t 4), none⟩,
  ⟨(some 2), .mv (.t 12), none⟩,
  ⟨(some 3), .mv (.c (.one (.sc (.bool true)))), none⟩]
def r54_4 : List SOper := [
  ⟨(some 2), .mv (.c (.one (.sc (.int .i64 0)))), none⟩,
  ⟨(some 3), .mv (.c (.one (.sc (.bool false)))), none⟩]
def c54 : SC := (.seq (.reg r54_0) (.seq (.seq (.reg r54_1) (.seq (.reg r54_2) (.cond (.t 11) (.seq (.reg r54_3) .ret) .skip))) (.seq (.reg r54_4) .ret)))
/-- (limner/wide.Num).Int -/
def F54 : SFun := ⟨13, c54, [.tmp 2, .tmp 3]⟩

def r55_0 : List SOper := [
  ⟨(some 1), .box (.t 0), none⟩,
  ⟨(some 2), .mv (.c (.one (.sc (.bool false)))), none⟩]
def r55_1 : List SOper := [
  ⟨(some 3), .fadr 0 (.t 1), none⟩,
  ⟨(some 4), .load1 (.t 3), none⟩,
  ⟨(some 5), .call (.z 0) 60 [(.t 4)], none⟩,
  ⟨(some 6), .mv (.t 5), none⟩,
  ⟨(some 7), .fadr 1 (.t 1), (some (some 6, true))⟩,
  ⟨(some 8), .load1 (.t 7), (some (some 6, true))⟩,
  ⟨(some 9), .call (.z 0) 60 [(.t 8)], (some (some 6, true))⟩,
  ⟨(some 10), .pick (.t 6) (.t 9) (.c (.one (.sc (.bool false)))), none⟩,
  ⟨(some 2), .mv (.t 10), none⟩]
def c55 : SC := (.seq (.reg r55_0) (.seq (.reg r55_1) .ret))
/-- (limner/geom.Point).In -/
def F55 : SFun := ⟨11, c55, [.tmp 2]⟩

def r56_0 : List SOper := [
  ⟨(some 2), .mv (.c (.one (.sc (.int .i64 0)))), none⟩]
def r56_1 : List SOper := [
  ⟨(some 3), .mv (.c (.one (.sc (.int .i64 0)))), none⟩]
def r56_2 : List SOper := [
  ⟨(some 4), .mv (.c (.one (.sc (.int .i64 31)))), none⟩]
def r56_3 : List SOper := [
  ⟨(some 6), .mv (.t 4), none⟩,
  ⟨(some 7), .bin .geq (.t 6) (.c (.one (.sc (.int .i64 0)))), none⟩]
def r56_5 : List SOper := [
  ⟨(some 10), .mv (.t 3), none⟩,
  ⟨(some 11), .mv (.t 4), none⟩,
  ⟨(some 12), .bin .shl (.c (.one (.sc (.int .i64 1)))) (.t 11), none⟩,
  ⟨(some 13), .bin .or (.t 10) (.t 12), none⟩,
  ⟨(some 5), .mv (.t 13), none⟩]
def r56_6 : List SOper := [
  ⟨(some 14), .mv (.t 5), none⟩,
  ⟨(some 15), .mv (.t 5), none⟩,
  ⟨(some 16), .call (.z 0) 61 [(.t 14), (.t 15)], none⟩,
  ⟨(some 17), .mv (.t 0), none⟩,
  ⟨(some 18), .call (.z 0) 52 [(.t 17)], none⟩,
  ⟨(some 19), .call (.z 0) 62 [(.t 16), (.t 18)], none⟩,
  ⟨(some 20), .bin .leq (.t 19) (.c (.one (.sc (.int .i64 0)))), none⟩]
def r56_7 : List SOper := [
  ⟨(some 21), .mv (.t 5), none⟩,
  ⟨(some 3), .mv (.t 21), none⟩]
def r56_4 : List SOper := [
  ⟨(some 8), .mv (.t 4), none⟩,
  ⟨(some 9), .bin .sub (.t 8) (.c (.one (.sc (.int .i64 1)))), none⟩,
  ⟨(some 4), .mv (.t 9), none⟩]
def l56_0 : SC := (.seq (.seq (.reg r56_3) (.cond (.t 7) .skip (.exit 0))) (.seq (.block 1 (.seq (.reg r56_5) (.seq (.reg r56_6) (.cond (.t 20) (.reg r56_7) .skip)))) (.reg r56_4)))
def r56_8 : List SOper := [
  ⟨(some 22), .mv (.t 3), none⟩,
  ⟨(some 2), .mv (.t 22), none⟩]
def c56 : SC := (.seq (.reg r56_0) (.seq (.reg r56_1) (.seq (.seq (.reg r56_2) (.block 0 (.loop l56_0))) (.seq (.reg r56_8) .ret))))
/-- limner/wide.Sqrt -/
def F56 : SFun := ⟨23, c56, [.tmp 2]⟩

def r57_0 : List SOper := [
  ⟨(some 2), .mv (.c (.one (.sc (.int .i64 0)))), none⟩]
def r57_1 : List SOper := [
  ⟨(some 3), .mv (.t 0), none⟩,
  ⟨(some 4), .call (.z 0) 63 [(.t 3)], none⟩,
  ⟨(some 5), .bin .sub (.c (.one (.sc (.int .i64 64)))) (.t 4), none⟩,
  ⟨(some 2), .mv (.t 5), none⟩]
def c57 : SC := (.seq (.reg r57_0) (.seq (.reg r57_1) .ret))
/-- math/bits.LeadingZeros64 -/
def F57 : SFun := ⟨6, c57, [.tmp 2]⟩

def r59_0 : List SOper := [
  ⟨(some 2), .box (.t 0), none⟩,
  ⟨(some 3), .box (.t 1), none⟩,
  ⟨(some 4), .alloc [.sc (.int .i64 0), .sc (.int .u64 0)], none⟩]
def r59_1 : List SOper := [
  ⟨(some 10), .fadr 1 (.t 2), none⟩,
  ⟨(some 11), .load1 (.t 10), none⟩,
  ⟨(some 12), .fadr 1 (.t 3), none⟩,
  ⟨(some 13), .load1 (.t 12), none⟩,
  ⟨(some 14), .carry true [(.t 11), (.t 13), (.c (.one (.sc (.int .u64 0))))], none⟩,
  ⟨(some 9), .mv (.t 14), none⟩,
  ⟨(some 15), .ext (.t 9) 0, none⟩,
  ⟨(some 16), .ext (.t 9) 1, none⟩,
  ⟨(some 5), .mv (.t 15), none⟩,
  ⟨(some 6), .mv (.t 16), none⟩]
def r59_2 : List SOper := [
  ⟨(some 18), .fadr 0 (.t 2), none⟩,
  ⟨(some 19), .load1 (.t 18), none⟩,
  ⟨(some 20), .conv .u64 (.t 19), none⟩,
  ⟨(some 21), .fadr 0 (.t 3), none⟩,
  ⟨(some 22), .load1 (.t 21), none⟩,
  ⟨(some 23), .conv .u64 (.t 22), none⟩,
  ⟨(some 24), .mv (.t 6), none⟩,
  ⟨(some 25), .carry true [(.t 20), (.t 23), (.t 24)], none⟩,
  ⟨(some 17), .mv (.t 25), none⟩,
  ⟨(some 26), .ext (.t 17) 0, none⟩,
  ⟨(some 27), .ext (.t 17) 1, none⟩,
  ⟨(some 7), .mv (.t 26), none⟩,
  ⟨(some 8), .mv (.t 27), none⟩]
def r59_3 : List SOper := [
  ⟨(some 28), .mv (.t 7), none⟩,
  ⟨(some 29), .conv .i64 (.t 28), none⟩,
  ⟨(some 30), .mv (.t 5), none⟩,
  ⟨(some 31), .build [.sc (.int .i64 0), .sc (.int .u64 0)] [(0, 1, (.t 29)), (1, 1, (.t 30))], none⟩,
  ⟨none, .store 2 (.t 4) (.t 31), none⟩]
def c59 : SC := (.seq (.reg r59_0) (.seq (.reg r59_1) (.seq (.reg r59_2) (.seq (.reg r59_3) .ret))))
/-- (limner/wide.Num).Sub -/
def F59 : SFun := ⟨32, c59, [.cellA 4 2]⟩

def r60_0 : List SOper := [
  ⟨(some 2), .mv (.c (.one (.sc (.bool false)))), none⟩]
def r60_1 : List SOper := [
  ⟨(some 3), .mv (.t 0), none⟩,
  ⟨(some 4), .bin .geq (.t 3) (.c (.one (.sc (.int .i64 (-2147483648))))), none⟩,
  ⟨(some 5), .mv (.t 4), none⟩,
  ⟨(some 6), .mv (.t 0), (some (some 5, true))⟩,
  ⟨(some 7), .bin .leq (.t 6) (.c (.one (.sc (.int .i64 2147483648)))), (some (some 5, true))⟩,
  ⟨(some 8), .pick (.t 5) (.t 7) (.c (.one (.sc (.bool false)))), none⟩,
  ⟨(some 2), .mv (.t 8), none⟩]
def c60 : SC := (.seq (.reg r60_0) (.seq (.reg r60_1) .ret))
/-- limner/fixed.In -/
def F60 : SFun := ⟨9, c60, [.tmp 2]⟩

def r61_0 : List SOper := [
  ⟨(some 4), .alloc [.sc (.int .i64 0), .sc (.int .u64 0)], none⟩]
def r61_1 : List SOper := [
  ⟨(some 8), .mv (.t 0), none⟩,
  ⟨(some 9), .conv .u64 (.t 8), none⟩,
  ⟨(some 10), .mv (.t 1), none⟩,
  ⟨(some 11), .conv .u64 (.t 10), none⟩,
  ⟨(some 12), .call (.z 0) 48 [(.t 9), (.t 11)], none⟩,
  ⟨(some 7), .mv (.t 12), none⟩,
  ⟨(some 13), .ext (.t 7) 0, none⟩,
  ⟨(some 14), .ext (.t 7) 1, none⟩,
  ⟨(some 5), .mv (.t 13), none⟩,
  ⟨(some 6), .mv (.t 14), none⟩]
def r61_2 : List SOper := [
  ⟨(some 15), .mv (.t 0), none⟩,
  ⟨(some 16), .bin .lss (.t 15) (.c (.one (.sc (.int .i64 0)))), none⟩]
def r61_3 : List SOper := [
  ⟨(some 17), .mv (.t 5), none⟩,
  ⟨(some 18), .mv (.t 1), none⟩,
  ⟨(some 19), .conv .u64 (.t 18), none⟩,
  ⟨(some 20), .bin .sub (.t 17) (.t 19), none⟩,
  ⟨(some 5), .mv (.t 20), none⟩]
def r61_4 : List SOper := [
  ⟨(some 21), .mv (.t 1), none⟩,
  ⟨(some 22), .bin .lss (.t 21) (.c (.one (.sc (.int .i64 0)))), none⟩]
def r61_5 : List SOper := [
  ⟨(some 23), .mv (.t 5), none⟩,
  ⟨(some 24), .mv (.t 0), none⟩,
  ⟨(some 25), .conv .u64 (.t 24), none⟩,
  ⟨(some 26), .bin .sub (.t 23) (.t 25), none⟩,
  ⟨(some 5), .mv (.t 26), none⟩]
def r61_6 : List SOper := [
  ⟨(some 27), .mv (.t 5), none⟩,
  ⟨(some 28), .conv .i64 (.t 27), none⟩,
  ⟨(some 29), .mv (.t 6), none⟩,
  ⟨(some 30), .build [.sc (.int .i64 0), .sc (.int .u64 0)] [(0, 1, (.t 28)), (1, 1, (.t 29))], none⟩,
  ⟨none, .store 2 (.t 4) (.t 30), none⟩]
def c61 : SC := (.seq (.reg r61_0) (.seq (.reg r61_1) (.seq (.seq (.reg r61_2) (.cond (.t 16) (.reg r61_3) .skip)) (.seq (.seq (.reg r61_4) (.cond (.t 22) (.reg r61_5) .skip)) (.seq (.reg r61_6) .ret)))))
/-- limner/wide.Mul -/
def F61 : SFun := ⟨31, c61, [.cellA 4 2]⟩

def r62_0 : List SOper := [
  ⟨(some 2), .box (.t 0), none⟩,
  ⟨(some 3), .box (.t 1), none⟩,
  ⟨(some 4), .mv (.c (.one (.sc (.int .i64 0)))), none⟩]
def r62_1 : List SOper := [
  ⟨(some 5), .fadr 0 (.t 2), none⟩,
  ⟨(some 6), .load1 (.t 5), none⟩,
  ⟨(some 7), .fadr 0 (.t 3), none⟩,
  ⟨(some 8), .load1 (.t 7), none⟩,
  ⟨(some 9), .call (.z 0) 66 [(.t 6), (.t 8)], none⟩,
  ⟨(some 10), .fadr 1 (.t 2), none⟩,
  ⟨(some 11), .load1 (.t 10), none⟩,
  ⟨(some 12), .fadr 1 (.t 3), none⟩,
  ⟨(some 13), .load1 (.t 12), none⟩,
  ⟨(some 14), .call (.z 0) 67 [(.t 11), (.t 13)], none⟩,
  ⟨(some 15), .bslice [.sc (.int .i64 0), .sc (.int .i64 0)] 2 1 [(0, 1, (.t 9)), (1, 1, (.t 14))], none⟩,
  ⟨(some 16), .call .q 65 [(.t 15)], none⟩,
  ⟨(some 4), .mv (.t 16), none⟩]
def c62 : SC := (.seq (.reg r62_0) (.seq (.reg r62_1) .ret))
/-- (limner/wide.Num).Cmp -/
def F62 : SFun := ⟨17, c62, [.tmp 4]⟩

def r63_0 : List SOper := [
  ⟨(some 2), .mv (.c (.one (.sc (.int .i64 0)))), none⟩]
def r63_1 : List SOper := [
  ⟨(some 3), .mv (.t 0), none⟩,
  ⟨(some 4), .bin .geq (.t 3) (.c (.one (.sc (.int .u64 4294967296)))), none⟩]
def r63_2 : List SOper := [
  ⟨(some 5), .mv (.t 0), none⟩,
  ⟨(some 6), .bin .shr (.t 5) (.c (.one (.sc (.int .u64 32)))), none⟩,
  ⟨(some 0), .mv (.t 6), none⟩]
def r63_3 : List SOper := [
  ⟨(some 2), .mv (.c (.one (.sc (.int .i64 32)))), none⟩]
def r63_4 : List SOper := [
  ⟨(some 7), .mv (.t 0), none⟩,
  ⟨(some 8), .bin .geq (.t 7) (.c (.one (.sc (.int .u64 65536)))), none⟩]
def r63_5 : List SOper := [
  ⟨(some 9), .mv (.t 0), none⟩,
  ⟨(some 10), .bin .shr (.t 9) (.c (.one (.sc (.int .u64 16)))), none⟩,
  ⟨(some 0), .mv (.t 10), none⟩]
def r63_6 : List SOper := [
  ⟨(some 11), .mv (.t 2), none⟩,
  ⟨(some 12), .bin .add (.t 11) (.c (.one (.sc (.int .i64 16)))), none⟩,
  ⟨(some 2), .mv (.t 12), none⟩]
def r63_7 : List SOper := [
  ⟨(some 13), .mv (.t 0), none⟩,
  ⟨(some 14), .bin .geq (.t 13) (.c (.one (.sc (.int .u64 256)))), none⟩]
def r63_8 : List SOper := [
  ⟨(some 15), .mv (.t 0), none⟩,
  ⟨(some 16), .bin .shr (.t 15) (.c (.one (.sc (.int .u64 8)))), none⟩,
  ⟨(some 0), .mv (.t 16), none⟩]
def r63_9 : List SOper := [
  ⟨(some 17), .mv (.t 2), none⟩,
  ⟨(some 18), .bin .add (.t 17) (.c (.one (.sc (.int .i64 8)))), none⟩,
  ⟨(some 2), .mv (.t 18), none⟩]
def r63_10 : List SOper := [
  ⟨(some 19), .mv (.t 2), none⟩,
  ⟨(some 20), .mv (.t 0), none⟩,
  ⟨(some 21), .conv .u8 (.t 20), none⟩,
  ⟨(some 22), .istr bytesA (.t 21), none⟩,
  ⟨(some 23), .conv .i64 (.t 22), none⟩,
  ⟨(some 24), .bin .add (.t 19) (.t 23), none⟩,
  ⟨(some 2), .mv (.t 24), none⟩]
def c63 : SC := (.seq (.reg r63_0) (.seq (.seq (.reg r63_1) (.cond (.t 4) (.seq (.reg r63_2) (.reg r63_3)) .skip)) (.seq (.seq (.reg r63_4) (.cond (.t 8) (.seq (.reg r63_5) (.reg r63_6)) .skip)) (.seq (.seq (.reg r63_7) (.cond (.t 14) (.seq (.reg r63_8) (.reg r63_9)) .skip)) (.seq (.reg r63_10) .ret)))))
/-- math/bits.Len64 -/
def F63 : SFun := ⟨25, c63, [.tmp 2]⟩

def r65_0 : List SOper := [
  ⟨(some 2), .mv (.c (.one (.sc (.int .i64 0)))), none⟩]
def r65_1 : List SOper := [
  ⟨(some 3), .mv (.c (.one (.sc (.int .i64 0)))), none⟩]
def r65_2 : List SOper := [
  ⟨(some 6), .mv (.t 0), none⟩,
  ⟨(some 7), .len (.t 6), none⟩,
  ⟨(some 8), .mv (.c (.one (.sc (.int .i64 0)))), none⟩]
def r65_3 : List SOper := [
  ⟨(some 9), .bin .lss (.t 8) (.t 7), none⟩]
def r65_4 : List SOper := [
  ⟨(some 10), .iadrS 1 (.t 6) (.t 8), none⟩,
  ⟨(some 11), .load1 (.t 10), none⟩,
  ⟨(some 5), .mv (.t 11), none⟩]
def r65_5 : List SOper := [
  ⟨(some 12), .mv (.t 5), none⟩,
  ⟨(some 13), .mv (.t 3), none⟩,
  ⟨(some 14), .bin .neq (.t 12) (.t 13), none⟩]
def r65_6 : List SOper := [
  ⟨(some 15), .mv (.t 5), none⟩,
  ⟨(some 2), .mv (.t 15), none⟩]
def r65_7 : List SOper := [
  ⟨(some 16), .bin .add (.t 8) (.c (.one (.sc (.int .i64 1)))), none⟩,
  ⟨(some 8), .mv (.t 16), none⟩]
def l65_0 : SC := (.seq (.reg r65_3) (.seq (.cond (.t 9) .skip (.exit 0)) (.seq (.block 1 (.seq (.reg r65_4) (.seq (.reg r65_5) (.cond (.t 14) (.seq (.reg r65_6) .ret) .skip)))) (.reg r65_7))))
def r65_8 : List SOper := [
  ⟨(some 17), .mv (.t 3), none⟩,
  ⟨(some 2), .mv (.t 17), none⟩]
def c65 : SC := (.seq (.reg r65_0) (.seq (.reg r65_1) (.seq (.seq (.reg r65_2) (.block 0 (.loop l65_0))) (.seq (.reg r65_8) .ret))))
/-- cmp.Or[int] -/
def F65 : SFun := ⟨18, c65, [.tmp 2]⟩

def r66_0 : List SOper := [
  ⟨(some 4), .mv (.c (.one (.sc (.int .i64 0)))), none⟩]
def r66_1 : List SOper := [
  ⟨(some 7), .mv (.t 0), none⟩,
  ⟨(some 8), .call (.z 0) 68 [(.t 7)], none⟩,
  ⟨(some 5), .mv (.t 8), none⟩]
def r66_2 : List SOper := [
  ⟨(some 9), .mv (.t 1), none⟩,
  ⟨(some 10), .call (.z 0) 68 [(.t 9)], none⟩,
  ⟨(some 6), .mv (.t 10), none⟩]
def r66_3 : List SOper := [
  ⟨(some 11), .mv (.t 5), none⟩]
def r66_4 : List SOper := [
  ⟨(some 12), .mv (.t 6), none⟩]
def r66_5 : List SOper := [
  ⟨(some 4), .mv (.c (.one (.sc (.int .i64 0)))), none⟩]
def r66_6 : List SOper := [
  ⟨(some 4), .mv (.c (.one (.sc (.int .i64 (-1))))), none⟩]
def r66_7 : List SOper := [
  ⟨(some 13), .mv (.t 6), none⟩]
def r66_8 : List SOper := [
  ⟨(some 4), .mv (.c (.one (.sc (.int .i64 1)))), none⟩]
def r66_9 : List SOper := [
  ⟨(some 14), .mv (.t 0), none⟩,
  ⟨(some 15), .mv (.t 1), none⟩,
  ⟨(some 16), .bin .lss (.t 14) (.t 15), none⟩]
def r66_10 : List SOper := [
  ⟨(some 4), .mv (.c (.one (.sc (.int .i64 (-1))))), none⟩]
def r66_11 : List SOper := [
  ⟨(some 17), .mv (.t 0), none⟩,
  ⟨(some 18), .mv (.t 1), none⟩,
  ⟨(some 19), .bin .gtr (.t 17) (.t 18), none⟩]
def r66_12 : List SOper := [
  ⟨(some 4), .mv (.c (.one (.sc (.int .i64 1)))), none⟩]
def r66_13 : List SOper := [
  ⟨(some 4), .mv (.c (.one (.sc (.int .i64 0)))), none⟩]
def c66 : SC := (.seq (.reg r66_0) (.seq (.reg r66_1) (.seq (.reg r66_2) (.seq (.seq (.reg r66_3) (.cond (.t 11) (.seq (.seq (.reg r66_4) (.cond (.t 12) (.seq (.reg r66_5) .ret) .skip)) (.seq (.reg r66_6) .ret)) .skip)) (.seq (.seq (.reg r66_7) (.cond (.t 13) (.seq (.reg r66_8) .ret) .skip)) (.seq (.seq (.reg r66_9) (.cond (.t 16) (.seq (.reg r66_10) .ret) .skip)) (.seq (.seq (.reg r66_11) (.cond (.t 19) (.seq (.reg r66_12) .ret) .skip)) (.seq (.reg r66_13) .ret))))))))
/-- cmp.Compare[int64] -/
def F66 : SFun := ⟨20, c66, [.tmp 4]⟩

def r67_0 : List SOper := [
  ⟨(some 4), .mv (.c (.one (.sc (.int .i64 0)))), none⟩]
def r67_1 : List SOper := [
  ⟨(some 7), .mv (.t 0), none⟩,
  ⟨(some 8), .call (.z 0) 69 [(.t 7)], none⟩,
  ⟨(some 5), .mv (.t 8), none⟩]
def r67_2 : List SOper := [
  ⟨(some 9), .mv (.t 1), none⟩,
  ⟨(some 10), .call (.z 0) 69 [(.t 9)], none⟩,
  ⟨(some 6), .mv (.t 10), none⟩]
def r67_3 : List SOper := [
  ⟨(some 11), .mv (.t 5), none⟩]
def r67_4 : List SOper := [
  ⟨(some 12), .mv (.t 6), none⟩]
def r67_5 : List SOper := [
  ⟨(some 4), .mv (.c (.one (.sc (.int .i64 0)))), none⟩]
def r67_6 : List SOper := [
  ⟨(some 4), .mv (.c (.one (.sc (.int .i64 (-1))))), none⟩]
def r67_7 : List SOper := [
  ⟨(some 13), .mv (.t 6), none⟩]
def r67_8 : List SOper := [
  ⟨(some 4), .mv (.c (.one (.sc (.int .i64 1)))), none⟩]
def r67_9 : List SOper := [
  ⟨(some 14), .mv (.t 0), none⟩,
  ⟨(some 15), .mv (.t 1), none⟩,
  ⟨(some 16), .bin .lss (.t 14) (.t 15), none⟩]
def r67_10 : List SOper := [
  ⟨(some 4), .mv (.c (.one (.sc (.int .i64 (-1))))), none⟩]
def r67_11 : List SOper := [
  ⟨(some 17), .mv (.t 0), none⟩,
  ⟨(some 18), .mv (.t 1), none⟩,
  ⟨(some 19), .bin .gtr (.t 17) (.t 18), none⟩]
def r67_12 : List SOper := [
  ⟨(some 4), .mv (.c (.one (.sc (.int .i64 1)))), none⟩]
def r67_13 : List SOper := [
  ⟨(some 4), .mv (.c (.one (.sc (.int .i64 0)))), none⟩]
def c67 : SC := (.seq (.reg r67_0) (.seq (.reg r67_1) (.seq (.reg r67_2) (.seq (.seq (.reg r67_3) (.cond (.t 11) (.seq (.seq (.reg r67_4) (.cond (.t 12) (.seq (.reg r67_5) .ret) .skip)) (.seq (.reg r67_6) .ret)) .skip)) (.seq (.seq (.reg r67_7) (.cond (.t 13) (.seq (.reg r67_8) .ret) .skip)) (.seq (.seq (.reg r67_9) (.cond (.t 16) (.seq (.reg r67_10) .ret) .skip)) (.seq (.seq (.reg r67_11) (.cond (.t 19) (.seq (.reg r67_12) .ret) .skip)) (.seq (.reg r67_13) .ret))))))))
/-- cmp.Compare[uint64] -/
def F67 : SFun := ⟨20, c67, [.tmp 4]⟩

def r68_0 : List SOper := [
  ⟨(some 2), .mv (.c (.one (.sc (.bool false)))), none⟩]
def r68_1 : List SOper := [
  ⟨(some 3), .mv (.t 0), none⟩,
  ⟨(some 4), .mv (.t 0), none⟩,
  ⟨(some 5), .bin .neq (.t 3) (.t 4), none⟩,
  ⟨(some 2), .mv (.t 5), none⟩]
def c68 : SC := (.seq (.reg r68_0) (.seq (.reg r68_1) .ret))
/-- cmp.isNaN[int64] -/
def F68 : SFun := ⟨6, c68, [.tmp 2]⟩

def r69_0 : List SOper := [
  ⟨(some 2), .mv (.c (.one (.sc (.bool false)))), none⟩]
def r69_1 : List SOper := [
  ⟨(some 3), .mv (.t 0), none⟩,
  ⟨(some 4), .mv (.t 0), none⟩,
  ⟨(some 5), .bin .neq (.t 3) (.t 4), none⟩,
  ⟨(some 2), .mv (.t 5), none⟩]
def c69 : SC := (.seq (.reg r69_0) (.seq (.reg r69_1) .ret))
/-- cmp.isNaN[uint64] -/
def F69 : SFun := ⟨6, c69, [.tmp 2]⟩

def TA : Nat → Option SFun
  | 3 => some F3
  | 4 => some F4
  | 5 => some F5
  | 6 => some F6
  | 7 => some F7
  | 8 => some F8
  | 9 => some F9
  | 10 => some F10
  | 11 => some F11
  | 12 => some F12
  | 13 => some F13
  | 14 => some F14
  | 15 => some F15
  | 16 => some F16
  | 17 => some F17
  | 18 => some F18
  | 19 => some F19
  | 20 => some F20
  | 21 => some F21
  | 22 => some F22
  | 23 => some F23
  | 24 => some F24
  | 25 => some F25
  | 26 => some F26
  | 27 => some F27
  | 28 => some F28
  | 29 => some F29
  | 30 => some F30
  | 31 => some F31
  | 32 => some F32
  | 33 => some F33
  | 34 => some F34
  | 35 => some F35
  | 36 => some F36
  | 37 => some F37
  | 38 => some F38
  | 39 => some F39
  | 40 => some F40
  | 41 => some F41
  | 42 => some F42
  | 43 => some F43
  | 44 => some F44
  | 45 => some F45
  | 46 => some F46
  | 47 => some F47
  | 48 => some F48
  | 49 => some F49
  | 50 => some F50
  | 51 => some F51
  | 52 => some F52
  | 53 => some F53
  | 54 => some F54
  | 55 => some F55
  | 56 => some F56
  | 57 => some F57
  | 59 => some F59
  | 60 => some F60
  | 61 => some F61
  | 62 => some F62
  | 63 => some F63
  | 65 => some F65
  | 66 => some F66
  | 67 => some F67
  | 68 => some F68
  | 69 => some F69
  | _ => none
def mdA : Nat → Mode
  | 8 => (.z 0)
  | 9 => (.z 0)
  | 13 => (.z 0)
  | 15 => .k
  | 16 => (.z 0)
  | 17 => (.z 0)
  | 18 => (.z 0)
  | 19 => (.z 0)
  | 23 => .k
  | 25 => (.z 0)
  | 27 => (.z 0)
  | 31 => (.z 0)
  | 34 => (.z 0)
  | 35 => (.z 0)
  | 36 => (.z 0)
  | 37 => (.z 0)
  | 42 => (.z 0)
  | 43 => (.z 0)
  | 44 => (.z 0)
  | 45 => (.z 0)
  | 46 => (.z 0)
  | 48 => (.z 0)
  | 49 => (.z 0)
  | 50 => (.z 0)
  | 51 => (.z 0)
  | 52 => (.z 0)
  | 53 => (.z 0)
  | 54 => (.z 0)
  | 55 => (.z 0)
  | 56 => (.z 0)
  | 57 => (.z 0)
  | 59 => (.z 0)
  | 60 => (.z 0)
  | 61 => (.z 0)
  | 62 => (.z 0)
  | 63 => (.z 0)
  | 66 => (.z 0)
  | 67 => (.z 0)
  | 68 => (.z 0)
  | 69 => (.z 0)
  | _ => .q
def q3 : Nat → List (List Nat) × List (Nat × Nat)
  | 3 => ([[], [0], [0, 1], [0, 1, 2], [0, 1, 2, 3], [], [5], [], [7], [7, 8], [7, 8, 9], [5, 6, 7, 8, 9, 10], [5, 6, 7, 8, 9, 10, 11], [5, 6, 7, 8, 9, 10, 11, 12], [], [], [0, 1, 2, 3, 4, 14, 15], [0, 1, 2, 3, 4, 5, 6, 7, 8, 9, 10, 11, 12, 13, 14, 15, 16]], [(44, 7), (46, 7), (51, 7)])
  | 4 => ([[], [0], [0, 1], [0, 1, 2], [0, 1, 2, 3], [0, 1, 2, 3, 4], [0, 1, 2, 3, 4, 5], [0, 1, 2, 3, 4, 5, 6], [0, 1, 2, 3, 4, 5, 6], [0, 1, 2, 3, 4, 5, 6, 8], [0, 1, 2, 3, 4, 5, 6, 7, 8, 9], [0, 1, 2, 3, 4, 5, 6], [0, 1, 2, 3, 4, 5, 6, 7, 8, 9, 10, 11], [0, 1, 2, 3, 4, 5, 6, 7, 8, 9, 10, 11, 12], [0, 1, 2, 3, 4, 5, 6, 7, 8, 9, 10, 11, 12, 13], [0, 1, 2, 3, 4, 5, 6, 7, 8, 9, 10, 11, 12, 13, 14], [0, 1, 2, 3, 4, 5, 6, 7, 8, 9, 10, 11, 12, 13, 14, 15], [0, 1, 2, 3, 4, 5, 6, 7, 8, 9, 10, 11, 12, 13, 14], [0, 1, 2, 3, 4, 5, 6, 7, 8, 9, 10, 11, 12, 13, 14, 17], [0, 1, 2, 3, 4, 5, 6, 7, 8, 9, 10, 11, 12, 13, 14, 17, 18], [0, 1, 2, 3, 4, 5, 6, 7, 8, 9, 10, 11, 12, 13, 14, 17, 18, 19], [0, 1, 2, 3, 4, 5, 6, 7, 8, 9, 10, 11, 12, 13, 14, 15, 16, 17, 18, 19, 20], [0, 1, 2, 3, 4, 5, 6, 7, 8, 9, 10, 11, 12, 13, 14, 15, 16, 17, 18, 19, 20, 21], [0, 1, 2, 3, 4, 5, 6, 7, 8, 9, 10, 11, 12, 13, 14, 15, 16, 17, 18, 19, 20, 21, 22], [0, 1, 2, 3, 4, 5, 6, 7, 8, 9, 10, 11, 12, 13, 14, 15, 16, 17, 18, 19, 20, 21, 22, 23], [0, 1, 2, 3, 4, 5, 6, 7, 8, 9, 10, 11, 12, 13, 14, 15, 16, 17, 18, 19, 20, 21, 22, 23, 24], [0, 1, 2, 3, 4, 5, 6, 7, 8, 9, 10, 11, 12, 13, 14, 15, 16, 17, 18, 19, 20, 21, 22, 23, 24, 25], [0, 1, 2, 3, 4, 5, 6, 7, 8, 9, 10, 11, 12, 13, 14, 15, 16, 17, 18, 19, 20, 21, 22, 23, 24, 25], [0, 1, 2, 3, 4, 5, 6, 7, 8, 9, 10, 11, 12, 13, 14, 15, 16, 17, 18, 19, 20, 21, 22, 23, 24, 25, 27], [0, 1, 2, 3, 4, 5, 6, 7, 8, 9, 10, 11, 12, 13, 14, 15, 16, 17, 18, 19, 20, 21, 22, 23, 24, 25, 26, 27, 28], [0, 1, 2, 3, 4, 5, 6, 7, 8, 9, 10, 11, 12, 13, 14, 15, 16, 17, 18, 19, 20, 21, 22, 23, 24, 25], [0, 1, 2, 3, 4, 5, 6, 7, 8, 9, 10, 11, 12, 13, 14, 15, 16, 17, 18, 19, 20, 21, 22, 23, 24, 25, 26, 27, 28, 29, 30], [0, 1, 2, 3, 4, 5, 6, 7, 8, 9, 10, 11, 12, 13, 14, 15, 16, 17, 18, 19, 20, 21, 22, 23, 24, 25, 26, 27, 28, 29, 30, 31], [0, 1, 2, 3, 4, 5, 6, 7, 8, 9, 10, 11, 12, 13, 14, 15, 16, 17, 18, 19, 20, 21, 22, 23, 24, 25, 26, 27, 28, 29, 30, 31, 32]], [])
  | 9 => ([[], [0], [0, 1], [0, 1, 2], [0, 1, 2], [0, 1, 2, 3, 4], [0, 1, 2], [0, 1, 2], [0, 1, 2, 3, 4, 5, 6, 7], [0, 1, 2, 3, 4, 5, 6, 7, 8], [0, 1, 2, 3, 4, 5, 6, 7, 8, 9], [0, 1, 2, 3, 4, 5, 6, 7, 8, 9, 10], [0, 1, 2, 3, 4, 5, 6, 7, 8, 9, 10, 11], [0, 1, 2, 3, 4, 5, 6, 7, 8, 9, 10, 11, 12], [0, 1, 2, 3, 4, 5, 6, 7, 8, 9, 10, 11, 12, 13]], [])
  | 11 => ([[], [0], [0, 1], [0, 1, 2], [0, 1, 2], [0, 1, 2, 3, 4], [0, 1, 2], [0, 1, 2], [0, 1, 2, 3, 4, 5, 6, 7], [0, 1, 2, 3, 4, 5, 6, 7, 8], [0, 1, 2, 3, 4, 5, 6, 7, 8, 9], [0, 1, 2, 3, 4, 5, 6, 7, 8, 9, 10], [0, 1, 2, 3, 4, 5, 6, 7, 8, 9, 10, 11], [0, 1, 2, 3, 4, 5, 6, 7, 8, 9, 10, 11, 12], [0, 1, 2, 3, 4, 5, 6, 7, 8, 9, 10, 11, 12, 13]], [])
  | _ => ([], [])
theorem ok3 : slimF Try.prog 0 mdA q3 none Try.f3 = some F3 := by kernel_rfl
def q4 : Nat → List (List Nat) × List (Nat × Nat)
  | 13 => ([[], [0], [0, 1], [], [3], [0, 1, 2, 3, 4], [], [6], [0, 1, 2, 3, 4, 5, 6, 7], [], [0, 1, 2, 3, 4, 5, 6, 7, 8, 9], [0, 1, 2, 3, 4, 5, 6, 7, 8, 9, 10], [0, 1, 2, 3, 4, 5, 6, 7, 8, 9, 10, 11], [0, 1, 2, 3, 4, 5, 6, 7, 8, 9, 10, 11, 12]], [])
  | 15 => ([[], [0], [0, 1], [], [3], [0, 1, 2, 3, 4], [], [6], [0, 1, 2, 3, 4, 5, 6, 7], [], [0, 1, 2, 3, 4, 5, 6, 7, 8, 9], [0, 1, 2, 3, 4, 5, 6, 7, 8, 9, 10], [0, 1, 2, 3, 4, 5, 6, 7, 8, 9, 10, 11], [0, 1, 2, 3, 4, 5, 6, 7, 8, 9, 10, 11, 12]], [])
  | 17 => ([[], [0], [], [0, 1, 2], [0, 1, 2, 3], [0, 1, 2, 3, 4], [0, 1, 2, 3, 4, 5], [0, 1, 2, 3, 4, 5, 6], [0, 1, 2, 3, 4, 5, 6, 7], [0, 1, 2, 3, 4, 5, 6, 7, 8], [0, 1, 2, 3, 4, 5, 6, 7, 8, 9], [0, 1, 2, 3, 4, 5, 6, 7, 8, 9, 10]], [])
  | _ => ([], [])
theorem ok4 : slimF Try.prog 0 mdA q4 none Try.f4 = some F4 := by kernel_rfl
def q5 : Nat → List (List Nat) × List (Nat × Nat)
  | _ => ([], [])
theorem ok5 : slimF Try.prog 0 mdA q5 none Try.f5 = some F5 := by kernel_rfl
def q6 : Nat → List (List Nat) × List (Nat × Nat)
  | _ => ([], [])
theorem ok6 : slimF Try.prog 0 mdA q6 none Try.f6 = some F6 := by kernel_rfl
def q7 : Nat → List (List Nat) × List (Nat × Nat)
  | _ => ([], [])
theorem ok7 : slimF Try.prog 0 mdA q7 none Try.f7 = some F7 := by kernel_rfl
def q8 : Nat → List (List Nat) × List (Nat × Nat)
  | _ => ([], [])
theorem ok8 : slimF Try.prog 0 mdA q8 none Try.f8 = some F8 := by kernel_rfl
def q9 : Nat → List (List Nat) × List (Nat × Nat)
  | _ => ([], [])
theorem ok9 : slimF Try.prog 0 mdA q9 none Try.f9 = some F9 := by kernel_rfl
def q10 : Nat → List (List Nat) × List (Nat × Nat)
  | 1 => ([[], [0], [0, 1], [], [3], [0, 1, 2, 3, 4], [0, 1, 2, 3, 4, 5], [0, 1, 2, 3, 4, 5, 6]], [])
  | 5 => ([[], [0], [], [], [2, 3], [0, 1, 2, 3, 4], [0, 1, 2, 3, 4, 5], [0, 1, 2, 3, 4, 5, 6], [0, 1, 2, 3, 4, 5, 6], [0, 1, 2, 3, 4, 5, 6, 7]], [])
  | 7 => ([[], [0], [], [], [2, 3], [0, 1, 2, 3, 4], [0, 1, 2, 3, 4, 5], [0, 1, 2, 3, 4, 5, 6], [0, 1, 2, 3, 4, 5, 6], [0, 1, 2, 3, 4, 5, 6, 7]], [])
  | _ => ([], [])
theorem ok10 : slimF Try.prog 0 mdA q10 none Try.f10 = some F10 := by kernel_rfl
def q11 : Nat → List (List Nat) × List (Nat × Nat)
  | _ => ([], [])
theorem ok11 : slimF Try.prog 0 mdA q11 none Try.f11 = some F11 := by kernel_rfl
def q12 : Nat → List (List Nat) × List (Nat × Nat)
  | _ => ([], [])
theorem ok12 : slimF Try.prog 0 mdA q12 none Try.f12 = some F12 := by kernel_rfl
def q13 : Nat → List (List Nat) × List (Nat × Nat)
  | _ => ([], [])
theorem ok13 : slimF Try.prog 0 mdA q13 none Try.f13 = some F13 := by kernel_rfl
def q14 : Nat → List (List Nat) × List (Nat × Nat)
  | 7 => ([[], [], [1], [0, 1, 2], [0, 1, 2, 3], [0, 1, 2, 3, 4], [], [], [6, 7], [6, 7, 8], [6, 7, 8, 9], [], [], [], [13], [12, 13, 14], [12, 13, 14, 15], [12, 13, 14, 15, 16], [11, 12, 13, 14, 15, 16, 17], [11, 12, 13, 14, 15, 16, 17, 18], [], [], [20, 21], [20, 21, 22], [20, 21, 22, 23], [], [], [26], [25, 26, 27], [25, 26, 27, 28], [25, 26, 27, 28, 29], [20, 21, 22, 23, 24, 25, 26, 27, 28, 29, 30], [11, 12, 13, 14, 15, 16, 17, 18, 19, 20, 21, 22, 23, 24, 25, 26, 27, 28, 29, 30, 31], [0, 1, 2, 3, 4, 5, 6, 7, 8, 9, 10, 11, 12, 13, 14, 15, 16, 17, 18, 19, 20, 21, 22, 23, 24, 25, 26, 27, 28, 29, 30, 31, 32], [0, 1, 2, 3, 4, 5, 6, 7, 8, 9, 10, 11, 12, 13, 14, 15, 16, 17, 18, 19, 20, 21, 22, 23, 24, 25, 26, 27, 28, 29, 30, 31, 32, 33]], [])
  | _ => ([], [])
theorem ok14 : slimF Try.prog 0 mdA q14 none Try.f14 = some F14 := by kernel_rfl
def q15 : Nat → List (List Nat) × List (Nat × Nat)
  | 5 => ([[], [], [1], [], [3], [3, 4], [1, 2, 3, 4, 5], [1, 2, 3, 4, 5, 6], [0, 1, 2, 3, 4, 5, 6, 7], [0, 1, 2, 3, 4, 5, 6, 7, 8]], [])
  | _ => ([], [])
theorem ok15 : slimF Try.prog 0 mdA q15 none Try.f15 = some F15 := by kernel_rfl
def q16 : Nat → List (List Nat) × List (Nat × Nat)
  | 1 => ([[], [0], [], [2], [0, 1, 2, 3], [], [5], [], [7], [5, 6, 7, 8], [0, 1, 2, 3, 4], [0, 1, 2, 3, 4, 5, 6, 7, 8, 9, 10]], [])
  | 2 => ([[], [0], [0, 1], [], [3], [0, 1, 2, 3, 4], [], [6], [0, 1, 2, 6, 7], [], [9], [0, 1, 2, 6, 7, 8, 9, 10], [0, 1, 2, 3, 4, 5, 6, 7, 8], [0, 1, 2, 3, 4, 5, 6, 7, 8, 9, 10, 11, 12]], [])
  | _ => ([], [])
theorem ok16 : slimF Try.prog 0 mdA q16 none Try.f16 = some F16 := by kernel_rfl
def q17 : Nat → List (List Nat) × List (Nat × Nat)
  | _ => ([], [])
theorem ok17 : slimF Try.prog 0 mdA q17 none Try.f17 = some F17 := by kernel_rfl
def q18 : Nat → List (List Nat) × List (Nat × Nat)
  | 1 => ([[], [0], [0, 1], [], [3], [0, 1, 2, 3, 4], [0, 1, 2, 3, 4, 5], [], [0, 1, 2, 3, 4, 5, 6, 7]], [])
  | 2 => ([[], [], [0, 1], [0, 1, 2], [], [], [0, 1, 2, 4, 5], [0, 1, 2, 3, 4, 5, 6], [0, 1, 2, 3, 4, 5, 6, 7]], [])
  | _ => ([], [])
theorem ok18 : slimF Try.prog 0 mdA q18 none Try.f18 = some F18 := by kernel_rfl
def q19 : Nat → List (List Nat) × List (Nat × Nat)
  | _ => ([], [])
theorem ok19 : slimF Try.prog 0 mdA q19 none Try.f19 = some F19 := by kernel_rfl
def q20 : Nat → List (List Nat) × List (Nat × Nat)
  | _ => ([], [])
theorem ok20 : slimF Try.prog 0 mdA q20 none Try.f20 = some F20 := by kernel_rfl
def q21 : Nat → List (List Nat) × List (Nat × Nat)
  | _ => ([], [])
theorem ok21 : slimF Try.prog 0 mdA q21 none Try.f21 = some F21 := by kernel_rfl
def q22 : Nat → List (List Nat) × List (Nat × Nat)
  | _ => ([], [])
theorem ok22 : slimF Try.prog 0 mdA q22 none Try.f22 = some F22 := by kernel_rfl
def q23 : Nat → List (List Nat) × List (Nat × Nat)
  | _ => ([], [])
theorem ok23 : slimF Try.prog 0 mdA q23 none Try.f23 = some F23 := by kernel_rfl
def q24 : Nat → List (List Nat) × List (Nat × Nat)
  | _ => ([], [])
theorem ok24 : slimF Try.prog 0 mdA q24 none Try.f24 = some F24 := by kernel_rfl
def q25 : Nat → List (List Nat) × List (Nat × Nat)
  | _ => ([], [])
theorem ok25 : slimF Try.prog 0 mdA q25 none Try.f25 = some F25 := by kernel_rfl
def q26 : Nat → List (List Nat) × List (Nat × Nat)
  | 4 => ([[], [], [0, 1], [0, 1, 2], [0, 1, 2, 3], [0, 1, 2, 3, 4], [0, 1, 2, 3, 4, 5], [0, 1, 2, 3, 4, 5, 6], [0, 1, 2, 3, 4, 5, 6], [0, 1, 2, 3, 4, 5, 6, 7, 8], [0, 1, 2, 3, 4, 5, 6, 7, 8, 9], [0, 1, 2, 3, 4, 5, 6, 7, 8, 9, 10], [0, 1, 2, 3, 4, 5, 6, 7, 8, 9, 10, 11], [0, 1, 2, 3, 4, 5, 6, 7, 8, 9, 10, 11, 12], [0, 1, 2, 3, 4, 5, 6, 7, 8, 9, 10, 11, 12, 13], [0, 1, 2, 3, 4, 5, 6, 7, 8, 9, 10, 11, 12, 13, 14], [0, 1, 2, 3, 4, 5, 6, 7, 8, 9, 10, 11, 12, 13, 14], [0, 1, 2, 3, 4, 5, 6, 7, 8, 9, 10, 11, 12, 13, 14, 15, 16], [0, 1, 2, 3, 4, 5, 6, 7, 8, 9, 10, 11, 12, 13, 14, 15, 16, 17], [0, 1, 2, 3, 4, 5, 6, 7, 8, 9, 10, 11, 12, 13, 14, 15, 16, 17, 18], [0, 1, 2, 3, 4, 5, 6, 7, 8, 9, 10, 11, 12, 13, 14, 15, 16, 17, 18, 19], [0, 1, 2, 3, 4, 5, 6, 7, 8, 9, 10, 11, 12, 13, 14, 15, 16, 17, 18, 19, 20], [0, 1, 2, 3, 4, 5, 6, 7, 8, 9, 10, 11, 12, 13, 14, 15, 16, 17, 18, 19, 20, 21], [0, 1, 2, 3, 4, 5, 6, 7, 8, 9, 10, 11, 12, 13, 14, 15, 16, 17, 18, 19, 20, 21, 22], [0, 1, 2, 3, 4, 5, 6, 7, 8, 9, 10, 11, 12, 13, 14, 15, 16, 17, 18, 19, 20, 21, 22, 23], [0, 1, 2, 3, 4, 5, 6, 7, 8, 9, 10, 11, 12, 13, 14, 15, 16, 17, 18, 19, 20, 21, 22, 23, 24], [0, 1, 2, 3, 4, 5, 6, 7, 8, 9, 10, 11, 12, 13, 14, 15, 16, 17, 18, 19, 20, 21, 22, 23, 24, 25], [0, 1, 2, 3, 4, 5, 6, 7, 8, 9, 10, 11, 12, 13, 14, 15, 16, 17, 18, 19, 20, 21, 22, 23, 24, 25, 26], [0, 1, 2, 3, 4, 5, 6, 7, 8, 9, 10, 11, 12, 13, 14, 15, 16, 17, 18, 19, 20, 21, 22, 23, 24, 25, 26], [0, 1, 2, 3, 4, 5, 6, 7, 8, 9, 10, 11, 12, 13, 14, 15, 16, 17, 18, 19, 20, 21, 22, 23, 24, 25, 26, 28], [0, 1, 2, 3, 4, 5, 6, 7, 8, 9, 10, 11, 12, 13, 14, 15, 16, 17, 18, 19, 20, 21, 22, 23, 24, 25, 26, 27, 28, 29], [0, 1, 2, 3, 4, 5, 6, 7, 8, 9, 10, 11, 12, 13, 14, 15, 16, 17, 18, 19, 20, 21, 22, 23, 24, 25, 26, 27, 28, 29, 30], [0, 1, 2, 3, 4, 5, 6, 7, 8, 9, 10, 11, 12, 13, 14, 15, 16, 17, 18, 19, 20, 21, 22, 23, 24, 25, 26, 27, 28, 29, 30, 31], [0, 1, 2, 3, 4, 5, 6, 7, 8, 9, 10, 11, 12, 13, 14, 15, 16, 17, 18, 19, 20, 21, 22, 23, 24, 25, 26], [0, 1, 2, 3, 4, 5, 6, 7, 8, 9, 10, 11, 12, 13, 14, 15, 16, 17, 18, 19, 20, 21, 22, 23, 24, 25, 26], [0, 1, 2, 3, 4, 5, 6, 7, 8, 9, 10, 11, 12, 13, 14, 15, 16, 17, 18, 19, 20, 21, 22, 23, 24, 25, 26, 33, 34], [0, 1, 2, 3, 4, 5, 6, 7, 8, 9, 10, 11, 12, 13, 14, 15, 16, 17, 18, 19, 20, 21, 22, 23, 24, 25, 26, 33, 34, 35], [0, 1, 2, 3, 4, 5, 6, 7, 8, 9, 10, 11, 12, 13, 14, 15, 16, 17, 18, 19, 20, 21, 22, 23, 24, 25, 26, 33, 34, 35, 36], [0, 1, 2, 3, 4, 5, 6, 7, 8, 9, 10, 11, 12, 13, 14, 15, 16, 17, 18, 19, 20, 21, 22, 23, 24, 25, 26, 27, 28, 29, 30, 31, 32, 33, 34, 35, 36, 37], [0, 1, 2, 3, 4, 5, 6, 7, 8, 9, 10, 11, 12, 13, 14, 15, 16, 17, 18, 19, 20, 21, 22, 23, 24, 25, 26, 27, 28, 29, 30, 31, 32, 33, 34, 35, 36, 37, 38], [0, 1, 2, 3, 4, 5, 6, 7, 8, 9, 10, 11, 12, 13, 14, 15, 16, 17, 18, 19, 20, 21, 22, 23, 24, 25, 26, 27, 28, 29, 30, 31, 32, 33, 34, 35, 36, 37, 38, 39]], [])
  | _ => ([], [])
theorem ok26 : slimF Try.prog 0 mdA q26 none Try.f26 = some F26 := by kernel_rfl
def q27 : Nat → List (List Nat) × List (Nat × Nat)
  | _ => ([], [])
theorem ok27 : slimF Try.prog 0 mdA q27 none Try.f27 = some F27 := by kernel_rfl
def q28 : Nat → List (List Nat) × List (Nat × Nat)
  | 5 => ([[], [], [1], [1, 2], [1, 2, 3], [0, 1, 2, 3, 4], [0, 1, 2, 3, 4, 5]], [])
  | 10 => ([[], [], [1], [0, 1, 2], [0, 1, 2, 3], [], [], [5, 6], [5, 6, 7], [], [], [0, 1, 2, 3, 4, 9, 10], [0, 1, 2, 3, 4, 5, 6, 7, 8, 9, 10, 11]], [(51, 9)])
  | 11 => ([[], [0], [], [2], [], [], [5], [4, 5, 6], [4, 5, 6, 7], [], [9], [], [11], [9, 10, 11, 12], [4, 5, 6, 7, 8, 9, 10, 11, 12, 13], [0, 1, 2, 3, 4, 5, 6, 7, 8, 9, 10, 11, 12, 13, 14], [0, 1, 2, 3, 4, 5, 6, 7, 8, 9, 10, 11, 12, 13, 14, 15], [0, 1, 2, 3, 4, 5, 6, 7, 8, 9, 10, 11, 12, 13, 14, 15, 16]], [])
  | _ => ([], [])
theorem ok28 : slimF Try.prog 0 mdA q28 none Try.f28 = some F28 := by kernel_rfl
def q29 : Nat → List (List Nat) × List (Nat × Nat)
  | 1 => ([[], [0], [0, 1], [], [3], [3, 4], [0, 1, 2, 3, 4, 5], [], [7], [7, 8], [], [10], [10, 11], [7, 8, 9, 10, 11, 12], [0, 1, 2, 3, 4, 5, 6, 7, 8, 9, 10, 11, 12, 13], [], [15], [], [17], [17, 18], [15, 16, 17, 18, 19], [], [21], [], [23], [23, 24], [21, 22, 23, 24, 25], [15, 16, 17, 18, 19, 20, 21, 22, 23, 24, 25, 26], [], [], [0, 1, 2, 3, 4, 5, 6, 7, 8, 9, 10, 11, 12, 13, 14, 28, 29], [0, 1, 2, 3, 4, 5, 6, 7, 8, 9, 10, 11, 12, 13, 14, 15, 16, 17, 18, 19, 20, 21, 22, 23, 24, 25, 26, 27, 28, 29, 30]], [(25, 5), (28, 5), (31, 5), (34, 5)])
  | _ => ([], [])
theorem ok29 : slimF Try.prog 0 mdA q29 none Try.f29 = some F29 := by kernel_rfl
def q30 : Nat → List (List Nat) × List (Nat × Nat)
  | _ => ([], [])
theorem ok30 : slimF Try.prog 0 mdA q30 none Try.f30 = some F30 := by kernel_rfl
def q31 : Nat → List (List Nat) × List (Nat × Nat)
  | _ => ([], [])
theorem ok31 : slimF Try.prog 0 mdA q31 none Try.f31 = some F31 := by kernel_rfl
def q32 : Nat → List (List Nat) × List (Nat × Nat)
  | 5 => ([[], [0], [0, 1], [0, 1, 2], [0, 1, 2, 3], [0, 1, 2, 3, 4], [0, 1, 2, 3, 4, 5], [0, 1, 2, 3, 4, 5, 6], [0, 1, 2, 3, 4, 5, 6, 7], [0, 1, 2, 3, 4, 5, 6, 7, 8], [0, 1, 2, 3, 4, 5, 6, 7, 8, 9], [0, 1, 2, 3, 4, 5, 6, 7, 8, 9, 10], [0, 1, 2, 3, 4, 5, 6, 7, 8, 9, 10, 11], [0, 1, 2, 3, 4, 5, 6, 7, 8, 9, 10, 11, 12], [0, 1, 2, 3, 4, 5, 6, 7, 8, 9, 10, 11, 12, 13], [0, 1, 2, 3, 4, 5, 6, 7, 8, 9, 10, 11, 12, 13, 14], [0, 1, 2, 3, 4, 5, 6, 7, 8, 9, 10, 11, 12, 13, 14, 15], [0, 1, 2, 3, 4, 5, 6, 7, 8, 9, 10, 11, 12, 13, 14, 15, 16], [0, 1, 2, 3, 4, 5, 6, 7, 8, 9, 10, 11, 12, 13, 14, 15, 16, 17], [0, 1, 2, 3, 4, 5, 6, 7, 8, 9, 10, 11, 12, 13, 14, 15, 16, 17, 18], [0, 1, 2, 3, 4, 5, 6, 7, 8, 9, 10, 11, 12, 13, 14, 15, 16, 17, 18, 19], [0, 1, 2, 3, 4, 5, 6, 7, 8, 9, 10, 11, 12, 13, 14, 15, 16, 17, 18, 19], [0, 1, 2, 3, 4, 5, 6, 7, 8, 9, 10, 11, 12, 13, 14, 15, 16, 17, 18, 19, 21], [0, 1, 2, 3, 4, 5, 6, 7, 8, 9, 10, 11, 12, 13, 14, 15, 16, 17, 18, 19, 20, 21, 22], [0, 1, 2, 3, 4, 5, 6, 7, 8, 9, 10, 11, 12, 13, 14, 15, 16, 17, 18, 19, 20, 21, 22, 23], [0, 1, 2, 3, 4, 5, 6, 7, 8, 9, 10, 11, 12, 13, 14, 15, 16, 17, 18, 19, 20, 21, 22, 23, 24], [0, 1, 2, 3, 4, 5, 6, 7, 8, 9, 10, 11, 12, 13, 14, 15, 16, 17, 18, 19], [0, 1, 2, 3, 4, 5, 6, 7, 8, 9, 10, 11, 12, 13, 14, 15, 16, 17, 18, 19, 26], [0, 1, 2, 3, 4, 5, 6, 7, 8, 9, 10, 11, 12, 13, 14, 15, 16, 17, 18, 19, 20, 21, 22, 23, 24, 25, 26, 27], [0, 1, 2, 3, 4, 5, 6, 7, 8, 9, 10, 11, 12, 13, 14, 15, 16, 17, 18, 19, 20, 21, 22, 23, 24, 25, 26, 27, 28], [0, 1, 2, 3, 4, 5, 6, 7, 8, 9, 10, 11, 12, 13, 14, 15, 16, 17, 18, 19, 20, 21, 22, 23, 24, 25, 26, 27, 28, 29], [0, 1, 2, 3, 4, 5, 6, 7, 8, 9, 10, 11, 12, 13, 14, 15, 16, 17, 18, 19, 20, 21, 22, 23, 24, 25, 26, 27, 28, 29, 30]], [])
  | _ => ([], [])
theorem ok32 : slimF Try.prog 0 mdA q32 none Try.f32 = some F32 := by kernel_rfl
def q33 : Nat → List (List Nat) × List (Nat × Nat)
  | 6 => ([[], [], [0, 1], [0, 1, 2], [], [], [4, 5], [4, 5, 6], [0, 1, 2, 3, 4, 5, 6, 7]], [])
  | _ => ([], [])
theorem ok33 : slimF Try.prog 0 mdA q33 none Try.f33 = some F33 := by kernel_rfl
def q34 : Nat → List (List Nat) × List (Nat × Nat)
  | 4 => ([[], [], [1], [1, 2], [], [4], [1, 2, 3, 4, 5], [], [7], [7, 8], [], [7, 8, 9, 10], [1, 2, 3, 4, 5, 6, 7, 8, 9, 10, 11], [1, 2, 3, 4, 5, 6, 7, 8, 9, 10, 11, 12], [0, 1, 2, 3, 4, 5, 6, 7, 8, 9, 10, 11, 12, 13], [0, 1, 2, 3, 4, 5, 6, 7, 8, 9, 10, 11, 12, 13, 14]], [])
  | _ => ([], [])
theorem ok34 : slimF Try.prog 0 mdA q34 none Try.f34 = some F34 := by kernel_rfl
def q35 : Nat → List (List Nat) × List (Nat × Nat)
  | _ => ([], [])
theorem ok35 : slimF Try.prog 0 mdA q35 none Try.f35 = some F35 := by kernel_rfl
def q36 : Nat → List (List Nat) × List (Nat × Nat)
  | _ => ([], [])
theorem ok36 : slimF Try.prog 0 mdA q36 none Try.f36 = some F36 := by kernel_rfl
def q37 : Nat → List (List Nat) × List (Nat × Nat)
  | 1 => ([[], [0], [], [2], [0, 1, 2, 3], [], [5], [], [7], [5, 6, 7, 8], [0, 1, 2, 3, 4], [0, 1, 2, 3, 4, 5, 6, 7, 8, 9, 10]], [])
  | _ => ([], [])
theorem ok37 : slimF Try.prog 0 mdA q37 none Try.f37 = some F37 := by kernel_rfl
def q38 : Nat → List (List Nat) × List (Nat × Nat)
  | 6 => ([[], [], [0, 1], [0, 1, 2], [], [], [4, 5], [4, 5, 6], [0, 1, 2, 3, 4, 5, 6, 7]], [])
  | _ => ([], [])
theorem ok38 : slimF Try.prog 0 mdA q38 none Try.f38 = some F38 := by kernel_rfl
def q39 : Nat → List (List Nat) × List (Nat × Nat)
  | 11 => ([[], [0], [0, 1], [0, 1, 2], [0, 1, 2, 3], [0, 1, 2, 3, 4], [0, 1, 2, 3], [0, 1, 2, 3, 6], [0, 1, 2, 3, 4, 5, 6, 7], [0, 1, 2, 3, 4, 5, 6, 7, 8]], [])
  | _ => ([], [])
theorem ok39 : slimF Try.prog 0 mdA q39 none Try.f39 = some F39 := by kernel_rfl
def q40 : Nat → List (List Nat) × List (Nat × Nat)
  | _ => ([], [])
theorem ok40 : slimF Try.prog 0 mdA q40 none Try.f40 = some F40 := by kernel_rfl
def q41 : Nat → List (List Nat) × List (Nat × Nat)
  | _ => ([], [])
theorem ok41 : slimF Try.prog 0 mdA q41 none Try.f41 = some F41 := by kernel_rfl
def q42 : Nat → List (List Nat) × List (Nat × Nat)
  | 6 => ([[], [], [1], [1, 2], [1, 2, 3], [], [5], [1, 2, 3, 4, 5, 6], [], [8], [8, 9], [8, 9, 10], [], [8, 9, 10, 11, 12], [1, 2, 3, 4, 5, 6, 7, 8, 9, 10, 11, 12, 13], [1, 2, 3, 4, 5, 6, 7, 8, 9, 10, 11, 12, 13, 14], [1, 2, 3, 4, 5, 6, 7, 8, 9, 10, 11, 12, 13, 14, 15], [1, 2, 3, 4, 5, 6, 7, 8, 9, 10, 11, 12, 13, 14, 15, 16], [0, 1, 2, 3, 4, 5, 6, 7, 8, 9, 10, 11, 12, 13, 14, 15, 16, 17], [0, 1, 2, 3, 4, 5, 6, 7, 8, 9, 10, 11, 12, 13, 14, 15, 16, 17, 18]], [])
  | _ => ([], [])
theorem ok42 : slimF Try.prog 0 mdA q42 none Try.f42 = some F42 := by kernel_rfl
def q43 : Nat → List (List Nat) × List (Nat × Nat)
  | 10 => ([[], [], [0, 1], [0, 1, 2]], [])
  | _ => ([], [])
theorem ok43 : slimF Try.prog 0 mdA q43 none Try.f43 = some F43 := by kernel_rfl
def q44 : Nat → List (List Nat) × List (Nat × Nat)
  | 3 => ([[], [0], [], [2], [0, 1, 2, 3], [], [5], [], [7], [5, 6, 7, 8], [0, 1, 2, 3, 4], [0, 1, 2, 3, 4, 5, 6, 7, 8, 9, 10]], [])
  | _ => ([], [])
theorem ok44 : slimF Try.prog 0 mdA q44 none Try.f44 = some F44 := by kernel_rfl
def q45 : Nat → List (List Nat) × List (Nat × Nat)
  | _ => ([], [])
theorem ok45 : slimF Try.prog 0 mdA q45 none Try.f45 = some F45 := by kernel_rfl
def q46 : Nat → List (List Nat) × List (Nat × Nat)
  | _ => ([], [])
theorem ok46 : slimF Try.prog 0 mdA q46 none Try.f46 = some F46 := by kernel_rfl
def q47 : Nat → List (List Nat) × List (Nat × Nat)
  | _ => ([], [])
theorem ok47 : slimF Try.prog 0 mdA q47 none Try.f47 = some F47 := by kernel_rfl
def q48 : Nat → List (List Nat) × List (Nat × Nat)
  | _ => ([], [])
theorem ok48 : slimF Try.prog 0 mdA q48 none Try.f48 = some F48 := by kernel_rfl
def q49 : Nat → List (List Nat) × List (Nat × Nat)
  | _ => ([], [])
theorem ok49 : slimF Try.prog 0 mdA q49 none Try.f49 = some F49 := by kernel_rfl
def q50 : Nat → List (List Nat) × List (Nat × Nat)
  | 6 => ([[], [], [0, 1], [], [], [3, 4], [0, 1, 2], [0, 1, 2, 3, 4, 5, 6]], [])
  | _ => ([], [])
theorem ok50 : slimF Try.prog 0 mdA q50 none Try.f50 = some F50 := by kernel_rfl
def q51 : Nat → List (List Nat) × List (Nat × Nat)
  | _ => ([], [])
theorem ok51 : slimF Try.prog 0 mdA q51 none Try.f51 = some F51 := by kernel_rfl
def q52 : Nat → List (List Nat) × List (Nat × Nat)
  | _ => ([], [])
theorem ok52 : slimF Try.prog 0 mdA q52 none Try.f52 = some F52 := by kernel_rfl
def q53 : Nat → List (List Nat) × List (Nat × Nat)
  | _ => ([], [])
theorem ok53 : slimF Try.prog 0 mdA q53 none Try.f53 = some F53 := by kernel_rfl
def q54 : Nat → List (List Nat) × List (Nat × Nat)
  | 2 => ([[], [], [1], [0, 1, 2]], [])
  | _ => ([], [])
theorem ok54 : slimF Try.prog 0 mdA q54 none Try.f54 = some F54 := by kernel_rfl
def q55 : Nat → List (List Nat) × List (Nat × Nat)
  | _ => ([], [])
theorem ok55 : slimF Try.prog 0 mdA q55 none Try.f55 = some F55 := by kernel_rfl
def q56 : Nat → List (List Nat) × List (Nat × Nat)
  | _ => ([], [])
theorem ok56 : slimF Try.prog 0 mdA q56 none Try.f56 = some F56 := by kernel_rfl
def q57 : Nat → List (List Nat) × List (Nat × Nat)
  | _ => ([], [])
theorem ok57 : slimF Try.prog 0 mdA q57 none Try.f57 = some F57 := by kernel_rfl
def q59 : Nat → List (List Nat) × List (Nat × Nat)
  | _ => ([], [])
theorem ok59 : slimF Try.prog 0 mdA q59 none Try.f59 = some F59 := by kernel_rfl
def q60 : Nat → List (List Nat) × List (Nat × Nat)
  | _ => ([], [])
theorem ok60 : slimF Try.prog 0 mdA q60 none Try.f60 = some F60 := by kernel_rfl
def q61 : Nat → List (List Nat) × List (Nat × Nat)
  | _ => ([], [])
theorem ok61 : slimF Try.prog 0 mdA q61 none Try.f61 = some F61 := by kernel_rfl
def q62 : Nat → List (List Nat) × List (Nat × Nat)
  | 1 => ([[], [0], [], [2], [0, 1, 2, 3], [], [5], [], [7], [0, 1, 2, 3, 4, 5, 6, 7, 8], [0, 1, 2, 3, 4, 5, 6, 7, 8, 9], [0, 1, 2, 3, 4, 5, 6, 7, 8, 9, 10], [0, 1, 2, 3, 4, 5, 6, 7, 8, 9, 10, 11]], [])
  | _ => ([], [])
theorem ok62 : slimF Try.prog 0 mdA q62 none Try.f62 = some F62 := by kernel_rfl
def q63 : Nat → List (List Nat) × List (Nat × Nat)
  | _ => ([], [])
theorem ok63 : slimF Try.prog 0 mdA q63 none Try.f63 = some F63 := by kernel_rfl
def q65 : Nat → List (List Nat) × List (Nat × Nat)
  | _ => ([], [])
theorem ok65 : slimF Try.prog 0 mdA q65 none Try.f65 = some F65 := by kernel_rfl
def q66 : Nat → List (List Nat) × List (Nat × Nat)
  | _ => ([], [])
theorem ok66 : slimF Try.prog 0 mdA q66 none Try.f66 = some F66 := by kernel_rfl
def q67 : Nat → List (List Nat) × List (Nat × Nat)
  | _ => ([], [])
theorem ok67 : slimF Try.prog 0 mdA q67 none Try.f67 = some F67 := by kernel_rfl
def q68 : Nat → List (List Nat) × List (Nat × Nat)
  | _ => ([], [])
theorem ok68 : slimF Try.prog 0 mdA q68 none Try.f68 = some F68 := by kernel_rfl
def q69 : Nat → List (List Nat) × List (Nat × Nat)
  | _ => ([], [])
theorem ok69 : slimF Try.prog 0 mdA q69 none Try.f69 = some F69 := by kernel_rfl
def qA : Nat → Nat → List (List Nat) × List (Nat × Nat)
  | 3 => q3
  | 4 => q4
  | 5 => q5
  | 6 => q6
  | 7 => q7
  | 8 => q8
  | 9 => q9
  | 10 => q10
  | 11 => q11
  | 12 => q12
  | 13 => q13
  | 14 => q14
  | 15 => q15
  | 16 => q16
  | 17 => q17
  | 18 => q18
  | 19 => q19
  | 20 => q20
  | 21 => q21
  | 22 => q22
  | 23 => q23
  | 24 => q24
  | 25 => q25
  | 26 => q26
  | 27 => q27
  | 28 => q28
  | 29 => q29
  | 30 => q30
  | 31 => q31
  | 32 => q32
  | 33 => q33
  | 34 => q34
  | 35 => q35
  | 36 => q36
  | 37 => q37
  | 38 => q38
  | 39 => q39
  | 40 => q40
  | 41 => q41
  | 42 => q42
  | 43 => q43
  | 44 => q44
  | 45 => q45
  | 46 => q46
  | 47 => q47
  | 48 => q48
  | 49 => q49
  | 50 => q50
  | 51 => q51
  | 52 => q52
  | 53 => q53
  | 54 => q54
  | 55 => q55
  | 56 => q56
  | 57 => q57
  | 59 => q59
  | 60 => q60
  | 61 => q61
  | 62 => q62
  | 63 => q63
  | 65 => q65
  | 66 => q66
  | 67 => q67
  | 68 => q68
  | 69 => q69
  | _ => fun _ => ([], [])
theorem TA_ok : ∀ f sf, TA f = some sf → ∃ fn, Try.prog.funcs[f]? = some fn ∧ slimF Try.prog 0 mdA (qA f) none fn = some sf := by
  intro f sf h
  unfold TA at h
  split at h
  · cases h; exact ⟨Try.f3, Try.func3, ok3⟩
  · cases h; exact ⟨Try.f4, Try.func4, ok4⟩
  · cases h; exact ⟨Try.f5, Try.func5, ok5⟩
  · cases h; exact ⟨Try.f6, Try.func6, ok6⟩
  · cases h; exact ⟨Try.f7, Try.func7, ok7⟩
  · cases h; exact ⟨Try.f8, Try.func8, ok8⟩
  · cases h; exact ⟨Try.f9, Try.func9, ok9⟩
  · cases h; exact ⟨Try.f10, Try.func10, ok10⟩
  · cases h; exact ⟨Try.f11, Try.func11, ok11⟩
  · cases h; exact ⟨Try.f12, Try.func12, ok12⟩
  · cases h; exact ⟨Try.f13, Try.func13, ok13⟩
  · cases h; exact ⟨Try.f14, Try.func14, ok14⟩
  · cases h; exact ⟨Try.f15, Try.func15, ok15⟩
  · cases h; exact ⟨Try.f16, Try.func16, ok16⟩
  · cases h; exact ⟨Try.f17, Try.func17, ok17⟩
  · cases h; exact ⟨Try.f18, Try.func18, ok18⟩
  · cases h; exact ⟨Try.f19, Try.func19, ok19⟩
  · cases h; exact ⟨Try.f20, Try.func20, ok20⟩
  · cases h; exact ⟨Try.f21, Try.func21, ok21⟩
  · cases h; exact ⟨Try.f22, Try.func22, ok22⟩
  · cases h; exact ⟨Try.f23, Try.func23, ok23⟩
  · cases h; exact ⟨Try.f24, Try.func24, ok24⟩
  · cases h; exact ⟨Try.f25, Try.func25, ok25⟩
  · cases h; exact ⟨Try.f26, Try.func26, ok26⟩
  · cases h; exact ⟨Try.f27, Try.func27, ok27⟩
  · cases h; exact ⟨Try.f28, Try.func28, ok28⟩
  · cases h; exact ⟨Try.f29, Try.func29, ok29⟩
  · cases h; exact ⟨Try.f30, Try.func30, ok30⟩
  · cases h; exact ⟨Try.f31, Try.func31, ok31⟩
  · cases h; exact ⟨Try.f32, Try.func32, ok32⟩
  · cases h; exact ⟨Try.f33, Try.func33, ok33⟩
  · cases h; exact ⟨Try.f34, Try.func34, ok34⟩
  · cases h; exact ⟨Try.f35, Try.func35, ok35⟩
  · cases h; exact ⟨Try.f36, Try.func36, ok36⟩
  · cases h; exact ⟨Try.f37, Try.func37, ok37⟩
  · cases h; exact ⟨Try.f38, Try.func38, ok38⟩
  · cases h; exact ⟨Try.f39, Try.func39, ok39⟩
  · cases h; exact ⟨Try.f40, Try.func40, ok40⟩
  · cases h; exact ⟨Try.f41, Try.func41, ok41⟩
  · cases h; exact ⟨Try.f42, Try.func42, ok42⟩
  · cases h; exact ⟨Try.f43, Try.func43, ok43⟩
  · cases h; exact ⟨Try.f44, Try.func44, ok44⟩
  · cases h; exact ⟨Try.f45, Try.func45, ok45⟩
  · cases h; exact ⟨Try.f46, Try.func46, ok46⟩
  · cases h; exact ⟨Try.f47, Try.func47, ok47⟩
  · cases h; exact ⟨Try.f48, Try.func48, ok48⟩
  · cases h; exact ⟨Try.f49, Try.func49, ok49⟩
  · cases h; exact ⟨Try.f50, Try.func50, ok50⟩
  · cases h; exact ⟨Try.f51, Try.func51, ok51⟩
  · cases h; exact ⟨Try.f52, Try.func52, ok52⟩
  · cases h; exact ⟨Try.f53, Try.func53, ok53⟩
  · cases h; exact ⟨Try.f54, Try.func54, ok54⟩
  · cases h; exact ⟨Try.f55, Try.func55, ok55⟩
  · cases h; exact ⟨Try.f56, Try.func56, ok56⟩
  · cases h; exact ⟨Try.f57, Try.func57, ok57⟩
  · cases h; exact ⟨Try.f59, Try.func59, ok59⟩
  · cases h; exact ⟨Try.f60, Try.func60, ok60⟩
  · cases h; exact ⟨Try.f61, Try.func61, ok61⟩
  · cases h; exact ⟨Try.f62, Try.func62, ok62⟩
  · cases h; exact ⟨Try.f63, Try.func63, ok63⟩
  · cases h; exact ⟨Try.f65, Try.func65, ok65⟩
  · cases h; exact ⟨Try.f66, Try.func66, ok66⟩
  · cases h; exact ⟨Try.f67, Try.func67, ok67⟩
  · cases h; exact ⟨Try.f68, Try.func68, ok68⟩
  · cases h; exact ⟨Try.f69, Try.func69, ok69⟩
  · cases h
end Go.Proofs.Ytffhhgcgnillaaa.Sy
