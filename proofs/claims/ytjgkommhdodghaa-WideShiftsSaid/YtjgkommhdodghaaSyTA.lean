/- Functions of the program, slimmed down, and the check that they are. Conditions: none. -/
import Derived.Test.YtjgkommhdodghaaSyO
import Derived.Test.YtjgkommhdodghaaProg
import Derived.KernelRfl
namespace Go.Proofs.Ytjgkommhdodghaa.Sy
open Go Go.Proofs
set_option linter.unusedVariables false

def r3_0 : List SOper := [
  ⟨(some 2), .box (.t 0), none⟩,
  ⟨(some 3), .box (.t 1), none⟩,
  ⟨(some 4), .mv (.c (.one (.sc (.bool false)))), none⟩]
def r3_1 : List SOper := [
  ⟨(some 7), .loadA 2 (.t 2), none⟩,
  ⟨(some 8), .call (.z 0) 10 [(.t 7)], none⟩,
  ⟨(some 9), .loadA 2 (.t 3), none⟩,
  ⟨(some 10), .call (.z 0) 10 [(.t 9)], none⟩,
  ⟨(some 5), .alloc (List.replicate 128 (.sc (.bool false))), none⟩,
  ⟨(some 6), .alloc (List.replicate 128 (.sc (.bool false))), none⟩,
  ⟨none, .store 128 (.t 5) (.t 8), none⟩,
  ⟨none, .store 128 (.t 6) (.t 10), none⟩]
def r3_2 : List SOper := [
  ⟨(some 11), .loadA 2 (.t 2), none⟩,
  ⟨(some 12), .loadA 2 (.t 3), none⟩,
  ⟨(some 13), .call (.z 0) 11 [(.t 11), (.t 12)], none⟩,
  ⟨(some 14), .call (.z 0) 10 [(.t 13)], none⟩,
  ⟨(some 15), .loadA 128 (.t 5), none⟩,
  ⟨(some 16), .loadA 128 (.t 6), none⟩,
  ⟨(some 17), .call (.z 0) 12 [(.t 15), (.t 16), (.c (.one (.sc (.bool false))))], none⟩,
  ⟨(some 18), .eqv (List.replicate 128 Sk.b) false (.t 14) (.t 17), none⟩,
  ⟨(some 19), .mv (.t 18), none⟩,
  ⟨(some 20), .loadA 2 (.t 2), (some (some 19, true))⟩,
  ⟨(some 21), .loadA 2 (.t 3), (some (some 19, true))⟩,
  ⟨(some 22), .call (.z 0) 13 [(.t 20), (.t 21)], (some (some 19, true))⟩,
  ⟨(some 23), .call (.z 0) 10 [(.t 22)], (some (some 19, true))⟩,
  ⟨(some 24), .loadA 128 (.t 5), (some (some 19, true))⟩,
  ⟨(some 25), .loadA 128 (.t 6), (some (some 19, true))⟩,
  ⟨(some 26), .call (.z 0) 14 [(.t 24), (.t 25)], (some (some 19, true))⟩,
  ⟨(some 27), .eqv (List.replicate 128 Sk.b) false (.t 23) (.t 26), (some (some 19, true))⟩,
  ⟨(some 28), .pick (.t 19) (.t 27) (.c (.one (.sc (.bool false)))), none⟩,
  ⟨(some 29), .mv (.t 28), none⟩,
  ⟨(some 30), .loadA 2 (.t 2), (some (some 29, true))⟩,
  ⟨(some 31), .call (.z 0) 15 [(.t 30)], (some (some 29, true))⟩,
  ⟨(some 32), .call (.z 0) 10 [(.t 31)], (some (some 29, true))⟩,
  ⟨(some 33), .loadA 128 (.t 5), (some (some 29, true))⟩,
  ⟨(some 34), .call (.z 0) 16 [(.t 33)], (some (some 29, true))⟩,
  ⟨(some 35), .eqv (List.replicate 128 Sk.b) false (.t 32) (.t 34), (some (some 29, true))⟩,
  ⟨(some 36), .pick (.t 29) (.t 35) (.c (.one (.sc (.bool false)))), none⟩,
  ⟨(some 37), .mv (.t 36), none⟩,
  ⟨(some 38), .call (.z 0) 17 [], (some (some 37, true))⟩,
  ⟨(some 39), .pick (.t 37) (.t 38) (.c (.one (.sc (.bool false)))), none⟩,
  ⟨(some 4), .mv (.t 39), none⟩]
def c3 : SC := (.seq (.reg r3_0) (.seq (.ureg [7, 8, 9, 10] [] r3_1) (.seq (.reg r3_2) .ret)))
/-- limner/limnerlaw02.WideSums -/
def F3 : SFun := ⟨40, c3, [.tmp 4]⟩

def r4_0 : List SOper := [
  ⟨(some 4), .mv (.c (.one (.sc (.bool false)))), none⟩]
def r4_1 : List SOper := [
  ⟨(some 5), .mv (.t 0), none⟩,
  ⟨(some 6), .mv (.t 1), none⟩,
  ⟨(some 7), .call (.z 0) 18 [(.t 5), (.t 6)], none⟩,
  ⟨(some 8), .call (.z 0) 10 [(.t 7)], none⟩,
  ⟨(some 9), .mv (.t 0), none⟩,
  ⟨(some 10), .call (.z 0) 20 [(.t 9)], none⟩,
  ⟨(some 11), .mv (.t 1), none⟩,
  ⟨(some 12), .call (.z 0) 20 [(.t 11)], none⟩,
  ⟨(some 13), .call (.z 0) 19 [(.t 10), (.t 12)], none⟩,
  ⟨(some 14), .eqv (List.replicate 128 Sk.b) false (.t 8) (.t 13), none⟩,
  ⟨(some 15), .mv (.t 14), none⟩,
  ⟨(some 16), .mv (.t 0), (some (some 15, true))⟩,
  ⟨(some 17), .mv (.t 1), (some (some 15, true))⟩,
  ⟨(some 18), .call (.z 0) 18 [(.t 16), (.t 17)], (some (some 15, true))⟩,
  ⟨(some 19), .mv (.t 1), (some (some 15, true))⟩,
  ⟨(some 20), .mv (.t 0), (some (some 15, true))⟩,
  ⟨(some 21), .call (.z 0) 18 [(.t 19), (.t 20)], (some (some 15, true))⟩,
  ⟨(some 22), .eqv [.i, .i] false (.t 18) (.t 21), (some (some 15, true))⟩,
  ⟨(some 23), .pick (.t 15) (.t 22) (.c (.one (.sc (.bool false)))), none⟩,
  ⟨(some 24), .mv (.t 23), none⟩,
  ⟨(some 25), .mv (.t 0), (some (some 24, true))⟩,
  ⟨(some 26), .call (.z 0) 21 [(.t 25)], (some (some 24, true))⟩,
  ⟨(some 27), .call (.z 0) 10 [(.t 26)], (some (some 24, true))⟩,
  ⟨(some 28), .mv (.t 0), (some (some 24, true))⟩,
  ⟨(some 29), .call (.z 0) 20 [(.t 28)], (some (some 24, true))⟩,
  ⟨(some 30), .eqv (List.replicate 128 Sk.b) false (.t 27) (.t 29), (some (some 24, true))⟩,
  ⟨(some 31), .pick (.t 24) (.t 30) (.c (.one (.sc (.bool false)))), none⟩,
  ⟨(some 32), .mv (.t 31), none⟩,
  ⟨(some 33), .call (.z 0) 17 [], (some (some 32, true))⟩,
  ⟨(some 34), .pick (.t 32) (.t 33) (.c (.one (.sc (.bool false)))), none⟩,
  ⟨(some 4), .mv (.t 34), none⟩]
def c4 : SC := (.seq (.reg r4_0) (.seq (.reg r4_1) .ret))
/-- limner/limnerlaw02.WideProducts -/
def F4 : SFun := ⟨35, c4, [.tmp 4]⟩

def r7_0 : List SOper := [
  ⟨(some 2), .box (.t 0), none⟩,
  ⟨(some 3), .box (.t 1), none⟩,
  ⟨(some 4), .mv (.c (.one (.sc (.bool false)))), none⟩]
def r7_1 : List SOper := [
  ⟨(some 11), .loadA 2 (.t 2), none⟩,
  ⟨(some 12), .call (.z 0) 10 [(.t 11)], none⟩,
  ⟨(some 13), .loadA 2 (.t 3), none⟩,
  ⟨(some 14), .call (.z 0) 10 [(.t 13)], none⟩,
  ⟨(some 5), .alloc (List.replicate 128 (.sc (.bool false))), none⟩,
  ⟨(some 6), .alloc (List.replicate 128 (.sc (.bool false))), none⟩,
  ⟨none, .store 128 (.t 5) (.t 12), none⟩,
  ⟨none, .store 128 (.t 6) (.t 14), none⟩]
def r7_2 : List SOper := [
  ⟨(some 7), .mv (.c (.one (.sc (.int .i64 0)))), none⟩]
def r7_3 : List SOper := [
  ⟨(some 15), .loadA 128 (.t 5), none⟩,
  ⟨(some 16), .loadA 128 (.t 6), none⟩,
  ⟨(some 17), .call (.z 0) 25 [(.t 15), (.t 16)], none⟩]
def r7_4 : List SOper := [
  ⟨(some 7), .mv (.c (.one (.sc (.int .i64 (-1))))), none⟩]
def r7_5 : List SOper := [
  ⟨(some 18), .loadA 128 (.t 6), none⟩,
  ⟨(some 19), .loadA 128 (.t 5), none⟩,
  ⟨(some 20), .call (.z 0) 25 [(.t 18), (.t 19)], none⟩]
def r7_6 : List SOper := [
  ⟨(some 7), .mv (.c (.one (.sc (.int .i64 1)))), none⟩]
def r7_7 : List SOper := [
  ⟨(some 8), .mv (.c (.one (.sc (.int .i64 0)))), none⟩]
def r7_8 : List SOper := [
  ⟨(some 21), .iadrA 128 1 (.t 5) (.c (.one (.sc (.int .i64 127)))), none⟩,
  ⟨(some 22), .load1 (.t 21), none⟩]
def r7_9 : List SOper := [
  ⟨(some 8), .mv (.c (.one (.sc (.int .i64 (-1))))), none⟩]
def r7_10 : List SOper := [
  ⟨(some 23), .loadA 2 (.t 2), none⟩,
  ⟨(some 24), .build [.sc (.int .i64 0), .sc (.int .u64 0)] [], none⟩,
  ⟨(some 25), .eqv [.i, .i] true (.t 23) (.t 24), none⟩]
def r7_11 : List SOper := [
  ⟨(some 8), .mv (.c (.one (.sc (.int .i64 1)))), none⟩]
def r7_12 : List SOper := [
  ⟨(some 27), .loadA 2 (.t 2), none⟩,
  ⟨(some 28), .call (.z 0) 24 [(.t 27)], none⟩,
  ⟨(some 26), .mv (.t 28), none⟩,
  ⟨(some 29), .ext (.t 26) 0, none⟩,
  ⟨(some 30), .ext (.t 26) 1, none⟩,
  ⟨(some 9), .mv (.t 29), none⟩,
  ⟨(some 10), .mv (.t 30), none⟩]
def r7_13 : List SOper := [
  ⟨(some 31), .mv (.t 10), none⟩,
  ⟨(some 32), .mv (.t 31), none⟩,
  ⟨(some 33), .mv (.t 9), (some (some 32, true))⟩,
  ⟨(some 34), .call (.z 0) 20 [(.t 33)], (some (some 32, true))⟩,
  ⟨(some 35), .loadA 128 (.t 5), (some (some 32, true))⟩,
  ⟨(some 36), .eqv (List.replicate 128 Sk.b) true (.t 34) (.t 35), (some (some 32, true))⟩,
  ⟨(some 37), .pick (.t 32) (.t 36) (.c (.one (.sc (.bool false)))), none⟩,
  ⟨(some 38), .mv (.t 37), none⟩,
  ⟨(some 39), .mv (.t 10), (some (some 38, false))⟩,
  ⟨(some 40), .un .not (.t 39), (some (some 38, false))⟩,
  ⟨(some 41), .mv (.t 40), (some (some 38, false))⟩,
  ⟨(some 42), .mv (.t 9), (some (some 41, true))⟩,
  ⟨(some 43), .bin .neq (.t 42) (.c (.one (.sc (.int .i64 0)))), (some (some 41, true))⟩,
  ⟨(some 44), .mv (.t 43), (some (some 41, true))⟩,
  ⟨(some 45), .fadr 1 (.t 2), (some (some 44, false))⟩,
  ⟨(some 46), .load1 (.t 45), (some (some 44, false))⟩,
  ⟨(some 47), .conv .i64 (.t 46), (some (some 44, false))⟩,
  ⟨(some 48), .call (.z 0) 20 [(.t 47)], (some (some 44, false))⟩,
  ⟨(some 49), .loadA 128 (.t 5), (some (some 44, false))⟩,
  ⟨(some 50), .eqv (List.replicate 128 Sk.b) false (.t 48) (.t 49), (some (some 44, false))⟩,
  ⟨(some 51), .pick (.t 44) (.c (.one (.sc (.bool true)))) (.t 50), (some (some 41, true))⟩,
  ⟨(some 52), .pick (.t 41) (.t 51) (.c (.one (.sc (.bool false)))), (some (some 38, false))⟩,
  ⟨(some 53), .pick (.t 38) (.c (.one (.sc (.bool true)))) (.t 52), none⟩]
def r7_14 : List SOper := [
  ⟨(some 4), .mv (.c (.one (.sc (.bool false)))), none⟩]
def r7_15 : List SOper := [
  ⟨(some 54), .loadA 2 (.t 2), none⟩,
  ⟨(some 55), .loadA 2 (.t 3), none⟩,
  ⟨(some 56), .call (.z 0) 23 [(.t 54), (.t 55)], none⟩,
  ⟨(some 57), .mv (.t 7), none⟩,
  ⟨(some 58), .bin .eql (.t 56) (.t 57), none⟩,
  ⟨(some 59), .mv (.t 58), none⟩,
  ⟨(some 60), .loadA 2 (.t 3), (some (some 59, true))⟩,
  ⟨(some 61), .loadA 2 (.t 2), (some (some 59, true))⟩,
  ⟨(some 62), .call (.z 0) 23 [(.t 60), (.t 61)], (some (some 59, true))⟩,
  ⟨(some 63), .mv (.t 7), (some (some 59, true))⟩,
  ⟨(some 64), .un .neg (.t 63), (some (some 59, true))⟩,
  ⟨(some 65), .bin .eql (.t 62) (.t 64), (some (some 59, true))⟩,
  ⟨(some 66), .pick (.t 59) (.t 65) (.c (.one (.sc (.bool false)))), none⟩,
  ⟨(some 67), .mv (.t 66), none⟩,
  ⟨(some 68), .loadA 2 (.t 2), (some (some 67, true))⟩,
  ⟨(some 69), .call (.z 0) 26 [(.t 68)], (some (some 67, true))⟩,
  ⟨(some 70), .mv (.t 8), (some (some 67, true))⟩,
  ⟨(some 71), .bin .eql (.t 69) (.t 70), (some (some 67, true))⟩,
  ⟨(some 72), .pick (.t 67) (.t 71) (.c (.one (.sc (.bool false)))), none⟩,
  ⟨(some 73), .mv (.t 72), none⟩,
  ⟨(some 74), .call (.z 0) 17 [], (some (some 73, true))⟩,
  ⟨(some 75), .pick (.t 73) (.t 74) (.c (.one (.sc (.bool false)))), none⟩,
  ⟨(some 4), .mv (.t 75), none⟩]
def c7 : SC := (.seq (.reg r7_0) (.seq (.ureg [11, 12, 13, 14] [] r7_1) (.seq (.reg r7_2) (.seq (.seq (.reg r7_3) (.cond (.t 17) (.reg r7_4) .skip)) (.seq (.seq (.reg r7_5) (.cond (.t 20) (.reg r7_6) .skip)) (.seq (.reg r7_7) (.seq (.seq (.reg r7_8) (.cond (.t 22) (.reg r7_9) (.seq (.reg r7_10) (.cond (.t 25) (.reg r7_11) .skip)))) (.seq (.reg r7_12) (.seq (.seq (.reg r7_13) (.cond (.t 53) (.seq (.reg r7_14) .ret) .skip)) (.seq (.reg r7_15) .ret))))))))))
/-- limner/limnerlaw02.WideOrder -/
def F7 : SFun := ⟨76, c7, [.tmp 4]⟩

def r9_0 : List SOper := [
  ⟨(some 2), .box (.t 0), none⟩,
  ⟨(some 4), .mv (.c (.one (.sc (.bool false)))), none⟩]
def r9_1 : List SOper := [
  ⟨(some 6), .loadA 2 (.t 2), none⟩,
  ⟨(some 7), .mv (.t 1), none⟩,
  ⟨(some 8), .call (.z 0) 28 [(.t 6), (.t 7)], none⟩,
  ⟨(some 5), .alloc [.sc (.int .i64 0), .sc (.int .u64 0)], none⟩,
  ⟨none, .store 2 (.t 5) (.t 8), none⟩]
def r9_2 : List SOper := [
  ⟨(some 9), .mv (.t 1), none⟩,
  ⟨(some 10), .bin .lss (.t 9) (.c (.one (.sc (.int .i64 0)))), none⟩]
def r9_3 : List SOper := [
  ⟨(some 11), .loadA 2 (.t 5), none⟩,
  ⟨(some 12), .loadA 2 (.t 2), none⟩,
  ⟨(some 13), .eqv [.i, .i] false (.t 11) (.t 12), none⟩,
  ⟨(some 14), .mv (.t 13), none⟩,
  ⟨(some 15), .call (.z 0) 17 [], (some (some 14, true))⟩,
  ⟨(some 16), .pick (.t 14) (.t 15) (.c (.one (.sc (.bool false)))), none⟩,
  ⟨(some 4), .mv (.t 16), none⟩]
def r9_4 : List SOper := [
  ⟨(some 17), .loadA 2 (.t 5), none⟩,
  ⟨(some 18), .call (.z 0) 10 [(.t 17)], none⟩,
  ⟨(some 19), .loadA 2 (.t 2), none⟩,
  ⟨(some 20), .call (.z 0) 10 [(.t 19)], none⟩,
  ⟨(some 21), .mv (.t 1), none⟩,
  ⟨(some 22), .mn [(.t 21), (.c (.one (.sc (.int .i64 128))))], none⟩,
  ⟨(some 23), .call (.z 0) 29 [(.t 20), (.t 22)], none⟩,
  ⟨(some 24), .eqv (List.replicate 128 Sk.b) false (.t 18) (.t 23), none⟩,
  ⟨(some 25), .mv (.t 24), none⟩,
  ⟨(some 26), .call (.z 0) 17 [], (some (some 25, true))⟩,
  ⟨(some 27), .pick (.t 25) (.t 26) (.c (.one (.sc (.bool false)))), none⟩,
  ⟨(some 4), .mv (.t 27), none⟩]
def c9 : SC := (.seq (.reg r9_0) (.seq (.reg r9_1) (.seq (.seq (.reg r9_2) (.cond (.t 10) (.seq (.reg r9_3) .ret) .skip)) (.seq (.reg r9_4) .ret))))
/-- limner/limnerlaw02.WideShifts -/
def F9 : SFun := ⟨28, c9, [.tmp 4]⟩

def r10_0 : List SOper := [
  ⟨(some 1), .box (.t 0), none⟩,
  ⟨(some 2), .alloc (List.replicate 128 (.sc (.bool false))), none⟩]
def r10_1 : List SOper := [
  ⟨(some 3), .fadr 0 (.t 1), none⟩,
  ⟨(some 4), .load1 (.t 3), none⟩,
  ⟨(some 5), .fadr 1 (.t 1), none⟩,
  ⟨(some 6), .load1 (.t 5), none⟩,
  ⟨(some 7), .call (.z 0) 30 [(.t 4), (.t 6)], none⟩,
  ⟨none, .store 128 (.t 2) (.t 7), none⟩]
def c10 : SC := (.seq (.reg r10_0) (.seq (.reg r10_1) .ret))
/-- limner/limnerlaw02.bits -/
def F10 : SFun := ⟨8, c10, [.cellA 2 128]⟩

def r11_0 : List SOper := [
  ⟨(some 2), .box (.t 0), none⟩,
  ⟨(some 3), .box (.t 1), none⟩,
  ⟨(some 4), .alloc [.sc (.int .i64 0), .sc (.int .u64 0)], none⟩]
def r11_1 : List SOper := [
  ⟨(some 10), .fadr 1 (.t 2), none⟩,
  ⟨(some 11), .load1 (.t 10), none⟩,
  ⟨(some 12), .fadr 1 (.t 3), none⟩,
  ⟨(some 13), .load1 (.t 12), none⟩,
  ⟨(some 14), .carry false [(.t 11), (.t 13), (.c (.one (.sc (.int .u64 0))))], none⟩,
  ⟨(some 9), .mv (.t 14), none⟩,
  ⟨(some 15), .ext (.t 9) 0, none⟩,
  ⟨(some 16), .ext (.t 9) 1, none⟩,
  ⟨(some 5), .mv (.t 15), none⟩,
  ⟨(some 6), .mv (.t 16), none⟩]
def r11_2 : List SOper := [
  ⟨(some 18), .fadr 0 (.t 2), none⟩,
  ⟨(some 19), .load1 (.t 18), none⟩,
  ⟨(some 20), .conv .u64 (.t 19), none⟩,
  ⟨(some 21), .fadr 0 (.t 3), none⟩,
  ⟨(some 22), .load1 (.t 21), none⟩,
  ⟨(some 23), .conv .u64 (.t 22), none⟩,
  ⟨(some 24), .mv (.t 6), none⟩,
  ⟨(some 25), .carry false [(.t 20), (.t 23), (.t 24)], none⟩,
  ⟨(some 17), .mv (.t 25), none⟩,
  ⟨(some 26), .ext (.t 17) 0, none⟩,
  ⟨(some 27), .ext (.t 17) 1, none⟩,
  ⟨(some 7), .mv (.t 26), none⟩,
  ⟨(some 8), .mv (.t 27), none⟩]
def r11_3 : List SOper := [
  ⟨(some 28), .mv (.t 7), none⟩,
  ⟨(some 29), .conv .i64 (.t 28), none⟩,
  ⟨(some 30), .mv (.t 5), none⟩,
  ⟨(some 31), .build [.sc (.int .i64 0), .sc (.int .u64 0)] [(0, 1, (.t 29)), (1, 1, (.t 30))], none⟩,
  ⟨none, .store 2 (.t 4) (.t 31), none⟩]
def c11 : SC := (.seq (.reg r11_0) (.seq (.reg r11_1) (.seq (.reg r11_2) (.seq (.reg r11_3) .ret))))
/-- (limner/wide.Num).Add -/
def F11 : SFun := ⟨32, c11, [.cellA 4 2]⟩

def r12_0 : List SOper := [
  ⟨(some 3), .box (.t 0), none⟩,
  ⟨(some 4), .box (.t 1), none⟩,
  ⟨(some 6), .alloc (List.replicate 128 (.sc (.bool false))), none⟩]
def r12_1 : List SOper := [
  ⟨(some 7), .alloc (List.replicate 128 (.sc (.bool false))), none⟩]
def r12_2 : List SOper := [
  ⟨(some 8), .mv (.c (.one (.sc (.int .i64 0)))), none⟩]
def r12_3 : List SOper := [
  ⟨(some 10), .mv (.t 8), none⟩,
  ⟨(some 11), .bin .lss (.t 10) (.c (.one (.sc (.int .i64 128)))), none⟩]
def r12_5 : List SOper := [
  ⟨(some 9), .mv (.c (.one (.sc (.int .i64 0)))), none⟩]
def r12_6 : List SOper := [
  ⟨(some 14), .mv (.t 8), none⟩,
  ⟨(some 15), .iadrA 128 1 (.t 3) (.t 14), none⟩,
  ⟨(some 16), .load1 (.t 15), none⟩]
def r12_7 : List SOper := [
  ⟨(some 17), .mv (.t 9), none⟩,
  ⟨(some 18), .bin .add (.t 17) (.c (.one (.sc (.int .i64 1)))), none⟩,
  ⟨(some 9), .mv (.t 18), none⟩]
def r12_8 : List SOper := [
  ⟨(some 19), .mv (.t 8), none⟩,
  ⟨(some 20), .iadrA 128 1 (.t 4) (.t 19), none⟩,
  ⟨(some 21), .load1 (.t 20), none⟩]
def r12_9 : List SOper := [
  ⟨(some 22), .mv (.t 9), none⟩,
  ⟨(some 23), .bin .add (.t 22) (.c (.one (.sc (.int .i64 1)))), none⟩,
  ⟨(some 9), .mv (.t 23), none⟩]
def r12_10 : List SOper := [
  ⟨(some 24), .mv (.t 2), none⟩]
def r12_11 : List SOper := [
  ⟨(some 25), .mv (.t 9), none⟩,
  ⟨(some 26), .bin .add (.t 25) (.c (.one (.sc (.int .i64 1)))), none⟩,
  ⟨(some 9), .mv (.t 26), none⟩]
def r12_12 : List SOper := [
  ⟨(some 27), .mv (.t 8), none⟩,
  ⟨(some 28), .mv (.t 9), none⟩,
  ⟨(some 29), .bin .rem (.t 28) (.c (.one (.sc (.int .i64 2)))), none⟩,
  ⟨(some 30), .bin .eql (.t 29) (.c (.one (.sc (.int .i64 1)))), none⟩,
  ⟨(some 31), .iadrA 128 1 (.t 7) (.t 27), none⟩,
  ⟨none, .store 1 (.t 31) (.t 30), none⟩]
def r12_13 : List SOper := [
  ⟨(some 32), .mv (.t 9), none⟩,
  ⟨(some 33), .bin .geq (.t 32) (.c (.one (.sc (.int .i64 2)))), none⟩,
  ⟨(some 2), .mv (.t 33), none⟩]
def r12_4 : List SOper := [
  ⟨(some 12), .mv (.t 8), none⟩,
  ⟨(some 13), .bin .add (.t 12) (.c (.one (.sc (.int .i64 1)))), none⟩,
  ⟨(some 8), .mv (.t 13), none⟩]
def l12_0 : SC := (.seq (.seq (.reg r12_3) (.cond (.t 11) .skip (.exit 0))) (.seq (.block 1 (.seq (.reg r12_5) (.seq (.seq (.reg r12_6) (.cond (.t 16) (.reg r12_7) .skip)) (.seq (.seq (.reg r12_8) (.cond (.t 21) (.reg r12_9) .skip)) (.seq (.seq (.reg r12_10) (.cond (.t 24) (.reg r12_11) .skip)) (.seq (.reg r12_12) (.reg r12_13))))))) (.reg r12_4)))
def r12_14 : List SOper := [
  ⟨(some 34), .loadA 128 (.t 7), none⟩,
  ⟨none, .store 128 (.t 6) (.t 34), none⟩]
def c12 : SC := (.seq (.reg r12_0) (.seq (.reg r12_1) (.seq (.seq (.reg r12_2) (.block 0 (.loop l12_0))) (.seq (.reg r12_14) .ret))))
/-- limner/limnerref02.Add -/
def F12 : SFun := ⟨35, c12, [.cellA 6 128]⟩

def r13_0 : List SOper := [
  ⟨(some 2), .box (.t 0), none⟩,
  ⟨(some 3), .box (.t 1), none⟩,
  ⟨(some 4), .alloc [.sc (.int .i64 0), .sc (.int .u64 0)], none⟩]
def r13_1 : List SOper := [
  ⟨(some 10), .fadr 1 (.t 2), none⟩,
  ⟨(some 11), .load1 (.t 10), none⟩,
  ⟨(some 12), .fadr 1 (.t 3), none⟩,
  ⟨(some 13), .load1 (.t 12), none⟩,
  ⟨(some 14), .carry true [(.t 11), (.t 13), (.c (.one (.sc (.int .u64 0))))], none⟩,
  ⟨(some 9), .mv (.t 14), none⟩,
  ⟨(some 15), .ext (.t 9) 0, none⟩,
  ⟨(some 16), .ext (.t 9) 1, none⟩,
  ⟨(some 5), .mv (.t 15), none⟩,
  ⟨(some 6), .mv (.t 16), none⟩]
def r13_2 : List SOper := [
  ⟨(some 18), .fadr 0 (.t 2), none⟩,
  ⟨(some 19), .load1 (.t 18), none⟩,
  ⟨(some 20), .conv .u64 (.t 19), none⟩,
  ⟨(some 21), .fadr 0 (.t 3), none⟩,
  ⟨(some 22), .load1 (.t 21), none⟩,
  ⟨(some 23), .conv .u64 (.t 22), none⟩,
  ⟨(some 24), .mv (.t 6), none⟩,
  ⟨(some 25), .carry true [(.t 20), (.t 23), (.t 24)], none⟩,
  ⟨(some 17), .mv (.t 25), none⟩,
  ⟨(some 26), .ext (.t 17) 0, none⟩,
  ⟨(some 27), .ext (.t 17) 1, none⟩,
  ⟨(some 7), .mv (.t 26), none⟩,
  ⟨(some 8), .mv (.t 27), none⟩]
def r13_3 : List SOper := [
  ⟨(some 28), .mv (.t 7), none⟩,
  ⟨(some 29), .conv .i64 (.t 28), none⟩,
  ⟨(some 30), .mv (.t 5), none⟩,
  ⟨(some 31), .build [.sc (.int .i64 0), .sc (.int .u64 0)] [(0, 1, (.t 29)), (1, 1, (.t 30))], none⟩,
  ⟨none, .store 2 (.t 4) (.t 31), none⟩]
def c13 : SC := (.seq (.reg r13_0) (.seq (.reg r13_1) (.seq (.reg r13_2) (.seq (.reg r13_3) .ret))))
/-- (limner/wide.Num).Sub -/
def F13 : SFun := ⟨32, c13, [.cellA 4 2]⟩

def r14_0 : List SOper := [
  ⟨(some 2), .box (.t 0), none⟩,
  ⟨(some 3), .box (.t 1), none⟩,
  ⟨(some 4), .alloc (List.replicate 128 (.sc (.bool false))), none⟩]
def r14_1 : List SOper := [
  ⟨(some 5), .loadA 128 (.t 2), none⟩,
  ⟨(some 6), .loadA 128 (.t 3), none⟩,
  ⟨(some 7), .call (.z 0) 33 [(.t 6)], none⟩,
  ⟨(some 8), .call (.z 0) 12 [(.t 5), (.t 7), (.c (.one (.sc (.bool true))))], none⟩,
  ⟨none, .store 128 (.t 4) (.t 8), none⟩]
def c14 : SC := (.seq (.reg r14_0) (.seq (.reg r14_1) .ret))
/-- limner/limnerref02.Sub -/
def F14 : SFun := ⟨9, c14, [.cellA 4 128]⟩

def r15_0 : List SOper := [
  ⟨(some 1), .box (.t 0), none⟩,
  ⟨(some 2), .alloc [.sc (.int .i64 0), .sc (.int .u64 0)], none⟩]
def r15_1 : List SOper := [
  ⟨(some 3), .build [.sc (.int .i64 0), .sc (.int .u64 0)] [], none⟩,
  ⟨(some 4), .loadA 2 (.t 1), none⟩,
  ⟨(some 5), .call (.z 0) 13 [(.t 3), (.t 4)], none⟩,
  ⟨none, .store 2 (.t 2) (.t 5), none⟩]
def c15 : SC := (.seq (.reg r15_0) (.seq (.reg r15_1) .ret))
/-- (limner/wide.Num).Neg -/
def F15 : SFun := ⟨6, c15, [.cellA 2 2]⟩

def r16_0 : List SOper := [
  ⟨(some 1), .box (.t 0), none⟩,
  ⟨(some 2), .alloc (List.replicate 128 (.sc (.bool false))), none⟩]
def r16_1 : List SOper := [
  ⟨(some 3), .loadA 128 (.t 1), none⟩,
  ⟨(some 4), .call (.z 0) 33 [(.t 3)], none⟩,
  ⟨(some 5), .build (List.replicate 128 (.sc (.bool false))) [], none⟩,
  ⟨(some 6), .call (.z 0) 12 [(.t 4), (.t 5), (.c (.one (.sc (.bool true))))], none⟩,
  ⟨none, .store 128 (.t 2) (.t 6), none⟩]
def c16 : SC := (.seq (.reg r16_0) (.seq (.reg r16_1) .ret))
/-- limner/limnerref02.Neg -/
def F16 : SFun := ⟨7, c16, [.cellA 2 128]⟩

def r17_0 : List SOper := [
  ⟨(some 0), .mv (.c (.one (.sc (.bool false)))), none⟩]
def r17_1 : List SOper := [
  ⟨(some 5), .call (.z 0) 27 [(.c (.one (.sc (.int .i64 (-7))))), (.c (.one (.sc (.int .i64 1)))), (.c (.one (.sc (.int .i64 2))))], none⟩,
  ⟨(some 4), .mv (.t 5), none⟩,
  ⟨(some 6), .ext (.t 4) 0, none⟩,
  ⟨(some 7), .ext (.t 4) 1, none⟩,
  ⟨(some 8), .ext (.t 4) 2, none⟩,
  ⟨(some 1), .mv (.t 6), none⟩,
  ⟨(some 2), .mv (.t 7), none⟩,
  ⟨(some 3), .mv (.t 8), none⟩]
def r17_2 : List SOper := [
  ⟨(some 9), .call (.z 0) 18 [(.c (.one (.sc (.int .i64 1099511627776)))), (.c (.one (.sc (.int .i64 1099511627776))))], none⟩,
  ⟨(some 10), .build [.sc (.int .i64 0), .sc (.int .u64 0)] [(0, 1, (.c (.one (.sc (.int .i64 65536)))))], none⟩,
  ⟨(some 11), .eqv [.i, .i] false (.t 9) (.t 10), none⟩,
  ⟨(some 12), .mv (.t 11), none⟩,
  ⟨(some 13), .mv (.t 1), (some (some 12, true))⟩,
  ⟨(some 14), .bin .eql (.t 13) (.c (.one (.sc (.int .i64 (-4))))), (some (some 12, true))⟩,
  ⟨(some 15), .pick (.t 12) (.t 14) (.c (.one (.sc (.bool false)))), none⟩,
  ⟨(some 16), .mv (.t 15), none⟩,
  ⟨(some 17), .mv (.t 2), (some (some 16, true))⟩,
  ⟨(some 18), .un .not (.t 17), (some (some 16, true))⟩,
  ⟨(some 19), .pick (.t 16) (.t 18) (.c (.one (.sc (.bool false)))), none⟩,
  ⟨(some 20), .mv (.t 19), none⟩,
  ⟨(some 21), .mv (.t 3), (some (some 20, true))⟩,
  ⟨(some 22), .bin .eql (.t 21) (.c (.one (.sc (.int .i64 0)))), (some (some 20, true))⟩,
  ⟨(some 23), .pick (.t 20) (.t 22) (.c (.one (.sc (.bool false)))), none⟩,
  ⟨(some 24), .mv (.t 23), none⟩,
  ⟨(some 25), .call (.z 0) 22 [(.c (.one (.sc (.int .i64 15))))], (some (some 24, true))⟩,
  ⟨(some 26), .bin .eql (.t 25) (.c (.one (.sc (.int .i64 3)))), (some (some 24, true))⟩,
  ⟨(some 27), .pick (.t 24) (.t 26) (.c (.one (.sc (.bool false)))), none⟩,
  ⟨(some 0), .mv (.t 27), none⟩]
def c17 : SC := (.seq (.reg r17_0) (.seq (.reg r17_1) (.seq (.reg r17_2) .ret)))
/-- limner/limnerlaw02.awake -/
def F17 : SFun := ⟨28, c17, [.tmp 0]⟩

def r18_0 : List SOper := [
  ⟨(some 4), .alloc [.sc (.int .i64 0), .sc (.int .u64 0)], none⟩]
def r18_1 : List SOper := [
  ⟨(some 8), .mv (.t 0), none⟩,
  ⟨(some 9), .conv .u64 (.t 8), none⟩,
  ⟨(some 10), .mv (.t 1), none⟩,
  ⟨(some 11), .conv .u64 (.t 10), none⟩,
  ⟨(some 12), .call (.z 0) 34 [(.t 9), (.t 11)], none⟩,
  ⟨(some 7), .mv (.t 12), none⟩,
  ⟨(some 13), .ext (.t 7) 0, none⟩,
  ⟨(some 14), .ext (.t 7) 1, none⟩,
  ⟨(some 5), .mv (.t 13), none⟩,
  ⟨(some 6), .mv (.t 14), none⟩]
def r18_2 : List SOper := [
  ⟨(some 15), .mv (.t 0), none⟩,
  ⟨(some 16), .bin .lss (.t 15) (.c (.one (.sc (.int .i64 0)))), none⟩]
def r18_3 : List SOper := [
  ⟨(some 17), .mv (.t 5), none⟩,
  ⟨(some 18), .mv (.t 1), none⟩,
  ⟨(some 19), .conv .u64 (.t 18), none⟩,
  ⟨(some 20), .bin .sub (.t 17) (.t 19), none⟩,
  ⟨(some 5), .mv (.t 20), none⟩]
def r18_4 : List SOper := [
  ⟨(some 21), .mv (.t 1), none⟩,
  ⟨(some 22), .bin .lss (.t 21) (.c (.one (.sc (.int .i64 0)))), none⟩]
def r18_5 : List SOper := [
  ⟨(some 23), .mv (.t 5), none⟩,
  ⟨(some 24), .mv (.t 0), none⟩,
  ⟨(some 25), .conv .u64 (.t 24), none⟩,
  ⟨(some 26), .bin .sub (.t 23) (.t 25), none⟩,
  ⟨(some 5), .mv (.t 26), none⟩]
def r18_6 : List SOper := [
  ⟨(some 27), .mv (.t 5), none⟩,
  ⟨(some 28), .conv .i64 (.t 27), none⟩,
  ⟨(some 29), .mv (.t 6), none⟩,
  ⟨(some 30), .build [.sc (.int .i64 0), .sc (.int .u64 0)] [(0, 1, (.t 28)), (1, 1, (.t 29))], none⟩,
  ⟨none, .store 2 (.t 4) (.t 30), none⟩]
def c18 : SC := (.seq (.reg r18_0) (.seq (.reg r18_1) (.seq (.seq (.reg r18_2) (.cond (.t 16) (.reg r18_3) .skip)) (.seq (.seq (.reg r18_4) (.cond (.t 22) (.reg r18_5) .skip)) (.seq (.reg r18_6) .ret)))))
/-- limner/wide.Mul -/
def F18 : SFun := ⟨31, c18, [.cellA 4 2]⟩

def r19_0 : List SOper := [
  ⟨(some 2), .box (.t 0), none⟩,
  ⟨(some 3), .box (.t 1), none⟩,
  ⟨(some 4), .alloc (List.replicate 128 (.sc (.bool false))), none⟩]
def r19_1 : List SOper := [
  ⟨(some 5), .alloc (List.replicate 128 (.sc (.bool false))), none⟩]
def r19_2 : List SOper := [
  ⟨(some 6), .mv (.c (.one (.sc (.int .i64 0)))), none⟩]
def r19_3 : List SOper := [
  ⟨(some 7), .mv (.t 6), none⟩,
  ⟨(some 8), .bin .lss (.t 7) (.c (.one (.sc (.int .i64 128)))), none⟩]
def r19_5 : List SOper := [
  ⟨(some 11), .mv (.t 6), none⟩,
  ⟨(some 12), .iadrA 128 1 (.t 2) (.t 11), none⟩,
  ⟨(some 13), .load1 (.t 12), none⟩]
def r19_6 : List SOper := [
  ⟨(some 14), .loadA 128 (.t 5), none⟩,
  ⟨(some 15), .loadA 128 (.t 3), none⟩,
  ⟨(some 16), .call (.z 0) 12 [(.t 14), (.t 15), (.c (.one (.sc (.bool false))))], none⟩,
  ⟨none, .store 128 (.t 5) (.t 16), none⟩]
def r19_7 : List SOper := [
  ⟨(some 17), .loadA 128 (.t 3), none⟩,
  ⟨(some 18), .loadA 128 (.t 3), none⟩,
  ⟨(some 19), .call (.z 0) 12 [(.t 17), (.t 18), (.c (.one (.sc (.bool false))))], none⟩,
  ⟨none, .store 128 (.t 3) (.t 19), none⟩]
def r19_4 : List SOper := [
  ⟨(some 9), .mv (.t 6), none⟩,
  ⟨(some 10), .bin .add (.t 9) (.c (.one (.sc (.int .i64 1)))), none⟩,
  ⟨(some 6), .mv (.t 10), none⟩]
def l19_0 : SC := (.seq (.seq (.reg r19_3) (.cond (.t 8) .skip (.exit 0))) (.seq (.block 1 (.seq (.seq (.reg r19_5) (.cond (.t 13) (.reg r19_6) .skip)) (.reg r19_7))) (.reg r19_4)))
def r19_8 : List SOper := [
  ⟨(some 20), .loadA 128 (.t 5), none⟩,
  ⟨none, .store 128 (.t 4) (.t 20), none⟩]
def c19 : SC := (.seq (.reg r19_0) (.seq (.reg r19_1) (.seq (.seq (.reg r19_2) (.block 0 (.loop l19_0))) (.seq (.reg r19_8) .ret))))
/-- limner/limnerref02.Mul -/
def F19 : SFun := ⟨21, c19, [.cellA 4 128]⟩

def r20_0 : List SOper := [
  ⟨(some 2), .alloc (List.replicate 128 (.sc (.bool false))), none⟩]
def r20_1 : List SOper := [
  ⟨(some 3), .mv (.c (.one (.sc (.int .i64 0)))), none⟩]
def r20_2 : List SOper := [
  ⟨(some 4), .mv (.t 0), none⟩,
  ⟨(some 5), .bin .lss (.t 4) (.c (.one (.sc (.int .i64 0)))), none⟩]
def r20_3 : List SOper := [
  ⟨(some 3), .mv (.c (.one (.sc (.int .i64 (-1))))), none⟩]
def r20_4 : List SOper := [
  ⟨(some 6), .mv (.t 3), none⟩,
  ⟨(some 7), .mv (.t 0), none⟩,
  ⟨(some 8), .conv .u64 (.t 7), none⟩,
  ⟨(some 9), .call (.z 0) 30 [(.t 6), (.t 8)], none⟩,
  ⟨none, .store 128 (.t 2) (.t 9), none⟩]
def c20 : SC := (.seq (.reg r20_0) (.seq (.reg r20_1) (.seq (.seq (.reg r20_2) (.cond (.t 5) (.reg r20_3) .skip)) (.seq (.reg r20_4) .ret))))
/-- limner/limnerref02.Int -/
def F20 : SFun := ⟨10, c20, [.cellA 2 128]⟩

def r21_0 : List SOper := [
  ⟨(some 2), .alloc [.sc (.int .i64 0), .sc (.int .u64 0)], none⟩]
def r21_1 : List SOper := [
  ⟨(some 3), .mv (.t 0), none⟩,
  ⟨(some 4), .bin .shr (.t 3) (.c (.one (.sc (.int .u64 63)))), none⟩,
  ⟨(some 5), .mv (.t 0), none⟩,
  ⟨(some 6), .conv .u64 (.t 5), none⟩,
  ⟨(some 7), .build [.sc (.int .i64 0), .sc (.int .u64 0)] [(0, 1, (.t 4)), (1, 1, (.t 6))], none⟩,
  ⟨none, .store 2 (.t 2) (.t 7), none⟩]
def c21 : SC := (.seq (.reg r21_0) (.seq (.reg r21_1) .ret))
/-- limner/wide.Of -/
def F21 : SFun := ⟨8, c21, [.cellA 2 2]⟩

def r22_0 : List SOper := [
  ⟨(some 2), .mv (.c (.one (.sc (.int .i64 0)))), none⟩]
def r22_1 : List SOper := [
  ⟨(some 3), .mv (.c (.one (.sc (.int .i64 0)))), none⟩]
def r22_2 : List SOper := [
  ⟨(some 4), .mv (.c (.one (.sc (.int .i64 31)))), none⟩]
def r22_3 : List SOper := [
  ⟨(some 6), .mv (.t 4), none⟩,
  ⟨(some 7), .bin .geq (.t 6) (.c (.one (.sc (.int .i64 0)))), none⟩]
def r22_5 : List SOper := [
  ⟨(some 10), .mv (.t 3), none⟩,
  ⟨(some 11), .mv (.t 4), none⟩,
  ⟨(some 12), .bin .shl (.c (.one (.sc (.int .i64 1)))) (.t 11), none⟩,
  ⟨(some 13), .bin .or (.t 10) (.t 12), none⟩,
  ⟨(some 5), .mv (.t 13), none⟩]
def r22_6 : List SOper := [
  ⟨(some 14), .mv (.t 5), none⟩,
  ⟨(some 15), .mv (.t 5), none⟩,
  ⟨(some 16), .call (.z 0) 18 [(.t 14), (.t 15)], none⟩,
  ⟨(some 17), .mv (.t 0), none⟩,
  ⟨(some 18), .call (.z 0) 21 [(.t 17)], none⟩,
  ⟨(some 19), .call (.z 0) 23 [(.t 16), (.t 18)], none⟩,
  ⟨(some 20), .bin .leq (.t 19) (.c (.one (.sc (.int .i64 0)))), none⟩]
def r22_7 : List SOper := [
  ⟨(some 21), .mv (.t 5), none⟩,
  ⟨(some 3), .mv (.t 21), none⟩]
def r22_4 : List SOper := [
  ⟨(some 8), .mv (.t 4), none⟩,
  ⟨(some 9), .bin .sub (.t 8) (.c (.one (.sc (.int .i64 1)))), none⟩,
  ⟨(some 4), .mv (.t 9), none⟩]
def l22_0 : SC := (.seq (.seq (.reg r22_3) (.cond (.t 7) .skip (.exit 0))) (.seq (.block 1 (.seq (.reg r22_5) (.seq (.reg r22_6) (.cond (.t 20) (.reg r22_7) .skip)))) (.reg r22_4)))
def r22_8 : List SOper := [
  ⟨(some 22), .mv (.t 3), none⟩,
  ⟨(some 2), .mv (.t 22), none⟩]
def c22 : SC := (.seq (.reg r22_0) (.seq (.reg r22_1) (.seq (.seq (.reg r22_2) (.block 0 (.loop l22_0))) (.seq (.reg r22_8) .ret))))
/-- limner/wide.Sqrt -/
def F22 : SFun := ⟨23, c22, [.tmp 2]⟩

def r23_0 : List SOper := [
  ⟨(some 2), .box (.t 0), none⟩,
  ⟨(some 3), .box (.t 1), none⟩,
  ⟨(some 4), .mv (.c (.one (.sc (.int .i64 0)))), none⟩]
def r23_1 : List SOper := [
  ⟨(some 5), .fadr 0 (.t 2), none⟩,
  ⟨(some 6), .load1 (.t 5), none⟩,
  ⟨(some 7), .fadr 0 (.t 3), none⟩,
  ⟨(some 8), .load1 (.t 7), none⟩,
  ⟨(some 9), .call (.z 0) 36 [(.t 6), (.t 8)], none⟩,
  ⟨(some 10), .fadr 1 (.t 2), none⟩,
  ⟨(some 11), .load1 (.t 10), none⟩,
  ⟨(some 12), .fadr 1 (.t 3), none⟩,
  ⟨(some 13), .load1 (.t 12), none⟩,
  ⟨(some 14), .call (.z 0) 37 [(.t 11), (.t 13)], none⟩,
  ⟨(some 15), .bslice [.sc (.int .i64 0), .sc (.int .i64 0)] 2 1 [(0, 1, (.t 9)), (1, 1, (.t 14))], none⟩,
  ⟨(some 16), .call .q 35 [(.t 15)], none⟩,
  ⟨(some 4), .mv (.t 16), none⟩]
def c23 : SC := (.seq (.reg r23_0) (.seq (.reg r23_1) .ret))
/-- (limner/wide.Num).Cmp -/
def F23 : SFun := ⟨17, c23, [.tmp 4]⟩

def r24_0 : List SOper := [
  ⟨(some 1), .box (.t 0), none⟩,
  ⟨(some 2), .mv (.c (.one (.sc (.int .i64 0)))), none⟩,
  ⟨(some 3), .mv (.c (.one (.sc (.bool false)))), none⟩]
def r24_1 : List SOper := [
  ⟨(some 5), .fadr 1 (.t 1), none⟩,
  ⟨(some 6), .load1 (.t 5), none⟩,
  ⟨(some 7), .conv .i64 (.t 6), none⟩,
  ⟨(some 4), .mv (.t 7), none⟩]
def r24_2 : List SOper := [
  ⟨(some 8), .loadA 2 (.t 1), none⟩,
  ⟨(some 9), .mv (.t 4), none⟩,
  ⟨(some 10), .call (.z 0) 21 [(.t 9)], none⟩,
  ⟨(some 11), .eqv [.i, .i] false (.t 8) (.t 10), none⟩]
def r24_3 : List SOper := [
  ⟨(some 12), .mv (.t 4), none⟩,
  ⟨(some 2), .mv (.t 12), none⟩,
  ⟨(some 3), .mv (.c (.one (.sc (.bool true)))), none⟩]
def r24_4 : List SOper := [
  ⟨(some 2), .mv (.c (.one (.sc (.int .i64 0)))), none⟩,
  ⟨(some 3), .mv (.c (.one (.sc (.bool false)))), none⟩]
def c24 : SC := (.seq (.reg r24_0) (.seq (.seq (.reg r24_1) (.seq (.reg r24_2) (.cond (.t 11) (.seq (.reg r24_3) .ret) .skip))) (.seq (.reg r24_4) .ret)))
/-- (limner/wide.Num).Int -/
def F24 : SFun := ⟨13, c24, [.tmp 2, .tmp 3]⟩

def r25_0 : List SOper := [
  ⟨(some 2), .box (.t 0), none⟩,
  ⟨(some 3), .box (.t 1), none⟩,
  ⟨(some 4), .mv (.c (.one (.sc (.bool false)))), none⟩]
def r25_1 : List SOper := [
  ⟨(some 6), .iadrA 128 1 (.t 2) (.c (.one (.sc (.int .i64 127)))), none⟩,
  ⟨(some 7), .load1 (.t 6), none⟩,
  ⟨(some 8), .iadrA 128 1 (.t 3) (.c (.one (.sc (.int .i64 127)))), none⟩,
  ⟨(some 9), .load1 (.t 8), none⟩,
  ⟨(some 10), .beq true (.t 7) (.t 9), none⟩]
def r25_2 : List SOper := [
  ⟨(some 11), .iadrA 128 1 (.t 2) (.c (.one (.sc (.int .i64 127)))), none⟩,
  ⟨(some 12), .load1 (.t 11), none⟩,
  ⟨(some 4), .mv (.t 12), none⟩]
def r25_3 : List SOper := [
  ⟨(some 5), .mv (.c (.one (.sc (.int .i64 126)))), none⟩]
def r25_4 : List SOper := [
  ⟨(some 13), .mv (.t 5), none⟩,
  ⟨(some 14), .bin .geq (.t 13) (.c (.one (.sc (.int .i64 0)))), none⟩]
def r25_6 : List SOper := [
  ⟨(some 17), .mv (.t 5), none⟩,
  ⟨(some 18), .iadrA 128 1 (.t 2) (.t 17), none⟩,
  ⟨(some 19), .load1 (.t 18), none⟩,
  ⟨(some 20), .mv (.t 5), none⟩,
  ⟨(some 21), .iadrA 128 1 (.t 3) (.t 20), none⟩,
  ⟨(some 22), .load1 (.t 21), none⟩,
  ⟨(some 23), .beq true (.t 19) (.t 22), none⟩]
def r25_7 : List SOper := [
  ⟨(some 24), .mv (.t 5), none⟩,
  ⟨(some 25), .iadrA 128 1 (.t 3) (.t 24), none⟩,
  ⟨(some 26), .load1 (.t 25), none⟩,
  ⟨(some 4), .mv (.t 26), none⟩]
def r25_5 : List SOper := [
  ⟨(some 15), .mv (.t 5), none⟩,
  ⟨(some 16), .bin .sub (.t 15) (.c (.one (.sc (.int .i64 1)))), none⟩,
  ⟨(some 5), .mv (.t 16), none⟩]
def l25_0 : SC := (.seq (.seq (.reg r25_4) (.cond (.t 14) .skip (.exit 0))) (.seq (.block 1 (.seq (.reg r25_6) (.cond (.t 23) (.seq (.reg r25_7) .ret) .skip))) (.reg r25_5)))
def r25_8 : List SOper := [
  ⟨(some 4), .mv (.c (.one (.sc (.bool false)))), none⟩]
def c25 : SC := (.seq (.reg r25_0) (.seq (.seq (.reg r25_1) (.cond (.t 10) (.seq (.reg r25_2) .ret) .skip)) (.seq (.seq (.reg r25_3) (.block 0 (.loop l25_0))) (.seq (.reg r25_8) .ret))))
/-- limner/limnerref02.Less -/
def F25 : SFun := ⟨27, c25, [.tmp 4]⟩

def r26_0 : List SOper := [
  ⟨(some 1), .box (.t 0), none⟩,
  ⟨(some 2), .mv (.c (.one (.sc (.int .i64 0)))), none⟩]
def r26_1 : List SOper := [
  ⟨(some 3), .loadA 2 (.t 1), none⟩,
  ⟨(some 4), .build [.sc (.int .i64 0), .sc (.int .u64 0)] [], none⟩,
  ⟨(some 5), .call (.z 0) 23 [(.t 3), (.t 4)], none⟩,
  ⟨(some 2), .mv (.t 5), none⟩]
def c26 : SC := (.seq (.reg r26_0) (.seq (.reg r26_1) .ret))
/-- (limner/wide.Num).Sign -/
def F26 : SFun := ⟨6, c26, [.tmp 2]⟩

def r27_0 : List SOper := [
  ⟨(some 6), .mv (.c (.one (.sc (.int .i64 0)))), none⟩,
  ⟨(some 7), .mv (.c (.one (.sc (.bool false)))), none⟩,
  ⟨(some 8), .mv (.c (.one (.sc (.int .i64 0)))), none⟩]
def r27_1 : List SOper := [
  ⟨(some 15), .mv (.t 2), none⟩,
  ⟨(some 16), .bin .eql (.t 15) (.c (.one (.sc (.int .i64 0)))), none⟩]
def r27_2 : List SOper := [
  ⟨(some 6), .mv (.c (.one (.sc (.int .i64 0)))), none⟩,
  ⟨(some 7), .mv (.c (.one (.sc (.bool false)))), none⟩,
  ⟨(some 8), .mv (.c (.one (.sc (.int .i64 11)))), none⟩]
def r27_3 : List SOper := [
  ⟨(some 18), .mv (.t 0), none⟩,
  ⟨(some 19), .call (.z 0) 38 [(.t 18)], none⟩,
  ⟨(some 20), .mv (.t 1), none⟩,
  ⟨(some 21), .call (.z 0) 38 [(.t 20)], none⟩,
  ⟨(some 22), .call (.z 0) 34 [(.t 19), (.t 21)], none⟩,
  ⟨(some 17), .mv (.t 22), none⟩,
  ⟨(some 23), .ext (.t 17) 0, none⟩,
  ⟨(some 24), .ext (.t 17) 1, none⟩,
  ⟨(some 9), .mv (.t 23), none⟩,
  ⟨(some 10), .mv (.t 24), none⟩]
def r27_4 : List SOper := [
  ⟨(some 25), .mv (.t 9), none⟩,
  ⟨(some 26), .mv (.t 2), none⟩,
  ⟨(some 27), .call (.z 0) 38 [(.t 26)], none⟩,
  ⟨(some 28), .bin .geq (.t 25) (.t 27), none⟩]
def r27_5 : List SOper := [
  ⟨(some 6), .mv (.c (.one (.sc (.int .i64 0)))), none⟩,
  ⟨(some 7), .mv (.c (.one (.sc (.bool false)))), none⟩,
  ⟨(some 8), .mv (.c (.one (.sc (.int .i64 10)))), none⟩]
def r27_6 : List SOper := [
  ⟨(some 30), .mv (.t 9), none⟩,
  ⟨(some 31), .mv (.t 10), none⟩,
  ⟨(some 32), .mv (.t 2), none⟩,
  ⟨(some 33), .call (.z 0) 38 [(.t 32)], none⟩,
  ⟨(some 34), .call (.z 0) 39 [(.t 30), (.t 31), (.t 33)], none⟩,
  ⟨(some 29), .mv (.t 34), none⟩,
  ⟨(some 35), .ext (.t 29) 0, none⟩,
  ⟨(some 36), .ext (.t 29) 1, none⟩,
  ⟨(some 11), .mv (.t 35), none⟩,
  ⟨(some 12), .mv (.t 36), none⟩]
def r27_7 : List SOper := [
  ⟨(some 37), .mv (.t 11), none⟩,
  ⟨(some 38), .build [.sc (.int .i64 0), .sc (.int .u64 0)] [(1, 1, (.t 37))], none⟩,
  ⟨(some 13), .alloc [.sc (.int .i64 0), .sc (.int .u64 0)], none⟩,
  ⟨none, .store 2 (.t 13) (.t 38), none⟩]
def r27_8 : List SOper := [
  ⟨(some 39), .mv (.t 0), none⟩,
  ⟨(some 40), .bin .lss (.t 39) (.c (.one (.sc (.int .i64 0)))), none⟩,
  ⟨(some 41), .mv (.t 1), none⟩,
  ⟨(some 42), .bin .lss (.t 41) (.c (.one (.sc (.int .i64 0)))), none⟩,
  ⟨(some 43), .beq true (.t 40) (.t 42), none⟩,
  ⟨(some 44), .mv (.t 2), none⟩,
  ⟨(some 45), .bin .lss (.t 44) (.c (.one (.sc (.int .i64 0)))), none⟩,
  ⟨(some 46), .beq true (.t 43) (.t 45), none⟩]
def r27_9 : List SOper := [
  ⟨(some 47), .mv (.t 12), none⟩,
  ⟨(some 48), .bin .gtr (.t 47) (.c (.one (.sc (.int .u64 0)))), none⟩]
def r27_10 : List SOper := [
  ⟨(some 49), .loadA 2 (.t 13), none⟩,
  ⟨(some 50), .call (.z 0) 21 [(.c (.one (.sc (.int .i64 1))))], none⟩,
  ⟨(some 51), .call (.z 0) 11 [(.t 49), (.t 50)], none⟩,
  ⟨none, .store 2 (.t 13) (.t 51), none⟩]
def r27_11 : List SOper := [
  ⟨(some 52), .loadA 2 (.t 13), none⟩,
  ⟨(some 53), .call (.z 0) 15 [(.t 52)], none⟩,
  ⟨none, .store 2 (.t 13) (.t 53), none⟩]
def r27_12 : List SOper := [
  ⟨(some 55), .loadA 2 (.t 13), none⟩,
  ⟨(some 56), .call (.z 0) 24 [(.t 55)], none⟩,
  ⟨(some 54), .mv (.t 56), none⟩,
  ⟨(some 57), .ext (.t 54) 0, none⟩,
  ⟨(some 58), .ext (.t 54) 1, none⟩,
  ⟨(some 6), .mv (.t 57), none⟩,
  ⟨(some 14), .mv (.t 58), none⟩]
def r27_13 : List SOper := [
  ⟨(some 59), .mv (.t 14), none⟩,
  ⟨(some 60), .un .not (.t 59), none⟩]
def r27_14 : List SOper := [
  ⟨(some 6), .mv (.c (.one (.sc (.int .i64 0)))), none⟩,
  ⟨(some 7), .mv (.c (.one (.sc (.bool false)))), none⟩,
  ⟨(some 8), .mv (.c (.one (.sc (.int .i64 10)))), none⟩]
def r27_15 : List SOper := [
  ⟨(some 61), .mv (.t 6), none⟩,
  ⟨(some 62), .mv (.t 12), none⟩,
  ⟨(some 63), .bin .eql (.t 62) (.c (.one (.sc (.int .u64 0)))), none⟩,
  ⟨(some 6), .mv (.t 61), none⟩,
  ⟨(some 7), .mv (.t 63), none⟩,
  ⟨(some 8), .mv (.c (.one (.sc (.int .i64 0)))), none⟩]
def c27 : SC := (.seq (.reg r27_0) (.seq (.seq (.reg r27_1) (.cond (.t 16) (.seq (.reg r27_2) .ret) .skip)) (.seq (.reg r27_3) (.seq (.seq (.reg r27_4) (.cond (.t 28) (.seq (.reg r27_5) .ret) .skip)) (.seq (.reg r27_6) (.seq (.reg r27_7) (.seq (.seq (.reg r27_8) (.cond (.t 46) (.seq (.seq (.reg r27_9) (.cond (.t 48) (.reg r27_10) .skip)) (.reg r27_11)) .skip)) (.seq (.reg r27_12) (.seq (.seq (.reg r27_13) (.cond (.t 60) (.seq (.reg r27_14) .ret) .skip)) (.seq (.reg r27_15) .ret))))))))))
/-- limner/wide.MulDiv -/
def F27 : SFun := ⟨64, c27, [.tmp 6, .tmp 7, .tmp 8]⟩

def r28_0 : List SOper := [
  ⟨(some 2), .box (.t 0), none⟩,
  ⟨(some 4), .alloc [.sc (.int .i64 0), .sc (.int .u64 0)], none⟩]
def r28_1 : List SOper := [
  ⟨(some 6), .mv (.t 1), none⟩,
  ⟨(some 7), .bin .leq (.t 6) (.c (.one (.sc (.int .i64 0)))), none⟩,
  ⟨(some 5), .mv (.t 7), none⟩]
def r28_2 : List SOper := [
  ⟨(some 8), .loadA 2 (.t 2), none⟩,
  ⟨none, .store 2 (.t 4) (.t 8), none⟩]
def r28_3 : List SOper := [
  ⟨(some 10), .mv (.t 1), none⟩,
  ⟨(some 11), .bin .geq (.t 10) (.c (.one (.sc (.int .i64 128)))), none⟩,
  ⟨(some 9), .mv (.t 11), none⟩]
def r28_4 : List SOper := [
  ⟨(some 12), .fadr 0 (.t 2), none⟩,
  ⟨(some 13), .load1 (.t 12), none⟩,
  ⟨(some 14), .bin .shr (.t 13) (.c (.one (.sc (.int .u64 63)))), none⟩,
  ⟨(some 15), .call (.z 0) 21 [(.t 14)], none⟩,
  ⟨none, .store 2 (.t 4) (.t 15), none⟩]
def r28_5 : List SOper := [
  ⟨(some 17), .mv (.t 1), none⟩,
  ⟨(some 18), .bin .geq (.t 17) (.c (.one (.sc (.int .i64 64)))), none⟩,
  ⟨(some 16), .mv (.t 18), none⟩]
def r28_6 : List SOper := [
  ⟨(some 19), .fadr 0 (.t 2), none⟩,
  ⟨(some 20), .load1 (.t 19), none⟩,
  ⟨(some 21), .mv (.t 1), none⟩,
  ⟨(some 22), .bin .sub (.t 21) (.c (.one (.sc (.int .i64 64)))), none⟩,
  ⟨(some 23), .bin .shr (.t 20) (.t 22), none⟩,
  ⟨(some 24), .call (.z 0) 21 [(.t 23)], none⟩,
  ⟨none, .store 2 (.t 4) (.t 24), none⟩]
def r28_7 : List SOper := [
  ⟨(some 25), .fadr 0 (.t 2), none⟩,
  ⟨(some 26), .load1 (.t 25), none⟩,
  ⟨(some 27), .mv (.t 1), none⟩,
  ⟨(some 28), .bin .shr (.t 26) (.t 27), none⟩,
  ⟨(some 29), .fadr 1 (.t 2), none⟩,
  ⟨(some 30), .load1 (.t 29), none⟩,
  ⟨(some 31), .mv (.t 1), none⟩,
  ⟨(some 32), .bin .shr (.t 30) (.t 31), none⟩,
  ⟨(some 33), .fadr 0 (.t 2), none⟩,
  ⟨(some 34), .load1 (.t 33), none⟩,
  ⟨(some 35), .conv .u64 (.t 34), none⟩,
  ⟨(some 36), .mv (.t 1), none⟩,
  ⟨(some 37), .bin .sub (.c (.one (.sc (.int .i64 64)))) (.t 36), none⟩,
  ⟨(some 38), .bin .shl (.t 35) (.t 37), none⟩,
  ⟨(some 39), .bin .or (.t 32) (.t 38), none⟩,
  ⟨(some 40), .build [.sc (.int .i64 0), .sc (.int .u64 0)] [(0, 1, (.t 28)), (1, 1, (.t 39))], none⟩,
  ⟨none, .store 2 (.t 4) (.t 40), none⟩]
def c28 : SC := (.seq (.reg r28_0) (.seq (.block 0 (.seq (.reg r28_1) (.cond (.t 5) (.seq (.reg r28_2) .ret) (.seq (.reg r28_3) (.cond (.t 9) (.seq (.reg r28_4) .ret) (.seq (.reg r28_5) (.cond (.t 16) (.seq (.reg r28_6) .ret) .skip))))))) (.seq (.reg r28_7) .ret)))
/-- (limner/wide.Num).Shr -/
def F28 : SFun := ⟨41, c28, [.cellA 4 2]⟩

def r29_0 : List SOper := [
  ⟨(some 2), .box (.t 0), none⟩,
  ⟨(some 4), .alloc (List.replicate 128 (.sc (.bool false))), none⟩]
def r29_1 : List SOper := [
  ⟨(some 5), .alloc (List.replicate 128 (.sc (.bool false))), none⟩]
def r29_2 : List SOper := [
  ⟨(some 6), .mv (.c (.one (.sc (.int .i64 0)))), none⟩]
def r29_3 : List SOper := [
  ⟨(some 7), .mv (.t 6), none⟩,
  ⟨(some 8), .bin .lss (.t 7) (.c (.one (.sc (.int .i64 128)))), none⟩]
def r29_5 : List SOper := [
  ⟨(some 11), .mv (.t 1), none⟩,
  ⟨(some 12), .bin .lss (.t 11) (.c (.one (.sc (.int .i64 128)))), none⟩,
  ⟨(some 13), .mv (.t 12), none⟩,
  ⟨(some 14), .mv (.t 6), (some (some 13, true))⟩,
  ⟨(some 15), .mv (.t 1), (some (some 13, true))⟩,
  ⟨(some 16), .bin .add (.t 14) (.t 15), (some (some 13, true))⟩,
  ⟨(some 17), .bin .lss (.t 16) (.c (.one (.sc (.int .i64 128)))), (some (some 13, true))⟩,
  ⟨(some 18), .pick (.t 13) (.t 17) (.c (.one (.sc (.bool false)))), none⟩]
def r29_6 : List SOper := [
  ⟨(some 19), .mv (.t 6), none⟩,
  ⟨(some 20), .mv (.t 6), none⟩,
  ⟨(some 21), .mv (.t 1), none⟩,
  ⟨(some 22), .bin .add (.t 20) (.t 21), none⟩,
  ⟨(some 23), .iadrA 128 1 (.t 2) (.t 22), none⟩,
  ⟨(some 24), .load1 (.t 23), none⟩,
  ⟨(some 25), .iadrA 128 1 (.t 5) (.t 19), none⟩,
  ⟨none, .store 1 (.t 25) (.t 24), none⟩]
def r29_7 : List SOper := [
  ⟨(some 26), .mv (.t 6), none⟩,
  ⟨(some 27), .iadrA 128 1 (.t 2) (.c (.one (.sc (.int .i64 127)))), none⟩,
  ⟨(some 28), .load1 (.t 27), none⟩,
  ⟨(some 29), .iadrA 128 1 (.t 5) (.t 26), none⟩,
  ⟨none, .store 1 (.t 29) (.t 28), none⟩]
def r29_4 : List SOper := [
  ⟨(some 9), .mv (.t 6), none⟩,
  ⟨(some 10), .bin .add (.t 9) (.c (.one (.sc (.int .i64 1)))), none⟩,
  ⟨(some 6), .mv (.t 10), none⟩]
def l29_0 : SC := (.seq (.seq (.reg r29_3) (.cond (.t 8) .skip (.exit 0))) (.seq (.block 1 (.seq (.reg r29_5) (.cond (.t 18) (.reg r29_6) (.reg r29_7)))) (.reg r29_4)))
def r29_8 : List SOper := [
  ⟨(some 30), .loadA 128 (.t 5), none⟩,
  ⟨none, .store 128 (.t 4) (.t 30), none⟩]
def c29 : SC := (.seq (.reg r29_0) (.seq (.reg r29_1) (.seq (.seq (.reg r29_2) (.block 0 (.loop l29_0))) (.seq (.reg r29_8) .ret))))
/-- limner/limnerref02.Shr -/
def F29 : SFun := ⟨31, c29, [.cellA 4 128]⟩

def r30_0 : List SOper := [
  ⟨(some 4), .alloc (List.replicate 128 (.sc (.bool false))), none⟩]
def r30_1 : List SOper := [
  ⟨(some 5), .alloc (List.replicate 128 (.sc (.bool false))), none⟩]
def r30_2 : List SOper := [
  ⟨(some 8), .mv (.t 0), none⟩,
  ⟨(some 9), .conv .u64 (.t 8), none⟩,
  ⟨(some 6), .mv (.t 9), none⟩]
def r30_3 : List SOper := [
  ⟨(some 7), .mv (.c (.one (.sc (.int .i64 0)))), none⟩]
def r30_4 : List SOper := [
  ⟨(some 10), .mv (.t 7), none⟩,
  ⟨(some 11), .bin .lss (.t 10) (.c (.one (.sc (.int .i64 64)))), none⟩]
def r30_6 : List SOper := [
  ⟨(some 14), .mv (.t 7), none⟩,
  ⟨(some 15), .mv (.t 1), none⟩,
  ⟨(some 16), .bin .rem (.t 15) (.c (.one (.sc (.int .u64 2)))), none⟩,
  ⟨(some 17), .bin .eql (.t 16) (.c (.one (.sc (.int .u64 1)))), none⟩,
  ⟨(some 18), .iadrA 128 1 (.t 5) (.t 14), none⟩,
  ⟨none, .store 1 (.t 18) (.t 17), none⟩]
def r30_7 : List SOper := [
  ⟨(some 19), .mv (.t 7), none⟩,
  ⟨(some 20), .bin .add (.t 19) (.c (.one (.sc (.int .i64 64)))), none⟩,
  ⟨(some 21), .mv (.t 6), none⟩,
  ⟨(some 22), .bin .rem (.t 21) (.c (.one (.sc (.int .u64 2)))), none⟩,
  ⟨(some 23), .bin .eql (.t 22) (.c (.one (.sc (.int .u64 1)))), none⟩,
  ⟨(some 24), .iadrA 128 1 (.t 5) (.t 20), none⟩,
  ⟨none, .store 1 (.t 24) (.t 23), none⟩]
def r30_8 : List SOper := [
  ⟨(some 25), .mv (.t 1), none⟩,
  ⟨(some 26), .bin .quo (.t 25) (.c (.one (.sc (.int .u64 2)))), none⟩,
  ⟨(some 1), .mv (.t 26), none⟩]
def r30_9 : List SOper := [
  ⟨(some 27), .mv (.t 6), none⟩,
  ⟨(some 28), .bin .quo (.t 27) (.c (.one (.sc (.int .u64 2)))), none⟩,
  ⟨(some 6), .mv (.t 28), none⟩]
def r30_5 : List SOper := [
  ⟨(some 12), .mv (.t 7), none⟩,
  ⟨(some 13), .bin .add (.t 12) (.c (.one (.sc (.int .i64 1)))), none⟩,
  ⟨(some 7), .mv (.t 13), none⟩]
def l30_0 : SC := (.seq (.seq (.reg r30_4) (.cond (.t 11) .skip (.exit 0))) (.seq (.block 1 (.seq (.reg r30_6) (.seq (.reg r30_7) (.seq (.reg r30_8) (.reg r30_9))))) (.reg r30_5)))
def r30_10 : List SOper := [
  ⟨(some 29), .loadA 128 (.t 5), none⟩,
  ⟨none, .store 128 (.t 4) (.t 29), none⟩]
def c30 : SC := (.seq (.reg r30_0) (.seq (.reg r30_1) (.seq (.reg r30_2) (.seq (.seq (.reg r30_3) (.block 0 (.loop l30_0))) (.seq (.reg r30_10) .ret)))))
/-- limner/limnerref02.Bits -/
def F30 : SFun := ⟨30, c30, [.cellA 4 128]⟩

def r33_0 : List SOper := [
  ⟨(some 1), .box (.t 0), none⟩,
  ⟨(some 2), .alloc (List.replicate 128 (.sc (.bool false))), none⟩]
def r33_1 : List SOper := [
  ⟨(some 3), .mv (.c (.one (.sc (.int .i64 0)))), none⟩]
def r33_2 : List SOper := [
  ⟨(some 4), .mv (.t 3), none⟩,
  ⟨(some 5), .bin .lss (.t 4) (.c (.one (.sc (.int .i64 128)))), none⟩]
def r33_4 : List SOper := [
  ⟨(some 8), .mv (.t 3), none⟩,
  ⟨(some 9), .mv (.t 3), none⟩,
  ⟨(some 10), .iadrA 128 1 (.t 1) (.t 9), none⟩,
  ⟨(some 11), .load1 (.t 10), none⟩,
  ⟨(some 12), .un .not (.t 11), none⟩,
  ⟨(some 13), .iadrA 128 1 (.t 1) (.t 8), none⟩,
  ⟨none, .store 1 (.t 13) (.t 12), none⟩]
def r33_3 : List SOper := [
  ⟨(some 6), .mv (.t 3), none⟩,
  ⟨(some 7), .bin .add (.t 6) (.c (.one (.sc (.int .i64 1)))), none⟩,
  ⟨(some 3), .mv (.t 7), none⟩]
def l33_0 : SC := (.seq (.seq (.reg r33_2) (.cond (.t 5) .skip (.exit 0))) (.seq (.block 1 (.reg r33_4)) (.reg r33_3)))
def r33_5 : List SOper := [
  ⟨(some 14), .loadA 128 (.t 1), none⟩,
  ⟨none, .store 128 (.t 2) (.t 14), none⟩]
def c33 : SC := (.seq (.reg r33_0) (.seq (.seq (.reg r33_1) (.block 0 (.loop l33_0))) (.seq (.reg r33_5) .ret)))
/-- limner/limnerref02.Not -/
def F33 : SFun := ⟨15, c33, [.cellA 2 128]⟩

def r34_0 : List SOper := [
  ⟨(some 4), .mv (.c (.one (.sc (.int .u64 0)))), none⟩,
  ⟨(some 5), .mv (.c (.one (.sc (.int .u64 0)))), none⟩]
def r34_1 : List SOper := [
  ⟨(some 14), .mv (.t 0), none⟩,
  ⟨(some 15), .bin .and (.t 14) (.c (.one (.sc (.int .u64 4294967295)))), none⟩,
  ⟨(some 6), .mv (.t 15), none⟩]
def r34_2 : List SOper := [
  ⟨(some 16), .mv (.t 0), none⟩,
  ⟨(some 17), .bin .shr (.t 16) (.c (.one (.sc (.int .u64 32)))), none⟩,
  ⟨(some 7), .mv (.t 17), none⟩]
def r34_3 : List SOper := [
  ⟨(some 18), .mv (.t 1), none⟩,
  ⟨(some 19), .bin .and (.t 18) (.c (.one (.sc (.int .u64 4294967295)))), none⟩,
  ⟨(some 8), .mv (.t 19), none⟩]
def r34_4 : List SOper := [
  ⟨(some 20), .mv (.t 1), none⟩,
  ⟨(some 21), .bin .shr (.t 20) (.c (.one (.sc (.int .u64 32)))), none⟩,
  ⟨(some 9), .mv (.t 21), none⟩]
def r34_5 : List SOper := [
  ⟨(some 22), .mv (.t 6), none⟩,
  ⟨(some 23), .mv (.t 8), none⟩,
  ⟨(some 24), .bin .mul (.t 22) (.t 23), none⟩,
  ⟨(some 10), .mv (.t 24), none⟩]
def r34_6 : List SOper := [
  ⟨(some 25), .mv (.t 7), none⟩,
  ⟨(some 26), .mv (.t 8), none⟩,
  ⟨(some 27), .bin .mul (.t 25) (.t 26), none⟩,
  ⟨(some 28), .mv (.t 10), none⟩,
  ⟨(some 29), .bin .shr (.t 28) (.c (.one (.sc (.int .u64 32)))), none⟩,
  ⟨(some 30), .bin .add (.t 27) (.t 29), none⟩,
  ⟨(some 11), .mv (.t 30), none⟩]
def r34_7 : List SOper := [
  ⟨(some 31), .mv (.t 11), none⟩,
  ⟨(some 32), .bin .and (.t 31) (.c (.one (.sc (.int .u64 4294967295)))), none⟩,
  ⟨(some 12), .mv (.t 32), none⟩]
def r34_8 : List SOper := [
  ⟨(some 33), .mv (.t 11), none⟩,
  ⟨(some 34), .bin .shr (.t 33) (.c (.one (.sc (.int .u64 32)))), none⟩,
  ⟨(some 13), .mv (.t 34), none⟩]
def r34_9 : List SOper := [
  ⟨(some 35), .mv (.t 12), none⟩,
  ⟨(some 36), .mv (.t 6), none⟩,
  ⟨(some 37), .mv (.t 9), none⟩,
  ⟨(some 38), .bin .mul (.t 36) (.t 37), none⟩,
  ⟨(some 39), .bin .add (.t 35) (.t 38), none⟩,
  ⟨(some 12), .mv (.t 39), none⟩]
def r34_10 : List SOper := [
  ⟨(some 40), .mv (.t 7), none⟩,
  ⟨(some 41), .mv (.t 9), none⟩,
  ⟨(some 42), .bin .mul (.t 40) (.t 41), none⟩,
  ⟨(some 43), .mv (.t 13), none⟩,
  ⟨(some 44), .bin .add (.t 42) (.t 43), none⟩,
  ⟨(some 45), .mv (.t 12), none⟩,
  ⟨(some 46), .bin .shr (.t 45) (.c (.one (.sc (.int .u64 32)))), none⟩,
  ⟨(some 47), .bin .add (.t 44) (.t 46), none⟩,
  ⟨(some 4), .mv (.t 47), none⟩]
def r34_11 : List SOper := [
  ⟨(some 48), .mv (.t 0), none⟩,
  ⟨(some 49), .mv (.t 1), none⟩,
  ⟨(some 50), .bin .mul (.t 48) (.t 49), none⟩,
  ⟨(some 5), .mv (.t 50), none⟩]
def c34 : SC := (.seq (.reg r34_0) (.seq (.reg r34_1) (.seq (.reg r34_2) (.seq (.reg r34_3) (.seq (.reg r34_4) (.seq (.reg r34_5) (.seq (.reg r34_6) (.seq (.reg r34_7) (.seq (.reg r34_8) (.seq (.reg r34_9) (.seq (.reg r34_10) (.seq (.reg r34_11) .ret))))))))))))
/-- math/bits.Mul64 -/
def F34 : SFun := ⟨51, c34, [.tmp 4, .tmp 5]⟩

def r35_0 : List SOper := [
  ⟨(some 2), .mv (.c (.one (.sc (.int .i64 0)))), none⟩]
def r35_1 : List SOper := [
  ⟨(some 3), .mv (.c (.one (.sc (.int .i64 0)))), none⟩]
def r35_2 : List SOper := [
  ⟨(some 6), .mv (.t 0), none⟩,
  ⟨(some 7), .len (.t 6), none⟩,
  ⟨(some 8), .mv (.c (.one (.sc (.int .i64 0)))), none⟩]
def r35_3 : List SOper := [
  ⟨(some 9), .bin .lss (.t 8) (.t 7), none⟩]
def r35_4 : List SOper := [
  ⟨(some 10), .iadrS 1 (.t 6) (.t 8), none⟩,
  ⟨(some 11), .load1 (.t 10), none⟩,
  ⟨(some 5), .mv (.t 11), none⟩]
def r35_5 : List SOper := [
  ⟨(some 12), .mv (.t 5), none⟩,
  ⟨(some 13), .mv (.t 3), none⟩,
  ⟨(some 14), .bin .neq (.t 12) (.t 13), none⟩]
def r35_6 : List SOper := [
  ⟨(some 15), .mv (.t 5), none⟩,
  ⟨(some 2), .mv (.t 15), none⟩]
def r35_7 : List SOper := [
  ⟨(some 16), .bin .add (.t 8) (.c (.one (.sc (.int .i64 1)))), none⟩,
  ⟨(some 8), .mv (.t 16), none⟩]
def l35_0 : SC := (.seq (.reg r35_3) (.seq (.cond (.t 9) .skip (.exit 0)) (.seq (.block 1 (.seq (.reg r35_4) (.seq (.reg r35_5) (.cond (.t 14) (.seq (.reg r35_6) .ret) .skip)))) (.reg r35_7))))
def r35_8 : List SOper := [
  ⟨(some 17), .mv (.t 3), none⟩,
  ⟨(some 2), .mv (.t 17), none⟩]
def c35 : SC := (.seq (.reg r35_0) (.seq (.reg r35_1) (.seq (.seq (.reg r35_2) (.block 0 (.loop l35_0))) (.seq (.reg r35_8) .ret))))
/-- cmp.Or[int] -/
def F35 : SFun := ⟨18, c35, [.tmp 2]⟩

def r36_0 : List SOper := [
  ⟨(some 4), .mv (.c (.one (.sc (.int .i64 0)))), none⟩]
def r36_1 : List SOper := [
  ⟨(some 7), .mv (.t 0), none⟩,
  ⟨(some 8), .call (.z 0) 40 [(.t 7)], none⟩,
  ⟨(some 5), .mv (.t 8), none⟩]
def r36_2 : List SOper := [
  ⟨(some 9), .mv (.t 1), none⟩,
  ⟨(some 10), .call (.z 0) 40 [(.t 9)], none⟩,
  ⟨(some 6), .mv (.t 10), none⟩]
def r36_3 : List SOper := [
  ⟨(some 11), .mv (.t 5), none⟩]
def r36_4 : List SOper := [
  ⟨(some 12), .mv (.t 6), none⟩]
def r36_5 : List SOper := [
  ⟨(some 4), .mv (.c (.one (.sc (.int .i64 0)))), none⟩]
def r36_6 : List SOper := [
  ⟨(some 4), .mv (.c (.one (.sc (.int .i64 (-1))))), none⟩]
def r36_7 : List SOper := [
  ⟨(some 13), .mv (.t 6), none⟩]
def r36_8 : List SOper := [
  ⟨(some 4), .mv (.c (.one (.sc (.int .i64 1)))), none⟩]
def r36_9 : List SOper := [
  ⟨(some 14), .mv (.t 0), none⟩,
  ⟨(some 15), .mv (.t 1), none⟩,
  ⟨(some 16), .bin .lss (.t 14) (.t 15), none⟩]
def r36_10 : List SOper := [
  ⟨(some 4), .mv (.c (.one (.sc (.int .i64 (-1))))), none⟩]
def r36_11 : List SOper := [
  ⟨(some 17), .mv (.t 0), none⟩,
  ⟨(some 18), .mv (.t 1), none⟩,
  ⟨(some 19), .bin .gtr (.t 17) (.t 18), none⟩]
def r36_12 : List SOper := [
  ⟨(some 4), .mv (.c (.one (.sc (.int .i64 1)))), none⟩]
def r36_13 : List SOper := [
  ⟨(some 4), .mv (.c (.one (.sc (.int .i64 0)))), none⟩]
def c36 : SC := (.seq (.reg r36_0) (.seq (.reg r36_1) (.seq (.reg r36_2) (.seq (.seq (.reg r36_3) (.cond (.t 11) (.seq (.seq (.reg r36_4) (.cond (.t 12) (.seq (.reg r36_5) .ret) .skip)) (.seq (.reg r36_6) .ret)) .skip)) (.seq (.seq (.reg r36_7) (.cond (.t 13) (.seq (.reg r36_8) .ret) .skip)) (.seq (.seq (.reg r36_9) (.cond (.t 16) (.seq (.reg r36_10) .ret) .skip)) (.seq (.seq (.reg r36_11) (.cond (.t 19) (.seq (.reg r36_12) .ret) .skip)) (.seq (.reg r36_13) .ret))))))))
/-- cmp.Compare[int64] -/
def F36 : SFun := ⟨20, c36, [.tmp 4]⟩

def r37_0 : List SOper := [
  ⟨(some 4), .mv (.c (.one (.sc (.int .i64 0)))), none⟩]
def r37_1 : List SOper := [
  ⟨(some 7), .mv (.t 0), none⟩,
  ⟨(some 8), .call (.z 0) 41 [(.t 7)], none⟩,
  ⟨(some 5), .mv (.t 8), none⟩]
def r37_2 : List SOper := [
  ⟨(some 9), .mv (.t 1), none⟩,
  ⟨(some 10), .call (.z 0) 41 [(.t 9)], none⟩,
  ⟨(some 6), .mv (.t 10), none⟩]
def r37_3 : List SOper := [
  ⟨(some 11), .mv (.t 5), none⟩]
def r37_4 : List SOper := [
  ⟨(some 12), .mv (.t 6), none⟩]
def r37_5 : List SOper := [
  ⟨(some 4), .mv (.c (.one (.sc (.int .i64 0)))), none⟩]
def r37_6 : List SOper := [
  ⟨(some 4), .mv (.c (.one (.sc (.int .i64 (-1))))), none⟩]
def r37_7 : List SOper := [
  ⟨(some 13), .mv (.t 6), none⟩]
def r37_8 : List SOper := [
  ⟨(some 4), .mv (.c (.one (.sc (.int .i64 1)))), none⟩]
def r37_9 : List SOper := [
  ⟨(some 14), .mv (.t 0), none⟩,
  ⟨(some 15), .mv (.t 1), none⟩,
  ⟨(some 16), .bin .lss (.t 14) (.t 15), none⟩]
def r37_10 : List SOper := [
  ⟨(some 4), .mv (.c (.one (.sc (.int .i64 (-1))))), none⟩]
def r37_11 : List SOper := [
  ⟨(some 17), .mv (.t 0), none⟩,
  ⟨(some 18), .mv (.t 1), none⟩,
  ⟨(some 19), .bin .gtr (.t 17) (.t 18), none⟩]
def r37_12 : List SOper := [
  ⟨(some 4), .mv (.c (.one (.sc (.int .i64 1)))), none⟩]
def r37_13 : List SOper := [
  ⟨(some 4), .mv (.c (.one (.sc (.int .i64 0)))), none⟩]
def c37 : SC := (.seq (.reg r37_0) (.seq (.reg r37_1) (.seq (.reg r37_2) (.seq (.seq (.reg r37_3) (.cond (.t 11) (.seq (.seq (.reg r37_4) (.cond (.t 12) (.seq (.reg r37_5) .ret) .skip)) (.seq (.reg r37_6) .ret)) .skip)) (.seq (.seq (.reg r37_7) (.cond (.t 13) (.seq (.reg r37_8) .ret) .skip)) (.seq (.seq (.reg r37_9) (.cond (.t 16) (.seq (.reg r37_10) .ret) .skip)) (.seq (.seq (.reg r37_11) (.cond (.t 19) (.seq (.reg r37_12) .ret) .skip)) (.seq (.reg r37_13) .ret))))))))
/-- cmp.Compare[uint64] -/
def F37 : SFun := ⟨20, c37, [.tmp 4]⟩

def r38_0 : List SOper := [
  ⟨(some 2), .mv (.c (.one (.sc (.int .u64 0)))), none⟩]
def r38_1 : List SOper := [
  ⟨(some 3), .mv (.t 0), none⟩,
  ⟨(some 4), .bin .lss (.t 3) (.c (.one (.sc (.int .i64 0)))), none⟩]
def r38_2 : List SOper := [
  ⟨(some 5), .mv (.t 0), none⟩,
  ⟨(some 6), .conv .u64 (.t 5), none⟩,
  ⟨(some 7), .un .neg (.t 6), none⟩,
  ⟨(some 2), .mv (.t 7), none⟩]
def r38_3 : List SOper := [
  ⟨(some 8), .mv (.t 0), none⟩,
  ⟨(some 9), .conv .u64 (.t 8), none⟩,
  ⟨(some 2), .mv (.t 9), none⟩]
def c38 : SC := (.seq (.reg r38_0) (.seq (.seq (.reg r38_1) (.cond (.t 4) (.seq (.reg r38_2) .ret) .skip)) (.seq (.reg r38_3) .ret)))
/-- limner/wide.size -/
def F38 : SFun := ⟨10, c38, [.tmp 2]⟩

def r39_0 : List SOper := [
  ⟨(some 6), .mv (.c (.one (.sc (.int .u64 0)))), none⟩,
  ⟨(some 7), .mv (.c (.one (.sc (.int .u64 0)))), none⟩]
def r39_1 : List SOper := [
  ⟨(some 19), .mv (.t 2), none⟩,
  ⟨(some 20), .bin .eql (.t 19) (.c (.one (.sc (.int .u64 0)))), none⟩]
def r39_2 : List SOper := [
  ⟨(some 21), .stuck, none⟩,
  ⟨none, .stuck, none⟩]
def r39_3 : List SOper := [
  ⟨(some 22), .mv (.t 2), none⟩,
  ⟨(some 23), .mv (.t 0), none⟩,
  ⟨(some 24), .bin .leq (.t 22) (.t 23), none⟩]
def r39_4 : List SOper := [
  ⟨(some 25), .stuck, none⟩,
  ⟨none, .stuck, none⟩]
def r39_5 : List SOper := [
  ⟨(some 26), .mv (.t 0), none⟩,
  ⟨(some 27), .bin .eql (.t 26) (.c (.one (.sc (.int .u64 0)))), none⟩]
def r39_6 : List SOper := [
  ⟨(some 28), .mv (.t 1), none⟩,
  ⟨(some 29), .mv (.t 2), none⟩,
  ⟨(some 30), .bin .quo (.t 28) (.t 29), none⟩,
  ⟨(some 31), .mv (.t 1), none⟩,
  ⟨(some 32), .mv (.t 2), none⟩,
  ⟨(some 33), .bin .rem (.t 31) (.t 32), none⟩,
  ⟨(some 6), .mv (.t 30), none⟩,
  ⟨(some 7), .mv (.t 33), none⟩]
def r39_7 : List SOper := [
  ⟨(some 34), .mv (.t 2), none⟩,
  ⟨(some 35), .call (.z 0) 42 [(.t 34)], none⟩,
  ⟨(some 36), .conv .u64 (.t 35), none⟩,
  ⟨(some 8), .mv (.t 36), none⟩]
def r39_8 : List SOper := [
  ⟨(some 37), .mv (.t 2), none⟩,
  ⟨(some 38), .mv (.t 8), none⟩,
  ⟨(some 39), .bin .shl (.t 37) (.t 38), none⟩,
  ⟨(some 2), .mv (.t 39), none⟩]
def r39_9 : List SOper := [
  ⟨(some 40), .mv (.t 2), none⟩,
  ⟨(some 41), .bin .shr (.t 40) (.c (.one (.sc (.int .u64 32)))), none⟩,
  ⟨(some 9), .mv (.t 41), none⟩]
def r39_10 : List SOper := [
  ⟨(some 42), .mv (.t 2), none⟩,
  ⟨(some 43), .bin .and (.t 42) (.c (.one (.sc (.int .u64 4294967295)))), none⟩,
  ⟨(some 10), .mv (.t 43), none⟩]
def r39_11 : List SOper := [
  ⟨(some 44), .mv (.t 0), none⟩,
  ⟨(some 45), .mv (.t 8), none⟩,
  ⟨(some 46), .bin .shl (.t 44) (.t 45), none⟩,
  ⟨(some 47), .mv (.t 1), none⟩,
  ⟨(some 48), .mv (.t 8), none⟩,
  ⟨(some 49), .bin .sub (.c (.one (.sc (.int .u64 64)))) (.t 48), none⟩,
  ⟨(some 50), .bin .shr (.t 47) (.t 49), none⟩,
  ⟨(some 51), .bin .or (.t 46) (.t 50), none⟩,
  ⟨(some 11), .mv (.t 51), none⟩]
def r39_12 : List SOper := [
  ⟨(some 52), .mv (.t 1), none⟩,
  ⟨(some 53), .mv (.t 8), none⟩,
  ⟨(some 54), .bin .shl (.t 52) (.t 53), none⟩,
  ⟨(some 12), .mv (.t 54), none⟩]
def r39_13 : List SOper := [
  ⟨(some 55), .mv (.t 12), none⟩,
  ⟨(some 56), .bin .shr (.t 55) (.c (.one (.sc (.int .u64 32)))), none⟩,
  ⟨(some 13), .mv (.t 56), none⟩]
def r39_14 : List SOper := [
  ⟨(some 57), .mv (.t 12), none⟩,
  ⟨(some 58), .bin .and (.t 57) (.c (.one (.sc (.int .u64 4294967295)))), none⟩,
  ⟨(some 14), .mv (.t 58), none⟩]
def r39_15 : List SOper := [
  ⟨(some 59), .mv (.t 11), none⟩,
  ⟨(some 60), .mv (.t 9), none⟩,
  ⟨(some 61), .bin .quo (.t 59) (.t 60), none⟩,
  ⟨(some 15), .mv (.t 61), none⟩]
def r39_16 : List SOper := [
  ⟨(some 62), .mv (.t 11), none⟩,
  ⟨(some 63), .mv (.t 15), none⟩,
  ⟨(some 64), .mv (.t 9), none⟩,
  ⟨(some 65), .bin .mul (.t 63) (.t 64), none⟩,
  ⟨(some 66), .bin .sub (.t 62) (.t 65), none⟩,
  ⟨(some 16), .mv (.t 66), none⟩]
def r39_17 : List SOper := [
  ⟨(some 67), .mv (.t 15), none⟩,
  ⟨(some 68), .bin .geq (.t 67) (.c (.one (.sc (.int .u64 4294967296)))), none⟩,
  ⟨(some 69), .mv (.t 68), none⟩,
  ⟨(some 70), .mv (.t 15), (some (some 69, false))⟩,
  ⟨(some 71), .mv (.t 10), (some (some 69, false))⟩,
  ⟨(some 72), .bin .mul (.t 70) (.t 71), (some (some 69, false))⟩,
  ⟨(some 73), .mv (.t 16), (some (some 69, false))⟩,
  ⟨(some 74), .bin .mul (.c (.one (.sc (.int .u64 4294967296)))) (.t 73), (some (some 69, false))⟩,
  ⟨(some 75), .mv (.t 13), (some (some 69, false))⟩,
  ⟨(some 76), .bin .add (.t 74) (.t 75), (some (some 69, false))⟩,
  ⟨(some 77), .bin .gtr (.t 72) (.t 76), (some (some 69, false))⟩,
  ⟨(some 78), .pick (.t 69) (.c (.one (.sc (.bool true)))) (.t 77), none⟩]
def r39_18 : List SOper := [
  ⟨(some 79), .mv (.t 15), none⟩,
  ⟨(some 80), .bin .sub (.t 79) (.c (.one (.sc (.int .u64 1)))), none⟩,
  ⟨(some 15), .mv (.t 80), none⟩]
def r39_19 : List SOper := [
  ⟨(some 81), .mv (.t 16), none⟩,
  ⟨(some 82), .mv (.t 9), none⟩,
  ⟨(some 83), .bin .add (.t 81) (.t 82), none⟩,
  ⟨(some 16), .mv (.t 83), none⟩]
def r39_20 : List SOper := [
  ⟨(some 84), .mv (.t 16), none⟩,
  ⟨(some 85), .bin .geq (.t 84) (.c (.one (.sc (.int .u64 4294967296)))), none⟩]
def l39_0 : SC := (.seq (.seq (.reg r39_17) (.cond (.t 78) .skip (.exit 0))) (.block 1 (.seq (.reg r39_18) (.seq (.reg r39_19) (.seq (.reg r39_20) (.cond (.t 85) (.exit 0) .skip))))))
def r39_21 : List SOper := [
  ⟨(some 86), .mv (.t 11), none⟩,
  ⟨(some 87), .bin .mul (.t 86) (.c (.one (.sc (.int .u64 4294967296)))), none⟩,
  ⟨(some 88), .mv (.t 13), none⟩,
  ⟨(some 89), .bin .add (.t 87) (.t 88), none⟩,
  ⟨(some 90), .mv (.t 15), none⟩,
  ⟨(some 91), .mv (.t 2), none⟩,
  ⟨(some 92), .bin .mul (.t 90) (.t 91), none⟩,
  ⟨(some 93), .bin .sub (.t 89) (.t 92), none⟩,
  ⟨(some 17), .mv (.t 93), none⟩]
def r39_22 : List SOper := [
  ⟨(some 94), .mv (.t 17), none⟩,
  ⟨(some 95), .mv (.t 9), none⟩,
  ⟨(some 96), .bin .quo (.t 94) (.t 95), none⟩,
  ⟨(some 18), .mv (.t 96), none⟩]
def r39_23 : List SOper := [
  ⟨(some 97), .mv (.t 17), none⟩,
  ⟨(some 98), .mv (.t 18), none⟩,
  ⟨(some 99), .mv (.t 9), none⟩,
  ⟨(some 100), .bin .mul (.t 98) (.t 99), none⟩,
  ⟨(some 101), .bin .sub (.t 97) (.t 100), none⟩,
  ⟨(some 16), .mv (.t 101), none⟩]
def r39_24 : List SOper := [
  ⟨(some 102), .mv (.t 18), none⟩,
  ⟨(some 103), .bin .geq (.t 102) (.c (.one (.sc (.int .u64 4294967296)))), none⟩,
  ⟨(some 104), .mv (.t 103), none⟩,
  ⟨(some 105), .mv (.t 18), (some (some 104, false))⟩,
  ⟨(some 106), .mv (.t 10), (some (some 104, false))⟩,
  ⟨(some 107), .bin .mul (.t 105) (.t 106), (some (some 104, false))⟩,
  ⟨(some 108), .mv (.t 16), (some (some 104, false))⟩,
  ⟨(some 109), .bin .mul (.c (.one (.sc (.int .u64 4294967296)))) (.t 108), (some (some 104, false))⟩,
  ⟨(some 110), .mv (.t 14), (some (some 104, false))⟩,
  ⟨(some 111), .bin .add (.t 109) (.t 110), (some (some 104, false))⟩,
  ⟨(some 112), .bin .gtr (.t 107) (.t 111), (some (some 104, false))⟩,
  ⟨(some 113), .pick (.t 104) (.c (.one (.sc (.bool true)))) (.t 112), none⟩]
def r39_25 : List SOper := [
  ⟨(some 114), .mv (.t 18), none⟩,
  ⟨(some 115), .bin .sub (.t 114) (.c (.one (.sc (.int .u64 1)))), none⟩,
  ⟨(some 18), .mv (.t 115), none⟩]
def r39_26 : List SOper := [
  ⟨(some 116), .mv (.t 16), none⟩,
  ⟨(some 117), .mv (.t 9), none⟩,
  ⟨(some 118), .bin .add (.t 116) (.t 117), none⟩,
  ⟨(some 16), .mv (.t 118), none⟩]
def r39_27 : List SOper := [
  ⟨(some 119), .mv (.t 16), none⟩,
  ⟨(some 120), .bin .geq (.t 119) (.c (.one (.sc (.int .u64 4294967296)))), none⟩]
def l39_1 : SC := (.seq (.seq (.reg r39_24) (.cond (.t 113) .skip (.exit 2))) (.block 3 (.seq (.reg r39_25) (.seq (.reg r39_26) (.seq (.reg r39_27) (.cond (.t 120) (.exit 2) .skip))))))
def r39_28 : List SOper := [
  ⟨(some 121), .mv (.t 15), none⟩,
  ⟨(some 122), .bin .mul (.t 121) (.c (.one (.sc (.int .u64 4294967296)))), none⟩,
  ⟨(some 123), .mv (.t 18), none⟩,
  ⟨(some 124), .bin .add (.t 122) (.t 123), none⟩,
  ⟨(some 125), .mv (.t 17), none⟩,
  ⟨(some 126), .bin .mul (.t 125) (.c (.one (.sc (.int .u64 4294967296)))), none⟩,
  ⟨(some 127), .mv (.t 14), none⟩,
  ⟨(some 128), .bin .add (.t 126) (.t 127), none⟩,
  ⟨(some 129), .mv (.t 18), none⟩,
  ⟨(some 130), .mv (.t 2), none⟩,
  ⟨(some 131), .bin .mul (.t 129) (.t 130), none⟩,
  ⟨(some 132), .bin .sub (.t 128) (.t 131), none⟩,
  ⟨(some 133), .mv (.t 8), none⟩,
  ⟨(some 134), .bin .shr (.t 132) (.t 133), none⟩,
  ⟨(some 6), .mv (.t 124), none⟩,
  ⟨(some 7), .mv (.t 134), none⟩]
def c39 : SC := (.seq (.reg r39_0) (.seq (.seq (.reg r39_1) (.cond (.t 20) (.reg r39_2) .skip)) (.seq (.seq (.reg r39_3) (.cond (.t 24) (.reg r39_4) .skip)) (.seq (.seq (.reg r39_5) (.cond (.t 27) (.seq (.reg r39_6) .ret) .skip)) (.seq (.reg r39_7) (.seq (.reg r39_8) (.seq (.reg r39_9) (.seq (.reg r39_10) (.seq (.reg r39_11) (.seq (.reg r39_12) (.seq (.reg r39_13) (.seq (.reg r39_14) (.seq (.reg r39_15) (.seq (.reg r39_16) (.seq (.block 0 (.loop l39_0)) (.seq (.reg r39_21) (.seq (.reg r39_22) (.seq (.reg r39_23) (.seq (.block 2 (.loop l39_1)) (.seq (.reg r39_28) .ret))))))))))))))))))))
/-- math/bits.Div64 -/
def F39 : SFun := ⟨135, c39, [.tmp 6, .tmp 7]⟩

def r40_0 : List SOper := [
  ⟨(some 2), .mv (.c (.one (.sc (.bool false)))), none⟩]
def r40_1 : List SOper := [
  ⟨(some 3), .mv (.t 0), none⟩,
  ⟨(some 4), .mv (.t 0), none⟩,
  ⟨(some 5), .bin .neq (.t 3) (.t 4), none⟩,
  ⟨(some 2), .mv (.t 5), none⟩]
def c40 : SC := (.seq (.reg r40_0) (.seq (.reg r40_1) .ret))
/-- cmp.isNaN[int64] -/
def F40 : SFun := ⟨6, c40, [.tmp 2]⟩

def r41_0 : List SOper := [
  ⟨(some 2), .mv (.c (.one (.sc (.bool false)))), none⟩]
def r41_1 : List SOper := [
  ⟨(some 3), .mv (.t 0), none⟩,
  ⟨(some 4), .mv (.t 0), none⟩,
  ⟨(some 5), .bin .neq (.t 3) (.t 4), none⟩,
  ⟨(some 2), .mv (.t 5), none⟩]
def c41 : SC := (.seq (.reg r41_0) (.seq (.reg r41_1) .ret))
/-- cmp.isNaN[uint64] -/
def F41 : SFun := ⟨6, c41, [.tmp 2]⟩

def r42_0 : List SOper := [
  ⟨(some 2), .mv (.c (.one (.sc (.int .i64 0)))), none⟩]
def r42_1 : List SOper := [
  ⟨(some 3), .mv (.t 0), none⟩,
  ⟨(some 4), .call (.z 0) 43 [(.t 3)], none⟩,
  ⟨(some 5), .bin .sub (.c (.one (.sc (.int .i64 64)))) (.t 4), none⟩,
  ⟨(some 2), .mv (.t 5), none⟩]
def c42 : SC := (.seq (.reg r42_0) (.seq (.reg r42_1) .ret))
/-- math/bits.LeadingZeros64 -/
def F42 : SFun := ⟨6, c42, [.tmp 2]⟩

def r43_0 : List SOper := [
  ⟨(some 2), .mv (.c (.one (.sc (.int .i64 0)))), none⟩]
def r43_1 : List SOper := [
  ⟨(some 3), .mv (.t 0), none⟩,
  ⟨(some 4), .bin .geq (.t 3) (.c (.one (.sc (.int .u64 4294967296)))), none⟩]
def r43_2 : List SOper := [
  ⟨(some 5), .mv (.t 0), none⟩,
  ⟨(some 6), .bin .shr (.t 5) (.c (.one (.sc (.int .u64 32)))), none⟩,
  ⟨(some 0), .mv (.t 6), none⟩]
def r43_3 : List SOper := [
  ⟨(some 2), .mv (.c (.one (.sc (.int .i64 32)))), none⟩]
def r43_4 : List SOper := [
  ⟨(some 7), .mv (.t 0), none⟩,
  ⟨(some 8), .bin .geq (.t 7) (.c (.one (.sc (.int .u64 65536)))), none⟩]
def r43_5 : List SOper := [
  ⟨(some 9), .mv (.t 0), none⟩,
  ⟨(some 10), .bin .shr (.t 9) (.c (.one (.sc (.int .u64 16)))), none⟩,
  ⟨(some 0), .mv (.t 10), none⟩]
def r43_6 : List SOper := [
  ⟨(some 11), .mv (.t 2), none⟩,
  ⟨(some 12), .bin .add (.t 11) (.c (.one (.sc (.int .i64 16)))), none⟩,
  ⟨(some 2), .mv (.t 12), none⟩]
def r43_7 : List SOper := [
  ⟨(some 13), .mv (.t 0), none⟩,
  ⟨(some 14), .bin .geq (.t 13) (.c (.one (.sc (.int .u64 256)))), none⟩]
def r43_8 : List SOper := [
  ⟨(some 15), .mv (.t 0), none⟩,
  ⟨(some 16), .bin .shr (.t 15) (.c (.one (.sc (.int .u64 8)))), none⟩,
  ⟨(some 0), .mv (.t 16), none⟩]
def r43_9 : List SOper := [
  ⟨(some 17), .mv (.t 2), none⟩,
  ⟨(some 18), .bin .add (.t 17) (.c (.one (.sc (.int .i64 8)))), none⟩,
  ⟨(some 2), .mv (.t 18), none⟩]
def r43_10 : List SOper := [
  ⟨(some 19), .mv (.t 2), none⟩,
  ⟨(some 20), .mv (.t 0), none⟩,
  ⟨(some 21), .conv .u8 (.t 20), none⟩,
  ⟨(some 22), .stuck, none⟩,
  ⟨(some 23), .conv .i64 (.t 22), none⟩,
  ⟨(some 24), .bin .add (.t 19) (.t 23), none⟩,
  ⟨(some 2), .mv (.t 24), none⟩]
def c43 : SC := (.seq (.reg r43_0) (.seq (.seq (.reg r43_1) (.cond (.t 4) (.seq (.reg r43_2) (.reg r43_3)) .skip)) (.seq (.seq (.reg r43_4) (.cond (.t 8) (.seq (.reg r43_5) (.reg r43_6)) .skip)) (.seq (.seq (.reg r43_7) (.cond (.t 14) (.seq (.reg r43_8) (.reg r43_9)) .skip)) (.seq (.reg r43_10) .ret)))))
/-- math/bits.Len64 -/
def F43 : SFun := ⟨25, c43, [.tmp 2]⟩

def TA : Nat → Option SFun
  | 3 => some F3
  | 4 => some F4
  | 7 => some F7
  | 9 => some F9
  | 10 => some F10
  | 11 => some F11
  | 12 => some F12
  | 13 => some F13
  | 14 => some F14
  | 15 => some F15
  | 16 => some F16
  | 17 => some F17
  | 18 => some F18
  | 19 => some F19
  | 20 => some F20
  | 21 => some F21
  | 22 => some F22
  | 23 => some F23
  | 24 => some F24
  | 25 => some F25
  | 26 => some F26
  | 27 => some F27
  | 28 => some F28
  | 29 => some F29
  | 30 => some F30
  | 33 => some F33
  | 34 => some F34
  | 35 => some F35
  | 36 => some F36
  | 37 => some F37
  | 38 => some F38
  | 39 => some F39
  | 40 => some F40
  | 41 => some F41
  | 42 => some F42
  | 43 => some F43
  | _ => none
def mdA : Nat → Mode
  | 3 => (.z 0)
  | 4 => (.z 0)
  | 7 => (.z 0)
  | 9 => (.z 0)
  | 10 => (.z 0)
  | 11 => (.z 0)
  | 12 => (.z 0)
  | 13 => (.z 0)
  | 14 => (.z 0)
  | 15 => (.z 0)
  | 16 => (.z 0)
  | 17 => (.z 0)
  | 18 => (.z 0)
  | 19 => (.z 0)
  | 20 => (.z 0)
  | 21 => (.z 0)
  | 22 => (.z 0)
  | 23 => (.z 0)
  | 24 => (.z 0)
  | 25 => (.z 0)
  | 26 => (.z 0)
  | 27 => (.z 0)
  | 28 => (.z 0)
  | 29 => (.z 0)
  | 30 => (.z 0)
  | 33 => (.z 0)
  | 34 => (.z 0)
  | 36 => (.z 0)
  | 37 => (.z 0)
  | 38 => (.z 0)
  | 39 => (.z 0)
  | 40 => (.z 0)
  | 41 => (.z 0)
  | 42 => (.z 0)
  | 43 => (.z 0)
  | _ => .q
def q3 : Nat → List (List Nat) × List (Nat × Nat)
  | 1 => ([[], [0], [], [0, 1, 2], [], [], [0, 1, 2, 3, 4, 5], [0, 1, 2, 3, 4, 5, 6]], [])
  | 2 => ([[], [], [0, 1], [0, 1, 2], [], [], [0, 1, 2, 3, 4, 5], [0, 1, 2, 3, 4, 5, 6], [0, 1, 2, 3, 4, 5, 6, 7], [0, 1, 2, 3, 4, 5, 6, 7, 8], [0, 1, 2, 3, 4, 5, 6, 7, 8], [0, 1, 2, 3, 4, 5, 6, 7, 8, 9, 10], [0, 1, 2, 3, 4, 5, 6, 7, 8, 9, 10, 11], [0, 1, 2, 3, 4, 5, 6, 7, 8], [0, 1, 2, 3, 4, 5, 6, 7, 8], [0, 1, 2, 3, 4, 5, 6, 7, 8, 9, 10, 11, 12, 13, 14], [0, 1, 2, 3, 4, 5, 6, 7, 8, 9, 10, 11, 12, 13, 14, 15], [0, 1, 2, 3, 4, 5, 6, 7, 8, 9, 10, 11, 12, 13, 14, 15, 16], [0, 1, 2, 3, 4, 5, 6, 7, 8, 9, 10, 11, 12, 13, 14, 15, 16, 17], [0, 1, 2, 3, 4, 5, 6, 7, 8, 9, 10, 11, 12, 13, 14, 15, 16, 17, 18], [0, 1, 2, 3, 4, 5, 6, 7, 8, 9, 10, 11, 12, 13, 14, 15, 16, 17, 18, 19], [0, 1, 2, 3, 4, 5, 6, 7, 8, 9, 10, 11, 12, 13, 14, 15, 16, 17, 18, 19, 20], [0, 1, 2, 3, 4, 5, 6, 7, 8, 9, 10, 11, 12, 13, 14, 15, 16, 17, 18], [0, 1, 2, 3, 4, 5, 6, 7, 8, 9, 10, 11, 12, 13, 14, 15, 16, 17, 18, 19, 20, 21, 22], [0, 1, 2, 3, 4, 5, 6, 7, 8, 9, 10, 11, 12, 13, 14, 15, 16, 17, 18, 19, 20, 21, 22, 23], [0, 1, 2, 3, 4, 5, 6, 7, 8, 9, 10, 11, 12, 13, 14, 15, 16, 17, 18, 19, 20, 21, 22, 23, 24], [0, 1, 2, 3, 4, 5, 6, 7, 8, 9, 10, 11, 12, 13, 14, 15, 16, 17, 18, 19, 20, 21, 22, 23, 24, 25], [0, 1, 2, 3, 4, 5, 6, 7, 8, 9, 10, 11, 12, 13, 14, 15, 16, 17, 18, 19, 20, 21, 22, 23, 24, 25, 26], [0, 1, 2, 3, 4, 5, 6, 7, 8, 9, 10, 11, 12, 13, 14, 15, 16, 17, 18, 19, 20, 21, 22, 23, 24, 25, 26, 27], [0, 1, 2, 3, 4, 5, 6, 7, 8, 9, 10, 11, 12, 13, 14, 15, 16, 17, 18, 19, 20, 21, 22, 23, 24, 25, 26, 27, 28]], [])
  | _ => ([], [])
theorem ok3 : slimF Try.prog 0 mdA q3 Try.f3 = some F3 := by kernel_rfl
def q4 : Nat → List (List Nat) × List (Nat × Nat)
  | _ => ([], [])
theorem ok4 : slimF Try.prog 0 mdA q4 Try.f4 = some F4 := by kernel_rfl
def q7 : Nat → List (List Nat) × List (Nat × Nat)
  | 1 => ([[], [0], [], [0, 1, 2], [], [], [0, 1, 2, 3, 4, 5], [0, 1, 2, 3, 4, 5, 6]], [])
  | 13 => ([[], [0], [0, 1], [0, 1, 2], [0, 1], [0, 1, 2, 3, 4], [0, 1, 2, 3, 4, 5], [0, 1, 2, 3, 4, 5, 6], [0, 1, 2, 3, 4, 5, 6, 7], [0, 1, 2, 3, 4, 5, 6, 7, 8], [0, 1, 2, 3, 4, 5, 6, 7, 8, 9], [0, 1, 2, 3, 4, 5, 6, 7, 8, 9, 10], [0, 1, 2, 3, 4, 5, 6, 7, 8, 9, 10, 11], [0, 1, 2, 3, 4, 5, 6, 7, 8, 9, 10, 11, 12], [0, 1, 2, 3, 4, 5, 6, 7, 8, 9, 10, 11, 12, 13], [0, 1, 2, 3, 4, 5, 6, 7, 8, 9, 10, 11, 12, 13, 14], [0, 1, 2, 3, 4, 5, 6, 7, 8, 9, 10, 11, 12, 13, 14, 15], [0, 1, 2, 3, 4, 5, 6, 7, 8, 9, 10, 11, 12, 13, 14, 15, 16], [0, 1, 2, 3, 4, 5, 6, 7, 8, 9, 10, 11, 12, 13], [0, 1, 2, 3, 4, 5, 6, 7, 8, 9, 10, 11, 12, 13, 14, 15, 16, 17, 18], [0, 1, 2, 3, 4, 5, 6, 7, 8, 9, 10, 11, 12, 13, 14, 15, 16, 17, 18, 19], [0, 1, 2, 3, 4, 5, 6, 7, 8, 9, 10, 11, 12, 13, 14, 15, 16, 17, 18, 19, 20], [0, 1, 2, 3, 4, 5, 6, 7, 8, 9, 10, 11, 12, 13, 14, 15, 16, 17, 18, 19, 20, 21]], [])
  | _ => ([], [])
theorem ok7 : slimF Try.prog 0 mdA q7 Try.f7 = some F7 := by kernel_rfl
def q9 : Nat → List (List Nat) × List (Nat × Nat)
  | 4 => ([[], [0], [], [0, 1, 2], [], [4], [0, 1, 2, 3, 4, 5], [0, 1, 2, 3, 4, 5, 6], [0, 1, 2, 3, 4, 5, 6, 7], [0, 1, 2, 3, 4, 5, 6, 7, 8], [0, 1, 2, 3, 4, 5, 6, 7, 8, 9], [0, 1, 2, 3, 4, 5, 6, 7, 8, 9, 10]], [])
  | _ => ([], [])
theorem ok9 : slimF Try.prog 0 mdA q9 Try.f9 = some F9 := by kernel_rfl
def q10 : Nat → List (List Nat) × List (Nat × Nat)
  | _ => ([], [])
theorem ok10 : slimF Try.prog 0 mdA q10 Try.f10 = some F10 := by kernel_rfl
def q11 : Nat → List (List Nat) × List (Nat × Nat)
  | _ => ([], [])
theorem ok11 : slimF Try.prog 0 mdA q11 Try.f11 = some F11 := by kernel_rfl
def q12 : Nat → List (List Nat) × List (Nat × Nat)
  | _ => ([], [])
theorem ok12 : slimF Try.prog 0 mdA q12 Try.f12 = some F12 := by kernel_rfl
def q13 : Nat → List (List Nat) × List (Nat × Nat)
  | _ => ([], [])
theorem ok13 : slimF Try.prog 0 mdA q13 Try.f13 = some F13 := by kernel_rfl
def q14 : Nat → List (List Nat) × List (Nat × Nat)
  | 1 => ([[], [], [1], [0, 1, 2], [0, 1, 2, 3]], [])
  | _ => ([], [])
theorem ok14 : slimF Try.prog 0 mdA q14 Try.f14 = some F14 := by kernel_rfl
def q15 : Nat → List (List Nat) × List (Nat × Nat)
  | _ => ([], [])
theorem ok15 : slimF Try.prog 0 mdA q15 Try.f15 = some F15 := by kernel_rfl
def q16 : Nat → List (List Nat) × List (Nat × Nat)
  | _ => ([], [])
theorem ok16 : slimF Try.prog 0 mdA q16 Try.f16 = some F16 := by kernel_rfl
def q17 : Nat → List (List Nat) × List (Nat × Nat)
  | _ => ([], [])
theorem ok17 : slimF Try.prog 0 mdA q17 Try.f17 = some F17 := by kernel_rfl
def q18 : Nat → List (List Nat) × List (Nat × Nat)
  | _ => ([], [])
theorem ok18 : slimF Try.prog 0 mdA q18 Try.f18 = some F18 := by kernel_rfl
def q19 : Nat → List (List Nat) × List (Nat × Nat)
  | _ => ([], [])
theorem ok19 : slimF Try.prog 0 mdA q19 Try.f19 = some F19 := by kernel_rfl
def q20 : Nat → List (List Nat) × List (Nat × Nat)
  | _ => ([], [])
theorem ok20 : slimF Try.prog 0 mdA q20 Try.f20 = some F20 := by kernel_rfl
def q21 : Nat → List (List Nat) × List (Nat × Nat)
  | _ => ([], [])
theorem ok21 : slimF Try.prog 0 mdA q21 Try.f21 = some F21 := by kernel_rfl
def q22 : Nat → List (List Nat) × List (Nat × Nat)
  | _ => ([], [])
theorem ok22 : slimF Try.prog 0 mdA q22 Try.f22 = some F22 := by kernel_rfl
def q23 : Nat → List (List Nat) × List (Nat × Nat)
  | 1 => ([[], [0], [], [2], [0, 1, 2, 3], [], [5], [], [7], [0, 1, 2, 3, 4, 5, 6, 7, 8], [0, 1, 2, 3, 4, 5, 6, 7, 8, 9], [0, 1, 2, 3, 4, 5, 6, 7, 8, 9, 10], [0, 1, 2, 3, 4, 5, 6, 7, 8, 9, 10, 11]], [])
  | _ => ([], [])
theorem ok23 : slimF Try.prog 0 mdA q23 Try.f23 = some F23 := by kernel_rfl
def q24 : Nat → List (List Nat) × List (Nat × Nat)
  | 2 => ([[], [], [1], [0, 1, 2]], [])
  | _ => ([], [])
theorem ok24 : slimF Try.prog 0 mdA q24 Try.f24 = some F24 := by kernel_rfl
def q25 : Nat → List (List Nat) × List (Nat × Nat)
  | 6 => ([[], [0], [0, 1], [], [3], [3, 4], [0, 1, 2, 3, 4, 5]], [])
  | _ => ([], [])
theorem ok25 : slimF Try.prog 0 mdA q25 Try.f25 = some F25 := by kernel_rfl
def q26 : Nat → List (List Nat) × List (Nat × Nat)
  | _ => ([], [])
theorem ok26 : slimF Try.prog 0 mdA q26 Try.f26 = some F26 := by kernel_rfl
def q27 : Nat → List (List Nat) × List (Nat × Nat)
  | 10 => ([[], [], [0, 1], [0, 1, 2]], [])
  | _ => ([], [])
theorem ok27 : slimF Try.prog 0 mdA q27 Try.f27 = some F27 := by kernel_rfl
def q28 : Nat → List (List Nat) × List (Nat × Nat)
  | 7 => ([[], [0], [], [0, 1, 2], [], [4], [], [4, 5, 6], [], [8], [8, 9], [], [11], [8, 9, 10, 11, 12], [4, 5, 6, 7, 8, 9, 10, 11, 12, 13], [0, 1, 2, 3, 4, 5, 6, 7, 8, 9, 10, 11, 12, 13, 14], [0, 1, 2, 3, 4, 5, 6, 7, 8, 9, 10, 11, 12, 13, 14, 15]], [])
  | _ => ([], [])
theorem ok28 : slimF Try.prog 0 mdA q28 Try.f28 = some F28 := by kernel_rfl
def q29 : Nat → List (List Nat) × List (Nat × Nat)
  | _ => ([], [])
theorem ok29 : slimF Try.prog 0 mdA q29 Try.f29 = some F29 := by kernel_rfl
def q30 : Nat → List (List Nat) × List (Nat × Nat)
  | _ => ([], [])
theorem ok30 : slimF Try.prog 0 mdA q30 Try.f30 = some F30 := by kernel_rfl
def q33 : Nat → List (List Nat) × List (Nat × Nat)
  | _ => ([], [])
theorem ok33 : slimF Try.prog 0 mdA q33 Try.f33 = some F33 := by kernel_rfl
def q34 : Nat → List (List Nat) × List (Nat × Nat)
  | _ => ([], [])
theorem ok34 : slimF Try.prog 0 mdA q34 Try.f34 = some F34 := by kernel_rfl
def q35 : Nat → List (List Nat) × List (Nat × Nat)
  | _ => ([], [])
theorem ok35 : slimF Try.prog 0 mdA q35 Try.f35 = some F35 := by kernel_rfl
def q36 : Nat → List (List Nat) × List (Nat × Nat)
  | _ => ([], [])
theorem ok36 : slimF Try.prog 0 mdA q36 Try.f36 = some F36 := by kernel_rfl
def q37 : Nat → List (List Nat) × List (Nat × Nat)
  | _ => ([], [])
theorem ok37 : slimF Try.prog 0 mdA q37 Try.f37 = some F37 := by kernel_rfl
def q38 : Nat → List (List Nat) × List (Nat × Nat)
  | _ => ([], [])
theorem ok38 : slimF Try.prog 0 mdA q38 Try.f38 = some F38 := by kernel_rfl
def q39 : Nat → List (List Nat) × List (Nat × Nat)
  | 6 => ([[], [], [0, 1], [], [], [3, 4], [0, 1, 2], [0, 1, 2, 3, 4, 5, 6]], [])
  | _ => ([], [])
theorem ok39 : slimF Try.prog 0 mdA q39 Try.f39 = some F39 := by kernel_rfl
def q40 : Nat → List (List Nat) × List (Nat × Nat)
  | _ => ([], [])
theorem ok40 : slimF Try.prog 0 mdA q40 Try.f40 = some F40 := by kernel_rfl
def q41 : Nat → List (List Nat) × List (Nat × Nat)
  | _ => ([], [])
theorem ok41 : slimF Try.prog 0 mdA q41 Try.f41 = some F41 := by kernel_rfl
def q42 : Nat → List (List Nat) × List (Nat × Nat)
  | _ => ([], [])
theorem ok42 : slimF Try.prog 0 mdA q42 Try.f42 = some F42 := by kernel_rfl
def q43 : Nat → List (List Nat) × List (Nat × Nat)
  | _ => ([], [])
theorem ok43 : slimF Try.prog 0 mdA q43 Try.f43 = some F43 := by kernel_rfl
def qA : Nat → Nat → List (List Nat) × List (Nat × Nat)
  | 3 => q3
  | 4 => q4
  | 7 => q7
  | 9 => q9
  | 10 => q10
  | 11 => q11
  | 12 => q12
  | 13 => q13
  | 14 => q14
  | 15 => q15
  | 16 => q16
  | 17 => q17
  | 18 => q18
  | 19 => q19
  | 20 => q20
  | 21 => q21
  | 22 => q22
  | 23 => q23
  | 24 => q24
  | 25 => q25
  | 26 => q26
  | 27 => q27
  | 28 => q28
  | 29 => q29
  | 30 => q30
  | 33 => q33
  | 34 => q34
  | 35 => q35
  | 36 => q36
  | 37 => q37
  | 38 => q38
  | 39 => q39
  | 40 => q40
  | 41 => q41
  | 42 => q42
  | 43 => q43
  | _ => fun _ => ([], [])
theorem TA_ok : ∀ f sf, TA f = some sf → ∃ fn, Try.prog.funcs[f]? = some fn ∧ slimF Try.prog 0 mdA (qA f) fn = some sf := by
  intro f sf h
  unfold TA at h
  split at h
  · cases h; exact ⟨Try.f3, Try.func3, ok3⟩
  · cases h; exact ⟨Try.f4, Try.func4, ok4⟩
  · cases h; exact ⟨Try.f7, Try.func7, ok7⟩
  · cases h; exact ⟨Try.f9, Try.func9, ok9⟩
  · cases h; exact ⟨Try.f10, Try.func10, ok10⟩
  · cases h; exact ⟨Try.f11, Try.func11, ok11⟩
  · cases h; exact ⟨Try.f12, Try.func12, ok12⟩
  · cases h; exact ⟨Try.f13, Try.func13, ok13⟩
  · cases h; exact ⟨Try.f14, Try.func14, ok14⟩
  · cases h; exact ⟨Try.f15, Try.func15, ok15⟩
  · cases h; exact ⟨Try.f16, Try.func16, ok16⟩
  · cases h; exact ⟨Try.f17, Try.func17, ok17⟩
  · cases h; exact ⟨Try.f18, Try.func18, ok18⟩
  · cases h; exact ⟨Try.f19, Try.func19, ok19⟩
  · cases h; exact ⟨Try.f20, Try.func20, ok20⟩
  · cases h; exact ⟨Try.f21, Try.func21, ok21⟩
  · cases h; exact ⟨Try.f22, Try.func22, ok22⟩
  · cases h; exact ⟨Try.f23, Try.func23, ok23⟩
  · cases h; exact ⟨Try.f24, Try.func24, ok24⟩
  · cases h; exact ⟨Try.f25, Try.func25, ok25⟩
  · cases h; exact ⟨Try.f26, Try.func26, ok26⟩
  · cases h; exact ⟨Try.f27, Try.func27, ok27⟩
  · cases h; exact ⟨Try.f28, Try.func28, ok28⟩
  · cases h; exact ⟨Try.f29, Try.func29, ok29⟩
  · cases h; exact ⟨Try.f30, Try.func30, ok30⟩
  · cases h; exact ⟨Try.f33, Try.func33, ok33⟩
  · cases h; exact ⟨Try.f34, Try.func34, ok34⟩
  · cases h; exact ⟨Try.f35, Try.func35, ok35⟩
  · cases h; exact ⟨Try.f36, Try.func36, ok36⟩
  · cases h; exact ⟨Try.f37, Try.func37, ok37⟩
  · cases h; exact ⟨Try.f38, Try.func38, ok38⟩
  · cases h; exact ⟨Try.f39, Try.func39, ok39⟩
  · cases h; exact ⟨Try.f40, Try.func40, ok40⟩
  · cases h; exact ⟨Try.f41, Try.func41, ok41⟩
  · cases h; exact ⟨Try.f42, Try.func42, ok42⟩
  · cases h; exact ⟨Try.f43, Try.func43, ok43⟩
  · cases h
end Go.Proofs.Ytjgkommhdodghaa.Sy
